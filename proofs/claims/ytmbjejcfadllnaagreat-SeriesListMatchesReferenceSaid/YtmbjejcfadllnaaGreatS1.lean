/-
  ajK the oI jQ and the nV answer, for all arguments of their kind, in the small machine: part 1.
-/
import Derived.Test.YtmbjejcfadllnaaGreatTabB
import Derived.Test.YtmbjejcfadllnaaGreatK5
import Derived.Test.YtmbjejcfadllnaaGreatK4
import Derived.KernelRfl
open Option renaming some → ab,none → ae
open Bool renaming true → ag,false → ah
open Go.IntKind renaming wrap → ai
open List renaming getElem_append → avA, getElem_map → auT, map_cons → anc, length_append → at7, length_singleton → auX, length_map → aur, mem_append → at9, mem_cons → aui, mem_filter → au8, pairwise_append → auB, pairwise_cons → auw, length_cons → aup, mem_of_mem_take → au3, pairwise_singleton → auA, length_pos_iff → auF, take_append_drop → auM, take_length → aul, drop_eq_getElem_cons → at5, mem_cons_self → at2, mem_cons_of_mem → aub, take_succ_eq_append_getElem → at0, ext_getElem → avo, getD_eq_getElem?_getD → aus, getElem?_eq_getElem → AT, getElem_of_mem → at3, getElem_mem → IS, pairwise_iff_getElem → auc, all_eq_true → at4, append_assoc → auC, getElem?_append_left → AI, getLast?_eq_some_iff → avc, getElem?_append_right → at1, map_nil → atN, mem_map → auy, map_drop → avv, getElem?_set_self → OF, getElem?_set_ne → By, take_of_length_le → at6, getElem?_eq_some_iff → BY, getElem?_cons_zero → auS, append_nil → auQ
open Bool renaming false_eq_true → atY
open Nat renaming le_refl → aft, eq_of_beq_eq_true → au2, le_trans → aua, zero_add → auJ, eq_zero_or_pos → auv, le_of_ble_eq_true → auL
open Int renaming toNat_natCast → aug, emod_nonneg → aum, emod_lt_of_pos → auq, le_refl → au0
open Option renaming bind_some → auf
set_option linter.unusedVariables false
set_option linter.constructorNameAsVariable false
set_option linter.unusedSimpArgs false
set_option linter.unusedSectionVars false
set_option linter.unnecessarySimpa false
set_option maxRecDepth 100000
set_option maxHeartbeats 2000000
namespace Go.Proofs.YtmbjejcfadllnaaGreat
open Go Km
theorem aa6{a b:Int}(h:0≤a)(g:0<b)(d:a≤9223372036854775807):bV .quo (vi a) (vi b)=ab (vi (a / b)):=by
 rw [s_ (by omega),Int.tdiv_eq_ediv_of_nonneg h,wrap64 (Int.le_trans (by omega) (Int.ediv_nonneg h (by omega))) (Int.le_trans (Int.ediv_le_self _ h) d)]
theorem ke{a b:Int}(h:0≤a)(d:0<b):bV .rem (vi a) (vi b)=ab (vi (a % b)):=by
 rw [ov (by omega),Int.tmod_eq_emod_of_nonneg h]
theorem qm(a:Int):bB tab.get 93 [vi a]=Eq (vb ah):=(show Kf tab.get 93 [vi a] (vb ah) by
 refine fL rfl rfl fun H Q b=>?_;apply aj;simp;apply aj;simp;refine aE (b _ _ ?_);simp).eq
def fS(a b:Int):Int:=if a<b then -1 else if b<a then 1 else 0
theorem DG(a b:Int):Kf tab.get 54 [vi a,vi b] (vi (fS a b)):=by
 refine fL rfl rfl fun H Q g=>?_;apply aj;simp;apply aj;simp [qm];apply aj;simp [qm];apply aq;apply aj;simp;refine aW (by simp) ?_;apply aq;apply aj;simp;refine aW (by simp) ?_;apply aq;apply aj;simp;by_cases h:a<b
 ·refine ak (by simp [h]) ?_;apply aj;simp;refine aE (g _ _ ?_);simp [fS,h]
 refine aW (by simp [h]) ?_;apply aq;apply aj;simp;by_cases d:b<a
 ·refine ak (by simp [d]) ?_;apply aj;simp;refine aE (g _ _ ?_);simp [fS,h,d]
 refine aW (by simp [d]) ?_;apply aj;simp;refine aE (g _ _ ?_);simp [fS,h,d]
theorem lV(a b:Int):bB tab.get 54 [vi a,vi b]=Eq (vi (fS a b)):=(DG a b).eq
theorem nw{a b:Int}:fS a b<0↔a<b:=by unfold fS;split<;>(try split)<;>omega
theorem ow{a b:Int}:fS a b=0↔a=b:=by unfold fS;split<;>(try split)<;>omega
structure bA where
 at_:Int
 off:Int
def bA.row(x:bA):List FC:=[fi x.at_,fi x.off]
def aQ(l:List bA):List (List FC):=l.map bA.row
@[simp] theorem mE (l:List bA):(aQ l).length=l.length:=by simp [aQ]
theorem cD(l:List bA):bO 2 (aQ l):=bO.map fun _=>rfl
structure ew where
 mo:Int
 wk:Int
 wd:Int
 mi:Int
 off:Int
def ew.row(x:ew):List FC:=[fi x.mo,fi x.wk,fi x.wd,fi x.mi,fi x.off]
def bT(l:List ew):List (List FC):=l.map ew.row
@[simp] theorem amC (l:List ew):(bT l).length=l.length:=by simp [bT]
theorem jo(l:List ew):bO 5 (bT l):=bO.map fun _=>rfl
theorem si{l:List ew}{j:Nat}(b:j<l.length):(bT l)[j]?=ab l[j].row:=by simp [bT,b]
theorem zU(m:Int):unV .neg (.c (.f (.int .i64 m)))=ab (vi (ai .i64 (0-m))):=rfl
theorem Oz(n m:Int)(d:0≤m)(g:m≤4611686018427387904):bB tab.get 61 [vi n,vi m]=Eq (vb (decide (-m≤n)&&decide (n≤m))):=bB.eq (by
 refine bI rfl rfl fun Q b=>?_;apply aj;simp;by_cases h:-m≤n
 ·apply aj;simp [zU,aN (n:=-m),h];refine aE (b _ _ ?_);simp [h]
 ·apply aj;simp [zU,aN (n:=-m),h];refine aE (b _ _ ?_);simp [h])
structure bF where
 k:Int
 eo:Int
 l:Int
 r:Int
 n:Int
 m:Int
 li:List Int
def dN(k:Int):Nat:=if 8≤k∧k≤10∨k=17 then 2 else if 11≤k∧k≤16 then 1 else 0
structure MX(l:List Int)(lo hi:Int)(zero:Bool):Prop where
 ne:l≠[]
 pw:l.Pairwise (· < ·)
 bd:∀ x ∈ l,lo≤x∧x≤hi∧(zero=ah→x≠0)
def dg(k b l n m:Int)(li:List Int):Prop:=
 (k=1∧b=0∧li=[]∧1≤n∧n≤9∧0≤m∧m≤11) ∨
 (k=2∧0≤b∧b≤1∧li=[]∧1≤n∧n≤4∧0≤m∧m<n) ∨
 (k=3∧0≤b∧b≤1∧MX li 1 4 ag∧n=0∧m=0) ∨
 (k=4∧0≤b∧b≤1∧MX li (-3) 6 ah∧n=0∧m=0) ∨
 (k=5∧b=0∧MX li 0 6 ag∧n=0∧m=0) ∨
 (k=6∧0≤b∧b≤1∧MX li 1 5 ag∧n=0∧m=0) ∨
 (k=7∧0≤b∧b≤1∧li=[]∧(n=1∨n=2∨n=3∨-3≤n∧n≤-1)∧0≤m∧m≤6∧0≤l∧l≤1) ∨
 ((k=8∨k=9∨k=10)∧b=0∧li=[]∧n=0∧m=0) ∨
 (k=11∧b=0∧li=[]∧-11≤n∧n≤11∧m=0) ∨
 ((k=12∨k=13)∧b=0∧li=[]∧0≤n∧n≤1099511627776∧m=0) ∨
 ((k=14∨k=15)∧b=0∧MX li 0 60 ag∧n=0∧m=0) ∨
 (k=16∧0≤b∧b≤1∧MX li (-3) 4 ah∧n=0∧0≤m∧m≤1) ∨
 (k=17∧b=0∧li=[]∧1≤n∧n≤3∧m=0)
def bF.OK(x:bF):Prop:=x.li.length≤61∧dg x.k x.eo x.l x.n x.m x.li
def bF.shift(d:Nat)(x:bF):bF:=⟨x.k,x.eo,if 1≤dN x.k then x.l+d else x.l,if dN x.k=2 then x.r+d else x.r,x.n,x.m,x.li⟩
inductive Good:List bF→Prop
 | leaf {x:bF}:x.OK→dN x.k=0→(x.k≠7→x.l=0)→x.r=0→Good [x]
 | un {a:List bF} {x:bF}:Good a→x.OK→dN x.k=1→x.l=(a.length:Int)-1→x.r=0→Good (a++[x])
 | bin {a b:List bF} {x:bF}:Good a→Good b→x.OK→dN x.k=2→x.l=(a.length:Int)-1→x.r=(a.length:Int)+b.length-1→Good (a++b.map (bF.shift a.length)++[x])
theorem Good.pos{r:List bF}(h:Good r):0<r.length:=by cases h<;>simp<;>omega
theorem oG(k:Int):dN k≤2:=by unfold dN;split<;>(try split)<;>omega
structure lT(i:Nat)(x:bF):Prop where
 ok:x.OK
 l1:1≤dN x.k→0≤x.l∧x.l<i
 l0:dN x.k=0→x.k≠7→x.l=0
 r2:dN x.k=2→0≤x.r∧x.r<i
 r0:dN x.k≤1→x.r=0
theorem lT.shift{i:Nat}{x:bF}(h:lT i x)(d:Nat):lT (d+i) (x.shift d):=by
 have ok:=h.ok;refine⟨⟨ok.1,?_⟩,fun j=>?_,fun j b=>?_,fun j=>?_,fun j=>?_⟩
 ·have b:=ok.2;unfold bF.shift;simp only;split
  ·unfold dg at b ⊢;rename_i g;rcases b with b | b | b | b | b | b | b | b
   ·exact .inl b
   ·exact .inr (.inl b)
   ·exact .inr (.inr (.inl b))
   ·exact .inr (.inr (.inr (.inl b)))
   ·exact .inr (.inr (.inr (.inr (.inl b))))
   ·exact .inr (.inr (.inr (.inr (.inr (.inl b)))))
   ·exfalso;rw [b.1]at g;simp [dN]at g
   ·exact .inr (.inr (.inr (.inr (.inr (.inr (.inr b))))))
  ·exact b
 ·have:=h.l1 j;unfold bF.shift;simp only [bg (show 1≤dN x.k from j)];omega
 ·have g:dN x.k=0:=j;unfold bF.shift;simp only [g,show¬ 1≤0 by decide,if_false];exact h.l0 g b
 ·have g:dN x.k=2:=j;have:=h.r2 g;unfold bF.shift;simp only [g,if_true];omega
 ·have g:dN x.k≤1:=j;unfold bF.shift;simp only [aY (show¬ dN x.k=2 by omega)];exact h.r0 g
theorem Good.at_{r:List bF}(h:Good r):∀(i:Nat) (hi:i<r.length),lT i r[i]:=by
 induction h with
 | leaf ok o l r0=>
  intro i hi;simp at hi;subst hi;exact⟨ok,fun h=>by simp [o]at h,fun _=>l,fun h=>by simp [o]at h,fun _=>r0⟩
 | @un a x g ok o l r0 v=>
  intro i hi;have u:=g.pos;rw [avA];split
  ·exact v i _
  ·have:i=a.length:=by simp at hi;omega
   subst this;simp;exact⟨ok,fun _=>by omega,fun h=>by omega,fun h=>by omega,fun _=>r0⟩
 | @bin a b x g s ok o l r j m=>
  intro i hi;have u:=g.pos;have z:=s.pos;rw [avA];split
  ·rename_i d;rw [avA];split
   ·exact j i _
   ·rename_i y;simp at d;rw [auT];have q:=(m (i-a.length) (by omega)).shift a.length;rwa [show a.length+(i-a.length)=i by omega]at q
  ·rename_i d;simp at hi d;have:i=a.length+b.length:=by omega
   subst this;simp;exact⟨ok,fun _=>by omega,fun h=>by omega,fun _=>by omega,fun h=>by omega⟩
def sY(x:bF)(k:Int):Nat:=(if 1≤dN x.k∧x.l=k then 1 else 0)+(if dN x.k=2∧x.r=k then 1 else 0)
def fz:List bF→Int→Nat
 | [],_=>0| x::l,k=>sY x k+fz l k
theorem jR(a b:List bF)(k:Int):fz (a++b) k=fz a k+fz b k:=by
 induction a with
 | nil=>simp [fz]| cons x a d=>simp only [List.cons_append,fz,d];omega
theorem ES(x:bF)(d:Nat)(k:Int):sY (x.shift d) k=sY x (k-d):=by
 unfold sY bF.shift;simp only;have h:=oG x.k;by_cases b:dN x.k=2
 ·simp only [b,show 1≤2 by decide,true_and,if_true]
  congr 1<;>(congr 1;rw [eq_iff_iff];omega)
 ·by_cases g:1≤dN x.k
  ·simp only [g,b,true_and,false_and,if_true,if_false]
   congr 1;congr 1;rw [eq_iff_iff];omega
  ·simp only [g,b,false_and,if_false]
theorem Cu(b:List bF)(d:Nat)(k:Int):fz (b.map (bF.shift d)) k=fz b (k-d):=by
 induction b with
 | nil=>rfl| cons x b g=>simp only [anc,fz,g,ES]
theorem Good.as3{r:List bF}(h:Good r):∀ k:Int,fz r k=if 0≤k∧k+1<r.length then 1 else 0:=by
 induction h with
 | leaf ok o l r0=>intro k;simp [fz,sY,o];omega
 | @un a x d ok o l r0 s=>
  intro k;have q:=d.pos;rw [jR,s];simp only [fz,sY,o,l,show 1≤1 by decide,show¬ 1=2 by decide,true_and,false_and,if_false,at7,auX];split<;>split<;>split<;>omega
 | @bin a b x d m ok o l r g j=>
  intro k;have q:=d.pos;have u:=m.pos;rw [jR,jR,Cu,g,j];simp only [fz,sY,o,l,r,show 1≤2 by decide,true_and,if_true,at7,auX,aur];split<;>split<;>split<;>split<;>split<;>omega
structure bz where
 day:Int
 drop:Bool
 to:Int
 mi:Int
 le:Int
deriving DecidableEq
def bz.row(m:bz):List FC:=[fi m.day,.bool m.drop,fi m.to,fi m.mi,fi m.le]
def bh(l:List bz):List (List FC):=l.map bz.row
@[simp] theorem agn (l:List bz):(bh l).length=l.length:=by simp [bh]
theorem df(l:List bz):bO 5 (bh l):=bO.map fun _=>rfl
theorem kE{l:List bz}{j:Nat}(b:j<l.length):(bh l)[j]?=ab l[j].row:=by simp [bh,b]
structure bz.OK(m:bz):Prop where
 day:0≤m.day∧m.day≤1099511627776
 dr:m.drop=ag→m.to=0∧m.mi=0∧m.le=0
 nd:m.drop=ah→0≤m.to∧m.to≤1099511627776∧0≤m.mi∧m.mi≤1439∧1≤m.le∧m.le≤10080
def pV(l:List bz):Prop:=l.Pairwise fun a b=>a.day<b.day
def Em(l:List bz)(m:bz):List bz:=l.filter (fun x=>decide (x.day<m.day))++m::l.filter (fun x=>decide (m.day<x.day))
theorem F4{l:List bz}{m x:bz}(h:x ∈ Em l m):x=m∨x ∈ l:=by
 simp only [Em,at9,aui,au8]at h;rcases h with h | h | h
 ·exact .inr h.1
 ·exact .inl h
 ·exact .inr h.1
theorem En{l:List bz}{m:bz}(h:pV l):pV (Em l m):=by
 unfold pV Em;rw [auB];refine⟨h.filter _,auw.2 ⟨fun x q=>?_,h.filter _⟩,fun a j b d=>?_⟩
 ·have:=(au8.1 q).2;simpa using this
 ·have g:a.day<m.day:=by simpa using (au8.1 j).2
  rcases aui.1 d with rfl | d
  ·exact g
  ·have s:m.day<b.day:=by simpa using (au8.1 d).2
   omega
theorem F3{l:List bz}{m:bz}(h:pV l):(Em l m).length≤l.length+1:=by
 unfold Em;simp only [at7,aup];have:∀ l:List bz,(l.filter (fun x=>decide (x.day<m.day))).length+(l.filter (fun x=>decide (m.day<x.day))).length≤l.length:=by
  intro l;induction l with
  | nil=>simp
  | cons x l g=>
   simp only [List.filter_cons];by_cases b:x.day<m.day
   ·simp only [b,decide_true,if_true,show¬ m.day<x.day by omega,decide_false,atY,if_false,aup];omega
   ·by_cases d:m.day<x.day
    ·simp only [b,d,decide_true,if_true,decide_false,atY,if_false,aup];omega
    ·simp only [b,d,decide_false,atY,if_false,aup];omega
 have:=this l;omega
def dL(l:List bz)(d:Int):Option bz:=l.find? fun x=>decide (x.day=d)
def fk(cR fold lo:Int)(l:List Int)(e b:Int):List Int:=
 if l=[]then(if cR=0 then []else if cR=1 then [lo-b]else [e])
 else if fold=0 then l.take 1 else if fold=1 then l.drop (l.length-1)else l
theorem aa1{cR fold lo:Int}{l:List Int}{e b a:Int}(d:l≠[])(h:a ∈ fk cR fold lo l e b):a ∈ l:=by
 unfold fk at h;rw [aY d]at h;split at h
 ·exact au3 h
 ·split at h
  ·exact List.mem_of_mem_drop h
  ·exact h
theorem ahk{cR fold lo:Int}{l:List Int}{e b:Int}(d:l.Pairwise (· < ·)):(fk cR fold lo l e b).Pairwise (· < ·):=by
 unfold fk;split
 ·split
  ·exact List.Pairwise.nil
  ·split<;>exact auA _ _
 ·split
  ·exact d.sublist (List.take_sublist _ _)
  ·split
   ·exact d.sublist (List.drop_sublist _ _)
   ·exact d
theorem Oh{cR fold lo:Int}{e b:Int}:(fk cR fold lo [] e b).length=if cR=0 then 0 else 1:=by
 unfold fk;rw [bg rfl];split
 ·rfl
 ·split<;>rfl
theorem aa0{cR fold lo:Int}{l:List Int}{e b:Int}(d:l≠[])(g:0≤fold∧fold≤2):(fk cR fold lo l e b).length=if fold=2 then l.length else 1:=by
 have:=auF.2 d;unfold fk;rw [aY d];split
 ·rw [aY (by omega),List.length_take];omega
 ·split
  ·rw [aY (by omega),List.length_drop];omega
  ·rw [bg (by omega)]
def total(st:List (List bF)):Nat:=(st.map List.length).sum
theorem fX(a b:List (List bF)):total (a++b)=total a+total b:=by simp [total]
theorem lQ(a:List bF):total [a]=a.length:=by simp [total]
structure cQ(st:List (List bF))(n:Nat):Prop where
 Nu:∀ r ∈ st,Good r
 tot:total st≤n
theorem cQ.nil:cQ [] 0:=⟨fun r h=>(by cases h),by simp [total]⟩
theorem cQ.take{st:List (List bF)}{n:Nat}(h:cQ st n)(k:Nat){d:Nat}(j:total (st.drop k)≥d):cQ (st.take k) (n-d):=by
 refine⟨fun r hr=>h.Nu r (au3 hr),?_⟩;have b:=h.tot;have g:total st=total (st.take k)+total (st.drop k):=by rw [←fX,auM]
 omega
theorem cQ.push{st:List (List bF)}{n m:Nat}(h:cQ st n){r:List bF}(hr:Good r)(d:n+r.length≤m):cQ (st++[r]) m:=by
 refine⟨fun x b=>?_,?_⟩
 ·rcases at9.1 b with b | b
  ·exact h.Nu x b
  ·simp at b;subst b;exact hr
 ·rw [fX,lQ];have:=h.tot;omega
theorem cQ.leaf{st:List (List bF)}{n:Nat}(h:cQ st n){r:List bF}(hr:Good r)(b:r.length=1):cQ (st.take st.length++[r]) (n+1):=by
 rw [aul];exact h.push hr (by omega)
theorem sK{st:List (List bF)}(h:0<st.length):total (st.drop (st.length-1))=(st[st.length-1]'(by omega)).length:=by
 rw [at5 (by omega),List.drop_of_length_le (by omega),lQ]
theorem Cr{st:List (List bF)}(h:2≤st.length):total (st.drop (st.length-2))=(st[st.length-2]'(by omega)).length+(st[st.length-1]'(by omega)).length:=by
 have e:st.length-2+1=st.length-1:=by omega
 rw [at5 (by omega),show st[st.length-2]::st.drop (st.length-2+1)=[st[st.length-2]]++st.drop (st.length-2+1) from rfl,fX,lQ,e,sK (by omega)]
theorem cQ.un{st:List (List bF)}{n:Nat}(h:cQ st n)(b:0<st.length){r:List bF}(hr:Good r)(m:r.length=(st[st.length-1]'(by omega)).length+1):cQ (st.take (st.length-1)++[r]) (n+1):=by
 have g:=sK b;have j:total st=total (st.take (st.length-1))+total (st.drop (st.length-1)):=by rw [←fX,auM]
 have l:=h.tot;exact(h.take (st.length-1) (d:=total (st.drop (st.length-1))) (aft _)).push hr (by omega)
theorem cQ.bin{st:List (List bF)}{n:Nat}(h:cQ st n)(b:2≤st.length){r:List bF}(hr:Good r)(m:r.length=(st[st.length-2]'(by omega)).length+(st[st.length-1]'(by omega)).length+1):cQ (st.take (st.length-2)++[r]) (n+1):=by
 have g:=Cr b;have j:total st=total (st.take (st.length-2))+total (st.drop (st.length-2)):=by rw [←fX,auM]
 have l:=h.tot;exact(h.take (st.length-2) (d:=total (st.drop (st.length-2))) (aft _)).push hr (by omega)
theorem cQ.count{st:List (List bF)}{n:Nat}(h:cQ st n):st.length≤n:=by
 have g:=h.tot;have:∀ st:List (List bF),(∀ r ∈ st,Good r)→st.length≤total st:=by
  intro st;induction st with
  | nil=>intro _;simp
  | cons r st d=>
   intro hg;have:=(hg r at2).pos;have:=d fun x b=>hg x (aub _ b);rw [show r::st=[r]++st from rfl,fX,lQ,at7,auX];omega
 have:=this st h.Nu;omega
theorem pE{st:List (List bF)}{i:Nat}(h:i<st.length):total (st.take (i+1))=total (st.take i)+st[i].length:=by
 rw [at0 h,fX,lQ]
theorem oZ(st:List (List bF))(i:Nat):total (st.take i)≤total st:=by
 have b:total st=total (st.take i)+total (st.drop i):=by rw [←fX,auM]
 omega
def va(k:Nat):Nat:=if 8≤k∧k≤10∨k=17 then 2 else if 11≤k∧k≤16 then 1 else 0
def mQ(k:Nat):Bool:=k=2||k=3||k=4||k=6||k=7||k=16
def Cg(k:Nat):Int:=if k=3 then 1 else if k=4 then -40 else if k=6 then 1 else if k=16 then -400 else 0
def Cf(k:Nat):Int:=if k=3 then 16 else if k=4 then 40 else if k=5 then 6 else if k=6 then 54 else if k=14∨k=15 then 1099511627776 else if k=16 then 400 else 0
theorem dg.k{k eo l n m:Int}{li:List Int}(h:dg k eo l n m li):1≤k∧k≤17:=by
 unfold dg at h;omega
def nm(lo hi:Int)(l:List Int):Prop:=if lo=0∧hi=0 then l=[]else l≠[]∧l.Pairwise (· < ·)∧∀ x ∈ l,lo≤x∧x≤hi∧(lo<0→x≠0)
theorem MX.lis{l:List Int}{lo hi b d:Int}{z:Bool}(h:MX l lo hi z)(s:b≤lo)(u:hi≤d)(g:b<0→z=ah)(j:¬ (b=0∧d=0)):nm b d l:=by
 unfold nm;rw [aY j];exact⟨h.ne,h.pw,fun x q=>by have:=h.bd x q;exact⟨by omega,by omega,fun m=>this.2.2 (g m)⟩⟩
theorem dg.lis{k eo l n m:Int}{li:List Int}(h:dg k eo l n m li):nm (Cg k.toNat) (Cf k.toNat) li:=by
 unfold dg at h;have nil:nm 0 0 []:=by unfold nm;simp
 rcases h with⟨rfl,h⟩ | ⟨rfl,h⟩ | ⟨rfl,h⟩ | ⟨rfl,h⟩ | ⟨rfl,h⟩ | ⟨rfl,h⟩ | ⟨rfl,h⟩ | ⟨b,h⟩ | ⟨rfl,h⟩ | ⟨b,h⟩ | ⟨b,h⟩ | ⟨rfl,h⟩ | ⟨rfl,h⟩
 ·rw [h.2.1];exact nil
 ·rw [h.2.2.1];exact nil
 ·exact h.2.2.1.lis (by decide) (by decide) (by decide) (by decide)
 ·exact h.2.2.1.lis (by decide) (by decide) (by decide) (by decide)
 ·exact h.2.1.lis (by decide) (by decide) (by decide) (by decide)
 ·exact h.2.2.1.lis (by decide) (by decide) (by decide) (by decide)
 ·rw [h.2.2.1];exact nil
 ·rw [h.2.1];rcases b with rfl | rfl | rfl<;>exact nil
 ·rw [h.2.1];exact nil
 ·rw [h.2.1];rcases b with rfl | rfl<;>exact nil
 ·rcases b with rfl | rfl
  ·exact h.2.1.lis (by decide) (by decide) (by decide) (by decide)
  ·exact h.2.1.lis (by decide) (by decide) (by decide) (by decide)
 ·exact h.2.2.1.lis (by decide) (by decide) (by decide) (by decide)
 ·rw [h.2.1];exact nil
def w9(k l n m:Int):Prop:=
 if k=1 then 1≤n∧n≤1099511627776∧0≤m∧m≤1099511627776
 else if k=2 then 1≤n∧n≤400∧0≤m∧m≤n-1
 else if k=7 then -60≤n∧n≤60∧n≠0∧0≤m∧m≤6∧0≤l∧l≤1
 else if k=11 then -1099511627776≤n∧n≤1099511627776∧m=0
 else if k=12∨k=13 then 0≤n∧n≤1099511627776∧m=0
 else if k=16 then n=0∧0≤m∧m≤1
 else if k=17 then 1≤n∧n≤400∧m=0
 else n=0∧m=0
theorem dg.num{k eo l n m:Int}{li:List Int}(h:dg k eo l n m li):w9 k l n m:=by
 unfold dg at h;unfold w9;rcases h with⟨rfl,h⟩ | ⟨rfl,h⟩ | ⟨rfl,h⟩ | ⟨rfl,h⟩ | ⟨rfl,h⟩ | ⟨rfl,h⟩ | ⟨rfl,h⟩ | ⟨b,h⟩ | ⟨rfl,h⟩ | ⟨b,h⟩ | ⟨b,h⟩ | ⟨rfl,h⟩ | ⟨rfl,h⟩
 ·simp;omega
 ·simp;omega
 ·simp;omega
 ·simp;omega
 ·simp;omega
 ·simp;omega
 ·simp;omega
 ·rcases b with rfl | rfl | rfl<;>simp<;>omega
 ·simp;omega
 ·rcases b with rfl | rfl<;>simp<;>omega
 ·rcases b with rfl | rfl<;>simp<;>omega
 ·simp;omega
 ·simp;omega
theorem dg.eo{k eo l n m:Int}{li:List Int}(h:dg k eo l n m li):0≤eo∧eo≤1∧(mQ k.toNat=ah→eo=0):=by
 unfold dg at h;rcases h with⟨rfl,h⟩ | ⟨rfl,h⟩ | ⟨rfl,h⟩ | ⟨rfl,h⟩ | ⟨rfl,h⟩ | ⟨rfl,h⟩ | ⟨rfl,h⟩ | ⟨b,h⟩ | ⟨rfl,h⟩ | ⟨b,h⟩ | ⟨b,h⟩ | ⟨rfl,h⟩ | ⟨rfl,h⟩
 all_goals first | exact⟨by omega,by omega,fun _=>by omega⟩ | exact⟨by omega,by omega,fun e=>by simp [mQ]at e⟩
theorem ti{k:Int}(h:1≤k):dN k=va k.toNat:=by
 unfold dN va;obtain⟨n,rfl⟩:∃ n:Nat,k=n:=⟨k.toNat,by omega⟩
 rw [aug];split<;>split<;>(try split)<;>(try split)<;>first | rfl | omega
def bM(r:List bF)(n:Nat):List Int:=(List.range n).map fun k:Nat=>(fz r (k:Int):Int)
@[simp] theorem am4 (r:List bF) (n:Nat):(bM r n).length=n:=by simp [bM]
theorem fu{r:List bF}{n k:Nat}(h:k<n):(bM r n)[k]'(by simpa using h)=fz r (k:Int):=by simp [bM]
theorem yd(n:Nat):bM [] n=List.replicate n 0:=by
 refine avo (by simp) fun k b d=>?_;rw [fu (by simpa using b)];simp [fz]
def nG(U:List Int)(k:Int):List Int:=U.set k.toNat (U.getD k.toNat 0+1)
@[simp] theorem aop (U:List Int) (k:Int):(nG U k).length=U.length:=by simp [nG]
theorem uw{U:List Int}{k:Int}(d:0≤k){j:Nat}(b:j<U.length):(nG U k)[j]'(by simpa using b)=U[j]+(if k=j then 1 else 0):=by
 simp only [nG,List.getElem_set];by_cases h:k.toNat=j
 ·subst h;rw [bg rfl,bg (by omega),aus,AT b];rfl
 ·rw [aY h,aY (by omega),Int.add_zero]
theorem EU{r:List bF}{x:bF}{n:Nat}(h:dN x.k=0):bM (r++[x]) n=bM r n:=by
 refine avo (by simp) fun k b d=>?_;rw [fu (by simpa using b),fu (by simpa using b),jR];simp [fz,sY,h]
theorem EV{r:List bF}{x:bF}{n:Nat}(h:dN x.k=1)(d:0≤x.l):bM (r++[x]) n=nG (bM r n) x.l:=by
 refine avo (by simp) fun k b g=>?_;rw [fu (by simpa using b),uw d (by simpa using b),fu (by simpa using b),jR];simp only [fz,sY,h,show 1≤1 by decide,show¬ 1=2 by decide,true_and,false_and,if_false];split<;>omega
theorem EW{r:List bF}{x:bF}{n:Nat}(h:dN x.k=2)(d:0≤x.l)(hr:0≤x.r):bM (r++[x]) n=nG (nG (bM r n) x.l) x.r:=by
 refine avo (by simp) fun k b g=>?_;rw [fu (by simpa using b),uw hr (by simpa using b),uw d (by simpa using b),fu (by simpa using b),jR];simp only [fz,sY,h,show 1≤2 by decide,true_and,if_true];split<;>split<;>omega
theorem Good.bM{r:List bF}(h:Good r):∀ x ∈ (bM r r.length).take (r.length-1),x=1:=by
 intro x d;obtain⟨k,b,rfl⟩:=at3 d;simp at b;rw [List.getElem_take,fu (by omega),h.as3 k,bg (by omega)];rfl
theorem Ct(r:List bF)(n k:Nat)(h:k<n):0≤(bM r n)[k]'(by simpa using h)∧(bM r n)[k]'(by simpa using h)≤2*r.length:=by
 rw [fu h];have:∀ r:List bF,fz r (k:Int)≤2*r.length:=by
  intro r;induction r with
  | nil=>simp [fz]
  | cons x r b=>
   have:sY x (k:Int)≤2:=by unfold sY;split<;>split<;>omega
   simp only [fz,aup];omega
 have:=this r;omega
structure fB where
 day:Int
 fr:Int
 to:Int
deriving DecidableEq
def fB.row(x:fB):List FC:=[fi x.day,fi x.fr,fi x.to]
def bD(l:List fB):List (List FC):=l.map fB.row
@[simp] theorem uB (l:List fB):(bD l).length=l.length:=by simp [bD]
theorem cU(l:List fB):bO 3 (bD l):=bO.map fun _=>rfl
theorem NA{l:List fB}{j:Nat}(b:j<l.length):(bD l)[j]?=ab l[j].row:=by simp [bD,b]
structure aU where
 d:bF
 tg:Tg
def zQ:ByteArray:=⟨#[]⟩
def aU.row(x:aU):List FC:=[fi x.d.k,fi x.d.eo,fi x.d.l,fi x.d.r,fi x.d.n,fi x.d.m,sl x.tg (ints x.d.li),.str zQ]
def aM(l:List aU):List (List FC):=l.map aU.row
@[simp] theorem qA (l:List aU):(aM l).length=l.length:=by simp [aM]
theorem eH(l:List aU):bO 8 (aM l):=bO.map fun _=>rfl
theorem nM{l:List aU}{j:Nat}(b:j<l.length):(aM l)[j]?=ab l[j].row:=by simp [aM,b]
@[simp] theorem agq (l:List aU):(aM l).isEmpty=l.isEmpty:=by cases l<;>rfl
abbrev et(l:List aU):List bF:=l.map aU.d
structure bW where
 rg:Tg
 ru:List aU
 mi:Int
 le:Int
 zo:ByteArray
 cR:Int
 fold:Int
 mg:Tg
 mv:List bz
def bW.row(s:bW):List FC:=[sl s.rg (aM s.ru),fi s.mi,fi s.le,.str s.zo,fi s.cR,fi s.fold,sl s.mg (bh s.mv)]
abbrev bW.v(s:bW):V:=.a (s.row.map .f)
structure bW.OK(s:bW):Prop where
 ru:Good (et s.ru)
 rl:s.ru.length≤64
 mi:0≤s.mi∧s.mi≤1439
 le:1≤s.le∧s.le≤10080
 zo:1≤s.zo.size∧s.zo.size≤32
 cR:0≤s.cR∧s.cR≤2
 fold:0≤s.fold∧s.fold≤2
 ml:s.mv.length≤64
 ms:pV s.mv
 mo:∀ m ∈ s.mv,m.OK
def bW.at_(s:bW)(d:Int):Int:=match dL s.mv d with
 | none=>d*1440+s.mi| some m=>m.to*1440+m.mi
def bW.uF(s:bW)(d:Int):Int:=match dL s.mv d with
 | none=>s.le| some m=>m.le
def bW.dropped(s:bW)(d:Int):Bool:=match dL s.mv d with
 | none=>ah| some m=>m.drop
theorem dE(n lo hi:Int):bB tab.get 158 [vi n,vi lo,vi hi]=Eq (vb (decide (lo≤n∧n≤hi))):=bB.eq (by
 refine bI rfl rfl fun Q b=>?_;apply aj;simp;apply aj;by_cases h:lo≤n
 ·simp [h];exact aE (b _ _ (by simp [h]))
 ·simp [h];exact aE (b _ _ (by simp [h])))
def iI(k:Nat):List FC:=[fi (va k),.bool (mQ k),fi (Cg k),fi (Cf k)]
def kh:List FC:=((List.range 19).map iI).flatten
theorem rZ:bB tab.get 111 []=Eq (.a (kh.map .f)):=eA (by kernel_rfl)
theorem NG(g:Tg)(l:List Int)(lo hi:Int)(h:nm lo hi l)(n:l.length≤9223372036854775807):bB tab.get 159 [.c (.f (sl g (ints l))),.a [.f (fi lo),.f (fi hi)]]=Eq (vb ag):=bB.eq (by
 refine bI rfl rfl fun Q a=>?_;apply aj;simp;refine aq (aj ?_);unfold nm at h;by_cases A:lo=0∧hi=0
 ·rw [bg A]at h;obtain⟨rfl,rfl⟩:=A;subst h;simp [z6];refine ak (by simp) ?_;apply aj;simp;exact aE (a _ _ (by simp))
 rw [aY A]at h;obtain⟨U,W,f⟩:=h;have L:(lo == 0&&hi == 0)=ah:=by
  rw [Bool.eq_false_iff];intro e;simp at e;exact A e
 simp [z6,L];refine aW (by simp) ?_;have z:=auF.2 U;refine aq (aj ?_);simp;refine fE l.length (fun j t H=>t.g 0=.c (.f (sl g (ints l)))∧t.g 13=.c (.f (sl g (ints l)))∧t.g 3=.c (.ptr 0 0 0)∧H[0]?=ab (.box [.f (fi lo),.f (fi hi)] 0)) n (by decide) (by decide) (by simp) (by simp) ⟨by simp,by simp,by simp,rfl⟩ ?_ ?_
 ·rintro j t H N ⟨u,b,q,B⟩ v m next
  obtain⟨b1,Y,Z⟩:=f _ (IS N);obtain⟨x,X⟩:=aP (l[j]);rw [←X]at b1 Y Z;refine az (aj ?_);simp [b,v,cE,N,ej];rw [←X];apply aj;have F:aV H ae (.c (.ptr 0 0 0))=ab (vi lo):=by simp [aV,B,aF,aK]
  have c:aV H ae (.c (.ptr 0 1 0))=ab (vi hi):=by simp [aV,B,aF,aK]
  have E:decide (lo≤x∧x≤hi)=ag:=decide_eq_true ⟨b1,Y⟩;simp [q,F,c,-av,dE,E];have s:∀ t:T,t.g 0=.c (.f (sl g (ints l)))→t.g 13=.c (.f (sl g (ints l)))→t.g 3=.c (.ptr 0 0 0)→t.g 15=vi j→t.g 14=vi l.length→t.g 48=vb ah→WP tab.get 159 ae [.code we,.inBlock 1,.code wg,.inLoop wc,.inBlock 0,.code wh] ⟨t,[],H⟩ Q:=by
   intro t u b q J I K;refine al K (aH ?_);exact aw (next _ _ ⟨by simp [u],by simp [b],by simp [q],B⟩ (by simp [J]) (by simp [I]))
  have y:x=0→¬ lo<0:=fun e h=>Z h e;by_cases O:j=0
  ·subst O;simp;by_cases d:x=0
   ·have:=y d;simp [d,q,F,-av,this];exact s _ (by simp [u]) (by simp [b]) (by simp [q]) (by simp [v]) (by simp [m]) (by simp)
   ·simp [d];exact s _ (by simp [u]) (by simp [b]) (by simp [q]) (by simp [v]) (by simp [m]) (by simp)
  ·have p:ai .i64 ((j:Int)-1)=((j-1:Nat):Int):=by rw [aN];omega
   have o:l[j-1]<x:=by rw [X];exact auc.1 W (j-1) j (by omega) N (by omega)
   have S:j-1<l.length:=by omega
   have M:∀ H,aL H 1 ae (.c (.f (sl g (ints l)))) (vi ((j-1:Nat):Int))=ab (.c (.f (.fp (ints l).flatten (j-1)))):=fun H=>by
    have:=cE (H:=H) (g:=g) (rows:=ints l) (sz:=1) (k:=.i64) (i:=((j-1:Nat):Int)) (by omega) (by simp;omega);simpa using this
   simp [show 0<j by omega,u,p,M,ej S,show¬ x≤l[j-1] by omega];by_cases d:x=0
   ·have:=y d;simp [d,q,F,-av,this];exact s _ (by simp [u]) (by simp [b]) (by simp [q]) (by simp [v]) (by simp [m]) (by simp)
   ·simp [d];exact s _ (by simp [u]) (by simp [b]) (by simp [q]) (by simp [v]) (by simp [m]) (by simp)
 ·rintro t H ⟨u,b,q,B⟩ v m;apply aj;simp [u,z];exact aE (a _ _ (by simp)))
theorem zm(x:aU)(h:w9 x.d.k x.d.l x.d.n x.d.m):bB tab.get 160 [.a (x.row.map .f)]=Eq (vb ag):=bB.eq (by
 obtain⟨⟨k,A,l,r,n,m,li⟩,tg⟩:=x;simp only [w9]at h;refine bI rfl rfl fun Q E=>?_;have b:∀ t H,t.g 2=vb ag→WP tab.get 160 ae [.code .ret,.inBlock 0,.code qW] ⟨t,[],H⟩ Q:=fun t H I=>aE (E _ _ (by simp [I]));apply aj;simp [aU.row];refine aq (aj ?_);simp;refine az (aj ?_);simp;by_cases v:k=1
 ·rw [bg v]at h;refine ak (by simp [v]) (aj ?_);simp [dE,h];exact b _ _ (by simp)
 rw [aY v]at h;refine al (by simp [v]) (aj ?_);simp;by_cases y:k=2
 ·rw [bg y]at h;refine ak (by simp [y]) (aj ?_);simp [dE,h,aN (n:=n-1)];exact b _ _ (by simp)
 rw [aY y]at h;refine al (by simp [y]) (aj ?_);simp;by_cases z:k=7
 ·rw [bg z]at h;refine ak (by simp [z]) (aj ?_);simp [dE,h];exact b _ _ (by simp)
 rw [aY z]at h;refine al (by simp [z]) (aj ?_);simp;by_cases d:k=11
 ·rw [bg d]at h;refine ak (by simp [d]) (aj ?_);simp [dE,h];exact b _ _ (by simp)
 rw [aY d]at h;refine al (by simp [d]) (aq (aj ?_));simp;have u:k=12∨k=13→∀ t,t.g 1=.c (.ptr 0 0 0)→t.g 58=vb ag→WP tab.get 160 ae [.code wm,.inBlock 0,.code qW] ⟨t,[],[.box ((aU.row ⟨⟨k,A,l,r,n,m,li⟩,tg⟩).map .f) 0]⟩ Q:=by
  intro c t F B;rw [bg c]at h;refine ak B (aj ?_);simp [F,aU.row,dE,h];exact b _ _ (by simp)
 by_cases g:k=12
 ·refine ak (by simp [g]) (aH ?_);exact u (.inl g) _ (by simp) (by simp [g])
 refine al (by simp [g]) (au (.inl rfl) ?_);simp;by_cases s:k=13
 ·exact u (.inr s) _ (by simp) (by simp [s])
 rw [aY (by omega)]at h;refine al (by simp [s]) (aj ?_);simp;by_cases j:k=16
 ·rw [bg j]at h;refine ak (by simp [j]) (aj ?_);simp [dE,h];exact b _ _ (by simp)
 rw [aY j]at h;refine al (by simp [j]) (aj ?_);simp;by_cases q:k=17
 ·rw [bg q]at h;refine ak (by simp [q]) (aj ?_);simp [dE,h];exact b _ _ (by simp)
 rw [aY q]at h;refine aW (by simp [q]) ?_;refine aw (aj ?_);simp [h];exact aE (E _ _ (by simp)))
def fY:Nat→List FC
 | 0=>[fi 2,.fs [fi 7,fi 6] 2,fi (-1),.aG]| k+1=>[fi 5,.fs [fi 7,fi 8] 2,fi 1,.fs [fi 2,fi (k:Nat),.bool ag] 1]
def kO(c y m:Nat):Nat:=match c,m with
 | 0,1=>7| 0,_=>6| _+1,1=>7| k+1,_=>if y % 2=k then 9 else 8
def sf(c y:Nat):Nat:=kO c y 1+kO c y 2
def aob:Nat→Nat
 | 0=>1| _=>2
def jz:Nat→Nat
 | 0=>13| _=>31
abbrev kK(c:Nat):V:=.a ((fY c).map .f)
def isI(r:Option (V × an))(n:Nat):Bool:=match r with
 | some (.c (.f (.int .i64 (.ofNat k))),_)=>Nat.beq k n| _=>ah
theorem uA{r:Option (V × an)}{n:Nat}(h:isI r n=ag):r.map (·.1)=ab (vi (n:Nat)):=by
 unfold isI at h;split at h
 ·rw [au2 h];rfl
 ·cases h
theorem zj:((List.range 3).all fun c=>(List.range 14).all fun y=>(List.range 2).all fun m=>isI (CF tab.get 300 30 (.fn 181) [kK c,vi ((y+1:Nat):Nat),vi ((m+1:Nat):Nat)] []) (kO c (y+1) (m+1)))=ag:=by kernel_rfl
theorem CC:((List.range 3).all fun c=>(List.range 14).all fun y=>isI (CF tab.get 300 30 (.fn 148) [kK c,vi ((y+1:Nat):Nat)] []) (sf c (y+1)))=ag:=by kernel_rfl
theorem vO:((List.range 3).all fun c=>(List.range 14).all fun y=>(List.range 2).all fun m=>isI (CF tab.get 300 30 (.fn 166) [kK c,vi ((y+1:Nat):Nat),vi ((m+1:Nat):Nat)] []) (kO c (y+1) (m+1)))=ag:=by kernel_rfl
theorem zZ:((List.range 3).all fun c=>(List.range 14).all fun y=>isI (CF tab.get 300 30 (.fn 122) [kK c,vi ((y+1:Nat):Nat)] []) (sf c (y+1)))=ag:=by kernel_rfl
theorem dy{p:Nat→Bool}{n k:Nat}(h:(List.range n).all p=ag)(b:k<n):p k=ag:=at4.1 h k (List.mem_range.2 b)
theorem sD{c y m:Nat}(b:c<3)(d:1≤y)(g:y≤14)(j:1≤m)(l:m≤2):bB tab.get 181 [kK c,vi (y:Nat),vi (m:Nat)]=Eq (vi (kO c y m:Nat)):=by
 obtain⟨y,rfl⟩:∃ k,y=k+1:=⟨y-1,by omega⟩
 obtain⟨m,rfl⟩:∃ k,m=k+1:=⟨m-1,by omega⟩
 have h:=dy (dy (dy zj b) (show y<14 by omega)) (show m<2 by omega);exact(dU (uA h)).eq
theorem E3{c y:Nat}(b:c<3)(d:1≤y)(g:y≤14):bB tab.get 148 [kK c,vi (y:Nat)]=Eq (vi (sf c y:Nat)):=by
 obtain⟨y,rfl⟩:∃ k,y=k+1:=⟨y-1,by omega⟩
 have h:=dy (dy CC b) (show y<14 by omega);exact(dU (uA h)).eq
theorem qw{c y m:Nat}(b:c<3)(d:1≤y)(g:y≤14)(j:1≤m)(l:m≤2):bB tab.get 166 [kK c,vi (y:Nat),vi (m:Nat)]=Eq (vi (kO c y m:Nat)):=by
 obtain⟨y,rfl⟩:∃ k,y=k+1:=⟨y-1,by omega⟩
 obtain⟨m,rfl⟩:∃ k,m=k+1:=⟨m-1,by omega⟩
 have h:=dy (dy (dy vO b) (show y<14 by omega)) (show m<2 by omega);exact(dU (uA h)).eq
theorem CB{c y:Nat}(b:c<3)(d:1≤y)(g:y≤14):bB tab.get 122 [kK c,vi (y:Nat)]=Eq (vi (sf c y:Nat)):=by
 obtain⟨y,rfl⟩:∃ k,y=k+1:=⟨y-1,by omega⟩
 have h:=dy (dy zZ b) (show y<14 by omega);exact(dU (uA h)).eq
theorem Cw:((List.range 600).all fun k=>isI (CF tab.get 60 30 (.fn 182) [vi ((k:Nat)-300)] []) (((k:Int)-300) % 7).toNat)=ag:=by kernel_rfl
theorem vo{n:Int}(h:-300≤n)(j:n<300):bB tab.get 182 [vi n]=Eq (vi (n % 7)):=by
 obtain⟨k,g⟩:∃ k:Nat,(k:Int)-300=n:=⟨(n+300).toNat,by omega⟩
 have d:=dy Cw (show k<600 by omega);have b:=(dU (uA d)).eq;rw [g]at b;rwa [Int.toNat_of_nonneg (aum n (by omega))]at b
theorem vI{c:Nat}(b:c<3):bB tab.get 99 [kK c]=Eq (vb ag):=by
 have:c=0∨c=1∨c=2:=by omega
 rcases this with rfl | rfl | rfl<;>exact bB.eq (fo (m:=300) (d:=30) (by kernel_rfl))
theorem se{c:Nat}(b:c<3):bB tab.get 76 [kK c]=Eq (vb ag):=by
 have:c=0∨c=1∨c=2:=by omega
 rcases this with rfl | rfl | rfl<;>exact bB.eq (fo (m:=300) (d:=30) (by kernel_rfl))
theorem vH{c:Nat}(b:c<3):bB tab.get 146 [kK c]=Eq (.t [vi (aob c:Nat),vi (jz c:Nat),vi 0]):=by
 have:c=0∨c=1∨c=2:=by omega
 rcases this with rfl | rfl | rfl<;>exact bB.eq (fo (m:=300) (d:=30) (by kernel_rfl))
theorem Nh{c:Nat}(b:c<3):bB tab.get 123 [kK c]=Eq (.t [vi (aob c:Nat),vi (jz c:Nat),vi 0]):=by
 have:c=0∨c=1∨c=2:=by omega
 rcases this with rfl | rfl | rfl<;>exact bB.eq (fo (m:=300) (d:=30) (by kernel_rfl))
structure ew.OK(x:ew):Prop where
 mo:x.mo=1∨x.mo=2
 wk:x.wk=1∨x.wk=5
 wd0:0≤x.wd
 wd:x.wd≤6
 mi0:0≤x.mi
 mi:x.mi≤1439
 of0:-1080≤x.off
 of:x.off≤1080
def pI(c y:Nat)(b:Int)(x:ew):Int:=if x.mo=2 then b+kO c y 1 else b
def qT(c y:Nat)(x:ew):Int:=kO c y x.mo.toNat
def kL(b d j g:Int):Int:=if j=5 then b+d-1-(b+d-1-g) % 7 else b+(g-b) % 7
def iF(b d g j:Int):Bool:=if g=5 then decide (b≤kL b d g j)else decide (kL b d g j<b+d)
theorem fN(c y m:Nat):kO c y m≤9:=by unfold kO;split<;>(try split)<;>omega
theorem qt(c y m:Nat):6≤kO c y m:=by unfold kO;split<;>(try split)<;>omega
theorem E0{c y:Nat}(L:c<3)(N:1≤y)(l:y≤14){b:Int}(hb:0≤b)(Y:b≤260)(x:ew)(k:x.OK) :
  bB tab.get 147 [kK c,vi b,vi (y:Nat),.a (x.row.map .f)]=Eq (.t [vi (kL (pI c y b x) (qT c y x) x.wk x.wd),vb (iF (pI c y b x) (qT c y x) x.wk x.wd)]):=bB.eq (by
 obtain⟨e,hw,w0,w6,-,-,-,-⟩:=k;have I:=sD L N l (m:=1) (by omega) (by omega);have O:=sD L N l (m:=2) (by omega) (by omega);have k1:=fN c y 1;have k2:=fN c y 2;have f:=fN c y x.mo.toNat;have M:=qt c y x.mo.toNat;have S:bB tab.get 181 [kK c,vi (y:Nat),vi x.mo]=Eq (vi (qT c y x)):=by
  rcases e with h | h
  ·unfold qT;rw [h];exact I
  ·unfold qT;rw [h];exact O
 have hq:qT c y x=(kO c y x.mo.toNat:Nat):=rfl;have Z:b≤pI c y b x∧pI c y b x≤b+9:=by unfold pI;split<;>omega
 generalize X:pI c y b x=U at *;generalize w:qT c y x=g at *;refine bI rfl rfl fun Q K=>?_;apply aj;simp;apply aq;apply aj;simp;refine az ?_;have cl:∀ z:c6,aV [.box ((fY c).map .f) 0,z] (ab 4) (.c (.ptr 0 0 0))=ab (kK c):=by
  intro z;have:c=0∨c=1∨c=2:=by omega
  rcases this with rfl | rfl | rfl<;>rfl
 have p:∀ z:c6,aV [z,.box [.f (fi x.mo),.f (fi x.wk),.f (fi x.wd),.f (fi x.mi),.f (fi x.off)] 0] ae (.c (.ptr 1 0 0))=ab (vi x.mo):=fun _=>rfl;refine bG (fun n s=>∃(m:Nat) (t:T) (d:Int),s=⟨t,[],[.box ((fY c).map .f) 0,.box (x.row.map .f) 0]⟩∧n=2-m∧(m=1∧d=b∨m=2∧x.mo=2∧d=b+(kO c y 1:Nat))∧t.g 1=vi d∧t.g 2=vi (y:Nat)∧t.g 4=.c (.ptr 0 0 0)∧t.g 7=.c (.ptr 1 0 0)∧t.g 10=vi (m:Nat)) 1
  ⟨1,_,b,rfl,rfl,.inl ⟨rfl,rfl⟩,by simp,by simp,by simp,by simp,by simp⟩ ?_
 rintro n s ⟨m,t,d,rfl,rfl,H,q,v,A,j,g10⟩ o;apply aq;apply aj;simp [g10,j,ew.row];by_cases a:(m:Int)<x.mo
 ·have r:m=1:=by omega
  subst r;have F:d=b:=by omega
  subst F;refine ak (by simp;omega) (aH ?_);apply aq;refine az ?_;refine au (.inl rfl) ?_;have u:bB tab.get 181 [kK c,vi (y:Nat),vi 1]=Eq (vi (kO c y 1:Nat)):=I;simp [g10,q,v,A,cl,-av,u,aN (n:=d+(kO c y 1:Nat)),ew.row];refine aw ?_;refine au (.inl rfl) ?_;simp [g10];refine o 0 _ (by omega) ⟨2,_,_,rfl,by omega,.inr ⟨rfl,by omega,rfl⟩,?_,?_,?_,?_,?_⟩<;>simp [v,A,j,show ai .i64 2=2 from rfl]
 ·have E:d=U:=by
   rw [←X];unfold pI;rcases H with⟨rfl,rfl⟩ | ⟨rfl,W,rfl⟩
   ·rw [aY (by omega)]
   ·rw [bg W]
  subst E;refine al (by simp;omega) ?_;refine bf (k':=[.code w7]) rfl ?_;apply aj;have hp:g≤9:=by omega
  have i:6≤g:=by omega
  simp [q,v,A,j,cl,p,-av,S,aN (n:=d+g)];apply aj;have q0:=aum (x.wd-d) (show(7:Int)≠0 by omega);have q1:=auq (x.wd-d) (show(0:Int)<7 by omega);simp [q,j,aN (n:=x.wd-d),vo (n:=x.wd-d) (by omega) (by omega),aN (n:=d+(x.wd-d) % 7)];apply aq;apply aj;simp [j];by_cases B:x.wk=5
  ·refine ak (by simp [B]) ?_;have r0:=aum (d+g-1-x.wd) (show(7:Int)≠0 by omega);have r1:=auq (d+g-1-x.wd) (show(0:Int)<7 by omega);apply aj;simp [j,aN (n:=d+g-1),aN (n:=d+g-1-x.wd),vo (n:=d+g-1-x.wd) (by omega) (by omega),aN (n:=d+g-1-(d+g-1-x.wd) % 7)];apply aj;simp [q];refine aE (K _ _ ?_);simp [kL,iF,B]
  ·have J:x.wk=1:=by omega
   refine aW (by simp [B]) ?_;apply aj;simp [j,J,aN (n:=(0:Int)),aN (n:=d+(x.wd-d) % 7)];apply aj;simp;refine aE (K _ _ ?_);simp [kL,iF,J])
theorem afK{c y:Nat}(hc:c<3)(hy:1≤y)(L:y≤14){b:Int}(hb:0≤b)(a_:b≤260)(x:ew)(hx:x.OK) :
  bB tab.get 120 [kK c,vi b,vi (y:Nat),.a (x.row.map .f)]=Eq (.t [vi (if iF (pI c y b x) (qT c y x) x.wk x.wd then kL (pI c y b x) (qT c y x) x.wk x.wd else -1),vb (iF (pI c y b x) (qT c y x) x.wk x.wd)]):=bB.eq (by
 obtain⟨hm,l,w0,w6,-,-,-,-⟩:=hx;have e1:=qw hc hy L (m:=1) (by omega) (by omega);have e2:=qw hc hy L (m:=2) (by omega) (by omega);have k1:=fN c y 1;have k2:=fN c y 2;have b_:=fN c y x.mo.toNat;have a9:=qt c y x.mo.toNat;have e3:bB tab.get 166 [kK c,vi (y:Nat),vi x.mo]=Eq (vi (qT c y x)):=by
  rcases hm with h | h
  ·unfold qT;rw [h];exact e1
  ·unfold qT;rw [h];exact e2
 have hq:qT c y x=(kO c y x.mo.toNat:Nat):=rfl;have b7:b≤pI c y b x∧pI c y b x≤b+9:=by unfold pI;split<;>omega
 generalize hF:pI c y b x=fm at *;generalize hM:qT c y x=v at *;refine bI rfl rfl fun Q W=>?_;apply aj;simp;apply aj;simp;apply aq;apply aj;simp;refine az ?_;have cl:∀ z:c6,aV [.box ((fY c).map .f) 0,z] (ab 4) (.c (.ptr 0 0 0))=ab (kK c):=by
  intro z;have:c=0∨c=1∨c=2:=by omega
  rcases this with rfl | rfl | rfl<;>rfl
 have ly:∀ z:c6,aV [z,.box [.f (fi x.mo),.f (fi x.wk),.f (fi x.wd),.f (fi x.mi),.f (fi x.off)] 0] ae (.c (.ptr 1 0 0))=ab (vi x.mo):=fun _=>rfl;refine bG (fun n s=>∃(m:Nat) (t:T) (g:Int),s=⟨t,[],[.box ((fY c).map .f) 0,.box (x.row.map .f) 0]⟩∧n=2-m∧(m=1∧g=b∨m=2∧x.mo=2∧g=b+(kO c y 1:Nat))∧t.g 10=vi g∧t.g 2=vi (y:Nat)∧t.g 4=.c (.ptr 0 0 0)∧t.g 7=.c (.ptr 1 0 0)∧t.g 11=vi (m:Nat)) 1
  ⟨1,_,b,rfl,rfl,.inl ⟨rfl,rfl⟩,by simp,by simp,by simp,by simp,by simp⟩ ?_
 rintro n s ⟨m,t,g,rfl,rfl,a7,S,E,F,u,g10⟩ M;apply aq;apply aj;simp [g10,u,ew.row];by_cases b9:(m:Int)<x.mo
 ·have m1:m=1:=by omega
  subst m1;have Y:g=b:=by omega
  subst Y;refine ak (by simp;omega) (aH ?_);apply aq;refine az ?_;refine au (.inl rfl) ?_;have O:bB tab.get 166 [kK c,vi (y:Nat),vi 1]=Eq (vi (kO c y 1:Nat)):=e1;simp [g10,S,E,F,cl,-av,O,aN (n:=g+(kO c y 1:Nat)),ew.row];refine aw ?_;refine au (.inl rfl) ?_;simp [g10];refine M 0 _ (by omega) ⟨2,_,_,rfl,by omega,.inr ⟨rfl,by omega,rfl⟩,?_,?_,?_,?_,?_⟩<;>simp [E,F,u,show ai .i64 2=2 from rfl]
 have X:g=fm:=by
  rw [←hF];unfold pI;rcases a7 with⟨rfl,rfl⟩ | ⟨rfl,h2,rfl⟩
  ·rw [aY (by omega)]
  ·rw [bg h2]
 subst X;have hp:v≤9:=by omega
 have c9:6≤v:=by omega
 refine al (by simp;omega) ?_;refine bf (k':=[.code A3]) rfl ?_;apply aj;simp;apply aj;simp;apply aq;apply aj;simp [S];refine az ?_;refine bG (fun n s=>∃(d j la:Int) (t:T),s=⟨t,[],[.box ((fY c).map .f) 0,.box [.f (fi x.mo),.f (fi x.wk),.f (fi x.wd),.f (fi x.mi),.f (fi x.off)] 0]⟩∧n=(g+v-d).toNat∧g≤d∧d≤g+v∧0≤j∧j≤d-g ∧
   (x.wk=1→j=0∧la = -1∧d≤g+(x.wd-g) % 7)∧(x.wk=5→la=if g≤d-1-(d-1-x.wd) % 7 then d-1-(d-1-x.wd) % 7 else -1) ∧
   t.g 2=vi (y:Nat)∧t.g 4=.c (.ptr 0 0 0)∧t.g 7=.c (.ptr 1 0 0)∧t.g 10=vi g∧t.g 12=vi j∧t.g 13=vi la∧t.g 14=vi d) v.toNat
  ⟨g,0,-1,_,rfl,by omega,au0 _,by omega,by omega,by omega,fun _=>⟨rfl,rfl,by omega⟩,fun _=>(aY (by omega)).symm,by simp [E],by simp [F],by simp [u],by simp [S],by simp,by simp,by simp⟩ ?_
 clear M;rintro n s ⟨d,j,la,t,rfl,rfl,d0,d1,c0,c1,I,J,E,F,u,g10,H,B,q⟩ M;apply aq;apply aj;simp [E,F,u,g10,q,cl,ly,-av,e3,aN (n:=g+v)];by_cases hd:d<g+v
 case neg=>
  have Z:d=g+v:=by omega
  subst Z;refine al (by simp) ?_;refine bf (k':=[.code tI]) rfl ?_;rcases l with l | l
  ·obtain⟨rfl,rfl,hk⟩:=I l;apply aj;simp [B,u,l];refine aE (W _ _ ?_);have:iF g v 1 x.wd=ah:=by simp [iF,kL];omega
   simp [l,this]
  ·have A:=J l;apply aj;simp [B,u,l];refine aE (W _ _ ?_);by_cases h:g≤g+v-1-(g+v-1-x.wd) % 7
   ·rw [bg h]at A;have e:iF g v 5 x.wd=ag:=by simp [iF,kL];omega
    have N:kL g v 5 x.wd=la:=by simp [kL,A]
    simp [l,e,N];omega
   ·rw [aY h]at A;have e:iF g v 5 x.wd=ah:=by simp [iF,kL];omega
    simp [l,e,A]
 refine ak (by simp;omega) (aH ?_);apply aq;refine az ?_;apply aj;have hr:bV .rem (vi d) (vi 7)=ab (vi (d % 7)):=ke (by omega) (by omega);simp [q,u,hr];by_cases K:d % 7=x.wd
 ·refine ak (by simp [K]) ?_;apply aj;simp [H,aN (n:=j+1)];apply aj;simp [q];apply aq;rcases l with l | l
  ·obtain⟨rfl,rfl,hk⟩:=I l;refine au (.inl rfl) ?_;simp [u,l];refine ak (by simp) ?_;apply aj;simp [q];refine aE (W _ _ ?_);have N:kL g v 1 x.wd=d:=by simp [kL];omega
   have e:iF g v 1 x.wd=ag:=by simp [iF,N,hd]
   simp [l,e,N]
  ·have A:=J l;refine au (.inl rfl) ?_;have OD:∀ t:T,t.g 2=vi (y:Nat)→t.g 4=.c (.ptr 0 0 0)→t.g 7=.c (.ptr 1 0 0)→t.g 10=vi g→t.g 12=vi (j+1)→t.g 13=vi d→t.g 14=vi d →
     WP tab.get 120 ae [.code A5,.inLoop A4,.inBlock 2,.code tI] ⟨t,[],[.box ((fY c).map .f) 0,.box [.f (fi x.mo),.f (fi 5),.f (fi x.wd),.f (fi x.mi),.f (fi x.off)] 0]⟩ Q:=by
    intro t E F u g10 H B q;have eh:([.box ((fY c).map .f) 0,.box [.f (fi x.mo),.f (fi 5),.f (fi x.wd),.f (fi x.mi),.f (fi x.off)] 0]:an)=[.box ((fY c).map .f) 0,.box [.f (fi x.mo),.f (fi x.wk),.f (fi x.wd),.f (fi x.mi),.f (fi x.off)] 0]:=by rw [l]
    rw [eh];refine au (.inl rfl) ?_;simp [q,aN (n:=d+1)];refine M _ _ ?_ ⟨d+1,j+1,d,_,rfl,rfl,by omega,by omega,by omega,by omega,fun h=>by omega,fun _=>?_,by simp [E],by simp [F],by simp [u],by simp [g10],by simp [H],by simp [B],by simp⟩
    ·omega
    ·rw [bg (by omega)];omega
   by_cases U:j+1=5
   ·simp [u,l,U];refine al (by simp) (aH (aw (OD _ ?_ ?_ ?_ ?_ ?_ ?_ ?_)))<;>simp [E,F,u,g10,q,U]
   ·simp [u,l,U];refine al (by simp) (aH (aw (OD _ ?_ ?_ ?_ ?_ ?_ ?_ ?_)))<;>simp [E,F,u,g10,q]
 ·refine al (by simp [K]) (aH (aw ?_));refine au (.inl rfl) ?_;simp [q,aN (n:=d+1)];refine M _ _ ?_ ⟨d+1,j,la,_,rfl,rfl,by omega,by omega,by omega,by omega,fun h=>?_,fun h=>?_,by simp [E],by simp [F],by simp [u],by simp [g10],by simp [H],by simp [B],by simp⟩
  ·omega
  ·obtain⟨a1,a2,a3⟩:=I h;exact⟨a1,a2,by omega⟩
  ·have A:=J h;rw [A,show d+1-1=d by omega,show d-1-(d-1-x.wd) % 7=d-(d-x.wd) % 7 by omega])
def Dr(t:bA)(l o:List bA):Prop:=∃ A B,l=A++B∧o=A++t::B∧(∀ x ∈ B,t.at_<x.at_)∧∀ x,A.getLast?=ab x→x.at_≤t.at_
theorem cB{n b:Nat}(g:n≤1100000)(d:b≤4096):bU n b=ag:=by
 have h:(2*n+768)*b≤2200768*4096:=Nat.mul_le_mul (by omega) d;simp [bU];omega
theorem dp{l:List bA}{j:Nat}{x:bA}(h:l[j]?=ab x):(aQ l)[j]?=ab x.row:=by simp [aQ,h]
theorem pF(l:List bA)(j:Nat)(x:bA):(aQ l).set j x.row=aQ (l.set j x):=by simp [aQ,List.map_set]
@[simp] theorem bA.tq (x:bA):x.row.length=2:=rfl
theorem Ny{H:an}{c:C}{l:List bA}(hL:LR H c 2 (aQ l))(hl:l.length≤1000)(x:bA) :
  ∃ o q F,Dr x l o∧Ev tab.get (.fn 121) [.c c,.a (x.row.map .f)] H (.c q) F∧LR F q 2 (aQ o)∧Kb H F c∧(aX q=aX c∨∃ i,aX q=ab i∧H.length≤i):=by
 suffices h:∃ r F,Ev tab.get (.fn 121) [.c c,.a (x.row.map .f)] H r F∧∃ o q,r=.c q∧Dr x l o∧LR F q 2 (aQ o)∧Kb H F c∧(aX q=aX c∨∃ i,aX q=ab i∧H.length≤i) by
  obtain⟨r,F,h1,o,q,rfl,h2,h3,h4,h5⟩:=h;exact⟨o,q,F,h2,h1,h3,h4,h5⟩
 refine dt rfl rfl fun Q hQ=>?_;apply aj;simp [bA.row];obtain⟨H1,u⟩:=aP (H++[.box [.f (fi x.at_),.f (fi x.off)] 0]:an);rw [←u];have b1:H1[H.length]?=ab (.box [.f (fi x.at_),.f (fi x.off)] 0):=by rw [u];simp
 have l1:H1.length=H.length+1:=by rw [u];simp
 obtain⟨H2,v⟩:=aP (H1++[.box (x.row.map .f) 0]:an);have d_:LR H2 c 2 (aQ l):=by rw [v,u];exact(hL.push _).push _
 have f9:H2[H1.length]?=ab (.box (x.row.map .f) 0):=by rw [v];simp
 obtain⟨c3,H3,b9,e_,W,b_⟩:=d_.app (cD _) (by decide) (row:=x.row) rfl (bytes:=16) (cB (by simp;omega) (by decide)) f9;have l2:H2.length=H.length+2:=by rw [v];simp [l1]
 have hK:Kb H H3 c:=⟨by have:=W.1;omega,fun i y hy hn=>W.2 i y (by rw [v,u,auC,AI (ax hy)];exact hy) hn⟩
 have O:aX c3=aX c∨∃ i,aX c3=ab i∧H.length≤i:=b_.imp id fun h=>⟨_,h,by omega⟩
 apply aj;have e2:H1++[.box [.f (fi x.at_),.f (fi x.off)] 0]=H2:=v.symm;simp [b1,aK];rw [e2];simp [b9];rcases e_ with⟨h,_⟩ | ⟨_,b,g,rfl,hb⟩
 ·simp at h
 have e3:aQ l++[x.row]=aQ (l++[x]):=by simp [aQ]
 rw [e3]at hb;apply aq;apply aj;simp [hb.len];refine az ?_;clear W b_;refine bG (fun n s=>∃(A B:List bA) (t:T) (J:an),s=⟨t,[],J⟩∧n=A.length∧l=A++B∧(∀ z ∈ B,x.at_<z.at_)∧RB J b 2 g (aQ (A++x::B))∧Fm b H3 J∧t.g 5=.c (.sl b 0 (l.length+1) 0 g 2)∧t.g 6=vi A.length) l.length
  ⟨l,[],_,H3,rfl,rfl,by simp,by simp,hb,Fm.refl _,by simp,by simp;exact aN⟩ ?_
 rintro n s ⟨A,B,t,J,rfl,rfl,U,hB,N,hF,I,g6⟩ ih;have S:l.length=A.length+B.length:=by rw [U];simp
 apply aq;have a9:(∀ z,A.getLast?=ab z→z.at_≤x.at_)→∀ t:T,t.g 5=.c (.sl b 0 (l.length+1) 0 g 2)→WP tab.get 121 ae [.code pP] ⟨t,[],J⟩ Q:=by
  intro X t I;apply aj;simp [I];refine aE (hQ _ _ (.c (.sl b 0 (l.length+1) 0 g 2)) rfl (jJ (by simp)) ⟨A++x::B,_,rfl,⟨A,B,U,rfl,hB,X⟩,.inr ⟨by simp [aQ],b,g,?_,N⟩,?_,?_⟩)
  ·simp [S];omega
  ·refine⟨aua hK.1 hF.1,fun i y hy hn=>?_⟩;have h1:=hK.2 i y hy hn;refine hF.get h1 ?_;rintro rfl;rcases O with e | ⟨k,e,hk⟩
   ·exact hn (by rw [←e];rfl)
   ·cases e;have:=ax hy;omega
  ·exact O
 have E:=cD (A++x::B);cases hA:A.getLast? with
 | none=>
  have d8:A=[]:=by simpa using hA
  subst d8;apply aj;simp [g6];refine al (by simp) ?_;refine bf (k':=[.code pP]) rfl ?_;exact a9 (by simp) _ (by simp [I])
 | some z=>
  obtain⟨d,rfl⟩:∃ d,A=d++[z]:=by
   obtain⟨d,e⟩:=avc.1 hA;exact⟨d,e⟩
  have m:(d++[z]).length=d.length+1:=by simp
  rw [m]at S;have gz:(d++[z]++x::B)[d.length]?=ab z:=by simp
  have gx:(d++[z]++x::B)[d.length+1]?=ab x:=by
   rw [at1 (by simp)];simp
  have iz:aL J 2 ae (.c (.sl b 0 (l.length+1) 0 g 2)) (vi d.length)=ab (.c (.ptr b (d.length*2) g)):=by
   have:=N.idx (n:=l.length+1) (c:=0) (k:=.i64) (o:=0) (i:=(d.length:Int)) (by omega) (by omega);simpa using this
  have ix:aL J 2 ae (.c (.sl b 0 (l.length+1) 0 g 2)) (vi ((d.length:Int)+1))=ab (.c (.ptr b ((d.length+1)*2) g)):=by
   have:=N.idx (n:=l.length+1) (c:=0) (k:=.i64) (o:=0) (i:=(d.length:Int)+1) (by omega) (by omega);rw [auJ,show((d.length:Int)+1).toNat=d.length+1 by omega]at this;exact this
  have cz:=N.ldc E (dp gz) (k:=0) (x:=fi z.at_) rfl;have cx:=N.ldc E (dp gx) (k:=0) (x:=fi x.at_) rfl;simp only [Nat.add_zero]at cz cx;have w1:ai .i64 (d.length:Int)=d.length:=aN;apply aj;simp [I,g6,m,show(0:Int)<(d.length:Int)+1 by omega,w1,iz,ix,cz,cx,-av];by_cases Y:x.at_<z.at_
  case neg=>
   refine al (by simp [Y]) ?_;refine bf (k':=[.code pP]) rfl ?_;exact a9 (fun w hw=>by rw [hA]at hw;cases hw;omega) _ (by simp [I])
  refine ak (by simp [Y]) (aH ?_);apply aq;refine az ?_;have rx:=N.ldr E (dp gx);apply aj;simp [I,g6,m,ix,rx,-av,bA.row];obtain⟨J1,L⟩:=aP (J++[.box [.f (fi x.at_),.f (fi x.off)] 0]:an);have M:RB J1 b 2 g (aQ (d++[z]++x::B)):=by rw [L];exact N.push _
  have d6:J1[J.length]?=ab (.box [.f (fi x.at_),.f (fi x.off)] 0):=by rw [L];simp
  have g_:=N.lt;rw [←L];have f_:∀ {K:an} {rows:List (List FC)} (_:RB K b 2 g rows),aL K 2 ae (.c (.sl b 0 (l.length+1) 0 g 2)) (vi ((d.length:Int)+1))=ab (.c (.ptr b ((d.length+1)*2) g)):=fun hK=>by
   have:=hK.idx (n:=l.length+1) (c:=0) (k:=.i64) (o:=0) (i:=(d.length:Int)+1) (by omega) (by omega);rw [auJ,show((d.length:Int)+1).toNat=d.length+1 by omega]at this;exact this
  have c_:∀ {K:an} {rows:List (List FC)} (_:RB K b 2 g rows),aL K 2 ae (.c (.sl b 0 (l.length+1) 0 g 2)) (vi d.length)=ab (.c (.ptr b (d.length*2) g)):=fun hK=>by
   have:=hK.idx (n:=l.length+1) (c:=0) (k:=.i64) (o:=0) (i:=(d.length:Int)) (by omega) (by omega);simpa using this
  have rz:=M.ldr E (dp gz);obtain⟨J2,s1,a_,a7,h_⟩:=M.str (j:=d.length+1) (row:=z.row) E (by simp) rfl;have c9:bO 2 ((aQ (d++[z]++x::B)).set (d.length+1) z.row):=by rw [pF];exact cD _
  obtain⟨J3,s2,b7,d7,i_⟩:=a_.str (j:=d.length) (row:=x.row) c9 (by simp) rfl;have d5:=a7.get d6 (by omega);have Z:((aQ (d++[z]++x::B)).set (d.length+1) z.row).set d.length x.row=aQ (d++x::z::B):=by
   rw [pF,pF]
   congr 1
   rw [auC];simp
  rw [Z]at b7;apply aj;simp only [bA.row,anc,atN]at rz s1 s2;simp [I,g6,m,w1,f_ M,c_ M,rz,s1,-av,-bs];refine au (.inl rfl) ?_;simp [I,g6,m,w1,c_ a_,d5,aK,s2,-bs];refine aw ?_;refine au (.inl rfl) ?_;simp [g6,m,w1];have d9:Fm b H3 J3:=((hF.trans (by rw [L];exact Fm.push _ _)).trans a7).trans d7;refine ih d.length _ (by simp) ⟨d,z::B,_,J3,rfl,rfl,by rw [U];simp,?_,b7,d9,by simp [I],by simp⟩;intro w hw;rcases aui.1 hw with rfl | hw
  ·exact Y
  ·exact hB w hw
def opd(x:bF)(j:Nat):Int:=if j=0 then x.l else x.r
def pK(U:List Int)(x:bF):Nat→List Int
 | 0=>U| j+1=>if j<dN x.k then nG (pK U x j) (opd x j)else pK U x j
@[simp] theorem ahG (U:List Int) (x:bF):∀ j,(pK U x j).length=U.length
 | 0=>rfl| j+1=>by unfold pK;split<;>simp [ahG U x j]
theorem GB{r:List bF}{x:bF}{i n:Nat}(h:lT i x):pK (bM r n) x 2=bM (r++[x]) n:=by
 have b:=oG x.k;rcases(show dN x.k=0∨dN x.k=1∨dN x.k=2 by omega)with e | e | e
 ·rw [EU e];simp [pK,e]
 ·rw [EV e (h.l1 (by omega)).1];simp [pK,e,opd]
 ·rw [EW e (h.l1 (by omega)).1 (h.r2 e).1];simp [pK,e,opd]
abbrev cI(n:Int):C:=.f (fi n)
theorem xq{U:List Int}{k:Int}(b:0≤k)(d:k<U.length):over (U.map cI) k.toNat [cI (U.getD k.toNat 0+1)]=(nG U k).map cI:=by
 rw [uU (by simp;omega),nG,List.map_set]
theorem EI{k:Nat}(h:k<19):(kh.drop (k*4)).take 4=iI k:=
 uj (sz:=4) (rows:=(List.range 19).map iI) (fun r hr=>by obtain⟨j,_,rfl⟩:=auy.1 hr;rfl) (by simp [h])
theorem aoy{H:an}{b fl:Nat}(d:H[b]?=ab (.box (kh.map .f) fl)){k:Nat}(h:k<19):aV H (ab 4) (.c (.ptr b (k*4) 0))=ab (.a ((iI k).map .f)):=by
 have g:kh.length=76:=by decide
 have:k*4+4≤kh.length:=by omega
 simp only [aV,aF,d];simp [aK,←avv,←List.map_take,EI h];omega
theorem eT{H:an}{g:Tg}{r:List aU}{j:Nat}(b:j<r.length)(d:r.length≤64):aL H 8 ae (.c (.f (sl g (aM r)))) (vi j)=ab (.c (.f (.fp (aM r).flatten (j*8)))):=by
 have:=cE (H:=H) (g:=g) (rows:=aM r) (sz:=8) (k:=.i64) (i:=(j:Int)) (by omega) (by simp;omega);simpa using this
theorem me{H:an}{r:List aU}{j:Nat}(b:j<r.length):aV H (ab 8) (.c (.f (.fp (aM r).flatten (j*8))))=ab (.a (r[j].row.map .f)):=by
 have:=ez (H:=H) (rows:=aM r) (j:=j) (sz:=8) (row:=r[j].row) (eH r) (nM b);simpa using this
theorem abj{H:an}{i:Nat}{x:c6}(h:H[i]?=ab x):H.set i x=H:=by
 refine List.ext_getElem? fun j=>?_;rw [List.getElem?_set];split
 ·rename_i e;subst e;rw [bg (ax h),h]
 ·rfl
theorem af2{U:List Int}{B k:Int}(h:∀ v ∈ U,0≤v∧v≤B):∀ v ∈ nG U k,0≤v∧v≤B+1:=by
 intro v b;unfold nG at b;rcases List.mem_or_eq_of_mem_set b with b | rfl
 ·have:=h v b;omega
 ·rw [aus];cases g:U[k.toNat]? with
  | none=>
   by_cases d:U=[]
   ·subst d;simp at b
   ·obtain⟨w,j⟩:=List.exists_mem_of_ne_nil U d;have:=h w j;simp;omega
  | some w=>have:=h w (List.mem_of_getElem? g);simp;omega
theorem zW{U:List Int}{x:bF}{B:Int}(h:∀ v ∈ U,0≤v∧v≤B):∀ j:Nat,∀ v ∈ pK U x j,0≤v∧v≤B+j
 | 0=>fun v b=>by have:=h v b;omega
 | j+1=>fun v b=>by
  unfold pK at b;split at b
  ·have:=af2 (zW h j) v b;omega
  ·have:=zW h j v b;omega
theorem agr(v:Int):Kf tab.get 162 [vi v] (vb (decide (v≠1))):=by
 refine fL rfl rfl fun H Q b=>?_;apply aj;simp;apply aj;simp;exact aE (b _ _ (by simp))
theorem afj(g:Tg)(l:List Int)(d:l.length≤9223372036854775807):bB tab.get 161 [.c (.f (sl g (ints l))),.c (.f (.fn 162 []))]=Eq (vb (l.any fun v=>decide (v≠1))):=
 (ky aje (oB ajg l (fun v=>[fi v]) (fun v=>vi v) (fun v=>decide (v≠1)) g 162 [] d
  (fun j b H=>by rw [Nat.mul_one];exact ej b) (fun p m=>agr p))).eq
theorem v7(g:Tg){r:List aU}(hG:Good (et r))(hl:r.length≤64):bB tab.get 110 [.c (.f (sl g (aM r)))]=Eq (vb ag):=bB.eq (by
 have o4:0<r.length:=by have:=hG.pos;simpa using this
 obtain⟨n,hn⟩:=aP (r.length);refine bI rfl rfl fun Q hQ=>?_;apply aj;simp;refine aq (aj ?_);simp [←hn,show¬ (n:Int)<1 by omega,show¬ (64:Int)<n by omega];refine aW (by simp) ?_;have n9:kh.length=76:=by decide
 apply aj;simp [rZ,n9];apply aj;have c9:bU n 8=ag:=cB (by omega) (by decide);have m_:∀(t:T) (H:an),(R 22).ev t=vi n→bu t H (.c4 1 8 [fi 0] (R 22) (R 22))=ab (.c (.sl H.length 0 n n 0 1),H++[.box ((bM [] n).map cI) 0]):=by
  intro t H h;have e:(cP n [fi 0]).map C.f=(bM [] n).map cI:=by rw [yd];simp [cP]
  simp only [bu,h,dD];rw [bg ⟨by omega,au0 _,by simpa using c9,rfl⟩,aY (by omega),aug,e]
 simp [←hn,m_];refine aq (aj ?_);simp [←hn];refine fE n (fun i t H=>∃ r',r'=(et r).take i∧t.g 0=.c (.f (sl g (aM r)))∧t.g 3=.c (.ptr 0 0 0)∧t.g 4=.c (.sl 1 0 n n 0 1)∧t.g 24=.c (.f (sl g (aM r)))∧H[0]?=ab (.box (kh.map .f) 0)∧H[1]?=ab (.box ((bM r' n).map cI) 0))
  (by omega) (by decide) (by decide) (by simp) (by simp) ⟨[],by simp,by simp,by simp,by simp,by simp,rfl,rfl⟩ ?_ ?_
 ·rintro i t H hi ⟨r',a,M,N,E,b,h0,h1⟩ ha hb next
  have Y:i<r.length:=by omega
  have hA:=hG.at_ i (by simpa using Y);obtain⟨x,hx⟩:=aP (r[i]);have j3:(et r)[i]'(by simpa using Y)=x.d:=by rw [hx];simp
  rw [j3]at hA;obtain⟨n_,hK⟩:=hA.ok;have hk:=hK.k;obtain⟨k,A⟩:∃ k:Nat,x.d.k=k:=⟨x.d.k.toNat,by omega⟩
  have e_:k<19:=by omega
  have y:=ti hk.1;rw [A,aug]at y;have b9:pK (bM r' n) x.d 2=bM ((et r).take (i+1)) n:=by
   rw [GB hA,a,at0 (by simpa using Y),j3]
  refine az (aj ?_);have c_:0<H.length:=ax h0;have d5:1<H.length:=ax h1;simp [ha,b,eT Y hl,me Y,←hx,aU.row];obtain⟨J,hJ⟩:=aP (H++[.box (x.row.map .f) 0]:an);have j0:J[0]?=ab (.box (kh.map .f) 0):=by rw [hJ,AI c_];exact h0
  have j1:J[1]?=ab (.box ((bM r' n).map cI) 0):=by rw [hJ,AI d5];exact h1
  have jx:J[H.length]?=ab (.box (x.row.map .f) 0):=by rw [hJ];simp
  have jl:J.length=H.length+1:=by rw [hJ];simp
  simp only [aU.row,anc,atN]at hJ jx;rw [←hJ];clear hJ;obtain⟨d,g_⟩:=aP (H.length);rw [←g_]at jx jl d5 ⊢;clear g_ h0 h1 c_;refine aq (aj ?_);have l_:decide (1≤x.d.k∧x.d.k≤18)=ag:=decide_eq_true ⟨by omega,by omega⟩;simp [jx,aK,dE,l_,show¬ (64:Int)<x.d.li.length by omega];refine aW (by simp) ?_;have a_:∀ H,aL H 4 (ab 19) (.c (.ptr 0 0 0)) (vi x.d.k)=ab (.c (.ptr 0 (k*4) 0)):=fun H=>by
   rw [A,afZ (by omega) (by omega)];simp
  apply aj;have b7:=aoy j0 e_;simp only [iI,anc,atN]at b7;have c:aV J ae (.c (.ptr d 0 0))=ab (vi x.d.k):=by simp [aV,jx,aF,aK]
  simp [c,N,a_,b7,-av];obtain⟨J2,z⟩:=aP (J++[.box ((iI k).map .f) 0]:an);have i0:J2[0]?=ab (.box (kh.map .f) 0):=by rw [z,AI (ax j0)];exact j0
  have i1:J2[1]?=ab (.box ((bM r' n).map cI) 0):=by rw [z,AI (ax j1)];exact j1
  have ix:=jx;rw [←AI (l₂:=[.box ((iI k).map .f) 0]) (ax jx),←z]at ix;have p:J2[d+1]?=ab (.box ((iI k).map .f) 0):=by rw [z,←jl];simp
  have il:J2.length=d+2:=by rw [z];simp [jl]
  simp only [iI,anc,atN]at z p;rw [←z,jl];clear z b7 c j0 j1 jx jl;refine aq (aj ?_);have m6:bJ (J2++[.box [.f (fi x.d.l),.f (fi x.d.r)] 0]) (.sl J2.length 0 2 2 0 1)=ab 2:=by simp [bJ]
  simp [ix,aK,m6];obtain⟨J3,I⟩:=aP (J2++[.box [.f (fi x.d.l),.f (fi x.d.r)] 0]:an);have q0:J3[0]?=ab (.box (kh.map .f) 0):=by rw [I,AI (ax i0)];exact i0
  have q1:J3[1]?=ab (.box ((bM r' n).map cI) 0):=by rw [I,AI (ax i1)];exact i1
  have qx:=ix;rw [←AI (l₂:=[.box [.f (fi x.d.l),.f (fi x.d.r)] 0]) (ax ix),←I]at qx;have qs:=p;rw [←AI (l₂:=[.box [.f (fi x.d.l),.f (fi x.d.r)] 0]) (ax p),←I]at qs;have ql:J3[d+2]?=ab (.box [.f (fi x.d.l),.f (fi x.d.r)] 0):=by rw [I,←il];simp
  rw [←I,il];clear I i0 i1 ix p il;refine fE 2 (fun j t H=>t.g 0=.c (.f (sl g (aM r)))∧t.g 3=.c (.ptr 0 0 0)∧t.g 4=.c (.sl 1 0 n n 0 1)∧t.g 24=.c (.f (sl g (aM r)))∧t.g 5=vi i∧t.g 6=.c (.ptr d 0 0)∧t.g 7=.c (.ptr (d+1) 0 0)∧t.g 49=.c (.sl (d+2) 0 2 2 0 1)∧t.g 26=vi i∧t.g 25=vi n∧H=J3.set 1 (.box ((pK (bM r' n) x.d j).map cI) 0))
   (by decide) (by decide) (by decide) (by simp) (by simp) ⟨by simp [M],by simp [N],by simp [E],by simp [b],by simp,by simp,by simp,by simp,by simp [ha],by simp [hb],(abj q1).symm⟩ ?_ ?_
  ·rintro j t H hj ⟨M,N,E,b,g5,O,S,F,s,q,rfl⟩ ha hb next
   obtain⟨U,hU⟩:=aP (pK (bM r' n) x.d j);have o5:U.length=n:=by rw [hU];simp
   have k_:∀ v ∈ U,0≤v∧v≤1000:=by
    intro v hv;rw [hU]at hv;have:=zW (B:=2*r'.length) (fun v hv=>by
     obtain⟨k,hk,rfl⟩:=at3 hv;exact Ct r' n k (by simpa using hk)) j v hv
    have:r'.length≤64:=by rw [a];simp;omega
    omega
   have Z:pK (bM r' n) x.d (j+1)=if j<va k then nG U (opd x.d j)else U:=by
    rw [pK,A,y,hU]
   rw [←hU];obtain⟨o,ho⟩:=aP (opd x.d j);rw [←ho]at Z;obtain⟨K,m⟩:=aP (J3.set 1 (.box (U.map cI) 0):an);have p1:K[1]?=ab (.box (U.map cI) 0):=by rw [m];exact OF (ax q1)
   have L:K[d]?=ab (.box (x.row.map .f) 0):=by rw [m,By (by omega)];exact qx
   have ps:K[d+1]?=ab (.box ((iI k).map .f) 0):=by rw [m,By (by omega)];exact qs
   have pl:K[d+2]?=ab (.box [.f (fi x.d.l),.f (fi x.d.r)] 0):=by rw [m,By (by omega)];exact ql
   have j_:∀ W:List Int,K.set 1 (.box (W.map cI) 0)=J3.set 1 (.box (W.map cI) 0):=fun W=>by rw [m,List.set_set]
   rw [←m];have d9:aL K 1 ae (.c (.sl (d+2) 0 2 2 0 1)) (vi j)=ab (.c (.ptr (d+2) j 0)):=by
    simp [aL,dD,pl];omega
   have m7:aV K ae (.c (.ptr (d+2) j 0))=ab (vi o):=by
    rcases(show j=0∨j=1 by omega)with rfl | rfl<;>simp [aV,pl,aF,aK,ho,opd]
   have n6:aV K ae (.c (.ptr (d+1) 0 0))=ab (vi (va k)):=by simp [aV,ps,aF,aK,iI]
   have c:aV K ae (.c (.ptr d 0 0))=ab (vi x.d.k):=by simp [aV,L,aF,aK,aU.row]
   refine az (aj ?_);simp [ha,F,d9,m7,-av];refine az (aj ?_);simp [S,n6,-av];by_cases d_:j<va k
   ·rw [bg d_]at Z;have b_:0≤o∧o≤(i:Int)-1:=by
     rw [ho];rcases(show j=0∨j=1 by omega)with rfl | rfl
     ·have:=hA.l1 (by rw [A,y];omega);simp only [opd];simp;omega
     ·have h2:dN x.d.k=2:=by have:=oG x.d.k;rw [A,y]at this ⊢;omega
      have:=hA.r2 h2;simp only [opd];simp;omega
    have f_:decide (0≤o∧o≤(i:Int)-1)=ag:=decide_eq_true b_;have d8:U.getD o.toNat 0=U[o.toNat]'(by omega):=by rw [aus,AT (by omega)];rfl
    have d7:=k_ _ (IS (l:=U) (n:=o.toNat) (by omega));rw [←d8]at d7;have a_:aL K 1 ae (.c (.sl 1 0 n n 0 1)) (vi o)=ab (.c (.ptr 1 o.toNat 0)):=by
     simp [aL,dD,p1,b_.1];omega
    have f9:aV K ae (.c (.ptr 1 o.toNat 0))=ab (vi (U.getD o.toNat 0)):=by
     have:(U.map cI).drop o.toNat=cI (U.getD o.toNat 0) ::(U.map cI).drop (o.toNat+1):=by
      rw [at5 (by simp;omega),auT,d8]
     simp only [aV,aF,p1,auf];rw [this];rfl
    have h_:dn K (.ptr 1 o.toNat 0) [.f (fi (U.getD o.toNat 0+1))]=ab (K.set 1 (.box ((nG U o).map cI) 0)):=by
     have:=xq (U:=U) (k:=o) b_.1 (by omega);simp only [dn,p1];rw [bg (by simp;omega)];rw [show [C.f (fi (U.getD o.toNat 0+1))]=[cI (U.getD o.toNat 0+1)] from rfl,this]
    obtain⟨u,hu⟩:=aP (U.getD o.toNat 0);rw [←hu]at f9 h_ d7;refine ak (by simp;omega) (aq (aj ?_));simp [g5,aN (n:=(i:Int)-1),dE,f_];refine aW (by simp) ?_;refine au (.inl rfl) ?_;simp [E,a_,f9,h_,aN (n:=u+1),-av,-bs];refine aw (aw ?_);refine next _ _ ?_ ?_ ?_
    ·exact⟨by simp [M],by simp [N],by simp [E],by simp [b],by simp [g5],by simp [O],by simp [S],by simp [F],by simp [s],by simp [q],by rw [Z,j_]⟩
    ·simp [ha]
    ·simp [hb]
   ·rw [aY d_]at Z;refine al (by simp;omega) (aj ?_);have X:∀ t:T,t.g 0=.c (.f (sl g (aM r)))→t.g 3=.c (.ptr 0 0 0)→t.g 4=.c (.sl 1 0 n n 0 1)→t.g 24=.c (.f (sl g (aM r)))→t.g 5=vi i→t.g 6=.c (.ptr d 0 0)→t.g 7=.c (.ptr (d+1) 0 0)→t.g 49=.c (.sl (d+2) 0 2 2 0 1)→t.g 26=vi i→t.g 25=vi n→t.g 51=vi j→t.g 50=vi (2:Nat)→t.g 72=vb ah →
      WP tab.get 110 ae [.code wu,.inBlock 4,.inBlock 3,.code wv,.inLoop wq,.inBlock 2,.code wz,.inBlock 1,.code (Nw 26 122),.inLoop (rY 0 26 25 27 122 qX),.inBlock 0,.code qY] ⟨t,[],K⟩ Q:=by
     intro t M N E b g5 O S F s q j8 j7 j9;refine al j9 (aH ?_);refine aw (aw ?_);refine next _ _ ?_ ?_ ?_
     ·exact⟨by simp [M],by simp [N],by simp [E],by simp [b],by simp [g5],by simp [O],by simp [S],by simp [F],by simp [s],by simp [q],by rw [Z,m]⟩
     ·simp [j8]
     ·simp [j7]
    by_cases f:o=0
    ·simp [f];exact X _ (by simp [M]) (by simp [N]) (by simp [E]) (by simp [b]) (by simp [g5]) (by simp [O]) (by simp [S]) (by simp [F]) (by simp [s]) (by simp [q]) (by simp [ha]) (by simp [hb]) (by simp)
    ·have m4:j=0:=by
      rcases(show j=0∨j=1 by omega)with e | rfl
      ·exact e
      ·exact absurd (by rw [ho];simp [opd];exact hA.r0 (by rw [A,y];omega)) f
     subst m4;have m5:x.d.k=7:=by
      rcases Decidable.em (x.d.k=7)with e | e
      ·exact e
      ·exact absurd (by rw [ho];simp [opd];exact hA.l0 (by rw [A,y];omega) e) f
     simp [f,O,c,m5,-av];exact X _ (by simp [M]) (by simp [N]) (by simp [E]) (by simp [b]) (by simp [g5]) (by simp [O]) (by simp [S]) (by simp [F]) (by simp [s]) (by simp [q]) (by simp [ha]) (by simp [hb]) (by simp)
  ·rintro t H ⟨M,N,E,b,g5,O,S,F,s,q,rfl⟩ - -;rw [b9];obtain⟨K,m⟩:=aP (J3.set 1 (.box ((bM ((et r).take (i+1)) n).map cI) 0):an);have p0:K[0]?=ab (.box (kh.map .f) 0):=by rw [m,By (by omega)];exact q0
   have p1:K[1]?=ab (.box ((bM ((et r).take (i+1)) n).map cI) 0):=by rw [m];exact OF (ax q1)
   have L:K[d]?=ab (.box (x.row.map .f) 0):=by rw [m,By (by omega)];exact qx
   have ps:K[d+1]?=ab (.box ((iI k).map .f) 0):=by rw [m,By (by omega)];exact qs
   rw [←m];have e0:aV K ae (.c (.ptr d 0 0))=ab (vi x.d.k):=by simp [aV,L,aF,aK,aU.row]
   have e1:aV K ae (.c (.ptr d 1 0))=ab (vi x.d.eo):=by simp [aV,L,aF,aK,aU.row]
   have e6:aV K ae (.c (.ptr d 6 0))=ab (.c (.f (sl x.tg (ints x.d.li)))):=by simp [aV,L,aF,aK,aU.row]
   have e7:aV K ae (.c (.ptr d 7 0))=ab (.c (.f (.str zQ))):=by simp [aV,L,aF,aK,aU.row]
   have e8:aV K (ab 8) (.c (.ptr d 0 0))=ab (.a (x.row.map .f)):=by simp [aV,L,aF,aK,aU.row]
   have f1:aV K ae (.c (.ptr (d+1) 1 0))=ab (vb (mQ k)):=by simp [aV,ps,aF,aK,iI]
   have f2:aV K (ab 2) (.c (.ptr (d+1) 2 0))=ab (.a [.f (fi (Cg k)),.f (fi (Cf k))]):=by simp [aV,ps,aF,aK,iI]
   have a7:=hK.lis;have d6:=zm x hK.num;have w:=hK.eo;rw [A,aug]at a7 w;have hL:=NG x.tg x.d.li (Cg k) (Cf k) a7 (by omega);have X:∀ t:T,t.g 0=.c (.f (sl g (aM r)))→t.g 3=.c (.ptr 0 0 0)→t.g 4=.c (.sl 1 0 n n 0 1)→t.g 24=.c (.f (sl g (aM r)))→t.g 6=.c (.ptr d 0 0)→t.g 7=.c (.ptr (d+1) 0 0)→t.g 26=vi i→t.g 25=vi n→t.g 10=vb ag→t.g 11=vb ag →
     WP tab.get 110 ae [.code wC,.inBlock 1,.code (Nw 26 122),.inLoop (rY 0 26 25 27 122 qX),.inBlock 0,.code qY] ⟨t,[],K⟩ Q:=by
    intro t M N E b O S s q g10 j4;refine aq (aj ?_);simp [O,e0,-av,show¬ x.d.k=18 by omega];refine aW (by simp) ?_;apply aj;simp [O,S,g10,j4,e6,e8,f2,hL,d6,-av];refine aW (by simp) ?_;refine aw ?_;refine next _ _ ?_ ?_ ?_
    ·exact⟨_,rfl,by simp [M],by simp [N],by simp [E],by simp [b],p0,p1⟩
    ·simp [s]
    ·simp [q]
   apply aj;have i_:bV .eql (.c (.f (.str zQ))) (.c (.f (.str ⟨#[]⟩)))=ab (vb ag):=by simp [bV,Zw,zQ];rfl
   simp [O,e1,e7,-av,i_];refine aq (aj ?_);simp [S,f1,-av];cases hc:mQ k
   ·have l7:=w.2.2 hc;refine aW (by simp) ?_;exact X _ (by simp [M]) (by simp [N]) (by simp [E]) (by simp [b]) (by simp [O]) (by simp [S]) (by simp [s]) (by simp [q]) (by simp [l7]) (by simp)
   ·have l9:decide (0≤x.d.eo∧x.d.eo≤2)=ag:=decide_eq_true ⟨by omega,by omega⟩;refine ak (by simp) (au (.inl rfl) ?_);simp [O,e1,-av,dE,l9];exact X _ (by simp [M]) (by simp [N]) (by simp [E]) (by simp [b]) (by simp [O]) (by simp [S]) (by simp [s]) (by simp [q]) (by simp) (by simp)
 ·rintro t H ⟨r',a,M,N,E,b,h0,h1⟩ - -;have n7:r'=et r:=by rw [a,at6 (by simp;omega)]
  subst n7;clear a;have hU:((bM (et r) n).take (n-1)).any (fun v=>decide (v≠1))=ah:=by
   rw [List.any_eq_false];intro v hv;have:=hG.bM v (by simpa [←hn]using hv);simp [this]
  have hw:ai .i64 ((n:Int)-1)=((n-1:Nat):Int):=by rw [aN];omega
  have hs:fH H 1 (.c (.sl 1 0 n n 0 1)) ae (ab (vi ((n-1:Nat):Int))) ae=ab (.c (.sl 1 0 (n-1) n 0 1)):=by
   have hb:=afq (k:=n-1) (n:=n) (by omega);simp [fH,h1,cL,hb];omega
  have hx:db deep H (.sl 1 0 (n-1) n 0 1)=ab (sl .fs (ints ((bM (et r) n).take (n-1)))):=by
   have e1:(((bM (et r) n).map cI).drop 0).take ((n-1)*1)=(((bM (et r) n).take (n-1)).map fi).map C.f:=by simp [List.map_take,Function.comp_def]
   show db (deep-1+1) H (.sl 1 0 (n-1) n 0 1)=_;rw [jf,h1];simp only [e1,zi];rw [bg (by simp)];have m9:((bM (et r) n).take (n-1)).length=n-1:=by simp
   by_cases n4:n=1
   ·subst n4;simp [sl,Tg.fc,ints]
   ·have n5:¬ (ints ((bM (et r) n).take (n-1))).isEmpty=ag:=by
     rw [List.isEmpty_iff,←List.length_eq_zero_iff];simp;omega
    rw [sl,aY n5,xv,BC,m9];rfl
  apply aj;have a9:=afj .fs ((bM (et r) n).take (n-1)) (by simp;omega);rw [hU]at a9;simp [M,E,←hn,hw,hs,hx,a9];exact aE (hQ _ _ (by simp)))
theorem M_{H:an}(g:Tg)(l:List Int)(d:l.length≤1000):∃ r b,Ev tab.get (.fn 85) [.c (.f (sl g (ints l)))] H r b∧∃ c J,r=.c c∧b=H++J∧LR (H++J) c 1 (ints l)∧∀ i,aX c=ab i→H.length≤i:=
 ZO (sz:=1) (zs:=[fi 0]) (bytes:=8) ajc (by decide) (ei l) (cB (by simp;omega) (by decide))
theorem ahH{H:an}{g:Tg}{r:List aU}(L:Good (et r))(O:r.length≤64){pm pr pw mb:Nat}(f:H[pm]?=ab (.box [.mp mb] 0))(m:H[mb]?=ab (.map []))(hr:H[pr]?=ab (.box [.f (sl g (aM r))] 0)) :
  ∃ q y,Ev tab.get (.fn 124) [vi 0,.c (.ptr pm 0 0),.c (.ptr pr 0 0),.c (.ptr pw 0 0)] H q y∧y=H.set mb (.map [(fi 0,.f (.bool ag))]):=by
 have d:0<r.length:=by have:=L.pos;simpa using this
 refine dt (C:=fun q y=>y=H.set mb (.map [(fi 0,.f (.bool ag))])) ai' rfl fun Q N=>?_;apply aj;have U:aV H ae (.c (.ptr pm 0 0))=ab (.c (.mp mb)):=by simp [aV,f,aF,aK]
 have F:∀ t:T,(R 6).ev t=.c (.mp mb)→(R 7).ev t=vi 0→bu t H (.kB .int (R 6) (R 7) kt)=ab (.top,H.set mb (.map [(fi 0,.f (.bool ag))])):=by
  intro t X Y;simp only [bu,X,Y];have:su (Arg.ev t kt)=ab (.f (.bool ag)):=rfl;simp only [this,m];rfl
 simp [U,-av,F];obtain⟨K,M⟩:=aP (H.set mb (.map [(fi 0,.f (.bool ag))]):an);have I:pr≠mb:=by rintro rfl;rw [hr]at m;cases m
 have h:K[pr]?=ab (.box [.f (sl g (aM r))] 0):=by rw [M,By (Ne.symm I)];exact hr
 have W:aV K ae (.c (.ptr pr 0 0))=ab (.c (.f (sl g (aM r)))):=by simp [aV,h,aF,aK]
 rw [←M]at N ⊢;obtain⟨x,S⟩:=aP (r[0]);have z:=L.at_ 0 (by simpa using d);have J:(et r)[0]'(by simpa using d)=x.d:=by rw [S];simp
 rw [J]at z;have Z:=z.ok.2.k;obtain⟨k,u⟩:∃ k:Nat,x.d.k=k:=⟨x.d.k.toNat,by omega⟩
 have l:=ti Z.1;have v:dN x.d.k=0:=by
  rcases auv (dN x.d.k)with e | e
  ·exact e
  ·have:=z.l1 e;omega
 rw [v,u,aug]at l;have s:aL K 8 ae (.c (.f (sl g (aM r)))) (vi 0)=ab (.c (.f (.fp (aM r).flatten 0))):=eT (H:=K) (g:=g) (r:=r) (j:=0) d O;have E:aV K ae (.c (.f (.fp (aM r).flatten 0)))=ab (vi x.d.k):=by
  have:=gu (H:=K) (rows:=aM r) (j:=0) (sz:=8) (row:=r[0].row) (x:=fi r[0].d.k) (eH r) (nM d) rfl;rw [S];simpa using this
 have B:mM 19 4 (ab 4) (.a (kh.map .f)) (vi x.d.k)=ab (.a ((iI k).map .f)):=by
  have O:kh.length=76:=by decide
  simp only [mM,dD,u];rw [bg ⟨by omega,by omega⟩,aug];simp [aK,←avv,←List.map_take,EI (show k<19 by omega)];omega
 apply aj;have A:∀ a b c,nB 0 ae (.a [.f (fi 0),a,b,c])=ab (vi 0):=fun _ _ _=>rfl;simp [rZ,W,-av,s,E,B,iI,←l,A];refine aq (aj ?_);simp;refine aW (by simp) ?_;apply aj;simp;refine aW (by simp) ?_;exact jX (N _ _ (.t []) rfl rfl rfl)
def aU.er(x:aU)(c:C):List C:=[cI x.d.k,cI x.d.eo,cI x.d.l,cI x.d.r,cI x.d.n,cI x.d.m,c,.f (.str zQ)]
theorem ajQ{H:an}{x:aU}(n:dN x.d.k=0)(r:1≤x.d.k∧x.d.k≤17)(Y:x.d.li.length≤61)(pc:C) :
  ∃ q L,Ev tab.get (.fn 125) [.c (.f .aG),.a (x.row.map .f),.c pc] H q L∧∃ v c J,q=.c (.sl v 0 1 0 0 8)∧L=H++J∧H.length≤v∧(H++J)[v]?=ab (.bR 8 (x.er c) 0 0 .loc)∧LR (H++J) c 1 (ints x.d.li)∧∀ i,aX c=ab i→H.length≤i:=by
 obtain⟨k,I⟩:∃ k:Nat,x.d.k=k:=⟨x.d.k.toNat,by omega⟩
 have s:=ti r.1;rw [n,I,aug]at s;refine dt (C:=fun q L=>∃ v c J,q=.c (.sl v 0 1 0 0 8)∧L=H++J∧H.length≤v∧(H++J)[v]?=ab (.bR 8 (x.er c) 0 0 .loc)∧LR (H++J) c 1 (ints x.d.li)∧∀ i,aX c=ab i→H.length≤i) ai_ rfl fun Q o=>?_;apply aj;simp;obtain⟨l,j⟩:=aP (H++[.box (x.row.map .f) 0]:an);have b1:l[H.length]?=ab (.box (x.row.map .f) 0):=by rw [j];simp
 have l1:l.length=H.length+1:=by rw [j];simp
 rw [←j];obtain⟨r',K,O,c,J,rfl,rfl,N,F⟩:=M_ (H:=l) x.tg x.d.li (by omega);have e:aV l ae (.c (.ptr H.length 6 0))=ab (.c (.f (sl x.tg (ints x.d.li)))):=by simp [aV,b1,aF,aK,aU.row]
 have M:(l++J)[H.length]?=ab (.box (x.row.map .f) 0):=by rw [AI (ax b1)];exact b1
 have u:(l++J).set H.length (.box (x.er c) 0)=H++(.box (x.er c) 0::J):=by
  rw [j,auC,List.set_append_right _ _ (aft _),Nat.sub_self];rfl
 have W:dn (l++J) (.ptr H.length 6 0) [c]=ab (H++(.box (x.er c) 0::J)):=by
  rw [←u];simp [dn,M,aU.row,aU.er,over]
 apply aj;simp [e,-av,-bs,O.eq,W];obtain⟨K,z⟩:=aP (H++(.box (x.er c) 0::J):an);have Z:K[H.length]?=ab (.box (x.er c) 0):=by rw [z];simp
 have X:LR K c 1 (ints x.d.li):=by
  refine N.cu fun i y t p=>?_;have:=F i p;rw [z,←u,By (by omega)];exact t
 have kl:K.length=l.length+J.length:=by rw [z];simp [l1];omega
 rw [←z];have f:aV K ae (.c (.ptr H.length 0 0))=ab (vi x.d.k):=by simp [aV,Z,aF,aK,aU.er]
 have U:mM 19 4 (ab 4) (.a (kh.map .f)) (vi x.d.k)=ab (.a ((iI k).map .f)):=by
  have hl:kh.length=76:=by decide
  simp only [mM,dD,I];rw [bg ⟨by omega,by omega⟩,aug];simp [aK,←avv,←List.map_take,EI (show k<19 by omega)];omega
 have S:∀ a b c,nB 0 ae (.a [.f (fi 0),a,b,c])=ab (vi 0):=fun _ _ _=>rfl;refine aq (aj ?_);simp [rZ,f,-av,U,iI,←s,S];refine az (aj ?_);simp;refine al (by simp) (aj ?_);simp;refine aW (by simp) ?_;refine aw ?_;have h:aV K (ab 8) (.c (.ptr H.length 0 0))=ab (.a (x.er c)):=by simp [aV,Z,aF,aK,aU.er]
 apply aj;have E:(x.er c).length=8:=rfl;obtain⟨m,d⟩:=aP (K++[.box (x.er c) 0]:an);have w:m[K.length]?=ab (.box (x.er c) 0):=by rw [d];simp
 have A:=kY (H:=m) (sz:=8) (c:=1) w E;have B:bK m 8 88 (.c (.f .aG)) (.c (.sl K.length 0 1 1 0 8))=ab (.c (.sl m.length 0 1 0 0 8),m++[.bR 8 (x.er c) 0 0 .loc]):=by
  have hr:bU 1 88=ag:=by decide
  simp [bK,A,hr]
 simp [h,-av,E];rw [←d];simp [B];have g:m++[.bR 8 (x.er c) 0 0 .loc]=H++((.box (x.er c) 0::J)++[.box (x.er c) 0]++[.bR 8 (x.er c) 0 0 .loc]):=by rw [d,z];simp
 refine aE (o _ _ (.c (.sl m.length 0 1 0 0 8)) rfl (jJ (by simp)) ⟨m.length,c,_,rfl,g,?_,?_,?_,fun i hi=>?_⟩)
 ·rw [d,z];simp
 ·rw [←g];simp
 ·rw [←g,d];exact(X.push _).push _
 ·have:=F i hi;omega
theorem akc{H:an}{x:aU}{c:C}{b:Nat}(d:H[b]?=ab (.bR 8 (x.er c) 0 0 .loc))(j:LR H c 1 (ints x.d.li)):∃ F,db deep H (.sl b 0 1 0 0 8)=ab F:=by
 obtain⟨g,l⟩:=j.ex (ei _) 62;refine⟨.fs [fi x.d.k,fi x.d.eo,fi x.d.l,fi x.d.r,fi x.d.n,fi x.d.m,sl g (ints x.d.li),.str zQ] 1,?_⟩;show db (63+1) H (.sl b 0 1 0 0 8)=_;rw [jf,d];have:(x.er c).drop 0=x.er c:=rfl;simp [aU.er,aZ,l]
theorem agV(g:Tg){r:List aU}(hG:Good (et r))(hl:r.length≤64):∃ F,bB tab.get 81 [.c (.f (sl g (aM r))),vi 0]=Eq (.t [.c (.f F),vi 0]):=by
 obtain⟨rr,⟨F,rfl⟩,hp⟩:∃ rr,(∃ F,rr=.t [.c (.f F),vi 0])∧bB tab.get 81 [.c (.f (sl g (aM r))),vi 0] rr:=by
  have A:0<r.length:=by have:=hG.pos;simpa using this
  have d9:=v7 g hG hl;obtain⟨n,hn⟩:=aP (r.length);refine bY rfl rfl fun Q hQ=>?_;apply aj;simp;refine aq (az (aj ?_));simp [aK,d9];refine al (by simp) (aj ?_);simp [aK,←hn,show¬ n=0 by omega];refine al (by simp) (aH (aw ?_));have L:bU n 8=ag:=cB (by omega) (by decide);have a9:∀(t:T) (H:an),(R 26).ev t=vi n→bu t H (.c4 1 8 [fi 0] (R 26) (R 26))=ab (.c (.sl H.length 0 n n 0 1),H++[.box ((List.replicate n (fi 0)).map .f) 0]):=by
   intro t H h;have e:(cP n [fi 0]).map C.f=(List.replicate n (fi 0)).map .f:=by simp [cP]
   simp only [bu,h,dD];rw [bg ⟨by omega,au0 _,by simpa using L,rfl⟩,aY (by omega),aug,e]
  apply aj;simp [aK,←hn,a9];apply aj;simp;apply aj;simp;apply aj;have a_:∀(t:T) (H:an),bu t H .kD=ab (.c (.mp H.length),H++[.map []]):=fun _ _=>rfl;simp [a_];apply aj;simp;obtain⟨Hw,d⟩:=aP ([.box [.f (sl g (aM r))] 0,.box (List.replicate n (.f (fi 0))) 0,.box [.cl 124 [.ptr 4 0 0,.ptr 0 0 0,.ptr 2 0 0]] 0,.map [],.box [.mp 3] 0]:an);rw [←d];obtain⟨q,H',he,rfl⟩:=ahH (H:=Hw) (g:=g) hG hl (pm:=4) (pr:=0) (pw:=2) (mb:=3) (by rw [d];rfl) (by rw [d];rfl) (by rw [d];rfl);have e8:aV Hw ae (.c (.ptr 2 0 0))=ab (.c (.cl 124 [.ptr 4 0 0,.ptr 0 0 0,.ptr 2 0 0])):=by rw [d];rfl
  apply aj;simp [e8,-av,ca,he.eq];obtain⟨H0,m⟩:=aP (Hw.set 3 (.map [(fi 0,.f (.bool ag))]):an);rw [←m];have z0:H0[0]?=ab (.box [.f (sl g (aM r))] 0):=by rw [m,d];rfl
  have z1:H0[1]?=ab (.box ((List.replicate n (fi 0)).map .f) 0):=by rw [m,d];simp
  have z3:H0[3]?=ab (.map [(fi 0,.f (.bool ag))]):=by rw [m,d];rfl
  have z4:H0[4]?=ab (.box [.mp 3] 0):=by rw [m,d];rfl
  clear m d he e8 a_ a9;have e2:aV H0 ae (.c (.ptr 0 0 0))=ab (.c (.f (sl g (aM r)))):=by simp [aV,z0,aF,aK]
  refine aq (aj ?_);simp [e2,-av,←hn];obtain⟨E,b9⟩:=aP (r[0]);have hA:=hG.at_ 0 (by simpa using A);have d_:(et r)[0]'(by simpa using A)=E.d:=by rw [b9];simp
  rw [d_]at hA;have hk:=hA.ok.2.k;have b7:dN E.d.k=0:=by
   rcases auv (dN E.d.k)with e | e
   ·exact e
   ·have:=hA.l1 e;omega
  refine fE n (fun i t H=>t.g 33=.c (.f (sl g (aM r)))∧t.g 6=.c (.sl 1 0 n n 0 1)∧t.g 9=.c (.ptr 4 0 0)∧H[4]?=ab (.box [.mp 3] 0)∧H[3]?=ab (.map [(fi 0,.f (.bool ag))])∧(∃ cs:List FC,cs.length=n∧H[1]?=ab (.box (cs.map .f) 0)) ∧
    (i=0→t.g 7=.c (.f .aG))∧(0<i→∃ v c,t.g 7=.c (.sl v 0 1 0 0 8)∧2≤v∧H[v]?=ab (.bR 8 (E.er c) 0 0 .loc)∧LR H c 1 (ints E.d.li)∧∀ b,aX c=ab b→2≤b))
   (by omega) (by decide) (by decide) (by simp) (by simp) ⟨by simp,by simp,by simp,z4,z3,⟨_,by simp,z1⟩,fun _=>by simp,fun h=>absurd h (by omega)⟩ ?_ ?_
  ·rintro i t H hi ⟨z,O,g9,U,h3,⟨cs,Z,h1⟩,hz,hp⟩ ha hb next
   have a7:i<r.length:=by omega
   refine az (aj ?_);simp [ha,z,eT a7 hl,me a7,aU.row];obtain⟨J,N⟩:=aP (H++[.box (r[i].row.map .f) 0]:an);have jx:J[H.length]?=ab (.box (r[i].row.map .f) 0):=by rw [N];simp
   have B:∀ {b:Nat} {y:c6},H[b]?=ab y→J[b]?=ab y:=fun {b y} h=>by rw [N,AI (ax h)];exact h
   have jl:J.length=H.length+1:=by rw [N];simp
   have e_:∀ {c:C} {rows:List (List FC)},LR H c 1 rows→LR J c 1 rows:=fun h=>by rw [N];exact h.push _
   simp only [aU.row,anc,atN]at N;rw [←N];have e9:aV J ae (.c (.ptr 4 0 0))=ab (.c (.mp 3)):=by simp [aV,B U,aF,aK]
   have d6:∀ t:T,(R 40).ev t=.c (.mp 3)→(R 41).ev t=vi i→bu t J (.lookup .int (.bool ah) (R 40) (R 41))=ab (vb (decide (i=0)),J):=by
    intro t c9 c_;have e:gw J .int (.bool ah) (.c (.mp 3)) (vi i)=ab (vb (decide (i=0))):=by
     simp only [gw,B h3];have:nK .int (fi (i:Int)) [(fi 0,.f (.bool ag))]=ab (if i=0 then ab (.f (.bool ag))else ae):=by
      simp only [nK,eqK];by_cases j:i=0
      ·subst j;rfl
      ·have:(((i:Int)) == 0)=ah:=by simp;exact j
       simp [j,this]
     rw [this];by_cases j:i=0
     ·subst j;rfl
     ·simp [j];exact⟨rfl,rfl⟩
    simp only [bu,c9,c_,e];rfl
   apply aj;simp [g9,e9,-av,d6];by_cases j:i=0
   ·subst j;have S:=hz rfl;have d7:r[0].row=E.row:=by rw [b9]
    have b_:aV J (ab 8) (.c (.ptr H.length 0 0))=ab (.a (E.row.map .f)):=by
     rw [d7]at jx;simp [aV,jx,aF,aK,aU.row]
    have w0:ai .i64 0=0:=by decide
    obtain⟨q,H',hq,v,c,M,rfl,rfl,f_,l,s,Y⟩:=ajQ (H:=J) (x:=E) b7 hk (by have:=hA.ok.1;omega) (.sl 1 0 n n 0 1);refine ak (by simp) (aj ?_);simp [S,O,b_,-av,hq.eq];have u:∀ {b:Nat} {y:c6},H[b]?=ab y→(J++M)[b]?=ab y:=fun {b y} h=>by rw [AI (ax (B h))];exact B h
    obtain⟨K,hK⟩:=aP (J++M:an);rw [←hK]at l s u ⊢;have I:bJ K (.sl v 0 1 0 0 8)=ab 1:=by simp [bJ,l]
    have d5:aL K 1 ae (.c (.sl 1 0 n n 0 1)) (vi 0)=ab (.c (.ptr 1 0 0)):=by
     simp [aL,dD,u h1];omega
    have d8:dn K (.ptr 1 0 0) [.f (fi 0)]=ab (K.set 1 (.box ((cs.set 0 (fi 0)).map .f) 0)):=by
     simp only [dn,u h1];rw [bg (by simp;omega),List.map_set,uU (by simp;omega)]
    have f9:=ax U;refine au (.inl rfl) ?_;simp [O,I,d5,d8,w0,-bs];refine aw ?_;refine next _ _ ⟨by simp [z],by simp [O],by simp [g9],?_,?_,⟨cs.set 0 (fi 0),by simp [Z],?_⟩,fun h=>absurd h (by omega),fun _=>⟨v,c,by simp,by omega,?_,?_,fun b hb=>?_⟩⟩ (by simp [ha]) (by simp [hb])
    ·rw [By (by decide)];exact u U
    ·rw [By (by decide)];exact u h3
    ·rw [List.map_set];exact OF (ax (u h1))
    ·rw [By (by omega)];exact l
    ·exact s.set (fun e=>by have:=Y 1 e;omega) _
    ·have:=Y b hb;omega
   ·obtain⟨v,c,S,W,l,s,X⟩:=hp (by omega);refine al (by simp [j]) (aH (aw ?_));refine next _ _ ⟨by simp [z],by simp [O],by simp [g9],B U,B h3,⟨cs,Z,B h1⟩,fun h=>absurd h (by omega),fun _=>⟨v,c,by simp [S],W,B l,e_ s,X⟩⟩ (by simp [ha]) (by simp [hb])
  ·rintro t H ⟨z,O,g9,U,h3,-,-,hp⟩ - -;obtain⟨v,c,S,W,l,s,X⟩:=hp (by omega);obtain⟨F,hF⟩:=akc l s;apply aj;simp [S];refine aE (hQ _ _ _ ⟨F,rfl⟩ ⟨rfl,.t [.c (.sl v 0 1 0 0 8),vi 0],?_,?_⟩)
   ·simp [Km.results,bw,aZ]
   ·simp [fZ,bX,aZ,hF]
 exact⟨F,hp.eq⟩
theorem vk(n lo hi:Int):bB tab.get 31 [vi n,vi lo,vi hi]=Eq (vb (decide (lo≤n∧n≤hi))):=bB.eq (by
 refine bI rfl rfl fun Q b=>?_;apply aj;simp;apply aj;by_cases h:lo≤n
 ·simp [h];exact aE (b _ _ (by simp [h]))
 ·simp [h];exact aE (b _ _ (by simp [h])))
theorem ft(n lo hi:Int):∃ b,decide (lo≤n∧n≤hi)=b∧bB tab.get 31 [vi n,vi lo,vi hi]=Eq (vb b):=⟨_,rfl,vk n lo hi⟩
def sE(m:bz):Bool:=decide (0≤m.day∧m.day≤1099511627776) &&
 (if m.drop=ag then decide (m.to=0)&&decide (m.mi=0)&&decide (m.le=0)else decide (0≤m.to∧m.to≤1099511627776)&&decide (0≤m.mi∧m.mi≤1439)&&decide (1≤m.le∧m.le≤10080))
theorem aat{m:bz}(h:m.OK):sE m=ag:=by
 obtain⟨d,g,j⟩:=h;unfold sE;rw [decide_eq_true d];cases b:m.drop
 ·have:=j b;simp;omega
 ·have:=g b;simp;omega
theorem NW(m:bz):bB tab.get 37 [.a (m.row.map .f)]=Eq (vb (sE m)):=bB.eq (by
 obtain⟨g,b,q,l,j⟩:=m;refine bI rfl rfl fun Q d=>?_;apply aj;simp [bz.row];refine aq (aj ?_);simp;obtain⟨b1,v,B⟩:=ft g 0 1099511627776;obtain⟨s,x,E⟩:=ft q 0 1099511627776;obtain⟨u,y,F⟩:=ft l 0 1439;obtain⟨b4,z,H⟩:=ft j 1 10080;have A:∀ b,sE ⟨g,b,q,l,j⟩=(b1&&(if b=ag then decide (q=0)&&decide (l=0)&&decide (j=0)else s&&u&&b4)):=fun b=>by
  unfold sE;rw [←v,←x,←y,←z]
 rw [A]at d;clear A v x y z;cases b
 ·refine aW (by simp) ?_;apply aj;simp [B];cases b1
  ·simp;exact aE (d _ _ (by simp))
  simp [E];cases s
  ·simp;exact aE (d _ _ (by simp))
  simp [F];cases u
  ·simp;exact aE (d _ _ (by simp))
  simp [H];exact aE (d _ _ (by simp))
 ·refine ak (by simp) ?_;apply aj;simp [B];cases b1
  ·simp;exact aE (d _ _ (by simp))
  simp [z6];refine aE (d _ _ ?_);have e:(q == 0&&(l == 0&&j == 0))=(ag&&(if True then decide (q=0)&&decide (l=0)&&decide (j=0)else s&&u&&b4)):=by
   simp [Bool.and_assoc];rfl
  simp [e])
def fT(p:Option Int):List bz→Bool
 | []=>ag| m::r=>sE m&&(match p with | none=>ag | some d=>decide (d<m.day))&&fT (ab m.day) r
theorem xH:∀ {l:List bz} {p:Option Int},pV l→(∀ m ∈ l,m.OK)→(∀ d,p=ab d→∀ m ∈ l,d<m.day)→fT p l=ag
 | [],_,_,_,_=>rfl
 | m::r,p,u,j,s=>by
  have b:=auw.1 u;simp only [fT];rw [aat (j m at2),xH b.2 (fun x g=>j x (aub _ g)) (fun d q x g=>by cases q;exact b.1 x g)];cases p with
  | none=>rfl| some d=>simp;exact s d rfl m at2
theorem BK{p:Option Int}{l:List bz}{j:Nat}(b:j<l.length):fT p (l.drop j)=(sE l[j]&&(match p with | none=>ag | some d=>decide (d<l[j].day))&&fT (ab l[j].day) (l.drop (j+1))):=by
 rw [at5 b];rfl
def Z1(s:bW):Bool:=decide (0≤s.mi∧s.mi≤1439)&&decide (1≤s.le∧s.le≤10080)&&decide (0≤s.cR∧s.cR≤2)&&decide (0≤s.fold∧s.fold≤2)&&decide (1≤(s.zo.size:Int)∧(s.zo.size:Int)≤32)&&!decide ((64:Int)<s.mv.length)
def vg(s:bW):Bool:=Z1 s&&fT ae s.mv
theorem bW.OK.sound{s:bW}(h:s.OK):vg s=ag:=by
 have g:=h.mi;have j:=h.le;have l:=h.zo;have m:=h.cR;have q:=h.fold;have u:=h.ml;unfold vg Z1;rw [xH h.ms h.mo (fun d b=>by cases b)];simp;omega
theorem abw{s:bW}(hG:Good (et s.ru))(hl:s.ru.length≤64)(S:s.mv.length≤9223372036854775807)(d6:s.zo.size≤9223372036854775807):bB tab.get 29 [s.v]=Eq (vb (vg s)):=bB.eq (by
 obtain⟨F,u⟩:=agV s.rg hG hl;obtain⟨rg,ru,mi,le,zo,cR,fold,K,d⟩:=s;simp only at u S d6;refine bI rfl rfl fun Q W=>?_;obtain⟨b1,h1,w1⟩:=ft mi 0 1439;obtain⟨Z,h2,w2⟩:=ft le 1 10080;obtain⟨b3,h3,w3⟩:=ft cR 0 2;obtain⟨b4,h4,w4⟩:=ft fold 0 2;obtain⟨b5,h5,w5⟩:=ft zo.size 1 32;obtain⟨b6,h6⟩:∃ b,decide ((64:Int)<d.length)=b:=⟨_,rfl⟩
 obtain⟨row,B⟩:=aP (bW.row ⟨rg,ru,mi,le,zo,cR,fold,K,d⟩);have N:vg ⟨rg,ru,mi,le,zo,cR,fold,K,d⟩=(b1&&Z&&b3&&b4&&b5&&!b6&&fT ae d):=by
  unfold vg Z1;rw [←h1,←h2,←h3,←h4,←h5,←h6]
 rw [N]at W;clear N h1 h2 h3 h4 h5;apply aj;simp [bW.row];refine aq (aj ?_);simp [u];apply aj;simp;refine aW (by simp) ?_;have L:∀(t:T) H,t.g 49=vb ag→(b1&&Z&&b3&&b4&&b5&&!b6&&fT ae d)=ah→WP tab.get 29 ae [.code wG,.code wH] ⟨t,[],H⟩ Q:=by
  intro t H a7 y;refine ak a7 (aj ?_);simp;exact aE (W _ _ (by simp [y]))
 refine aq (aj ?_);simp [w1];cases b1
 ·simp;exact L _ _ (by simp) (by simp)
 simp [w2];cases Z
 ·simp;exact L _ _ (by simp) (by simp)
 simp [w3];cases b3
 ·simp;exact L _ _ (by simp) (by simp)
 simp [w4];cases b4
 ·simp;exact L _ _ (by simp) (by simp)
 simp [w5];cases b5
 ·simp;exact L _ _ (by simp) (by simp)
 simp [h6];cases b6
 case true=>exact L _ _ (by simp) (by simp)
 clear L;refine aW (by simp) ?_;obtain⟨H0,q⟩:=aP ([.box (row.map .f) 0]:an);have hz:H0[0]?=ab (.box (row.map .f) 0):=by rw [q];rfl
 have e6:∀ H:an,H[0]?=ab (.box (row.map .f) 0)→aV H ae (.c (.ptr 0 6 0))=ab (.c (.f (sl K (bh d)))):=fun H h=>by
  simp [aV,h,aF,aK,B,bW.row]
 rw [B]at q;simp only [bW.row,anc,atN]at q;rw [←q];clear q;refine aq (aj ?_);simp [e6 _ hz,-av];refine fE d.length (fun j t H=>t.g 1=.c (.ptr 0 0 0)∧t.g 51=.c (.f (sl K (bh d)))∧H[0]?=ab (.box (row.map .f) 0)∧fT ae d=fT (if h:0<j∧j-1<d.length then ab (d[j-1]'h.2).day else ae) (d.drop j)) S (by decide) (by decide) (by simp) (by simp) ⟨by simp,by simp,hz,by simp⟩ ?_ ?_
 ·rintro j t H Y ⟨M,l,h0,v⟩ X y next
  obtain⟨m,N⟩:=aP (d[j]);rw [BK Y,←N]at v;have d5:=NW m;have A:∀(H:an) (i:Nat),i<d.length→aL H 5 ae (.c (.f (sl K (bh d)))) (vi i)=ab (.c (.f (.fp (bh d).flatten (i*5)))):=fun H i hi=>by
   have:=cE (H:=H) (g:=K) (rows:=bh d) (sz:=5) (k:=.i64) (i:=(i:Int)) (by omega) (by simp;omega);simpa using this
  have c_:aV H (ab 5) (.c (.f (.fp (bh d).flatten (j*5))))=ab (.a (m.row.map .f)):=by rw [N];exact ez (df d) (kE Y)
  refine az (aj ?_);simp [X,l,A _ _ Y,c_,bz.row];obtain⟨J,U⟩:=aP (H++[.box (m.row.map .f) 0]:an);have jx:J[H.length]?=ab (.box (m.row.map .f) 0):=by rw [U];simp
  have j0:J[0]?=ab (.box (row.map .f) 0):=by rw [U,AI (ax h0)];exact h0
  simp only [bz.row,anc,atN]at U;rw [←U];have e5:aV J (ab 5) (.c (.ptr H.length 0 0))=ab (.a (m.row.map .f)):=by simp [aV,jx,aF,aK,bz.row]
  have e0:aV J ae (.c (.ptr H.length 0 0))=ab (vi m.day):=by simp [aV,jx,aF,aK,bz.row]
  have bad:∀ t:T,t.g 76=vb ag→fT ae d=ah→WP tab.get 29 ae [.code q8,.inBlock 1,.code q9,.inLoop qZ,.inBlock 0,.code q_] ⟨t,[],J⟩ Q:=by
   intro t E y;refine ak E (aj ?_);simp;exact aE (W _ _ (by simp [y]))
  have z:∀ t:T,t.g 76=vb ah→t.g 1=.c (.ptr 0 0 0)→t.g 51=.c (.f (sl K (bh d)))→t.g 53=vi j→t.g 52=vi d.length→fT ae d=fT (ab m.day) (d.drop (j+1))→WP tab.get 29 ae [.code q8,.inBlock 1,.code q9,.inLoop qZ,.inBlock 0,.code q_] ⟨t,[],J⟩ Q:=by
   intro t E M l a_ a9 y;refine al E (aH (aw ?_));refine next _ _ ⟨by simp [M],by simp [l],j0,?_⟩ (by simp [a_]) (by simp [a9])
   rw [y,dif_pos ⟨by omega,by simpa using Y⟩];simp [N]
  apply aj;simp [e5,-av,d5];cases O:sE m
  ·rw [O]at v;simp;exact bad _ (by simp) (by rw [v];simp)
  rw [O]at v;simp;by_cases b_:j=0
  ·subst b_;simp;exact z _ (by simp) (by simp [M]) (by simp [l]) (by simp [X]) (by simp [y]) (by rw [v];simp)
  ·have hw:ai .i64 ((j:Int)-1)=((j-1:Nat):Int):=by rw [aN];omega
   have I:j-1<d.length:=by omega
   have b9:=A J (j-1) I;have c9:aV J ae (.c (.f (.fp (bh d).flatten ((j-1)*5))))=ab (vi d[j-1].day):=by
    have:=gu (H:=J) (rows:=bh d) (j:=j-1) (sz:=5) (row:=d[j-1].row) (x:=fi d[j-1].day) (df d) (kE I) rfl;exact this
   rw [dif_pos ⟨by omega,I⟩]at v;simp [show 0<j by omega,e0,M,e6 _ j0,hw,b9,c9,-av];by_cases hd:d[j-1].day<m.day
   ·exact z _ (by simp;omega) (by simp [M]) (by simp [l]) (by simp [X]) (by simp [y]) (by rw [v];simp [hd])
   ·exact bad _ (by simp;omega) (by rw [v];simp [hd])
 ·rintro t H ⟨M,l,h0,v⟩ X y;have b7:fT ae d=ag:=by rw [v];simp [fT]
  apply aj;simp;exact aE (W _ _ (by simp [b7])))
theorem ea(n lo hi:Int):bB tab.get 190 [vi n,vi lo,vi hi]=Eq (vb (decide (lo≤n∧n≤hi))):=bB.eq (by
 refine bI rfl rfl fun Q b=>?_;apply aj;simp;apply aj;by_cases h:lo≤n
 ·simp [h];exact aE (b _ _ (by simp [h]))
 ·simp [h];exact aE (b _ _ (by simp [h])))
theorem zv:∀ k:Nat,k<19→bB tab.get 165 [vi k]=Eq (vi (va k))
 | 0,_=>eA (by kernel_rfl)
 | 1,_=>eA (by kernel_rfl)
 | 2,_=>eA (by kernel_rfl)
 | 3,_=>eA (by kernel_rfl)
 | 4,_=>eA (by kernel_rfl)
 | 5,_=>eA (by kernel_rfl)
 | 6,_=>eA (by kernel_rfl)
 | 7,_=>eA (by kernel_rfl)
 | 8,_=>eA (by kernel_rfl)
 | 9,_=>eA (by kernel_rfl)
 | 10,_=>eA (by kernel_rfl)
 | 11,_=>eA (by kernel_rfl)
 | 12,_=>eA (by kernel_rfl)
 | 13,_=>eA (by kernel_rfl)
 | 14,_=>eA (by kernel_rfl)
 | 15,_=>eA (by kernel_rfl)
 | 16,_=>eA (by kernel_rfl)
 | 17,_=>eA (by kernel_rfl)
 | 18,_=>eA (by kernel_rfl)
 | k+19,h=>absurd h (by omega)
theorem oe:∀ k:Nat,k<19→bB tab.get 164 [vi k]=Eq (vb (mQ k))
 | 0,_=>eA (by kernel_rfl)
 | 1,_=>eA (by kernel_rfl)
 | 2,_=>eA (by kernel_rfl)
 | 3,_=>eA (by kernel_rfl)
 | 4,_=>eA (by kernel_rfl)
 | 5,_=>eA (by kernel_rfl)
 | 6,_=>eA (by kernel_rfl)
 | 7,_=>eA (by kernel_rfl)
 | 8,_=>eA (by kernel_rfl)
 | 9,_=>eA (by kernel_rfl)
 | 10,_=>eA (by kernel_rfl)
 | 11,_=>eA (by kernel_rfl)
 | 12,_=>eA (by kernel_rfl)
 | 13,_=>eA (by kernel_rfl)
 | 14,_=>eA (by kernel_rfl)
 | 15,_=>eA (by kernel_rfl)
 | 16,_=>eA (by kernel_rfl)
 | 17,_=>eA (by kernel_rfl)
 | 18,_=>eA (by kernel_rfl)
 | k+19,h=>absurd h (by omega)
theorem nS{x:bF}(h:x.OK):bB tab.get 165 [vi x.k]=Eq (vi (dN x.k)):=by
 have d:=h.2.k;obtain⟨k,b⟩:∃ k:Nat,x.k=k:=⟨x.k.toNat,by omega⟩
 have e:=ti d.1;rw [e,b,aug];exact zv k (by omega)
theorem ET{x:bF}(h:x.OK):bB tab.get 164 [vi x.k]=Eq (vb (mQ x.k.toNat)):=by
 have d:=h.2.k;obtain⟨k,b⟩:∃ k:Nat,x.k=k:=⟨x.k.toNat,by omega⟩
 rw [b,aug];exact oe k (by omega)
theorem BM(x:aU)(h:w9 x.d.k x.d.l x.d.n x.d.m):bB tab.get 192 [.a (x.row.map .f)]=Eq (vb ag):=bB.eq (by
 obtain⟨⟨k,A,l,r,n,m,li⟩,tg⟩:=x;simp only [w9]at h;refine bI rfl rfl fun Q E=>?_;have b:∀ t H,t.g 2=vb ag→WP tab.get 192 ae [.code .ret,.inBlock 0,.code tA] ⟨t,[],H⟩ Q:=fun t H I=>aE (E _ _ (by simp [I]));apply aj;simp [aU.row];refine aq (aj ?_);simp;refine az (aj ?_);simp;by_cases v:k=1
 ·rw [bg v]at h;refine ak (by simp [v]) (aj ?_);simp [ea,h];exact b _ _ (by simp)
 rw [aY v]at h;refine al (by simp [v]) (aj ?_);simp;by_cases y:k=2
 ·rw [bg y]at h;refine ak (by simp [y]) (aj ?_);simp [ea,h,aN (n:=n-1)];exact b _ _ (by simp)
 rw [aY y]at h;refine al (by simp [y]) (aj ?_);simp;by_cases z:k=7
 ·rw [bg z]at h;refine ak (by simp [z]) (aj ?_);simp [ea,h];exact b _ _ (by simp)
 rw [aY z]at h;refine al (by simp [z]) (aj ?_);simp;by_cases d:k=11
 ·rw [bg d]at h;refine ak (by simp [d]) (aj ?_);simp [ea,h];exact b _ _ (by simp)
 rw [aY d]at h;refine al (by simp [d]) (aq (aj ?_));simp;have u:k=12∨k=13→∀ t,t.g 1=.c (.ptr 0 0 0)→t.g 58=vb ag→WP tab.get 192 ae [.code Aw,.inBlock 0,.code tA] ⟨t,[],[.box ((aU.row ⟨⟨k,A,l,r,n,m,li⟩,tg⟩).map .f) 0]⟩ Q:=by
  intro c t F B;rw [bg c]at h;refine ak B (aj ?_);simp [F,aU.row,ea,h];exact b _ _ (by simp)
 by_cases g:k=12
 ·refine ak (by simp [g]) (aH ?_);exact u (.inl g) _ (by simp) (by simp [g])
 refine al (by simp [g]) (au (.inl rfl) ?_);simp;by_cases s:k=13
 ·exact u (.inr s) _ (by simp) (by simp [s])
 rw [aY (by omega)]at h;refine al (by simp [s]) (aj ?_);simp;by_cases j:k=16
 ·rw [bg j]at h;refine ak (by simp [j]) (aj ?_);simp [ea,h];exact b _ _ (by simp)
 rw [aY j]at h;refine al (by simp [j]) (aj ?_);simp;by_cases q:k=17
 ·rw [bg q]at h;refine ak (by simp [q]) (aj ?_);simp [ea,h];exact b _ _ (by simp)
 rw [aY q]at h;refine aW (by simp [q]) ?_;refine aw (aj ?_);simp [h];exact aE (E _ _ (by simp)))
theorem EH(g:Tg)(l:List Int)(lo hi:Int)(b:Bool)(a:l.length≤9223372036854775807)(N:l≠[])(O:l.Pairwise (· < ·))(Y:∀ x ∈ l,lo≤x∧x≤hi∧(b=ah→x≠0)) :
  bB tab.get 206 [.c (.f (sl g (ints l))),vi lo,vi hi,vb b]=Eq (vb ag):=bB.eq (by
 refine bI rfl rfl fun Q X=>?_;apply aj;simp;refine aq (aj ?_);simp;refine bQ l.length (fun j t H=>t.g 0=.c (.f (sl g (ints l)))∧t.g 1=vi lo∧t.g 2=vi hi∧t.g 3=vb b) a (by decide) (by simp) ⟨by simp,by simp,by simp,by simp⟩ ?_ ?_ ?_
 ·rintro j t H L E ⟨m,u,v,q⟩ s e;simp [s,m];exact e _ ⟨by simp [m],by simp [u],by simp [v],by simp [q]⟩ (by simp [s]) (by simp)
 ·rintro j t H E ⟨m,u,v,q⟩ s h;obtain⟨b1,U,I⟩:=Y _ (IS E);obtain⟨x,S⟩:=aP (l[j]);rw [←S]at b1 U I;have B:∀ i:Nat,i<l.length→aL H 1 ae (.c (.f (sl g (ints l)))) (vi i)=ab (.c (.f (.fp (ints l).flatten i))):=fun i hi=>by
   have:=cE (H:=H) (g:=g) (rows:=ints l) (sz:=1) (k:=.i64) (i:=(i:Int)) (by omega) (by simp;omega);simpa using this
  have z:=B j E;have A:aV H ae (.c (.f (.fp (ints l).flatten j)))=ab (vi x):=by rw [S];exact ej E
  have y:∀ t:T,t.g 0=.c (.f (sl g (ints l)))→t.g 1=vi lo→t.g 2=vi hi→t.g 3=vb b→t.g 9=vi j→t.g 56=vb ah→WP tab.get 206 ae [.code AA,.inBlock 1,.code AB,.inLoop E_,.inBlock 0,.code AD] ⟨t,[],H⟩ Q:=by
   intro t m u v q W J;refine al J (aH (aw ?_));exact h _ _ ⟨by simp [m],by simp [u],by simp [v],by simp [q]⟩ (by simp [W])
  refine az (aj ?_);simp [m,s,z,A,u,show¬ x<lo by omega,v,show¬ hi<x by omega];by_cases Z:j=0
  ·simp [show¬ 0<j by omega,m,s,z,A];by_cases d:x=0
   ·cases b
    ·exact absurd d (I rfl)
    ·simp [d,q];exact y _ (by simp [m]) (by simp [u]) (by simp [v]) (by simp [q]) (by simp [s]) (by simp)
   ·simp [d];exact y _ (by simp [m]) (by simp [u]) (by simp [v]) (by simp [q]) (by simp [s]) (by simp)
  ·have f:ai .i64 ((j:Int)-1)=((j-1:Nat):Int):=by rw [aN];omega
   have c:l[j-1]<x:=by rw [S];exact auc.1 O (j-1) j (by omega) E (by omega)
   have F:j-1<l.length:=by omega
   have K:=B (j-1) F;have M:aV H ae (.c (.f (.fp (ints l).flatten (j-1))))=ab (vi l[j-1]):=ej F;simp [show 0<j by omega,m,s,z,A,f,K,M,show¬ x≤l[j-1] by omega];by_cases d:x=0
   ·cases b
    ·exact absurd d (I rfl)
    ·simp [d,q];exact y _ (by simp [m]) (by simp [u]) (by simp [v]) (by simp [q]) (by simp [s]) (by simp)
   ·simp [d];exact y _ (by simp [m]) (by simp [u]) (by simp [v]) (by simp [q]) (by simp [s]) (by simp)
 ·rintro t H ⟨m,u,v,q⟩ s;have:=auF.2 N;apply aj;simp [m,this];exact aE (X _ _ (by simp)))
theorem aag{l:List Int}{lo hi:Int}(h:nm lo hi l)(b:¬ (lo=0∧hi=0)):l≠[]∧l.Pairwise (· < ·)∧∀ x ∈ l,lo≤x∧x≤hi∧(lo<0→x≠0):=by
 unfold nm at h;rwa [aY b]at h
theorem NH(x:aU)(k:Nat)(M:x.d.k=k)(Y:1≤k∧k≤17)(W:x.d.li.length≤61)(h:nm (Cg k) (Cf k) x.d.li):bB tab.get 191 [.a (x.row.map .f)]=Eq (vb ag):=bB.eq (by
 obtain⟨⟨k',E,l,r,n,m,li⟩,tg⟩:=x;simp only at M h W;subst M;refine bI rfl rfl fun Q L=>?_;have d:∀ t H,t.g 2=vb ag→WP tab.get 191 ae [.code .ret,.inBlock 0,.code tz] ⟨t,[],H⟩ Q:=fun t H U=>aE (L _ _ (by simp [U]));have go:∀ lo hi z,Cg k=lo→Cf k=hi→¬ (lo=0∧hi=0)→(z=ah→lo<0)→bB tab.get 206 [.c (.f (sl tg (ints li))),vi lo,vi hi,vb z]=Eq (vb ag):=by
  intro lo hi z F I N O;rw [F,I]at h;obtain⟨a,b,c⟩:=aag h N;exact EH tg li lo hi z (by omega) a b fun x K=>⟨(c x K).1,(c x K).2.1,fun X=>(c x K).2.2 (O X)⟩
 apply aj;simp [aU.row];refine aq (aj ?_);simp;refine az (aj ?_);simp;by_cases s:k=3
 ·have:=go 1 16 ag (by rw [s];rfl) (by rw [s];rfl) (by decide) (by decide);refine ak (by simp [s]) (aj ?_);simp [this];exact d _ _ (by simp)
 refine al (by simp;omega) (aj ?_);simp;by_cases u:k=4
 ·have:=go (-40) 40 ah (by rw [u];rfl) (by rw [u];rfl) (by decide) (by decide);refine ak (by simp [u]) (aj ?_);simp [this];exact d _ _ (by simp)
 refine al (by simp;omega) (aj ?_);simp;by_cases B:k=5
 ·have:=go 0 6 ag (by rw [B];rfl) (by rw [B];rfl) (by decide) (by decide);refine ak (by simp [B]) (aj ?_);simp [this];exact d _ _ (by simp)
 refine al (by simp;omega) (aj ?_);simp;by_cases v:k=6
 ·have:=go 1 54 ag (by rw [v];rfl) (by rw [v];rfl) (by decide) (by decide);refine ak (by simp [v]) (aj ?_);simp [this];exact d _ _ (by simp)
 refine al (by simp;omega) (aq (aj ?_));simp;have A:k=14∨k=15→∀ t,t.g 1=.c (.ptr 0 0 0)→t.g 25=vb ag→WP tab.get 191 ae [.code An,.inBlock 0,.code tz] ⟨t,[],[.box ((aU.row ⟨⟨k,E,l,r,n,m,li⟩,tg⟩).map .f) 0]⟩ Q:=by
  intro c t S J;have:=go 0 1099511627776 ag (by rcases c with rfl | rfl<;>rfl) (by rcases c with rfl | rfl<;>rfl) (by decide) (by decide);refine ak J (aj ?_);simp [S,aU.row,this];exact d _ _ (by simp)
 by_cases j:k=14
 ·refine ak (by simp [j]) (aH ?_);exact A (.inl j) _ (by simp) (by simp [j])
 refine al (by simp;omega) (au (.inl rfl) ?_);simp;by_cases q:k=15
 ·exact A (.inr q) _ (by simp) (by simp [q])
 refine al (by simp;omega) (aj ?_);simp;by_cases g:k=16
 ·have:=go (-400) 400 ah (by rw [g];rfl) (by rw [g];rfl) (by decide) (by decide);refine ak (by simp [g]) (aj ?_);simp [this];exact d _ _ (by simp)
 refine al (by simp;omega) (aH ?_);have y:li=[]:=by
  have F:Cg k=0:=by simp [Cg,s,u,v,g]
  have I:Cf k=0:=by simp [Cf,s,u,B,v,j,q,g]
  rw [F,I]at h;simpa [nm]using h
 refine aw (aj ?_);simp [y];exact aE (L _ _ (by simp)))
theorem aaw(x:aU)(i:Nat)(hi:i≤1000)(h:lT i x.d):bB tab.get 169 [.a (x.row.map .f),vi i]=Eq (vb ag):=bB.eq (by
 have a7:=h.ok;obtain⟨z,K⟩:=h.ok;have hk:=K.k;have E:=nS h.ok;have d:=ET h.ok;have A:=NH x x.d.k.toNat (by omega) (by omega) z K.lis;have B:=BM x K.num;have u:=K.eo;have F:bV .neq (.c (.f (.str zQ))) (.c (.f (.str ⟨#[]⟩)))=ab (vb ah):=by simp [bV,Zw,zQ];rfl
 obtain⟨row,k⟩:=aP (x.row);refine bI rfl rfl fun Q hQ=>?_;apply aj;simp;have e:∀ n y,x.row[n]?=ab y→∀ H:an,H=[.box (x.row.map .f) 0]→aV H ae (.c (.ptr 0 n 0))=ab (.c (.f y)):=by
  intro n y hy H l;have Y:=(BY.1 hy)
  obtain⟨S,U⟩:=Y;subst l;have:(x.row.map C.f).drop n=.f y ::(x.row.map C.f).drop (n+1):=by
   rw [at5 (by simpa using S),auT,U]
  simp only [aV,aF,auS,auf];rw [this];rfl
 obtain⟨H,l⟩:=aP ([.box (x.row.map .f) 0]:an);have q:=e 0 (fi x.d.k) rfl H l;have a:=e 1 (fi x.d.eo) rfl H l;have c:=e 2 (fi x.d.l) rfl H l;have L:=e 3 (fi x.d.r) rfl H l;have o:=e 6 (sl x.tg (ints x.d.li)) rfl H l;have p:=e 7 (.str zQ) rfl H l;have r:aV H (ab 8) (.c (.ptr 0 0 0))=ab (.a (x.row.map .f)):=by rw [l];rfl
 rw [←l];clear e l;refine aq (aj ?_);simp [q,o,-av,show¬ x.d.k<1 by omega,show¬ 18<x.d.k by omega,show¬ (64:Int)<x.d.li.length by omega];refine aW (by simp) ?_;apply aj;simp [q,-av,E];obtain⟨n,Y⟩:=aP (dN x.d.k);have Z:=oG x.d.k;rw [←Y]at Z ⊢;have I:=aN (n:=(i:Int)-1);have g:∀ t:T,t.g 2=.c (.ptr 0 0 0)→t.g 1=vi i→t.g 5=vi n→t.g 46=vb ah→WP tab.get 169 ae [.code Aq,.code Ar] ⟨t,[],H⟩ Q:=by
  intro t b w s M;refine al M (aH ?_);have j:∀ t:T,t.g 2=.c (.ptr 0 0 0)→t.g 65=vb ah→WP tab.get 169 ae [.code As,.code At] ⟨t,[],H⟩ Q:=by
   intro t b N;refine al N (aH ?_);have m:∀ t:T,t.g 2=.c (.ptr 0 0 0)→t.g 85=vb ah→WP tab.get 169 ae [.code Au,.code Av] ⟨t,[],H⟩ Q:=by
    intro t b O;refine al O (aH ?_);refine aq (aj ?_);simp [b,q,p,-av,show¬ x.d.k=18 by omega,F];refine aW (by simp) ?_;apply aj;simp [b,r,-av,A,B];exact aE (hQ _ _ (by simp))
   refine aq (aj ?_);cases X:mQ x.d.k.toNat
   ·rw [X]at d;have:=u.2.2 X;simp [b,q,a,-av,d,this];exact m _ (by simp [b]) (by simp)
   ·rw [X]at d;have v:decide (0≤x.d.eo∧x.d.eo≤2)=ag:=decide_eq_true ⟨by omega,by omega⟩;simp [b,q,a,-av,d,ea,v];exact m _ (by simp [b]) (by simp)
  refine aq (aj ?_);by_cases U:n=2
  ·have hr:=h.r2 (by omega);have v:decide (0≤x.d.r∧x.d.r≤(i:Int)-1)=ag:=decide_eq_true ⟨by omega,by omega⟩;simp [b,w,s,U,L,-av,I,ea,v];exact j _ (by simp [b]) (by simp)
  ·have hr:=h.r0 (by omega);rcases(show n=0∨n=1 by omega)with e | e
   ·rw [e]at s;simp [b,s,L,-av,hr];exact j _ (by simp [b]) (by simp)
   ·rw [e]at s;simp [b,s,L,-av,hr];exact j _ (by simp [b]) (by simp)
 refine aq (aj ?_);by_cases S:1≤n
 ·have f:=h.l1 (by omega);have v:decide (0≤x.d.l∧x.d.l≤(i:Int)-1)=ag:=decide_eq_true ⟨by omega,by omega⟩;simp [show(1:Int)≤n by omega,S,c,-av,I,ea,v,show¬ n=0 by omega];exact g _ (by simp) (by simp) (by simp) (by simp)
 ·have J:n=0:=by omega
  by_cases W:x.d.k=7
  ·simp [J,q,-av,W];exact g _ (by simp) (by simp) (by simp [J]) (by simp)
  ·have f:=h.l0 (by omega) W;simp [J,q,c,-av,W,f];exact g _ (by simp) (by simp) (by simp [J]) (by simp))
theorem xr{K:an}{U:List Int}{n:Nat}(m:U.length=n){o:Int}(j:0≤o)(s:o<n)(q:∀ v ∈ U,0≤v∧v≤1000){b:Nat}(p1:K[b]?=ab (.box (U.map cI) 0)) :
  ∃ u:Int,0≤u∧u≤1000∧aL K 1 ae (.c (.sl b 0 n n 0 1)) (vi o)=ab (.c (.ptr b o.toNat 0))∧aV K ae (.c (.ptr b o.toNat 0))=ab (vi u) ∧
   dn K (.ptr b o.toNat 0) [.f (fi (u+1))]=ab (K.set b (.box ((nG U o).map cI) 0)):=by
 have g:U.getD o.toNat 0=U[o.toNat]'(by omega):=by rw [aus,AT (by omega)];rfl
 have d:=q _ (IS (l:=U) (n:=o.toNat) (by omega));rw [←g]at d;refine⟨U.getD o.toNat 0,d.1,d.2,?_,?_,?_⟩
 ·simp [aL,dD,p1,j];omega
 ·have:(U.map cI).drop o.toNat=cI (U.getD o.toNat 0) ::(U.map cI).drop (o.toNat+1):=by
   rw [at5 (by simp;omega),auT,g]
  simp only [aV,aF,p1,auf];rw [this];rfl
 ·have:=xq (U:=U) (k:=o) j (by omega);simp only [dn,p1];rw [bg (by simp;omega)];rw [show [C.f (fi (U.getD o.toNat 0+1))]=[cI (U.getD o.toNat 0+1)] from rfl,this]
theorem Nt(g:Tg){r:List aU}(hG:Good (et r))(w:r.length≤64):bB tab.get 126 [.c (.f (sl g (aM r)))]=Eq (vb ag):=bB.eq (by
 have d5:0<r.length:=by have:=hG.pos;simpa using this
 obtain⟨n,Y⟩:=aP (r.length);refine bI rfl rfl fun Q hQ=>?_;apply aj;simp;refine aq (aj ?_);simp [←Y,show¬ (n:Int)<1 by omega,show¬ (64:Int)<n by omega];refine aW (by simp) ?_;have M:bU n 8=ag:=cB (by omega) (by decide);have c9:∀(t:T) (H:an),(R 16).ev t=vi n→bu t H (.c4 1 8 [fi 0] (R 16) (R 16))=ab (.c (.sl H.length 0 n n 0 1),H++[.box ((bM [] n).map cI) 0]):=by
  intro t H h;have e:(cP n [fi 0]).map C.f=(bM [] n).map cI:=by rw [yd];simp [cP]
  simp only [bu,h,dD];rw [bg ⟨by omega,au0 _,by simpa using M,rfl⟩,aY (by omega),aug,e]
 apply aj;simp [←Y,c9];refine aq (aj ?_);simp;refine bQ n (fun i t H=>∃ r',r'=(et r).take i∧t.g 0=.c (.f (sl g (aM r)))∧t.g 3=.c (.sl 0 0 n n 0 1)∧H=[.box ((bM r' n).map cI) 0])
  (by omega) (by decide) (by simp) ⟨[],by simp,by simp,by simp,rfl⟩ ?_ ?_ ?_
 ·rintro i t H L hi ⟨r',z,d,q,rfl⟩ s J;simp [s,d,←Y];exact J _ ⟨r',z,by simp [d],by simp [q],rfl⟩ (by simp [s]) (by simp)
 ·rintro i t H hi ⟨r',z,d,q,rfl⟩ s next
  have l:i<r.length:=by omega
  have O:=hG.at_ i (by simpa using l);obtain⟨x,hx⟩:=aP (r[i]);have f:(et r)[i]'(by simpa using l)=x.d:=by rw [hx];simp
  rw [f]at O;have d6:r'.length≤64:=by rw [z];simp;omega
  have A:pK (bM r' n) x.d 2=bM ((et r).take (i+1)) n:=by
   rw [GB O,z,at0 (by simpa using l),f]
  have X:∀ v ∈ bM r' n,0≤v∧v≤128:=fun v c=>by
   obtain⟨k,hk,rfl⟩:=at3 c;have:=Ct r' n k (by simpa using hk);omega
  have a7:∀ v ∈ bM r' n,0≤v∧v≤1000:=fun v c=>by have:=X v c;omega
  have a9:∀ v ∈ pK (bM r' n) x.d 1,0≤v∧v≤1000:=fun v c=>by have:=zW X 1 v c;omega
  have I:=aaw x i (by omega) O;have a:=nS O.ok;have N:∀(H:an) (k:Nat) (y:FC),x.row[k]?=ab y→aV H ae (.c (.f (.fp (aM r).flatten (i*8+k))))=ab (.c (.f y)):=fun H k y hy=>
   uC (H:=H) (rows:=aM r) (j:=i) (sz:=8) (row:=x.row) (eH r) (by rw [hx];exact nM l) hy
  have l0:∀ H,aV H ae (.c (.f (.fp (aM r).flatten (i*8))))=ab (vi x.d.k):=fun H=>N H 0 _ rfl;have l2:∀ H,aV H ae (.c (.f (.fp (aM r).flatten (i*8+2))))=ab (vi x.d.l):=fun H=>N H 2 _ rfl;have l3:∀ H,aV H ae (.c (.f (.fp (aM r).flatten (i*8+3))))=ab (vi x.d.r):=fun H=>N H 3 _ rfl;refine az (aq (aj ?_));simp [s,d,eT l w,me l,←hx,I];refine aW (by simp) ?_;apply aj;simp [s,d,eT l w,l0,a];obtain⟨m,hm⟩:=aP (dN x.d.k);have b_:=oG x.d.k;rw [←hm]at b_ ⊢;have B:∀ t:T,t.g 0=.c (.f (sl g (aM r)))→t.g 3=.c (.sl 0 0 n n 0 1)→t.g 4=vi i→t.g 5=vi m →
    WP tab.get 126 ae [.code Aj,.inBlock 1,.code Ak,.inLoop Ai,.inBlock 0,.code Al] ⟨t,[],[.box ((pK (bM r' n) x.d 1).map cI) 0]⟩ Q:=by
   intro t d q g4 g5;apply aj;by_cases h2:m=2
   ·have hr:=O.r2 (by omega);have F:pK (bM r' n) x.d 2=nG (pK (bM r' n) x.d 1) x.d.r:=by
     rw [pK,bg (by omega)];rfl
    obtain⟨u,u0,u1,S,W,f3⟩:=xr (K:=[.box ((pK (bM r' n) x.d 1).map cI) 0]) (U:=pK (bM r' n) x.d 1) (n:=n) (by simp) (o:=x.d.r) hr.1 (by omega) a9 (b:=0) rfl;simp [g5,h2];refine ak (by simp) (au (.inl rfl) ?_);simp [q,d,g4,eT l w,l3,S,W,f3,aN (n:=u+1),-av,-bs];refine aw ?_;refine next _ _ ⟨_,rfl,by simp [d],by simp [q],?_⟩ (by simp [g4])
    rw [←A,F]
   ·have F:pK (bM r' n) x.d 2=pK (bM r' n) x.d 1:=by
     rw [pK,aY (by omega)]
    simp [g5];refine al (by simp;omega) (aH (aw ?_));refine next _ _ ⟨_,rfl,by simp [d],by simp [q],?_⟩ (by simp [g4])
    rw [←A,F]
  refine aq (aj ?_);simp;by_cases p:1≤m
  ·have b7:=O.l1 (by omega);have E:pK (bM r' n) x.d 1=nG (bM r' n) x.d.l:=by
    rw [pK,bg (by omega)];rfl
   obtain⟨u,u0,u1,S,W,f3⟩:=xr (K:=[.box ((bM r' n).map cI) 0]) (U:=bM r' n) (n:=n) (by simp) (o:=x.d.l) b7.1 (by omega) a7 (b:=0) rfl;refine ak (by simp;omega) (au (.inl rfl) ?_);simp [q,d,s,eT l w,l2,S,W,f3,aN (n:=u+1),-av,-bs];have:=B;rw [E]at this;exact this _ (by simp [d]) (by simp [q]) (by simp [s]) (by simp)
  ·have E:pK (bM r' n) x.d 1=bM r' n:=by
    rw [pK,aY (by omega)];rfl
   refine al (by simp;omega) (aH ?_);have:=B;rw [E]at this;exact this _ (by simp [d]) (by simp [q]) (by simp [s]) (by simp)
 ·rintro t H ⟨r',z,d,q,rfl⟩ s;have c_:r'=et r:=by rw [z,at6 (by simp;omega)]
  subst c_;clear z;have hU:=hG.bM;rw [show(et r).length=n by simp [Y]]at hU;have Z:∀ k,k<n-1→(bM (et r) n).getD k 0=1:=fun k hk=>by
   rw [aus,AT (by simp;omega)];refine hU _ ?_;rw [List.mem_take_iff_getElem];exact⟨k,by simp;omega,rfl⟩
  refine aq (aj ?_);simp;refine bQ (n-1) (fun i t H=>t.g 0=.c (.f (sl g (aM r)))∧t.g 3=.c (.sl 0 0 n n 0 1)∧H=[.box ((bM (et r) n).map cI) 0])
   (by omega) (by decide) (by simp) ⟨by simp [d],by simp [q],rfl⟩ ?_ ?_ ?_
  ·rintro i t H L hi ⟨d,q,rfl⟩ s J;simp [s,d,←Y,aN (n:=(i:Int)+1)];refine J _ ⟨by simp [d],by simp [q],rfl⟩ (by simp [s]) ?_;simp;omega
  ·rintro i t H hi ⟨d,q,rfl⟩ s next
   have a_:∀ K:an,K=[.box ((bM (et r) n).map cI) 0]→aL K 1 ae (.c (.sl 0 0 n n 0 1)) (vi i)=ab (.c (.ptr 0 i 0)):=by
    rintro K rfl;simp [aL,dD];omega
   have b9:∀ K:an,K=[.box ((bM (et r) n).map cI) 0]→aV K ae (.c (.ptr 0 i 0))=ab (vi 1):=by
    rintro K rfl;have p:=Z i hi;rw [aus,AT (by simp;omega)]at p;have:((bM (et r) n).map cI).drop i=cI 1 ::((bM (et r) n).map cI).drop (i+1):=by
     rw [at5 (by simp;omega),auT];simp at p;rw [show(bM (et r) n)[i]'(by simp;omega)=1 from p]
    simp only [aV,aF,auS,auf];rw [this];rfl
   obtain⟨K,hK⟩:=aP ([.box ((bM (et r) n).map cI) 0]:an);have S:=a_ K hK;have W:=b9 K hK;rw [←hK]at next ⊢
   refine az (aj ?_);simp [q,s,S,W,-av];refine al (by simp) (aH (aw ?_));exact next _ _ ⟨by simp [d],by simp [q],rfl⟩ (by simp [s])
  ·rintro t H ⟨d,q,rfl⟩ s;apply aj;simp;exact aE (hQ _ _ (by simp)))
theorem vp(g:Tg){r:List aU}(b:Good (et r))(j:r.length≤64):bB tab.get 82 [.c (.f (sl g (aM r)))]=Eq (vb ag):=bB.eq (by
 have:=Nt g b j;refine bI rfl rfl fun Q d=>?_;apply aj;simp;apply aj;simp [this];exact aE (d _ _ (by simp)))
def pZ(l:List (aU × C)):List C:=(l.map fun p=>p.1.er p.2).flatten
theorem tW(l:List (aU × C)):(pZ l).length=l.length*8:=by
 induction l with
 | nil=>rfl| cons p l b=>simp only [pZ,anc,List.flatten_cons,at7,aup]at b ⊢;rw [b,show(p.1.er p.2).length=8 from rfl];omega
theorem M'(l:List (aU × C))(x:aU)(c:C):pZ (l++[(x,c)])=pZ l++x.er c:=by simp [pZ]
def NL(J:an)(cn:C)(l:List (aU × C)):Prop:=
 (∀ p ∈ l,LR J p.2 1 (ints p.1.d.li))∧((l=[]∧(cn=.f .aG∨cn=.f .es))∨(l≠[]∧∃ b d,cn=.sl b 0 l.length 0 d 8∧J[b]?=ab (.bR 8 (pZ l) 0 d .loc)))
theorem agi{J:an}{c:C}{l:List Int}(h:LR J c 1 (ints l)){b:Nat}{cs:List C}{fl g:Nat}{st:Km.Os}(m:J[b]?=ab (.bR 8 cs fl g st)):aX c≠ab b:=by
 rcases h with⟨_,rfl | rfl⟩ | ⟨_,q,j,rfl,d⟩
 ·simp [aX]
 ·simp [aX]
 ·intro e;simp [aX]at e;subst e;unfold RB at d;rw [m]at d;cases d
theorem NL.nil(J:an):NL J (.f .es) []:=⟨by simp,.inl ⟨rfl,.inr rfl⟩⟩
theorem NL.cu{J j:an}{cn:C}{l:List (aU × C)}(h:NL J cn l)(m:∀(i:Nat) (y:c6),J[i]?=ab y→(∀ cs fl,y≠c6.box cs fl)→j[i]?=ab y):NL j cn l:=by
 refine⟨fun p q=>(h.1 p q).cu fun i y hy hi=>m i y hy ?_,?_⟩
 ·rcases h.1 p q with⟨_,e | e⟩ | ⟨_,x,u,e,d⟩
  ·rw [e]at hi;simp [aX]at hi
  ·rw [e]at hi;simp [aX]at hi
  ·rw [e]at hi;simp [aX]at hi;subst hi;unfold RB at d;rw [d]at hy;cases hy;intro cs fl e;cases e
 ·rcases h.2 with d | ⟨g,b,s,rfl,v⟩
  ·exact .inl d
  ·exact .inr ⟨g,b,s,rfl,m _ _ v (fun cs fl e=>by cases e)⟩
theorem NL.push{J:an}{cn:C}{l:List (aU × C)}(h:NL J cn l)(L:an):NL (J++L) cn l:=h.cu fun i y hy _=>by rw [AI (ax hy)];exact hy
theorem NL.cw{J:an}{cn:C}{l:List (aU × C)}(h:NL J cn l){i:Nat}{cs:List C}{fl:Nat}(j:J[i]?=ab (.box cs fl)):aX cn≠ab i:=by
 rcases h.2 with⟨_,rfl | rfl⟩ | ⟨g,b,m,rfl,d⟩
 ·simp [aX]
 ·simp [aX]
 ·intro e;simp [aX]at e;subst e;rw [j]at d;cases d
theorem NL.app{J:an}{cn:C}{l:List (aU × C)}(h:NL J cn l)(F:l.length≤1000){x:aU}{c:C}(hc:LR J c 1 (ints x.d.li)){b1 fl1:Nat}(z:J[b1]?=ab (.box (x.er c) fl1)) :
  ∃ m s,bK J 8 88 (.c cn) (.c (.sl b1 0 1 1 0 8))=ab (.c m,s)∧NL s m (l++[(x,c)])∧Kb J s cn∧(aX m=aX cn∨aX m=ab J.length):=by
 have q:cX J 8 (.c (.sl b1 0 1 1 0 8))=ab (1,x.er c):=kY z rfl;have g:∀ p ∈ l++[(x,c)],LR J p.2 1 (ints p.1.d.li):=fun p j=>by
  rcases at9.1 j with j | j
  ·exact h.1 p j
  ·simp at j;subst j;exact hc
 rcases h.2 with⟨rfl,A⟩ | ⟨E,b,u,rfl,v⟩
 ·have d:bU 1 88=ag:=by decide
  refine⟨.sl J.length 0 1 0 0 8,J++[.bR 8 (x.er c) 0 0 .loc],?_,⟨fun p j=>(g p j).push _,.inr ⟨by simp,J.length,0,rfl,?_⟩⟩,⟨by simp,fun i y hy _=>by rw [AI (ax hy)];exact hy⟩,.inr rfl⟩
  ·rcases A with rfl | rfl<;>simp [bK,q,d]
  ·simp [pZ]
 ·have d:bU (l.length+1) 88=ag:=cB (by omega) (by decide);refine⟨.sl b 0 (l.length+1) 0 (u+1) 8,J.set b (.bR 8 (pZ l++x.er c) 0 (u+1) .loc),?_,⟨fun p j=>(g p j).set (agi (g p j) v) _,.inr ⟨by simp,b,u+1,by simp,?_⟩⟩,⟨by simp,fun i y hy B=>?_⟩,.inl rfl⟩
  ·simp only [bK,q,v,and_self,if_true];rw [aY (by decide),aY (by decide),bg ⟨trivial,(tW l).symm,Nat.zero_le _⟩,d];simp
  ·rw [OF (ax v),M']
  ·have:b≠i:=by rintro rfl;exact B rfl
   rw [By this];exact hy
theorem Fq{J:an}(n:Nat):∀ {l:List (aU × C)},(∀ p ∈ l,LR J p.2 1 (ints p.1.d.li))→∃ b:List aU,et b=l.map (·.1.d)∧aZ (db (n+1) J) (pZ l)=ab (aM b).flatten
 | [],_=>⟨[],rfl,rfl⟩
 | (x,c)::l,h=>by
  obtain⟨b,m,q⟩:=Fq n (l:=l) fun p s=>h p (aub _ s);obtain⟨g,d⟩:=(h (x,c) at2).ex (ei _) n;refine⟨⟨x.d,g⟩::b,by simp only [et,anc];exact congrArg _ m,?_⟩;have e:pZ ((x,c)::l)=x.er c++pZ l:=by simp [pZ]
  rw [e];have j:aZ (db (n+1) J) (x.er c)=ab (aU.row ⟨x.d,g⟩):=by
   simp only [aU.er,aZ,aU.row];simp only at d;simp [d]
  have:=jh j q;rw [this];simp [aM]
theorem NL.ex{J:an}{cn:C}{l:List (aU × C)}(h:NL J cn l)(n:Nat):∃ g,∃ d:List aU,et d=l.map (·.1.d)∧db (n+2) J cn=ab (sl g (aM d)):=by
 obtain⟨d,q,v⟩:=Fq n h.1;have s:d.length=l.length:=by have:=congrArg List.length q;simpa using this
 rcases h.2 with⟨rfl,rfl | rfl⟩ | ⟨m,b,y,rfl,x⟩
 ·exact⟨.nil,[],rfl,rfl⟩
 ·exact⟨.es,[],rfl,rfl⟩
 ·refine⟨.fs,d,q,?_⟩;show db (n+1+1) J _=_;rw [jf,x];have u:=auF.2 m;have e:(((pZ l).drop 0).take (l.length*8))=pZ l:=by rw [List.drop_zero,at6 (by rw [tW];exact aft _)]
  have j:¬ (aM d).isEmpty=ag:=by simp;intro e;subst e;simp at s;omega
  simp only [e,v,Option.map_some];rw [bg ⟨trivial,trivial,by rw [tW];omega⟩,sl,aY j,qA,s]
theorem BA(n lo hi:Int):bB tab.get 34 [vi n,vi lo,vi hi]=Eq (vb (decide (lo≤n∧n≤hi))):=bB.eq (by
 refine bI rfl rfl fun Q b=>?_;apply aj;simp;apply aj;by_cases h:lo≤n
 ·simp [h];exact aE (b _ _ (by simp [h]))
 ·simp [h];exact aE (b _ _ (by simp [h])))
theorem dC(n lo hi:Int)(h:lo≤n∧n≤hi):bB tab.get 34 [vi n,vi lo,vi hi]=Eq (vb ag):=by rw [BA,decide_eq_true h]
theorem qQ{m:bz}(h:m.OK):bB tab.get 43 [.a (m.row.map .f)]=Eq (vb ag):=bB.eq (by
 obtain⟨d,b,z,y,x⟩:=m;obtain⟨g,j,l⟩:=h;refine bI rfl rfl fun Q q=>?_;simp only at g j l;have A:=dC d 0 1099511627776 g;apply aj;simp [bz.row];refine aq (aj ?_);simp [A];refine aW (by simp) ?_;refine aq (aj ?_);simp;cases b
 ·obtain⟨a1,s,u,a4,v,a6⟩:=l rfl;have B:=dC z 0 1099511627776 ⟨a1,s⟩;have E:=dC y 0 1439 ⟨u,a4⟩;have F:=dC x 1 10080 ⟨v,a6⟩;refine aW (by simp) ?_;apply aj;simp [B,E,F];exact aE (q _ _ (by simp))
 ·obtain⟨rfl,rfl,rfl⟩:=j rfl;refine ak (by simp) ?_;apply aj;simp;exact aE (q _ _ (by simp)))
theorem uu{H:an}{g:Tg}{b:List bz}{j:Nat}(d:j<b.length)(l:b.length≤1000):aL H 5 ae (.c (.f (sl g (bh b)))) (vi j)=ab (.c (.f (.fp (bh b).flatten (j*5)))):=by
 have:=cE (H:=H) (g:=g) (rows:=bh b) (sz:=5) (k:=.i64) (i:=(j:Int)) (by omega) (by simp;omega);simpa using this
theorem xz{H:an}{b:List bz}{j:Nat}(d:j<b.length):aV H (ab 5) (.c (.f (.fp (bh b).flatten (j*5))))=ab (.a (b[j].row.map .f)):=ez (df b) (kE d)
theorem y_{H:an}{b:List bz}{j:Nat}(d:j<b.length):aV H ae (.c (.f (.fp (bh b).flatten (j*5))))=ab (vi b[j].day):=by
 have:=gu (H:=H) (rows:=bh b) (j:=j) (sz:=5) (row:=b[j].row) (x:=fi b[j].day) (df b) (kE d) rfl;exact this
theorem gv{H:an}{b fl:Nat}{s:bW}(d:H[b]?=ab (.box (s.row.map .f) fl)) :
  aV H ae (.c (.ptr b 0 0))=ab (.c (.f (sl s.rg (aM s.ru))))∧aV H ae (.c (.ptr b 1 0))=ab (vi s.mi)∧aV H ae (.c (.ptr b 2 0))=ab (vi s.le)∧aV H ae (.c (.ptr b 3 0))=ab (.c (.f (.str s.zo))) ∧
  aV H ae (.c (.ptr b 4 0))=ab (vi s.cR)∧aV H ae (.c (.ptr b 5 0))=ab (vi s.fold)∧aV H ae (.c (.ptr b 6 0))=ab (.c (.f (sl s.mg (bh s.mv))))∧aV H (ab 7) (.c (.ptr b 0 0))=ab s.v:=by
 refine⟨?_,?_,?_,?_,?_,?_,?_,?_⟩<;>simp [aV,d,aF,aK,bW.row]
theorem pD{s:bW}(h:s.OK):bB tab.get 33 [s.v]=Eq (vb ag):=bB.eq (by
 have O:=h.ml;have wf:=vp s.rg h.ru h.rl;have Y:=dC s.mi 0 1439 h.mi;have Z:=dC s.le 1 10080 h.le;have w3:=dC s.cR 0 2 h.cR;have w4:=dC s.fold 0 2 h.fold;have hz:=h.zo;have w5:=dC s.zo.size 1 32 ⟨by omega,by omega⟩;refine bI rfl rfl fun Q K=>?_;apply aj;simp;obtain⟨H,v⟩:=aP ([.box (s.row.map .f) 0]:an);have b0:H[0]?=ab (.box (s.row.map .f) 0):=by rw [v];rfl
 obtain⟨y,z,A,B,E,F,q,e7⟩:=gv b0;rw [←v];clear v;refine aq (aj ?_);simp [y,z,A,E,F,wf,Y,Z,w3,w4,-av];refine aW (by simp) ?_;refine aq (aj ?_);simp [B,q,w5,-av,show¬ (64:Int)<s.mv.length by omega];refine aW (by simp) ?_;refine aq (aj ?_);simp;refine bQ s.mv.length (fun j t J=>t.g 1=.c (.ptr 0 0 0)∧J=H) (by omega) (by decide) (by simp) ⟨by simp,rfl⟩ ?_ ?_ ?_
 ·rintro j t J L l ⟨b,rfl⟩ d S;simp [d,b,q,-av];exact S _ ⟨by simp [b],rfl⟩ (by simp [d]) (by simp)
 ·rintro j t J l ⟨b,rfl⟩ d W;have X:=qQ (h.mo _ (IS l));have x:=fun i (hi:i<s.mv.length)=>uu (H:=J) (g:=s.mg) hi (by omega);have m:∀ t:T,t.g 1=.c (.ptr 0 0 0)→t.g 3=vi j→t.g 76=vb ah→WP tab.get 33 ae [.code v9,.inBlock 1,.code v_,.inLoop v8,.inBlock 0,.code wb] ⟨t,[],J⟩ Q:=by
   intro t b I u;refine al u (aH (aw ?_));exact W _ _ ⟨by simp [b],rfl⟩ (by simp [I])
  refine az (aj ?_);simp [b,q,-av,d,x j l,xz l,X];by_cases M:j=0
  ·simp [show¬ 0<j by omega];exact m _ (by simp [b]) (by simp [d]) (by simp)
  ·have U:ai .i64 ((j:Int)-1)=((j-1:Nat):Int):=by rw [aN];omega
   have N:s.mv[j-1].day<s.mv[j].day:=auc.1 h.ms (j-1) j (by omega) l (by omega);simp [show 0<j by omega,b,q,-av,d,x j l,y_ l,U,x (j-1) (by omega),y_ (show j-1<s.mv.length by omega),show¬ s.mv[j].day≤s.mv[j-1].day by omega];exact m _ (by simp [b]) (by simp [d]) (by simp)
 ·rintro t J ⟨b,rfl⟩ d;apply aj;simp;exact aE (K _ _ (by simp)))
theorem qc(l:List aU):(et l).length=l.length:=by simp
def py:List C:=[.f .aG,.f (fi 0),.f (fi 0),.f (.str ⟨#[]⟩),.f (fi 0),.f (fi 0),.f .aG]
structure bW.Eqv(a b:bW):Prop where
 ru:et a.ru=et b.ru
 mi:a.mi=b.mi
 le:a.le=b.le
 zo:a.zo=b.zo
 cR:a.cR=b.cR
 fold:a.fold=b.fold
 mv:a.mv=b.mv
theorem Bp{s:bW}(hl:s.ru.length≤64)(g_:∀ x ∈ s.ru,x.d.li.length≤61)(m_:s.mv.length≤64):∃ s',bW.Eqv s' s∧bB tab.get 44 [s.v]=Eq s'.v:=by
 obtain⟨rr,⟨s',hs,rfl⟩,hp⟩:∃ rr,(∃ s',bW.Eqv s' s∧rr=s'.v)∧bB tab.get 44 [s.v] rr:=by
  refine bY rfl rfl fun Q hQ=>?_;apply aj;simp;obtain⟨H,hH⟩:=aP ([.box (s.row.map .f) 0,.box [.f .aG,.f (fi 0),.f (fi 0),.f (.str ⟨#[]⟩),.f (fi 0),.f (fi 0),.f .aG] 0]:an);have b0:H[0]?=ab (.box (s.row.map .f) 0):=by rw [hH];rfl
  have b1:H[1]?=ab (.box py 0):=by rw [hH];rfl
  rw [←hH];clear hH;apply aj;simp;refine aq (aj ?_);simp;refine bQ s.ru.length (fun i t J=>∃ cn l,t.g 1=.c (.ptr 0 0 0)∧t.g 2=.c (.ptr 1 0 0)∧t.g 3=.c cn∧NL J cn l∧(l.map (·.1))=s.ru.take i∧J[0]?=ab (.box (s.row.map .f) 0)∧J[1]?=ab (.box py 0)) (by omega) (by decide) (by simp)
   ⟨.f .es,[],by simp,by simp,by simp,NL.nil _,by simp,b0,b1⟩ ?_ ?_ ?_
  ·rintro i t J L hi ⟨cn,l,B,M,N,hN,hl,b0,b1⟩ F W;obtain⟨e0,-⟩:=gv b0;simp [F,B,e0,-av];exact W _ ⟨cn,l,by simp [B],by simp [M],by simp [N],hN,hl,b0,b1⟩ (by simp [F]) (by simp)
  ·rintro i t J hi ⟨cn,l,B,M,N,hN,Z,b0,b1⟩ F nx;obtain⟨e0,-⟩:=gv b0;obtain⟨x,hx⟩:=aP (s.ru[i]);have n4:x.d.li.length≤61:=by rw [hx];exact g_ _ (IS hi)
   have m9:l.length=i:=by have:=congrArg List.length Z;simp at this;omega
   refine az (aj ?_);simp [B,e0,-av,F,eT hi hl,me hi,←hx,aU.row];obtain⟨a,S⟩:=aP (J++[.box (x.row.map .f) 0]:an);have kx:a[J.length]?=ab (.box (x.row.map .f) 0):=by rw [S];simp
   have k0:a[0]?=ab (.box (s.row.map .f) 0):=by rw [S,AI (ax b0)];exact b0
   have k1:a[1]?=ab (.box py 0):=by rw [S,AI (ax b1)];exact b1
   have kN:NL a cn l:=by rw [S];exact hN.push _
   have kl:a.length=J.length+1:=by rw [S];simp
   have c9:=ax b1;simp only [aU.row,anc,atN]at S;rw [←S];clear S;obtain⟨p,hp⟩:=aP (J.length);rw [←hp]at kx kl c9 ⊢;apply aj;simp;refine aq (aj ?_);simp;refine bQ x.d.li.length (fun j t K=>∃ c,t.g 1=.c (.ptr 0 0 0)∧t.g 2=.c (.ptr 1 0 0)∧t.g 3=.c cn∧t.g 4=vi i∧t.g 5=.c (.ptr p 0 0)∧t.g 6=.c c∧LR K c 1 (ints (x.d.li.take j))∧Kb a K (.f .es)∧(∀ b,aX c=ab b→a.length≤b)) (by omega) (by decide) (by simp)
    ⟨.f .es,by simp [B],by simp [M],by simp [N],by simp [F],by simp,by simp,.inl ⟨rfl,.inr rfl⟩,Kb.refl _ _,by simp [aX]⟩ ?_ ?_ ?_
   ·rintro j t K L w ⟨c,B,M,N,g4,r,g6,A,d,q⟩ F W;have e6:aV K ae (.c (.ptr p 6 0))=ab (.c (.f (sl x.tg (ints x.d.li)))):=by
     have:=d.2 p _ kx (by simp [aX]);simp [aV,this,aF,aK,aU.row]
    simp [F,r,e6,-av];exact W _ ⟨c,by simp [B],by simp [M],by simp [N],by simp [g4],by simp [r],by simp [g6],A,d,q⟩ (by simp [F]) (by simp)
   ·rintro j t K w ⟨c,B,M,N,g4,r,g6,A,d,q⟩ F m4;have e6:aV K ae (.c (.ptr p 6 0))=ab (.c (.f (sl x.tg (ints x.d.li)))):=by
     have:=d.2 p _ kx (by simp [aX]);simp [aV,this,aF,aK,aU.row]
    have f_:∀ H,aL H 1 ae (.c (.f (sl x.tg (ints x.d.li)))) (vi j)=ab (.c (.f (.fp (ints x.d.li).flatten j))):=fun H=>by
     have:=cE (H:=H) (g:=x.tg) (rows:=ints x.d.li) (sz:=1) (k:=.i64) (i:=(j:Int)) (by omega) (by simp;omega);simpa using this
    obtain⟨v,hv⟩:=aP (x.d.li[j]);have h_:aV K ae (.c (.f (.fp (ints x.d.li).flatten j)))=ab (vi v):=by rw [hv];exact ej w
    obtain⟨K1,z⟩:=aP (K++[.box ([fi v].map .f) 0]:an);have a_:LR K1 c 1 (ints (x.d.li.take j)):=by rw [z];exact A.push _
    have b7:K1[K.length]?=ab (.box ([fi v].map .f) 0):=by rw [z];simp
    obtain⟨c',H',U,a9,O,n⟩:=a_.app (ei _) (by decide) (row:=[fi v]) rfl (bytes:=8) (cB (by simp;omega) (by decide)) b7;simp only [anc,atN]at z;refine az (au (.inl rfl) ?_);simp [r,g6,e6,-av,F,f_,h_];rw [←z];simp [U];have h:Kb a K1 (.f .es):=by
     refine⟨by have:=d.1;rw [z];simp;omega,fun i y u W=>?_⟩;rw [z,AI (ax (d.2 i y u W))];exact d.2 i y u W
    refine aw ?_;refine m4 _ _ ⟨c',by simp [B],by simp [M],by simp [N],by simp [g4],by simp [r],by simp,?_,?_,?_⟩ (by simp [F])
    ·rw [at0 w,←hv];have e:ints (x.d.li.take j++[v])=ints (x.d.li.take j)++[[fi v]]:=by simp [ints]
     rw [e];exact a9
    ·refine⟨aua h.1 O.1,fun i y u W=>O.2 i y (h.2 i y u W) fun e=>?_⟩;have:=q i e;have:=ax u;omega
    ·intro b f;rcases n with e | e
     ·exact q b (by rw [←e];exact f)
     ·rw [f]at e;cases e;exact h.1
   ·rintro t K ⟨c,B,M,N,g4,r,g6,A,d,q⟩ F;rw [aul]at A;have kp:=d.2 p _ kx (by simp [aX]);have j3:dn K (.ptr p 6 0) [c]=ab (K.set p (.box (x.er c) 0)):=by
     simp [dn,kp,aU.row,aU.er,over]
    have i_:aX c≠ab p:=fun e=>by have:=q p e;omega
    obtain⟨X,I⟩:=aP (K.set p (.box (x.er c) 0):an);have j_:X[p]?=ab (.box (x.er c) 0):=by rw [I];exact OF (ax kp)
    have d5:∀(i:Nat) (y:c6),a[i]?=ab y→i≠p→X[i]?=ab y:=fun i y u hi=>by
     rw [I,By (Ne.symm hi)];exact d.2 i y u (by simp [aX])
    have j9:NL X cn l:=kN.cu fun i y u f=>d5 i y u (by rintro rfl;rw [kx]at u;cases u;exact f _ _ rfl);have j8:LR X c 1 (ints x.d.li):=by rw [I];exact A.set i_ _
    have e8:aV X (ab 8) (.c (.ptr p 0 0))=ab (.a (x.er c)):=by simp [aV,j_,aF,aK,aU.er]
    apply aj;simp [g6,r,j3,-bs];rw [←I];obtain⟨Y,E⟩:=aP (X++[.box (x.er c) 0]:an);have b9:NL Y cn l:=by rw [E];exact j9.push _
    have l7:LR Y c 1 (ints x.d.li):=by rw [E];exact j8.push _
    have l9:Y[X.length]?=ab (.box (x.er c) 0):=by rw [E];simp
    have o:∀(i:Nat) (y:c6),a[i]?=ab y→i≠p→Y[i]?=ab y:=fun i y u hi=>by
     have:=d5 i y u hi;rw [E,AI (ax this)];exact this
    obtain⟨d7,H',U,d_,O,n⟩:=b9.app (by omega) l7 l9;have f9:(x.er c).length=8:=rfl;refine au (.inl rfl) ?_;simp [N,r,e8,-av,f9];rw [←E];simp [U];refine aw ?_;refine nx _ _ ⟨d7,l++[(x,c)],by simp [B],by simp [M],by simp,d_,?_,?_,?_⟩ (by simp [g4])
    ·rw [List.map_append,Z,at0 hi,←hx];rfl
    ·exact O.2 0 _ (o 0 _ k0 (by omega)) (b9.cw (o 0 _ k0 (by omega)))
    ·exact O.2 1 _ (o 1 _ k1 (by omega)) (b9.cw (o 1 _ k1 (by omega)))
  ·rintro t J ⟨cn,l,B,M,N,hN,Z,b0,b1⟩ F;rw [aul]at Z;apply aj;simp;refine aq (aj ?_);simp;refine bQ s.mv.length (fun j t K=>∃ c,t.g 1=.c (.ptr 0 0 0)∧t.g 2=.c (.ptr 1 0 0)∧t.g 3=.c cn∧t.g 8=.c c∧LR K c 5 (bh (s.mv.take j))∧Kb J K (.f .es)∧(∀ b,aX c=ab b→J.length≤b)) (by omega) (by decide) (by simp)
    ⟨.f .es,by simp [B],by simp [M],by simp [N],by simp,.inl ⟨rfl,.inr rfl⟩,Kb.refl _ _,by simp [aX]⟩ ?_ ?_ ?_
   ·rintro j t K L w ⟨c,B,M,N,g8,A,d,q⟩ F W;obtain⟨-,-,-,-,-,-,e6,-⟩:=gv (d.2 0 _ b0 (by simp [aX]));simp [F,B,e6,-av];exact W _ ⟨c,by simp [B],by simp [M],by simp [N],by simp [g8],A,d,q⟩ (by simp [F]) (by simp)
   ·rintro j t K w ⟨c,B,M,N,g8,A,d,q⟩ F nx;obtain⟨-,-,-,-,-,-,e6,-⟩:=gv (d.2 0 _ b0 (by simp [aX]));obtain⟨m,hm⟩:=aP (s.mv[j]);obtain⟨K1,z⟩:=aP (K++[.box (m.row.map .f) 0]:an);have a_:LR K1 c 5 (bh (s.mv.take j)):=by rw [z];exact A.push _
    have b7:K1[K.length]?=ab (.box (m.row.map .f) 0):=by rw [z];simp
    obtain⟨c',H',U,a9,O,n⟩:=a_.app (df _) (by decide) (row:=m.row) rfl (bytes:=40) (cB (by simp;omega) (by decide)) b7;simp only [bz.row,anc,atN]at z;refine az (au (.inl rfl) ?_);simp [B,g8,e6,-av,F,uu w (by omega),xz w,←hm,bz.row];rw [←z];simp [U];have h:Kb J K1 (.f .es):=by
     refine⟨by have:=d.1;rw [z];simp;omega,fun i y u W=>?_⟩;rw [z,AI (ax (d.2 i y u W))];exact d.2 i y u W
    refine aw ?_;refine nx _ _ ⟨c',by simp [B],by simp [M],by simp [N],by simp,?_,?_,?_⟩ (by simp [F])
    ·rw [at0 w,←hm];have e:bh (s.mv.take j++[m])=bh (s.mv.take j)++[m.row]:=by simp [bh]
     rw [e];exact a9
    ·refine⟨aua h.1 O.1,fun i y u W=>O.2 i y (h.2 i y u W) fun e=>?_⟩;have:=q i e;have:=ax u;omega
    ·intro b f;rcases n with e | e
     ·exact q b (by rw [←e];exact f)
     ·rw [f]at e;cases e;exact h.1
   ·rintro t K ⟨c,B,M,N,g8,A,d,q⟩ F;rw [aul]at A;have k0:=d.2 0 _ b0 (by simp [aX]);have k1:=d.2 1 _ b1 (by simp [aX]);have c9:=ax b1;have m5:dn K (.ptr 0 0 0) [cn]=ab (K.set 0 (.box [cn,cI s.mi,cI s.le,.f (.str s.zo),cI s.cR,cI s.fold,.f (sl s.mg (bh s.mv))] 0)):=by
     simp [dn,k0,bW.row,over]
    obtain⟨X,I⟩:=aP (K.set 0 (.box [cn,cI s.mi,cI s.le,.f (.str s.zo),cI s.cR,cI s.fold,.f (sl s.mg (bh s.mv))] 0):an);have c_:X[0]?=ab (.box [cn,cI s.mi,cI s.le,.f (.str s.zo),cI s.cR,cI s.fold,.f (sl s.mg (bh s.mv))] 0):=by rw [I];exact OF (ax k0)
    have m6:dn X (.ptr 0 6 0) [c]=ab (X.set 0 (.box [cn,cI s.mi,cI s.le,.f (.str s.zo),cI s.cR,cI s.fold,c] 0)):=by
     simp [dn,c_,over]
    obtain⟨Y,E⟩:=aP (X.set 0 (.box [cn,cI s.mi,cI s.le,.f (.str s.zo),cI s.cR,cI s.fold,c] 0):an);have k_:Y[0]?=ab (.box [cn,cI s.mi,cI s.le,.f (.str s.zo),cI s.cR,cI s.fold,c] 0):=by rw [E];exact OF (ax c_)
    have d6:Y[1]?=ab (.box py 0):=by rw [E,By (by decide),I,By (by decide)];exact k1
    have e7:aV Y (ab 7) (.c (.ptr 0 0 0))=ab (.a [cn,cI s.mi,cI s.le,.f (.str s.zo),cI s.cR,cI s.fold,c]):=by simp [aV,k_,aF,aK]
    have m7:dn Y (.ptr 1 0 0) [cn,cI s.mi,cI s.le,.f (.str s.zo),cI s.cR,cI s.fold,c]=ab (Y.set 1 (.box [cn,cI s.mi,cI s.le,.f (.str s.zo),cI s.cR,cI s.fold,c] 0)):=by
     simp [dn,d6,over,py]
    obtain⟨K4,a7⟩:=aP (Y.set 1 (.box [cn,cI s.mi,cI s.le,.f (.str s.zo),cI s.cR,cI s.fold,c] 0):an);have l_:K4[1]?=ab (.box [cn,cI s.mi,cI s.le,.f (.str s.zo),cI s.cR,cI s.fold,c] 0):=by rw [a7];exact OF (ax d6)
    have up:∀(i:Nat) (y:c6),K[i]?=ab y→i≠0→i≠1→K4[i]?=ab y:=fun i y u h0 h=>by
     rw [a7,By (Ne.symm h),E,By (Ne.symm h0),I,By (Ne.symm h0)];exact u
    have e_:NL K4 cn l:=hN.cu fun i y u f=>up i y (d.2 i y u (by simp [aX])) (by rintro rfl;rw [b0]at u;cases u;exact f _ _ rfl) (by rintro rfl;rw [b1]at u;cases u;exact f _ _ rfl);have d9:LR K4 c 5 (bh s.mv):=A.cu fun i y u hi=>up i y u (by rintro rfl;have:=q 0 hi;omega) (by rintro rfl;have:=q 1 hi;omega);obtain⟨g',l',hd,j4⟩:=e_.ex 62;obtain⟨b_,j7⟩:=d9.ex (df _) 63;apply aj;simp [B,N,m5,-bs];rw [←I];apply aj;simp [B,g8,m6,-bs];rw [←E];apply aj;simp [B,M,e7,m7,-bs,-av];rw [←a7];have d8:aV K4 (ab 7) (.c (.ptr 1 0 0))=ab (.a [cn,cI s.mi,cI s.le,.f (.str s.zo),cI s.cR,cI s.fold,c]):=by simp [aV,l_,aF,aK]
    refine aE (hQ _ _ _ ⟨⟨g',l',s.mi,s.le,s.zo,s.cR,s.fold,b_,s.mv⟩,⟨?_,rfl,rfl,rfl,rfl,rfl,rfl⟩,rfl⟩ ⟨rfl,.a [cn,cI s.mi,cI s.le,.f (.str s.zo),cI s.cR,cI s.fold,c],?_,?_⟩)
    ·show et l'=et s.ru;rw [hd,←Z];simp
    ·simp [Km.results,bw,aZ,M,d8,-av]
    ·have d1:db deep K4 cn=ab (sl g' (aM l')):=j4;have d2:db deep K4 c=ab (sl b_ (bh s.mv)):=j7;simp [fZ,bX,aZ,d1,d2,bW.row]
 exact⟨s',hs,hp.eq⟩
def bW.er(s:bW)(c:C):List C:=[.f (sl s.rg (aM s.ru)),cI s.mi,cI s.le,.f (.str s.zo),cI s.cR,cI s.fold,c]
structure OvI(s q:bW)(m:bz)(J:an)(acc:List bz)(c:C):Prop where
 b0:J[0]?=ab (.box (s.row.map .f) 0)
 b1:J[1]?=ab (.box (m.row.map .f) 0)
 b2:J[2]?=ab (.box py 0)
 b3:J[3]?=ab (.box (q.er c) 0)
 lr:LR J c 5 (bh acc)
 cb:∀ b,aX c=ab b→4≤b
theorem vP(l:List bz)(x:bz):bh (l++[x])=bh l++[x.row]:=by simp [bh]
theorem OvI.app{s q:bW}{m:bz}{J:an}{d:List bz}{c:C}(h:OvI s q m J d c)(O:d.length≤1000)(x:bz) :
  ∃ j l u,bK (J++[.box (x.row.map .f) 0]) 5 40 (.c c) (.c (.sl J.length 0 1 1 0 5))=ab (.c j,l)∧dn l (.ptr 3 6 0) [j]=ab u∧OvI s q m u (d++[x]) j:=by
 obtain⟨K,z⟩:=aP (J++[.box (x.row.map .f) 0]:an);have up:∀ {i:Nat} {y:c6},J[i]?=ab y→K[i]?=ab y:=fun {i y} hy=>by rw [z,AI (ax hy)];exact hy
 have N:LR K c 5 (bh d):=by rw [z];exact h.lr.push _
 have B:K[J.length]?=ab (.box (x.row.map .f) 0):=by rw [z];simp
 have L:=ax h.b3;have M:K.length=J.length+1:=by rw [z];simp
 obtain⟨j,l,A,F,g,H⟩:=N.app (df _) (by decide) (row:=x.row) rfl (bytes:=40) (cB (by simp;omega) (by decide)) B;have E:∀ i,i<4→aX c≠ab i:=fun i hi e=>by have:=h.cb i e;omega
 have v:∀ b,aX j=ab b→4≤b:=fun b B=>by
  rcases H with e | e
  ·exact h.cb b (by rw [←e];exact B)
  ·rw [B]at e;cases e;omega
 have I:=g.2 3 _ (up h.b3) (E 3 (by decide));refine⟨j,l,l.set 3 (.box (q.er j) 0),by rw [←z];exact A,by simp [dn,I,bW.er,over],⟨?_,?_,?_,?_,?_,v⟩⟩
 ·rw [By (by decide)];exact g.2 0 _ (up h.b0) (E 0 (by decide))
 ·rw [By (by decide)];exact g.2 1 _ (up h.b1) (E 1 (by decide))
 ·rw [By (by decide)];exact g.2 2 _ (up h.b2) (E 2 (by decide))
 ·exact OF (ax I)
 ·rw [vP];exact F.set (fun e=>by have:=v 3 e;omega) _
theorem OvI.lds{s q:bW}{m:bz}{J:an}{b:List bz}{c:C}(h:OvI s q m J b c) :
  aV J ae (.c (.ptr 3 6 0))=ab (.c c)∧aV J ae (.c (.ptr 0 6 0))=ab (.c (.f (sl s.mg (bh s.mv))))∧aV J ae (.c (.ptr 1 0 0))=ab (vi m.day)∧aV J (ab 5) (.c (.ptr 1 0 0))=ab (.a (m.row.map .f)):=by
 have g:=h.b0;have d:=h.b1;have j:=h.b3;refine⟨?_,?_,?_,?_⟩
 ·simp [aV,j,aF,aK,bW.er]
 ·simp [aV,g,aF,aK,bW.row]
 ·simp [aV,d,aF,aK,bz.row]
 ·simp [aV,d,aF,aK,bz.row]
theorem o_{b:Type}(p:b→Bool)(l:List b):(l.filter p).length≤l.length:=List.length_filter_le p l
theorem vS{s:bW}(h:s.OK)(d6:s.mv.length≤60){m:bz}(hm:m.OK) :
  ∃ q,bW.Eqv q ⟨s.rg,s.ru,s.mi,s.le,s.zo,s.cR,s.fold,s.mg,Em s.mv m⟩∧bB tab.get 7 [s.v,.a (m.row.map .f)]=Eq (.t [q.v,vi 0]):=by
 have a7:=pD h;have e_:=qQ hm;obtain⟨q,hq,Z⟩:=Bp (s:=s) h.rl (fun x Y=>by
  obtain⟨i,hi,rfl⟩:=at3 Y;have:=(h.ru.at_ i (by simpa using hi)).ok.1;simpa using this) h.ml
 obtain⟨rr,⟨q',d9,rfl⟩,hp⟩:∃ rr,(∃ q',bW.Eqv q' ⟨s.rg,s.ru,s.mi,s.le,s.zo,s.cR,s.fold,s.mg,Em s.mv m⟩∧rr=.t [q'.v,vi 0])∧bB tab.get 7 [s.v,.a (m.row.map .f)] rr:=by
  refine bY rfl rfl fun Q hQ=>?_;apply aj;simp;obtain⟨H,hH⟩:=aP ([.box (s.row.map .f) 0,.box (m.row.map .f) 0,.box py 0]:an);have b0:H[0]?=ab (.box (s.row.map .f) 0):=by rw [hH];rfl
  have b1:H[1]?=ab (.box (m.row.map .f) 0):=by rw [hH];rfl
  have b2:H[2]?=ab (.box py 0):=by rw [hH];rfl
  have hl:H.length=3:=by rw [hH];rfl
  simp only [py]at hH;rw [←hH];clear hH;obtain⟨-,-,-,-,-,-,-,e7⟩:=gv b0;have e5:aV H (ab 5) (.c (.ptr 1 0 0))=ab (.a (m.row.map .f)):=by simp [aV,b1,aF,aK,bz.row]
  refine aq (aj ?_);simp [e7,e5,-av,a7,e_];refine aW (by simp) ?_;apply aj;have d_:q.row.length=7:=rfl;simp [e7,-av,Z,d_,hl];obtain⟨K,hK⟩:=aP (H++[.box (q.row.map .f) 0]:an);have up:∀ {i:Nat} {y:c6},H[i]?=ab y→K[i]?=ab y:=fun {i y} hy=>by rw [hK,AI (ax hy)];exact hy
  have k3:K[3]?=ab (.box (q.row.map .f) 0):=by rw [hK,at1 (by omega),hl];rfl
  rw [←hK];have b7:dn K (.ptr 3 6 0) [.f .aG]=ab (K.set 3 (.box (q.er (.f .aG)) 0)):=by simp [dn,k3,bW.row,bW.er,over]
  have hO:OvI s q m (K.set 3 (.box (q.er (.f .aG)) 0)) [] (.f .aG):=⟨by rw [By (by decide)];exact up b0,by rw [By (by decide)];exact up b1,by rw [By (by decide)];exact up b2,OF (ax k3),.inl ⟨rfl,.inl rfl⟩,fun b hb=>by simp [aX]at hb⟩
  obtain⟨J0,b_⟩:=aP (K.set 3 (.box (q.er (.f .aG)) 0):an);rw [←b_]at hO b7;clear b_ k3 hK up Z a7 e7 e5 b0 b1 b2 hl;apply aj;simp [b7,-bs];clear b7;refine aq (aj ?_);simp;have ix:=fun(H:an) i (hi:i<s.mv.length)=>uu (H:=H) (g:=s.mg) hi (by omega);refine bQ s.mv.length (fun j t J=>∃ c,t.g 2=.c (.ptr 0 0 0)∧t.g 3=.c (.ptr 1 0 0)∧t.g 4=.c (.ptr 2 0 0)∧t.g 6=.c (.ptr 3 0 0)∧OvI s q m J ((s.mv.take j).filter fun x=>decide (x.day<m.day)) c) (by omega) (by decide) (by simp)
   ⟨.f .aG,by simp,by simp,by simp,by simp,by simpa using hO⟩ ?_ ?_ ?_
  ·rintro j t J L M ⟨c,v,E,F,z,d⟩ A hn;obtain⟨X,W,l3,l4⟩:=d.lds;simp [A,v,W,-av];exact hn _ ⟨c,by simp [v],by simp [E],by simp [F],by simp [z],d⟩ (by simp [A]) (by simp)
  ·rintro j t J M ⟨c,v,E,F,z,d⟩ A nx;obtain⟨X,W,l3,l4⟩:=d.lds;have U:((s.mv.take j).filter fun x=>decide (x.day<m.day)).length≤1000:=aua (o_ _ _) (by simp;omega);obtain⟨x,Y⟩:=aP (s.mv[j]);have S:=xz (H:=J) M;have B:=y_ (H:=J) M;rw [←Y]at S B;have u:(s.mv.take (j+1)).filter (fun x=>decide (x.day<m.day))=(s.mv.take j).filter (fun x=>decide (x.day<m.day))++if x.day<m.day then [x]else []:=by
    rw [at0 M,←Y,List.filter_append]
    congr 1
    by_cases I:x.day<m.day<;>simp [I]
   refine az (aj ?_);simp [v,E,W,l3,-av,A,ix _ j M,B];by_cases I:x.day<m.day
   ·rw [bg I]at u;obtain⟨c',H',b9,l,N,O⟩:=d.app U x;simp only [bz.row,anc,atN]at l;refine ak (by simp [I]) (au (.inl rfl) ?_);simp [v,z,X,W,-av,A,ix _ j M,S,bz.row,l,N,-bs];refine aw ?_;refine nx _ _ ⟨c',by simp [v],by simp [E],by simp [F],by simp [z],by rw [u];exact O⟩ (by simp [A])
   ·rw [aY I,auQ]at u;refine al (by simp [I]) (aH (aw ?_));refine nx _ _ ⟨c,by simp [v],by simp [E],by simp [F],by simp [z],by rw [u];exact d⟩ (by simp [A])
  ·rintro t J ⟨c,v,E,F,z,d⟩ A;rw [aul]at d;obtain⟨F1,a9⟩:=aP (s.mv.filter fun x=>decide (x.day<m.day));rw [←a9]at d;have g_:F1.length≤60:=by rw [a9];exact aua (o_ _ _) d6
   obtain⟨X,W,l3,l4⟩:=d.lds;obtain⟨c',H',b9,l,N,O⟩:=d.app (by omega) m;have d7:(m.row.map C.f).length=5:=rfl;apply aj;simp [E,z,X,l4,-av,d7,l,N,-bs];clear X W l3 l4 l N d;refine aq (aj ?_);simp;refine bQ s.mv.length (fun j t J=>∃ c,t.g 2=.c (.ptr 0 0 0)∧t.g 3=.c (.ptr 1 0 0)∧t.g 4=.c (.ptr 2 0 0)∧t.g 6=.c (.ptr 3 0 0)∧OvI s q m J (F1++[m]++(s.mv.take j).filter fun x=>decide (m.day<x.day)) c) (by omega) (by decide) (by simp)
    ⟨c',by simp [v],by simp [E],by simp [F],by simp [z],by simpa using O⟩ ?_ ?_ ?_
   ·rintro j t J L M ⟨c,v,E,F,z,d⟩ A hn;obtain⟨X,W,l3,l4⟩:=d.lds;simp [A,v,W,-av];exact hn _ ⟨c,by simp [v],by simp [E],by simp [F],by simp [z],d⟩ (by simp [A]) (by simp)
   ·rintro j t J M ⟨c,v,E,F,z,d⟩ A nx;obtain⟨X,W,l3,l4⟩:=d.lds;have U:(F1++[m]++(s.mv.take j).filter fun x=>decide (m.day<x.day)).length≤1000:=by
     have:=o_ (fun x:bz=>decide (m.day<x.day)) (s.mv.take j);have:(s.mv.take j).length≤60:=by simp;omega
     simp only [at7,auX];omega
    obtain⟨x,Y⟩:=aP (s.mv[j]);have S:=xz (H:=J) M;have B:=y_ (H:=J) M;rw [←Y]at S B;have u:F1++[m]++(s.mv.take (j+1)).filter (fun x=>decide (m.day<x.day))=F1++[m]++(s.mv.take j).filter (fun x=>decide (m.day<x.day))++if m.day<x.day then [x]else []:=by
     rw [at0 M,←Y,List.filter_append,←auC]
     congr 1
     by_cases I:m.day<x.day<;>simp [I]
    refine az (aj ?_);simp [v,E,W,l3,-av,A,ix _ j M,B];by_cases I:m.day<x.day
    ·rw [bg I]at u;obtain⟨c',H',b9,l,N,O⟩:=d.app U x;simp only [bz.row,anc,atN]at l;refine ak (by simp [I]) (au (.inl rfl) ?_);simp [v,z,X,W,-av,A,ix _ j M,S,bz.row,l,N,-bs];refine aw ?_;refine nx _ _ ⟨c',by simp [v],by simp [E],by simp [F],by simp [z],by rw [u];exact O⟩ (by simp [A])
    ·rw [aY I,auQ]at u;refine al (by simp [I]) (aH (aw ?_));refine nx _ _ ⟨c,by simp [v],by simp [E],by simp [F],by simp [z],by rw [u];exact d⟩ (by simp [A])
   ·rintro t J ⟨c,v,E,F,z,d⟩ A;rw [aul]at d;have d8:F1++[m]++s.mv.filter (fun x=>decide (m.day<x.day))=Em s.mv m:=by rw [a9];simp [Em]
    rw [d8]at d;have h_:=F3 (m:=m) h.ms;obtain⟨X,-,-,-⟩:=d.lds;have e3:aV J (ab 7) (.c (.ptr 3 0 0))=ab (.a (q.er c)):=by
     have:=d.b3;simp [aV,this,aF,aK,bW.er]
    have c9:=d.b2;have f_:dn J (.ptr 2 0 0) (q.er c)=ab (J.set 2 (.box (q.er c) 0)):=by simp [dn,c9,py,over,bW.er]
    have d5:=d.lr.len;have c_:(q.er c).length=7:=rfl;refine aq (aj ?_);simp [z,X,-av,d5,show¬ (64:Int)<(Em s.mv m).length by omega];refine aW (by simp) ?_;apply aj;simp [z,F,e3,f_,-av,-bs,c_];obtain⟨Jf,a_⟩:=aP (J.set 2 (.box (q.er c) 0):an);rw [←a_];have hL:LR Jf c 5 (bh (Em s.mv m)):=by rw [a_];exact d.lr.set (fun e=>by have:=d.cb 2 e;omega) _
    obtain⟨g',Y⟩:=hL.ex (df _) 63;have f9:db deep Jf c=ab (sl g' (bh (Em s.mv m))):=Y;have e2:aV Jf (ab 7) (.c (.ptr 2 0 0))=ab (.a (q.er c)):=by
     have:Jf[2]?=ab (.box (q.er c) 0):=by rw [a_];exact OF (ax c9)
     simp [aV,this,aF,aK,bW.er]
    refine aE (hQ _ _ _ ⟨⟨q.rg,q.ru,q.mi,q.le,q.zo,q.cR,q.fold,g',Em s.mv m⟩,⟨hq.ru,hq.mi,hq.le,hq.zo,hq.cR,hq.fold,rfl⟩,rfl⟩ ⟨rfl,.t [.a (q.er c),vi 0],?_,?_⟩)
    ·simp [Km.results,bw,aZ,F,e2,-av]
    ·simp [fZ,bX,aZ,f9,bW.row,bW.er]
 exact⟨q',d9,hp.eq⟩
inductive dK:List bA→List bA→Prop
 | nil:dK [] []
 | step {r o o' t}:dK r o→Dr t o o'→dK (r++[t]) o'
def TLe(a b:bA):Prop:=a.at_≤b.at_
def TLt(a b:bA):Prop:=a.at_<b.at_
theorem Dr.perm{t:bA}{l o:List bA}(h:Dr t l o):o.Perm (l++[t]):=by
 obtain⟨A,B,rfl,rfl,-,-⟩:=h;exact List.perm_middle.trans (List.perm_append_singleton t (A++B)).symm
theorem Dr.sorted{t:bA}{l o:List bA}(h:Dr t l o)(s:l.Pairwise TLe):o.Pairwise TLe:=by
 obtain⟨A,B,rfl,rfl,y,x⟩:=h;rw [auB]at s ⊢;obtain⟨m,u,v⟩:=s;have q:∀ a ∈ A,a.at_≤t.at_:=by
  intro a d;cases j:A.getLast? with
  | none=>simp at j;subst j;cases d
  | some z=>
   have E:=x z j;obtain⟨F,e⟩:=avc.1 j;rw [e,auB]at m;rw [e]at d;rcases at9.1 d with d | d
   ·have:=m.2.2 a d z (by simp);unfold TLe at this;omega
   ·have:a=z:=by simpa using d
    rw [this];exact E
 refine⟨m,auw.2 ⟨fun b g=>?_,u⟩,fun a d b g=>?_⟩
 ·have:=y b g;unfold TLe;omega
 ·rcases aui.1 g with rfl | g
  ·exact q a d
  ·exact v a d b g
theorem dK.perm:∀ {r o:List bA},dK r o→o.Perm r
 | _,_,.nil=>List.Perm.refl _| _,_,.step h b=>b.perm.trans ((dK.perm h).append_right _)
theorem dK.sorted:∀ {r o:List bA},dK r o→o.Pairwise TLe
 | _,_,.nil=>List.Pairwise.nil| _,_,.step h b=>b.sorted (dK.sorted h)
theorem dK.len{r o:List bA}(h:dK r o):o.length=r.length:=h.perm.length_eq
theorem nX:∀ {a b:List bA},a.Pairwise TLt→b.Pairwise TLe→b.Perm a→b=a
 | [],b,_,_,h=>h.eq_nil| x::a,[],_,_,h=>by cases h.symm.eq_nil
 | x::a,y::b,d,g,h=>by
  rw [auw]at d g;have l:y=x:=by
   have m:y ∈ x::a:=h.subset (at2 ..);have j:x ∈ y::b:=h.symm.subset (at2 ..);rcases aui.1 m with e | m
   ·exact e
   ·rcases aui.1 j with e | j
    ·exact e.symm
    ·have q:=d.1 y m;have s:=g.1 x j;unfold TLt at q;unfold TLe at s;omega
  subst l;rw [nX d.2 g.2 (h.cons_inv)]
def dM(o:List bA)(size:Int)(i:Nat):Int:=match o[i+1]? with
 | some y=>y.at_| none=>(match o[0]? with | some y=>y.at_ | none=>0)+size
def lN(o:List bA)(size:Int)(n:Nat):Bool:=(List.range n).all fun i=>match o[i]? with
 | some x=>decide (2160≤dM o size i-x.at_)| none=>ag
def da(o:List bA)(size:Int):Bool:=lN o size o.length
theorem x_{o:List bA}{size:Int}(h:da o size=ag):∀ i x y,o[i]?=ab x→o[i+1]?=ab y→x.at_+2160≤y.at_:=by
 intro i x y d g;unfold da lN at h;have b:=at4.1 h i (by have:=(BY.1 d).1;simpa using this);simp only [d,dM,g]at b;have:=of_decide_eq_true b;omega
theorem oO:∀ {o:List bA},(∀ i x y,o[i]?=ab x→o[i+1]?=ab y→x.at_+2160≤y.at_)→o.Pairwise TLt
 | [],_=>List.Pairwise.nil| [x],_=>auA _ _
 | x::y::l,h=>by
  have g:=oO (o:=y::l) fun i a b j m=>h (i+1) a b (by simpa using j) (by simpa using m);have q:x.at_+2160≤y.at_:=h 0 x y (by simp) (by simp);refine auw.2 ⟨fun z d=>?_,g⟩;unfold TLt;rcases aui.1 d with rfl | d
  ·omega
  ·have:=(auw.1 g).1 z d;unfold TLt at this;omega
theorem iX{o:List bA}{size:Int}(h:da o size=ag):o.Pairwise TLt:=oO (x_ h)
def Nm:Nat→Int
 | 0=>2| _=>5
def km(c:Nat):Nat→Int
 | 0=>Nm c| y+1=>km c y+(sf c (y+1):Nat)
def nY:Nat→Nat
 | 0=>7| _=>14
def cyc(c:Nat):Int:=7*(jz c:Nat)
theorem yI{c:Nat}(b:c<3):km c (nY c)=Nm c+cyc c:=by
 have:c=0∨c=1∨c=2:=by omega
 rcases this with rfl | rfl | rfl<;>decide
theorem CA(c y:Nat):12≤sf c y:=by
 have b:=qt c y 1;have d:=qt c y 2;unfold sf;omega
theorem yJ(c:Nat){y b:Nat}(h:y<b):km c y<km c b:=by
 induction h with
 | refl=>have:=CA c (y+1);simp only [km];omega| step _ d=>rename_i m _;have:=CA c (m+1);simp only [km]at *;omega
theorem tU{c y:Nat}(g:c<3)(j:y≤nY c):2≤km c y∧km c y≤222:=by
 have d:km c 0≤km c y:=by
  rcases auv y with rfl | h
  ·exact au0 _
  ·exact Int.le_of_lt (yJ c h)
 have b:km c y≤km c (nY c):=by
  rcases Nat.lt_or_eq_of_le j with h | rfl
  ·exact Int.le_of_lt (yJ c h)
  ·exact au0 _
 rw [yI g]at b;have:c=0∨c=1∨c=2:=by omega
 rcases this with rfl | rfl | rfl<;>simp [km,Nm,cyc,jz]at d b<;>omega
def ek(c y:Nat)(r q:ew):List bA:=
 let b:=km c (y-1)
 if iF (pI c y b r) (qT c y r) r.wk r.wd then [⟨kL (pI c y b r) (qT c y r) r.wk r.wd*1440+r.mi-q.off,r.off⟩]else []
def oT(c:Nat)(r q:ew):Nat→List bA
 | 0=>[]| n+1=>oT c r q n++(ek c (n+1) r q++ek c (n+1) q r)
theorem jZ(c y:Nat)(r q:ew):(ek c y r q).length≤1:=by simp only [ek];split<;>simp
theorem kd(c:Nat)(r q:ew):∀ n,(oT c r q n).length≤2*n
 | 0=>by simp [oT]
 | n+1=>by
  have b:=kd c r q n;have d:=jZ c (n+1) r q;have g:=jZ c (n+1) q r;simp only [oT,at7];omega
structure ZD where
 c:Nat
 start:Int
 tg:Tg
 tr:List bA
 dI:Int
 yg:Tg
 yr:List ew
def ZD.row(z:ZD):List FC:=fY z.c++[fi z.start,sl z.tg (aQ z.tr),fi z.dI,sl z.yg (bT z.yr)]
abbrev ZD.v(z:ZD):V:=.a (z.row.map .f)
theorem ZD.tq{z:ZD}(hc:z.c<3):z.row.length=8:=by
 obtain⟨c,s,tg,tr,h,yg,yr⟩:=z;have:c=0∨c=1∨c=2:=by simp at hc;omega
 rcases this with rfl | rfl | rfl<;>rfl
section
variable{H:an}{b:Nat}{z:ZD}{fl:Nat}
theorem rP(h:H[b]?=ab (.box (z.row.map .f) fl))(d:z.c<3):aV H ae (.c (.ptr b 4 0))=ab (vi z.start):=by
 obtain⟨c,s,tg,j,g,l,yr⟩:=z;have:c=0∨c=1∨c=2:=by simp at d;omega
 rcases this with rfl | rfl | rfl<;>simp [aV,h,aF,ZD.row,fY,aK]
theorem dv(h:H[b]?=ab (.box (z.row.map .f) fl))(d:z.c<3):aV H ae (.c (.ptr b 5 0))=ab (.c (.f (sl z.tg (aQ z.tr)))):=by
 obtain⟨c,s,tg,j,g,l,yr⟩:=z;have:c=0∨c=1∨c=2:=by simp at d;omega
 rcases this with rfl | rfl | rfl<;>simp [aV,h,aF,ZD.row,fY,aK]
theorem fF(h:H[b]?=ab (.box (z.row.map .f) fl))(d:z.c<3):aV H ae (.c (.ptr b 6 0))=ab (vi z.dI):=by
 obtain⟨c,s,tg,j,g,l,yr⟩:=z;have:c=0∨c=1∨c=2:=by simp at d;omega
 rcases this with rfl | rfl | rfl<;>simp [aV,h,aF,ZD.row,fY,aK]
theorem eM(h:H[b]?=ab (.box (z.row.map .f) fl))(d:z.c<3):aV H ae (.c (.ptr b 7 0))=ab (.c (.f (sl z.yg (bT z.yr)))):=by
 obtain⟨c,s,tg,j,g,l,yr⟩:=z;have:c=0∨c=1∨c=2:=by simp at d;omega
 rcases this with rfl | rfl | rfl<;>simp [aV,h,aF,ZD.row,fY,aK]
theorem za(h:H[b]?=ab (.box (z.row.map .f) fl))(d:z.c<3):aV H ae (.c (.ptr b 0 0))=ab (vi (Nm z.c)):=by
 obtain⟨c,s,tg,j,g,l,yr⟩:=z;have:c=0∨c=1∨c=2:=by simp at d;omega
 rcases this with rfl | rfl | rfl<;>simp [aV,h,aF,ZD.row,fY,aK,Nm]
theorem iV(h:H[b]?=ab (.box (z.row.map .f) fl))(d:z.c<3):aV H (ab 4) (.c (.ptr b 0 0))=ab (kK z.c):=by
 obtain⟨c,s,tg,j,g,l,yr⟩:=z;have:c=0∨c=1∨c=2:=by simp at d;omega
 rcases this with rfl | rfl | rfl<;>simp [aV,h,aF,ZD.row,fY,aK]
theorem cA(h:H[b]?=ab (.box (z.row.map .f) fl))(d:z.c<3):aV H (ab 8) (.c (.ptr b 0 0))=ab z.v:=by
 obtain⟨c,s,tg,j,g,l,yr⟩:=z;have:c=0∨c=1∨c=2:=by simp at d;omega
 rcases this with rfl | rfl | rfl<;>simp [aV,h,aF,ZD.row,fY,aK]
end
def ZD.cyc(z:ZD):Int:=if z.yr.length=0 then 1 else Go.Proofs.YtmbjejcfadllnaaGreat.cyc z.c
theorem kz(z:ZD)(b:z.c<3):bB tab.get 80 [z.v]=Eq (vi z.cyc):=bB.eq (by
 refine bI rfl rfl fun Q d=>?_;apply aj;simp;have g:([.box (z.row.map .f) 0]:an)[0]?=ab (.box (z.row.map .f) 0):=rfl;apply aq;apply aj;simp [eM g b,-av];by_cases h:z.yr=[]
 ·refine ak (by simp [h]) ?_;apply aj;simp;refine aE (d _ _ ?_);simp [ZD.cyc,h]
 ·refine aW (by simp [h]) ?_;apply aj;simp [iV g b,-av,Nh b];apply aq;apply aj;have hr:bV .rem (vi (jz z.c:Nat)) (vi 7)=ab (vi (((jz z.c:Nat):Int) % 7)):=ke (by omega) (by omega);have l:jz z.c=13∨jz z.c=31:=by unfold jz;split<;>simp
  have j:=aN (n:=7*((jz z.c:Nat):Int));simp [hr];refine ak (by simp;omega) ?_;apply aj;simp [j];refine aE (d _ _ ?_);simp [ZD.cyc,h,cyc])
theorem yQ{c y:Nat}{b:Int}{x:ew}(j:0≤b)(d:b≤260)(m:x.OK):-10≤kL (pI c y b x) (qT c y x) x.wk x.wd∧kL (pI c y b x) (qT c y x) x.wk x.wd≤300:=by
 have q:=fN c y 1;have s:=fN c y x.mo.toNat;have u:=qt c y x.mo.toNat;have l:qT c y x=(kO c y x.mo.toNat:Nat):=rfl;have g:b≤pI c y b x∧pI c y b x≤b+9:=by unfold pI;split<;>omega
 unfold kL;split<;>omega
structure yB(fl:List FC)(s:FC)(k m:Nat)(r q:ew):Prop where
 i:∀ H:an,aL H 5 ae (.c (.f s)) (vi k)=ab (.c (.f (.fp fl (k*5))))
 i':∀ H:an,aL H 5 ae (.c (.f s)) (vi m)=ab (.c (.f (.fp fl (m*5))))
 row:∀ H:an,aV H (ab 5) (.c (.f (.fp fl (k*5))))=ab (.a (r.row.map .f))
 mi:∀ H:an,aV H ae (.c (.f (.fp fl (k*5+3))))=ab (vi r.mi)
 of:∀ H:an,aV H ae (.c (.f (.fp fl (k*5+4))))=ab (vi r.off)
 of':∀ H:an,aV H ae (.c (.f (.fp fl (m*5+4))))=ab (vi q.off)
theorem aiX(g:Tg)(r q:ew):yB (bT [r,q]).flatten (sl g (bT [r,q])) 0 1 r q:=
 ⟨fun _=>rfl,fun _=>rfl,fun _=>rfl,fun _=>rfl,fun _=>rfl,fun _=>rfl⟩
theorem aiY(g:Tg)(r q:ew):yB (bT [r,q]).flatten (sl g (bT [r,q])) 1 0 q r:=
 ⟨fun _=>rfl,fun _=>rfl,fun _=>rfl,fun _=>rfl,fun _=>rfl,fun _=>rfl⟩
theorem xK(c:Nat):nY c≤14:=by unfold nY;split<;>omega
theorem Gn{z:ZD}(E:z.c<3){fl:List FC}{k m y:Nat}{r q:ew}(j:yB fl (sl z.yg (bT z.yr)) k m r q)(S:(1:Int)-k=m)(hr:r.OK)(hq:q.OK)(hy:y<nY z.c)
  {t:T} {J:an} {cl:C} {o g:List bA} (l:J[0]?=ab (.box (z.row.map .f) 0)) (L:LR J cl 2 (aQ o)) (W:dK g o) (a_:g.length≤100)
  (A:t.g 1=.c (.ptr 0 0 0)) (Z:t.g 4=.c cl) (g5:t.g 5=vi (cyc z.c)) (F:t.g 6=vi (km z.c y)) (H:t.g 7=vi ((y:Int)+1)) (B:t.g 8=vi (k:Nat)) {K:List cG} {Q:Option ay→St→Prop}
  (next:∀(t:T) (J:an) (cl:C) (o:List bA),J[0]?=ab (.box (z.row.map .f) 0)→LR J cl 2 (aQ o)→dK (g++ek z.c (y+1) r q) o→t.g 1=.c (.ptr 0 0 0)→t.g 4=.c cl→t.g 5=vi (cyc z.c)→t.g 6=vi (km z.c y)→t.g 7=vi ((y:Int)+1)→t.g 8=vi (k:Nat) →
   WP tab.get 78 ae K ⟨t,[],J⟩ Q) :
  WP tab.get 78 ae (.code AO::K) ⟨t,[],J⟩ Q:=by
 have b7:=xK z.c;obtain⟨b0,b1⟩:=tU E (Nat.le_of_lt hy);have hf:=afK E (y:=y+1) (by omega) (by omega) (b:=km z.c y) (by omega) (by omega) r hr;rw [show((y+1:Nat):Int)=(y:Int)+1 by omega]at hf;obtain⟨d0,d1⟩:=yQ (c:=z.c) (y:=y+1) (b:=km z.c y) (x:=r) (by omega) (by omega) hr;obtain⟨-,-,-,-,m0,m1,o0,o1⟩:=hr;obtain⟨-,-,-,-,-,-,p0,p1⟩:=hq;have d:ek z.c (y+1) r q=if iF (pI z.c (y+1) (km z.c y) r) (qT z.c (y+1) r) r.wk r.wd then [⟨kL (pI z.c (y+1) (km z.c y) r) (qT z.c (y+1) r) r.wk r.wd*1440+r.mi-q.off,r.off⟩]else []:=rfl;generalize hD:kL (pI z.c (y+1) (km z.c y) r) (qT z.c (y+1) r) r.wk r.wd=D at *;generalize hO:iF (pI z.c (y+1) (km z.c y) r) (qT z.c (y+1) r) r.wk r.wd=O at *;refine az ?_;apply aj;have u:=j.row J;have hi:=j.i J;have Y:=iV l E;have v:=eM l E;simp [A,F,H,B,Y,v,hi,u,hf,-av];apply aq;refine au (.inl rfl) ?_;simp;cases O with
 | false=>
  simp only [atY,if_false]at d;rw [d,auQ]at next
  refine al (by simp) (aH (aw ?_));exact next _ J cl o l L W (by simp [A]) (by simp [Z]) (by simp [g5]) (by simp [F]) (by simp [H]) (by simp [B])
 | true=>
  simp only [if_true]at d;refine ak (by simp) ?_;refine au (.inl rfl) ?_;have w1:=aN (n:=D*1440);have w2:=aN (n:=D*1440+r.mi);have w3:=aN (n:=D*1440+r.mi-q.off);have w4:ai .i64 (1-(k:Int))=m:=by rw [aN,S]
  have N:=j.i' J;have U:=j.mi J;have X:=j.of J;have s:=j.of' J;have a7:=W.len;obtain⟨o',cl',J',hI,hE,M,hK,a9⟩:=Ny L (by omega) ⟨D*1440+r.mi-q.off,r.off⟩;simp only [bA.row,anc,atN]at hE;have I:=hE.eq;simp [A,Z,B,v,hi,N,U,X,s,w1,w2,w3,w4,I,-av];refine aw ?_;rw [d]at next
  exact next _ J' cl' o' (hK.2 _ _ l (L.cw l)) M (.step W hI) (by simp [A]) (by simp) (by simp [g5]) (by simp [F]) (by simp [H]) (by simp [B])
theorem amB{z:ZD}(F:z.c<3){r q:ew}(L:z.yr=[r,q])(hr:r.OK)(H:q.OK){y:Nat}(I:y<nY z.c)
  {t:T} {J:an} {cl:C} {o A:List bA} (v:J[0]?=ab (.box (z.row.map .f) 0)) (x:LR J cl 2 (aQ o)) (b:dK A o) (N:A.length≤90)
  (d:t.g 1=.c (.ptr 0 0 0)) (g:t.g 4=.c cl) (j:t.g 5=vi (cyc z.c)) (l:t.g 6=vi (km z.c y)) (u:t.g 7=vi ((y:Int)+1)) {K:List cG} {Q:Option ay→St→Prop}
  (next:∀(t:T) (J:an) (cl:C) (o:List bA),J[0]?=ab (.box (z.row.map .f) 0)→LR J cl 2 (aQ o)→dK (A++(ek z.c (y+1) r q++ek z.c (y+1) q r)) o→t.g 1=.c (.ptr 0 0 0)→t.g 4=.c cl→t.g 5=vi (cyc z.c)→t.g 6=vi (km z.c y)→t.g 7=vi ((y:Int)+1) →
   WP tab.get 78 ae K ⟨t,[],J⟩ Q) :
  WP tab.get 78 ae (.code AN::K) ⟨t,[],J⟩ Q:=by
 apply aj;simp;refine az ?_;refine bG (fun n s=>∃(k:Nat) (t:T) (J:an) (cl:C) (o:List bA),s=⟨t,[],J⟩∧n=2-k∧k≤2∧J[0]?=ab (.box (z.row.map .f) 0)∧LR J cl 2 (aQ o) ∧
   dK (A++((if 1≤k then ek z.c (y+1) r q else [])++(if 2≤k then ek z.c (y+1) q r else []))) o ∧
   t.g 1=.c (.ptr 0 0 0)∧t.g 4=.c cl∧t.g 5=vi (cyc z.c)∧t.g 6=vi (km z.c y)∧t.g 7=vi ((y:Int)+1)∧t.g 8=vi (k:Nat)) 2
  ⟨0,_,J,cl,o,rfl,rfl,by omega,v,x,by simpa using b,by simp [d],by simp [g],by simp [j],by simp [l],by simp [u],by simp⟩ ?_
 clear v x b d g j l u;rintro n s ⟨k,t,J,cl,o,rfl,rfl,O,v,x,b,d,g,j,l,u,B⟩ M;apply aq;apply aj;simp [B];have S:=jZ z.c (y+1) r q;have U:=jZ z.c (y+1) q r;have E:k=0∨k=1∨k=2:=by omega
 rcases E with rfl | rfl | rfl
 ·refine ak (by simp) (aH ?_);apply aq;simp at b;refine Gn F (m:=1) (by rw [L];exact aiX z.yg r q) (by decide) hr H I v x b (by omega) (by simp [d]) (by simp [g]) (by simp [j]) (by simp [l]) (by simp [u]) (by simp [B]) ?_;intro t J cl o v x b d g j l u B;refine au (.inl rfl) ?_;simp [B];exact M 1 _ (by omega) ⟨1,_,J,cl,o,rfl,rfl,by omega,v,x,by simpa using b,by simp [d],by simp [g],by simp [j],by simp [l],by simp [u],by simp [show ai .i64 1=1 from rfl]⟩
 ·refine ak (by simp) (aH ?_);apply aq;simp at b;refine Gn F (m:=0) (by rw [L];exact aiY z.yg r q) (by decide) H hr I v x b (by simp;omega) (by simp [d]) (by simp [g]) (by simp [j]) (by simp [l]) (by simp [u]) (by simp [B]) ?_;intro t J cl o v x b d g j l u B;refine au (.inl rfl) ?_;simp [B];exact M 0 _ (by omega) ⟨2,_,J,cl,o,rfl,rfl,by omega,v,x,by simpa using b,by simp [d],by simp [g],by simp [j],by simp [l],by simp [u],by simp [show ai .i64 2=2 from rfl]⟩
 ·refine al (by simp) ?_;refine bf (k':=K) rfl ?_;simp at b;exact next _ J cl o v x (by simpa using b) (by simp [d]) (by simp [g]) (by simp [j]) (by simp [l]) (by simp [u])
def pM(x:bA):Prop:=-20000≤x.at_∧x.at_≤500000
theorem xM{c y:Nat}{r q:ew}(g:c<3)(l:y<nY c)(hr:r.OK)(j:q.OK):∀ x ∈ ek c (y+1) r q,pM x:=by
 intro x d;obtain⟨b0,b1⟩:=tU g (Nat.le_of_lt l);obtain⟨m,s⟩:=yQ (c:=c) (y:=y+1) (b:=km c y) (x:=r) (by omega) (by omega) hr;obtain⟨-,-,-,-,u,v,-,-⟩:=hr;obtain⟨-,-,-,-,-,-,p0,p1⟩:=j;simp only [ek,Nat.add_sub_cancel]at d;split at d
 ·simp only [List.mem_singleton]at d;subst d;unfold pM;simp only;omega
 ·cases d
theorem qH{c:Nat}{r q:ew}(d:c<3)(hr:r.OK)(g:q.OK):∀ n,n≤nY c→∀ x ∈ oT c r q n,pM x
 | 0,_,x,b=>by cases b
 | n+1,j,x,b=>by
  simp only [oT,at9]at b;rcases b with b | b | b
  ·exact qH d hr g n (by omega) x b
  ·exact xM d (by omega) hr g x b
  ·exact xM d (by omega) g hr x b
theorem vZ(o:List bA)(size:Int)(n:Nat){x:bA}(h:o[n]?=ab x):lN o size (n+1)=(lN o size n&&decide (2160≤dM o size n-x.at_)):=by
 simp [lN,List.range_succ,h]
theorem Ck{o:List bA}{size:Int}{n:Nat}{x:bA}(h:o[n]?=ab x)(d:¬ 2160≤dM o size n-x.at_):da o size=ah:=by
 cases e:da o size with
 | false=>rfl
 | true=>
  have b:=at4.1 e n (by have:=(BY.1 h).1;simpa using this);simp only [h]at b;exact absurd (of_decide_eq_true b) d
theorem sM(z:ZD)(v:z.c<3){r q:ew}(hz:z.yr=[r,q])(hr:r.OK)(hq:q.OK):∃ g o,dK (oT z.c r q (nY z.c)) o ∧
  bB tab.get 78 [z.v]=Eq (.t [.c (.f (sl g (aQ o))),vb (da o (cyc z.c*1440))]):=by
 obtain⟨rr,⟨g,o,B,rfl⟩,hp⟩:∃ rr,(∃ g o,dK (oT z.c r q (nY z.c)) o∧rr=.t [.c (.f (sl g (aQ o))),vb (da o (cyc z.c*1440))])∧bB tab.get 78 [z.v] rr:=by
  refine bY rfl rfl fun Q hQ=>?_;apply aj;simp;have F:([.box (z.row.map .f) 0]:an)[0]?=ab (.box (z.row.map .f) 0):=rfl;have b9:z.cyc=cyc z.c:=by simp [ZD.cyc,hz]
  have c_:cyc z.c=91∨cyc z.c=217:=by unfold cyc jz;split<;>simp
  have d5:Nm z.c=2∨Nm z.c=5:=by unfold Nm;split<;>simp
  have U:=yI v;have d6:=xK z.c;apply aj;simp;apply aq;apply aj;simp [eM F v,-av,hz];refine aW (by simp) ?_;apply aj;simp [cA F v,-av,kz z v,b9];apply aj;simp [za F v,-av];apply aq;apply aj;simp;refine az ?_;refine bG (fun n s=>∃(y:Nat) (t:T) (J:an) (cl:C) (o:List bA),s=⟨t,[],J⟩∧n=nY z.c-y∧y≤nY z.c∧J[0]?=ab (.box (z.row.map .f) 0)∧LR J cl 2 (aQ o)∧dK (oT z.c r q y) o ∧
    t.g 1=.c (.ptr 0 0 0)∧t.g 4=.c cl∧t.g 5=vi (cyc z.c)∧t.g 6=vi (km z.c y)∧t.g 7=vi ((y:Int)+1)) (nY z.c)
   ⟨0,_,_,.f .es,[],rfl,rfl,by omega,F,.inl ⟨rfl,.inr rfl⟩,.nil,by simp,by simp,by simp,by simp [km],by simp⟩ ?_
  rintro n s ⟨y,t,J,cl,o,rfl,rfl,hy,S,I,B,H,d,u,N,O⟩ ih;obtain⟨b0,b1⟩:=tU v hy;apply aq;apply aj;simp [H,u,N,za S v,-av,aN (n:=Nm z.c+cyc z.c)];by_cases W:y<nY z.c
  ·have h1:=yJ z.c W;refine ak (by simp;omega) (aH ?_);apply aq;refine az ?_;apply aq;have d8:=kd z.c r q y;refine amB v hz hr hq W S I B (by omega) (by simp [H]) (by simp [d]) (by simp [u]) (by simp [N]) (by simp [O]) ?_;clear H d u N O S I B;intro t J cl o S I B H d u N O;have Y:=CB v (y:=y+1) (by omega) (by omega);rw [show((y+1:Nat):Int)=(y:Int)+1 by omega]at Y;have d9:sf z.c (y+1)≤18:=by
    have h1:=fN z.c (y+1) 1;have h2:=fN z.c (y+1) 2;unfold sf;omega
   refine au (.inl rfl) ?_;simp [H,N,O,iV S v,-av,Y,aN (n:=km z.c y+(sf z.c (y+1):Nat))];refine aw ?_;refine au (.inl rfl) ?_;simp [O,aN (n:=(y:Int)+1+1)];exact ih (nY z.c-(y+1)) _ (by omega) ⟨y+1,_,J,cl,o,rfl,rfl,by omega,S,I,B,by simp [H],by simp [d],by simp [u],by simp [km],by simp⟩
  ·have c9:y=nY z.c:=by omega
   subst c9;rw [U];refine al (by simp) ?_;refine bf (k':=[.code AP]) rfl ?_;have K:∀ x ∈ o,pM x:=fun x hx=>qH v hr hq _ (aft _) x (B.perm.subset hx);obtain⟨g',L⟩:=I.ex (cD _) 63;have d7:o.length≤28:=by have:=B.len;have:=kd z.c r q (nY z.c);omega
   apply aq;apply aj;simp;refine az ?_;clear ih;refine bG (fun n s=>∃(i:Nat) (t:T),s=⟨t,[],J⟩∧n=o.length-i∧i≤o.length∧lN o (cyc z.c*1440) i=ag∧t.g 4=.c cl∧t.g 5=vi (cyc z.c)∧t.g 11=vi (i:Nat)) o.length
    ⟨0,_,rfl,rfl,by omega,rfl,by simp [d],by simp [u],by simp⟩ ?_
   clear H d u N O;rintro n s ⟨i,t,rfl,rfl,hi,X,d,u,j⟩ ih;apply aq;apply aj;simp [d,j,I.len];by_cases l:i<o.length
   case neg=>
    have:i=o.length:=by omega
    subst this;refine al (by simp) ?_;refine bf (k':=[.code tH]) rfl ?_;apply aj;simp [d];refine aE (hQ _ _ (.t [.c (.f (sl g' (aQ o))),vb (da o (cyc z.c*1440))]) ⟨g',o,B,rfl⟩ ?_);have:da o (cyc z.c*1440)=ag:=X;simp [fZ,bX,deep,L,this,aZ,d]
   refine ak (by simp [l]) (aH ?_);apply aq;refine az ?_;rcases I with⟨h,_⟩ | ⟨_,b,Z,rfl,hb⟩
   ·have:o=[]:=by simpa [aQ]using h
    subst this;simp at l
   rw [mE]at d L;have b_:=cD o;have M:∀ k:Nat,k<o.length→aL J 2 ae (.c (.sl b 0 o.length 0 Z 2)) (vi k)=ab (.c (.ptr b (k*2) Z)):=fun k hk=>by
    have:=hb.idx (n:=o.length) (c:=0) (k:=.i64) (o:=0) (i:=(k:Int)) (by omega) (by omega);simpa using this
   have A:∀ k:Nat,(hk:k<o.length)→aV J ae (.c (.ptr b (k*2) Z))=ab (vi o[k].at_):=fun k hk=>by
    have:=hb.ldc b_ (dp (AT hk)) (k:=0) (x:=fi o[k].at_) rfl;simpa using this
   have o0:0<o.length:=by omega
   have i0:=M 0 o0;have l0:=A 0 o0;have ii:=M i l;have li:=A i l;have a9:=K _ (IS o0);have b7:=K _ (IS l);unfold pM at a9 b7;simp [-av]at i0 l0;have w1:=aN (n:=cyc z.c*1440);have w2:=aN (n:=o[0].at_+cyc z.c*1440);have w3:=aN (n:=(i:Int)+1);apply aj;simp [d,u,i0,l0,w1,w2,-av];apply aq;have m:∀ t:T,t.g 4=.c (.sl b 0 o.length 0 Z 2)→t.g 5=vi (cyc z.c)→t.g 11=vi (i:Nat)→t.g 12=vi (dM o (cyc z.c*1440) i)→-20000≤dM o (cyc z.c*1440) i→dM o (cyc z.c*1440) i≤900000 →
     WP tab.get 78 ae [.code AR,.inBlock 5,.code AS,.inLoop AQ,.inBlock 4,.code tH] ⟨t,[],J⟩ Q:=by
    intro t d u j a7 n0 n1;apply aj;simp [d,j,a7,ii,li,-av,aN (n:=dM o (cyc z.c*1440) i-o[i].at_)];by_cases hs:dM o (cyc z.c*1440) i-o[i].at_<2160
    ·refine ak (by simp [hs]) ?_;apply aj;simp [d];refine aE (hQ _ _ (.t [.c (.f (sl g' (aQ o))),vb (da o (cyc z.c*1440))]) ⟨g',o,B,rfl⟩ ?_);have:da o (cyc z.c*1440)=ah:=Ck (AT l) (by omega);simp [fZ,bX,deep,L,this,aZ,d]
    ·refine al (by simp;omega) (aH (aw ?_));refine au (.inl rfl) ?_;simp [j,w3];refine ih (o.length-(i+1)) _ (by omega) ⟨i+1,_,rfl,rfl,by omega,?_,by simp [d,mE],by simp [u],by simp⟩;rw [vZ _ _ _ (AT l),X];simp;omega
   by_cases E:i+1<o.length
   ·have i1:=M (i+1) E;have l1:=A (i+1) E;have a_:=K _ (IS E);unfold pM at a_;rw [show((i+1:Nat):Int)=(i:Int)+1 by omega]at i1;have hn:dM o (cyc z.c*1440) i=o[i+1].at_:=by simp [dM,AT E]
    rw [hn]at m;apply aj;simp [d,j,w3,hb.len];refine ak (by simp;omega) ?_;refine au (.inl rfl) ?_;simp [d,j,w3,i1,l1,-av];exact m _ (by simp [d]) (by simp [u]) (by simp [j]) (by simp) (by omega) (by omega)
   ·have hn:dM o (cyc z.c*1440) i=o[0].at_+cyc z.c*1440:=by
     simp [dM,List.getElem?_eq_none_iff.2 (show o.length≤i+1 by omega),AT o0]
    rw [hn]at m;apply aj;simp [d,j,w3,hb.len];refine al (by simp;omega) (aH ?_);exact m _ (by simp [d]) (by simp [u]) (by simp [j]) (by simp) (by omega) (by omega)
 exact⟨g,o,B,bB.eq hp⟩
def mT(n:Nat):Int:=match n % 8 with
 | 0=>0 | 1=>60 | 2=>120 | 3=>-90 | 4=>30 | 5=>1080 | 6=>-1080 | _=>90
def isZ(r:Option (V × an))(n:Int):Bool:=match r with
 | some (.c (.f (.int .i64 k)),_)=>decide (k=n)| _=>ah
theorem akD{r:Option (V × an)}{n:Int}(h:isZ r n=ag):r.map (·.1)=ab (vi n):=by
 unfold isZ at h;split at h
 ·rw [of_decide_eq_true h];rfl
 ·cases h
theorem abt:((List.range 256).all fun n=>isZ (CF tab.get 60 10 (.fn 27) [.c (.f (.int .u8 (n:Nat)))] []) (mT n))=ag:=by kernel_rfl
theorem zL{n:Nat}(h:n<256):bB tab.get 27 [.c (.f (.int .u8 (n:Nat)))]=Eq (vi (mT n)):=(dU (akD (dy (p:=fun n=>isZ (CF tab.get 60 10 (.fn 27) [.c (.f (.int .u8 (n:Nat)))] []) (mT n)) abt h))).eq
theorem lL(n:Nat):-1080≤mT n∧mT n≤1080:=by unfold mT;split<;>omega
theorem Cx(n m:Int)(d:0≤m)(g:m≤4611686018427387904):bB tab.get 77 [vi n,vi m]=Eq (vb (decide (-m≤n)&&decide (n≤m))):=bB.eq (by
 refine bI rfl rfl fun Q b=>?_;apply aj;simp;by_cases h:-m≤n
 ·apply aj;simp [zU,aN (n:=-m),h];refine aE (b _ _ ?_);simp [h]
 ·apply aj;simp [zU,aN (n:=-m),h];refine aE (b _ _ ?_);simp [h])
theorem iQ{n m:Int}(d:0≤m)(g:m≤4611686018427387904)(h:-m≤n)(b:n≤m):bB tab.get 77 [vi n,vi m]=Eq (vb ag):=by
 rw [Cx n m d g];simp [h,b]
theorem yk{n m:Int}(d:0≤m)(g:m≤4611686018427387904)(h:-m≤n)(b:n≤m):bB tab.get 61 [vi n,vi m]=Eq (vb ag):=by
 rw [Oz n m d g];simp [h,b]
theorem age:((List.range 65).all fun n=>match (CF tab.get 20 20 (.fn 92) [.c (.f (.int .u64 n))] [])with | some (.c (.f (.int .i64 (.ofNat k))),_)=>Nat.ble k 62&&(Nat.beq n 0||Nat.ble (2 ^ k) (2*n)) | _=>ah)=ag:=by kernel_rfl
theorem aoA:ai9 tab.get ba 64:=fun n h=>by
 have j:=age;rw [at4]at j;have b:=j n (by simp;omega);split at b
 ·rename_i k l e;rw [Bool.and_eq_true,Bool.or_eq_true]at b;refine⟨k,(dU (m:=20) (d:=20) (by rw [e];rfl)).eq,auL b.1,fun q=>?_⟩;rcases b.2 with g | g
  ·have:=au2 g;omega
  ·exact auL g
 ·cases b
theorem ahB:afh tab.get ba 2:=⟨ajE,ajq,ajo,ajI,ajk,ajm,ajG,
 ajA,ajC,ajy,ajs,aju,ajw,Ze,Zf⟩
theorem abC(x y:bA):Kf tab.get 150 [.a (x.row.map .f),.a (y.row.map .f)] (vi (fS x.at_ y.at_)):=by
 refine fL rfl rfl fun H Q b=>?_;apply aj;simp [bA.row];apply aj;simp [lV];refine aE (b _ _ ?_);simp
def sS:List FC→bA
 | [.int _ a,.int _ b]=>⟨a,b⟩| _=>⟨0,0⟩
def MT(r:List FC):Prop:=r=(sS r).row
theorem Z8(x:bA):MT x.row:=rfl
def aaB(r s:List FC):Int:=fS (sS r).at_ (sS s).at_
theorem akf:tJ MT aaB where
 Be:=fun _ _ h b=>by
  unfold aaB at h b;rw [nw]at h b;omega
 trans:=fun _ _ _ h b=>by
  unfold aaB at *;rw [nw]at *;omega
theorem aoa:Cv tab.get (.c (.f (.fn 150 []))) MT aaB:=by
 intro x y b d H;obtain⟨J,h⟩:=abC (sS x) (sS y) H;rw [←show x=(sS x).row from b,←show y=(sS y).row from d]at h;exact⟨150,_,J,by simp [ca],h⟩
theorem Nj{rows:List (List FC)}(h:∀ r ∈ rows,MT r):aQ (rows.map sS)=rows:=by
 unfold aQ;rw [List.map_map]
 conv=>rhs;rw [←List.map_id rows]
 exact List.map_congr_left fun r hr=>(h r hr).symm
theorem ER(l:List bA):(aQ l).map sS=l:=by
 unfold aQ;rw [List.map_map]
 conv=>rhs;rw [←List.map_id l]
 exact List.map_congr_left fun r _=>rfl
theorem abv{H:an}{v:C}{l:List bA}(hr:LR H v 2 (aQ l))(E:l.length≤64) :
  ∃ d,Ev tab.get (.fn 149) [.c v,.c (.f (.fn 150 []))] H (.t []) d∧Kb H d v∧∃ b,LR d v 2 (aQ b)∧b.Perm l∧b.Pairwise TLe:=by
 have s:∀ r ∈ aQ l,MT r:=fun r hr=>by
  obtain⟨x,-,rfl⟩:=auy.1 hr;exact Z8 x
 obtain⟨r,d,A,rfl,B,b,y,q,z⟩:=Km.Gy (σ:=ba) aji ahB aoa akf (by omega) aoA hr (by simpa using E) (cD l) s;have g:∀ r ∈ b,MT r:=fun r hr=>s r (q.mem_iff.1 hr);refine⟨d,A,B,b.map sS,by rw [Nj g];exact y,?_,?_⟩
 ·have:=q.map sS;rwa [ER]at this
 ·rw [auc];intro i j hi u m;simp only [aur]at hi u;have:=z i j b[i] b[j] (by omega) m (by omega) (AT hi) (AT u);rw [auT,auT];unfold aaB at this;rw [nw]at this;unfold TLe;omega
theorem Eb{H:an}{b:Nat}{n:Int}(h:aV H ae (.c (.ptr b 9 0))=ab (vi n))(q:∃ cs fl,H[b]?=ab (.box cs fl))(l:0≤n)(m:n≤1000000) :
  Ev tab.get (.fn 151) [.c (.ptr b 0 0)] H (vi (n*1440)) H:=by
 obtain⟨r,d,j,rfl,rfl⟩:∃ r d,Ev tab.get (.fn 151) [.c (.ptr b 0 0)] H r d∧r=vi (n*1440)∧d=H:=by
  refine dt rfl rfl fun Q g=>?_;apply aj;simp;apply aj;simp [h,-av,aN (n:=n*1440)];exact aE (g _ _ _ rfl (jJ (by simp)) ⟨rfl,rfl⟩)
 exact j
def ff(z:ZD)(cl:C)(n:Int):List C:=z.row.map .f++[cl,.f (fi n)]
section
variable{H:an}{b:Nat}{z:ZD}{cl cl':C}{n n':Int}
theorem sy(h:H[b]?=ab (.box (ff z cl n) 0))(d:z.c<3):aV H ae (.c (.ptr b 8 0))=ab (.c cl):=by
 obtain⟨c,s,tg,j,g,l,yr⟩:=z;have:c=0∨c=1∨c=2:=by simp at d;omega
 rcases this with rfl | rfl | rfl<;>simp [aV,h,aF,ff,ZD.row,fY,aK]
theorem aae(h:H[b]?=ab (.box (ff z cl n) 0))(d:z.c<3):aV H ae (.c (.ptr b 9 0))=ab (vi n):=by
 obtain⟨c,s,tg,j,g,l,yr⟩:=z;have:c=0∨c=1∨c=2:=by simp at d;omega
 rcases this with rfl | rfl | rfl<;>simp [aV,h,aF,ff,ZD.row,fY,aK]
theorem aqC(h:H[b]?=ab (.box (ff z cl n) 0))(d:z.c<3):dn H (.ptr b 8 0) [cl']=ab (H.set b (.box (ff z cl' n) 0)):=by
 obtain⟨c,s,tg,j,g,l,yr⟩:=z;have:c=0∨c=1∨c=2:=by simp at d;omega
 rcases this with rfl | rfl | rfl<;>simp [dn,h,over,ff,ZD.row,fY]
theorem ai1(h:H[b]?=ab (.box (ff z cl n) 0))(d:z.c<3):dn H (.ptr b 9 0) [.f (fi n')]=ab (H.set b (.box (ff z cl n') 0)):=by
 obtain⟨c,s,tg,j,g,l,yr⟩:=z;have:c=0∨c=1∨c=2:=by simp at d;omega
 rcases this with rfl | rfl | rfl<;>simp [dn,h,over,ff,ZD.row,fY]
end
theorem Ok{c:Nat}{r q:ew}{o l:List bA}{size:Int}(d:dK (oT c r q (nY c)) o)(j:da o size=ag)(g:l.Perm (oT c r q (nY c)))(b:l.Pairwise TLe):l=o:=
 nX (iX j) b (g.trans d.perm.symm)
end Go.Proofs.YtmbjejcfadllnaaGreat
