/-
  ahd the ow jO and the nP answer, for all arguments of their kind, in the small machine: part 1.
-/
import Derived.Test.YtmbjejcfadllnaaGreatTabB
import Derived.Test.YtmbjejcfadllnaaGreatK5
import Derived.Test.YtmbjejcfadllnaaGreatK4
import Derived.KernelRfl
open Option renaming some → aa,none → ab
open Bool renaming true → ae,false → ag
open Go.IntKind renaming wrap → ah
open List renaming getElem_append → ats, getElem_map → asU, map_cons → aft, length_append → api, length_singleton → asH, length_map → asn, mem_append → ar3, mem_cons → ass, mem_filter → as0, pairwise_append → asX, pairwise_cons → asN, length_cons → asc, mem_of_mem_take → as4, length_pos_iff → asC, take_append_drop → asf, take_length → ar8, drop_eq_getElem_cons → ar5, mem_cons_self → arU, mem_cons_of_mem → ar0, take_succ_eq_append_getElem → aq8, ext_getElem → ath, getD_eq_getElem?_getD → asl, getElem?_eq_getElem → AT, getElem_of_mem → arS, getElem_mem → IT, pairwise_iff_getElem → ar1, all_eq_true → arX, append_assoc → asF, getElem?_append_left → At, getElem?_append_right → arY, map_nil → apr, mem_map → ase, map_drop → ata, getElem?_set_self → If, getElem?_set_ne → AI, take_of_length_le → arT, getElem?_eq_some_iff → By, getElem?_cons_zero → asI, filter_append → asu, append_nil → ast
open Bool renaming false_eq_true → arQ
open Nat renaming le_refl → OF, eq_of_beq_eq_true → asG, le_trans → arZ, zero_add → aso, eq_zero_or_pos → asq, le_of_ble_eq_true → asM
open Int renaming toNat_natCast → ar4, emod_nonneg → asd, emod_lt_of_pos → asj, le_refl → asR
open Option renaming bind_some → ar7
set_option linter.unusedVariables false
set_option linter.constructorNameAsVariable false
set_option linter.unusedSimpArgs false
set_option linter.unusedSectionVars false
set_option linter.unnecessarySimpa false
set_option maxRecDepth 100000
set_option maxHeartbeats 2000000
namespace Go.Proofs.YtmbjejcfadllnaaGreat
open Go Km
theorem YV{a b:Int}(h:0≤a)(g:0<b)(d:a≤9223372036854775807):bS .quo (vi a) (vi b)=aa (vi (a / b)):=by
 rw [tt (by omega),Int.tdiv_eq_ediv_of_nonneg h,wrap64 (Int.le_trans (by omega) (Int.ediv_nonneg h (by omega))) (Int.le_trans (Int.ediv_le_self _ h) d)]
theorem po{a b:Int}(h:0≤a)(d:0<b):bS .rem (vi a) (vi b)=aa (vi (a % b)):=by
 rw [lV (by omega),Int.tmod_eq_emod_of_nonneg h]
theorem qf(a:Int):bA tab.get 85 [vi a]=Eq (vb ag):=(show Kf tab.get 85 [vi a] (vb ag) by
 refine qh rfl rfl fun H Q b=>?_;apply ai;simp;apply ai;simp;refine aJ (b _ _ ?_);simp).eq
def lv(a b:Int):Int:=if a<b then -1 else if b<a then 1 else 0
theorem Dy(a b:Int):Kf tab.get 48 [vi a,vi b] (vi (lv a b)):=by
 refine qh rfl rfl fun H Q g=>?_;apply ai;simp;apply ai;simp [qf];apply ai;simp [qf];apply aq;apply ai;simp;refine a5 (by simp) ?_;apply aq;apply ai;simp;refine a5 (by simp) ?_;apply aq;apply ai;simp;by_cases h:a<b
 ·refine ak (by simp [h]) ?_;apply ai;simp;refine aJ (g _ _ ?_);simp [lv,h]
 refine a5 (by simp [h]) ?_;apply aq;apply ai;simp;by_cases d:b<a
 ·refine ak (by simp [d]) ?_;apply ai;simp;refine aJ (g _ _ ?_);simp [lv,h,d]
 refine a5 (by simp [d]) ?_;apply ai;simp;refine aJ (g _ _ ?_);simp [lv,h,d]
theorem oZ(a b:Int):bA tab.get 48 [vi a,vi b]=Eq (vi (lv a b)):=(Dy a b).eq
theorem lz{a b:Int}:lv a b<0↔a<b:=by unfold lv;split<;>(try split)<;>omega
theorem jM{a b:Int}:lv a b=0↔a=b:=by unfold lv;split<;>(try split)<;>omega
structure bC where
 at_:Int
 off:Int
def bC.row(x:bC):List FC:=[fi x.at_,fi x.off]
def aT(l:List bC):List (List FC):=l.map bC.row
@[simp] theorem my (l:List bC):(aT l).length=l.length:=by simp [aT]
theorem cu(l:List bC):bR 2 (aT l):=bR.map fun _=>rfl
structure ey where
 mo:Int
 wk:Int
 wd:Int
 mi:Int
 off:Int
def ey.row(x:ey):List FC:=[fi x.mo,fi x.wk,fi x.wd,fi x.mi,fi x.off]
def bP(l:List ey):List (List FC):=l.map ey.row
@[simp] theorem aj5 (l:List ey):(bP l).length=l.length:=by simp [bP]
theorem iH(l:List ey):bR 5 (bP l):=bR.map fun _=>rfl
theorem sm{l:List ey}{j:Nat}(b:j<l.length):(bP l)[j]?=aa l[j].row:=by simp [bP,b]
theorem z7(m:Int):unV .neg (.c (.f (.int .i64 m)))=aa (vi (ah .i64 (0-m))):=rfl
theorem MJ(n m:Int)(d:0≤m)(g:m≤4611686018427387904):bA tab.get 53 [vi n,vi m]=Eq (vb (decide (-m≤n)&&decide (n≤m))):=bA.eq (by
 refine bG rfl rfl fun Q b=>?_;apply ai;simp;by_cases h:-m≤n
 ·apply ai;simp [z7,aQ (n:=-m),h];refine aJ (b _ _ ?_);simp [h]
 ·apply ai;simp [z7,aQ (n:=-m),h];refine aJ (b _ _ ?_);simp [h])
structure bE where
 k:Int
 er:Int
 l:Int
 r:Int
 n:Int
 m:Int
 li:List Int
def dQ(k:Int):Nat:=if 8≤k∧k≤10∨k=17 then 2 else if 11≤k∧k≤16 then 1 else 0
structure Lb(l:List Int)(lo hi:Int)(zero:Bool):Prop where
 ne:l≠[]
 pw:l.Pairwise (· < ·)
 bd:∀ x ∈ l,lo≤x∧x≤hi∧(zero=ag→x≠0)
def db(k b l n m:Int)(li:List Int):Prop:=
 (k=1∧b=0∧li=[]∧1≤n∧n≤9∧0≤m∧m≤11) ∨
 (k=2∧0≤b∧b≤1∧li=[]∧1≤n∧n≤4∧0≤m∧m<n) ∨
 (k=3∧0≤b∧b≤1∧Lb li 1 4 ae∧n=0∧m=0) ∨
 (k=4∧0≤b∧b≤1∧Lb li (-3) 6 ag∧n=0∧m=0) ∨
 (k=5∧b=0∧Lb li 0 6 ae∧n=0∧m=0) ∨
 (k=6∧0≤b∧b≤1∧Lb li 1 5 ae∧n=0∧m=0) ∨
 (k=7∧0≤b∧b≤1∧li=[]∧(n=1∨n=2∨n=3∨-3≤n∧n≤-1)∧0≤m∧m≤6∧0≤l∧l≤1) ∨
 ((k=8∨k=9∨k=10)∧b=0∧li=[]∧n=0∧m=0) ∨
 (k=11∧b=0∧li=[]∧-11≤n∧n≤11∧m=0) ∨
 ((k=12∨k=13)∧b=0∧li=[]∧0≤n∧n≤1099511627776∧m=0) ∨
 ((k=14∨k=15)∧b=0∧Lb li 0 60 ae∧n=0∧m=0) ∨
 (k=16∧0≤b∧b≤1∧Lb li (-3) 4 ag∧n=0∧0≤m∧m≤1) ∨
 (k=17∧b=0∧li=[]∧1≤n∧n≤3∧m=0)
def bE.OK(x:bE):Prop:=x.li.length≤61∧db x.k x.er x.l x.n x.m x.li
def bE.shift(d:Nat)(x:bE):bE:=⟨x.k,x.er,if 1≤dQ x.k then x.l+d else x.l,if dQ x.k=2 then x.r+d else x.r,x.n,x.m,x.li⟩
inductive Good:List bE→Prop
 | leaf {x:bE}:x.OK→dQ x.k=0→(x.k≠7→x.l=0)→x.r=0→Good [x]
 | un {a:List bE} {x:bE}:Good a→x.OK→dQ x.k=1→x.l=(a.length:Int)-1→x.r=0→Good (a++[x])
 | bin {a b:List bE} {x:bE}:Good a→Good b→x.OK→dQ x.k=2→x.l=(a.length:Int)-1→x.r=(a.length:Int)+b.length-1→Good (a++b.map (bE.shift a.length)++[x])
theorem Good.pos{r:List bE}(h:Good r):0<r.length:=by cases h<;>simp<;>omega
theorem ou(k:Int):dQ k≤2:=by unfold dQ;split<;>(try split)<;>omega
structure lS(i:Nat)(x:bE):Prop where
 ok:x.OK
 l1:1≤dQ x.k→0≤x.l∧x.l<i
 l0:dQ x.k=0→x.k≠7→x.l=0
 r2:dQ x.k=2→0≤x.r∧x.r<i
 r0:dQ x.k≤1→x.r=0
theorem lS.shift{i:Nat}{x:bE}(h:lS i x)(d:Nat):lS (d+i) (x.shift d):=by
 have ok:=h.ok;refine⟨⟨ok.1,?_⟩,fun j=>?_,fun j b=>?_,fun j=>?_,fun j=>?_⟩
 ·have b:=ok.2;unfold bE.shift;simp only;split
  ·unfold db at b ⊢;rename_i g;rcases b with b | b | b | b | b | b | b | b
   ·exact .inl b
   ·exact .inr (.inl b)
   ·exact .inr (.inr (.inl b))
   ·exact .inr (.inr (.inr (.inl b)))
   ·exact .inr (.inr (.inr (.inr (.inl b))))
   ·exact .inr (.inr (.inr (.inr (.inr (.inl b)))))
   ·exfalso;rw [b.1]at g;simp [dQ]at g
   ·exact .inr (.inr (.inr (.inr (.inr (.inr (.inr b))))))
  ·exact b
 ·have:=h.l1 j;unfold bE.shift;simp only [bp (show 1≤dQ x.k from j)];omega
 ·have g:dQ x.k=0:=j;unfold bE.shift;simp only [g,show¬ 1≤0 by decide,if_false];exact h.l0 g b
 ·have g:dQ x.k=2:=j;have:=h.r2 g;unfold bE.shift;simp only [g,if_true];omega
 ·have g:dQ x.k≤1:=j;unfold bE.shift;simp only [aZ (show¬ dQ x.k=2 by omega)];exact h.r0 g
theorem Good.at_{r:List bE}(h:Good r):∀(i:Nat) (hi:i<r.length),lS i r[i]:=by
 induction h with
 | leaf ok o l r0=>
  intro i hi;simp at hi;subst hi;exact⟨ok,fun h=>by simp [o]at h,fun _=>l,fun h=>by simp [o]at h,fun _=>r0⟩
 | @un a x g ok o l r0 v=>
  intro i hi;have u:=g.pos;rw [ats];split
  ·exact v i _
  ·have:i=a.length:=by simp at hi;omega
   subst this;simp;exact⟨ok,fun _=>by omega,fun h=>by omega,fun h=>by omega,fun _=>r0⟩
 | @bin a b x g s ok o l r j m=>
  intro i hi;have u:=g.pos;have z:=s.pos;rw [ats];split
  ·rename_i d;rw [ats];split
   ·exact j i _
   ·rename_i y;simp at d;rw [asU];have q:=(m (i-a.length) (by omega)).shift a.length;rwa [show a.length+(i-a.length)=i by omega]at q
  ·rename_i d;simp at hi d;have:i=a.length+b.length:=by omega
   subst this;simp;exact⟨ok,fun _=>by omega,fun h=>by omega,fun _=>by omega,fun h=>by omega⟩
def ti(x:bE)(k:Int):Nat:=(if 1≤dQ x.k∧x.l=k then 1 else 0)+(if dQ x.k=2∧x.r=k then 1 else 0)
def fB:List bE→Int→Nat
 | [],_=>0| x::l,k=>ti x k+fB l k
theorem jR(a b:List bE)(k:Int):fB (a++b) k=fB a k+fB b k:=by
 induction a with
 | nil=>simp [fB]| cons x a d=>simp only [List.cons_append,fB,d];omega
theorem EO(x:bE)(d:Nat)(k:Int):ti (x.shift d) k=ti x (k-d):=by
 unfold ti bE.shift;simp only;have h:=ou x.k;by_cases b:dQ x.k=2
 ·simp only [b,show 1≤2 by decide,true_and,if_true]
  congr 1<;>(congr 1;rw [eq_iff_iff];omega)
 ·by_cases g:1≤dQ x.k
  ·simp only [g,b,true_and,false_and,if_true,if_false]
   congr 1;congr 1;rw [eq_iff_iff];omega
  ·simp only [g,b,false_and,if_false]
theorem CG(b:List bE)(d:Nat)(k:Int):fB (b.map (bE.shift d)) k=fB b (k-d):=by
 induction b with
 | nil=>rfl| cons x b g=>simp only [aft,fB,g,EO]
theorem Good.aqQ{r:List bE}(h:Good r):∀ k:Int,fB r k=if 0≤k∧k+1<r.length then 1 else 0:=by
 induction h with
 | leaf ok o l r0=>intro k;simp [fB,ti,o];omega
 | @un a x d ok o l r0 s=>
  intro k;have q:=d.pos;rw [jR,s];simp only [fB,ti,o,l,show 1≤1 by decide,show¬ 1=2 by decide,true_and,false_and,if_false,api,asH];split<;>split<;>split<;>omega
 | @bin a b x d m ok o l r g j=>
  intro k;have q:=d.pos;have u:=m.pos;rw [jR,jR,CG,g,j];simp only [fB,ti,o,l,r,show 1≤2 by decide,true_and,if_true,api,asH,asn];split<;>split<;>split<;>split<;>split<;>omega
structure aX where
 day:Int
 drop:Bool
 to:Int
 mi:Int
 le:Int
deriving DecidableEq
def aX.row(m:aX):List FC:=[fi m.day,.bool m.drop,fi m.to,fi m.mi,fi m.le]
def aI(l:List aX):List (List FC):=l.map aX.row
@[simp] theorem qt (l:List aX):(aI l).length=l.length:=by simp [aI]
theorem bw(l:List aX):bR 5 (aI l):=bR.map fun _=>rfl
theorem kJ{l:List aX}{j:Nat}(b:j<l.length):(aI l)[j]?=aa l[j].row:=by simp [aI,b]
structure aX.OK(m:aX):Prop where
 day:0≤m.day∧m.day≤1099511627776
 dr:m.drop=ae→m.to=0∧m.mi=0∧m.le=0
 nd:m.drop=ag→0≤m.to∧m.to≤1099511627776∧0≤m.mi∧m.mi≤1439∧1≤m.le∧m.le≤10080
def oN(l:List aX):Prop:=l.Pairwise fun a b=>a.day<b.day
def qy(l:List aX)(m:aX):List aX:=l.filter (fun x=>decide (x.day<m.day))++m::l.filter (fun x=>decide (m.day<x.day))
theorem FY{l:List aX}{m x:aX}(h:x ∈ qy l m):x=m∨x ∈ l:=by
 simp only [qy,ar3,ass,as0]at h;rcases h with h | h | h
 ·exact .inr h.1
 ·exact .inl h
 ·exact .inr h.1
theorem Eg{l:List aX}{m:aX}(h:oN l):oN (qy l m):=by
 unfold oN qy;rw [asX];refine⟨h.filter _,asN.2 ⟨fun x q=>?_,h.filter _⟩,fun a j b d=>?_⟩
 ·have:=(as0.1 q).2;simpa using this
 ·have g:a.day<m.day:=by simpa using (as0.1 j).2
  rcases ass.1 d with rfl | d
  ·exact g
  ·have s:m.day<b.day:=by simpa using (as0.1 d).2
   omega
theorem zG{l:List aX}{m:aX}(h:oN l):(qy l m).length≤l.length+1:=by
 unfold qy;simp only [api,asc];have:∀ l:List aX,(l.filter (fun x=>decide (x.day<m.day))).length+(l.filter (fun x=>decide (m.day<x.day))).length≤l.length:=by
  intro l;induction l with
  | nil=>simp
  | cons x l g=>
   simp only [List.filter_cons];by_cases b:x.day<m.day
   ·simp only [b,decide_true,if_true,show¬ m.day<x.day by omega,decide_false,arQ,if_false,asc];omega
   ·by_cases d:m.day<x.day
    ·simp only [b,d,decide_true,if_true,decide_false,arQ,if_false,asc];omega
    ·simp only [b,d,decide_false,arQ,if_false,asc];omega
 have:=this l;omega
def dO(l:List aX)(d:Int):Option aX:=l.find? fun x=>decide (x.day=d)
def fK(cF fold lo:Int)(l:List Int)(e b:Int):List Int:=
 if l=[]then(if cF=0 then []else if cF=1 then [lo-b]else [e])
 else if fold=0 then l.take 1 else if fold=1 then l.drop (l.length-1)else l
theorem YQ{cF fold lo:Int}{l:List Int}{e b a:Int}(d:l≠[])(h:a ∈ fK cF fold lo l e b):a ∈ l:=by
 unfold fK at h;rw [aZ d]at h;split at h
 ·exact as4 h
 ·split at h
  ·exact List.mem_of_mem_drop h
  ·exact h
theorem Mu{cF fold lo:Int}{e b:Int}:(fK cF fold lo [] e b).length=if cF=0 then 0 else 1:=by
 unfold fK;rw [bp rfl];split
 ·rfl
 ·split<;>rfl
theorem YP{cF fold lo:Int}{l:List Int}{e b:Int}(d:l≠[])(g:0≤fold∧fold≤2):(fK cF fold lo l e b).length=if fold=2 then l.length else 1:=by
 have:=asC.2 d;unfold fK;rw [aZ d];split
 ·rw [aZ (by omega),List.length_take];omega
 ·split
  ·rw [aZ (by omega),List.length_drop];omega
  ·rw [bp (by omega)]
def total(st:List (List bE)):Nat:=(st.map List.length).sum
theorem gd(a b:List (List bE)):total (a++b)=total a+total b:=by simp [total]
theorem lO(a:List bE):total [a]=a.length:=by simp [total]
structure cK(st:List (List bE))(n:Nat):Prop where
 LF:∀ r ∈ st,Good r
 tot:total st≤n
theorem cK.nil:cK [] 0:=⟨fun r h=>(by cases h),by simp [total]⟩
theorem cK.take{st:List (List bE)}{n:Nat}(h:cK st n)(k:Nat){d:Nat}(j:total (st.drop k)≥d):cK (st.take k) (n-d):=by
 refine⟨fun r hr=>h.LF r (as4 hr),?_⟩;have b:=h.tot;have g:total st=total (st.take k)+total (st.drop k):=by rw [←gd,asf]
 omega
theorem cK.push{st:List (List bE)}{n m:Nat}(h:cK st n){r:List bE}(hr:Good r)(d:n+r.length≤m):cK (st++[r]) m:=by
 refine⟨fun x b=>?_,?_⟩
 ·rcases ar3.1 b with b | b
  ·exact h.LF x b
  ·simp at b;subst b;exact hr
 ·rw [gd,lO];have:=h.tot;omega
theorem cK.leaf{st:List (List bE)}{n:Nat}(h:cK st n){r:List bE}(hr:Good r)(b:r.length=1):cK (st.take st.length++[r]) (n+1):=by
 rw [ar8];exact h.push hr (by omega)
theorem sP{st:List (List bE)}(h:0<st.length):total (st.drop (st.length-1))=(st[st.length-1]'(by omega)).length:=by
 rw [ar5 (by omega),List.drop_of_length_le (by omega),lO]
theorem CC{st:List (List bE)}(h:2≤st.length):total (st.drop (st.length-2))=(st[st.length-2]'(by omega)).length+(st[st.length-1]'(by omega)).length:=by
 have e:st.length-2+1=st.length-1:=by omega
 rw [ar5 (by omega),show st[st.length-2]::st.drop (st.length-2+1)=[st[st.length-2]]++st.drop (st.length-2+1) from rfl,gd,lO,e,sP (by omega)]
theorem cK.un{st:List (List bE)}{n:Nat}(h:cK st n)(b:0<st.length){r:List bE}(hr:Good r)(m:r.length=(st[st.length-1]'(by omega)).length+1):cK (st.take (st.length-1)++[r]) (n+1):=by
 have g:=sP b;have j:total st=total (st.take (st.length-1))+total (st.drop (st.length-1)):=by rw [←gd,asf]
 have l:=h.tot;exact(h.take (st.length-1) (d:=total (st.drop (st.length-1))) (OF _)).push hr (by omega)
theorem cK.bin{st:List (List bE)}{n:Nat}(h:cK st n)(b:2≤st.length){r:List bE}(hr:Good r)(m:r.length=(st[st.length-2]'(by omega)).length+(st[st.length-1]'(by omega)).length+1):cK (st.take (st.length-2)++[r]) (n+1):=by
 have g:=CC b;have j:total st=total (st.take (st.length-2))+total (st.drop (st.length-2)):=by rw [←gd,asf]
 have l:=h.tot;exact(h.take (st.length-2) (d:=total (st.drop (st.length-2))) (OF _)).push hr (by omega)
theorem cK.count{st:List (List bE)}{n:Nat}(h:cK st n):st.length≤n:=by
 have j:=h.tot;have:∀ st:List (List bE),(∀ r ∈ st,Good r)→st.length≤total st:=by
  intro st;induction st with
  | nil=>intro _;simp
  | cons r st g=>
   intro b;have:=(b r arU).pos;have:=g fun x d=>b x (ar0 _ d);rw [show r::st=[r]++st from rfl,gd,lO,api,asH];omega
 have:=this st h.LF;omega
theorem pz{st:List (List bE)}{i:Nat}(h:i<st.length):total (st.take (i+1))=total (st.take i)+st[i].length:=by
 rw [aq8 h,gd,lO]
theorem oV(st:List (List bE))(i:Nat):total (st.take i)≤total st:=by
 have b:total st=total (st.take i)+total (st.drop i):=by rw [←gd,asf]
 omega
def vz(k:Nat):Nat:=if 8≤k∧k≤10∨k=17 then 2 else if 11≤k∧k≤16 then 1 else 0
def mG(k:Nat):Bool:=k=2||k=3||k=4||k=6||k=7||k=16
def Cp(k:Nat):Int:=if k=3 then 1 else if k=4 then -40 else if k=6 then 1 else if k=16 then -400 else 0
def Co(k:Nat):Int:=if k=3 then 16 else if k=4 then 40 else if k=5 then 6 else if k=6 then 54 else if k=14∨k=15 then 1099511627776 else if k=16 then 400 else 0
theorem db.k{k er l n m:Int}{li:List Int}(h:db k er l n m li):1≤k∧k≤17:=by
 unfold db at h;omega
def mY(lo hi:Int)(l:List Int):Prop:=if lo=0∧hi=0 then l=[]else l≠[]∧l.Pairwise (· < ·)∧∀ x ∈ l,lo≤x∧x≤hi∧(lo<0→x≠0)
theorem Lb.ZO{l:List Int}{lo hi b d:Int}{z:Bool}(h:Lb l lo hi z)(s:b≤lo)(u:hi≤d)(g:b<0→z=ag)(j:¬ (b=0∧d=0)):mY b d l:=by
 unfold mY;rw [aZ j];exact⟨h.ne,h.pw,fun x q=>by have:=h.bd x q;exact⟨by omega,by omega,fun m=>this.2.2 (g m)⟩⟩
theorem db.ZO{k er l n m:Int}{li:List Int}(h:db k er l n m li):mY (Cp k.toNat) (Co k.toNat) li:=by
 unfold db at h;have nil:mY 0 0 []:=by unfold mY;simp
 rcases h with⟨rfl,h⟩ | ⟨rfl,h⟩ | ⟨rfl,h⟩ | ⟨rfl,h⟩ | ⟨rfl,h⟩ | ⟨rfl,h⟩ | ⟨rfl,h⟩ | ⟨b,h⟩ | ⟨rfl,h⟩ | ⟨b,h⟩ | ⟨b,h⟩ | ⟨rfl,h⟩ | ⟨rfl,h⟩
 ·rw [h.2.1];exact nil
 ·rw [h.2.2.1];exact nil
 ·exact h.2.2.1.ZO (by decide) (by decide) (by decide) (by decide)
 ·exact h.2.2.1.ZO (by decide) (by decide) (by decide) (by decide)
 ·exact h.2.1.ZO (by decide) (by decide) (by decide) (by decide)
 ·exact h.2.2.1.ZO (by decide) (by decide) (by decide) (by decide)
 ·rw [h.2.2.1];exact nil
 ·rw [h.2.1];rcases b with rfl | rfl | rfl<;>exact nil
 ·rw [h.2.1];exact nil
 ·rw [h.2.1];rcases b with rfl | rfl<;>exact nil
 ·rcases b with rfl | rfl
  ·exact h.2.1.ZO (by decide) (by decide) (by decide) (by decide)
  ·exact h.2.1.ZO (by decide) (by decide) (by decide) (by decide)
 ·exact h.2.2.1.ZO (by decide) (by decide) (by decide) (by decide)
 ·rw [h.2.1];exact nil
def xk(k l n m:Int):Prop:=
 if k=1 then 1≤n∧n≤1099511627776∧0≤m∧m≤1099511627776
 else if k=2 then 1≤n∧n≤400∧0≤m∧m≤n-1
 else if k=7 then -60≤n∧n≤60∧n≠0∧0≤m∧m≤6∧0≤l∧l≤1
 else if k=11 then -1099511627776≤n∧n≤1099511627776∧m=0
 else if k=12∨k=13 then 0≤n∧n≤1099511627776∧m=0
 else if k=16 then n=0∧0≤m∧m≤1
 else if k=17 then 1≤n∧n≤400∧m=0
 else n=0∧m=0
theorem db.num{k er l n m:Int}{li:List Int}(h:db k er l n m li):xk k l n m:=by
 unfold db at h;unfold xk;rcases h with⟨rfl,h⟩ | ⟨rfl,h⟩ | ⟨rfl,h⟩ | ⟨rfl,h⟩ | ⟨rfl,h⟩ | ⟨rfl,h⟩ | ⟨rfl,h⟩ | ⟨b,h⟩ | ⟨rfl,h⟩ | ⟨b,h⟩ | ⟨b,h⟩ | ⟨rfl,h⟩ | ⟨rfl,h⟩
 ·simp;omega
 ·simp;omega
 ·simp;omega
 ·simp;omega
 ·simp;omega
 ·simp;omega
 ·simp;omega
 ·rcases b with rfl | rfl | rfl<;>simp<;>omega
 ·simp;omega
 ·rcases b with rfl | rfl<;>simp<;>omega
 ·rcases b with rfl | rfl<;>simp<;>omega
 ·simp;omega
 ·simp;omega
theorem db.er{k er l n m:Int}{li:List Int}(h:db k er l n m li):0≤er∧er≤1∧(mG k.toNat=ag→er=0):=by
 unfold db at h;rcases h with⟨rfl,h⟩ | ⟨rfl,h⟩ | ⟨rfl,h⟩ | ⟨rfl,h⟩ | ⟨rfl,h⟩ | ⟨rfl,h⟩ | ⟨rfl,h⟩ | ⟨b,h⟩ | ⟨rfl,h⟩ | ⟨b,h⟩ | ⟨b,h⟩ | ⟨rfl,h⟩ | ⟨rfl,h⟩
 all_goals first | exact⟨by omega,by omega,fun _=>by omega⟩ | exact⟨by omega,by omega,fun e=>by simp [mG]at e⟩
theorem tF{k:Int}(h:1≤k):dQ k=vz k.toNat:=by
 unfold dQ vz;obtain⟨n,rfl⟩:∃ n:Nat,k=n:=⟨k.toNat,by omega⟩
 rw [ar4];split<;>split<;>(try split)<;>(try split)<;>first | rfl | omega
def bK(r:List bE)(n:Nat):List Int:=(List.range n).map fun k:Nat=>(fB r (k:Int):Int)
@[simp] theorem aku (r:List bE) (n:Nat):(bK r n).length=n:=by simp [bK]
theorem fv{r:List bE}{n k:Nat}(h:k<n):(bK r n)[k]'(by simpa using h)=fB r (k:Int):=by simp [bK]
theorem yx(n:Nat):bK [] n=List.replicate n 0:=by
 refine ath (by simp) fun k b d=>?_;rw [fv (by simpa using b)];simp [fB]
def nA(U:List Int)(k:Int):List Int:=U.set k.toNat (U.getD k.toNat 0+1)
@[simp] theorem al1 (U:List Int) (k:Int):(nA U k).length=U.length:=by simp [nA]
theorem uQ{U:List Int}{k:Int}(d:0≤k){j:Nat}(b:j<U.length):(nA U k)[j]'(by simpa using b)=U[j]+(if k=j then 1 else 0):=by
 simp only [nA,List.getElem_set];by_cases h:k.toNat=j
 ·subst h;rw [bp rfl,bp (by omega),asl,AT b];rfl
 ·rw [aZ h,aZ (by omega),Int.add_zero]
theorem ER{r:List bE}{x:bE}{n:Nat}(h:dQ x.k=0):bK (r++[x]) n=bK r n:=by
 refine ath (by simp) fun k b d=>?_;rw [fv (by simpa using b),fv (by simpa using b),jR];simp [fB,ti,h]
theorem ES{r:List bE}{x:bE}{n:Nat}(h:dQ x.k=1)(d:0≤x.l):bK (r++[x]) n=nA (bK r n) x.l:=by
 refine ath (by simp) fun k b g=>?_;rw [fv (by simpa using b),uQ d (by simpa using b),fv (by simpa using b),jR];simp only [fB,ti,h,show 1≤1 by decide,show¬ 1=2 by decide,true_and,false_and,if_false];split<;>omega
theorem ET{r:List bE}{x:bE}{n:Nat}(h:dQ x.k=2)(d:0≤x.l)(hr:0≤x.r):bK (r++[x]) n=nA (nA (bK r n) x.l) x.r:=by
 refine ath (by simp) fun k b g=>?_;rw [fv (by simpa using b),uQ hr (by simpa using b),uQ d (by simpa using b),fv (by simpa using b),jR];simp only [fB,ti,h,show 1≤2 by decide,true_and,if_true];split<;>split<;>omega
theorem Good.bK{r:List bE}(h:Good r):∀ x ∈ (bK r r.length).take (r.length-1),x=1:=by
 intro x d;obtain⟨k,b,rfl⟩:=arS d;simp at b;rw [List.getElem_take,fv (by omega),h.aqQ k,bp (by omega)];rfl
theorem CE(r:List bE)(n k:Nat)(h:k<n):0≤(bK r n)[k]'(by simpa using h)∧(bK r n)[k]'(by simpa using h)≤2*r.length:=by
 rw [fv h];have:∀ r:List bE,fB r (k:Int)≤2*r.length:=by
  intro r;induction r with
  | nil=>simp [fB]
  | cons x r b=>
   have:ti x (k:Int)≤2:=by unfold ti;split<;>split<;>omega
   simp only [fB,asc];omega
 have:=this r;omega
structure sS where
 day:Int
 fr:Int
 to:Int
deriving DecidableEq
def sS.row(x:sS):List FC:=[fi x.day,fi x.fr,fi x.to]
def cX(l:List sS):List (List FC):=l.map sS.row
@[simp] theorem ah5 (l:List sS):(cX l).length=l.length:=by simp [cX]
theorem ir(l:List sS):bR 3 (cX l):=bR.map fun _=>rfl
theorem LV{l:List sS}{j:Nat}(b:j<l.length):(cX l)[j]?=aa l[j].row:=by simp [cX,b]
structure aR where
 d:bE
 tg:Tg
def th:ByteArray:=⟨#[]⟩
def aR.row(x:aR):List FC:=[fi x.d.k,fi x.d.er,fi x.d.l,fi x.d.r,fi x.d.n,fi x.d.m,sl x.tg (ints x.d.li),.str th]
def aH(l:List aR):List (List FC):=l.map aR.row
@[simp] theorem me (l:List aR):(aH l).length=l.length:=by simp [aH]
theorem ed(l:List aR):bR 8 (aH l):=bR.map fun _=>rfl
theorem kK{l:List aR}{j:Nat}(b:j<l.length):(aH l)[j]?=aa l[j].row:=by simp [aH,b]
@[simp] theorem aef (l:List aR):(aH l).isEmpty=l.isEmpty:=by cases l<;>rfl
abbrev dN(l:List aR):List bE:=l.map aR.d
structure bf where
 rg:Tg
 ru:List aR
 mi:Int
 le:Int
 zo:ByteArray
 cF:Int
 fold:Int
 mg:Tg
 mv:List aX
def bf.row(s:bf):List FC:=[sl s.rg (aH s.ru),fi s.mi,fi s.le,.str s.zo,fi s.cF,fi s.fold,sl s.mg (aI s.mv)]
abbrev bf.v(s:bf):V:=.a (s.row.map .f)
structure bf.OK(s:bf):Prop where
 ru:Good (dN s.ru)
 rl:s.ru.length≤64
 mi:0≤s.mi∧s.mi≤1439
 le:1≤s.le∧s.le≤10080
 zo:1≤s.zo.size∧s.zo.size≤32
 cF:0≤s.cF∧s.cF≤2
 fold:0≤s.fold∧s.fold≤2
 ml:s.mv.length≤64
 ms:oN s.mv
 mo:∀ m ∈ s.mv,m.OK
def bf.at_(s:bf)(d:Int):Int:=match dO s.mv d with
 | none=>d*1440+s.mi| some m=>m.to*1440+m.mi
def bf.uX(s:bf)(d:Int):Int:=match dO s.mv d with
 | none=>s.le| some m=>m.le
def bf.dropped(s:bf)(d:Int):Bool:=match dO s.mv d with
 | none=>ag| some m=>m.drop
theorem dE(n lo hi:Int):bA tab.get 139 [vi n,vi lo,vi hi]=Eq (vb (decide (lo≤n∧n≤hi))):=bA.eq (by
 refine bG rfl rfl fun Q b=>?_;apply ai;simp;apply ai;by_cases h:lo≤n
 ·simp [h];exact aJ (b _ _ (by simp [h]))
 ·simp [h];exact aJ (b _ _ (by simp [h])))
def gK(k:Nat):List FC:=[fi (vz k),.bool (mG k),fi (Cp k),fi (Co k)]
def kj:List FC:=((List.range 19).map gK).flatten
theorem sb:bA tab.get 101 []=Eq (.a (kj.map .f)):=eC (by kernel_rfl)
theorem LY(g:Tg)(l:List Int)(lo hi:Int)(h:mY lo hi l)(n:l.length≤9223372036854775807):bA tab.get 140 [.c (.f (sl g (ints l))),.a [.f (fi lo),.f (fi hi)]]=Eq (vb ae):=bA.eq (by
 refine bG rfl rfl fun Q a=>?_;apply ai;simp;refine aq (ai ?_);unfold mY at h;by_cases A:lo=0∧hi=0
 ·rw [bp A]at h;obtain⟨rfl,rfl⟩:=A;subst h;simp [za];refine ak (by simp) ?_;apply ai;simp;exact aJ (a _ _ (by simp))
 rw [aZ A]at h;obtain⟨U,W,f⟩:=h;have L:(lo == 0&&hi == 0)=ag:=by
  rw [Bool.eq_false_iff];intro e;simp at e;exact A e
 simp [za,L];refine a5 (by simp) ?_;have z:=asC.2 U;refine aq (ai ?_);simp;refine gu l.length (fun j t H=>t.g 0=.c (.f (sl g (ints l)))∧t.g 13=.c (.f (sl g (ints l)))∧t.g 3=.c (.ptr 0 0 0)∧H[0]?=aa (.box [.f (fi lo),.f (fi hi)] 0)) n (by decide) (by decide) (by simp) (by simp) ⟨by simp,by simp,by simp,rfl⟩ ?_ ?_
 ·rintro j t H N ⟨u,b,q,B⟩ v m next
  obtain⟨b1,Y,Z⟩:=f _ (IT N);obtain⟨x,X⟩:=aO (l[j]);rw [←X]at b1 Y Z;refine aB (ai ?_);simp [b,v,c5,N,fW];rw [←X];apply ai;have F:aU H ab (.c (.ptr 0 0 0))=aa (vi lo):=by simp [aU,B,aC,aK]
  have c:aU H ab (.c (.ptr 0 1 0))=aa (vi hi):=by simp [aU,B,aC,aK]
  have E:decide (lo≤x∧x≤hi)=ae:=decide_eq_true ⟨b1,Y⟩;simp [q,F,c,-an,dE,E];have s:∀ t:T,t.g 0=.c (.f (sl g (ints l)))→t.g 13=.c (.f (sl g (ints l)))→t.g 3=.c (.ptr 0 0 0)→t.g 15=vi j→t.g 14=vi l.length→t.g 48=vb ag→WP tab.get 140 ab [.code wH,.inBlock 1,.code wI,.inLoop wG,.inBlock 0,.code wL] ⟨t,[],H⟩ Q:=by
   intro t u b q J I K;refine al K (aL ?_);exact aw (next _ _ ⟨by simp [u],by simp [b],by simp [q],B⟩ (by simp [J]) (by simp [I]))
  have y:x=0→¬ lo<0:=fun e h=>Z h e;by_cases O:j=0
  ·subst O;simp;by_cases d:x=0
   ·have:=y d;simp [d,q,F,-an,this];exact s _ (by simp [u]) (by simp [b]) (by simp [q]) (by simp [v]) (by simp [m]) (by simp)
   ·simp [d];exact s _ (by simp [u]) (by simp [b]) (by simp [q]) (by simp [v]) (by simp [m]) (by simp)
  ·have p:ah .i64 ((j:Int)-1)=((j-1:Nat):Int):=by rw [aQ];omega
   have o:l[j-1]<x:=by rw [X];exact ar1.1 W (j-1) j (by omega) N (by omega)
   have S:j-1<l.length:=by omega
   have M:∀ H,aP H 1 ab (.c (.f (sl g (ints l)))) (vi ((j-1:Nat):Int))=aa (.c (.f (.fp (ints l).flatten (j-1)))):=fun H=>by
    have:=c5 (H:=H) (g:=g) (rows:=ints l) (sz:=1) (k:=.i64) (i:=((j-1:Nat):Int)) (by omega) (by simp;omega);simpa using this
   simp [show 0<j by omega,u,p,M,fW S,show¬ x≤l[j-1] by omega];by_cases d:x=0
   ·have:=y d;simp [d,q,F,-an,this];exact s _ (by simp [u]) (by simp [b]) (by simp [q]) (by simp [v]) (by simp [m]) (by simp)
   ·simp [d];exact s _ (by simp [u]) (by simp [b]) (by simp [q]) (by simp [v]) (by simp [m]) (by simp)
 ·rintro t H ⟨u,b,q,B⟩ v m;apply ai;simp [u,z];exact aJ (a _ _ (by simp)))
theorem zA(x:aR)(h:xk x.d.k x.d.l x.d.n x.d.m):bA tab.get 141 [.a (x.row.map .f)]=Eq (vb ae):=bA.eq (by
 obtain⟨⟨k,A,l,r,n,m,li⟩,J⟩:=x;simp only [xk]at h;refine bG rfl rfl fun Q E=>?_;have b:∀ t H,t.g 2=vb ae→WP tab.get 141 ab [.code .ret,.inBlock 0,.code qU] ⟨t,[],H⟩ Q:=fun t H I=>aJ (E _ _ (by simp [I]));apply ai;simp [aR.row];refine aq (ai ?_);simp;refine aB (ai ?_);simp;by_cases v:k=1
 ·rw [bp v]at h;refine ak (by simp [v]) (ai ?_);simp [dE,h];exact b _ _ (by simp)
 rw [aZ v]at h;refine al (by simp [v]) (ai ?_);simp;by_cases y:k=2
 ·rw [bp y]at h;refine ak (by simp [y]) (ai ?_);simp [dE,h,aQ (n:=n-1)];exact b _ _ (by simp)
 rw [aZ y]at h;refine al (by simp [y]) (ai ?_);simp;by_cases z:k=7
 ·rw [bp z]at h;refine ak (by simp [z]) (ai ?_);simp [dE,h];exact b _ _ (by simp)
 rw [aZ z]at h;refine al (by simp [z]) (ai ?_);simp;by_cases d:k=11
 ·rw [bp d]at h;refine ak (by simp [d]) (ai ?_);simp [dE,h];exact b _ _ (by simp)
 rw [aZ d]at h;refine al (by simp [d]) (aq (ai ?_));simp;have u:k=12∨k=13→∀ t,t.g 1=.c (.ptr 0 0 0)→t.g 58=vb ae→WP tab.get 141 ab [.code wN,.inBlock 0,.code qU] ⟨t,[],[.box ((aR.row ⟨⟨k,A,l,r,n,m,li⟩,J⟩).map .f) 0]⟩ Q:=by
  intro c t F B;rw [bp c]at h;refine ak B (ai ?_);simp [F,aR.row,dE,h];exact b _ _ (by simp)
 by_cases g:k=12
 ·refine ak (by simp [g]) (aL ?_);exact u (.inl g) _ (by simp) (by simp [g])
 refine al (by simp [g]) (av (.inl rfl) ?_);simp;by_cases s:k=13
 ·exact u (.inr s) _ (by simp) (by simp [s])
 rw [aZ (by omega)]at h;refine al (by simp [s]) (ai ?_);simp;by_cases j:k=16
 ·rw [bp j]at h;refine ak (by simp [j]) (ai ?_);simp [dE,h];exact b _ _ (by simp)
 rw [aZ j]at h;refine al (by simp [j]) (ai ?_);simp;by_cases q:k=17
 ·rw [bp q]at h;refine ak (by simp [q]) (ai ?_);simp [dE,h];exact b _ _ (by simp)
 rw [aZ q]at h;refine a5 (by simp [q]) ?_;refine aw (ai ?_);simp [h];exact aJ (E _ _ (by simp)))
def gh:Nat→List FC
 | 0=>[fi 2,.fs [fi 7,fi 6] 2,fi (-1),.aF]| k+1=>[fi 5,.fs [fi 7,fi 8] 2,fi 1,.fs [fi 2,fi (k:Nat),.bool ae] 1]
def kU(c y m:Nat):Nat:=match c,m with
 | 0,1=>7| 0,_=>6| _+1,1=>7| k+1,_=>if y % 2=k then 9 else 8
def sk(c y:Nat):Nat:=kU c y 1+kU c y 2
def alI:Nat→Nat
 | 0=>1| _=>2
def jk:Nat→Nat
 | 0=>13| _=>31
abbrev kR(c:Nat):V:=.a ((gh c).map .f)
def isI(r:Option (V × aj))(n:Nat):Bool:=match r with
 | some (.c (.f (.int .i64 (.ofNat k))),_)=>Nat.beq k n| _=>ag
theorem uT{r:Option (V × aj)}{n:Nat}(h:isI r n=ae):r.map (·.1)=aa (vi (n:Nat)):=by
 unfold isI at h;split at h
 ·rw [asG h];rfl
 ·cases h
theorem zx:((List.range 3).all fun c=>(List.range 14).all fun y=>(List.range 2).all fun m=>isI (CF tab.get 300 30 (.fn 158) [kR c,vi ((y+1:Nat):Nat),vi ((m+1:Nat):Nat)] []) (kU c (y+1) (m+1)))=ae:=by kernel_rfl
theorem CO:((List.range 3).all fun c=>(List.range 14).all fun y=>isI (CF tab.get 300 30 (.fn 129) [kR c,vi ((y+1:Nat):Nat)] []) (sk c (y+1)))=ae:=by kernel_rfl
theorem v8:((List.range 3).all fun c=>(List.range 14).all fun y=>(List.range 2).all fun m=>isI (CF tab.get 300 30 (.fn 147) [kR c,vi ((y+1:Nat):Nat),vi ((m+1:Nat):Nat)] []) (kU c (y+1) (m+1)))=ae:=by kernel_rfl
theorem Ac:((List.range 3).all fun c=>(List.range 14).all fun y=>isI (CF tab.get 300 30 (.fn 112) [kR c,vi ((y+1:Nat):Nat)] []) (sk c (y+1)))=ae:=by kernel_rfl
theorem dz{p:Nat→Bool}{n k:Nat}(h:(List.range n).all p=ae)(b:k<n):p k=ae:=arX.1 h k (List.mem_range.2 b)
theorem sI{c y m:Nat}(b:c<3)(d:1≤y)(g:y≤14)(j:1≤m)(l:m≤2):bA tab.get 158 [kR c,vi (y:Nat),vi (m:Nat)]=Eq (vi (kU c y m:Nat)):=by
 obtain⟨y,rfl⟩:∃ k,y=k+1:=⟨y-1,by omega⟩
 obtain⟨m,rfl⟩:∃ k,m=k+1:=⟨m-1,by omega⟩
 have h:=dz (dz (dz zx b) (show y<14 by omega)) (show m<2 by omega);exact(eu (uT h)).eq
theorem EY{c y:Nat}(b:c<3)(d:1≤y)(g:y≤14):bA tab.get 129 [kR c,vi (y:Nat)]=Eq (vi (sk c y:Nat)):=by
 obtain⟨y,rfl⟩:∃ k,y=k+1:=⟨y-1,by omega⟩
 have h:=dz (dz CO b) (show y<14 by omega);exact(eu (uT h)).eq
theorem qq{c y m:Nat}(b:c<3)(d:1≤y)(g:y≤14)(j:1≤m)(l:m≤2):bA tab.get 147 [kR c,vi (y:Nat),vi (m:Nat)]=Eq (vi (kU c y m:Nat)):=by
 obtain⟨y,rfl⟩:∃ k,y=k+1:=⟨y-1,by omega⟩
 obtain⟨m,rfl⟩:∃ k,m=k+1:=⟨m-1,by omega⟩
 have h:=dz (dz (dz v8 b) (show y<14 by omega)) (show m<2 by omega);exact(eu (uT h)).eq
theorem CN{c y:Nat}(b:c<3)(d:1≤y)(g:y≤14):bA tab.get 112 [kR c,vi (y:Nat)]=Eq (vi (sk c y:Nat)):=by
 obtain⟨y,rfl⟩:∃ k,y=k+1:=⟨y-1,by omega⟩
 have h:=dz (dz Ac b) (show y<14 by omega);exact(eu (uT h)).eq
theorem CH:((List.range 600).all fun k=>isI (CF tab.get 60 30 (.fn 159) [vi ((k:Nat)-300)] []) (((k:Int)-300) % 7).toNat)=ae:=by kernel_rfl
theorem vJ{n:Int}(h:-300≤n)(j:n<300):bA tab.get 159 [vi n]=Eq (vi (n % 7)):=by
 obtain⟨k,g⟩:∃ k:Nat,(k:Int)-300=n:=⟨(n+300).toNat,by omega⟩
 have d:=dz CH (show k<600 by omega);have b:=(eu (uT d)).eq;rw [g]at b;rwa [Int.toNat_of_nonneg (asd n (by omega))]at b
theorem vW{c:Nat}(b:c<3):bA tab.get 89 [kR c]=Eq (vb ae):=by
 have:c=0∨c=1∨c=2:=by omega
 rcases this with rfl | rfl | rfl<;>exact bA.eq (ft (m:=300) (d:=30) (by kernel_rfl))
theorem sj{c:Nat}(b:c<3):bA tab.get 68 [kR c]=Eq (vb ae):=by
 have:c=0∨c=1∨c=2:=by omega
 rcases this with rfl | rfl | rfl<;>exact bA.eq (ft (m:=300) (d:=30) (by kernel_rfl))
theorem vV{c:Nat}(b:c<3):bA tab.get 127 [kR c]=Eq (.t [vi (alI c:Nat),vi (jk c:Nat),vi 0]):=by
 have:c=0∨c=1∨c=2:=by omega
 rcases this with rfl | rfl | rfl<;>exact bA.eq (ft (m:=300) (d:=30) (by kernel_rfl))
theorem Lq{c:Nat}(b:c<3):bA tab.get 113 [kR c]=Eq (.t [vi (alI c:Nat),vi (jk c:Nat),vi 0]):=by
 have:c=0∨c=1∨c=2:=by omega
 rcases this with rfl | rfl | rfl<;>exact bA.eq (ft (m:=300) (d:=30) (by kernel_rfl))
structure ey.OK(x:ey):Prop where
 mo:x.mo=1∨x.mo=2
 wk:x.wk=1∨x.wk=5
 wd0:0≤x.wd
 wd:x.wd≤6
 mi0:0≤x.mi
 mi:x.mi≤1439
 of0:-1080≤x.off
 of:x.off≤1080
def pF(c y:Nat)(b:Int)(x:ey):Int:=if x.mo=2 then b+kU c y 1 else b
def qP(c y:Nat)(x:ey):Int:=kU c y x.mo.toNat
def kS(b d j g:Int):Int:=if j=5 then b+d-1-(b+d-1-g) % 7 else b+(g-b) % 7
def gJ(b d g j:Int):Bool:=if g=5 then decide (b≤kS b d g j)else decide (kS b d g j<b+d)
theorem fN(c y m:Nat):kU c y m≤9:=by unfold kU;split<;>(try split)<;>omega
theorem qo(c y m:Nat):6≤kU c y m:=by unfold kU;split<;>(try split)<;>omega
theorem EX{c y:Nat}(L:c<3)(N:1≤y)(l:y≤14){b:Int}(hb:0≤b)(Y:b≤260)(x:ey)(k:x.OK) :
  bA tab.get 128 [kR c,vi b,vi (y:Nat),.a (x.row.map .f)]=Eq (.t [vi (kS (pF c y b x) (qP c y x) x.wk x.wd),vb (gJ (pF c y b x) (qP c y x) x.wk x.wd)]):=bA.eq (by
 obtain⟨e,hw,w0,w6,-,-,-,-⟩:=k;have I:=sI L N l (m:=1) (by omega) (by omega);have O:=sI L N l (m:=2) (by omega) (by omega);have k1:=fN c y 1;have k2:=fN c y 2;have f:=fN c y x.mo.toNat;have M:=qo c y x.mo.toNat;have S:bA tab.get 158 [kR c,vi (y:Nat),vi x.mo]=Eq (vi (qP c y x)):=by
  rcases e with h | h
  ·unfold qP;rw [h];exact I
  ·unfold qP;rw [h];exact O
 have hq:qP c y x=(kU c y x.mo.toNat:Nat):=rfl;have Z:b≤pF c y b x∧pF c y b x≤b+9:=by unfold pF;split<;>omega
 generalize X:pF c y b x=U at *;generalize w:qP c y x=g at *;refine bG rfl rfl fun Q K=>?_;apply ai;simp;apply aq;apply ai;simp;refine aB ?_;have cl:∀ z:cT,aU [.box ((gh c).map .f) 0,z] (aa 4) (.c (.ptr 0 0 0))=aa (kR c):=by
  intro z;have:c=0∨c=1∨c=2:=by omega
  rcases this with rfl | rfl | rfl<;>rfl
 have p:∀ z:cT,aU [z,.box [.f (fi x.mo),.f (fi x.wk),.f (fi x.wd),.f (fi x.mi),.f (fi x.off)] 0] ab (.c (.ptr 1 0 0))=aa (vi x.mo):=fun _=>rfl;refine bI (fun n s=>∃(m:Nat) (t:T) (d:Int),s=⟨t,[],[.box ((gh c).map .f) 0,.box (x.row.map .f) 0]⟩∧n=2-m∧(m=1∧d=b∨m=2∧x.mo=2∧d=b+(kU c y 1:Nat))∧t.g 1=vi d∧t.g 2=vi (y:Nat)∧t.g 4=.c (.ptr 0 0 0)∧t.g 7=.c (.ptr 1 0 0)∧t.g 10=vi (m:Nat)) 1
  ⟨1,_,b,rfl,rfl,.inl ⟨rfl,rfl⟩,by simp,by simp,by simp,by simp,by simp⟩ ?_
 rintro n s ⟨m,t,d,rfl,rfl,H,q,v,A,j,g10⟩ o;apply aq;apply ai;simp [g10,j,ey.row];by_cases a:(m:Int)<x.mo
 ·have r:m=1:=by omega
  subst r;have F:d=b:=by omega
  subst F;refine ak (by simp;omega) (aL ?_);apply aq;refine aB ?_;refine av (.inl rfl) ?_;have u:bA tab.get 158 [kR c,vi (y:Nat),vi 1]=Eq (vi (kU c y 1:Nat)):=I;simp [g10,q,v,A,cl,-an,u,aQ (n:=d+(kU c y 1:Nat)),ey.row];refine aw ?_;refine av (.inl rfl) ?_;simp [g10];refine o 0 _ (by omega) ⟨2,_,_,rfl,by omega,.inr ⟨rfl,by omega,rfl⟩,?_,?_,?_,?_,?_⟩<;>simp [v,A,j,show ah .i64 2=2 from rfl]
 ·have E:d=U:=by
   rw [←X];unfold pF;rcases H with⟨rfl,rfl⟩ | ⟨rfl,W,rfl⟩
   ·rw [aZ (by omega)]
   ·rw [bp W]
  subst E;refine al (by simp;omega) ?_;refine bq (k':=[.code xj]) rfl ?_;apply ai;have hp:g≤9:=by omega
  have i:6≤g:=by omega
  simp [q,v,A,j,cl,p,-an,S,aQ (n:=d+g)];apply ai;have q0:=asd (x.wd-d) (show(7:Int)≠0 by omega);have q1:=asj (x.wd-d) (show(0:Int)<7 by omega);simp [q,j,aQ (n:=x.wd-d),vJ (n:=x.wd-d) (by omega) (by omega),aQ (n:=d+(x.wd-d) % 7)];apply aq;apply ai;simp [j];by_cases B:x.wk=5
  ·refine ak (by simp [B]) ?_;have r0:=asd (d+g-1-x.wd) (show(7:Int)≠0 by omega);have r1:=asj (d+g-1-x.wd) (show(0:Int)<7 by omega);apply ai;simp [j,aQ (n:=d+g-1),aQ (n:=d+g-1-x.wd),vJ (n:=d+g-1-x.wd) (by omega) (by omega),aQ (n:=d+g-1-(d+g-1-x.wd) % 7)];apply ai;simp [q];refine aJ (K _ _ ?_);simp [kS,gJ,B]
  ·have J:x.wk=1:=by omega
   refine a5 (by simp [B]) ?_;apply ai;simp [j,J,aQ (n:=(0:Int)),aQ (n:=d+(x.wd-d) % 7)];apply ai;simp;refine aJ (K _ _ ?_);simp [kS,gJ,J])
theorem adB{c y:Nat}(hc:c<3)(hy:1≤y)(L:y≤14){b:Int}(hb:0≤b)(a_:b≤260)(x:ey)(hx:x.OK) :
  bA tab.get 110 [kR c,vi b,vi (y:Nat),.a (x.row.map .f)]=Eq (.t [vi (if gJ (pF c y b x) (qP c y x) x.wk x.wd then kS (pF c y b x) (qP c y x) x.wk x.wd else -1),vb (gJ (pF c y b x) (qP c y x) x.wk x.wd)]):=bA.eq (by
 obtain⟨hm,l,w0,w6,-,-,-,-⟩:=hx;have e1:=qq hc hy L (m:=1) (by omega) (by omega);have e2:=qq hc hy L (m:=2) (by omega) (by omega);have k1:=fN c y 1;have k2:=fN c y 2;have c9:=fN c y x.mo.toNat;have a9:=qo c y x.mo.toNat;have e3:bA tab.get 147 [kR c,vi (y:Nat),vi x.mo]=Eq (vi (qP c y x)):=by
  rcases hm with h | h
  ·unfold qP;rw [h];exact e1
  ·unfold qP;rw [h];exact e2
 have hq:qP c y x=(kU c y x.mo.toNat:Nat):=rfl;have b9:b≤pF c y b x∧pF c y b x≤b+9:=by unfold pF;split<;>omega
 generalize hF:pF c y b x=fm at *;generalize hM:qP c y x=v at *;refine bG rfl rfl fun Q W=>?_;apply ai;simp;apply ai;simp;apply aq;apply ai;simp;refine aB ?_;have cl:∀ z:cT,aU [.box ((gh c).map .f) 0,z] (aa 4) (.c (.ptr 0 0 0))=aa (kR c):=by
  intro z;have:c=0∨c=1∨c=2:=by omega
  rcases this with rfl | rfl | rfl<;>rfl
 have ly:∀ z:cT,aU [z,.box [.f (fi x.mo),.f (fi x.wk),.f (fi x.wd),.f (fi x.mi),.f (fi x.off)] 0] ab (.c (.ptr 1 0 0))=aa (vi x.mo):=fun _=>rfl;refine bI (fun n s=>∃(m:Nat) (t:T) (g:Int),s=⟨t,[],[.box ((gh c).map .f) 0,.box (x.row.map .f) 0]⟩∧n=2-m∧(m=1∧g=b∨m=2∧x.mo=2∧g=b+(kU c y 1:Nat))∧t.g 10=vi g∧t.g 2=vi (y:Nat)∧t.g 4=.c (.ptr 0 0 0)∧t.g 7=.c (.ptr 1 0 0)∧t.g 11=vi (m:Nat)) 1
  ⟨1,_,b,rfl,rfl,.inl ⟨rfl,rfl⟩,by simp,by simp,by simp,by simp,by simp⟩ ?_
 rintro n s ⟨m,t,g,rfl,rfl,a8,S,E,F,u,g10⟩ M;apply aq;apply ai;simp [g10,u,ey.row];by_cases b_:(m:Int)<x.mo
 ·have m1:m=1:=by omega
  subst m1;have Y:g=b:=by omega
  subst Y;refine ak (by simp;omega) (aL ?_);apply aq;refine aB ?_;refine av (.inl rfl) ?_;have O:bA tab.get 147 [kR c,vi (y:Nat),vi 1]=Eq (vi (kU c y 1:Nat)):=e1;simp [g10,S,E,F,cl,-an,O,aQ (n:=g+(kU c y 1:Nat)),ey.row];refine aw ?_;refine av (.inl rfl) ?_;simp [g10];refine M 0 _ (by omega) ⟨2,_,_,rfl,by omega,.inr ⟨rfl,by omega,rfl⟩,?_,?_,?_,?_,?_⟩<;>simp [E,F,u,show ah .i64 2=2 from rfl]
 have X:g=fm:=by
  rw [←hF];unfold pF;rcases a8 with⟨rfl,rfl⟩ | ⟨rfl,h2,rfl⟩
  ·rw [aZ (by omega)]
  ·rw [bp h2]
 subst X;have hp:v≤9:=by omega
 have c_:6≤v:=by omega
 refine al (by simp;omega) ?_;refine bq (k':=[.code A9]) rfl ?_;apply ai;simp;apply ai;simp;apply aq;apply ai;simp [S];refine aB ?_;refine bI (fun n s=>∃(d j la:Int) (t:T),s=⟨t,[],[.box ((gh c).map .f) 0,.box [.f (fi x.mo),.f (fi x.wk),.f (fi x.wd),.f (fi x.mi),.f (fi x.off)] 0]⟩∧n=(g+v-d).toNat∧g≤d∧d≤g+v∧0≤j∧j≤d-g ∧
   (x.wk=1→j=0∧la = -1∧d≤g+(x.wd-g) % 7)∧(x.wk=5→la=if g≤d-1-(d-1-x.wd) % 7 then d-1-(d-1-x.wd) % 7 else -1) ∧
   t.g 2=vi (y:Nat)∧t.g 4=.c (.ptr 0 0 0)∧t.g 7=.c (.ptr 1 0 0)∧t.g 10=vi g∧t.g 12=vi j∧t.g 13=vi la∧t.g 14=vi d) v.toNat
  ⟨g,0,-1,_,rfl,by omega,asR _,by omega,by omega,by omega,fun _=>⟨rfl,rfl,by omega⟩,fun _=>(aZ (by omega)).symm,by simp [E],by simp [F],by simp [u],by simp [S],by simp,by simp,by simp⟩ ?_
 clear M;rintro n s ⟨d,j,la,t,rfl,rfl,d0,d1,c0,c1,I,J,E,F,u,g10,H,B,q⟩ M;apply aq;apply ai;simp [E,F,u,g10,q,cl,ly,-an,e3,aQ (n:=g+v)];by_cases hd:d<g+v
 case neg=>
  have Z:d=g+v:=by omega
  subst Z;refine al (by simp) ?_;refine bq (k':=[.code tZ]) rfl ?_;rcases l with l | l
  ·obtain⟨rfl,rfl,hk⟩:=I l;apply ai;simp [B,u,l];refine aJ (W _ _ ?_);have:gJ g v 1 x.wd=ag:=by simp [gJ,kS];omega
   simp [l,this]
  ·have A:=J l;apply ai;simp [B,u,l];refine aJ (W _ _ ?_);by_cases h:g≤g+v-1-(g+v-1-x.wd) % 7
   ·rw [bp h]at A;have e:gJ g v 5 x.wd=ae:=by simp [gJ,kS];omega
    have N:kS g v 5 x.wd=la:=by simp [kS,A]
    simp [l,e,N];omega
   ·rw [aZ h]at A;have e:gJ g v 5 x.wd=ag:=by simp [gJ,kS];omega
    simp [l,e,A]
 refine ak (by simp;omega) (aL ?_);apply aq;refine aB ?_;apply ai;have hr:bS .rem (vi d) (vi 7)=aa (vi (d % 7)):=po (by omega) (by omega);simp [q,u,hr];by_cases K:d % 7=x.wd
 ·refine ak (by simp [K]) ?_;apply ai;simp [H,aQ (n:=j+1)];apply ai;simp [q];apply aq;rcases l with l | l
  ·obtain⟨rfl,rfl,hk⟩:=I l;refine av (.inl rfl) ?_;simp [u,l];refine ak (by simp) ?_;apply ai;simp [q];refine aJ (W _ _ ?_);have N:kS g v 1 x.wd=d:=by simp [kS];omega
   have e:gJ g v 1 x.wd=ae:=by simp [gJ,N,hd]
   simp [l,e,N]
  ·have A:=J l;refine av (.inl rfl) ?_;have Yh:∀ t:T,t.g 2=vi (y:Nat)→t.g 4=.c (.ptr 0 0 0)→t.g 7=.c (.ptr 1 0 0)→t.g 10=vi g→t.g 12=vi (j+1)→t.g 13=vi d→t.g 14=vi d →
     WP tab.get 110 ab [.code A_,.inLoop A',.inBlock 2,.code tZ] ⟨t,[],[.box ((gh c).map .f) 0,.box [.f (fi x.mo),.f (fi 5),.f (fi x.wd),.f (fi x.mi),.f (fi x.off)] 0]⟩ Q:=by
    intro t E F u g10 H B q;have eh:([.box ((gh c).map .f) 0,.box [.f (fi x.mo),.f (fi 5),.f (fi x.wd),.f (fi x.mi),.f (fi x.off)] 0]:aj)=[.box ((gh c).map .f) 0,.box [.f (fi x.mo),.f (fi x.wk),.f (fi x.wd),.f (fi x.mi),.f (fi x.off)] 0]:=by rw [l]
    rw [eh];refine av (.inl rfl) ?_;simp [q,aQ (n:=d+1)];refine M _ _ ?_ ⟨d+1,j+1,d,_,rfl,rfl,by omega,by omega,by omega,by omega,fun h=>by omega,fun _=>?_,by simp [E],by simp [F],by simp [u],by simp [g10],by simp [H],by simp [B],by simp⟩
    ·omega
    ·rw [bp (by omega)];omega
   by_cases U:j+1=5
   ·simp [u,l,U];refine al (by simp) (aL (aw (Yh _ ?_ ?_ ?_ ?_ ?_ ?_ ?_)))<;>simp [E,F,u,g10,q,U]
   ·simp [u,l,U];refine al (by simp) (aL (aw (Yh _ ?_ ?_ ?_ ?_ ?_ ?_ ?_)))<;>simp [E,F,u,g10,q]
 ·refine al (by simp [K]) (aL (aw ?_));refine av (.inl rfl) ?_;simp [q,aQ (n:=d+1)];refine M _ _ ?_ ⟨d+1,j,la,_,rfl,rfl,by omega,by omega,by omega,by omega,fun h=>?_,fun h=>?_,by simp [E],by simp [F],by simp [u],by simp [g10],by simp [H],by simp [B],by simp⟩
  ·omega
  ·obtain⟨a1,a2,a3⟩:=I h;exact⟨a1,a2,by omega⟩
  ·have A:=J h;rw [A,show d+1-1=d by omega,show d-1-(d-1-x.wd) % 7=d-(d-x.wd) % 7 by omega])
def Di(t:bC)(l o:List bC):Prop:=∃ A B,l=A++B∧o=A++t::B∧(∀ x ∈ B,t.at_<x.at_)∧∀ x,A.getLast?=aa x→x.at_≤t.at_
theorem cC{n b:Nat}(g:n≤1100000)(d:b≤4096):bW n b=ae:=by
 have h:(2*n+768)*b≤2200768*4096:=Nat.mul_le_mul (by omega) d;simp [bW];omega
theorem dk{l:List bC}{j:Nat}{x:bC}(h:l[j]?=aa x):(aT l)[j]?=aa x.row:=by simp [aT,h]
theorem pC(l:List bC)(j:Nat)(x:bC):(aT l).set j x.row=aT (l.set j x):=by simp [aT,List.map_set]
@[simp] theorem bC.tM (x:bC):x.row.length=2:=rfl
theorem LS{H:aj}{c:C}{l:List bC}(hL:LR H c 2 (aT l))(hl:l.length≤1000)(x:bC) :
  ∃ o q H',Di x l o∧Ev tab.get (.fn 111) [.c c,.a (x.row.map .f)] H (.c q) H'∧LR H' q 2 (aT o)∧Kb H H' c∧(a6 q=a6 c∨∃ i,a6 q=aa i∧H.length≤i):=by
 suffices h:∃ r H',Ev tab.get (.fn 111) [.c c,.a (x.row.map .f)] H r H'∧∃ o q,r=.c q∧Di x l o∧LR H' q 2 (aT o)∧Kb H H' c∧(a6 q=a6 c∨∃ i,a6 q=aa i∧H.length≤i) by
  obtain⟨r,H',h1,o,q,rfl,h2,h3,h4,h5⟩:=h;exact⟨o,q,H',h2,h1,h3,h4,h5⟩
 refine dn rfl rfl fun Q hQ=>?_;apply ai;simp [bC.row];obtain⟨H1,u⟩:=aO (H++[.box [.f (fi x.at_),.f (fi x.off)] 0]:aj);rw [←u];have b1:H1[H.length]?=aa (.box [.f (fi x.at_),.f (fi x.off)] 0):=by rw [u];simp
 have l1:H1.length=H.length+1:=by rw [u];simp
 obtain⟨H2,v⟩:=aO (H1++[.box (x.row.map .f) 0]:aj);have d_:LR H2 c 2 (aT l):=by rw [v,u];exact(hL.push _).push _
 have f9:H2[H1.length]?=aa (.box (x.row.map .f) 0):=by rw [v];simp
 obtain⟨c3,H3,b_,e_,U,c9⟩:=d_.app (cu _) (by decide) (row:=x.row) rfl (bytes:=16) (cC (by simp;omega) (by decide)) f9;have l2:H2.length=H.length+2:=by rw [v];simp [l1]
 have hK:Kb H H3 c:=⟨by have:=U.1;omega,fun i y hy hn=>U.2 i y (by rw [v,u,asF,At (au hy)];exact hy) hn⟩
 have N:a6 c3=a6 c∨∃ i,a6 c3=aa i∧H.length≤i:=c9.imp id fun h=>⟨_,h,by omega⟩
 apply ai;have e2:H1++[.box [.f (fi x.at_),.f (fi x.off)] 0]=H2:=v.symm;simp [b1,aK];rw [e2];simp [b_];rcases e_ with⟨h,_⟩ | ⟨_,b,g,rfl,hb⟩
 ·simp at h
 have e3:aT l++[x.row]=aT (l++[x]):=by simp [aT]
 rw [e3]at hb;apply aq;apply ai;simp [hb.len];refine aB ?_;clear U c9;refine bI (fun n s=>∃(A B:List bC) (t:T) (J:aj),s=⟨t,[],J⟩∧n=A.length∧l=A++B∧(∀ z ∈ B,x.at_<z.at_)∧RB J b 2 g (aT (A++x::B))∧Fm b H3 J∧t.g 5=.c (.sl b 0 (l.length+1) 0 g 2)∧t.g 6=vi A.length) l.length
  ⟨l,[],_,H3,rfl,rfl,by simp,by simp,hb,Fm.refl _,by simp,by simp;exact aQ⟩ ?_
 rintro n s ⟨A,B,t,J,rfl,rfl,S,hB,M,hF,F,Z⟩ ih;have O:l.length=A.length+B.length:=by rw [S];simp
 apply aq;have a9:(∀ z,A.getLast?=aa z→z.at_≤x.at_)→∀ t:T,t.g 5=.c (.sl b 0 (l.length+1) 0 g 2)→WP tab.get 111 ab [.code pK] ⟨t,[],J⟩ Q:=by
  intro W t F;apply ai;simp [F];refine aJ (hQ _ _ (.c (.sl b 0 (l.length+1) 0 g 2)) rfl (kM (by simp)) ⟨A++x::B,_,rfl,⟨A,B,S,rfl,hB,W⟩,.inr ⟨by simp [aT],b,g,?_,M⟩,?_,?_⟩)
  ·simp [O];omega
  ·refine⟨arZ hK.1 hF.1,fun i y hy hn=>?_⟩;have h1:=hK.2 i y hy hn;refine hF.get h1 ?_;rintro rfl;rcases N with e | ⟨k,e,hk⟩
   ·exact hn (by rw [←e];rfl)
   ·cases e;have:=au hy;omega
  ·exact N
 have E:=cu (A++x::B);cases hA:A.getLast? with
 | none=>
  have d8:A=[]:=by simpa using hA
  subst d8;apply ai;simp [Z];refine al (by simp) ?_;refine bq (k':=[.code pK]) rfl ?_;exact a9 (by simp) _ (by simp [F])
 | some z=>
  obtain⟨d,rfl⟩:∃ d,A=d++[z]:=by
   obtain⟨d,e⟩:=List.getLast?_eq_some_iff.1 hA;exact⟨d,e⟩
  have m:(d++[z]).length=d.length+1:=by simp
  rw [m]at O;have gz:(d++[z]++x::B)[d.length]?=aa z:=by simp
  have gx:(d++[z]++x::B)[d.length+1]?=aa x:=by
   rw [arY (by simp)];simp
  have iz:aP J 2 ab (.c (.sl b 0 (l.length+1) 0 g 2)) (vi d.length)=aa (.c (.ptr b (d.length*2) g)):=by
   have:=M.idx (n:=l.length+1) (c:=0) (k:=.i64) (o:=0) (i:=(d.length:Int)) (by omega) (by omega);simpa using this
  have ix:aP J 2 ab (.c (.sl b 0 (l.length+1) 0 g 2)) (vi ((d.length:Int)+1))=aa (.c (.ptr b ((d.length+1)*2) g)):=by
   have:=M.idx (n:=l.length+1) (c:=0) (k:=.i64) (o:=0) (i:=(d.length:Int)+1) (by omega) (by omega);rw [aso,show((d.length:Int)+1).toNat=d.length+1 by omega]at this;exact this
  have cz:=M.ldc E (dk gz) (k:=0) (x:=fi z.at_) rfl;have cx:=M.ldc E (dk gx) (k:=0) (x:=fi x.at_) rfl;simp only [Nat.add_zero]at cz cx;have w1:ah .i64 (d.length:Int)=d.length:=aQ;apply ai;simp [F,Z,m,show(0:Int)<(d.length:Int)+1 by omega,w1,iz,ix,cz,cx,-an];by_cases X:x.at_<z.at_
  case neg=>
   refine al (by simp [X]) ?_;refine bq (k':=[.code pK]) rfl ?_;exact a9 (fun w hw=>by rw [hA]at hw;cases hw;omega) _ (by simp [F])
  refine ak (by simp [X]) (aL ?_);apply aq;refine aB ?_;have rx:=M.ldr E (dk gx);apply ai;simp [F,Z,m,ix,rx,-an,bC.row];obtain⟨J1,I⟩:=aO (J++[.box [.f (fi x.at_),.f (fi x.off)] 0]:aj);have L:RB J1 b 2 g (aT (d++[z]++x::B)):=by rw [I];exact M.push _
  have d6:J1[J.length]?=aa (.box [.f (fi x.at_),.f (fi x.off)] 0):=by rw [I];simp
  have g_:=M.lt;rw [←I];have f_:∀ {K:aj} {rows:List (List FC)} (_:RB K b 2 g rows),aP K 2 ab (.c (.sl b 0 (l.length+1) 0 g 2)) (vi ((d.length:Int)+1))=aa (.c (.ptr b ((d.length+1)*2) g)):=fun hK=>by
   have:=hK.idx (n:=l.length+1) (c:=0) (k:=.i64) (o:=0) (i:=(d.length:Int)+1) (by omega) (by omega);rw [aso,show((d.length:Int)+1).toNat=d.length+1 by omega]at this;exact this
  have d3:∀ {K:aj} {rows:List (List FC)} (_:RB K b 2 g rows),aP K 2 ab (.c (.sl b 0 (l.length+1) 0 g 2)) (vi d.length)=aa (.c (.ptr b (d.length*2) g)):=fun hK=>by
   have:=hK.idx (n:=l.length+1) (c:=0) (k:=.i64) (o:=0) (i:=(d.length:Int)) (by omega) (by omega);simpa using this
  have rz:=L.ldr E (dk gz);obtain⟨J2,s1,a_,a8,h_⟩:=L.str (j:=d.length+1) (row:=z.row) E (by simp) rfl;have c_:bR 2 ((aT (d++[z]++x::B)).set (d.length+1) z.row):=by rw [pC];exact cu _
  obtain⟨J3,s2,b9,d7,i_⟩:=a_.str (j:=d.length) (row:=x.row) c_ (by simp) rfl;have d5:=a8.get d6 (by omega);have Y:((aT (d++[z]++x::B)).set (d.length+1) z.row).set d.length x.row=aT (d++x::z::B):=by
   rw [pC,pC]
   congr 1
   rw [asF];simp
  rw [Y]at b9;apply ai;simp only [bC.row,aft,apr]at rz s1 s2;simp [F,Z,m,w1,f_ L,d3 L,rz,s1,-an,-bh];refine av (.inl rfl) ?_;simp [F,Z,m,w1,d3 a_,d5,aK,s2,-bh];refine aw ?_;refine av (.inl rfl) ?_;simp [Z,m,w1];have d9:Fm b H3 J3:=((hF.trans (by rw [I];exact Fm.push _ _)).trans a8).trans d7;refine ih d.length _ (by simp) ⟨d,z::B,_,J3,rfl,rfl,by rw [S];simp,?_,b9,d9,by simp [F],by simp⟩;intro w hw;rcases ass.1 hw with rfl | hw
  ·exact X
  ·exact hB w hw
def ZT(x:bE)(j:Nat):Int:=if j=0 then x.l else x.r
def pH(U:List Int)(x:bE):Nat→List Int
 | 0=>U| j+1=>if j<dQ x.k then nA (pH U x j) (ZT x j)else pH U x j
@[simp] theorem afs (U:List Int) (x:bE):∀ j,(pH U x j).length=U.length
 | 0=>rfl| j+1=>by unfold pH;split<;>simp [afs U x j]
theorem Gq{r:List bE}{x:bE}{i n:Nat}(h:lS i x):pH (bK r n) x 2=bK (r++[x]) n:=by
 have b:=ou x.k;rcases(show dQ x.k=0∨dQ x.k=1∨dQ x.k=2 by omega)with e | e | e
 ·rw [ER e];simp [pH,e]
 ·rw [ES e (h.l1 (by omega)).1];simp [pH,e,ZT]
 ·rw [ET e (h.l1 (by omega)).1 (h.r2 e).1];simp [pH,e,ZT]
abbrev cI(n:Int):C:=.f (fi n)
theorem xI{U:List Int}{k:Int}(b:0≤k)(d:k<U.length):over (U.map cI) k.toNat [cI (U.getD k.toNat 0+1)]=(nA U k).map cI:=by
 rw [vh (by simp;omega),nA,List.map_set]
theorem EF{k:Nat}(h:k<19):(kj.drop (k*4)).take 4=gK k:=
 uL (sz:=4) (rows:=(List.range 19).map gK) (fun r hr=>by obtain⟨j,_,rfl⟩:=ase.1 hr;rfl) (by simp [h])
theorem al8{H:aj}{b fl:Nat}(d:H[b]?=aa (.box (kj.map .f) fl)){k:Nat}(h:k<19):aU H (aa 4) (.c (.ptr b (k*4) 0))=aa (.a ((gK k).map .f)):=by
 have g:kj.length=76:=by decide
 have:k*4+4≤kj.length:=by omega
 simp only [aU,aC,d];simp [aK,←ata,←List.map_take,EF h];omega
theorem ej{H:aj}{g:Tg}{r:List aR}{j:Nat}(b:j<r.length)(d:r.length≤64):aP H 8 ab (.c (.f (sl g (aH r)))) (vi j)=aa (.c (.f (.fp (aH r).flatten (j*8)))):=by
 have:=c5 (H:=H) (g:=g) (rows:=aH r) (sz:=8) (k:=.i64) (i:=(j:Int)) (by omega) (by simp;omega);simpa using this
theorem js{H:aj}{r:List aR}{j:Nat}(b:j<r.length):aU H (aa 8) (.c (.f (.fp (aH r).flatten (j*8))))=aa (.a (r[j].row.map .f)):=by
 have:=fM (H:=H) (rows:=aH r) (j:=j) (sz:=8) (row:=r[j].row) (ed r) (kK b);simpa using this
theorem Zb{H:aj}{i:Nat}{x:cT}(h:H[i]?=aa x):H.set i x=H:=by
 refine List.ext_getElem? fun j=>?_;rw [List.getElem?_set];split
 ·rename_i e;subst e;rw [bp (au h),h]
 ·rfl
theorem adU{U:List Int}{B k:Int}(h:∀ v ∈ U,0≤v∧v≤B):∀ v ∈ nA U k,0≤v∧v≤B+1:=by
 intro v b;unfold nA at b;rcases List.mem_or_eq_of_mem_set b with b | rfl
 ·have:=h v b;omega
 ·rw [asl];cases g:U[k.toNat]? with
  | none=>
   by_cases d:U=[]
   ·subst d;simp at b
   ·obtain⟨w,j⟩:=List.exists_mem_of_ne_nil U d;have:=h w j;simp;omega
  | some w=>have:=h w (List.mem_of_getElem? g);simp;omega
theorem z_{U:List Int}{x:bE}{B:Int}(h:∀ v ∈ U,0≤v∧v≤B):∀ j:Nat,∀ v ∈ pH U x j,0≤v∧v≤B+j
 | 0=>fun v b=>by have:=h v b;omega
 | j+1=>fun v b=>by
  unfold pH at b;split at b
  ·have:=adU (z_ h j) v b;omega
  ·have:=z_ h j v b;omega
theorem aeg(v:Int):Kf tab.get 143 [vi v] (vb (decide (v≠1))):=by
 refine qh rfl rfl fun H Q b=>?_;apply ai;simp;apply ai;simp;exact aJ (b _ _ (by simp))
theorem ac9(g:Tg)(l:List Int)(d:l.length≤9223372036854775807):bA tab.get 142 [.c (.f (sl g (ints l))),.c (.f (.fn 143 []))]=Eq (vb (l.any fun v=>decide (v≠1))):=
 (Bw agW (LK agX l (fun v=>[fi v]) (fun v=>vi v) (fun v=>decide (v≠1)) g 143 [] d
  (fun j b H=>by rw [Nat.mul_one];exact fW b) (fun p m=>aeg p))).eq
theorem wF(g:Tg){r:List aR}(hG:Good (dN r))(hl:r.length≤64):bA tab.get 100 [.c (.f (sl g (aH r)))]=Eq (vb ae):=bA.eq (by
 have o_:0<r.length:=by have:=hG.pos;simpa using this
 obtain⟨n,hn⟩:=aO (r.length);refine bG rfl rfl fun Q hQ=>?_;apply ai;simp;refine aq (ai ?_);simp [←hn,show¬ (n:Int)<1 by omega,show¬ (64:Int)<n by omega];refine a5 (by simp) ?_;have o8:kj.length=76:=by decide
 apply ai;simp [sb,o8];apply ai;have c_:bW n 8=ae:=cC (by omega) (by decide);have n6:∀(t:T) (H:aj),(R 22).ev t=vi n→bz t H (.cM 1 8 [fi 0] (R 22) (R 22))=aa (.c (.sl H.length 0 n n 0 1),H++[.box ((bK [] n).map cI) 0]):=by
  intro t H h;have e:(cq n [fi 0]).map C.f=(bK [] n).map cI:=by rw [yx];simp [cq]
  simp only [bz,h,dy];rw [bp ⟨by omega,asR _,by simpa using c_,rfl⟩,aZ (by omega),ar4,e]
 simp [←hn,n6];refine aq (ai ?_);simp [←hn];refine gu n (fun i t H=>∃ r',r'=(dN r).take i∧t.g 0=.c (.f (sl g (aH r)))∧t.g 3=.c (.ptr 0 0 0)∧t.g 4=.c (.sl 1 0 n n 0 1)∧t.g 24=.c (.f (sl g (aH r)))∧H[0]?=aa (.box (kj.map .f) 0)∧H[1]?=aa (.box ((bK r' n).map cI) 0))
  (by omega) (by decide) (by decide) (by simp) (by simp) ⟨[],by simp,by simp,by simp,by simp,by simp,rfl,rfl⟩ ?_ ?_
 ·rintro i t H hi ⟨r',a,M,N,E,b,h0,h1⟩ ha hb next
  have Y:i<r.length:=by omega
  have hA:=hG.at_ i (by simpa using Y);obtain⟨x,hx⟩:=aO (r[i]);have j7:(dN r)[i]'(by simpa using Y)=x.d:=by rw [hx];simp
  rw [j7]at hA;obtain⟨o9,hK⟩:=hA.ok;have hk:=hK.k;obtain⟨k,A⟩:∃ k:Nat,x.d.k=k:=⟨x.d.k.toNat,by omega⟩
  have e_:k<19:=by omega
  have y:=tF hk.1;rw [A,ar4]at y;have b_:pH (bK r' n) x.d 2=bK ((dN r).take (i+1)) n:=by
   rw [Gq hA,a,aq8 (by simpa using Y),j7]
  refine aB (ai ?_);have d3:0<H.length:=au h0;have d5:1<H.length:=au h1;simp [ha,b,ej Y hl,js Y,←hx,aR.row];obtain⟨J,hJ⟩:=aO (H++[.box (x.row.map .f) 0]:aj);have j0:J[0]?=aa (.box (kj.map .f) 0):=by rw [hJ,At d3];exact h0
  have j1:J[1]?=aa (.box ((bK r' n).map cI) 0):=by rw [hJ,At d5];exact h1
  have jx:J[H.length]?=aa (.box (x.row.map .f) 0):=by rw [hJ];simp
  have jl:J.length=H.length+1:=by rw [hJ];simp
  simp only [aR.row,aft,apr]at hJ jx;rw [←hJ];clear hJ;obtain⟨d,g_⟩:=aO (H.length);rw [←g_]at jx jl d5 ⊢;clear g_ h0 h1 d3;refine aq (ai ?_);have m6:decide (1≤x.d.k∧x.d.k≤18)=ae:=decide_eq_true ⟨by omega,by omega⟩;simp [jx,aK,dE,m6,show¬ (64:Int)<x.d.li.length by omega];refine a5 (by simp) ?_;have a_:∀ H,aP H 4 (aa 19) (.c (.ptr 0 0 0)) (vi x.d.k)=aa (.c (.ptr 0 (k*4) 0)):=fun H=>by
   rw [A,adR (by omega) (by omega)];simp
  apply ai;have b9:=al8 j0 e_;simp only [gK,aft,apr]at b9;have c:aU J ab (.c (.ptr d 0 0))=aa (vi x.d.k):=by simp [aU,jx,aC,aK]
  simp [c,N,a_,b9,-an];obtain⟨J2,z⟩:=aO (J++[.box ((gK k).map .f) 0]:aj);have i0:J2[0]?=aa (.box (kj.map .f) 0):=by rw [z,At (au j0)];exact j0
  have i1:J2[1]?=aa (.box ((bK r' n).map cI) 0):=by rw [z,At (au j1)];exact j1
  have ix:=jx;rw [←At (l₂:=[.box ((gK k).map .f) 0]) (au jx),←z]at ix;have p:J2[d+1]?=aa (.box ((gK k).map .f) 0):=by rw [z,←jl];simp
  have il:J2.length=d+2:=by rw [z];simp [jl]
  simp only [gK,aft,apr]at z p;rw [←z,jl];clear z b9 c j0 j1 jx jl;refine aq (ai ?_);have m_:bH (J2++[.box [.f (fi x.d.l),.f (fi x.d.r)] 0]) (.sl J2.length 0 2 2 0 1)=aa 2:=by simp [bH]
  simp [ix,aK,m_];obtain⟨J3,I⟩:=aO (J2++[.box [.f (fi x.d.l),.f (fi x.d.r)] 0]:aj);have q0:J3[0]?=aa (.box (kj.map .f) 0):=by rw [I,At (au i0)];exact i0
  have q1:J3[1]?=aa (.box ((bK r' n).map cI) 0):=by rw [I,At (au i1)];exact i1
  have qx:=ix;rw [←At (l₂:=[.box [.f (fi x.d.l),.f (fi x.d.r)] 0]) (au ix),←I]at qx;have qs:=p;rw [←At (l₂:=[.box [.f (fi x.d.l),.f (fi x.d.r)] 0]) (au p),←I]at qs;have ql:J3[d+2]?=aa (.box [.f (fi x.d.l),.f (fi x.d.r)] 0):=by rw [I,←il];simp
  rw [←I,il];clear I i0 i1 ix p il;refine gu 2 (fun j t H=>t.g 0=.c (.f (sl g (aH r)))∧t.g 3=.c (.ptr 0 0 0)∧t.g 4=.c (.sl 1 0 n n 0 1)∧t.g 24=.c (.f (sl g (aH r)))∧t.g 5=vi i∧t.g 6=.c (.ptr d 0 0)∧t.g 7=.c (.ptr (d+1) 0 0)∧t.g 49=.c (.sl (d+2) 0 2 2 0 1)∧t.g 26=vi i∧t.g 25=vi n∧H=J3.set 1 (.box ((pH (bK r' n) x.d j).map cI) 0))
   (by decide) (by decide) (by decide) (by simp) (by simp) ⟨by simp [M],by simp [N],by simp [E],by simp [b],by simp,by simp,by simp,by simp,by simp [ha],by simp [hb],(Zb q1).symm⟩ ?_ ?_
  ·rintro j t H hj ⟨M,N,E,b,g5,O,S,F,s,q,rfl⟩ ha hb next
   obtain⟨U,hU⟩:=aO (pH (bK r' n) x.d j);have p_:U.length=n:=by rw [hU];simp
   have l9:∀ v ∈ U,0≤v∧v≤1000:=by
    intro v hv;rw [hU]at hv;have:=z_ (B:=2*r'.length) (fun v hv=>by
     obtain⟨k,hk,rfl⟩:=arS hv;exact CE r' n k (by simpa using hk)) j v hv
    have:r'.length≤64:=by rw [a];simp;omega
    omega
   have Z:pH (bK r' n) x.d (j+1)=if j<vz k then nA U (ZT x.d j)else U:=by
    rw [pH,A,y,hU]
   rw [←hU];obtain⟨o,ho⟩:=aO (ZT x.d j);rw [←ho]at Z;obtain⟨K,m⟩:=aO (J3.set 1 (.box (U.map cI) 0):aj);have p1:K[1]?=aa (.box (U.map cI) 0):=by rw [m];exact If (au q1)
   have L:K[d]?=aa (.box (x.row.map .f) 0):=by rw [m,AI (by omega)];exact qx
   have ps:K[d+1]?=aa (.box ((gK k).map .f) 0):=by rw [m,AI (by omega)];exact qs
   have pl:K[d+2]?=aa (.box [.f (fi x.d.l),.f (fi x.d.r)] 0):=by rw [m,AI (by omega)];exact ql
   have l7:∀ W:List Int,K.set 1 (.box (W.map cI) 0)=J3.set 1 (.box (W.map cI) 0):=fun W=>by rw [m,List.set_set]
   rw [←m];have d9:aP K 1 ab (.c (.sl (d+2) 0 2 2 0 1)) (vi j)=aa (.c (.ptr (d+2) j 0)):=by
    simp [aP,dy,pl];omega
   have n4:aU K ab (.c (.ptr (d+2) j 0))=aa (vi o):=by
    rcases(show j=0∨j=1 by omega)with rfl | rfl<;>simp [aU,pl,aC,aK,ho,ZT]
   have n_:aU K ab (.c (.ptr (d+1) 0 0))=aa (vi (vz k)):=by simp [aU,ps,aC,aK,gK]
   have c:aU K ab (.c (.ptr d 0 0))=aa (vi x.d.k):=by simp [aU,L,aC,aK,aR.row]
   refine aB (ai ?_);simp [ha,F,d9,n4,-an];refine aB (ai ?_);simp [S,n_,-an];by_cases d_:j<vz k
   ·rw [bp d_]at Z;have c9:0≤o∧o≤(i:Int)-1:=by
     rw [ho];rcases(show j=0∨j=1 by omega)with rfl | rfl
     ·have:=hA.l1 (by rw [A,y];omega);simp only [ZT];simp;omega
     ·have h2:dQ x.d.k=2:=by have:=ou x.d.k;rw [A,y]at this ⊢;omega
      have:=hA.r2 h2;simp only [ZT];simp;omega
    have f_:decide (0≤o∧o≤(i:Int)-1)=ae:=decide_eq_true c9;have d8:U.getD o.toNat 0=U[o.toNat]'(by omega):=by rw [asl,AT (by omega)];rfl
    have d7:=l9 _ (IT (l:=U) (n:=o.toNat) (by omega));rw [←d8]at d7;have a_:aP K 1 ab (.c (.sl 1 0 n n 0 1)) (vi o)=aa (.c (.ptr 1 o.toNat 0)):=by
     simp [aP,dy,p1,c9.1];omega
    have f9:aU K ab (.c (.ptr 1 o.toNat 0))=aa (vi (U.getD o.toNat 0)):=by
     have:(U.map cI).drop o.toNat=cI (U.getD o.toNat 0) ::(U.map cI).drop (o.toNat+1):=by
      rw [ar5 (by simp;omega),asU,d8]
     simp only [aU,aC,p1,ar7];rw [this];rfl
    have h_:cE K (.ptr 1 o.toNat 0) [.f (fi (U.getD o.toNat 0+1))]=aa (K.set 1 (.box ((nA U o).map cI) 0)):=by
     have:=xI (U:=U) (k:=o) c9.1 (by omega);simp only [cE,p1];rw [bp (by simp;omega)];rw [show [C.f (fi (U.getD o.toNat 0+1))]=[cI (U.getD o.toNat 0+1)] from rfl,this]
    obtain⟨u,hu⟩:=aO (U.getD o.toNat 0);rw [←hu]at f9 h_ d7;refine ak (by simp;omega) (aq (ai ?_));simp [g5,aQ (n:=(i:Int)-1),dE,f_];refine a5 (by simp) ?_;refine av (.inl rfl) ?_;simp [E,a_,f9,h_,aQ (n:=u+1),-an,-bh];refine aw (aw ?_);refine next _ _ ?_ ?_ ?_
    ·exact⟨by simp [M],by simp [N],by simp [E],by simp [b],by simp [g5],by simp [O],by simp [S],by simp [F],by simp [s],by simp [q],by rw [Z,l7]⟩
    ·simp [ha]
    ·simp [hb]
   ·rw [aZ d_]at Z;refine al (by simp;omega) (ai ?_);have X:∀ t:T,t.g 0=.c (.f (sl g (aH r)))→t.g 3=.c (.ptr 0 0 0)→t.g 4=.c (.sl 1 0 n n 0 1)→t.g 24=.c (.f (sl g (aH r)))→t.g 5=vi i→t.g 6=.c (.ptr d 0 0)→t.g 7=.c (.ptr (d+1) 0 0)→t.g 49=.c (.sl (d+2) 0 2 2 0 1)→t.g 26=vi i→t.g 25=vi n→t.g 51=vi j→t.g 50=vi (2:Nat)→t.g 72=vb ag →
      WP tab.get 100 ab [.code wP,.inBlock 4,.inBlock 3,.code wQ,.inLoop wO,.inBlock 2,.code wR,.inBlock 1,.code (LI 26 122),.inLoop (rZ 0 26 25 27 122 qV),.inBlock 0,.code qW] ⟨t,[],K⟩ Q:=by
     intro t M N E b g5 O S F s q j_ j9 k_;refine al k_ (aL ?_);refine aw (aw ?_);refine next _ _ ?_ ?_ ?_
     ·exact⟨by simp [M],by simp [N],by simp [E],by simp [b],by simp [g5],by simp [O],by simp [S],by simp [F],by simp [s],by simp [q],by rw [Z,m]⟩
     ·simp [j_]
     ·simp [j9]
    by_cases f:o=0
    ·simp [f];exact X _ (by simp [M]) (by simp [N]) (by simp [E]) (by simp [b]) (by simp [g5]) (by simp [O]) (by simp [S]) (by simp [F]) (by simp [s]) (by simp [q]) (by simp [ha]) (by simp [hb]) (by simp)
    ·have m7:j=0:=by
      rcases(show j=0∨j=1 by omega)with e | rfl
      ·exact e
      ·exact absurd (by rw [ho];simp [ZT];exact hA.r0 (by rw [A,y];omega)) f
     subst m7;have m9:x.d.k=7:=by
      rcases Decidable.em (x.d.k=7)with e | e
      ·exact e
      ·exact absurd (by rw [ho];simp [ZT];exact hA.l0 (by rw [A,y];omega) e) f
     simp [f,O,c,m9,-an];exact X _ (by simp [M]) (by simp [N]) (by simp [E]) (by simp [b]) (by simp [g5]) (by simp [O]) (by simp [S]) (by simp [F]) (by simp [s]) (by simp [q]) (by simp [ha]) (by simp [hb]) (by simp)
  ·rintro t H ⟨M,N,E,b,g5,O,S,F,s,q,rfl⟩ - -;rw [b_];obtain⟨K,m⟩:=aO (J3.set 1 (.box ((bK ((dN r).take (i+1)) n).map cI) 0):aj);have p0:K[0]?=aa (.box (kj.map .f) 0):=by rw [m,AI (by omega)];exact q0
   have p1:K[1]?=aa (.box ((bK ((dN r).take (i+1)) n).map cI) 0):=by rw [m];exact If (au q1)
   have L:K[d]?=aa (.box (x.row.map .f) 0):=by rw [m,AI (by omega)];exact qx
   have ps:K[d+1]?=aa (.box ((gK k).map .f) 0):=by rw [m,AI (by omega)];exact qs
   rw [←m];have e0:aU K ab (.c (.ptr d 0 0))=aa (vi x.d.k):=by simp [aU,L,aC,aK,aR.row]
   have e1:aU K ab (.c (.ptr d 1 0))=aa (vi x.d.er):=by simp [aU,L,aC,aK,aR.row]
   have e6:aU K ab (.c (.ptr d 6 0))=aa (.c (.f (sl x.tg (ints x.d.li)))):=by simp [aU,L,aC,aK,aR.row]
   have e7:aU K ab (.c (.ptr d 7 0))=aa (.c (.f (.str th))):=by simp [aU,L,aC,aK,aR.row]
   have e8:aU K (aa 8) (.c (.ptr d 0 0))=aa (.a (x.row.map .f)):=by simp [aU,L,aC,aK,aR.row]
   have f1:aU K ab (.c (.ptr (d+1) 1 0))=aa (vb (mG k)):=by simp [aU,ps,aC,aK,gK]
   have f2:aU K (aa 2) (.c (.ptr (d+1) 2 0))=aa (.a [.f (fi (Cp k)),.f (fi (Co k))]):=by simp [aU,ps,aC,aK,gK]
   have a8:=hK.ZO;have d6:=zA x hK.num;have w:=hK.er;rw [A,ar4]at a8 w;have hL:=LY x.tg x.d.li (Cp k) (Co k) a8 (by omega);have X:∀ t:T,t.g 0=.c (.f (sl g (aH r)))→t.g 3=.c (.ptr 0 0 0)→t.g 4=.c (.sl 1 0 n n 0 1)→t.g 24=.c (.f (sl g (aH r)))→t.g 6=.c (.ptr d 0 0)→t.g 7=.c (.ptr (d+1) 0 0)→t.g 26=vi i→t.g 25=vi n→t.g 10=vb ae→t.g 11=vb ae →
     WP tab.get 100 ab [.code wT,.inBlock 1,.code (LI 26 122),.inLoop (rZ 0 26 25 27 122 qV),.inBlock 0,.code qW] ⟨t,[],K⟩ Q:=by
    intro t M N E b O S s q g10 j8;refine aq (ai ?_);simp [O,e0,-an,show¬ x.d.k=18 by omega];refine a5 (by simp) ?_;apply ai;simp [O,S,g10,j8,e6,e8,f2,hL,d6,-an];refine a5 (by simp) ?_;refine aw ?_;refine next _ _ ?_ ?_ ?_
    ·exact⟨_,rfl,by simp [M],by simp [N],by simp [E],by simp [b],p0,p1⟩
    ·simp [s]
    ·simp [q]
   apply ai;have i_:bS .eql (.c (.f (.str th))) (.c (.f (.str ⟨#[]⟩)))=aa (vb ae):=by simp [bS,Lg,th];rfl
   simp [O,e1,e7,-an,i_];refine aq (ai ?_);simp [S,f1,-an];cases hc:mG k
   ·have l_:=w.2.2 hc;refine a5 (by simp) ?_;exact X _ (by simp [M]) (by simp [N]) (by simp [E]) (by simp [b]) (by simp [O]) (by simp [S]) (by simp [s]) (by simp [q]) (by simp [l_]) (by simp)
   ·have m4:decide (0≤x.d.er∧x.d.er≤2)=ae:=decide_eq_true ⟨by omega,by omega⟩;refine ak (by simp) (av (.inl rfl) ?_);simp [O,e1,-an,dE,m4];exact X _ (by simp [M]) (by simp [N]) (by simp [E]) (by simp [b]) (by simp [O]) (by simp [S]) (by simp [s]) (by simp [q]) (by simp) (by simp)
 ·rintro t H ⟨r',a,M,N,E,b,h0,h1⟩ - -;have o7:r'=dN r:=by rw [a,arT (by simp;omega)]
  subst o7;clear a;have hU:((bK (dN r) n).take (n-1)).any (fun v=>decide (v≠1))=ag:=by
   rw [List.any_eq_false];intro v hv;have:=hG.bK v (by simpa [←hn]using hv);simp [this]
  have hw:ah .i64 ((n:Int)-1)=((n-1:Nat):Int):=by rw [aQ];omega
  have hs:dw H 1 (.c (.sl 1 0 n n 0 1)) ab (aa (vi ((n-1:Nat):Int))) ab=aa (.c (.sl 1 0 (n-1) n 0 1)):=by
   have hb:=adg (k:=n-1) (n:=n) (by omega);simp [dw,h1,cj,hb];omega
  have hx:c8 deep H (.sl 1 0 (n-1) n 0 1)=aa (sl .fs (ints ((bK (dN r) n).take (n-1)))):=by
   have e1:(((bK (dN r) n).map cI).drop 0).take ((n-1)*1)=(((bK (dN r) n).take (n-1)).map fi).map C.f:=by simp [List.map_take,Function.comp_def]
   show c8 (deep-1+1) H (.sl 1 0 (n-1) n 0 1)=_;rw [kE,h1];simp only [e1,zw];rw [bp (by simp)];have n5:((bK (dN r) n).take (n-1)).length=n-1:=by simp
   by_cases n7:n=1
   ·subst n7;simp [sl,Tg.fc,ints]
   ·have n9:¬ (ints ((bK (dN r) n).take (n-1))).isEmpty=ae:=by
     rw [List.isEmpty_iff,←List.length_eq_zero_iff];simp;omega
    rw [sl,aZ n9,xK,BJ,n5];rfl
  apply ai;have a9:=ac9 .fs ((bK (dN r) n).take (n-1)) (by simp;omega);rw [hU]at a9;simp [M,E,←hn,hw,hs,hx,a9];exact aJ (hQ _ _ (by simp)))
theorem xv{H:aj}(g:Tg)(l:List Int)(b:l.length≤1000):∃ r H',Ev tab.get (.fn 77) [.c (.f (sl g (ints l)))] H r H'∧∃ c J,r=.c c∧H'=H++J∧LR (H++J) c 1 (ints l)∧∀ i,a6 c=aa i→H.length≤i:=
 uB (sz:=1) (zs:=[fi 0]) (bytes:=8) agV (by decide) (ek l) (cC (by simp;omega) (by decide))
theorem afu{H:aj}{g:Tg}{r:List aR}(J:Good (dN r))(N:r.length≤64){pm pr pw mb:Nat}(Z:H[pm]?=aa (.box [.mp mb] 0))(m:H[mb]?=aa (.map []))(hr:H[pr]?=aa (.box [.f (sl g (aH r))] 0)) :
  ∃ q H',Ev tab.get (.fn 114) [vi 0,.c (.ptr pm 0 0),.c (.ptr pr 0 0),.c (.ptr pw 0 0)] H q H'∧H'=H.set mb (.map [(fi 0,.f (.bool ae))]):=by
 have d:0<r.length:=by have:=J.pos;simpa using this
 refine dn (C:=fun q H'=>H'=H.set mb (.map [(fi 0,.f (.bool ae))])) agQ rfl fun Q M=>?_;apply ai;have S:aU H ab (.c (.ptr pm 0 0))=aa (.c (.mp mb)):=by simp [aU,Z,aC,aK]
 have E:∀ t:T,(R 6).ev t=.c (.mp mb)→(R 7).ev t=vi 0→bz t H (.kG .int (R 6) (R 7) kt)=aa (.top,H.set mb (.map [(fi 0,.f (.bool ae))])):=by
  intro t W X;simp only [bz,W,X];have:sw (Arg.ev t kt)=aa (.f (.bool ae)):=rfl;simp only [this,m];rfl
 simp [S,-an,E];obtain⟨K,L⟩:=aO (H.set mb (.map [(fi 0,.f (.bool ae))]):aj);have F:pr≠mb:=by rintro rfl;rw [hr]at m;cases m
 have f:K[pr]?=aa (.box [.f (sl g (aH r))] 0):=by rw [L,AI (Ne.symm F)];exact hr
 have U:aU K ab (.c (.ptr pr 0 0))=aa (.c (.f (sl g (aH r)))):=by simp [aU,f,aC,aK]
 rw [←L]at M ⊢;obtain⟨x,O⟩:=aO (r[0]);have y:=J.at_ 0 (by simpa using d);have I:(dN r)[0]'(by simpa using d)=x.d:=by rw [O];simp
 rw [I]at y;have Y:=y.ok.2.k;obtain⟨k,u⟩:∃ k:Nat,x.d.k=k:=⟨x.d.k.toNat,by omega⟩
 have l:=tF Y.1;have v:dQ x.d.k=0:=by
  rcases asq (dQ x.d.k)with e | e
  ·exact e
  ·have:=y.l1 e;omega
 rw [v,u,ar4]at l;have s:aP K 8 ab (.c (.f (sl g (aH r)))) (vi 0)=aa (.c (.f (.fp (aH r).flatten 0))):=ej (H:=K) (g:=g) (r:=r) (j:=0) d N;have B:aU K ab (.c (.f (.fp (aH r).flatten 0)))=aa (vi x.d.k):=by
  have:=kF (H:=K) (rows:=aH r) (j:=0) (sz:=8) (row:=r[0].row) (x:=fi r[0].d.k) (ed r) (kK d) rfl;rw [O];simpa using this
 have A:mC 19 4 (aa 4) (.a (kj.map .f)) (vi x.d.k)=aa (.a ((gK k).map .f)):=by
  have N:kj.length=76:=by decide
  simp only [mC,dy,u];rw [bp ⟨by omega,by omega⟩,ar4];simp [aK,←ata,←List.map_take,EF (show k<19 by omega)];omega
 apply ai;have z:∀ a b c,nv 0 ab (.a [.f (fi 0),a,b,c])=aa (vi 0):=fun _ _ _=>rfl;simp [sb,U,-an,s,B,A,gK,←l,z];refine aq (ai ?_);simp;refine a5 (by simp) ?_;apply ai;simp;refine a5 (by simp) ?_;exact jZ (M _ _ (.t []) rfl rfl rfl)
def aR.dK(x:aR)(c:C):List C:=[cI x.d.k,cI x.d.er,cI x.d.l,cI x.d.r,cI x.d.n,cI x.d.m,c,.f (.str th)]
theorem ahj{H:aj}{x:aR}(h:dQ x.d.k=0)(p:1≤x.d.k∧x.d.k≤17)(X:x.d.li.length≤61)(pc:C) :
  ∃ q H',Ev tab.get (.fn 115) [.c (.f .aF),.a (x.row.map .f),.c pc] H q H'∧∃ v c J,q=.c (.sl v 0 1 0 0 8)∧H'=H++J∧H.length≤v∧(H++J)[v]?=aa (.bM 8 (x.dK c) 0 0 .loc)∧LR (H++J) c 1 (ints x.d.li)∧∀ i,a6 c=aa i→H.length≤i:=by
 obtain⟨k,I⟩:∃ k:Nat,x.d.k=k:=⟨x.d.k.toNat,by omega⟩
 have s:=tF p.1;rw [h,I,ar4]at s;refine dn (C:=fun q H'=>∃ v c J,q=.c (.sl v 0 1 0 0 8)∧H'=H++J∧H.length≤v∧(H++J)[v]?=aa (.bM 8 (x.dK c) 0 0 .loc)∧LR (H++J) c 1 (ints x.d.li)∧∀ i,a6 c=aa i→H.length≤i) agR rfl fun Q n=>?_;apply ai;simp;obtain⟨l,j⟩:=aO (H++[.box (x.row.map .f) 0]:aj);have b1:l[H.length]?=aa (.box (x.row.map .f) 0):=by rw [j];simp
 have w:l.length=H.length+1:=by rw [j];simp
 rw [←j];obtain⟨r',K,N,c,J,rfl,rfl,M,F⟩:=xv (H:=l) x.tg x.d.li (by omega);have Z:aU l ab (.c (.ptr H.length 6 0))=aa (.c (.f (sl x.tg (ints x.d.li)))):=by simp [aU,b1,aC,aK,aR.row]
 have L:(l++J)[H.length]?=aa (.box (x.row.map .f) 0):=by rw [At (au b1)];exact b1
 have u:(l++J).set H.length (.box (x.dK c) 0)=H++(.box (x.dK c) 0::J):=by
  rw [j,asF,List.set_append_right _ _ (OF _),Nat.sub_self];rfl
 have U:cE (l++J) (.ptr H.length 6 0) [c]=aa (H++(.box (x.dK c) 0::J)):=by
  rw [←u];simp [cE,L,aR.row,aR.dK,over]
 apply ai;simp [Z,-an,-bh,N.eq,U];obtain⟨K,z⟩:=aO (H++(.box (x.dK c) 0::J):aj);have Y:K[H.length]?=aa (.box (x.dK c) 0):=by rw [z];simp
 have W:LR K c 1 (ints x.d.li):=by
  refine M.bT fun i y r o=>?_;have:=F i o;rw [z,←u,AI (by omega)];exact r
 have kl:K.length=l.length+J.length:=by rw [z];simp [w];omega
 rw [←z];have e:aU K ab (.c (.ptr H.length 0 0))=aa (vi x.d.k):=by simp [aU,Y,aC,aK,aR.dK]
 have S:mC 19 4 (aa 4) (.a (kj.map .f)) (vi x.d.k)=aa (.a ((gK k).map .f)):=by
  have hl:kj.length=76:=by decide
  simp only [mC,dy,I];rw [bp ⟨by omega,by omega⟩,ar4];simp [aK,←ata,←List.map_take,EF (show k<19 by omega)];omega
 have O:∀ a b c,nv 0 ab (.a [.f (fi 0),a,b,c])=aa (vi 0):=fun _ _ _=>rfl;refine aq (ai ?_);simp [sb,e,-an,S,gK,←s,O];refine aB (ai ?_);simp;refine al (by simp) (ai ?_);simp;refine a5 (by simp) ?_;refine aw ?_;have f:aU K (aa 8) (.c (.ptr H.length 0 0))=aa (.a (x.dK c)):=by simp [aU,Y,aC,aK,aR.dK]
 apply ai;have E:(x.dK c).length=8:=rfl;obtain⟨m,d⟩:=aO (K++[.box (x.dK c) 0]:aj);have t:m[K.length]?=aa (.box (x.dK c) 0):=by rw [d];simp
 have A:=lk (H:=m) (sz:=8) (c:=1) t E;have B:bU m 8 88 (.c (.f .aF)) (.c (.sl K.length 0 1 1 0 8))=aa (.c (.sl m.length 0 1 0 0 8),m++[.bM 8 (x.dK c) 0 0 .loc]):=by
  have hr:bW 1 88=ae:=by decide
  simp [bU,A,hr]
 simp [f,-an,E];rw [←d];simp [B];have g:m++[.bM 8 (x.dK c) 0 0 .loc]=H++((.box (x.dK c) 0::J)++[.box (x.dK c) 0]++[.bM 8 (x.dK c) 0 0 .loc]):=by rw [d,z];simp
 refine aJ (n _ _ (.c (.sl m.length 0 1 0 0 8)) rfl (kM (by simp)) ⟨m.length,c,_,rfl,g,?_,?_,?_,fun i hi=>?_⟩)
 ·rw [d,z];simp
 ·rw [←g];simp
 ·rw [←g,d];exact(W.push _).push _
 ·have:=F i hi;omega
theorem ahC{H:aj}{x:aR}{c:C}{b:Nat}(d:H[b]?=aa (.bM 8 (x.dK c) 0 0 .loc))(j:LR H c 1 (ints x.d.li)):∃ F,c8 deep H (.sl b 0 1 0 0 8)=aa F:=by
 obtain⟨g,l⟩:=j.ex (ek _) 62;refine⟨.fs [fi x.d.k,fi x.d.er,fi x.d.l,fi x.d.r,fi x.d.n,fi x.d.m,sl g (ints x.d.li),.str th] 1,?_⟩;show c8 (63+1) H (.sl b 0 1 0 0 8)=_;rw [kE,d];have:(x.dK c).drop 0=x.dK c:=rfl;simp [aR.dK,ba,l]
theorem aeK(g:Tg){r:List aR}(hG:Good (dN r))(hl:r.length≤64):∃ F,bA tab.get 73 [.c (.f (sl g (aH r))),vi 0]=Eq (.t [.c (.f F),vi 0]):=by
 obtain⟨rr,⟨F,rfl⟩,hp⟩:∃ rr,(∃ F,rr=.t [.c (.f F),vi 0])∧bA tab.get 73 [.c (.f (sl g (aH r))),vi 0] rr:=by
  have z:0<r.length:=by have:=hG.pos;simpa using this
  have d8:=wF g hG hl;obtain⟨n,hn⟩:=aO (r.length);refine bQ rfl rfl fun Q hQ=>?_;apply ai;simp;refine aq (aB (ai ?_));simp [aK,d8];refine al (by simp) (ai ?_);simp [aK,←hn,show¬ n=0 by omega];refine al (by simp) (aL (aw ?_));have I:bW n 8=ae:=cC (by omega) (by decide);have a8:∀(t:T) (H:aj),(R 26).ev t=vi n→bz t H (.cM 1 8 [fi 0] (R 26) (R 26))=aa (.c (.sl H.length 0 n n 0 1),H++[.box ((List.replicate n (fi 0)).map .f) 0]):=by
   intro t H h;have e:(cq n [fi 0]).map C.f=(List.replicate n (fi 0)).map .f:=by simp [cq]
   simp only [bz,h,dy];rw [bp ⟨by omega,asR _,by simpa using I,rfl⟩,aZ (by omega),ar4,e]
  apply ai;simp [aK,←hn,a8];apply ai;simp;apply ai;simp;apply ai;have a9:∀(t:T) (H:aj),bz t H .kI=aa (.c (.mp H.length),H++[.map []]):=fun _ _=>rfl;simp [a9];apply ai;simp;obtain⟨Hw,d⟩:=aO ([.box [.f (sl g (aH r))] 0,.box (List.replicate n (.f (fi 0))) 0,.box [.cl 114 [.ptr 4 0 0,.ptr 0 0 0,.ptr 2 0 0]] 0,.map [],.box [.mp 3] 0]:aj);rw [←d];obtain⟨q,H',he,rfl⟩:=afu (H:=Hw) (g:=g) hG hl (pm:=4) (pr:=0) (pw:=2) (mb:=3) (by rw [d];rfl) (by rw [d];rfl) (by rw [d];rfl);have e8:aU Hw ab (.c (.ptr 2 0 0))=aa (.c (.cl 114 [.ptr 4 0 0,.ptr 0 0 0,.ptr 2 0 0])):=by rw [d];rfl
  apply ai;simp [e8,-an,bZ,he.eq];obtain⟨H0,m⟩:=aO (Hw.set 3 (.map [(fi 0,.f (.bool ae))]):aj);rw [←m];have z0:H0[0]?=aa (.box [.f (sl g (aH r))] 0):=by rw [m,d];rfl
  have z1:H0[1]?=aa (.box ((List.replicate n (fi 0)).map .f) 0):=by rw [m,d];simp
  have z3:H0[3]?=aa (.map [(fi 0,.f (.bool ae))]):=by rw [m,d];rfl
  have z4:H0[4]?=aa (.box [.mp 3] 0):=by rw [m,d];rfl
  clear m d he e8 a9 a8;have e2:aU H0 ab (.c (.ptr 0 0 0))=aa (.c (.f (sl g (aH r)))):=by simp [aU,z0,aC,aK]
  refine aq (ai ?_);simp [e2,-an,←hn];obtain⟨B,b9⟩:=aO (r[0]);have hA:=hG.at_ 0 (by simpa using z);have d9:(dN r)[0]'(by simpa using z)=B.d:=by rw [b9];simp
  rw [d9]at hA;have hk:=hA.ok.2.k;have a_:dQ B.d.k=0:=by
   rcases asq (dQ B.d.k)with e | e
   ·exact e
   ·have:=hA.l1 e;omega
  refine gu n (fun i t H=>t.g 33=.c (.f (sl g (aH r)))∧t.g 6=.c (.sl 1 0 n n 0 1)∧t.g 9=.c (.ptr 4 0 0)∧H[4]?=aa (.box [.mp 3] 0)∧H[3]?=aa (.map [(fi 0,.f (.bool ae))])∧(∃ cs:List FC,cs.length=n∧H[1]?=aa (.box (cs.map .f) 0)) ∧
    (i=0→t.g 7=.c (.f .aF))∧(0<i→∃ u c,t.g 7=.c (.sl u 0 1 0 0 8)∧2≤u∧H[u]?=aa (.bM 8 (B.dK c) 0 0 .loc)∧LR H c 1 (ints B.d.li)∧∀ b,a6 c=aa b→2≤b))
   (by omega) (by decide) (by decide) (by simp) (by simp) ⟨by simp,by simp,by simp,z4,z3,⟨_,by simp,z1⟩,fun _=>by simp,fun h=>absurd h (by omega)⟩ ?_ ?_
  ·rintro i t H hi ⟨v,N,g9,S,h3,⟨cs,Y,h1⟩,hz,hp⟩ ha hb next
   have Z:i<r.length:=by omega
   refine aB (ai ?_);simp [ha,v,ej Z hl,js Z,aR.row];obtain⟨J,L⟩:=aO (H++[.box (r[i].row.map .f) 0]:aj);have jx:J[H.length]?=aa (.box (r[i].row.map .f) 0):=by rw [L];simp
   have A:∀ {b:Nat} {y:cT},H[b]?=aa y→J[b]?=aa y:=fun {b y} h=>by rw [L,At (au h)];exact h
   have jl:J.length=H.length+1:=by rw [L];simp
   have d_:∀ {c:C} {rows:List (List FC)},LR H c 1 rows→LR J c 1 rows:=fun h=>by rw [L];exact h.push _
   simp only [aR.row,aft,apr]at L;rw [←L];have e9:aU J ab (.c (.ptr 4 0 0))=aa (.c (.mp 3)):=by simp [aU,A S,aC,aK]
   have d5:∀ t:T,(R 40).ev t=.c (.mp 3)→(R 41).ev t=vi i→bz t J (.lookup .int (.bool ag) (R 40) (R 41))=aa (vb (decide (i=0)),J):=by
    intro t c9 c_;have e:gv J .int (.bool ag) (.c (.mp 3)) (vi i)=aa (vb (decide (i=0))):=by
     simp only [gv,A h3];have:nE .int (fi (i:Int)) [(fi 0,.f (.bool ae))]=aa (if i=0 then aa (.f (.bool ae))else ab):=by
      simp only [nE,eqK];by_cases j:i=0
      ·subst j;rfl
      ·have:(((i:Int)) == 0)=ag:=by simp;exact j
       simp [j,this]
     rw [this];by_cases j:i=0
     ·subst j;rfl
     ·simp [j];exact⟨rfl,rfl⟩
    simp only [bz,c9,c_,e];rfl
   apply ai;simp [g9,e9,-an,d5];by_cases j:i=0
   ·subst j;have O:=hz rfl;have d6:r[0].row=B.row:=by rw [b9]
    have b_:aU J (aa 8) (.c (.ptr H.length 0 0))=aa (.a (B.row.map .f)):=by
     rw [d6]at jx;simp [aU,jx,aC,aK,aR.row]
    have w0:ah .i64 0=0:=by decide
    obtain⟨q,H',hq,u,c,M,rfl,rfl,f9,l,s,X⟩:=ahj (H:=J) (x:=B) a_ hk (by have:=hA.ok.1;omega) (.sl 1 0 n n 0 1);refine ak (by simp) (ai ?_);simp [O,N,b_,-an,hq.eq];have up2:∀ {b:Nat} {y:cT},H[b]?=aa y→(J++M)[b]?=aa y:=fun {b y} h=>by rw [At (au (A h))];exact A h
    obtain⟨K,hK⟩:=aO (J++M:aj);rw [←hK]at l s up2 ⊢;have E:bH K (.sl u 0 1 0 0 8)=aa 1:=by simp [bH,l]
    have d3:aP K 1 ab (.c (.sl 1 0 n n 0 1)) (vi 0)=aa (.c (.ptr 1 0 0)):=by
     simp [aP,dy,up2 h1];omega
    have d7:cE K (.ptr 1 0 0) [.f (fi 0)]=aa (K.set 1 (.box ((cs.set 0 (fi 0)).map .f) 0)):=by
     simp only [cE,up2 h1];rw [bp (by simp;omega),List.map_set,vh (by simp;omega)]
    have e_:=au S;refine av (.inl rfl) ?_;simp [N,E,d3,d7,w0,-bh];refine aw ?_;refine next _ _ ⟨by simp [v],by simp [N],by simp [g9],?_,?_,⟨cs.set 0 (fi 0),by simp [Y],?_⟩,fun h=>absurd h (by omega),fun _=>⟨u,c,by simp,by omega,?_,?_,fun b hb=>?_⟩⟩ (by simp [ha]) (by simp [hb])
    ·rw [AI (by decide)];exact up2 S
    ·rw [AI (by decide)];exact up2 h3
    ·rw [List.map_set];exact If (au (up2 h1))
    ·rw [AI (by omega)];exact l
    ·exact s.set (fun e=>by have:=X 1 e;omega) _
    ·have:=X b hb;omega
   ·obtain⟨u,c,O,U,l,s,W⟩:=hp (by omega);refine al (by simp [j]) (aL (aw ?_));refine next _ _ ⟨by simp [v],by simp [N],by simp [g9],A S,A h3,⟨cs,Y,A h1⟩,fun h=>absurd h (by omega),fun _=>⟨u,c,by simp [O],U,A l,d_ s,W⟩⟩ (by simp [ha]) (by simp [hb])
  ·rintro t H ⟨v,N,g9,S,h3,-,-,hp⟩ - -;obtain⟨u,c,O,U,l,s,W⟩:=hp (by omega);obtain⟨F,hF⟩:=ahC l s;apply ai;simp [O];refine aJ (hQ _ _ _ ⟨F,rfl⟩ ⟨rfl,.t [.c (.sl u 0 1 0 0 8),vi 0],?_,?_⟩)
   ·simp [Km.results,bs,ba]
   ·simp [fJ,bO,ba,hF]
 exact⟨F,hp.eq⟩
theorem mw(n lo hi:Int):bA tab.get 28 [vi n,vi lo,vi hi]=Eq (vb (decide (lo≤n∧n≤hi))):=bA.eq (by
 refine bG rfl rfl fun Q b=>?_;apply ai;simp;apply ai;by_cases h:lo≤n
 ·simp [h];exact aJ (b _ _ (by simp [h]))
 ·simp [h];exact aJ (b _ _ (by simp [h])))
theorem fu(n lo hi:Int):∃ b,decide (lo≤n∧n≤hi)=b∧bA tab.get 28 [vi n,vi lo,vi hi]=Eq (vb b):=⟨_,rfl,mw n lo hi⟩
def oP(m:aX):Bool:=decide (0≤m.day∧m.day≤1099511627776) &&
 (if m.drop=ae then decide (m.to=0)&&decide (m.mi=0)&&decide (m.le=0)else decide (0≤m.to∧m.to≤1099511627776)&&decide (0≤m.mi∧m.mi≤1439)&&decide (1≤m.le∧m.le≤10080))
theorem BS{m:aX}(h:m.OK):oP m=ae:=by
 obtain⟨d,g,j⟩:=h;unfold oP;rw [decide_eq_true d];cases b:m.drop
 ·have:=j b;simp;omega
 ·have:=g b;simp;omega
theorem rU(m:aX):bA tab.get 34 [.a (m.row.map .f)]=Eq (vb (oP m)):=bA.eq (by
 obtain⟨g,b,q,l,j⟩:=m;refine bG rfl rfl fun Q d=>?_;apply ai;simp [aX.row];refine aq (ai ?_);simp;obtain⟨b1,x,E⟩:=fu g 0 1099511627776;obtain⟨s,y,F⟩:=fu q 0 1099511627776;obtain⟨u,z,H⟩:=fu l 0 1439;obtain⟨v,A,I⟩:=fu j 1 10080;have B:∀ b,oP ⟨g,b,q,l,j⟩=(b1&&(if b=ae then decide (q=0)&&decide (l=0)&&decide (j=0)else s&&u&&v)):=fun b=>by
  unfold oP;rw [←x,←y,←z,←A]
 rw [B]at d;clear B x y z A;cases b
 ·refine a5 (by simp) ?_;apply ai;simp [E];cases b1
  ·simp;exact aJ (d _ _ (by simp))
  simp [F];cases s
  ·simp;exact aJ (d _ _ (by simp))
  simp [H];cases u
  ·simp;exact aJ (d _ _ (by simp))
  simp [I];exact aJ (d _ _ (by simp))
 ·refine ak (by simp) ?_;apply ai;simp [E];cases b1
  ·simp;exact aJ (d _ _ (by simp))
  simp [za];refine aJ (d _ _ ?_);have e:(q == 0&&(l == 0&&j == 0))=(ae&&(if True then decide (q=0)&&decide (l=0)&&decide (j=0)else s&&u&&v)):=by
   simp [Bool.and_assoc];rfl
  simp [e])
def fX(p:Option Int):List aX→Bool
 | []=>ae| m::r=>oP m&&(match p with | none=>ae | some d=>decide (d<m.day))&&fX (aa m.day) r
theorem xS:∀ {l:List aX} {p:Option Int},oN l→(∀ m ∈ l,m.OK)→(∀ d,p=aa d→∀ m ∈ l,d<m.day)→fX p l=ae
 | [],_,_,_,_=>rfl
 | m::r,p,u,j,s=>by
  have b:=asN.1 u;simp only [fX];rw [BS (j m arU),xS b.2 (fun x g=>j x (ar0 _ g)) (fun d q x g=>by cases q;exact b.1 x g)];cases p with
  | none=>rfl| some d=>simp;exact s d rfl m arU
theorem BV{p:Option Int}{l:List aX}{j:Nat}(b:j<l.length):fX p (l.drop j)=(oP l[j]&&(match p with | none=>ae | some d=>decide (d<l[j].day))&&fX (aa l[j].day) (l.drop (j+1))):=by
 rw [ar5 b];rfl
def XG(s:bf):Bool:=decide (0≤s.mi∧s.mi≤1439)&&decide (1≤s.le∧s.le≤10080)&&decide (0≤s.cF∧s.cF≤2)&&decide (0≤s.fold∧s.fold≤2)&&decide (1≤(s.zo.size:Int)∧(s.zo.size:Int)≤32)&&!decide ((64:Int)<s.mv.length)
def vC(s:bf):Bool:=XG s&&fX ab s.mv
theorem bf.OK.sound{s:bf}(h:s.OK):vC s=ae:=by
 have g:=h.mi;have j:=h.le;have l:=h.zo;have m:=h.cF;have q:=h.fold;have u:=h.ml;unfold vC XG;rw [xS h.ms h.mo (fun d b=>by cases b)];simp;omega
theorem qI{s:bf}(hG:Good (dN s.ru))(hl:s.ru.length≤64)(S:s.mv.length≤9223372036854775807)(d6:s.zo.size≤9223372036854775807):bA tab.get 26 [s.v]=Eq (vb (vC s)):=bA.eq (by
 obtain⟨F,u⟩:=aeK s.rg hG hl;obtain⟨rg,ru,mi,le,zo,cF,fold,K,d⟩:=s;simp only at u S d6;refine bG rfl rfl fun Q W=>?_;obtain⟨b1,h1,w1⟩:=fu mi 0 1439;obtain⟨Z,h2,w2⟩:=fu le 1 10080;obtain⟨b3,h3,w3⟩:=fu cF 0 2;obtain⟨b4,h4,w4⟩:=fu fold 0 2;obtain⟨b5,h5,w5⟩:=fu zo.size 1 32;obtain⟨b6,h6⟩:∃ b,decide ((64:Int)<d.length)=b:=⟨_,rfl⟩
 obtain⟨row,B⟩:=aO (bf.row ⟨rg,ru,mi,le,zo,cF,fold,K,d⟩);have N:vC ⟨rg,ru,mi,le,zo,cF,fold,K,d⟩=(b1&&Z&&b3&&b4&&b5&&!b6&&fX ab d):=by
  unfold vC XG;rw [←h1,←h2,←h3,←h4,←h5,←h6]
 rw [N]at W;clear N h1 h2 h3 h4 h5;apply ai;simp [bf.row];refine aq (ai ?_);simp [u];apply ai;simp;refine a5 (by simp) ?_;have L:∀(t:T) H,t.g 49=vb ae→(b1&&Z&&b3&&b4&&b5&&!b6&&fX ab d)=ag→WP tab.get 26 ab [.code wW,.code wX] ⟨t,[],H⟩ Q:=by
  intro t H a8 y;refine ak a8 (ai ?_);simp;exact aJ (W _ _ (by simp [y]))
 refine aq (ai ?_);simp [w1];cases b1
 ·simp;exact L _ _ (by simp) (by simp)
 simp [w2];cases Z
 ·simp;exact L _ _ (by simp) (by simp)
 simp [w3];cases b3
 ·simp;exact L _ _ (by simp) (by simp)
 simp [w4];cases b4
 ·simp;exact L _ _ (by simp) (by simp)
 simp [w5];cases b5
 ·simp;exact L _ _ (by simp) (by simp)
 simp [h6];cases b6
 case true=>exact L _ _ (by simp) (by simp)
 clear L;refine a5 (by simp) ?_;obtain⟨H0,q⟩:=aO ([.box (row.map .f) 0]:aj);have hz:H0[0]?=aa (.box (row.map .f) 0):=by rw [q];rfl
 have e6:∀ H:aj,H[0]?=aa (.box (row.map .f) 0)→aU H ab (.c (.ptr 0 6 0))=aa (.c (.f (sl K (aI d)))):=fun H h=>by
  simp [aU,h,aC,aK,B,bf.row]
 rw [B]at q;simp only [bf.row,aft,apr]at q;rw [←q];clear q;refine aq (ai ?_);simp [e6 _ hz,-an];refine gu d.length (fun j t H=>t.g 1=.c (.ptr 0 0 0)∧t.g 51=.c (.f (sl K (aI d)))∧H[0]?=aa (.box (row.map .f) 0)∧fX ab d=fX (if h:0<j∧j-1<d.length then aa (d[j-1]'h.2).day else ab) (d.drop j)) S (by decide) (by decide) (by simp) (by simp) ⟨by simp,by simp,hz,by simp⟩ ?_ ?_
 ·rintro j t H Y ⟨M,l,h0,v⟩ X y next
  obtain⟨m,N⟩:=aO (d[j]);rw [BV Y,←N]at v;have d5:=rU m;have A:∀(H:aj) (i:Nat),i<d.length→aP H 5 ab (.c (.f (sl K (aI d)))) (vi i)=aa (.c (.f (.fp (aI d).flatten (i*5)))):=fun H i hi=>by
   have:=c5 (H:=H) (g:=K) (rows:=aI d) (sz:=5) (k:=.i64) (i:=(i:Int)) (by omega) (by simp;omega);simpa using this
  have d3:aU H (aa 5) (.c (.f (.fp (aI d).flatten (j*5))))=aa (.a (m.row.map .f)):=by rw [N];exact fM (bw d) (kJ Y)
  refine aB (ai ?_);simp [X,l,A _ _ Y,d3,aX.row];obtain⟨J,U⟩:=aO (H++[.box (m.row.map .f) 0]:aj);have jx:J[H.length]?=aa (.box (m.row.map .f) 0):=by rw [U];simp
  have j0:J[0]?=aa (.box (row.map .f) 0):=by rw [U,At (au h0)];exact h0
  simp only [aX.row,aft,apr]at U;rw [←U];have e5:aU J (aa 5) (.c (.ptr H.length 0 0))=aa (.a (m.row.map .f)):=by simp [aU,jx,aC,aK,aX.row]
  have e0:aU J ab (.c (.ptr H.length 0 0))=aa (vi m.day):=by simp [aU,jx,aC,aK,aX.row]
  have bad:∀ t:T,t.g 76=vb ae→fX ab d=ag→WP tab.get 26 ab [.code qY,.inBlock 1,.code qZ,.inLoop qX,.inBlock 0,.code rf] ⟨t,[],J⟩ Q:=by
   intro t E y;refine ak E (ai ?_);simp;exact aJ (W _ _ (by simp [y]))
  have z:∀ t:T,t.g 76=vb ag→t.g 1=.c (.ptr 0 0 0)→t.g 51=.c (.f (sl K (aI d)))→t.g 53=vi j→t.g 52=vi d.length→fX ab d=fX (aa m.day) (d.drop (j+1))→WP tab.get 26 ab [.code qY,.inBlock 1,.code qZ,.inLoop qX,.inBlock 0,.code rf] ⟨t,[],J⟩ Q:=by
   intro t E M l a_ a9 y;refine al E (aL (aw ?_));refine next _ _ ⟨by simp [M],by simp [l],j0,?_⟩ (by simp [a_]) (by simp [a9])
   rw [y,dif_pos ⟨by omega,by simpa using Y⟩];simp [N]
  apply ai;simp [e5,-an,d5];cases O:oP m
  ·rw [O]at v;simp;exact bad _ (by simp) (by rw [v];simp)
  rw [O]at v;simp;by_cases c9:j=0
  ·subst c9;simp;exact z _ (by simp) (by simp [M]) (by simp [l]) (by simp [X]) (by simp [y]) (by rw [v];simp)
  ·have hw:ah .i64 ((j:Int)-1)=((j-1:Nat):Int):=by rw [aQ];omega
   have I:j-1<d.length:=by omega
   have b_:=A J (j-1) I;have c_:aU J ab (.c (.f (.fp (aI d).flatten ((j-1)*5))))=aa (vi d[j-1].day):=by
    have:=kF (H:=J) (rows:=aI d) (j:=j-1) (sz:=5) (row:=d[j-1].row) (x:=fi d[j-1].day) (bw d) (kJ I) rfl;exact this
   rw [dif_pos ⟨by omega,I⟩]at v;simp [show 0<j by omega,e0,M,e6 _ j0,hw,b_,c_,-an];by_cases hd:d[j-1].day<m.day
   ·exact z _ (by simp;omega) (by simp [M]) (by simp [l]) (by simp [X]) (by simp [y]) (by rw [v];simp [hd])
   ·exact bad _ (by simp;omega) (by rw [v];simp [hd])
 ·rintro t H ⟨M,l,h0,v⟩ X y;have b9:fX ab d=ae:=by rw [v];simp [fX]
  apply ai;simp;exact aJ (W _ _ (by simp [b9])))
theorem ec(n lo hi:Int):bA tab.get 167 [vi n,vi lo,vi hi]=Eq (vb (decide (lo≤n∧n≤hi))):=bA.eq (by
 refine bG rfl rfl fun Q b=>?_;apply ai;simp;apply ai;by_cases h:lo≤n
 ·simp [h];exact aJ (b _ _ (by simp [h]))
 ·simp [h];exact aJ (b _ _ (by simp [h])))
theorem zF:∀ k:Nat,k<19→bA tab.get 146 [vi k]=Eq (vi (vz k))
 | 0,_=>eC (by kernel_rfl)
 | 1,_=>eC (by kernel_rfl)
 | 2,_=>eC (by kernel_rfl)
 | 3,_=>eC (by kernel_rfl)
 | 4,_=>eC (by kernel_rfl)
 | 5,_=>eC (by kernel_rfl)
 | 6,_=>eC (by kernel_rfl)
 | 7,_=>eC (by kernel_rfl)
 | 8,_=>eC (by kernel_rfl)
 | 9,_=>eC (by kernel_rfl)
 | 10,_=>eC (by kernel_rfl)
 | 11,_=>eC (by kernel_rfl)
 | 12,_=>eC (by kernel_rfl)
 | 13,_=>eC (by kernel_rfl)
 | 14,_=>eC (by kernel_rfl)
 | 15,_=>eC (by kernel_rfl)
 | 16,_=>eC (by kernel_rfl)
 | 17,_=>eC (by kernel_rfl)
 | 18,_=>eC (by kernel_rfl)
 | k+19,h=>absurd h (by omega)
theorem nV:∀ k:Nat,k<19→bA tab.get 145 [vi k]=Eq (vb (mG k))
 | 0,_=>eC (by kernel_rfl)
 | 1,_=>eC (by kernel_rfl)
 | 2,_=>eC (by kernel_rfl)
 | 3,_=>eC (by kernel_rfl)
 | 4,_=>eC (by kernel_rfl)
 | 5,_=>eC (by kernel_rfl)
 | 6,_=>eC (by kernel_rfl)
 | 7,_=>eC (by kernel_rfl)
 | 8,_=>eC (by kernel_rfl)
 | 9,_=>eC (by kernel_rfl)
 | 10,_=>eC (by kernel_rfl)
 | 11,_=>eC (by kernel_rfl)
 | 12,_=>eC (by kernel_rfl)
 | 13,_=>eC (by kernel_rfl)
 | 14,_=>eC (by kernel_rfl)
 | 15,_=>eC (by kernel_rfl)
 | 16,_=>eC (by kernel_rfl)
 | 17,_=>eC (by kernel_rfl)
 | 18,_=>eC (by kernel_rfl)
 | k+19,h=>absurd h (by omega)
theorem nK{x:bE}(h:x.OK):bA tab.get 146 [vi x.k]=Eq (vi (dQ x.k)):=by
 have d:=h.2.k;obtain⟨k,b⟩:∃ k:Nat,x.k=k:=⟨x.k.toNat,by omega⟩
 have e:=tF d.1;rw [e,b,ar4];exact zF k (by omega)
theorem EP{x:bE}(h:x.OK):bA tab.get 145 [vi x.k]=Eq (vb (mG x.k.toNat)):=by
 have d:=h.2.k;obtain⟨k,b⟩:∃ k:Nat,x.k=k:=⟨x.k.toNat,by omega⟩
 rw [b,ar4];exact nV k (by omega)
theorem BX(x:aR)(h:xk x.d.k x.d.l x.d.n x.d.m):bA tab.get 169 [.a (x.row.map .f)]=Eq (vb ae):=bA.eq (by
 obtain⟨⟨k,A,l,r,n,m,li⟩,J⟩:=x;simp only [xk]at h;refine bG rfl rfl fun Q E=>?_;have b:∀ t H,t.g 2=vb ae→WP tab.get 169 ab [.code .ret,.inBlock 0,.code tR] ⟨t,[],H⟩ Q:=fun t H I=>aJ (E _ _ (by simp [I]));apply ai;simp [aR.row];refine aq (ai ?_);simp;refine aB (ai ?_);simp;by_cases v:k=1
 ·rw [bp v]at h;refine ak (by simp [v]) (ai ?_);simp [ec,h];exact b _ _ (by simp)
 rw [aZ v]at h;refine al (by simp [v]) (ai ?_);simp;by_cases y:k=2
 ·rw [bp y]at h;refine ak (by simp [y]) (ai ?_);simp [ec,h,aQ (n:=n-1)];exact b _ _ (by simp)
 rw [aZ y]at h;refine al (by simp [y]) (ai ?_);simp;by_cases z:k=7
 ·rw [bp z]at h;refine ak (by simp [z]) (ai ?_);simp [ec,h];exact b _ _ (by simp)
 rw [aZ z]at h;refine al (by simp [z]) (ai ?_);simp;by_cases d:k=11
 ·rw [bp d]at h;refine ak (by simp [d]) (ai ?_);simp [ec,h];exact b _ _ (by simp)
 rw [aZ d]at h;refine al (by simp [d]) (aq (ai ?_));simp;have u:k=12∨k=13→∀ t,t.g 1=.c (.ptr 0 0 0)→t.g 58=vb ae→WP tab.get 169 ab [.code AD,.inBlock 0,.code tR] ⟨t,[],[.box ((aR.row ⟨⟨k,A,l,r,n,m,li⟩,J⟩).map .f) 0]⟩ Q:=by
  intro c t F B;rw [bp c]at h;refine ak B (ai ?_);simp [F,aR.row,ec,h];exact b _ _ (by simp)
 by_cases g:k=12
 ·refine ak (by simp [g]) (aL ?_);exact u (.inl g) _ (by simp) (by simp [g])
 refine al (by simp [g]) (av (.inl rfl) ?_);simp;by_cases s:k=13
 ·exact u (.inr s) _ (by simp) (by simp [s])
 rw [aZ (by omega)]at h;refine al (by simp [s]) (ai ?_);simp;by_cases j:k=16
 ·rw [bp j]at h;refine ak (by simp [j]) (ai ?_);simp [ec,h];exact b _ _ (by simp)
 rw [aZ j]at h;refine al (by simp [j]) (ai ?_);simp;by_cases q:k=17
 ·rw [bp q]at h;refine ak (by simp [q]) (ai ?_);simp [ec,h];exact b _ _ (by simp)
 rw [aZ q]at h;refine a5 (by simp [q]) ?_;refine aw (ai ?_);simp [h];exact aJ (E _ _ (by simp)))
theorem EE(g:Tg)(l:List Int)(lo hi:Int)(b:Bool)(a:l.length≤9223372036854775807)(N:l≠[])(O:l.Pairwise (· < ·))(Y:∀ x ∈ l,lo≤x∧x≤hi∧(b=ag→x≠0)) :
  bA tab.get 181 [.c (.f (sl g (ints l))),vi lo,vi hi,vb b]=Eq (vb ae):=bA.eq (by
 refine bG rfl rfl fun Q X=>?_;apply ai;simp;refine aq (ai ?_);simp;refine bV l.length (fun j t H=>t.g 0=.c (.f (sl g (ints l)))∧t.g 1=vi lo∧t.g 2=vi hi∧t.g 3=vb b) a (by decide) (by simp) ⟨by simp,by simp,by simp,by simp⟩ ?_ ?_ ?_
 ·rintro j t H L E ⟨m,u,v,q⟩ s e;simp [s,m];exact e _ ⟨by simp [m],by simp [u],by simp [v],by simp [q]⟩ (by simp [s]) (by simp)
 ·rintro j t H E ⟨m,u,v,q⟩ s h;obtain⟨b1,U,I⟩:=Y _ (IT E);obtain⟨x,S⟩:=aO (l[j]);rw [←S]at b1 U I;have B:∀ i:Nat,i<l.length→aP H 1 ab (.c (.f (sl g (ints l)))) (vi i)=aa (.c (.f (.fp (ints l).flatten i))):=fun i hi=>by
   have:=c5 (H:=H) (g:=g) (rows:=ints l) (sz:=1) (k:=.i64) (i:=(i:Int)) (by omega) (by simp;omega);simpa using this
  have z:=B j E;have A:aU H ab (.c (.f (.fp (ints l).flatten j)))=aa (vi x):=by rw [S];exact fW E
  have y:∀ t:T,t.g 0=.c (.f (sl g (ints l)))→t.g 1=vi lo→t.g 2=vi hi→t.g 3=vb b→t.g 9=vi j→t.g 56=vb ag→WP tab.get 181 ab [.code AH,.inBlock 1,.code AJ,.inLoop E6,.inBlock 0,.code AK] ⟨t,[],H⟩ Q:=by
   intro t m u v q W J;refine al J (aL (aw ?_));exact h _ _ ⟨by simp [m],by simp [u],by simp [v],by simp [q]⟩ (by simp [W])
  refine aB (ai ?_);simp [m,s,z,A,u,show¬ x<lo by omega,v,show¬ hi<x by omega];by_cases Z:j=0
  ·simp [show¬ 0<j by omega,m,s,z,A];by_cases d:x=0
   ·cases b
    ·exact absurd d (I rfl)
    ·simp [d,q];exact y _ (by simp [m]) (by simp [u]) (by simp [v]) (by simp [q]) (by simp [s]) (by simp)
   ·simp [d];exact y _ (by simp [m]) (by simp [u]) (by simp [v]) (by simp [q]) (by simp [s]) (by simp)
  ·have f:ah .i64 ((j:Int)-1)=((j-1:Nat):Int):=by rw [aQ];omega
   have c:l[j-1]<x:=by rw [S];exact ar1.1 O (j-1) j (by omega) E (by omega)
   have F:j-1<l.length:=by omega
   have K:=B (j-1) F;have M:aU H ab (.c (.f (.fp (ints l).flatten (j-1))))=aa (vi l[j-1]):=fW F;simp [show 0<j by omega,m,s,z,A,f,K,M,show¬ x≤l[j-1] by omega];by_cases d:x=0
   ·cases b
    ·exact absurd d (I rfl)
    ·simp [d,q];exact y _ (by simp [m]) (by simp [u]) (by simp [v]) (by simp [q]) (by simp [s]) (by simp)
   ·simp [d];exact y _ (by simp [m]) (by simp [u]) (by simp [v]) (by simp [q]) (by simp [s]) (by simp)
 ·rintro t H ⟨m,u,v,q⟩ s;have:=asC.2 N;apply ai;simp [m,this];exact aJ (X _ _ (by simp)))
theorem XZ{l:List Int}{lo hi:Int}(h:mY lo hi l)(b:¬ (lo=0∧hi=0)):l≠[]∧l.Pairwise (· < ·)∧∀ x ∈ l,lo≤x∧x≤hi∧(lo<0→x≠0):=by
 unfold mY at h;rwa [aZ b]at h
theorem LZ(x:aR)(k:Nat)(N:x.d.k=k)(Z:1≤k∧k≤17)(X:x.d.li.length≤61)(h:mY (Cp k) (Co k) x.d.li):bA tab.get 168 [.a (x.row.map .f)]=Eq (vb ae):=bA.eq (by
 obtain⟨⟨k',E,l,r,n,m,li⟩,L⟩:=x;simp only at N h X;subst N;refine bG rfl rfl fun Q M=>?_;have d:∀ t H,t.g 2=vb ae→WP tab.get 168 ab [.code .ret,.inBlock 0,.code tQ] ⟨t,[],H⟩ Q:=fun t H W=>aJ (M _ _ (by simp [W]));have go:∀ lo hi z,Cp k=lo→Co k=hi→¬ (lo=0∧hi=0)→(z=ag→lo<0)→bA tab.get 181 [.c (.f (sl L (ints li))),vi lo,vi hi,vb z]=Eq (vb ae):=by
  intro lo hi z F I O S;rw [F,I]at h;obtain⟨a,b,c⟩:=XZ h O;exact EE L li lo hi z (by omega) a b fun x K=>⟨(c x K).1,(c x K).2.1,fun Y=>(c x K).2.2 (S Y)⟩
 apply ai;simp [aR.row];refine aq (ai ?_);simp;refine aB (ai ?_);simp;by_cases s:k=3
 ·have:=go 1 16 ae (by rw [s];rfl) (by rw [s];rfl) (by decide) (by decide);refine ak (by simp [s]) (ai ?_);simp [this];exact d _ _ (by simp)
 refine al (by simp;omega) (ai ?_);simp;by_cases u:k=4
 ·have:=go (-40) 40 ag (by rw [u];rfl) (by rw [u];rfl) (by decide) (by decide);refine ak (by simp [u]) (ai ?_);simp [this];exact d _ _ (by simp)
 refine al (by simp;omega) (ai ?_);simp;by_cases B:k=5
 ·have:=go 0 6 ae (by rw [B];rfl) (by rw [B];rfl) (by decide) (by decide);refine ak (by simp [B]) (ai ?_);simp [this];exact d _ _ (by simp)
 refine al (by simp;omega) (ai ?_);simp;by_cases v:k=6
 ·have:=go 1 54 ae (by rw [v];rfl) (by rw [v];rfl) (by decide) (by decide);refine ak (by simp [v]) (ai ?_);simp [this];exact d _ _ (by simp)
 refine al (by simp;omega) (aq (ai ?_));simp;have A:k=14∨k=15→∀ t,t.g 1=.c (.ptr 0 0 0)→t.g 25=vb ae→WP tab.get 168 ab [.code As,.inBlock 0,.code tQ] ⟨t,[],[.box ((aR.row ⟨⟨k,E,l,r,n,m,li⟩,L⟩).map .f) 0]⟩ Q:=by
  intro c t U J;have:=go 0 1099511627776 ae (by rcases c with rfl | rfl<;>rfl) (by rcases c with rfl | rfl<;>rfl) (by decide) (by decide);refine ak J (ai ?_);simp [U,aR.row,this];exact d _ _ (by simp)
 by_cases j:k=14
 ·refine ak (by simp [j]) (aL ?_);exact A (.inl j) _ (by simp) (by simp [j])
 refine al (by simp;omega) (av (.inl rfl) ?_);simp;by_cases q:k=15
 ·exact A (.inr q) _ (by simp) (by simp [q])
 refine al (by simp;omega) (ai ?_);simp;by_cases g:k=16
 ·have:=go (-400) 400 ag (by rw [g];rfl) (by rw [g];rfl) (by decide) (by decide);refine ak (by simp [g]) (ai ?_);simp [this];exact d _ _ (by simp)
 refine al (by simp;omega) (aL ?_);have y:li=[]:=by
  have F:Cp k=0:=by simp [Cp,s,u,v,g]
  have I:Co k=0:=by simp [Co,s,u,B,v,j,q,g]
  rw [F,I]at h;simpa [mY]using h
 refine aw (ai ?_);simp [y];exact aJ (M _ _ (by simp)))
theorem Yg(x:aR)(i:Nat)(hi:i≤1000)(h:lS i x.d):bA tab.get 150 [.a (x.row.map .f),vi i]=Eq (vb ae):=bA.eq (by
 have a8:=h.ok;obtain⟨z,K⟩:=h.ok;have hk:=K.k;have E:=nK h.ok;have d:=EP h.ok;have A:=LZ x x.d.k.toNat (by omega) (by omega) z K.ZO;have B:=BX x K.num;have u:=K.er;have F:bS .neq (.c (.f (.str th))) (.c (.f (.str ⟨#[]⟩)))=aa (vb ag):=by simp [bS,Lg,th];rfl
 obtain⟨row,k⟩:=aO (x.row);refine bG rfl rfl fun Q hQ=>?_;apply ai;simp;have e:∀ n y,x.row[n]?=aa y→∀ H:aj,H=[.box (x.row.map .f) 0]→aU H ab (.c (.ptr 0 n 0))=aa (.c (.f y)):=by
  intro n y hy H l;have Y:=(By.1 hy)
  obtain⟨S,U⟩:=Y;subst l;have:(x.row.map C.f).drop n=.f y ::(x.row.map C.f).drop (n+1):=by
   rw [ar5 (by simpa using S),asU,U]
  simp only [aU,aC,asI,ar7];rw [this];rfl
 obtain⟨H,l⟩:=aO ([.box (x.row.map .f) 0]:aj);have q:=e 0 (fi x.d.k) rfl H l;have a:=e 1 (fi x.d.er) rfl H l;have c:=e 2 (fi x.d.l) rfl H l;have L:=e 3 (fi x.d.r) rfl H l;have o:=e 6 (sl x.tg (ints x.d.li)) rfl H l;have p:=e 7 (.str th) rfl H l;have r:aU H (aa 8) (.c (.ptr 0 0 0))=aa (.a (x.row.map .f)):=by rw [l];rfl
 rw [←l];clear e l;refine aq (ai ?_);simp [q,o,-an,show¬ x.d.k<1 by omega,show¬ 18<x.d.k by omega,show¬ (64:Int)<x.d.li.length by omega];refine a5 (by simp) ?_;apply ai;simp [q,-an,E];obtain⟨n,Y⟩:=aO (dQ x.d.k);have Z:=ou x.d.k;rw [←Y]at Z ⊢;have I:=aQ (n:=(i:Int)-1);have g:∀ t:T,t.g 2=.c (.ptr 0 0 0)→t.g 1=vi i→t.g 5=vi n→t.g 46=vb ag→WP tab.get 150 ab [.code Aw,.code Ax] ⟨t,[],H⟩ Q:=by
  intro t b w s M;refine al M (aL ?_);have j:∀ t:T,t.g 2=.c (.ptr 0 0 0)→t.g 65=vb ag→WP tab.get 150 ab [.code Ay,.code Az] ⟨t,[],H⟩ Q:=by
   intro t b N;refine al N (aL ?_);have m:∀ t:T,t.g 2=.c (.ptr 0 0 0)→t.g 85=vb ag→WP tab.get 150 ab [.code AA,.code AB] ⟨t,[],H⟩ Q:=by
    intro t b O;refine al O (aL ?_);refine aq (ai ?_);simp [b,q,p,-an,show¬ x.d.k=18 by omega,F];refine a5 (by simp) ?_;apply ai;simp [b,r,-an,A,B];exact aJ (hQ _ _ (by simp))
   refine aq (ai ?_);cases X:mG x.d.k.toNat
   ·rw [X]at d;have:=u.2.2 X;simp [b,q,a,-an,d,this];exact m _ (by simp [b]) (by simp)
   ·rw [X]at d;have v:decide (0≤x.d.er∧x.d.er≤2)=ae:=decide_eq_true ⟨by omega,by omega⟩;simp [b,q,a,-an,d,ec,v];exact m _ (by simp [b]) (by simp)
  refine aq (ai ?_);by_cases U:n=2
  ·have hr:=h.r2 (by omega);have v:decide (0≤x.d.r∧x.d.r≤(i:Int)-1)=ae:=decide_eq_true ⟨by omega,by omega⟩;simp [b,w,s,U,L,-an,I,ec,v];exact j _ (by simp [b]) (by simp)
  ·have hr:=h.r0 (by omega);rcases(show n=0∨n=1 by omega)with e | e
   ·rw [e]at s;simp [b,s,L,-an,hr];exact j _ (by simp [b]) (by simp)
   ·rw [e]at s;simp [b,s,L,-an,hr];exact j _ (by simp [b]) (by simp)
 refine aq (ai ?_);by_cases S:1≤n
 ·have f:=h.l1 (by omega);have v:decide (0≤x.d.l∧x.d.l≤(i:Int)-1)=ae:=decide_eq_true ⟨by omega,by omega⟩;simp [show(1:Int)≤n by omega,S,c,-an,I,ec,v,show¬ n=0 by omega];exact g _ (by simp) (by simp) (by simp) (by simp)
 ·have J:n=0:=by omega
  by_cases W:x.d.k=7
  ·simp [J,q,-an,W];exact g _ (by simp) (by simp) (by simp [J]) (by simp)
  ·have f:=h.l0 (by omega) W;simp [J,q,c,-an,W,f];exact g _ (by simp) (by simp) (by simp [J]) (by simp))
theorem xJ{K:aj}{U:List Int}{n:Nat}(m:U.length=n){o:Int}(j:0≤o)(s:o<n)(q:∀ v ∈ U,0≤v∧v≤1000){b:Nat}(p1:K[b]?=aa (.box (U.map cI) 0)) :
  ∃ u:Int,0≤u∧u≤1000∧aP K 1 ab (.c (.sl b 0 n n 0 1)) (vi o)=aa (.c (.ptr b o.toNat 0))∧aU K ab (.c (.ptr b o.toNat 0))=aa (vi u) ∧
   cE K (.ptr b o.toNat 0) [.f (fi (u+1))]=aa (K.set b (.box ((nA U o).map cI) 0)):=by
 have g:U.getD o.toNat 0=U[o.toNat]'(by omega):=by rw [asl,AT (by omega)];rfl
 have d:=q _ (IT (l:=U) (n:=o.toNat) (by omega));rw [←g]at d;refine⟨U.getD o.toNat 0,d.1,d.2,?_,?_,?_⟩
 ·simp [aP,dy,p1,j];omega
 ·have:(U.map cI).drop o.toNat=cI (U.getD o.toNat 0) ::(U.map cI).drop (o.toNat+1):=by
   rw [ar5 (by simp;omega),asU,g]
  simp only [aU,aC,p1,ar7];rw [this];rfl
 ·have:=xI (U:=U) (k:=o) j (by omega);simp only [cE,p1];rw [bp (by simp;omega)];rw [show [C.f (fi (U.getD o.toNat 0+1))]=[cI (U.getD o.toNat 0+1)] from rfl,this]
theorem LC(g:Tg){r:List aR}(hG:Good (dN r))(w:r.length≤64):bA tab.get 116 [.c (.f (sl g (aH r)))]=Eq (vb ae):=bA.eq (by
 have d5:0<r.length:=by have:=hG.pos;simpa using this
 obtain⟨n,Y⟩:=aO (r.length);refine bG rfl rfl fun Q hQ=>?_;apply ai;simp;refine aq (ai ?_);simp [←Y,show¬ (n:Int)<1 by omega,show¬ (64:Int)<n by omega];refine a5 (by simp) ?_;have M:bW n 8=ae:=cC (by omega) (by decide);have c_:∀(t:T) (H:aj),(R 16).ev t=vi n→bz t H (.cM 1 8 [fi 0] (R 16) (R 16))=aa (.c (.sl H.length 0 n n 0 1),H++[.box ((bK [] n).map cI) 0]):=by
  intro t H h;have e:(cq n [fi 0]).map C.f=(bK [] n).map cI:=by rw [yx];simp [cq]
  simp only [bz,h,dy];rw [bp ⟨by omega,asR _,by simpa using M,rfl⟩,aZ (by omega),ar4,e]
 apply ai;simp [←Y,c_];refine aq (ai ?_);simp;refine bV n (fun i t H=>∃ r',r'=(dN r).take i∧t.g 0=.c (.f (sl g (aH r)))∧t.g 3=.c (.sl 0 0 n n 0 1)∧H=[.box ((bK r' n).map cI) 0])
  (by omega) (by decide) (by simp) ⟨[],by simp,by simp,by simp,rfl⟩ ?_ ?_ ?_
 ·rintro i t H L hi ⟨r',z,d,q,rfl⟩ s J;simp [s,d,←Y];exact J _ ⟨r',z,by simp [d],by simp [q],rfl⟩ (by simp [s]) (by simp)
 ·rintro i t H hi ⟨r',z,d,q,rfl⟩ s next
  have l:i<r.length:=by omega
  have O:=hG.at_ i (by simpa using l);obtain⟨x,hx⟩:=aO (r[i]);have f:(dN r)[i]'(by simpa using l)=x.d:=by rw [hx];simp
  rw [f]at O;have d6:r'.length≤64:=by rw [z];simp;omega
  have A:pH (bK r' n) x.d 2=bK ((dN r).take (i+1)) n:=by
   rw [Gq O,z,aq8 (by simpa using l),f]
  have X:∀ v ∈ bK r' n,0≤v∧v≤128:=fun v c=>by
   obtain⟨k,hk,rfl⟩:=arS c;have:=CE r' n k (by simpa using hk);omega
  have a8:∀ v ∈ bK r' n,0≤v∧v≤1000:=fun v c=>by have:=X v c;omega
  have a9:∀ v ∈ pH (bK r' n) x.d 1,0≤v∧v≤1000:=fun v c=>by have:=z_ X 1 v c;omega
  have I:=Yg x i (by omega) O;have a:=nK O.ok;have N:∀(H:aj) (k:Nat) (y:FC),x.row[k]?=aa y→aU H ab (.c (.f (.fp (aH r).flatten (i*8+k))))=aa (.c (.f y)):=fun H k y hy=>
   zl (H:=H) (rows:=aH r) (j:=i) (sz:=8) (row:=x.row) (ed r) (by rw [hx];exact kK l) hy
  have l0:∀ H,aU H ab (.c (.f (.fp (aH r).flatten (i*8))))=aa (vi x.d.k):=fun H=>N H 0 _ rfl;have l2:∀ H,aU H ab (.c (.f (.fp (aH r).flatten (i*8+2))))=aa (vi x.d.l):=fun H=>N H 2 _ rfl;have l3:∀ H,aU H ab (.c (.f (.fp (aH r).flatten (i*8+3))))=aa (vi x.d.r):=fun H=>N H 3 _ rfl;refine aB (aq (ai ?_));simp [s,d,ej l w,js l,←hx,I];refine a5 (by simp) ?_;apply ai;simp [s,d,ej l w,l0,a];obtain⟨m,hm⟩:=aO (dQ x.d.k);have c9:=ou x.d.k;rw [←hm]at c9 ⊢;have B:∀ t:T,t.g 0=.c (.f (sl g (aH r)))→t.g 3=.c (.sl 0 0 n n 0 1)→t.g 4=vi i→t.g 5=vi m →
    WP tab.get 116 ab [.code Ao,.inBlock 1,.code Ap,.inLoop An,.inBlock 0,.code Aq] ⟨t,[],[.box ((pH (bK r' n) x.d 1).map cI) 0]⟩ Q:=by
   intro t d q g4 g5;apply ai;by_cases h2:m=2
   ·have hr:=O.r2 (by omega);have F:pH (bK r' n) x.d 2=nA (pH (bK r' n) x.d 1) x.d.r:=by
     rw [pH,bp (by omega)];rfl
    obtain⟨u,u0,u1,S,W,f3⟩:=xJ (K:=[.box ((pH (bK r' n) x.d 1).map cI) 0]) (U:=pH (bK r' n) x.d 1) (n:=n) (by simp) (o:=x.d.r) hr.1 (by omega) a9 (b:=0) rfl;simp [g5,h2];refine ak (by simp) (av (.inl rfl) ?_);simp [q,d,g4,ej l w,l3,S,W,f3,aQ (n:=u+1),-an,-bh];refine aw ?_;refine next _ _ ⟨_,rfl,by simp [d],by simp [q],?_⟩ (by simp [g4])
    rw [←A,F]
   ·have F:pH (bK r' n) x.d 2=pH (bK r' n) x.d 1:=by
     rw [pH,aZ (by omega)]
    simp [g5];refine al (by simp;omega) (aL (aw ?_));refine next _ _ ⟨_,rfl,by simp [d],by simp [q],?_⟩ (by simp [g4])
    rw [←A,F]
  refine aq (ai ?_);simp;by_cases p:1≤m
  ·have b9:=O.l1 (by omega);have E:pH (bK r' n) x.d 1=nA (bK r' n) x.d.l:=by
    rw [pH,bp (by omega)];rfl
   obtain⟨u,u0,u1,S,W,f3⟩:=xJ (K:=[.box ((bK r' n).map cI) 0]) (U:=bK r' n) (n:=n) (by simp) (o:=x.d.l) b9.1 (by omega) a8 (b:=0) rfl;refine ak (by simp;omega) (av (.inl rfl) ?_);simp [q,d,s,ej l w,l2,S,W,f3,aQ (n:=u+1),-an,-bh];have:=B;rw [E]at this;exact this _ (by simp [d]) (by simp [q]) (by simp [s]) (by simp)
  ·have E:pH (bK r' n) x.d 1=bK r' n:=by
    rw [pH,aZ (by omega)];rfl
   refine al (by simp;omega) (aL ?_);have:=B;rw [E]at this;exact this _ (by simp [d]) (by simp [q]) (by simp [s]) (by simp)
 ·rintro t H ⟨r',z,d,q,rfl⟩ s;have d3:r'=dN r:=by rw [z,arT (by simp;omega)]
  subst d3;clear z;have hU:=hG.bK;rw [show(dN r).length=n by simp [Y]]at hU;have Z:∀ k,k<n-1→(bK (dN r) n).getD k 0=1:=fun k hk=>by
   rw [asl,AT (by simp;omega)];refine hU _ ?_;rw [List.mem_take_iff_getElem];exact⟨k,by simp;omega,rfl⟩
  refine aq (ai ?_);simp;refine bV (n-1) (fun i t H=>t.g 0=.c (.f (sl g (aH r)))∧t.g 3=.c (.sl 0 0 n n 0 1)∧H=[.box ((bK (dN r) n).map cI) 0])
   (by omega) (by decide) (by simp) ⟨by simp [d],by simp [q],rfl⟩ ?_ ?_ ?_
  ·rintro i t H L hi ⟨d,q,rfl⟩ s J;simp [s,d,←Y,aQ (n:=(i:Int)+1)];refine J _ ⟨by simp [d],by simp [q],rfl⟩ (by simp [s]) ?_;simp;omega
  ·rintro i t H hi ⟨d,q,rfl⟩ s next
   have a_:∀ K:aj,K=[.box ((bK (dN r) n).map cI) 0]→aP K 1 ab (.c (.sl 0 0 n n 0 1)) (vi i)=aa (.c (.ptr 0 i 0)):=by
    rintro K rfl;simp [aP,dy];omega
   have b_:∀ K:aj,K=[.box ((bK (dN r) n).map cI) 0]→aU K ab (.c (.ptr 0 i 0))=aa (vi 1):=by
    rintro K rfl;have p:=Z i hi;rw [asl,AT (by simp;omega)]at p;have:((bK (dN r) n).map cI).drop i=cI 1 ::((bK (dN r) n).map cI).drop (i+1):=by
     rw [ar5 (by simp;omega),asU];simp at p;rw [show(bK (dN r) n)[i]'(by simp;omega)=1 from p]
    simp only [aU,aC,asI,ar7];rw [this];rfl
   obtain⟨K,hK⟩:=aO ([.box ((bK (dN r) n).map cI) 0]:aj);have S:=a_ K hK;have W:=b_ K hK;rw [←hK]at next ⊢
   refine aB (ai ?_);simp [q,s,S,W,-an];refine al (by simp) (aL (aw ?_));exact next _ _ ⟨by simp [d],by simp [q],rfl⟩ (by simp [s])
  ·rintro t H ⟨d,q,rfl⟩ s;apply ai;simp;exact aJ (hQ _ _ (by simp)))
theorem vK(g:Tg){r:List aR}(b:Good (dN r))(j:r.length≤64):bA tab.get 74 [.c (.f (sl g (aH r)))]=Eq (vb ae):=bA.eq (by
 have:=LC g b j;refine bG rfl rfl fun Q d=>?_;apply ai;simp;apply ai;simp [this];exact aJ (d _ _ (by simp)))
def iL(l:List (aR × C)):List C:=(l.map fun p=>p.1.dK p.2).flatten
theorem im(l:List (aR × C)):(iL l).length=l.length*8:=by
 induction l with
 | nil=>rfl| cons p l b=>simp only [iL,aft,List.flatten_cons,api,asc]at b ⊢;rw [b,show(p.1.dK p.2).length=8 from rfl];omega
theorem xr(l:List (aR × C))(x:aR)(c:C):iL (l++[(x,c)])=iL l++x.dK c:=by simp [iL]
def NL(J:aj)(cn:C)(l:List (aR × C)):Prop:=
 (∀ p ∈ l,LR J p.2 1 (ints p.1.d.li))∧((l=[]∧(cn=.f .aF∨cn=.f .es))∨(l≠[]∧∃ b d,cn=.sl b 0 l.length 0 d 8∧J[b]?=aa (.bM 8 (iL l) 0 d .loc)))
theorem ad_{J:aj}{c:C}{l:List Int}(h:LR J c 1 (ints l)){b:Nat}{cs:List C}{fl g:Nat}{st:Km.Os}(m:J[b]?=aa (.bM 8 cs fl g st)):a6 c≠aa b:=by
 rcases h with⟨_,rfl | rfl⟩ | ⟨_,q,j,rfl,d⟩
 ·simp [a6]
 ·simp [a6]
 ·intro e;simp [a6]at e;subst e;unfold RB at d;rw [m]at d;cases d
theorem NL.nil(J:aj):NL J (.f .es) []:=⟨by simp,.inl ⟨rfl,.inr rfl⟩⟩
theorem NL.bT{J j:aj}{cn:C}{l:List (aR × C)}(h:NL J cn l)(m:∀(i:Nat) (y:cT),J[i]?=aa y→(∀ cs fl,y≠cT.box cs fl)→j[i]?=aa y):NL j cn l:=by
 refine⟨fun p q=>(h.1 p q).bT fun i y hy hi=>m i y hy ?_,?_⟩
 ·rcases h.1 p q with⟨_,e | e⟩ | ⟨_,x,u,e,d⟩
  ·rw [e]at hi;simp [a6]at hi
  ·rw [e]at hi;simp [a6]at hi
  ·rw [e]at hi;simp [a6]at hi;subst hi;unfold RB at d;rw [d]at hy;cases hy;intro cs fl e;cases e
 ·rcases h.2 with d | ⟨g,b,s,rfl,v⟩
  ·exact .inl d
  ·exact .inr ⟨g,b,s,rfl,m _ _ v (fun cs fl e=>by cases e)⟩
theorem NL.push{J:aj}{cn:C}{l:List (aR × C)}(h:NL J cn l)(L:aj):NL (J++L) cn l:=h.bT fun i y hy _=>by rw [At (au hy)];exact hy
theorem NL.cQ{J:aj}{cn:C}{l:List (aR × C)}(h:NL J cn l){i:Nat}{cs:List C}{fl:Nat}(j:J[i]?=aa (.box cs fl)):a6 cn≠aa i:=by
 rcases h.2 with⟨_,rfl | rfl⟩ | ⟨g,b,m,rfl,d⟩
 ·simp [a6]
 ·simp [a6]
 ·intro e;simp [a6]at e;subst e;rw [j]at d;cases d
theorem NL.app{J:aj}{cn:C}{l:List (aR × C)}(h:NL J cn l)(E:l.length≤1000){x:aR}{c:C}(hc:LR J c 1 (ints x.d.li)){b1 fl1:Nat}(v:J[b1]?=aa (.box (x.dK c) fl1)) :
  ∃ m H',bU J 8 88 (.c cn) (.c (.sl b1 0 1 1 0 8))=aa (.c m,H')∧NL H' m (l++[(x,c)])∧Kb J H' cn∧(a6 m=a6 cn∨a6 m=aa J.length):=by
 have q:c4 J 8 (.c (.sl b1 0 1 1 0 8))=aa (1,x.dK c):=lk v rfl;have g:∀ p ∈ l++[(x,c)],LR J p.2 1 (ints p.1.d.li):=fun p j=>by
  rcases ar3.1 j with j | j
  ·exact h.1 p j
  ·simp at j;subst j;exact hc
 rcases h.2 with⟨rfl,z⟩ | ⟨B,b,s,rfl,u⟩
 ·have d:bW 1 88=ae:=by decide
  refine⟨.sl J.length 0 1 0 0 8,J++[.bM 8 (x.dK c) 0 0 .loc],?_,⟨fun p j=>(g p j).push _,.inr ⟨by simp,J.length,0,rfl,?_⟩⟩,⟨by simp,fun i y hy _=>by rw [At (au hy)];exact hy⟩,.inr rfl⟩
  ·rcases z with rfl | rfl<;>simp [bU,q,d]
  ·simp [iL]
 ·have d:bW (l.length+1) 88=ae:=cC (by omega) (by decide);refine⟨.sl b 0 (l.length+1) 0 (s+1) 8,J.set b (.bM 8 (iL l++x.dK c) 0 (s+1) .loc),?_,⟨fun p j=>(g p j).set (ad_ (g p j) u) _,.inr ⟨by simp,b,s+1,by simp,?_⟩⟩,⟨by simp,fun i y hy A=>?_⟩,.inl rfl⟩
  ·simp only [bU,q,u,and_self,if_true];rw [aZ (by decide),aZ (by decide),bp ⟨trivial,(im l).symm,Nat.zero_le _⟩,d];simp
  ·rw [If (au u),xr]
  ·have:b≠i:=by rintro rfl;exact A rfl
   rw [AI this];exact hy
theorem yY{J:aj}(n:Nat):∀ {l:List (aR × C)},(∀ p ∈ l,LR J p.2 1 (ints p.1.d.li))→∃ b:List aR,dN b=l.map (·.1.d)∧ba (c8 (n+1) J) (iL l)=aa (aH b).flatten
 | [],_=>⟨[],rfl,rfl⟩
 | (x,c)::l,h=>by
  obtain⟨b,m,q⟩:=yY n (l:=l) fun p s=>h p (ar0 _ s);obtain⟨g,d⟩:=(h (x,c) arU).ex (ek _) n;refine⟨⟨x.d,g⟩::b,by simp only [dN,aft];exact congrArg _ m,?_⟩;have e:iL ((x,c)::l)=x.dK c++iL l:=by simp [iL]
  rw [e];have j:ba (c8 (n+1) J) (x.dK c)=aa (aR.row ⟨x.d,g⟩):=by
   simp only [aR.dK,ba,aR.row];simp only at d;simp [d]
  have:=iu j q;rw [this];simp [aH]
theorem NL.ex{J:aj}{cn:C}{l:List (aR × C)}(h:NL J cn l)(n:Nat):∃ g,∃ d:List aR,dN d=l.map (·.1.d)∧c8 (n+2) J cn=aa (sl g (aH d)):=by
 obtain⟨d,q,v⟩:=yY n h.1;have s:d.length=l.length:=by have:=congrArg List.length q;simpa using this
 rcases h.2 with⟨rfl,rfl | rfl⟩ | ⟨m,b,y,rfl,x⟩
 ·exact⟨.nil,[],rfl,rfl⟩
 ·exact⟨.es,[],rfl,rfl⟩
 ·refine⟨.fs,d,q,?_⟩;show c8 (n+1+1) J _=_;rw [kE,x];have u:=asC.2 m;have e:(((iL l).drop 0).take (l.length*8))=iL l:=by rw [List.drop_zero,arT (by rw [im];exact OF _)]
  have j:¬ (aH d).isEmpty=ae:=by simp;intro e;subst e;simp at s;omega
  simp only [e,v,Option.map_some];rw [bp ⟨trivial,trivial,by rw [im];omega⟩,sl,aZ j,me,s]
theorem sB(n lo hi:Int):bA tab.get 31 [vi n,vi lo,vi hi]=Eq (vb (decide (lo≤n∧n≤hi))):=bA.eq (by
 refine bG rfl rfl fun Q b=>?_;apply ai;simp;apply ai;by_cases h:lo≤n
 ·simp [h];exact aJ (b _ _ (by simp [h]))
 ·simp [h];exact aJ (b _ _ (by simp [h])))
theorem dC(n lo hi:Int)(h:lo≤n∧n≤hi):bA tab.get 31 [vi n,vi lo,vi hi]=Eq (vb ae):=by rw [sB,decide_eq_true h]
theorem qM{m:aX}(h:m.OK):bA tab.get 39 [.a (m.row.map .f)]=Eq (vb ae):=bA.eq (by
 obtain⟨d,b,B,A,z⟩:=m;obtain⟨g,j,l⟩:=h;refine bG rfl rfl fun Q q=>?_;simp only at g j l;have E:=dC d 0 1099511627776 g;apply ai;simp [aX.row];refine aq (ai ?_);simp [E];refine a5 (by simp) ?_;refine aq (ai ?_);simp;cases b
 ·obtain⟨a1,s,u,v,x,y⟩:=l rfl;have F:=dC B 0 1099511627776 ⟨a1,s⟩;have H:=dC A 0 1439 ⟨u,v⟩;have I:=dC z 1 10080 ⟨x,y⟩;refine a5 (by simp) ?_;apply ai;simp [F,H,I];exact aJ (q _ _ (by simp))
 ·obtain⟨rfl,rfl,rfl⟩:=j rfl;refine ak (by simp) ?_;apply ai;simp;exact aJ (q _ _ (by simp)))
theorem nz{H:aj}{g:Tg}{b:List aX}{j:Nat}(d:j<b.length)(l:b.length≤1000):aP H 5 ab (.c (.f (sl g (aI b)))) (vi j)=aa (.c (.f (.fp (aI b).flatten (j*5)))):=by
 have:=c5 (H:=H) (g:=g) (rows:=aI b) (sz:=5) (k:=.i64) (i:=(j:Int)) (by omega) (by simp;omega);simpa using this
theorem sE{H:aj}{b:List aX}{j:Nat}(d:j<b.length):aU H (aa 5) (.c (.f (.fp (aI b).flatten (j*5))))=aa (.a (b[j].row.map .f)):=fM (bw b) (kJ d)
theorem uV{H:aj}{b:List aX}{j:Nat}(d:j<b.length):aU H ab (.c (.f (.fp (aI b).flatten (j*5))))=aa (vi b[j].day):=by
 have:=kF (H:=H) (rows:=aI b) (j:=j) (sz:=5) (row:=b[j].row) (x:=fi b[j].day) (bw b) (kJ d) rfl;exact this
theorem cR{H:aj}{b fl:Nat}{s:bf}(d:H[b]?=aa (.box (s.row.map .f) fl)) :
  aU H ab (.c (.ptr b 0 0))=aa (.c (.f (sl s.rg (aH s.ru))))∧aU H ab (.c (.ptr b 1 0))=aa (vi s.mi)∧aU H ab (.c (.ptr b 2 0))=aa (vi s.le)∧aU H ab (.c (.ptr b 3 0))=aa (.c (.f (.str s.zo))) ∧
  aU H ab (.c (.ptr b 4 0))=aa (vi s.cF)∧aU H ab (.c (.ptr b 5 0))=aa (vi s.fold)∧aU H ab (.c (.ptr b 6 0))=aa (.c (.f (sl s.mg (aI s.mv))))∧aU H (aa 7) (.c (.ptr b 0 0))=aa s.v:=by
 refine⟨?_,?_,?_,?_,?_,?_,?_,?_⟩<;>simp [aU,d,aC,aK,bf.row]
theorem gS{s:bf}(h:s.OK):bA tab.get 30 [s.v]=Eq (vb ae):=bA.eq (by
 have O:=h.ml;have wf:=vK s.rg h.ru h.rl;have Y:=dC s.mi 0 1439 h.mi;have Z:=dC s.le 1 10080 h.le;have w3:=dC s.cF 0 2 h.cF;have w4:=dC s.fold 0 2 h.fold;have hz:=h.zo;have w5:=dC s.zo.size 1 32 ⟨by omega,by omega⟩;refine bG rfl rfl fun Q K=>?_;apply ai;simp;obtain⟨H,v⟩:=aO ([.box (s.row.map .f) 0]:aj);have b0:H[0]?=aa (.box (s.row.map .f) 0):=by rw [v];rfl
 obtain⟨y,z,A,B,E,F,q,e7⟩:=cR b0;rw [←v];clear v;refine aq (ai ?_);simp [y,z,A,E,F,wf,Y,Z,w3,w4,-an];refine a5 (by simp) ?_;refine aq (ai ?_);simp [B,q,w5,-an,show¬ (64:Int)<s.mv.length by omega];refine a5 (by simp) ?_;refine aq (ai ?_);simp;refine bV s.mv.length (fun j t J=>t.g 1=.c (.ptr 0 0 0)∧J=H) (by omega) (by decide) (by simp) ⟨by simp,rfl⟩ ?_ ?_ ?_
 ·rintro j t J L l ⟨b,rfl⟩ d S;simp [d,b,q,-an];exact S _ ⟨by simp [b],rfl⟩ (by simp [d]) (by simp)
 ·rintro j t J l ⟨b,rfl⟩ d W;have X:=qM (h.mo _ (IT l));have x:=fun i (hi:i<s.mv.length)=>nz (H:=J) (g:=s.mg) hi (by omega);have m:∀ t:T,t.g 1=.c (.ptr 0 0 0)→t.g 3=vi j→t.g 76=vb ag→WP tab.get 30 ab [.code Bb,.inBlock 1,.code Bc,.inLoop Ba,.inBlock 0,.code Bd] ⟨t,[],J⟩ Q:=by
   intro t b I u;refine al u (aL (aw ?_));exact W _ _ ⟨by simp [b],rfl⟩ (by simp [I])
  refine aB (ai ?_);simp [b,q,-an,d,x j l,sE l,X];by_cases M:j=0
  ·simp [show¬ 0<j by omega];exact m _ (by simp [b]) (by simp [d]) (by simp)
  ·have U:ah .i64 ((j:Int)-1)=((j-1:Nat):Int):=by rw [aQ];omega
   have N:s.mv[j-1].day<s.mv[j].day:=ar1.1 h.ms (j-1) j (by omega) l (by omega);simp [show 0<j by omega,b,q,-an,d,x j l,uV l,U,x (j-1) (by omega),uV (show j-1<s.mv.length by omega),show¬ s.mv[j].day≤s.mv[j-1].day by omega];exact m _ (by simp [b]) (by simp [d]) (by simp)
 ·rintro t J ⟨b,rfl⟩ d;apply ai;simp;exact aJ (K _ _ (by simp)))
theorem pW(l:List aR):(dN l).length=l.length:=by simp
def bB:List C:=[.f .aF,.f (fi 0),.f (fi 0),.f (.str ⟨#[]⟩),.f (fi 0),.f (fi 0),.f .aF]
structure bf.Ad(a b:bf):Prop where
 ru:dN a.ru=dN b.ru
 mi:a.mi=b.mi
 le:a.le=b.le
 zo:a.zo=b.zo
 cF:a.cF=b.cF
 fold:a.fold=b.fold
 mv:a.mv=b.mv
theorem sx{s:bf}(hl:s.ru.length≤64)(g_:∀ x ∈ s.ru,x.d.li.length≤61)(n6:s.mv.length≤64):∃ s',bf.Ad s' s∧bA tab.get 40 [s.v]=Eq s'.v:=by
 obtain⟨rr,⟨s',hs,rfl⟩,hp⟩:∃ rr,(∃ s',bf.Ad s' s∧rr=s'.v)∧bA tab.get 40 [s.v] rr:=by
  refine bQ rfl rfl fun Q hQ=>?_;apply ai;simp;obtain⟨H,hH⟩:=aO ([.box (s.row.map .f) 0,.box [.f .aF,.f (fi 0),.f (fi 0),.f (.str ⟨#[]⟩),.f (fi 0),.f (fi 0),.f .aF] 0]:aj);have b0:H[0]?=aa (.box (s.row.map .f) 0):=by rw [hH];rfl
  have b1:H[1]?=aa (.box bB 0):=by rw [hH];rfl
  rw [←hH];clear hH;apply ai;simp;refine aq (ai ?_);simp;refine bV s.ru.length (fun i t J=>∃ cn l,t.g 1=.c (.ptr 0 0 0)∧t.g 2=.c (.ptr 1 0 0)∧t.g 3=.c cn∧NL J cn l∧(l.map (·.1))=s.ru.take i∧J[0]?=aa (.box (s.row.map .f) 0)∧J[1]?=aa (.box bB 0)) (by omega) (by decide) (by simp)
   ⟨.f .es,[],by simp,by simp,by simp,NL.nil _,by simp,b0,b1⟩ ?_ ?_ ?_
  ·rintro i t J L hi ⟨cn,l,B,M,N,hN,hl,b0,b1⟩ F W;obtain⟨e0,-⟩:=cR b0;simp [F,B,e0,-an];exact W _ ⟨cn,l,by simp [B],by simp [M],by simp [N],hN,hl,b0,b1⟩ (by simp [F]) (by simp)
  ·rintro i t J hi ⟨cn,l,B,M,N,hN,Z,b0,b1⟩ F nx;obtain⟨e0,-⟩:=cR b0;obtain⟨x,hx⟩:=aO (s.ru[i]);have n7:x.d.li.length≤61:=by rw [hx];exact g_ _ (IT hi)
   have n5:l.length=i:=by have:=congrArg List.length Z;simp at this;omega
   refine aB (ai ?_);simp [B,e0,-an,F,ej hi hl,js hi,←hx,aR.row];obtain⟨a,S⟩:=aO (J++[.box (x.row.map .f) 0]:aj);have kx:a[J.length]?=aa (.box (x.row.map .f) 0):=by rw [S];simp
   have k0:a[0]?=aa (.box (s.row.map .f) 0):=by rw [S,At (au b0)];exact b0
   have k1:a[1]?=aa (.box bB 0):=by rw [S,At (au b1)];exact b1
   have kN:NL a cn l:=by rw [S];exact hN.push _
   have kl:a.length=J.length+1:=by rw [S];simp
   have c_:=au b1;simp only [aR.row,aft,apr]at S;rw [←S];clear S;obtain⟨p,hp⟩:=aO (J.length);rw [←hp]at kx kl c_ ⊢;apply ai;simp;refine aq (ai ?_);simp;refine bV x.d.li.length (fun j t K=>∃ c,t.g 1=.c (.ptr 0 0 0)∧t.g 2=.c (.ptr 1 0 0)∧t.g 3=.c cn∧t.g 4=vi i∧t.g 5=.c (.ptr p 0 0)∧t.g 6=.c c∧LR K c 1 (ints (x.d.li.take j))∧Kb a K (.f .es)∧(∀ b,a6 c=aa b→a.length≤b)) (by omega) (by decide) (by simp)
    ⟨.f .es,by simp [B],by simp [M],by simp [N],by simp [F],by simp,by simp,.inl ⟨rfl,.inr rfl⟩,Kb.refl _ _,by simp [a6]⟩ ?_ ?_ ?_
   ·rintro j t K L w ⟨c,B,M,N,g4,r,g6,A,d,q⟩ F W;have e6:aU K ab (.c (.ptr p 6 0))=aa (.c (.f (sl x.tg (ints x.d.li)))):=by
     have:=d.2 p _ kx (by simp [a6]);simp [aU,this,aC,aK,aR.row]
    simp [F,r,e6,-an];exact W _ ⟨c,by simp [B],by simp [M],by simp [N],by simp [g4],by simp [r],by simp [g6],A,d,q⟩ (by simp [F]) (by simp)
   ·rintro j t K w ⟨c,B,M,N,g4,r,g6,A,d,q⟩ F m7;have e6:aU K ab (.c (.ptr p 6 0))=aa (.c (.f (sl x.tg (ints x.d.li)))):=by
     have:=d.2 p _ kx (by simp [a6]);simp [aU,this,aC,aK,aR.row]
    have f_:∀ H,aP H 1 ab (.c (.f (sl x.tg (ints x.d.li)))) (vi j)=aa (.c (.f (.fp (ints x.d.li).flatten j))):=fun H=>by
     have:=c5 (H:=H) (g:=x.tg) (rows:=ints x.d.li) (sz:=1) (k:=.i64) (i:=(j:Int)) (by omega) (by simp;omega);simpa using this
    obtain⟨v,hv⟩:=aO (x.d.li[j]);have h_:aU K ab (.c (.f (.fp (ints x.d.li).flatten j)))=aa (vi v):=by rw [hv];exact fW w
    obtain⟨K1,z⟩:=aO (K++[.box ([fi v].map .f) 0]:aj);have a_:LR K1 c 1 (ints (x.d.li.take j)):=by rw [z];exact A.push _
    have b9:K1[K.length]?=aa (.box ([fi v].map .f) 0):=by rw [z];simp
    obtain⟨c',H',U,a9,O,n⟩:=a_.app (ek _) (by decide) (row:=[fi v]) rfl (bytes:=8) (cC (by simp;omega) (by decide)) b9;simp only [aft,apr]at z;refine aB (av (.inl rfl) ?_);simp [r,g6,e6,-an,F,f_,h_];rw [←z];simp [U];have h:Kb a K1 (.f .es):=by
     refine⟨by have:=d.1;rw [z];simp;omega,fun i y u W=>?_⟩;rw [z,At (au (d.2 i y u W))];exact d.2 i y u W
    refine aw ?_;refine m7 _ _ ⟨c',by simp [B],by simp [M],by simp [N],by simp [g4],by simp [r],by simp,?_,?_,?_⟩ (by simp [F])
    ·rw [aq8 w,←hv];have e:ints (x.d.li.take j++[v])=ints (x.d.li.take j)++[[fi v]]:=by simp [ints]
     rw [e];exact a9
    ·refine⟨arZ h.1 O.1,fun i y u W=>O.2 i y (h.2 i y u W) fun e=>?_⟩;have:=q i e;have:=au u;omega
    ·intro b f;rcases n with e | e
     ·exact q b (by rw [←e];exact f)
     ·rw [f]at e;cases e;exact h.1
   ·rintro t K ⟨c,B,M,N,g4,r,g6,A,d,q⟩ F;rw [ar8]at A;have kp:=d.2 p _ kx (by simp [a6]);have j7:cE K (.ptr p 6 0) [c]=aa (K.set p (.box (x.dK c) 0)):=by
     simp [cE,kp,aR.row,aR.dK,over]
    have i_:a6 c≠aa p:=fun e=>by have:=q p e;omega
    obtain⟨X,I⟩:=aO (K.set p (.box (x.dK c) 0):aj);have l7:X[p]?=aa (.box (x.dK c) 0):=by rw [I];exact If (au kp)
    have d5:∀(i:Nat) (y:cT),a[i]?=aa y→i≠p→X[i]?=aa y:=fun i y u hi=>by
     rw [I,AI (Ne.symm hi)];exact d.2 i y u (by simp [a6])
    have k_:NL X cn l:=kN.bT fun i y u f=>d5 i y u (by rintro rfl;rw [kx]at u;cases u;exact f _ _ rfl);have j_:LR X c 1 (ints x.d.li):=by rw [I];exact A.set i_ _
    have e8:aU X (aa 8) (.c (.ptr p 0 0))=aa (.a (x.dK c)):=by simp [aU,l7,aC,aK,aR.dK]
    apply ai;simp [g6,r,j7,-bh];rw [←I];obtain⟨Y,E⟩:=aO (X++[.box (x.dK c) 0]:aj);have b_:NL Y cn l:=by rw [E];exact k_.push _
    have l_:LR Y c 1 (ints x.d.li):=by rw [E];exact j_.push _
    have m4:Y[X.length]?=aa (.box (x.dK c) 0):=by rw [E];simp
    have o:∀(i:Nat) (y:cT),a[i]?=aa y→i≠p→Y[i]?=aa y:=fun i y u hi=>by
     have:=d5 i y u hi;rw [E,At (au this)];exact this
    obtain⟨d7,H',U,d_,O,n⟩:=b_.app (by omega) l_ m4;have f9:(x.dK c).length=8:=rfl;refine av (.inl rfl) ?_;simp [N,r,e8,-an,f9];rw [←E];simp [U];refine aw ?_;refine nx _ _ ⟨d7,l++[(x,c)],by simp [B],by simp [M],by simp,d_,?_,?_,?_⟩ (by simp [g4])
    ·rw [List.map_append,Z,aq8 hi,←hx];rfl
    ·exact O.2 0 _ (o 0 _ k0 (by omega)) (b_.cQ (o 0 _ k0 (by omega)))
    ·exact O.2 1 _ (o 1 _ k1 (by omega)) (b_.cQ (o 1 _ k1 (by omega)))
  ·rintro t J ⟨cn,l,B,M,N,hN,Z,b0,b1⟩ F;rw [ar8]at Z;apply ai;simp;refine aq (ai ?_);simp;refine bV s.mv.length (fun j t K=>∃ c,t.g 1=.c (.ptr 0 0 0)∧t.g 2=.c (.ptr 1 0 0)∧t.g 3=.c cn∧t.g 8=.c c∧LR K c 5 (aI (s.mv.take j))∧Kb J K (.f .es)∧(∀ b,a6 c=aa b→J.length≤b)) (by omega) (by decide) (by simp)
    ⟨.f .es,by simp [B],by simp [M],by simp [N],by simp,.inl ⟨rfl,.inr rfl⟩,Kb.refl _ _,by simp [a6]⟩ ?_ ?_ ?_
   ·rintro j t K L w ⟨c,B,M,N,g8,A,d,q⟩ F W;obtain⟨-,-,-,-,-,-,e6,-⟩:=cR (d.2 0 _ b0 (by simp [a6]));simp [F,B,e6,-an];exact W _ ⟨c,by simp [B],by simp [M],by simp [N],by simp [g8],A,d,q⟩ (by simp [F]) (by simp)
   ·rintro j t K w ⟨c,B,M,N,g8,A,d,q⟩ F nx;obtain⟨-,-,-,-,-,-,e6,-⟩:=cR (d.2 0 _ b0 (by simp [a6]));obtain⟨m,hm⟩:=aO (s.mv[j]);obtain⟨K1,z⟩:=aO (K++[.box (m.row.map .f) 0]:aj);have a_:LR K1 c 5 (aI (s.mv.take j)):=by rw [z];exact A.push _
    have b9:K1[K.length]?=aa (.box (m.row.map .f) 0):=by rw [z];simp
    obtain⟨c',H',U,a9,O,n⟩:=a_.app (bw _) (by decide) (row:=m.row) rfl (bytes:=40) (cC (by simp;omega) (by decide)) b9;simp only [aX.row,aft,apr]at z;refine aB (av (.inl rfl) ?_);simp [B,g8,e6,-an,F,nz w (by omega),sE w,←hm,aX.row];rw [←z];simp [U];have h:Kb J K1 (.f .es):=by
     refine⟨by have:=d.1;rw [z];simp;omega,fun i y u W=>?_⟩;rw [z,At (au (d.2 i y u W))];exact d.2 i y u W
    refine aw ?_;refine nx _ _ ⟨c',by simp [B],by simp [M],by simp [N],by simp,?_,?_,?_⟩ (by simp [F])
    ·rw [aq8 w,←hm];have e:aI (s.mv.take j++[m])=aI (s.mv.take j)++[m.row]:=by simp [aI]
     rw [e];exact a9
    ·refine⟨arZ h.1 O.1,fun i y u W=>O.2 i y (h.2 i y u W) fun e=>?_⟩;have:=q i e;have:=au u;omega
    ·intro b f;rcases n with e | e
     ·exact q b (by rw [←e];exact f)
     ·rw [f]at e;cases e;exact h.1
   ·rintro t K ⟨c,B,M,N,g8,A,d,q⟩ F;rw [ar8]at A;have k0:=d.2 0 _ b0 (by simp [a6]);have k1:=d.2 1 _ b1 (by simp [a6]);have c_:=au b1;have m9:cE K (.ptr 0 0 0) [cn]=aa (K.set 0 (.box [cn,cI s.mi,cI s.le,.f (.str s.zo),cI s.cF,cI s.fold,.f (sl s.mg (aI s.mv))] 0)):=by
     simp [cE,k0,bf.row,over]
    obtain⟨X,I⟩:=aO (K.set 0 (.box [cn,cI s.mi,cI s.le,.f (.str s.zo),cI s.cF,cI s.fold,.f (sl s.mg (aI s.mv))] 0):aj);have d3:X[0]?=aa (.box [cn,cI s.mi,cI s.le,.f (.str s.zo),cI s.cF,cI s.fold,.f (sl s.mg (aI s.mv))] 0):=by rw [I];exact If (au k0)
    have m_:cE X (.ptr 0 6 0) [c]=aa (X.set 0 (.box [cn,cI s.mi,cI s.le,.f (.str s.zo),cI s.cF,cI s.fold,c] 0)):=by
     simp [cE,d3,over]
    obtain⟨Y,E⟩:=aO (X.set 0 (.box [cn,cI s.mi,cI s.le,.f (.str s.zo),cI s.cF,cI s.fold,c] 0):aj);have l9:Y[0]?=aa (.box [cn,cI s.mi,cI s.le,.f (.str s.zo),cI s.cF,cI s.fold,c] 0):=by rw [E];exact If (au d3)
    have d6:Y[1]?=aa (.box bB 0):=by rw [E,AI (by decide),I,AI (by decide)];exact k1
    have e7:aU Y (aa 7) (.c (.ptr 0 0 0))=aa (.a [cn,cI s.mi,cI s.le,.f (.str s.zo),cI s.cF,cI s.fold,c]):=by simp [aU,l9,aC,aK]
    have n4:cE Y (.ptr 1 0 0) [cn,cI s.mi,cI s.le,.f (.str s.zo),cI s.cF,cI s.fold,c]=aa (Y.set 1 (.box [cn,cI s.mi,cI s.le,.f (.str s.zo),cI s.cF,cI s.fold,c] 0)):=by
     simp [cE,d6,over,bB]
    obtain⟨K4,a8⟩:=aO (Y.set 1 (.box [cn,cI s.mi,cI s.le,.f (.str s.zo),cI s.cF,cI s.fold,c] 0):aj);have m6:K4[1]?=aa (.box [cn,cI s.mi,cI s.le,.f (.str s.zo),cI s.cF,cI s.fold,c] 0):=by rw [a8];exact If (au d6)
    have up:∀(i:Nat) (y:cT),K[i]?=aa y→i≠0→i≠1→K4[i]?=aa y:=fun i y u h0 h=>by
     rw [a8,AI (Ne.symm h),E,AI (Ne.symm h0),I,AI (Ne.symm h0)];exact u
    have e_:NL K4 cn l:=hN.bT fun i y u f=>up i y (d.2 i y u (by simp [a6])) (by rintro rfl;rw [b0]at u;cases u;exact f _ _ rfl) (by rintro rfl;rw [b1]at u;cases u;exact f _ _ rfl);have d9:LR K4 c 5 (aI s.mv):=A.bT fun i y u hi=>up i y u (by rintro rfl;have:=q 0 hi;omega) (by rintro rfl;have:=q 1 hi;omega);obtain⟨g',l',hd,j8⟩:=e_.ex 62;obtain⟨c9,j9⟩:=d9.ex (bw _) 63;apply ai;simp [B,N,m9,-bh];rw [←I];apply ai;simp [B,g8,m_,-bh];rw [←E];apply ai;simp [B,M,e7,n4,-bh,-an];rw [←a8];have d8:aU K4 (aa 7) (.c (.ptr 1 0 0))=aa (.a [cn,cI s.mi,cI s.le,.f (.str s.zo),cI s.cF,cI s.fold,c]):=by simp [aU,m6,aC,aK]
    refine aJ (hQ _ _ _ ⟨⟨g',l',s.mi,s.le,s.zo,s.cF,s.fold,c9,s.mv⟩,⟨?_,rfl,rfl,rfl,rfl,rfl,rfl⟩,rfl⟩ ⟨rfl,.a [cn,cI s.mi,cI s.le,.f (.str s.zo),cI s.cF,cI s.fold,c],?_,?_⟩)
    ·show dN l'=dN s.ru;rw [hd,←Z];simp
    ·simp [Km.results,bs,ba,M,d8,-an]
    ·have d1:c8 deep K4 cn=aa (sl g' (aH l')):=j8;have d2:c8 deep K4 c=aa (sl c9 (aI s.mv)):=j9;simp [fJ,bO,ba,d1,d2,bf.row]
 exact⟨s',hs,hp.eq⟩
def bf.dK(s:bf)(c:C):List C:=[.f (sl s.rg (aH s.ru)),cI s.mi,cI s.le,.f (.str s.zo),cI s.cF,cI s.fold,c]
structure OvI(s q:bf)(m:aX)(J:aj)(acc:List aX)(c:C):Prop where
 b0:J[0]?=aa (.box (s.row.map .f) 0)
 b1:J[1]?=aa (.box (m.row.map .f) 0)
 b2:J[2]?=aa (.box bB 0)
 b3:J[3]?=aa (.box (q.dK c) 0)
 lr:LR J c 5 (aI acc)
 cb:∀ b,a6 c=aa b→4≤b
theorem kW(l:List aX)(x:aX):aI (l++[x])=aI l++[x.row]:=by simp [aI]
theorem OvI.app{s q:bf}{m:aX}{J:aj}{d:List aX}{c:C}(h:OvI s q m J d c)(N:d.length≤1000)(x:aX) :
  ∃ j H' l,bU (J++[.box (x.row.map .f) 0]) 5 40 (.c c) (.c (.sl J.length 0 1 1 0 5))=aa (.c j,H')∧cE H' (.ptr 3 6 0) [j]=aa l∧OvI s q m l (d++[x]) j:=by
 obtain⟨K,v⟩:=aO (J++[.box (x.row.map .f) 0]:aj);have up:∀ {i:Nat} {y:cT},J[i]?=aa y→K[i]?=aa y:=fun {i y} hy=>by rw [v,At (au hy)];exact hy
 have M:LR K c 5 (aI d):=by rw [v];exact h.lr.push _
 have A:K[J.length]?=aa (.box (x.row.map .f) 0):=by rw [v];simp
 have I:=au h.b3;have L:K.length=J.length+1:=by rw [v];simp
 obtain⟨j,H',z,E,g,F⟩:=M.app (bw _) (by decide) (row:=x.row) rfl (bytes:=40) (cC (by simp;omega) (by decide)) A;have B:∀ i,i<4→a6 c≠aa i:=fun i hi e=>by have:=h.cb i e;omega
 have u:∀ b,a6 j=aa b→4≤b:=fun b A=>by
  rcases F with e | e
  ·exact h.cb b (by rw [←e];exact A)
  ·rw [A]at e;cases e;omega
 have H:=g.2 3 _ (up h.b3) (B 3 (by decide));refine⟨j,H',H'.set 3 (.box (q.dK j) 0),by rw [←v];exact z,by simp [cE,H,bf.dK,over],⟨?_,?_,?_,?_,?_,u⟩⟩
 ·rw [AI (by decide)];exact g.2 0 _ (up h.b0) (B 0 (by decide))
 ·rw [AI (by decide)];exact g.2 1 _ (up h.b1) (B 1 (by decide))
 ·rw [AI (by decide)];exact g.2 2 _ (up h.b2) (B 2 (by decide))
 ·exact If (au H)
 ·rw [kW];exact E.set (fun e=>by have:=u 3 e;omega) _
theorem OvI.lds{s q:bf}{m:aX}{J:aj}{b:List aX}{c:C}(h:OvI s q m J b c) :
  aU J ab (.c (.ptr 3 6 0))=aa (.c c)∧aU J ab (.c (.ptr 0 6 0))=aa (.c (.f (sl s.mg (aI s.mv))))∧aU J ab (.c (.ptr 1 0 0))=aa (vi m.day)∧aU J (aa 5) (.c (.ptr 1 0 0))=aa (.a (m.row.map .f)):=by
 have g:=h.b0;have d:=h.b1;have j:=h.b3;refine⟨?_,?_,?_,?_⟩
 ·simp [aU,j,aC,aK,bf.dK]
 ·simp [aU,g,aC,aK,bf.row]
 ·simp [aU,d,aC,aK,aX.row]
 ·simp [aU,d,aC,aK,aX.row]
theorem fT{b:Type}(p:b→Bool)(l:List b):(l.filter p).length≤l.length:=List.length_filter_le p l
theorem oQ{s:bf}(h:s.OK)(d6:s.mv.length≤60){m:aX}(hm:m.OK) :
  ∃ q,bf.Ad q ⟨s.rg,s.ru,s.mi,s.le,s.zo,s.cF,s.fold,s.mg,qy s.mv m⟩∧bA tab.get 7 [s.v,.a (m.row.map .f)]=Eq (.t [q.v,vi 0]):=by
 have a8:=gS h;have e_:=qM hm;obtain⟨q,hq,Z⟩:=sx (s:=s) h.rl (fun x Y=>by
  obtain⟨i,hi,rfl⟩:=arS Y;have:=(h.ru.at_ i (by simpa using hi)).ok.1;simpa using this) h.ml
 obtain⟨rr,⟨q',d9,rfl⟩,hp⟩:∃ rr,(∃ q',bf.Ad q' ⟨s.rg,s.ru,s.mi,s.le,s.zo,s.cF,s.fold,s.mg,qy s.mv m⟩∧rr=.t [q'.v,vi 0])∧bA tab.get 7 [s.v,.a (m.row.map .f)] rr:=by
  refine bQ rfl rfl fun Q hQ=>?_;apply ai;simp;obtain⟨H,hH⟩:=aO ([.box (s.row.map .f) 0,.box (m.row.map .f) 0,.box bB 0]:aj);have b0:H[0]?=aa (.box (s.row.map .f) 0):=by rw [hH];rfl
  have b1:H[1]?=aa (.box (m.row.map .f) 0):=by rw [hH];rfl
  have b2:H[2]?=aa (.box bB 0):=by rw [hH];rfl
  have hl:H.length=3:=by rw [hH];rfl
  simp only [bB]at hH;rw [←hH];clear hH;obtain⟨-,-,-,-,-,-,-,e7⟩:=cR b0;have e5:aU H (aa 5) (.c (.ptr 1 0 0))=aa (.a (m.row.map .f)):=by simp [aU,b1,aC,aK,aX.row]
  refine aq (ai ?_);simp [e7,e5,-an,a8,e_];refine a5 (by simp) ?_;apply ai;have d_:q.row.length=7:=rfl;simp [e7,-an,Z,d_,hl];obtain⟨K,hK⟩:=aO (H++[.box (q.row.map .f) 0]:aj);have up:∀ {i:Nat} {y:cT},H[i]?=aa y→K[i]?=aa y:=fun {i y} hy=>by rw [hK,At (au hy)];exact hy
  have k3:K[3]?=aa (.box (q.row.map .f) 0):=by rw [hK,arY (by omega),hl];rfl
  rw [←hK];have b9:cE K (.ptr 3 6 0) [.f .aF]=aa (K.set 3 (.box (q.dK (.f .aF)) 0)):=by simp [cE,k3,bf.row,bf.dK,over]
  have hO:OvI s q m (K.set 3 (.box (q.dK (.f .aF)) 0)) [] (.f .aF):=⟨by rw [AI (by decide)];exact up b0,by rw [AI (by decide)];exact up b1,by rw [AI (by decide)];exact up b2,If (au k3),.inl ⟨rfl,.inl rfl⟩,fun b hb=>by simp [a6]at hb⟩
  obtain⟨J0,c9⟩:=aO (K.set 3 (.box (q.dK (.f .aF)) 0):aj);rw [←c9]at hO b9;clear c9 k3 hK up Z a8 e7 e5 b0 b1 b2 hl;apply ai;simp [b9,-bh];clear b9;refine aq (ai ?_);simp;have ix:=fun(H:aj) i (hi:i<s.mv.length)=>nz (H:=H) (g:=s.mg) hi (by omega);refine bV s.mv.length (fun j t J=>∃ c,t.g 2=.c (.ptr 0 0 0)∧t.g 3=.c (.ptr 1 0 0)∧t.g 4=.c (.ptr 2 0 0)∧t.g 6=.c (.ptr 3 0 0)∧OvI s q m J ((s.mv.take j).filter fun x=>decide (x.day<m.day)) c) (by omega) (by decide) (by simp)
   ⟨.f .aF,by simp,by simp,by simp,by simp,by simpa using hO⟩ ?_ ?_ ?_
  ·rintro j t J L M ⟨c,v,E,F,z,d⟩ A hn;obtain⟨X,W,l3,l4⟩:=d.lds;simp [A,v,W,-an];exact hn _ ⟨c,by simp [v],by simp [E],by simp [F],by simp [z],d⟩ (by simp [A]) (by simp)
  ·rintro j t J M ⟨c,v,E,F,z,d⟩ A nx;obtain⟨X,W,l3,l4⟩:=d.lds;have U:((s.mv.take j).filter fun x=>decide (x.day<m.day)).length≤1000:=arZ (fT _ _) (by simp;omega);obtain⟨x,Y⟩:=aO (s.mv[j]);have S:=sE (H:=J) M;have B:=uV (H:=J) M;rw [←Y]at S B;have u:(s.mv.take (j+1)).filter (fun x=>decide (x.day<m.day))=(s.mv.take j).filter (fun x=>decide (x.day<m.day))++if x.day<m.day then [x]else []:=by
    rw [aq8 M,←Y,asu]
    congr 1
    by_cases I:x.day<m.day<;>simp [I]
   refine aB (ai ?_);simp [v,E,W,l3,-an,A,ix _ j M,B];by_cases I:x.day<m.day
   ·rw [bp I]at u;obtain⟨c',H',b_,l,N,O⟩:=d.app U x;simp only [aX.row,aft,apr]at l;refine ak (by simp [I]) (av (.inl rfl) ?_);simp [v,z,X,W,-an,A,ix _ j M,S,aX.row,l,N,-bh];refine aw ?_;refine nx _ _ ⟨c',by simp [v],by simp [E],by simp [F],by simp [z],by rw [u];exact O⟩ (by simp [A])
   ·rw [aZ I,ast]at u;refine al (by simp [I]) (aL (aw ?_));refine nx _ _ ⟨c,by simp [v],by simp [E],by simp [F],by simp [z],by rw [u];exact d⟩ (by simp [A])
  ·rintro t J ⟨c,v,E,F,z,d⟩ A;rw [ar8]at d;obtain⟨F1,a9⟩:=aO (s.mv.filter fun x=>decide (x.day<m.day));rw [←a9]at d;have g_:F1.length≤60:=by rw [a9];exact arZ (fT _ _) d6
   obtain⟨X,W,l3,l4⟩:=d.lds;obtain⟨c',H',b_,l,N,O⟩:=d.app (by omega) m;have d7:(m.row.map C.f).length=5:=rfl;apply ai;simp [E,z,X,l4,-an,d7,l,N,-bh];clear X W l3 l4 l N d;refine aq (ai ?_);simp;refine bV s.mv.length (fun j t J=>∃ c,t.g 2=.c (.ptr 0 0 0)∧t.g 3=.c (.ptr 1 0 0)∧t.g 4=.c (.ptr 2 0 0)∧t.g 6=.c (.ptr 3 0 0)∧OvI s q m J (F1++[m]++(s.mv.take j).filter fun x=>decide (m.day<x.day)) c) (by omega) (by decide) (by simp)
    ⟨c',by simp [v],by simp [E],by simp [F],by simp [z],by simpa using O⟩ ?_ ?_ ?_
   ·rintro j t J L M ⟨c,v,E,F,z,d⟩ A hn;obtain⟨X,W,l3,l4⟩:=d.lds;simp [A,v,W,-an];exact hn _ ⟨c,by simp [v],by simp [E],by simp [F],by simp [z],d⟩ (by simp [A]) (by simp)
   ·rintro j t J M ⟨c,v,E,F,z,d⟩ A nx;obtain⟨X,W,l3,l4⟩:=d.lds;have U:(F1++[m]++(s.mv.take j).filter fun x=>decide (m.day<x.day)).length≤1000:=by
     have:=fT (fun x:aX=>decide (m.day<x.day)) (s.mv.take j);have:(s.mv.take j).length≤60:=by simp;omega
     simp only [api,asH];omega
    obtain⟨x,Y⟩:=aO (s.mv[j]);have S:=sE (H:=J) M;have B:=uV (H:=J) M;rw [←Y]at S B;have u:F1++[m]++(s.mv.take (j+1)).filter (fun x=>decide (m.day<x.day))=F1++[m]++(s.mv.take j).filter (fun x=>decide (m.day<x.day))++if m.day<x.day then [x]else []:=by
     rw [aq8 M,←Y,asu,←asF]
     congr 1
     by_cases I:m.day<x.day<;>simp [I]
    refine aB (ai ?_);simp [v,E,W,l3,-an,A,ix _ j M,B];by_cases I:m.day<x.day
    ·rw [bp I]at u;obtain⟨c',H',b_,l,N,O⟩:=d.app U x;simp only [aX.row,aft,apr]at l;refine ak (by simp [I]) (av (.inl rfl) ?_);simp [v,z,X,W,-an,A,ix _ j M,S,aX.row,l,N,-bh];refine aw ?_;refine nx _ _ ⟨c',by simp [v],by simp [E],by simp [F],by simp [z],by rw [u];exact O⟩ (by simp [A])
    ·rw [aZ I,ast]at u;refine al (by simp [I]) (aL (aw ?_));refine nx _ _ ⟨c,by simp [v],by simp [E],by simp [F],by simp [z],by rw [u];exact d⟩ (by simp [A])
   ·rintro t J ⟨c,v,E,F,z,d⟩ A;rw [ar8]at d;have d8:F1++[m]++s.mv.filter (fun x=>decide (m.day<x.day))=qy s.mv m:=by rw [a9];simp [qy]
    rw [d8]at d;have h_:=zG (m:=m) h.ms;obtain⟨X,-,-,-⟩:=d.lds;have e3:aU J (aa 7) (.c (.ptr 3 0 0))=aa (.a (q.dK c)):=by
     have:=d.b3;simp [aU,this,aC,aK,bf.dK]
    have c_:=d.b2;have f_:cE J (.ptr 2 0 0) (q.dK c)=aa (J.set 2 (.box (q.dK c) 0)):=by simp [cE,c_,bB,over,bf.dK]
    have d5:=d.lr.len;have d3:(q.dK c).length=7:=rfl;refine aq (ai ?_);simp [z,X,-an,d5,show¬ (64:Int)<(qy s.mv m).length by omega];refine a5 (by simp) ?_;apply ai;simp [z,F,e3,f_,-an,-bh,d3];obtain⟨Jf,a_⟩:=aO (J.set 2 (.box (q.dK c) 0):aj);rw [←a_];have hL:LR Jf c 5 (aI (qy s.mv m)):=by rw [a_];exact d.lr.set (fun e=>by have:=d.cb 2 e;omega) _
    obtain⟨g',Y⟩:=hL.ex (bw _) 63;have f9:c8 deep Jf c=aa (sl g' (aI (qy s.mv m))):=Y;have e2:aU Jf (aa 7) (.c (.ptr 2 0 0))=aa (.a (q.dK c)):=by
     have:Jf[2]?=aa (.box (q.dK c) 0):=by rw [a_];exact If (au c_)
     simp [aU,this,aC,aK,bf.dK]
    refine aJ (hQ _ _ _ ⟨⟨q.rg,q.ru,q.mi,q.le,q.zo,q.cF,q.fold,g',qy s.mv m⟩,⟨hq.ru,hq.mi,hq.le,hq.zo,hq.cF,hq.fold,rfl⟩,rfl⟩ ⟨rfl,.t [.a (q.dK c),vi 0],?_,?_⟩)
    ·simp [Km.results,bs,ba,F,e2,-an]
    ·simp [fJ,bO,ba,f9,bf.row,bf.dK]
 exact⟨q',d9,hp.eq⟩
inductive dM:List bC→List bC→Prop
 | nil:dM [] []
 | step {r o o' t}:dM r o→Di t o o'→dM (r++[t]) o'
def ZL(a b:bC):Prop:=a.at_≤b.at_
def ZM(a b:bC):Prop:=a.at_<b.at_
theorem Di.perm{t:bC}{l o:List bC}(h:Di t l o):o.Perm (l++[t]):=by
 obtain⟨A,B,rfl,rfl,-,-⟩:=h;exact List.perm_middle.trans (List.perm_append_singleton t (A++B)).symm
theorem Di.sorted{t:bC}{l o:List bC}(h:Di t l o)(s:l.Pairwise ZL):o.Pairwise ZL:=by
 obtain⟨A,B,rfl,rfl,y,x⟩:=h;rw [asX]at s ⊢;obtain⟨m,u,v⟩:=s;have q:∀ a ∈ A,a.at_≤t.at_:=by
  intro a d;cases j:A.getLast? with
  | none=>simp at j;subst j;cases d
  | some z=>
   have E:=x z j;obtain⟨F,e⟩:=List.getLast?_eq_some_iff.1 j;rw [e,asX]at m;rw [e]at d;rcases ar3.1 d with d | d
   ·have:=m.2.2 a d z (by simp);unfold ZL at this;omega
   ·have:a=z:=by simpa using d
    rw [this];exact E
 refine⟨m,asN.2 ⟨fun b g=>?_,u⟩,fun a d b g=>?_⟩
 ·have:=y b g;unfold ZL;omega
 ·rcases ass.1 g with rfl | g
  ·exact q a d
  ·exact v a d b g
theorem dM.perm:∀ {r o:List bC},dM r o→o.Perm r
 | _,_,.nil=>List.Perm.refl _| _,_,.step h b=>b.perm.trans ((dM.perm h).append_right _)
theorem dM.sorted:∀ {r o:List bC},dM r o→o.Pairwise ZL
 | _,_,.nil=>List.Pairwise.nil| _,_,.step h b=>b.sorted (dM.sorted h)
theorem dM.len{r o:List bC}(h:dM r o):o.length=r.length:=h.perm.length_eq
theorem nR:∀ {a b:List bC},a.Pairwise ZM→b.Pairwise ZL→b.Perm a→b=a
 | [],b,_,_,h=>h.eq_nil| x::a,[],_,_,h=>by cases h.symm.eq_nil
 | x::a,y::b,d,g,h=>by
  rw [asN]at d g;have l:y=x:=by
   have m:y ∈ x::a:=h.subset (arU ..);have j:x ∈ y::b:=h.symm.subset (arU ..);rcases ass.1 m with e | m
   ·exact e
   ·rcases ass.1 j with e | j
    ·exact e.symm
    ·have q:=d.1 y m;have s:=g.1 x j;unfold ZM at q;unfold ZL at s;omega
  subst l;rw [nR d.2 g.2 (h.cons_inv)]
def dP(o:List bC)(size:Int)(i:Nat):Int:=match o[i+1]? with
 | some y=>y.at_| none=>(match o[0]? with | some y=>y.at_ | none=>0)+size
def lL(o:List bC)(size:Int)(n:Nat):Bool:=(List.range n).all fun i=>match o[i]? with
 | some x=>decide (2160≤dP o size i-x.at_)| none=>ae
def c6(o:List bC)(size:Int):Bool:=lL o size o.length
theorem yv{o:List bC}{size:Int}(h:c6 o size=ae):∀ i x y,o[i]?=aa x→o[i+1]?=aa y→x.at_+2160≤y.at_:=by
 intro i x y d g;unfold c6 lL at h;have b:=arX.1 h i (by have:=(By.1 d).1;simpa using this);simp only [d,dP,g]at b;have:=of_decide_eq_true b;omega
theorem oE:∀ {o:List bC},(∀ i x y,o[i]?=aa x→o[i+1]?=aa y→x.at_+2160≤y.at_)→o.Pairwise ZM
 | [],_=>List.Pairwise.nil| [x],_=>List.pairwise_singleton _ _
 | x::y::l,h=>by
  have g:=oE (o:=y::l) fun i a b j m=>h (i+1) a b (by simpa using j) (by simpa using m);have q:x.at_+2160≤y.at_:=h 0 x y (by simp) (by simp);refine asN.2 ⟨fun z d=>?_,g⟩;unfold ZM;rcases ass.1 d with rfl | d
  ·omega
  ·have:=(asN.1 g).1 z d;unfold ZM at this;omega
theorem hV{o:List bC}{size:Int}(h:c6 o size=ae):o.Pairwise ZM:=oE (yv h)
def Lu:Nat→Int
 | 0=>2| _=>5
def kr(c:Nat):Nat→Int
 | 0=>Lu c| y+1=>kr c y+(sk c (y+1):Nat)
def nY:Nat→Nat
 | 0=>7| _=>14
def cyc(c:Nat):Int:=7*(jk c:Nat)
theorem yS{c:Nat}(b:c<3):kr c (nY c)=Lu c+cyc c:=by
 have:c=0∨c=1∨c=2:=by omega
 rcases this with rfl | rfl | rfl<;>decide
theorem CM(c y:Nat):12≤sk c y:=by
 have b:=qo c y 1;have d:=qo c y 2;unfold sk;omega
theorem yT(c:Nat){y b:Nat}(h:y<b):kr c y<kr c b:=by
 induction h with
 | refl=>have:=CM c (y+1);simp only [kr];omega| step _ d=>rename_i m _;have:=CM c (m+1);simp only [kr]at *;omega
theorem uo{c y:Nat}(g:c<3)(j:y≤nY c):2≤kr c y∧kr c y≤222:=by
 have d:kr c 0≤kr c y:=by
  rcases asq y with rfl | h
  ·exact asR _
  ·exact Int.le_of_lt (yT c h)
 have b:kr c y≤kr c (nY c):=by
  rcases Nat.lt_or_eq_of_le j with h | rfl
  ·exact Int.le_of_lt (yT c h)
  ·exact asR _
 rw [yS g]at b;have:c=0∨c=1∨c=2:=by omega
 rcases this with rfl | rfl | rfl<;>simp [kr,Lu,cyc,jk]at d b<;>omega
def en(c y:Nat)(r q:ey):List bC:=
 let b:=kr c (y-1)
 if gJ (pF c y b r) (qP c y r) r.wk r.wd then [⟨kS (pF c y b r) (qP c y r) r.wk r.wd*1440+r.mi-q.off,r.off⟩]else []
def oJ(c:Nat)(r q:ey):Nat→List bC
 | 0=>[]| n+1=>oJ c r q n++(en c (n+1) r q++en c (n+1) q r)
theorem ka(c y:Nat)(r q:ey):(en c y r q).length≤1:=by simp only [en];split<;>simp
theorem kg(c:Nat)(r q:ey):∀ n,(oJ c r q n).length≤2*n
 | 0=>by simp [oJ]
 | n+1=>by
  have b:=kg c r q n;have d:=ka c (n+1) r q;have g:=ka c (n+1) q r;simp only [oJ,api];omega
structure ZD where
 c:Nat
 start:Int
 tg:Tg
 tr:List bC
 dJ:Int
 yg:Tg
 yr:List ey
def ZD.row(z:ZD):List FC:=gh z.c++[fi z.start,sl z.tg (aT z.tr),fi z.dJ,sl z.yg (bP z.yr)]
abbrev ZD.v(z:ZD):V:=.a (z.row.map .f)
theorem ZD.tM{z:ZD}(hc:z.c<3):z.row.length=8:=by
 obtain⟨c,s,tg,tr,h,yg,yr⟩:=z;have:c=0∨c=1∨c=2:=by simp at hc;omega
 rcases this with rfl | rfl | rfl<;>rfl
section
variable{H:aj}{b:Nat}{z:ZD}{fl:Nat}
theorem rQ(h:H[b]?=aa (.box (z.row.map .f) fl))(d:z.c<3):aU H ab (.c (.ptr b 4 0))=aa (vi z.start):=by
 obtain⟨c,s,j,l,g,m,yr⟩:=z;have:c=0∨c=1∨c=2:=by simp at d;omega
 rcases this with rfl | rfl | rfl<;>simp [aU,h,aC,ZD.row,gh,aK]
theorem du(h:H[b]?=aa (.box (z.row.map .f) fl))(d:z.c<3):aU H ab (.c (.ptr b 5 0))=aa (.c (.f (sl z.tg (aT z.tr)))):=by
 obtain⟨c,s,j,l,g,m,yr⟩:=z;have:c=0∨c=1∨c=2:=by simp at d;omega
 rcases this with rfl | rfl | rfl<;>simp [aU,h,aC,ZD.row,gh,aK]
theorem fF(h:H[b]?=aa (.box (z.row.map .f) fl))(d:z.c<3):aU H ab (.c (.ptr b 6 0))=aa (vi z.dJ):=by
 obtain⟨c,s,j,l,g,m,yr⟩:=z;have:c=0∨c=1∨c=2:=by simp at d;omega
 rcases this with rfl | rfl | rfl<;>simp [aU,h,aC,ZD.row,gh,aK]
theorem eQ(h:H[b]?=aa (.box (z.row.map .f) fl))(d:z.c<3):aU H ab (.c (.ptr b 7 0))=aa (.c (.f (sl z.yg (bP z.yr)))):=by
 obtain⟨c,s,j,l,g,m,yr⟩:=z;have:c=0∨c=1∨c=2:=by simp at d;omega
 rcases this with rfl | rfl | rfl<;>simp [aU,h,aC,ZD.row,gh,aK]
theorem zm(h:H[b]?=aa (.box (z.row.map .f) fl))(d:z.c<3):aU H ab (.c (.ptr b 0 0))=aa (vi (Lu z.c)):=by
 obtain⟨c,s,j,l,g,m,yr⟩:=z;have:c=0∨c=1∨c=2:=by simp at d;omega
 rcases this with rfl | rfl | rfl<;>simp [aU,h,aC,ZD.row,gh,aK,Lu]
theorem gZ(h:H[b]?=aa (.box (z.row.map .f) fl))(d:z.c<3):aU H (aa 4) (.c (.ptr b 0 0))=aa (kR z.c):=by
 obtain⟨c,s,j,l,g,m,yr⟩:=z;have:c=0∨c=1∨c=2:=by simp at d;omega
 rcases this with rfl | rfl | rfl<;>simp [aU,h,aC,ZD.row,gh,aK]
theorem cm(h:H[b]?=aa (.box (z.row.map .f) fl))(d:z.c<3):aU H (aa 8) (.c (.ptr b 0 0))=aa z.v:=by
 obtain⟨c,s,j,l,g,m,yr⟩:=z;have:c=0∨c=1∨c=2:=by simp at d;omega
 rcases this with rfl | rfl | rfl<;>simp [aU,h,aC,ZD.row,gh,aK]
end
def ZD.cyc(z:ZD):Int:=if z.yr.length=0 then 1 else Go.Proofs.YtmbjejcfadllnaaGreat.cyc z.c
theorem kD(z:ZD)(b:z.c<3):bA tab.get 72 [z.v]=Eq (vi z.cyc):=bA.eq (by
 refine bG rfl rfl fun Q d=>?_;apply ai;simp;have g:([.box (z.row.map .f) 0]:aj)[0]?=aa (.box (z.row.map .f) 0):=rfl;apply aq;apply ai;simp [eQ g b,-an];by_cases h:z.yr=[]
 ·refine ak (by simp [h]) ?_;apply ai;simp;refine aJ (d _ _ ?_);simp [ZD.cyc,h]
 ·refine a5 (by simp [h]) ?_;apply ai;simp [gZ g b,-an,Lq b];apply aq;apply ai;have hr:bS .rem (vi (jk z.c:Nat)) (vi 7)=aa (vi (((jk z.c:Nat):Int) % 7)):=po (by omega) (by omega);have l:jk z.c=13∨jk z.c=31:=by unfold jk;split<;>simp
  have j:=aQ (n:=7*((jk z.c:Nat):Int));simp [hr];refine ak (by simp;omega) ?_;apply ai;simp [j];refine aJ (d _ _ ?_);simp [ZD.cyc,h,cyc])
theorem y7{c y:Nat}{b:Int}{x:ey}(j:0≤b)(d:b≤260)(m:x.OK):-10≤kS (pF c y b x) (qP c y x) x.wk x.wd∧kS (pF c y b x) (qP c y x) x.wk x.wd≤300:=by
 have q:=fN c y 1;have s:=fN c y x.mo.toNat;have u:=qo c y x.mo.toNat;have l:qP c y x=(kU c y x.mo.toNat:Nat):=rfl;have g:b≤pF c y b x∧pF c y b x≤b+9:=by unfold pF;split<;>omega
 unfold kS;split<;>omega
structure yN(fl:List FC)(s:FC)(k m:Nat)(r q:ey):Prop where
 i:∀ H:aj,aP H 5 ab (.c (.f s)) (vi k)=aa (.c (.f (.fp fl (k*5))))
 i':∀ H:aj,aP H 5 ab (.c (.f s)) (vi m)=aa (.c (.f (.fp fl (m*5))))
 row:∀ H:aj,aU H (aa 5) (.c (.f (.fp fl (k*5))))=aa (.a (r.row.map .f))
 mi:∀ H:aj,aU H ab (.c (.f (.fp fl (k*5+3))))=aa (vi r.mi)
 of:∀ H:aj,aU H ab (.c (.f (.fp fl (k*5+4))))=aa (vi r.off)
 of':∀ H:aj,aU H ab (.c (.f (.fp fl (m*5+4))))=aa (vi q.off)
theorem agC(g:Tg)(r q:ey):yN (bP [r,q]).flatten (sl g (bP [r,q])) 0 1 r q:=
 ⟨fun _=>rfl,fun _=>rfl,fun _=>rfl,fun _=>rfl,fun _=>rfl,fun _=>rfl⟩
theorem agD(g:Tg)(r q:ey):yN (bP [r,q]).flatten (sl g (bP [r,q])) 1 0 q r:=
 ⟨fun _=>rfl,fun _=>rfl,fun _=>rfl,fun _=>rfl,fun _=>rfl,fun _=>rfl⟩
theorem xV(c:Nat):nY c≤14:=by unfold nY;split<;>omega
theorem Gd{z:ZD}(E:z.c<3){fl:List FC}{k m y:Nat}{r q:ey}(j:yN fl (sl z.yg (bP z.yr)) k m r q)(S:(1:Int)-k=m)(hr:r.OK)(hq:q.OK)(hy:y<nY z.c)
  {t:T} {J:aj} {cl:C} {o g:List bC} (l:J[0]?=aa (.box (z.row.map .f) 0)) (L:LR J cl 2 (aT o)) (W:dM g o) (a_:g.length≤100)
  (A:t.g 1=.c (.ptr 0 0 0)) (Z:t.g 4=.c cl) (g5:t.g 5=vi (cyc z.c)) (F:t.g 6=vi (kr z.c y)) (H:t.g 7=vi ((y:Int)+1)) (B:t.g 8=vi (k:Nat)) {K:List cA} {Q:Option az→St→Prop}
  (next:∀(t:T) (J:aj) (cl:C) (o:List bC),J[0]?=aa (.box (z.row.map .f) 0)→LR J cl 2 (aT o)→dM (g++en z.c (y+1) r q) o→t.g 1=.c (.ptr 0 0 0)→t.g 4=.c cl→t.g 5=vi (cyc z.c)→t.g 6=vi (kr z.c y)→t.g 7=vi ((y:Int)+1)→t.g 8=vi (k:Nat) →
   WP tab.get 70 ab K ⟨t,[],J⟩ Q) :
  WP tab.get 70 ab (.code AV::K) ⟨t,[],J⟩ Q:=by
 have b9:=xV z.c;obtain⟨b0,b1⟩:=uo E (Nat.le_of_lt hy);have hf:=adB E (y:=y+1) (by omega) (by omega) (b:=kr z.c y) (by omega) (by omega) r hr;rw [show((y+1:Nat):Int)=(y:Int)+1 by omega]at hf;obtain⟨d0,d1⟩:=y7 (c:=z.c) (y:=y+1) (b:=kr z.c y) (x:=r) (by omega) (by omega) hr;obtain⟨-,-,-,-,m0,m1,o0,o1⟩:=hr;obtain⟨-,-,-,-,-,-,p0,p1⟩:=hq;have d:en z.c (y+1) r q=if gJ (pF z.c (y+1) (kr z.c y) r) (qP z.c (y+1) r) r.wk r.wd then [⟨kS (pF z.c (y+1) (kr z.c y) r) (qP z.c (y+1) r) r.wk r.wd*1440+r.mi-q.off,r.off⟩]else []:=rfl;generalize hD:kS (pF z.c (y+1) (kr z.c y) r) (qP z.c (y+1) r) r.wk r.wd=D at *;generalize hO:gJ (pF z.c (y+1) (kr z.c y) r) (qP z.c (y+1) r) r.wk r.wd=O at *;refine aB ?_;apply ai;have u:=j.row J;have hi:=j.i J;have Y:=gZ l E;have v:=eQ l E;simp [A,F,H,B,Y,v,hi,u,hf,-an];apply aq;refine av (.inl rfl) ?_;simp;cases O with
 | false=>
  simp only [arQ,if_false]at d;rw [d,ast]at next
  refine al (by simp) (aL (aw ?_));exact next _ J cl o l L W (by simp [A]) (by simp [Z]) (by simp [g5]) (by simp [F]) (by simp [H]) (by simp [B])
 | true=>
  simp only [if_true]at d;refine ak (by simp) ?_;refine av (.inl rfl) ?_;have w1:=aQ (n:=D*1440);have w2:=aQ (n:=D*1440+r.mi);have w3:=aQ (n:=D*1440+r.mi-q.off);have w4:ah .i64 (1-(k:Int))=m:=by rw [aQ,S]
  have N:=j.i' J;have U:=j.mi J;have X:=j.of J;have s:=j.of' J;have a8:=W.len;obtain⟨o',cl',J',hI,hE,M,hK,a9⟩:=LS L (by omega) ⟨D*1440+r.mi-q.off,r.off⟩;simp only [bC.row,aft,apr]at hE;have I:=hE.eq;simp [A,Z,B,v,hi,N,U,X,s,w1,w2,w3,w4,I,-an];refine aw ?_;rw [d]at next
  exact next _ J' cl' o' (hK.2 _ _ l (L.cQ l)) M (.step W hI) (by simp [A]) (by simp) (by simp [g5]) (by simp [F]) (by simp [H]) (by simp [B])
theorem aj4{z:ZD}(F:z.c<3){r q:ey}(L:z.yr=[r,q])(hr:r.OK)(H:q.OK){y:Nat}(I:y<nY z.c)
  {t:T} {J:aj} {cl:C} {o A:List bC} (v:J[0]?=aa (.box (z.row.map .f) 0)) (x:LR J cl 2 (aT o)) (b:dM A o) (N:A.length≤90)
  (d:t.g 1=.c (.ptr 0 0 0)) (g:t.g 4=.c cl) (j:t.g 5=vi (cyc z.c)) (l:t.g 6=vi (kr z.c y)) (u:t.g 7=vi ((y:Int)+1)) {K:List cA} {Q:Option az→St→Prop}
  (next:∀(t:T) (J:aj) (cl:C) (o:List bC),J[0]?=aa (.box (z.row.map .f) 0)→LR J cl 2 (aT o)→dM (A++(en z.c (y+1) r q++en z.c (y+1) q r)) o→t.g 1=.c (.ptr 0 0 0)→t.g 4=.c cl→t.g 5=vi (cyc z.c)→t.g 6=vi (kr z.c y)→t.g 7=vi ((y:Int)+1) →
   WP tab.get 70 ab K ⟨t,[],J⟩ Q) :
  WP tab.get 70 ab (.code AU::K) ⟨t,[],J⟩ Q:=by
 apply ai;simp;refine aB ?_;refine bI (fun n s=>∃(k:Nat) (t:T) (J:aj) (cl:C) (o:List bC),s=⟨t,[],J⟩∧n=2-k∧k≤2∧J[0]?=aa (.box (z.row.map .f) 0)∧LR J cl 2 (aT o) ∧
   dM (A++((if 1≤k then en z.c (y+1) r q else [])++(if 2≤k then en z.c (y+1) q r else []))) o ∧
   t.g 1=.c (.ptr 0 0 0)∧t.g 4=.c cl∧t.g 5=vi (cyc z.c)∧t.g 6=vi (kr z.c y)∧t.g 7=vi ((y:Int)+1)∧t.g 8=vi (k:Nat)) 2
  ⟨0,_,J,cl,o,rfl,rfl,by omega,v,x,by simpa using b,by simp [d],by simp [g],by simp [j],by simp [l],by simp [u],by simp⟩ ?_
 clear v x b d g j l u;rintro n s ⟨k,t,J,cl,o,rfl,rfl,O,v,x,b,d,g,j,l,u,B⟩ M;apply aq;apply ai;simp [B];have S:=ka z.c (y+1) r q;have U:=ka z.c (y+1) q r;have E:k=0∨k=1∨k=2:=by omega
 rcases E with rfl | rfl | rfl
 ·refine ak (by simp) (aL ?_);apply aq;simp at b;refine Gd F (m:=1) (by rw [L];exact agC z.yg r q) (by decide) hr H I v x b (by omega) (by simp [d]) (by simp [g]) (by simp [j]) (by simp [l]) (by simp [u]) (by simp [B]) ?_;intro t J cl o v x b d g j l u B;refine av (.inl rfl) ?_;simp [B];exact M 1 _ (by omega) ⟨1,_,J,cl,o,rfl,rfl,by omega,v,x,by simpa using b,by simp [d],by simp [g],by simp [j],by simp [l],by simp [u],by simp [show ah .i64 1=1 from rfl]⟩
 ·refine ak (by simp) (aL ?_);apply aq;simp at b;refine Gd F (m:=0) (by rw [L];exact agD z.yg r q) (by decide) H hr I v x b (by simp;omega) (by simp [d]) (by simp [g]) (by simp [j]) (by simp [l]) (by simp [u]) (by simp [B]) ?_;intro t J cl o v x b d g j l u B;refine av (.inl rfl) ?_;simp [B];exact M 0 _ (by omega) ⟨2,_,J,cl,o,rfl,rfl,by omega,v,x,by simpa using b,by simp [d],by simp [g],by simp [j],by simp [l],by simp [u],by simp [show ah .i64 2=2 from rfl]⟩
 ·refine al (by simp) ?_;refine bq (k':=K) rfl ?_;simp at b;exact next _ J cl o v x (by simpa using b) (by simp [d]) (by simp [g]) (by simp [j]) (by simp [l]) (by simp [u])
def pI(x:bC):Prop:=-20000≤x.at_∧x.at_≤500000
theorem xX{c y:Nat}{r q:ey}(g:c<3)(l:y<nY c)(hr:r.OK)(j:q.OK):∀ x ∈ en c (y+1) r q,pI x:=by
 intro x d;obtain⟨b0,b1⟩:=uo g (Nat.le_of_lt l);obtain⟨m,s⟩:=y7 (c:=c) (y:=y+1) (b:=kr c y) (x:=r) (by omega) (by omega) hr;obtain⟨-,-,-,-,u,v,-,-⟩:=hr;obtain⟨-,-,-,-,-,-,p0,p1⟩:=j;simp only [en,Nat.add_sub_cancel]at d;split at d
 ·simp only [List.mem_singleton]at d;subst d;unfold pI;simp only;omega
 ·cases d
theorem qA{c:Nat}{r q:ey}(d:c<3)(hr:r.OK)(g:q.OK):∀ n,n≤nY c→∀ x ∈ oJ c r q n,pI x
 | 0,_,x,b=>by cases b
 | n+1,j,x,b=>by
  simp only [oJ,ar3]at b;rcases b with b | b | b
  ·exact qA d hr g n (by omega) x b
  ·exact xX d (by omega) hr g x b
  ·exact xX d (by omega) g hr x b
theorem wv(o:List bC)(size:Int)(n:Nat){x:bC}(h:o[n]?=aa x):lL o size (n+1)=(lL o size n&&decide (2160≤dP o size n-x.at_)):=by
 simp [lL,List.range_succ,h]
theorem Ct{o:List bC}{size:Int}{n:Nat}{x:bC}(h:o[n]?=aa x)(d:¬ 2160≤dP o size n-x.at_):c6 o size=ag:=by
 cases e:c6 o size with
 | false=>rfl
 | true=>
  have b:=arX.1 e n (by have:=(By.1 h).1;simpa using this);simp only [h]at b;exact absurd (of_decide_eq_true b) d
theorem sR(z:ZD)(v:z.c<3){r q:ey}(hz:z.yr=[r,q])(hr:r.OK)(hq:q.OK):∃ g o,dM (oJ z.c r q (nY z.c)) o ∧
  bA tab.get 70 [z.v]=Eq (.t [.c (.f (sl g (aT o))),vb (c6 o (cyc z.c*1440))]):=by
 obtain⟨rr,⟨g,o,B,rfl⟩,hp⟩:∃ rr,(∃ g o,dM (oJ z.c r q (nY z.c)) o∧rr=.t [.c (.f (sl g (aT o))),vb (c6 o (cyc z.c*1440))])∧bA tab.get 70 [z.v] rr:=by
  refine bQ rfl rfl fun Q hQ=>?_;apply ai;simp;have F:([.box (z.row.map .f) 0]:aj)[0]?=aa (.box (z.row.map .f) 0):=rfl;have b_:z.cyc=cyc z.c:=by simp [ZD.cyc,hz]
  have d3:cyc z.c=91∨cyc z.c=217:=by unfold cyc jk;split<;>simp
  have d5:Lu z.c=2∨Lu z.c=5:=by unfold Lu;split<;>simp
  have U:=yS v;have d6:=xV z.c;apply ai;simp;apply aq;apply ai;simp [eQ F v,-an,hz];refine a5 (by simp) ?_;apply ai;simp [cm F v,-an,kD z v,b_];apply ai;simp [zm F v,-an];apply aq;apply ai;simp;refine aB ?_;refine bI (fun n s=>∃(y:Nat) (t:T) (J:aj) (cl:C) (o:List bC),s=⟨t,[],J⟩∧n=nY z.c-y∧y≤nY z.c∧J[0]?=aa (.box (z.row.map .f) 0)∧LR J cl 2 (aT o)∧dM (oJ z.c r q y) o ∧
    t.g 1=.c (.ptr 0 0 0)∧t.g 4=.c cl∧t.g 5=vi (cyc z.c)∧t.g 6=vi (kr z.c y)∧t.g 7=vi ((y:Int)+1)) (nY z.c)
   ⟨0,_,_,.f .es,[],rfl,rfl,by omega,F,.inl ⟨rfl,.inr rfl⟩,.nil,by simp,by simp,by simp,by simp [kr],by simp⟩ ?_
  rintro n s ⟨y,t,J,cl,o,rfl,rfl,hy,S,I,B,H,d,u,N,O⟩ ih;obtain⟨b0,b1⟩:=uo v hy;apply aq;apply ai;simp [H,u,N,zm S v,-an,aQ (n:=Lu z.c+cyc z.c)];by_cases W:y<nY z.c
  ·have h1:=yT z.c W;refine ak (by simp;omega) (aL ?_);apply aq;refine aB ?_;apply aq;have d8:=kg z.c r q y;refine aj4 v hz hr hq W S I B (by omega) (by simp [H]) (by simp [d]) (by simp [u]) (by simp [N]) (by simp [O]) ?_;clear H d u N O S I B;intro t J cl o S I B H d u N O;have Y:=CN v (y:=y+1) (by omega) (by omega);rw [show((y+1:Nat):Int)=(y:Int)+1 by omega]at Y;have d9:sk z.c (y+1)≤18:=by
    have h1:=fN z.c (y+1) 1;have h2:=fN z.c (y+1) 2;unfold sk;omega
   refine av (.inl rfl) ?_;simp [H,N,O,gZ S v,-an,Y,aQ (n:=kr z.c y+(sk z.c (y+1):Nat))];refine aw ?_;refine av (.inl rfl) ?_;simp [O,aQ (n:=(y:Int)+1+1)];exact ih (nY z.c-(y+1)) _ (by omega) ⟨y+1,_,J,cl,o,rfl,rfl,by omega,S,I,B,by simp [H],by simp [d],by simp [u],by simp [kr],by simp⟩
  ·have c_:y=nY z.c:=by omega
   subst c_;rw [U];refine al (by simp) ?_;refine bq (k':=[.code AW]) rfl ?_;have K:∀ x ∈ o,pI x:=fun x hx=>qA v hr hq _ (OF _) x (B.perm.subset hx);obtain⟨g',L⟩:=I.ex (cu _) 63;have d7:o.length≤28:=by have:=B.len;have:=kg z.c r q (nY z.c);omega
   apply aq;apply ai;simp;refine aB ?_;clear ih;refine bI (fun n s=>∃(i:Nat) (t:T),s=⟨t,[],J⟩∧n=o.length-i∧i≤o.length∧lL o (cyc z.c*1440) i=ae∧t.g 4=.c cl∧t.g 5=vi (cyc z.c)∧t.g 11=vi (i:Nat)) o.length
    ⟨0,_,rfl,rfl,by omega,rfl,by simp [d],by simp [u],by simp⟩ ?_
   clear H d u N O;rintro n s ⟨i,t,rfl,rfl,hi,X,d,u,j⟩ ih;apply aq;apply ai;simp [d,j,I.len];by_cases l:i<o.length
   case neg=>
    have:i=o.length:=by omega
    subst this;refine al (by simp) ?_;refine bq (k':=[.code tY]) rfl ?_;apply ai;simp [d];refine aJ (hQ _ _ (.t [.c (.f (sl g' (aT o))),vb (c6 o (cyc z.c*1440))]) ⟨g',o,B,rfl⟩ ?_);have:c6 o (cyc z.c*1440)=ae:=X;simp [fJ,bO,deep,L,this,ba,d]
   refine ak (by simp [l]) (aL ?_);apply aq;refine aB ?_;rcases I with⟨h,_⟩ | ⟨_,b,Z,rfl,hb⟩
   ·have:o=[]:=by simpa [aT]using h
    subst this;simp at l
   rw [my]at d L;have c9:=cu o;have M:∀ k:Nat,k<o.length→aP J 2 ab (.c (.sl b 0 o.length 0 Z 2)) (vi k)=aa (.c (.ptr b (k*2) Z)):=fun k hk=>by
    have:=hb.idx (n:=o.length) (c:=0) (k:=.i64) (o:=0) (i:=(k:Int)) (by omega) (by omega);simpa using this
   have A:∀ k:Nat,(hk:k<o.length)→aU J ab (.c (.ptr b (k*2) Z))=aa (vi o[k].at_):=fun k hk=>by
    have:=hb.ldc c9 (dk (AT hk)) (k:=0) (x:=fi o[k].at_) rfl;simpa using this
   have o0:0<o.length:=by omega
   have i0:=M 0 o0;have l0:=A 0 o0;have ii:=M i l;have li:=A i l;have a9:=K _ (IT o0);have b9:=K _ (IT l);unfold pI at a9 b9;simp [-an]at i0 l0;have w1:=aQ (n:=cyc z.c*1440);have w2:=aQ (n:=o[0].at_+cyc z.c*1440);have w3:=aQ (n:=(i:Int)+1);apply ai;simp [d,u,i0,l0,w1,w2,-an];apply aq;have m:∀ t:T,t.g 4=.c (.sl b 0 o.length 0 Z 2)→t.g 5=vi (cyc z.c)→t.g 11=vi (i:Nat)→t.g 12=vi (dP o (cyc z.c*1440) i)→-20000≤dP o (cyc z.c*1440) i→dP o (cyc z.c*1440) i≤900000 →
     WP tab.get 70 ab [.code AY,.inBlock 5,.code AZ,.inLoop AX,.inBlock 4,.code tY] ⟨t,[],J⟩ Q:=by
    intro t d u j a8 n0 n1;apply ai;simp [d,j,a8,ii,li,-an,aQ (n:=dP o (cyc z.c*1440) i-o[i].at_)];by_cases hs:dP o (cyc z.c*1440) i-o[i].at_<2160
    ·refine ak (by simp [hs]) ?_;apply ai;simp [d];refine aJ (hQ _ _ (.t [.c (.f (sl g' (aT o))),vb (c6 o (cyc z.c*1440))]) ⟨g',o,B,rfl⟩ ?_);have:c6 o (cyc z.c*1440)=ag:=Ct (AT l) (by omega);simp [fJ,bO,deep,L,this,ba,d]
    ·refine al (by simp;omega) (aL (aw ?_));refine av (.inl rfl) ?_;simp [j,w3];refine ih (o.length-(i+1)) _ (by omega) ⟨i+1,_,rfl,rfl,by omega,?_,by simp [d,my],by simp [u],by simp⟩;rw [wv _ _ _ (AT l),X];simp;omega
   by_cases E:i+1<o.length
   ·have i1:=M (i+1) E;have l1:=A (i+1) E;have a_:=K _ (IT E);unfold pI at a_;rw [show((i+1:Nat):Int)=(i:Int)+1 by omega]at i1;have hn:dP o (cyc z.c*1440) i=o[i+1].at_:=by simp [dP,AT E]
    rw [hn]at m;apply ai;simp [d,j,w3,hb.len];refine ak (by simp;omega) ?_;refine av (.inl rfl) ?_;simp [d,j,w3,i1,l1,-an];exact m _ (by simp [d]) (by simp [u]) (by simp [j]) (by simp) (by omega) (by omega)
   ·have hn:dP o (cyc z.c*1440) i=o[0].at_+cyc z.c*1440:=by
     simp [dP,List.getElem?_eq_none_iff.2 (show o.length≤i+1 by omega),AT o0]
    rw [hn]at m;apply ai;simp [d,j,w3,hb.len];refine al (by simp;omega) (aL ?_);exact m _ (by simp [d]) (by simp [u]) (by simp [j]) (by simp) (by omega) (by omega)
 exact⟨g,o,B,bA.eq hp⟩
def mJ(n:Nat):Int:=match n % 8 with
 | 0=>0 | 1=>60 | 2=>120 | 3=>-90 | 4=>30 | 5=>1080 | 6=>-1080 | _=>90
def isZ(r:Option (V × aj))(n:Int):Bool:=match r with
 | some (.c (.f (.int .i64 k)),_)=>decide (k=n)| _=>ag
theorem ah6{r:Option (V × aj)}{n:Int}(h:isZ r n=ae):r.map (·.1)=aa (vi n):=by
 unfold isZ at h;split at h
 ·rw [of_decide_eq_true h];rfl
 ·cases h
theorem Zj:((List.range 256).all fun n=>isZ (CF tab.get 60 10 (.fn 24) [.c (.f (.int .u8 (n:Nat)))] []) (mJ n))=ae:=by kernel_rfl
theorem zT{n:Nat}(h:n<256):bA tab.get 24 [.c (.f (.int .u8 (n:Nat)))]=Eq (vi (mJ n)):=(eu (ah6 (dz (p:=fun n=>isZ (CF tab.get 60 10 (.fn 24) [.c (.f (.int .u8 (n:Nat)))] []) (mJ n)) Zj h))).eq
theorem lK(n:Nat):-1080≤mJ n∧mJ n≤1080:=by unfold mJ;split<;>omega
theorem CI(n m:Int)(d:0≤m)(g:m≤4611686018427387904):bA tab.get 69 [vi n,vi m]=Eq (vb (decide (-m≤n)&&decide (n≤m))):=bA.eq (by
 refine bG rfl rfl fun Q b=>?_;apply ai;simp;by_cases h:-m≤n
 ·apply ai;simp [z7,aQ (n:=-m),h];refine aJ (b _ _ ?_);simp [h]
 ·apply ai;simp [z7,aQ (n:=-m),h];refine aJ (b _ _ ?_);simp [h])
theorem gT{n m:Int}(d:0≤m)(g:m≤4611686018427387904)(h:-m≤n)(b:n≤m):bA tab.get 69 [vi n,vi m]=Eq (vb ae):=by
 rw [CI n m d g];simp [h,b]
theorem yB{n m:Int}(d:0≤m)(g:m≤4611686018427387904)(h:-m≤n)(b:n≤m):bA tab.get 53 [vi n,vi m]=Eq (vb ae):=by
 rw [MJ n m d g];simp [h,b]
theorem ad':((List.range 65).all fun n=>match (CF tab.get 20 20 (.fn 84) [.c (.f (.int .u64 n))] [])with | some (.c (.f (.int .i64 (.ofNat k))),_)=>Nat.ble k 62&&(Nat.beq n 0||Nat.ble (2 ^ k) (2*n)) | _=>ag)=ae:=by kernel_rfl
theorem al':akE tab.get bl 64:=fun n h=>by
 have j:=ad';rw [arX]at j;have b:=j n (by simp;omega);split at b
 ·rename_i k H' e;rw [Bool.and_eq_true,Bool.or_eq_true]at b;refine⟨k,(eu (m:=20) (d:=20) (by rw [e];rfl)).eq,asM b.1,fun l=>?_⟩;rcases b.2 with g | g
  ·have:=asG g;omega
  ·exact asM g
 ·cases b
theorem afn:agP tab.get bl 2:=⟨ag',ag2,ag1,aha,agZ,ag0,ag_,
 ag8,ag9,ag7,ag3,ag4,ag6,ag5,ahb⟩
theorem Zu(x y:bC):Kf tab.get 131 [.a (x.row.map .f),.a (y.row.map .f)] (vi (lv x.at_ y.at_)):=by
 refine qh rfl rfl fun H Q b=>?_;apply ai;simp [bC.row];apply ai;simp [oZ];refine aJ (b _ _ ?_);simp
def sZ:List FC→bC
 | [.int _ a,.int _ b]=>⟨a,b⟩| _=>⟨0,0⟩
def K9(r:List FC):Prop:=r=(sZ r).row
theorem XQ(x:bC):K9 x.row:=rfl
def Ym(r s:List FC):Int:=lv (sZ r).at_ (sZ s).at_
theorem ahE:vO K9 Ym where
 Ds:=fun _ _ h b=>by
  unfold Ym at h b;rw [lz]at h b;omega
 trans:=fun _ _ _ h b=>by
  unfold Ym at *;rw [lz]at *;omega
theorem alH:Cv tab.get (.c (.f (.fn 131 []))) K9 Ym:=by
 intro x y b d H;obtain⟨J,h⟩:=Zu (sZ x) (sZ y) H;rw [←show x=(sZ x).row from b,←show y=(sZ y).row from d]at h;exact⟨131,_,J,by simp [bZ],h⟩
theorem Lr{rows:List (List FC)}(h:∀ r ∈ rows,K9 r):aT (rows.map sZ)=rows:=by
 unfold aT;rw [List.map_map]
 conv=>rhs;rw [←List.map_id rows]
 exact List.map_congr_left fun r hr=>(h r hr).symm
theorem EN(l:List bC):(aT l).map sZ=l:=by
 unfold aT;rw [List.map_map]
 conv=>rhs;rw [←List.map_id l]
 exact List.map_congr_left fun r _=>rfl
theorem Zk{H:aj}{v:C}{l:List bC}(hr:LR H v 2 (aT l))(B:l.length≤64) :
  ∃ H',Ev tab.get (.fn 130) [.c v,.c (.f (.fn 131 []))] H (.t []) H'∧Kb H H' v∧∃ b,LR H' v 2 (aT b)∧b.Perm l∧b.Pairwise ZL:=by
 have q:∀ r ∈ aT l,K9 r:=fun r hr=>by
  obtain⟨x,-,rfl⟩:=ase.1 hr;exact XQ x
 obtain⟨r,H',z,rfl,A,b,u,m,y⟩:=Km.afm (σ:=bl) agY afn alH ahE (by omega) al' hr (by simpa using B) (cu l) q;have d:∀ r ∈ b,K9 r:=fun r hr=>q r (m.mem_iff.1 hr);refine⟨H',z,A,b.map sZ,by rw [Lr d];exact u,?_,?_⟩
 ·have:=m.map sZ;rwa [EN]at this
 ·rw [ar1];intro i j hi s g;simp only [asn]at hi s;have:=y i j b[i] b[j] (by omega) g (by omega) (AT hi) (AT s);rw [asU,asU];unfold Ym at this;rw [lz]at this;unfold ZL;omega
theorem D2{H:aj}{b:Nat}{n:Int}(h:aU H ab (.c (.ptr b 9 0))=aa (vi n))(m:∃ cs fl,H[b]?=aa (.box cs fl))(j:0≤n)(l:n≤1000000) :
  Ev tab.get (.fn 132) [.c (.ptr b 0 0)] H (vi (n*1440)) H:=by
 obtain⟨r,H',g,rfl,rfl⟩:∃ r H',Ev tab.get (.fn 132) [.c (.ptr b 0 0)] H r H'∧r=vi (n*1440)∧H'=H:=by
  refine dn rfl rfl fun Q d=>?_;apply ai;simp;apply ai;simp [h,-an,aQ (n:=n*1440)];exact aJ (d _ _ _ rfl (kM (by simp)) ⟨rfl,rfl⟩)
 exact g
def fj(z:ZD)(cl:C)(n:Int):List C:=z.row.map .f++[cl,.f (fi n)]
section
variable{H:aj}{b:Nat}{z:ZD}{cl cl':C}{n n':Int}
theorem sF(h:H[b]?=aa (.box (fj z cl n) 0))(d:z.c<3):aU H ab (.c (.ptr b 8 0))=aa (.c cl):=by
 obtain⟨c,s,j,l,g,m,yr⟩:=z;have:c=0∨c=1∨c=2:=by simp at d;omega
 rcases this with rfl | rfl | rfl<;>simp [aU,h,aC,fj,ZD.row,gh,aK]
theorem XX(h:H[b]?=aa (.box (fj z cl n) 0))(d:z.c<3):aU H ab (.c (.ptr b 9 0))=aa (vi n):=by
 obtain⟨c,s,j,l,g,m,yr⟩:=z;have:c=0∨c=1∨c=2:=by simp at d;omega
 rcases this with rfl | rfl | rfl<;>simp [aU,h,aC,fj,ZD.row,gh,aK]
theorem an_(h:H[b]?=aa (.box (fj z cl n) 0))(d:z.c<3):cE H (.ptr b 8 0) [cl']=aa (H.set b (.box (fj z cl' n) 0)):=by
 obtain⟨c,s,j,l,g,m,yr⟩:=z;have:c=0∨c=1∨c=2:=by simp at d;omega
 rcases this with rfl | rfl | rfl<;>simp [cE,h,over,fj,ZD.row,gh]
theorem agG(h:H[b]?=aa (.box (fj z cl n) 0))(d:z.c<3):cE H (.ptr b 9 0) [.f (fi n')]=aa (H.set b (.box (fj z cl n') 0)):=by
 obtain⟨c,s,j,l,g,m,yr⟩:=z;have:c=0∨c=1∨c=2:=by simp at d;omega
 rcases this with rfl | rfl | rfl<;>simp [cE,h,over,fj,ZD.row,gh]
end
theorem My{c:Nat}{r q:ey}{o l:List bC}{size:Int}(d:dM (oJ c r q (nY c)) o)(j:c6 o size=ae)(g:l.Perm (oJ c r q (nY c)))(b:l.Pairwise ZL):l=o:=
 nR (hV j) b (g.trans d.perm.symm)
end Go.Proofs.YtmbjejcfadllnaaGreat
