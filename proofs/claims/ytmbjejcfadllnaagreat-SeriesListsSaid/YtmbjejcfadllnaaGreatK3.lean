/-
  Our own small machine for Go code by value, held tq the model: part 3. No program in IW.
-/
import Derived.Test.YtmbjejcfadllnaaGreatK2
import Derived.Orders
import Derived.Test.YtmbjejcfadllnaaGreatK1
open List renaming mem_filter → awT, all_eq_true → avP, eq_nil_of_length_eq_zero → api, mem_of_getElem? → avL, getElem?_eq_getElem → AI, getElem?_eq_some_iff → BY, getElem?_set_ne → By, getElem?_append_right → avM, getElem?_eq_none → aw4, getElem?_drop → avU, length_drop → awt
open Bool renaming and_eq_true → If, not_eq_true' → awW, false_eq_true → atN
open Option renaming map_some → awg, map_eq_some_iff → IN, map_map → awZ
open Nat renaming le_refl → aft, le_of_ble_eq_true → awu, eq_of_beq_eq_true → awN, le_max_left → av4, le_max_right → avY
open Option.some renaming injEq → sh
open Prod.mk renaming injEq → IS
set_option linter.unusedVariables false
set_option linter.unusedSimpArgs false
set_option linter.unusedSectionVars false
set_option maxRecDepth 100000
namespace Km
open Go
section
variable{Q:Program}{σ:Nat→FuncId}{X:Wd}{call:cE}
variable{n:Nat}{ops:Array Oper}{aos:List aH}{gL:List (Nat × Nat)}{st:Nat→St}
def LD(b:Array Bool)(j:Nat):Prop:=b.getD j false=true
theorem ZO{b:Array Bool}{i:Nat}(hi:i<b.size):LD (b.setIfInBounds i true)=fun j=>LD b j∨j=i:=by
 funext j
 apply propext;unfold LD;by_cases h:i=j
 ·subst h;simp [hi]
 ·have:j≠i:=fun e=>h e.symm
  simp [Array.getD_eq_getD_getElem?,Array.getElem?_setIfInBounds_ne h,this]
theorem Gi{b:Array Bool}{i:Nat}(h:i ∈ Region.ready .any ops b):i<ops.size∧¬ LD b i∧∃ o,ops[i]?=some o∧∀ e ∈ o.after.toList,Region.binds .any e=true→LD b e.on:=by
 unfold Region.ready at h;simp only [awT,List.mem_range,If,awW]at h;obtain⟨l,d,j⟩:=h;refine⟨l,fun g=>?_,?_⟩
 ·unfold LD at g;simp only [Array.getD_eq_getD_getElem?]at d g
  cases m:b[i]? with
  | none=>rw [m]at d;simp at d
  | some v=>rw [m]at d g;simp at d g;rw [d]at g;simp at g
 ·have q:=Array.getElem?_eq_getElem l;rw [q]at j;simp only [awg,Option.getD_some]at j;refine⟨ops[i],q,fun e u s=>?_⟩
  rw [←Array.all_toList,avP]at j;have:=j e u;simpa [s,LD]using this
theorem abQ(l:Ord ops.toList aos gL)(F:aos.length=ops.size){b:Array Bool}(B:b.size=ops.size){j:Nat}(z:j<ops.size)(y:¬ LD b j):Region.ready .any ops b≠[]:=by
 have key:∀ m,m<ops.size→¬ LD b m→∃ i,i ∈ Region.ready .any ops b:=by
  intro m
  induction m using Nat.strongRecOn with
  | ind m E=>
   intro v g;have A:=Array.getElem?_eq_getElem v;by_cases d:∀ e ∈ ops[m].after.toList,Region.binds .any e=true→LD b e.on
   ·refine⟨m,?_⟩;unfold Region.ready;simp only [awT,List.mem_range,If,awW,A,awg,Option.getD_some];refine⟨v,?_,?_⟩
    ·unfold LD at g;have u:m<b.size:=by omega
     simp [u]at g ⊢;exact g
    ·rw [←Array.all_toList,avP];intro e s;by_cases q:Region.binds .any e=true
     ·have:=d e s q;unfold LD at this;simp [this]
     ·simp [q]
   ·simp only [Classical.not_forall]at d;obtain⟨e,s,q,x⟩:=d;have:=l.back m ops[m] (by omega) (by simp [v]) e s q
    exact E e.on this (by omega) x
 obtain⟨i,hi⟩:=key j z y;intro h;rw [h]at hi;simp at hi
theorem aas(Y:ei Q σ call)(R:jr Q σ call n ops aos gL st){b:Frame}{k:List Item}{cs:List Frame}(Z:iC b cs)(H:∀ y ∈ aos,fV y.op b) :
  ∀(X0:Wd) (fuel t:Nat) (d:Array Bool) (U:List Nat) (E:Nat) (X:Wd) (a:Act),d.size=ops.size→U.Nodup→(∀ j,j<ops.size→(¬ LD d j↔j ∈ U))→U.length≤fuel→Inv Q σ X0 n ops aos st (LD d) E X a →
  ∃ q z X' a',Steps Q (lone (b.atR a (.inRegion ops (Region.linearise.go .any ops fuel t d [])::k)) cs X.w) (lone (b.atR a' k) cs X'.w)∧Inv Q σ X0 n ops aos st q z X' a'∧(∀ j,j<ops.size→q j)∧a'.tmps.size=a.tmps.size:=by
 have u:aos.length=ops.size:=by have:=(dV R.akS).len;simpa using this.symm
 intro X0 fuel
 induction fuel with
 | zero=>
  intro t d U E X a m B l F A;refine⟨LD d,E,X,a,?_,A,fun j s=>?_,rfl⟩
  ·simp only [Region.linearise.go,List.reverse_nil];exact .one stepR_region_end
  ·have g:U=[]:=api (by omega)
   refine Classical.byContradiction fun h=>?_
   have:=(l j s).1 h
   rw [g]at this;simp at this
 | succ fuel ih=>
  intro t d U E X a m B l F A;simp only [Region.linearise.go]
  change ∃ q z X' a',Steps Q (lone (b.atR a (.inRegion ops (match (Region.ready .any ops d)[t % (Region.ready .any ops d).length]? with
   | some i=>Region.linearise.go .any ops fuel (t / (Region.ready .any ops d).length) (d.setIfInBounds i true) [i]
   | none=>[].reverse)::k)) cs X.w) _∧_
  cases hi:(Region.ready .any ops d)[t % (Region.ready .any ops d).length]? with
  | none=>
   have g:Region.ready .any ops d=[]:=by
    cases hr:Region.ready .any ops d with
    | nil=>rfl
    | cons x xs=>
     rw [hr]at hi;have a8:t % (x::xs).length<(x::xs).length:=Nat.mod_lt _ (by simp)
     rw [List.getElem?_eq_none_iff]at hi;omega
   refine⟨LD d,E,X,a,?_,A,fun j s=>?_,rfl⟩
   ·exact .one stepR_region_end
   ·exact Classical.byContradiction fun h=>abQ R.ord u m s h g
  | some i=>
   simp only [];rw [linearise_go_acc,List.reverse_singleton,List.singleton_append];obtain⟨r1,r2,o,r3,r4⟩:=Gi (avL hi);have hy:=AI (show i<aos.length by omega)
   have hr:jq ops aos (LD d) i o aos[i]:=⟨r3,hy,r2,r4⟩;obtain⟨z,J,a1,M,I,N⟩:=R.ah5 Y A hr (b:=b) (rest:=Region.linearise.go .any ops fuel (t / (Region.ready .any ops d).length) (d.setIfInBounds i true) []) (k:=k) (cs:=cs) Z (H _ (List.getElem_mem _));rw [←ZO (by omega)]at I
   have v:i ∈ U:=(l i r1).1 r2
   obtain⟨q,E2,K,L,k1,k2,k3,k5⟩:=ih (t / (Region.ready .any ops d).length) (d.setIfInBounds i true) (U.erase i) z J a1 (by simpa using m) (B.erase i)
    (fun j s=>by
     rw [B.mem_erase_iff,←l j s,ZO (by omega)]
     constructor
     ·intro h;exact⟨fun e=>h (.inr e),fun O=>h (.inl O)⟩
     ·rintro⟨S,W⟩ (h | h)
      ·exact W h
      ·exact S h)
    (by rw [List.length_erase_of_mem v];omega) I
   exact⟨q,E2,K,L,M.trans k1,k2,k3,k5.trans N⟩
theorem aat(hC:ei Q σ call)(u:Q.follows .mixedOrders=true)(R:jr Q σ call n ops aos gL st){b:Frame}{k:List Item}{cs:List Frame}(hk:iC b cs)(M:∀ y ∈ aos,fV y.op b){X:Wd}{a:Act}(g:Fr Q σ n X (st 0) a)(id:Nat) :
  ∃ X' a',Steps Q (lone (b.atR a (.code (.region id ops true)::k)) cs X.w) (lone (b.atR a' k) cs X'.w)∧Fr Q σ n X' (st aos.length) a'∧Ext X.H.length X X'∧a'.tmps.size=a.tmps.size:=by
 have Z:aos.length=ops.size:=by have:=(dV R.akS).len;simpa using this.symm
 let X0:Wd:={ X with w:={ X.w with drawn:=X.w.drawn+1 } }
 have A:Ext X.H.length X X0:=
  {B:=rfl,F:=fun _ _ h=>h,oZ:=fun _ _ h=>.inl h,fw:=fun _ _ _=>rfl,bN:=fun b _ aX J=>⟨aX,J,by cases aX<;>simp [X0]⟩
   xV:=fun b L h=>.inl ⟨b,L,h,rfl⟩,size:=aft _,os:=rfl,tape:=rfl,output:=rfl,frame:=fun _ _ _=>rfl }
 have I:SR Q σ X0:=by
  refine⟨fun b L J=>?_,g.sr.inj,g.sr.fb⟩
  obtain⟨q,s,aX,U,W⟩:=g.sr.br b L J;exact⟨q,s,aX,U,BR.ext Q σ A rfl (fun _ h=>h) W⟩
 obtain⟨p1,p2,p3,p4⟩:=oE (aos:=aos) (i:=0) (by omega)
 obtain⟨q1,q2⟩:=R.cO _ p1 p2 p4;have E:X0.H=(st 0).heap:=g.heap;rw [←E]at q1;obtain⟨k1,k2⟩:=SR.ahead I q1;have m:Ext X.H.length X { X0 with H:=(st (phase aos 0)).heap }:=A.trans k2
 have d:∀ j,¬ LD (Array.replicate ops.size false) j:=fun j h=>by
  unfold LD at h;simp only [Array.getD_eq_getD_getElem?,Array.getElem?_replicate]at h;split at h<;>simp at h
 have hI:Inv Q σ { X0 with H:=(st (phase aos 0)).heap } n ops aos st (LD (Array.replicate ops.size false)) (phase aos 0) { X0 with H:=(st (phase aos 0)).heap } a:=by
  refine⟨fun j o h=>absurd h (d j),fun j h=>absurd h (d j),p2,p3,d _,fun j q s=>absurd q (p4 j (Nat.zero_le _) s),rfl,Ext.refl _ _,k1,g.b,by rw [q2];exact g.defs.ext' m,g.size,
   fun p=>⟨0,Nat.zero_le _,.inl (VR.ext' σ m (g.au p)),fun j y _ _=>⟨fun h=>by omega,fun h=>absurd h (d j)⟩⟩,fun j y q _ U W h5=>?_⟩
  show X.bU _=none
  have a8:=(R.cO j (Nat.zero_le _) (by omega) fun k q s=>p4 k q (by omega)).1.len
  cases v:X.bU (st j).heap.length with
  | none=>rfl
  | some L=>have:=SR.lt g.sr v;rw [g.heap]at this;omega
 obtain⟨D',O,X',a',g1,l,S,g5⟩:=aas hC R hk M (k:=k) { X0 with H:=(st (phase aos 0)).heap } ops.size (X.w.tape X.w.drawn (.order b.fn id)) (Array.replicate ops.size false) (List.range ops.size) (phase aos 0) { X0 with H:=(st (phase aos 0)).heap } a (by simp) List.nodup_range
  (fun j hj=>⟨fun _=>by simpa using hj,fun _=>d j⟩) (by simp) hI
 have Y:O=aos.length:=by
  rcases l.eW with h | ⟨z,N,_⟩
  ·exact h
  ·exact absurd (S O (by have:=(BY.1 N).1;omega)) l.eD
 subst Y;refine⟨X',a',.head stepR_region_draw ?_,⟨l.heap,l.sr,l.b,fun p=>?_,l.defs,l.size⟩,m.trans (l.ext.mono (m.len)),g5⟩
 ·simp only [Region.schedule,u,Bool.true_or,if_true];exact g1
 ·obtain⟨K,hK,x,hw⟩:=l.ab6 p
  have x:VR σ X' ((st K).au.get p) (a'.tmps.getD p.toNat undef):=by
   rcases x with x | ⟨z,zs,c,_,Y,N,_⟩
   ·exact x
   ·have:=(BY.1 N).1;omega
  rw [←R.lv aos.length hK (aft _) fun j y q s hy hd=>?_]
  ·exact x
  ·have:=(hw j y hy hd).2 (S j (by omega));omega
end
section
variable{Q:Program}{σ:Nat→FuncId}{X:Wd}{call:cE}
theorem Co{b:Type}{f:b→b→Bool}(d:∀ x y,f x y=true→x=y):∀ {xs ys:List b},mr f xs ys=true→xs=ys
 | [],[],_=>rfl
 | x::xs,y::ys,h=>by
  simp only [mr,If]at h
  rw [d x y h.1,Co d h.2]
 | [],_::_,h=>by simp [mr]at h
 | _::_,[],h=>by simp [mr]at h
theorem FC.beq_eq:∀(n:Nat) (a b:FC),FC.beq n a b=true→a=b:=by
 intro n
 induction n with
 | zero=>
  intro a b h
  cases a<;>cases b<;>simp_all [FC.beq]
 | succ n d=>
  intro a b h;cases a<;>cases b<;>simp_all [FC.beq]
  all_goals exact Co d h.2
theorem C.beq_eq{a b:C}(h:a.beq b=true):a=b:=by
 cases a<;>cases b<;>simp_all [C.beq];exact FC.beq_eq _ _ _ h
theorem V.beq_eq{a b:V}(h:a.beq b=true):a=b:=by
 cases a<;>cases b<;>simp only [V.beq,atN]at h
 ·rw [C.beq_eq h]
 ·rename_i xs ys;simp only [If,beq_iff_eq,avP]at h
  congr 1
  refine List.ext_getElem h.1 fun i d g=>C.beq_eq (h.2 (xs[i],ys[i]) ?_)
  exact avL (i:=i) (by rw [List.getElem?_zip_eq_some];exact⟨AI d,AI g⟩)
theorem yZ:∀ {aos:List aH} {s s':St},eO call aos s=some s'→∃ b:List St,dq call aos s=some b∧b.getLast?=some s'
 | [],s,s',h=>by simp only [eO,sh]at h;subst h;exact⟨[s],rfl,rfl⟩
 | o::os,s,s',h=>by
  simp only [eO]at h;split at h
  ·rename_i l g;obtain⟨b,j,d⟩:=yZ h;refine⟨s::b,by simp [dq,g,j],?_⟩
   cases b with
   | nil=>simp at d
   | cons x xs=>simpa using d
  ·simp at h
theorem nf:∀ {aos:List aH} {s:St} {b:List St},dq call aos s=some b→b.length=aos.length+1∧b[0]?=some s ∧
  ∀ i y,aos[i]?=some y→∃ u v,b[i]?=some u∧b[i+1]?=some v∧eR call u y=some v
 | [],s,b,h=>by
  simp only [dq,sh]at h;subst h
  exact⟨rfl,rfl,fun i y h=>by simp at h⟩
 | o::os,s,b,h=>by
  simp only [dq]at h;split at h
  ·rename_i x m;split at h
   ·rename_i z q;simp only [sh]at h;subst h;obtain⟨g,j,l⟩:=nf q;refine⟨by simp [g],rfl,fun i y d=>?_⟩
    cases i with
    | zero=>
     simp only [List.getElem?_cons_zero,sh]at d;subst d
     exact⟨s,x,rfl,by simpa using j,m⟩
    | succ i=>simpa using l i y (by simpa using d)
   ·simp at h
  ·simp at h
theorem vL:∀ {aos:List aH} {s:St} {b:List St} {s':St},dq call aos s=some b→b.getLast?=some s'→eO call aos s=some s'
 | [],s,b,s',h,d=>by simp only [dq,sh]at h;subst h;simpa [eO]using d
 | o::os,s,b,s',h,d=>by
  simp only [dq]at h;split at h
  ·rename_i m l;split at h
   ·rename_i g j;simp only [sh]at h;subst h;have:=(nf j).1;simp only [eO,l];refine vL j ?_
    cases g with
    | nil=>simp at this
    | cons x xs=>simpa using d
   ·simp at h
  ·simp at h
theorem OW(S:ei Q σ call)(A:Q.follows .mixedOrders=true){n:Nat}{id:Nat}{ops:Array Oper}{g:Bool}{aos:List aH}{gL:List (Nat × Nat)}(W:bS Q σ n (.region id ops g) (.region aos gL)=true)
  {b:Frame} {k:List Item} {cs:List Frame} (U:iC b cs) (B:∀ y ∈ aos,fV y.op b) {X:Wd} {a:Act} {s s':St} (K:Fr Q σ n X s a) (h:fx call aos gL s=some s') :
  ∃ X' a',Steps Q (lone (b.atR a (.code (.region id ops g)::k)) cs X.w) (lone (b.atR a' k) cs X'.w)∧Fr Q σ n X' s' a'∧Ext X.H.length X X'∧a'.tmps.size=a.tmps.size:=by
 simp only [bS,If,Bool.or_eq_true,awW]at W;obtain⟨l,E⟩:=W
 obtain⟨j,O,J,h3⟩:∃ j:List St,dq call aos s=some j∧j.getLast?=some s'∧∀ c ∈ gL,sameAt aos j c=true:=by
  unfold fx at h;split at h
  ·obtain⟨j,q,x⟩:=yZ h;exact⟨j,q,x,by simp⟩
  ·split at h
   ·rename_i j L;split at h
    ·rename_i z;exact⟨j,L,h,avP.1 z⟩
    ·simp at h
   ·simp at h
 cases g with
 | false=>
  obtain⟨X',a',q,x⟩:=I4 S U (k:=k) aos 0 X s s' a K (by simpa using l) B (vL O J)
  exact⟨X',a',.head stepR_region (by simpa using q),x⟩
 | true=>
  obtain⟨q,x,g3⟩:=nf O
  let st:Nat→St:=fun i=>j.getD i s
  have d:∀ i u,j[i]?=some u→st i=u:=fun i u hu=>by simp [st,List.getD_eq_getElem?_getD,hu]
  have R:jr Q σ call n ops aos gL st:=by
   refine⟨l,OB (E.resolve_left (by simp)),fun i y M=>?_,fun i e y hc M Y=>?_⟩
   ·obtain⟨u,v,F,H,I⟩:=g3 i y M;rw [d _ _ F,d _ _ H];exact I
   ·have m:=h3 _ hc;simp only [sameAt,M]at m;split at m
    ·rename_i o s1 s2 F H I;cases F;rw [d _ _ H]at Y ⊢;rw [d _ _ I];rw [Y]at m;simp only at m;split at m
     ·rename_i v x1 v' x2 Z N;rw [←V.beq_eq m]at N;exact⟨v,x1,x2,Z,N⟩
     ·simp at m
    ·simp at m
  have h0:st 0=s:=d 0 s x;have hN:st aos.length=s':=d _ _ (by rw [List.getLast?_eq_getElem?,q]at J;simpa using J)
  rw [←h0]at K;rw [←hN];exact aat S A R U B K id
end
section
variable{Q:Program}{σ:Nat→FuncId}{X:Wd}{call:cE}
def F6(X:Wd)(b:Nat):Prop:=∃ f t p a c s q d,X.H[b]?=some (.lp f t p a c s q d)
theorem F6.ext{X X':Wd}(m:Ext X.H.length X X'){b:Nat}(h:F6 X b):F6 X' b∧∀ L,X.bU b=some L→X'.bU b=some L:=by
 obtain⟨f,t,p,a,c,s,q,d,j⟩:=h;obtain⟨blk',g,l⟩:=m.bN b (BY.1 j).1 _ j;cases blk'<;>simp only at l;exact⟨⟨_,_,_,_,_,_,_,_,g⟩,l.2⟩
inductive gk(Q:Program)(σ:Nat→FuncId)(n:Nat)(X:Wd):cm→Item→Prop
 | code {a:aq} {c:Code} (h:bS Q σ n c a=true):gk Q σ n X (.code a) (.code c)
 | inBlock (id:Nat):gk Q σ n X (.inBlock id) (.inBlock id)
 | inLoop {a:aq} {c:Code} (h:bS Q σ n c a=true):gk Q σ n X (.inLoop a) (.inLoop c)
 | im {b:Nat} {L:Loc} (h:X.bU b=some L) (hl:F6 X b):gk Q σ n X (.im b) (.endRangeFunc L.c)
 | mu:gk Q σ n X .mu .beginRound
 | inScope {a:aq} {c:Code} (h:bS Q σ n c a=true) (hs:lF a=true):gk Q σ n X (.inScope a) (.inScope c)
theorem gk.ext{n:Nat}{X X':Wd}(d:Ext X.H.length X X'){x:cm}{y:Item}(h:gk Q σ n X x y):gk Q σ n X' x y:=by
 cases h with
 | code h=>exact .code h
 | inBlock id=>exact .inBlock id
 | inLoop h=>exact .inLoop h
 | im h b=>exact .im ((b.ext d).2 _ h) (b.ext d).1
 | mu=>exact .mu
 | inScope h g=>exact .inScope h g
def RoR(X:Wd):Option Nat→Option Nat→Prop
 | none,none=>True
 | some b,some l=>∃ L,X.bU b=some L∧L.c=l∧F6 X b
 | _,_=>False
theorem RoR.ext{X X':Wd}(g:Ext X.H.length X X'){ro b:Option Nat}(h:RoR X ro b):RoR X' ro b:=by
 cases ro<;>cases b<;>simp only [RoR]at h ⊢;obtain⟨L,j,l,d⟩:=h;exact⟨L,(d.ext g).2 _ j,l,(d.ext g).1⟩
theorem xO{n:Nat}(id:Nat):∀(k:List cm) (ks:List Item),A2 (gk Q σ n X) k ks →
  match Km.exitTo id k with
  | some k'=>∃ b,Go.exitTo id ks=some b∧A2 (gk Q σ n X) k' b
  | none=>Go.exitTo id ks=none
 | [],ks,h=>by
  have:ks=[]:=api h.len.symm
  subst this;rfl
 | x::k,[],h=>by have:=h.len;simp at this
 | x::k,y::ks,h=>by
  obtain⟨m,g⟩:=h.of_cons;have l:=xO id k ks g
  cases m with
  | inBlock d=>
   simp only [Km.exitTo,Go.exitTo];by_cases j:(d == id)=true
   ·simp only [j,if_true];exact⟨ks,rfl,g⟩
   ·simp only [j,atN,if_false];exact l
  | _=>exact l
theorem zY{n:Nat}(l:Nat):∀(a:aq) (c:Code),bS Q σ n c a=true→lF a=true →
  match Km.findLabel a l with
  | some r=>∃ r',Go.findLabel c l=some r'∧bS Q σ n r' r=true
  | none=>Go.findLabel c l=none:=by
 intro a
 induction a with
 | seq a b m q=>
  intro c h g;simp only [lF,If]at g
  cases c with
  | seq c d=>
   simp only [bS,If]at h;have j:=m c h.1 g.1;simp only [Km.findLabel,Go.findLabel]
   cases u:Km.findLabel a l with
   | some r=>
    rw [u]at j;obtain⟨r',v,x⟩:=j;simp only [v]
    exact⟨_,rfl,by simp [bS,x,h.2]⟩
   | none=>
    rw [u]at j;simp only [j]
    exact q d h.2 g.2
  | _=>simp [bS]at h
 | label z=>
  intro c h _
  cases c with
  | label y=>
   simp only [bS,beq_iff_eq]at h;subst h;simp only [Km.findLabel,Go.findLabel];by_cases s:(y == l)=true
   ·simp only [s,if_true];exact⟨_,rfl,by simp [bS]⟩
   ·simp only [s,atN,if_false]
  | _=>simp [bS]at h
 | bad=>intro c h g;simp [lF]at g
 | _=>intro c h _;cases c<;>simp_all [bS,Km.findLabel,Go.findLabel]
theorem xS{n:Nat}(l:Nat):∀(k:List cm) (ks:List Item),A2 (gk Q σ n X) k ks →
  match Km.gotoIn l k with
  | some k'=>∃ b,Go.gotoIn l ks=some b∧A2 (gk Q σ n X) k' b
  | none=>Go.gotoIn l ks=none
 | [],ks,h=>by
  have:ks=[]:=api h.len.symm
  subst this;rfl
 | x::k,[],h=>by have:=h.len;simp at this
 | x::k,y::ks,h=>by
  obtain⟨u,g⟩:=h.of_cons;have s:=xS l k ks g
  cases u with
  | inScope m q=>
   rename_i a c;have d:=zY (Q:=Q) (σ:=σ) l a c m q;simp only [Km.gotoIn,Go.gotoIn]
   cases j:Km.findLabel a l with
   | some r=>
    rw [j]at d;obtain⟨r',v,z⟩:=d;simp only [v]
    exact⟨_,rfl,A2.cons (.code z) (A2.cons (.inScope m q) g)⟩
   | none=>
    rw [j]at d;simp only [d]
    exact s
  | _=>exact s
def aiF:Option aq→List Item→Prop
 | none,b=>b=[]
 | some .ret,b=>∃ k,b=.code .ret::k
 | some (.exit id),b=>∃ k,b=.code (.exit id)::k∧Go.exitTo id k=none
 | _,_=>False
end
section
variable{Q:Program}{σ:Nat→FuncId}{X:Wd}{call:cE}
theorem pP{b:Nat}{L:Loc}(x:SR Q σ X)(v:X.bU b=some L){f:Nat}{t:T}{ps:List P}{as bd:aq}{q:fL}{g:Option aq}{d:Nat}(y:X.H[b]?=some (.lp f t ps as bd q g d)) :
  ∃(n:Nat) (us:Array Value) (m:Array Tmp) (as' j:Code) (pend':Option Code) (u:Loc),
   X.w.heap[L.c]?=some (.loop { state:=q.of,pending:=pend',fn:=σ f,tmps:=us,params:=m,assign:=as',body:=j,defers:=u.c }) ∧
   n≤us.size∧RR σ X t us∧ff (fun p (q:P)=>q.toNat == p&&decide (p<n)) m.toList ps=true∧bS Q σ n as' as=true∧bS Q σ n j bd=true∧yu Q σ n g pend'∧X.bU d=some u∧∃ o,X.H[d]?=some (.jM o):=by
 obtain⟨_,_,aX,l,s⟩:=x.br b L v;rw [y]at l;cases l;exact s
theorem AV(J:SR Q σ X){b:Nat}{L:Loc}(I:X.bU b=some L){f:Nat}{t:T}{ps:List P}{as bd:aq}{q q':fL}{y pend1:Option aq}{d:Nat}(s:X.H[b]?=some (.lp f t ps as bd q y d))
  {n:Nat} {us:Array Value} {j:Array Tmp} {as' g:Code} {pend':Option Code} {u:Loc}
  (O:n≤us.size) (S:RR σ X t us) (U:ff (fun p (q:P)=>q.toNat == p&&decide (p<n)) j.toList ps=true) (W:bS Q σ n as' as=true) (Y:bS Q σ n g bd=true) (Z:yu Q σ n pend1 pend') (h8:X.bU d=some u) (z:∃ o,X.H[d]?=some (.jM o)) :
  SR Q σ { X with H:=X.H.set b (.lp f t ps as bd q' pend1 d),w:=X.w.putObj L.c (.loop { state:=q'.of,pending:=pend',fn:=σ f,tmps:=us,params:=j,assign:=as',body:=g,defers:=u.c }) } ∧
  Ext X.H.length X { X with H:=X.H.set b (.lp f t ps as bd q' pend1 d),w:=X.w.putObj L.c (.loop { state:=q'.of,pending:=pend',fn:=σ f,tmps:=us,params:=j,assign:=as',body:=g,defers:=u.c }) }:=by
 obtain⟨m,b7,a_,M,N,a8,K,v,_⟩:=pP J I s;have A:b<X.H.length:=(BY.1 s).1
 refine SR.qJ (o':=.loop { state:=q'.of,pending:=pend',fn:=σ f,tmps:=us,params:=j,assign:=as',body:=g,defers:=u.c }) (blk':=.lp f t ps as bd q' pend1 d) J s I v (by simp) (by simp)
  (fun aX l=>⟨.lp f t ps as bd q' pend1 d,by simp [A],by rw [s]at l;cases l;exact⟨⟨rfl,rfl,rfl,rfl,rfl,rfl⟩,fun L h=>h⟩⟩)
  (fun X' F E _ x hH=>?_)
 obtain⟨o,z⟩:=z;refine⟨n,us,j,as',g,pend',u,E,O,RR.ext' σ F S,U,W,Y,Z,by rw [x];exact h8,o,?_⟩
 have B:b≠d:=fun e=>by rw [e,z]at s;cases s
 rw [hH,By B];exact z
end
section
variable{Q:Program}{σ:Nat→FuncId}{call:cE}
structure Way(Q:Program)(σ:Nat→FuncId)(fn:Nat)(n:Nat)(b:Frame)(cs:List Frame)(ro:Option Nat)(todo:List cm)(items:List Item)(s:St)(X:Wd)(a:Act):Prop where
 fr:Fr Q σ n X s a
 items:A2 (gk Q σ n X) todo items
 ro:RoR X ro b.roundOf
 kind:iC b cs
 fn:b.fn=σ fn
theorem Way.ext{fn n:Nat}{b:Frame}{cs:List Frame}{ro:Option Nat}{j:List cm}{items:List Item}{s s':St}{X X':Wd}{a a':Act}(h:Way Q σ fn n b cs ro j items s X a){g:List cm}{d:List Item}(l:Ext X.H.length X X')(m:Fr Q σ n X' s' a')
  (hi:A2 (gk Q σ n X) g d):Way Q σ fn n b cs ro g d s' X' a':=
 ⟨m,hi.kC fun _ _ h=>h.ext l,h.ro.ext l,h.kind,h.fn⟩
theorem Way.to{fn n:Nat}{b:Frame}{cs:List Frame}{ro:Option Nat}{j:List cm}{items:List Item}{s:St}{X:Wd}{a:Act}(h:Way Q σ fn n b cs ro j items s X a){g:List cm}{d:List Item}
  (hi:A2 (gk Q σ n X) g d):Way Q σ fn n b cs ro g d s X a:=⟨h.fr,hi,h.ro,h.kind,h.fn⟩
def anh(Q:Program)(σ:Nat→FuncId)(call:cE)(fn m:Nat):Prop:=
 ∀(n:Nat) (b:Frame) (cs:List Frame) ro l g s X a j s',run call fn m ro l s=some (j,s')→Way Q σ fn n b cs ro l g s X a →
  ∃ X' a' d,Steps Q (lone (b.atR a g) cs X.w) (lone (b.atR a' d) cs X'.w)∧Fr Q σ n X' s' a'∧Ext X.H.length X X'∧a'.tmps.size=a.tmps.size∧aiF j d
theorem wP{b:Frame}{a:Act}{k:List Item}{cs:List Frame}{w:World}{body:Code}:step Q (lone (b.atR a (.inScope body::k)) cs w)=.next (lone (b.atR a k) cs w):=
 step_lone_go (by simp [stepG,stepG.exec,Frame.atR])
theorem DJ{b:Frame}{a:Act}{k:List Item}{cs:List Frame}{w:World}{body:Code}:step Q (lone (b.atR a (.code (.scope body)::k)) cs w)=.next (lone (b.atR a (.code body::.inScope body::k)) cs w):=
 step_lone_go (by simp [stepG,stepG.exec,Frame.atR])
theorem abU(hC:ei Q σ call)(g_:Q.follows .mixedOrders=true)(fn:Nat):∀ m,anh Q σ call fn m:=by
 intro m
 induction m with
 | zero=>intro n b cs ro c_ I s X a F s' h;simp [run]at h
 | succ m ih=>
  intro n b cs ro c_ I s X a F s' h z
  have go:∀ {B j},run call fn m ro B s=some (F,s')→A2 (gk Q σ n X) B j→step Q (lone (b.atR a I) cs X.w)=.next (lone (b.atR a j) cs X.w) →
    ∃ X' a' j,Steps Q (lone (b.atR a I) cs X.w) (lone (b.atR a' j) cs X'.w)∧Fr Q σ n X' s' a'∧Ext X.H.length X X'∧a'.tmps.size=a.tmps.size∧aiF F j:=by
   intro B j hr hi S;obtain⟨X',a',it,g1,M⟩:=ih n b cs ro B j s X a F s' hr (z.to hi);exact⟨X',a',it,.head S g1,M⟩
  cases c_ with
  | nil=>
   have:I=[]:=api z.items.len.symm;subst this;simp only [run,sh,IS]at h;obtain⟨rfl,rfl⟩:=h
   exact⟨X,a,[],Steps.refl _ _,z.fr,Ext.refl _ _,rfl,rfl⟩
  | cons x k=>
   cases I with
   | nil=>have:=z.items.len;simp at this
   | cons it ks=>
    obtain⟨hx,A⟩:=z.items.of_cons
    cases hx with
    | inBlock id=>exact go (by simpa [run]using h) A stepR_inBlock
    | inLoop E=>exact go (by simpa [run]using h) (A2.cons (.code E) (A2.cons (.inLoop E) A)) stepR_inLoop
    | inScope E hs=>exact go (by simpa [run]using h) A wP
    | im hb hl=>
     rename_i bb L;simp only [run]at h;split at h
     ·rename_i f t ps as bd q c9 d J;split at h
      ·simp at h
      ·rename_i hq;rw [←z.fr.heap]at J;obtain⟨m0,us,Z,as',U,pend',Ld,b7,h2,h3,h4,h5,h6,W,h8,h9⟩:=pP z.fr.sr hb J;obtain⟨g1,M⟩:=AV z.fr.sr hb J (q':=.exhausted) h2 h3 h4 h5 h6 W h8 h9;have l9:(q.of)≠LoopState.busy:=by cases q<;>simp [fL.of]at hq ⊢
       have S:=stepR_endRangeFunc (P:=Q) (b:=b) (a:=a) (k:=ks) (cs:=cs) (run_endLoop (P:=Q) b7 l9)
       have key:∀ {B j},run call fn m ro B { s with heap:=s.heap.set bb (.lp f t ps as bd .exhausted c9 d) }=some (F,s')→A2 (gk Q σ n X) B j→j=(pend'.map Item.code).toList++ks →
         ∃ X' a' j,Steps Q (lone (b.atR a (.endRangeFunc L.c::ks)) cs X.w) (lone (b.atR a' j) cs X'.w)∧Fr Q σ n X' s' a'∧Ext X.H.length X X'∧a'.tmps.size=a.tmps.size∧aiF F j:=by
        intro B j hr hi he;obtain⟨X',a',it,k1,k2,k3,k4,k5⟩:=ih n b cs ro B j _ _ a F s' hr (z.ext (a':=a) M ⟨by rw [←z.fr.heap],g1,by simpa [World.putObj]using z.fr.b,z.fr.au.ext' σ M,z.fr.defs.ext' M,z.fr.size⟩ hi)
        rw [he]at k1;exact⟨X',a',it,.head S k1,k2,M.trans (k3.mono M.len),k4,k5⟩
       split at h
       ·cases pend' with
        | none=>exact key h A rfl
        | some c=>exact W.elim
       ·cases pend' with
        | none=>exact W.elim
        | some c=>
         have W:bS Q σ m0 c .ret=true:=W;cases c<;>simp [bS]at W;exact key h (A2.cons (.code (by simp [bS])) A) rfl
       ·rename_i id
        cases pend' with
        | none=>exact W.elim
        | some c=>
         have W:bS Q σ m0 c (.exit id)=true:=W;cases c<;>simp [bS]at W;subst W;exact key h (A2.cons (.code (by simp [bS])) A) rfl
       ·simp at h
     ·simp at h
    | mu=>
     simp only [run]at h;split at h
     ·simp at h
     ·rename_i bb;split at h
      ·rename_i f t ps as bd c9 d J;have K:=z.ro
       cases d6:b.roundOf with
       | none=>rw [d6]at K;exact K.elim
       | some l=>
        rw [d6]at K;obtain⟨L,hL,rfl,_⟩:=K;rw [←z.fr.heap]at J;obtain⟨m0,us,Z,as',U,pend',Ld,b7,h2,h3,h4,h5,h6,W,h8,h9⟩:=pP z.fr.sr hL J;obtain⟨g1,M⟩:=AV z.fr.sr hL J (q':=.busy) h2 h3 h4 h5 h6 W h8 h9;have S:=stepR_beginRound (P:=Q) (b:=b) (a:=a) (k:=ks) (cs:=cs) d6 (run_beginRound (P:=Q) b7 rfl);obtain⟨X',a',it,k1,k2,k3,k4,k5⟩:=ih n b cs _ k ks _ _ a F s' h (z.ext (a':=a) M ⟨by rw [←z.fr.heap],g1,by simpa [World.putObj]using z.fr.b,z.fr.au.ext' σ M,z.fr.defs.ext' M,z.fr.size⟩ A)
        exact⟨X',a',it,.head S k1,k2,M.trans (k3.mono M.len),k4,k5⟩
      ·simp at h
    | code E=>
     rename_i ac c
     cases ac with
     | bad=>simp [run]at h
     | skip=>cases c<;>simp [bS]at E;exact go (by simpa [run]using h) A stepR_skip
     | label l=>cases c<;>simp [bS]at E;exact go (by simpa [run]using h) A stepR_label
     | scope p=>
      cases c<;>simp [bS]at E
      exact go (by simpa [run]using h) (A2.cons (.code E.1) (A2.cons (.inScope E.1 E.2) A)) DJ
     | goto l=>
      cases c<;>simp [bS]at E;subst E;rename_i l';have O:=xS (Q:=Q) (σ:=σ) (n:=n) (X:=X) l' k ks A;simp only [run]at h;split at h
      ·rename_i k' H;rw [H]at O;obtain⟨n4,he,a_⟩:=O;exact go h a_ (stepR_goto he)
      ·simp at h
     | ret=>
      cases c<;>simp [bS]at E;simp only [run,sh,IS]at h;obtain⟨rfl,rfl⟩:=h
      exact⟨X,a,_,Steps.refl _ _,z.fr,Ext.refl _ _,rfl,ks,rfl⟩
     | seq p q=>
      cases c<;>simp [bS]at E
      exact go (by simpa [run]using h) (A2.cons (.code E.1) (A2.cons (.code E.2) A)) stepR_seq
     | block id p=>
      cases c<;>simp [bS]at E;obtain⟨rfl,E⟩:=E
      exact go (by simpa [run]using h) (A2.cons (.code E) (A2.cons (.inBlock _) A)) stepR_block
     | loop p=>
      cases c<;>simp [bS]at E
      exact go (by simpa [run]using h) (A2.cons (.code E) (A2.cons (.inLoop E) A)) stepR_loop
     | exit id=>
      cases c<;>simp [bS]at E;subst E;rename_i m_;have O:=xO (Q:=Q) (σ:=σ) (n:=n) (X:=X) m_ k ks A;simp only [run]at h;split at h
      ·rename_i k' H;rw [H]at O;obtain⟨n4,he,a_⟩:=O;exact go h a_ (stepR_exit he)
      ·rename_i H;rw [H]at O;split at h
       ·simp only [sh,IS]at h;obtain⟨rfl,rfl⟩:=h;exact⟨X,a,_,Steps.refl _ _,z.fr,Ext.refl _ _,rfl,ks,rfl,O⟩
       ·simp at h
     | cond x p q=>
      cases c<;>simp [bS]at E;simp only [run]at h;split at h
      ·rename_i v hv;have hx:=bF z.fr.au E.1.1;rw [hv]at hx;have m9:cD σ X.F X.w (.bool v) _:=hx;have he:∀ u,cD σ X.F X.w (.bool v) u→u=.bool v:=fun u hu=>by cases hu;rfl
       refine go h ?_ (stepR_cond (he _ m9));cases v
       ·exact A2.cons (.code E.2) A
       ·exact A2.cons (.code E.1.2) A
      ·simp at h
     | region aos gL=>
      cases c with
      | region id ops n5=>
       simp only [run]at h;split at h
       ·simp at h
       ·rename_i K;split at h
        ·rename_i s1 h1
         have l_:∀ y ∈ aos,fV y.op b:=by
          intro y hy;unfold fV
          cases ro with
          | none=>
           refine .inl ?_;have:=z.ro
           cases hb:b.roundOf with
           | none=>rfl
           | some l=>rw [hb]at this;exact this.elim
          | some r=>
           simp only [Option.isSome_some,Bool.true_and,awW,Bool.not_eq_false]at K;exact .inr (avP.1 K y hy)
         obtain⟨X1,a1,g1,M,g3,g4⟩:=OW hC g_ E z.kind l_ (k:=ks) z.fr h1;obtain⟨X',a',it,k1,k2,k3,k4,k5⟩:=ih n b cs ro k ks s1 X1 a1 F s' h (z.ext g3 M A);exact⟨X',a',it,g1.trans k1,k2,g3.trans (k3.mono g3.len),k4.trans g4,k5⟩
        ·simp at h
      | _=>simp [bS]at E
     | jQ f ps as bd=>
      cases c with
      | rangeFunc f' Z as' U=>
       simp only [bS,If]at E;obtain⟨⟨⟨j9,j_⟩,k_⟩,l7⟩:=E;simp only [run]at h;split at h
       ·simp at h
       ·rename_i K
        have m4:b.roundOf=none:=by
         have:=z.ro
         cases ro with
         | some r=>simp at K
         | none=>
          cases hb:b.roundOf with
          | none=>rfl
          | some l=>rw [hb]at this;exact this.elim
        split at h
        ·rename_i g args e_;split at h
         ·rename_i r2 H2 N
          obtain⟨X1,w1,H1,S1,E1,r1,B1⟩:=SR.new z.fr.sr z.fr.b (.jM true) (dz.alloc X.w (.deferred (some []))) 0 (fun X' hx hw hF hH=>by
           show X'.w.heap[X.w.heap.size]?=_
           rw [hw];exact(dz.alloc X.w (.deferred (some []))).new)
          have f_:X1.H[X.H.length]?=some (.jM true):=by rw [H1];simp
          have b9:X.H.length<X1.H.length:=by rw [H1];simp
          have h_:X1.w.heap.size=X.w.heap.size+1:=by rw [w1];simp
          obtain⟨X2,w2,i_,S2,E2,d8,B2⟩:=SR.new S1 B1 (.lp fn s.au ps as bd .ready none s.heap.length)
           (dz.alloc X1.w (.loop { state:=.ready,pending:=none,fn:=b.fn,tmps:=a.tmps,params:=Z,assign:=as',body:=U,defers:=X.w.heap.size })) 0 (fun X' hx hw hF hH=>by
            obtain⟨blk',d5,H⟩:=hx.bN X.H.length b9 _ f_;cases blk'<;>simp only at H;refine⟨n,a.tmps,Z,as',U,none,⟨X.w.heap.size,0⟩,?_,z.fr.size,RR.ext' σ hx (RR.ext' σ E1 z.fr.au),j_,k_,l7,trivial,?_,?_⟩
            ·show X'.w.heap[X1.w.heap.size]?=_
             rw [hw,(dz.alloc X1.w (.loop { state:=.ready,pending:=none,fn:=b.fn,tmps:=a.tmps,params:=Z,assign:=as',body:=U,defers:=X.w.heap.size })).new,z.fn];rfl
            ·rw [←z.fr.heap];exact H _ r1
            ·rw [←z.fr.heap];exact⟨_,d5⟩)
          have d7:Ext X.H.length X X2:=E1.trans (E2.mono E1.len);have d9:X2.H=s.heap++[.jM true,.lp fn s.au ps as bd .ready none s.heap.length]:=by rw [i_,H1,←z.fr.heap];simp
          have j8:X1.H.length=s.heap.length+1:=by rw [H1,←z.fr.heap];simp
          have J:F6 X2 (s.heap.length+1):=⟨fn,s.au,ps,as,bd,.ready,none,s.heap.length,by rw [d9,avM (by omega)];simp⟩
          rw [j8,h_]at d8;have d_:A2 (VR σ X2) [.c (.yl (s.heap.length+1))] [.func (.yield (X.w.heap.size+1)) #[] #[]]:=A2.cons ⟨⟨X.w.heap.size+1,0⟩,d8,J,rfl⟩ A2.nil;obtain⟨fst,cap,m5,m7⟩:=ou e_ (VR.ext' σ d7 (bF z.fr.au j9)) d_;rw [←d9]at N;have j7:=hC.enters _ _ _ _ N
          let a1:Act:={ a with defers:={ target:=.collected X.w.heap.size,args:=#[] }::a.defers }
          obtain⟨fr,X3,u,q1,⟨l1,l2,l3,l4,j3,l5,l6⟩,q3,q4,q5,q6,q7⟩:=hC.fn g args _ r2 H2 N X2 _ .normal (b.atR a1 (.inRangeFunc (X.w.heap.size+1)::ks)::cs) rfl S2 B2 m7 (.inl rfl)
          have S:step Q (lone (b.atR a (.code (.rangeFunc f' Z as' U)::ks)) cs X.w)=.next (lone (Frame.enter Q (σ g) (fst.toArray++#[.func (.yield (X.w.heap.size+1)) #[] #[]]++cap.toArray) .normal) (b.atR a1 (.inRangeFunc (X.w.heap.size+1)::ks)::cs) X2.w):=by
           refine stepR_rangeFunc (P:=Q) (b:=b) (a:=a) (k:=ks) (cs:=cs) (l:=X.w.heap.size+1) (mark:=[{ target:=.collected X.w.heap.size,args:=#[] }]) (w₁:=X2.w) (w₁':=X2.w) (d:={ target:=.fn (.func (σ g)) cap.toArray,args:=fst.toArray++#[.func (.yield (X.w.heap.size+1)) #[] #[]] }) ?_ ?_ ?_
           ·rw [m4,run_enterLoop_outer,w2,w1]
           ·simp only [resolve,m5,Deferred.ofValue,Sem.run_bind,Sem.run_pure,Result.andThen_ok];simp [Act.eval]
           ·exact eb j7
          have Y:Ext X.H.length X X3:=d7.trans (q6.mono d7.len);have a8:=step_leave_returned (P:=Q) (c:=b.atR a1 (.inRangeFunc (X.w.heap.size+1)::ks)) (cs:=cs) (show fr.leaving Q X3.w (.returned u) from⟨l1,l2,l3,j3,by rw [l4];exact l5,l6⟩)
          rw [finish_atR_inRangeFunc]at a8;have b_:=J.ext q6
          have j4:tU σ X3 (.py s.heap.length) { target:=.collected X.w.heap.size,args:=#[] }:=by
           obtain⟨blk',d5,H⟩:=(E2.trans (q6.mono E2.len)).bN X.H.length b9 _ f_;cases blk'<;>simp only at H;rw [←z.fr.heap];exact⟨⟨X.w.heap.size,0⟩,_,H _ r1,d5,rfl⟩
          obtain⟨X',a',it,k1,k2,k3,k4,k5⟩:=ih n b cs ro (.im (s.heap.length+1)::k) (.endRangeFunc (X.w.heap.size+1)::ks) _ X3 a1 F s' h
           ⟨⟨q3,q4,q7,RR.ext' σ Y z.fr.au,A2.cons j4 (z.fr.defs.ext' Y),z.fr.size⟩,A2.cons (.im (b_.2 _ d8) b_.1) (A.kC fun _ _ h=>h.ext Y),z.ro.ext Y,z.kind,z.fn⟩
          refine⟨X',a',it,.head S (Steps.trans ?_ (.head a8 k1)),k2,Y.trans (k3.mono Y.len),k4,k5⟩;simpa using q1
         ·simp at h
        ·simp at h
      | _=>simp [bS]at E
end
section
variable{Q:Program}{σ:Nat→FuncId}{X:Wd}{call:cE}
def ZP(Q:Program)(σ:Nat→FuncId)(nK:Nat→List V→ai→Option (Option (V × ai))):Prop:=
 ∀ f args H r H',nK f args H=some (some (r,H')) →
  (∀ as w,(callFunc (σ f) as).run Q w=.ok (.enter (σ f) as) w) ∧
  ∀(X:Wd) us b cs,X.H=H→SR Q σ X→X.B≤X.w.heap.size→A2 (VR σ X) args us→oB b cs →
   ∃ fr X' u,Steps Q (lone (Frame.enter Q (σ f) us.toArray b) cs X.w) (lone fr cs X'.w)∧Leaves Q (σ f) b fr u X'.w∧ry Q σ X r H' X' u
structure Env(Q:Program)(σ:Nat→FuncId)(tab:Nat→Option ax)(nK:Nat→List V→ai→Option (Option (V × ai))):Prop where
 mix:Q.follows .mixedOrders=true
 fn:∀ f af,tab f=some af→∃ fn,Q.funcs[σ f]?=some fn∧H7 Q σ fn af=true
 nK:ZP Q σ nK
theorem vC:∀(ps:List P) (args:List V) (t:T) (s:Nat),ps.map P.toNat=List.range' s ps.length→args.length=ps.length→∀ q:P,
  (cC ps args t).get q=if s≤q.toNat then(args[q.toNat-s]?).getD (t.get q)else t.get q
 | [],args,t,s,_,b,q=>by
  have:args=[]:=api b;subst this
  simp [cC]
 | p::ps,[],t,s,_,b,q=>by simp at b
 | p::ps,v::y,t,s,d,b,q=>by
  simp only [List.map_cons,List.length_cons,List.range'_succ,List.cons.injEq]at d;have x:=vC ps y (t.set p v) (s+1) d.2 (by simpa using b) q
  simp only [cC,x];by_cases j:p=q
  ·subst j;rw [if_neg (by omega),T.pI]
   simp [d.1]
  ·have u:q.toNat≠s:=fun e=>j (P.toNat_inj (d.1.trans e.symm))
   simp only [T.pI,j,if_false];by_cases l:s≤q.toNat
   ·have g:s+1≤q.toNat:=by omega
    have m:q.toNat-s=(q.toNat-(s+1))+1:=by omega
    simp [g,l,m]
   ·have g:¬ (s+1≤q.toNat):=by omega
    simp [g,l]
theorem RR.cC:∀(ps:List P) (b:List Tmp) (args:List V) (us:List Value) (au:T) (tmps:Array Value) (n:Nat),n≤tmps.size→RR σ X au tmps→A2 (VR σ X) args us→args.length=ps.length →
  ff (fun p (q:P)=>q.toNat == p&&decide (p<n)) b ps=true→RR σ X (Km.cC ps args au) ((b.zip us).foldl (fun tmps (t,a)=>tmps.setIfInBounds t a) tmps)
 | [],b,args,us,au,tmps,n,l,j,d,g,h=>by
  have:args=[]:=api g;subst this;have:us=[]:=api d.len.symm;subst this
  simpa [Km.cC]using j
 | p::ps,[],args,us,au,tmps,n,l,j,d,g,h=>by simp [ff]at h
 | p::ps,s::b,[],us,au,tmps,n,l,j,d,g,h=>by simp at g
 | p::ps,s::b,v::x,[],au,tmps,n,l,j,d,g,h=>by have:=d.len;simp at this
 | p::ps,s::b,v::x,u::us,au,tmps,n,l,j,d,g,h=>by
  simp only [ff,If,beq_iff_eq,decide_eq_true_eq]at h;obtain⟨⟨y,A⟩,z⟩:=h;obtain⟨m,d⟩:=d.of_cons;subst y;refine RR.cC ps b x us _ _ n (by simpa using l) (RR.set σ j (by omega) m) d (by simpa using g) z
theorem sR:∀(l:List (Tmp × Value)) (tmps:Array Value),(l.foldl (fun tmps (t,a)=>tmps.setIfInBounds t a) tmps).size=tmps.size
 | [],_=>rfl
 | x::l,tmps=>by rw [List.foldl_cons,sR l];simp
theorem abT(fn:Nat):∀ m d s b s',run call fn m none d s=some (b,s')→b=none∨b=some .ret:=by
 intro m
 induction m with
 | zero=>intro d s b s' h;simp [run]at h
 | succ m g=>
  intro d s b s' h;unfold run at h;split at h
  all_goals first
   | exact g _ _ _ _ h
   | (simp at h;done)
   | skip
  ·simp only [sh,IS]at h;exact .inl h.1.symm
  ·split at h
   ·split at h
    ·simp at h
    ·split at h
     ·exact g _ _ _ _ h
     ·exact g _ _ _ _ h
     ·exact g _ _ _ _ h
     ·simp at h
   ·simp at h
  ·split at h
   ·exact g _ _ _ _ h
   ·simp at h
  ·simp only [sh,IS]at h;exact .inr h.1.symm
  ·split at h
   ·exact g _ _ _ _ h
   ·simp at h
  ·split at h
   ·exact g _ _ _ _ h
   ·simp at h
  ·split at h
   ·simp at h
   ·split at h
    ·exact g _ _ _ _ h
    ·simp at h
  ·split at h
   ·simp at h
   ·simp only at h;split at h
    ·split at h
     ·exact g _ _ _ _ h
     ·simp at h
    ·simp at h
theorem sN{fn:Func}{af:ax}(h:H7 Q σ fn af=true):∃ c,fn.name≠ "runtime.NumGoroutine"∧fn.body=some c∧bS Q σ fn.ntmps c af.body=true ∧
  ff (Al Q fn.ntmps) fn.results.toList af.results=true∧af.ps.map P.toNat=List.range af.ps.length:=by
 simp only [H7,If,bne_iff_ne,ne_eq,decide_eq_true_eq]at h;obtain⟨⟨⟨h1,h2⟩,h3⟩,h4⟩:=h
 cases hb:fn.body with
 | none=>rw [hb]at h2;simp at h2
 | some c=>rw [hb]at h2;exact⟨c,h1,rfl,h2,h3,h4⟩
theorem AL{f:FuncId}{fn:Func}{c:Code}(hf:Q.funcs[f]?=some fn)(hn:fn.name≠ "runtime.NumGoroutine")(hb:fn.body=some c)(as:Array Value)(w:World):(callFunc f as).run Q w=.ok (.enter f as) w:=by
 simp [callFunc,hf,hn,hb]
def iL(g:FuncId)(b:CallKind)(tmps:Array Value)(ds:List Deferred)(fr:Frame):Prop:=
 fr.mode=.returning∧fr.defers=ds∧fr.kind=b∧fr.fn=g∧fr.tmps=tmps
theorem step_collected{fr:Frame}{cs:List Frame}{w w':World}{b:Nat}{as:Array Value}{ds:List Deferred}(g:fr.mode=.returning)(d:fr.defers = { target:=.collected b,args:=as }::ds)
  (hr:(Instr.takeDeferred b).run Q w=.ok [] w'):step Q (lone fr cs w)=.next (lone { fr with defers:=ds } cs w'):=
 step_lone_go (by simp [stepG,unwind,g,d,Sem.runT_eq,hr])
theorem wQ{fr:Frame}{cs:List Frame}{w:World}{f:FuncId}{cap as as':Array Value}{ds:List Deferred}(d:fr.mode=.returning)(b:fr.defers = { target:=.fn (.func f) cap,args:=as }::ds)
  (hr:(invoke (.fn (.func f) cap) as).run Q w=.ok (.enter f as') w):step Q (lone fr cs w)=.next (lone (Frame.enter Q f as' .deferred) ({ fr with defers:=ds }::cs) w):=
 step_lone_go (by simp [stepG,unwind,d,b,callDeferred,Sem.runT_eq,hr])
theorem nQ{fr c:Frame}{cs:List Frame}{w:World}{v:Value}{f:FuncId}(h:Leaves Q f .deferred fr v w)(hc:c.mode=.returning) :
  step Q (lone fr (c::cs) w)=.next (lone c cs w):=by
 obtain⟨m,g,l,j,fn,b,d⟩:=h;rw [←j]at b;exact step_lone_go (by simp [stepG,unwind,doReturn,m,g,l,b,Sem.runT_eq,d,hc])
theorem iL.pop{g:FuncId}{kind:CallKind}{tmps:Array Value}{d:Deferred}{ds:List Deferred}{fr:Frame}(h:iL g kind tmps (d::ds) fr):iL g kind tmps ds { fr with defers:=ds }:=
 ⟨h.1,rfl,h.2.2.1,h.2.2.2.1,h.2.2.2.2⟩
theorem zS(F:ei Q σ call){g:FuncId}{x:CallKind}{tmps:Array Value}{cs:List Frame}:∀(ds:List dt) (X:Wd) (l:List Deferred) (fr:Frame) (H':ai),
  dD call ds X.H=some H'→SR Q σ X→X.B≤X.w.heap.size→eZ σ X ds l→iL g x tmps l fr →
  ∃ fr' X',Steps Q (lone fr cs X.w) (lone fr' cs X'.w)∧iL g x tmps [] fr'∧X'.H=H'∧SR Q σ X'∧X'.B≤X'.w.heap.size∧Ext X.H.length X X'
 | [],X,l,fr,H',h,A,B,y,j=>by
  have:l=[]:=api y.len.symm;subst this;simp only [dD,sh]at h
  exact⟨fr,X,Steps.refl _ _,j,h,A,B,Ext.refl _ _⟩
 | d::ds,X,[],fr,H',h,A,B,y,j=>by have:=y.len;simp at this
 | .py b::ds,X,m::l,fr,H',h,A,B,y,j=>by
  obtain⟨⟨L,o,h1,h2,rfl⟩,z⟩:=A2.of_cons y;simp only [dD]at h;split at h
  ·rename_i H;obtain⟨_,_,aX,E,J⟩:=A.br b L h1;rw [H]at E;cases E;have v:X.w.heap[L.c]?=some (.deferred (some [])):=J
   obtain⟨g1,I⟩:=SR.qJ (o':=.deferred none) (blk':=.jM false) A H h1 v (by simp) (by simp)
    (fun aX s=>⟨.jM false,by simp [(BY.1 H).1],by rw [H]at s;cases s;exact fun L h=>h⟩)
    (fun X' b7 M _ a8 hH=>M)
   obtain⟨fr',X',N,O,S,U,W,Y⟩:=zS F ds _ l { fr with defers:=l } H' h g1 (by simpa using B) (eZ.ext' I z) j.pop
   exact⟨fr',X',.head (step_collected j.1 j.2.1 (run_takeDeferred v)) N,O,S,U,W,I.trans (Y.mono I.len)⟩
  ·simp at h
 | .fn f args::ds,X,m::l,fr,H',h,A,B,y,j=>by
  obtain⟨⟨us,cap,rfl,hA⟩,z⟩:=A2.of_cons y;simp only [dD]at h;split at h
  ·rename_i r H1 q;have K:=F.enters f args _ _ q;obtain⟨a_,X1,u,q1,q2,q3,q4,q5,Z,q7⟩:=F.fn f args _ r H1 q X _ .deferred ({ fr with defers:=l }::cs) rfl A B hA (.inr ⟨rfl,_,_,rfl,j.1⟩);rw [←q3]at h;obtain⟨fr',X',N,O,S,U,W,Y⟩:=zS F ds X1 l { fr with defers:=l } H' h q4 q7 (eZ.ext' Z z) j.pop;refine⟨fr',X',.head (wQ (as':=us++cap) j.1 j.2.1 (eb K)) (Steps.trans ?_ (.head (nQ (c:={ fr with defers:=l }) q2 j.1) N)),O,S,U,W,Z.trans (Y.mono Z.len)⟩;have e:(us.toList++cap.toList).toArray=us++cap:=by apply Array.ext';simp
   rw [e]at q1;exact q1
  ·simp at h
theorem amk(E:SR Q σ X){n:Nat}{au:T}{tmps:Array Value}(m:RR σ X au tmps){r:ResultVar}{a:iq}(g:Al Q n r a=true){v:V}
  (h:bG au X.H a=some v):∃ u,(match r with | .tmp t=>pure (tmps.getD t undef) | .cell a t=>do loadVar t (←asAddr (tmps.getD a undef)):Sem Value).run Q X.w=.ok u X.w∧ik σ X v u:=by
 cases r with
 | tmp t=>
  cases a with
  | tmp p=>
   simp only [Al,If,beq_iff_eq,decide_eq_true_eq]at g;have d:=m p;rw [g.1]at d;simp only [bG]at h;refine⟨_,rfl,?_⟩;split at h
   ·simp at h
   ·rename_i j;simp only [sh]at h;rw [h]at d
    cases v with
    | t H=>exact absurd h (j H)
    | top=>trivial
    | c x=>exact d
    | a xs=>exact d
  | cell p k=>simp [Al]at g
 | cell t I=>
  cases a with
  | tmp p=>simp [Al]at g
  | cell p k=>
   simp only [Al,If,beq_iff_eq,decide_eq_true_eq]at g;have d:=m p;rw [g.1.1]at d;simp only [bG]at h
   cases q:au.get p with
   | c x=>
    rw [q]at h d;simp only [aQ,Option.bind_eq_some_iff]at h;obtain⟨cs,s,b⟩:=h;obtain⟨c,o,us,F,z,A⟩:=uz E d s;obtain⟨u,B,l⟩:=DK g.2 z A b;refine⟨u,by simp [F,asAddr,B],?_⟩
    cases k with
    | none=>cases cs with
     | nil=>simp [aF]at b
     | cons y ys=>simp only [aF,sh]at b;subst b;exact l
    | some k=>
     simp only [aF]at b;split at b
     ·simp only [sh]at b;subst b;exact l
     ·simp at b
   | _=>rw [q]at h;simp [aQ]at h
theorem GN(K:SR Q σ X){fn:Func}{m:List iq}(L:ff (Al Q fn.ntmps) fn.results.toList m=true){au:T}{tmps:Array Value}(J:RR σ X au tmps){v:V}
  (h:Km.results au X.H m=some v):∃ u,(Go.results fn tmps).run Q X.w=.ok u X.w∧VR σ X v u:=by
 have key:∀(m:List iq) (qs:List ResultVar) (j:List V),ff (Al Q fn.ntmps) qs m=true→aU (bG au X.H) m=some j →
   ∃ us:List Value,(qs.mapM (fun r=>match r with | .tmp t=>pure (tmps.getD t undef) | .cell a t=>do loadVar t (←asAddr (tmps.getD a undef)):ResultVar→Sem Value)).run Q X.w=.ok us X.w∧A2 (ik σ X) j us:=by
  intro m
  induction m with
  | nil=>
   intro qs j x l
   cases qs with
   | nil=>simp only [aU,sh]at l;subst l;exact⟨[],rfl,A2.nil⟩
   | cons q qs=>simp [ff]at x
  | cons a m M=>
   intro qs j x l
   cases qs with
   | nil=>simp [ff]at x
   | cons q qs=>
    simp only [ff,If]at x;simp only [aU]at l;split at l
    ·simp at l
    ·rename_i A E;split at l
     ·simp at l
     ·rename_i B F;simp only [sh]at l;subst l;obtain⟨u,s,b⟩:=amk K J x.1 E;obtain⟨us,H,I⟩:=M qs B x.2 F;refine⟨u::us,?_,A2.cons b I⟩;rw [List.mapM_cons,Sem.run_bind,s];simp only [Result.andThen_ok,Sem.run_bind,H,Sem.run_pure]
 unfold Km.results at h
 have y:∀ j,aU (bG au X.H) m=some j→∃ us:List Value,(Go.results fn tmps).run Q X.w=.ok (if h:us.toArray.size=1 then us.toArray[0]else .tuple us.toArray) X.w∧A2 (ik σ X) j us:=by
  intro j g;obtain⟨us,s,b⟩:=key m fn.results.toList j L g;refine⟨us,?_,b⟩;unfold Go.results;rw [Array.mapM_eq_mapM_toList,Sem.run_bind,Sem.run_map];exact(congrArg (fun r:Result (List Value)=>(r.andThen fun a w'=>Result.ok a.toArray w').andThen fun a w'=>Sem.run Q (pure (if h:a.size=1 then a[0]else Value.tuple a)) w') s).trans rfl
 split at h
 ·rename_i A g;simp only [sh]at h;subst h;obtain⟨us,s,b⟩:=y _ g
  match us,b with
  | [u],b=>exact⟨u,s,VR.of1 σ b.of_cons.1⟩
  | [],b=>have:=b.len;simp at this
  | _::_::_,b=>have:=b.len;simp at this
 ·rename_i j z g;simp only [sh]at h;subst h;obtain⟨us,s,b⟩:=y _ g;refine⟨.tuple us.toArray,?_,us,rfl,b⟩;rw [s,dif_neg];intro d
  match us,d with
  | [u],_=>
   match j,b with
   | [A],_=>exact z A rfl
   | [],b=>have:=b.len;simp at this
   | _::_::_,b=>have:=b.len;simp at this
  | [],d=>simp at d
  | _::_::_,d=>simp at d
 ·simp at h
end
section
variable{Q:Program}{σ:Nat→FuncId}{tab:Nat→Option ax}{nK:Nat→List V→ai→Option (Option (V × ai))}
theorem apb(hE:Env Q σ tab nK){m:Nat}{call:cE}(hC:ei Q σ call){f:Nat}{j:ax}(J:tab f=some j){args:List V}(F:args.length=j.ps.length){y:Option aq}{s':St}{X:Wd}
  (x:run call f m none [.code j.body] ⟨cC j.ps args .e,[],X.H⟩=some (y,s')) {H':ai} (l:dD call s'.defs s'.heap=some H') {r:V} (v:Km.results s'.au H' j.results=some r)
  {us:List Value} {d:CallKind} {cs:List Frame} (hS:SR Q σ X) (hB:X.B≤X.w.heap.size) (hA:A2 (VR σ X) args us) (hk:oB d cs) :
  ∃ fr X' u,Steps Q (lone (Frame.enter Q (σ f) us.toArray d) cs X.w) (lone fr cs X'.w)∧Leaves Q (σ f) d fr u X'.w∧ry Q σ X r H' X' u:=by
 obtain⟨fn,hf,hm⟩:=hE.fn f j J;obtain⟨c,N,z,A,S,O⟩:=sN hm
 let b:Frame:=Frame.enter Q (σ f) us.toArray d
 let q:Act:={ tmps:=us.toArray++Array.replicate (fn.ntmps-us.toArray.size) undef,defers:=[] }
 have hb:b=b.atR q [.code c]:=by
  simp [b,q,Frame.enter,Frame.atR,hf,z]
 have U:fn.ntmps≤q.tmps.size:=by simp [q];omega
 have M:RR σ X (cC j.ps args .e) q.tmps:=by
  intro p;rw [vC j.ps args .e 0 (by rw [O,List.range_eq_range']) F p]
  simp only [Nat.zero_le,if_true,Nat.sub_zero];by_cases hp:p.toNat<args.length
  ·have hx:=AI hp;have H:p.toNat<us.length:=hA.len▸hp;have hy:=AI H;have hv:=hA.2 _ _ _ hx hy;rw [hx]
   have:q.tmps.getD p.toNat undef=us[p.toNat]:=by
    simp [q,Array.getD_eq_getD_getElem?,Array.getElem?_append,H]
   rw [this];exact hv
  ·rw [aw4 (by omega)]
   cases p<;>trivial
 have hF:Fr Q σ fn.ntmps X ⟨cC j.ps args .e,[],X.H⟩ q:=⟨rfl,hS,hB,M,A2.nil,U⟩;have hW:Way Q σ f fn.ntmps b cs none [.code j.body] [.code c] ⟨cC j.ps args .e,[],X.H⟩ X q:=⟨hF,A2.cons (.code A) A2.nil,trivial,hk,rfl⟩;obtain⟨K,a1,g,s1,B,W,_,Y⟩:=abU hC hE.mix f m fn.ntmps b cs none _ _ _ X q y s' x hW
 have I:∃ s,Steps Q (lone (b.atR a1 g) cs K.w) (lone s cs K.w)∧iL (σ f) d a1.tmps a1.defers s:=by
  rcases abT f m _ _ _ _ x with rfl | rfl
  ·have:g=[]:=Y;subst this;exact⟨_,.one (stepR_end rfl),rfl,rfl,rfl,rfl,rfl⟩
  ·obtain⟨k,rfl⟩:=Y;exact⟨_,.one (stepR_ret rfl),rfl,rfl,rfl,rfl,rfl⟩
 obtain⟨s,s2,R1⟩:=I;rw [←B.heap]at l;obtain⟨L,X2,s3,E,Z,h2,h3,h4⟩:=zS hC (cs:=cs) s'.defs K a1.defers s H' l B.sr B.b B.defs R1;rw [←Z]at v;obtain⟨u,g1,g2⟩:=GN h2 S (RR.ext' σ h4 B.au) v;refine⟨L,X2,u,?_,⟨E.1,E.2.1,E.2.2.1,E.2.2.2.1,fn,hf,by rw [E.2.2.2.2];exact g1⟩,Z,h2,g2,W.trans (h4.mono W.len),h3⟩
 show Steps Q (lone b cs X.w) _
 rw [hb];exact s1.trans (s2.trans s3)
theorem acr(hE:Env Q σ tab nK){m:Nat}{call:cE}(hC:ei Q σ call){b:Nat}{f:Nat}{tmps:T}{ps:List P}{as bd:aq}{q:fL}{pd:Option aq}{d:Nat}{X:Wd}(U:X.H[b]?=some (.lp f tmps ps as bd q pd d))
  {args:List V} (S:args.length=ps.length) {g:Option aq} {s':St} (Y:run call f m (some b) [.code as,.mu,.code bd] ⟨cC ps args tmps,[],X.H⟩=some (g,s')) (c9:s'.defs.isEmpty=true)
  {f':Nat} {v:T} {J:List P} {as' H:aq} {q':fL} {d6:Option aq} {d':Nat} (y:s'.heap[b]?=some (.lp f' v J as' H q' d6 d'))
  {us:List Value} {c:Frame} {cs:List Frame} {L:Loc} (hS:SR Q σ X) (hB:X.B≤X.w.heap.size) (hA:A2 (VR σ X) args us) (hL:X.bU b=some L) :
  ∃ f tmps as bd X' u,(Instr.yield L.c us.toArray).run Q X.w=.ok (.round L.c f tmps as bd) X.w ∧
   Steps Q (lone (Frame.round L.c f tmps as bd .normal) (c::cs) X.w) (lone (c.finish u) cs X'.w)∧ry Q σ X (.bool g.isNone) (s'.heap.set b (.lp f' v J as' H (if g.isNone then .ready else .done) g d')) X' u:=by
 obtain⟨n,ts,qs,z,A,d7,Ld,W,h2,h3,h4,h5,h6,h7,h8,h9⟩:=pP hS hL U;have hq:=(dV h4).len
 have d5:us.toArray.size=qs.size:=by
  have:=hA.len;simp only [Array.length_toList]at hq;simp;omega
 have hy:=run_yield (P:=Q) (args:=us.toArray) W d5
 let F:Array Value:=(qs.zip us.toArray).foldl (fun tmps (t,a)=>tmps.setIfInBounds t a) ts
 have O:F=(qs.toList.zip us).foldl (fun tmps (t,a)=>tmps.setIfInBounds t a) ts:=by
  simp only [F];rw [←Array.foldl_toList];simp
 let M:Act:={ tmps:=F,defers:=[] }
 let B:Frame:=Frame.round L.c (σ f) F z A .normal
 have b9:B=B.atR M [.code z,.beginRound,.code A]:=by simp [B,M,Frame.round,Frame.atR]
 have b_:RR σ X (cC ps args tmps) F:=by
  rw [O];exact RR.cC ps qs.toList args us tmps ts n h2 h3 hA S h4
 have hn:n≤F.size:=by rw [O,sR];exact h2
 have hF:Fr Q σ n X ⟨cC ps args tmps,[],X.H⟩ M:=⟨rfl,hS,hB,b_,A2.nil,hn⟩;have E:F6 X b:=⟨_,_,_,_,_,_,_,_,U⟩
 have hW:Way Q σ f n B (c::cs) (some b) [.code as,.mu,.code bd] [.code z,.beginRound,.code A] ⟨cC ps args tmps,[],X.H⟩ X M:=
  ⟨hF,A2.cons (.code h5) (A2.cons .mu (A2.cons (.code h6) A2.nil)),⟨L,hL,rfl,E⟩,.inl rfl,rfl⟩
 obtain⟨X1,a1,x,s1,K,E1,_,Z⟩:=abU hC hE.mix f m n B (c::cs) (some b) _ _ _ X M g s' Y hW;have N:=(E.ext E1).2 _ hL;rw [←K.heap]at y;obtain⟨n1,d9,d8,a_,b7,pend1,a8,s,k2,k3,k4,k5,k6,k7,k8,k9⟩:=pP K.sr N y
 have I:∀(l:Option Code),yu Q σ n1 g l→l.isNone=g.isNone→step Q (lone (B.atR a1 x) (c::cs) X1.w)=.next (lone (c.finish (.bool l.isNone)) cs (X1.w.putObj L.c (.loop { state:=if l.isNone then .ready else .done,pending:=l,fn:=σ f',tmps:=d9,params:=d8,assign:=a_,body:=b7,defers:=a8.c }))) →
   ∃ f tmps as bd X' u,(Instr.yield L.c us.toArray).run Q X.w=.ok (.round L.c f tmps as bd) X.w ∧
   Steps Q (lone (Frame.round L.c f tmps as bd .normal) (c::cs) X.w) (lone (c.finish u) cs X'.w)∧ry Q σ X (.bool g.isNone) (s'.heap.set b (.lp f' v J as' H (if g.isNone then .ready else .done) g d')) X' u:=by
  intro l hj hn c_;obtain⟨g1,g2⟩:=AV K.sr N y (q':=if g.isNone then .ready else .done) (pend1:=g) (pend':=l) k2 k3 k4 k5 k6 hj k8 k9
  have hq:(if g.isNone then fL.ready else fL.done).of=(if l.isNone then LoopState.ready else LoopState.done):=by
   rw [hn];cases g<;>rfl
  rw [hq]at g1 g2;refine⟨σ f,F,z,A,_,.bool l.isNone,hy,?_,?_,g1,?_,E1.trans (g2.mono E1.len),?_⟩
  ·show Steps Q (lone B (c::cs) X.w) _
   rw [b9];exact s1.trans (.one c_)
  ·rw [←K.heap]
  ·rw [hn];exact VR.uX _
  ·have:=K.b;simpa [World.putObj]using this
 cases g with
 | none=>
  have:x=[]:=Z;subst this
  exact I none trivial rfl (stepR_round_end rfl rfl (run_endRound (P:=Q) none s))
 | some j=>
  cases j with
  | ret=>
   obtain⟨k,rfl⟩:=Z
   exact I (some .ret) (by simp [yu,bS]) rfl (stepR_round_ret rfl rfl (run_endRound (P:=Q) (some .ret) s))
  | exit id=>
   obtain⟨k,rfl,hx⟩:=Z
   exact I (some (.exit id)) (by simp [yu,bS]) rfl (stepR_round_exit rfl rfl hx (run_endRound (P:=Q) (some (.exit id)) s))
  | _=>exact Z.elim
theorem aaj(x:Env Q σ tab nK)(m:Nat):∀ d,ei Q σ (dN tab nK m d):=by
 intro d
 induction d with
 | zero=>exact⟨fun f args H r h=>by simp [dN]at h,fun f args H r H' h=>by simp [dN]at h,fun b args H r H' h=>by simp [dN]at h⟩
 | succ d S=>
  refine⟨fun f args H r h=>?_,fun f args H r H' h X us B cs J I F E U=>?_,fun b args H r H' h X us c cs L J I F E Z=>?_⟩
  ·simp only [dN]at h;split at h
   ·rename_i r' M;obtain⟨r0,H0⟩:=r;exact(x.nK f args H r0 H0 (by rw [M,h])).1
   ·split at h
    ·simp at h
    ·rename_i O l;obtain⟨fn,hf,hm⟩:=x.fn f O l;obtain⟨c,v,s,_⟩:=sN hm;exact AL hf v s
  ·simp only [dN]at h;split at h
   ·rename_i r' M;exact(x.nK f args H r H' (by rw [M,h])).2 X us B cs J I F E U
   ·split at h
    ·simp at h
    ·rename_i O l;split at h
     ·rename_i g;split at h
      ·rename_i A s' j;split at h
       ·rename_i H1 u;simp only [IN,IS]at h;obtain⟨r1,z,rfl,rfl⟩:=h;subst J;exact apb x S l g j u z I F E U
       ·simp at h
      ·simp at h
     ·simp at h
  ·simp only [dN]at h;split at h
   ·rename_i f tmps ps as bd q pd d' K;split at h
    ·rename_i g;split at h
     ·rename_i A s' j;split at h
      ·rename_i hd;split at h
       ·rename_i f' N a_ as' W q' a8 Y y;simp only [sh,IS]at h;obtain⟨rfl,rfl⟩:=h;subst J;exact acr x S K g j hd y I F E Z
       ·simp at h
      ·simp at h
     ·simp at h
    ·simp at h
   ·simp at h
end
section
inductive B6 where
 | no
 | set (b:Nat) (x:cU)
 | push (x:cU)
def B6.app(H:ai):B6→ai
 | .no=>H
 | .set b x=>H.set b x
 | .push x=>H++[x]
def uw(g:Nat→Option cU):C→Option (List C)
 | .ptr b off d=>match g b with
  | some (.box cs _)=>some (cs.drop off)
  | some (.bE _ cs _ e .loc)=>if d=e then some (cs.drop off)else none
  | _=>none
 | .f (.fp cs off)=>some ((cs.drop off).map .f)
 | _=>none
def akG(g:Nat→Option cU)(n:Option Nat):V→Option V
 | .c x=>(uw g x).bind (aF n)
 | _=>none
def sm(g:Nat→Option cU):C→Option Nat
 | .sl b _ l _ d sz=>match g b with
  | some (.box _ _)=>some l
  | some (.bE s _ _ e _)=>if d=e∧sz=s then some l else none
  | _=>none
 | .f .ay=>some 0
 | .f .es=>some 0
 | .f (.fs _ l)=>some l
 | _=>none
def qF(g:Nat→Option cU)(sz:Nat):C→Option (List C)
 | .sl b o l _ d s=>match g b with
  | some (.box cs _)=>if o+l*sz≤cs.length then some ((cs.drop o).take (l*sz))else none
  | some (.bE s' cs _ e _)=>if d=e∧s=s'∧o+l*sz≤cs.length then some ((cs.drop o).take (l*sz))else none
  | _=>none
 | .f .ay=>some []
 | .f .es=>some []
 | .f (.fs cs l)=>if cs.length=l*sz then some (cs.map .f)else none
 | _=>none
def rM(g:Nat→Option cU):Nr→C→Option Bool
 | .ptr,.f .fU=>some true
 | .ptr,.f (.fp _ _)=>some false
 | .ptr,.ptr _ _ _=>some false
 | .sl,.f .ay=>some true
 | .sl,.f .es=>some false
 | .sl,.f (.fs _ _)=>some false
 | .sl,.sl b _ _ _ d sz=>match g b with
  | some (.box _ _)=>some false
  | some (.bE s _ _ e st)=>if d=e∧sz=s then some (st == .nil)else none
  | _=>none
 | .fn,.f .jk=>some true
 | .fn,.f (.fn _ _)=>some false
 | .fn,.cl _ _=>some false
 | .fn,.bm _ _=>some false
 | .ifc,.f .lZ=>some true
 | _,_=>none
def akk(g:Nat→Option cU):Nr→V→V→Option Bool
 | .bool,.c x,.c y=>O9 .bool x y
 | .st ks,.a xs,.a ys=>rE ks xs ys
 | .ptr,.c x,.c (.f .fU)=>rM g .ptr x
 | .sl,.c x,.c (.f .ay)=>rM g .sl x
 | .fn,.c x,.c (.f .jk)=>rM g .fn x
 | .ifc,.c x,.c (.f .lZ)=>rM g .ifc x
 | _,_,_=>none
def tI(g:Nat→Option cU)(sz:Nat)(x:V)(lo hi mx:Option V):Option V:=
 match x with
 | .c (.f .ay)=>match cA 0 0 lo hi mx with
  | some _=>some (.c (.f .ay))
  | none=>none
 | .c (.f .es)=>match cA 0 0 lo hi mx with
  | some _=>some (.c (.f .es))
  | none=>none
 | .c (.f (.fs cs n))=>match cA n n lo hi mx with
  | some (l,h,m)=>
   if mx.isSome∧m=l then some (.c (.f .es))else
   some (.c (.f (.fs ((cs.drop (l*sz)).take ((h-l)*sz)) (h-l))))
  | none=>none
 | .c (.sl b o n cap d s)=>match g b with
  | some (.box _ _)=>match cA n cap lo hi mx with
   | some (l,h,m)=>if m=l then some (.c (.f .es))else some (.c (.sl b (o+l*sz) (h-l) (m-l) d s))
   | none=>none
  | some (.bE s' _ _ e st)=>
   if d=e∧s=sz∧s'=sz then
    match st with
    | .loc=>match cA n n lo hi mx with
     | some (l,h,m)=>
      if mx.isSome∧m=l then some (.c (.f .es))
      else if l=h∧0<l then some (.c (.f (.fs [] 0)))
      else if mx.isSome then none
      else some (.c (.sl b (o+l*sz) (h-l) 0 d s))
     | none=>none
    | .nil=>match cA 0 0 lo hi mx with
     | some _=>some (.c (.f .ay))
     | none=>none
    | .es=>match cA 0 0 lo hi mx with
     | some _=>some (.c (.f .es))
     | none=>none
   else none
  | _=>none
 | _=>none
def AM(g:Nat→Option cU)(n sz:Nat)(x:V)(lo hi mx:Option V):Option V:=
 match x with
 | .c (.ptr b off _)=>match g b with
  | some (.box cs _)=>match cA n n lo hi mx with
   | some (l,h,m)=>if off+n*sz≤cs.length then(if m=l then some (.c (.f .es))else some (.c (.sl b (off+l*sz) (h-l) (m-l) 0 sz)))else none
   | none=>none
  | _=>none
 | .c (.f (.fp cs off))=>match cA n n lo hi mx with
   | some (l,h,m)=>if off+n*sz≤cs.length then(if m=l then some (.c (.f .es))else some (.c (.f (.fs ((cs.drop (off+l*sz)).take ((h-l)*sz)) (h-l)))))else none
   | none=>none
 | _=>none
def uP(g:Nat→Option cU)(sz:Nat)(j:Option Nat)(x i:V):Option V:=
 match dk i with
 | none=>none
 | some i=>
  if 0≤i then
   match j,x with
   | none,.c (.sl b o l _ d s)=>if i<l then
     (match g b with
      | some (.box _ _)=>some (.c (.ptr b (o+i.toNat*sz) d))
      | some (.bE s' _ _ e .loc)=>if d=e∧s=s' then some (.c (.ptr b (o+i.toNat*sz) d))else none
      | _=>none)else none
   | none,.c (.f (.fs cs l))=>if i<l then some (.c (.f (.fp cs (i.toNat*sz))))else none
   | some n,.c (.ptr b o d)=>if i<n then some (.c (.ptr b (o+i.toNat*sz) d))else none
   | some n,.c (.f (.fp cs o))=>if i<n then some (.c (.f (.fp cs (o+i.toNat*sz))))else none
   | _,_=>none
  else none
def uU(g:Nat→Option cU)(d:CK)(z:FC):V→V→Option V
 | .c (.f .wF),.c (.f k)=>if isKey d k then some (lkR z none)else none
 | .c (.mp b),.c (.f k)=>match g b with
  | some (.map j)=>if isKey d k then(mR d k j).map (lkR z)else none
  | _=>none
 | _,_=>none
def FT(g:Nat→Option cU):V→Option V
 | .c x=>match sm g x with
  | some _=>match qF g 1 x with
   | some cs=>(aU (fun c=>match c with | C.f (.int .u8 n)=>some (UInt8.ofNat n.toNat) | _=>none) cs).map fun l=>.c (.f (.str ⟨l.toArray⟩))
   | none=>none
  | none=>none
 | _=>none
def ph(g:Nat→Option cU)(sz:Nat):V→Option (Nat × List C)
 | .c (.f (.str s))=>if sz=1 then some (s.size,s.toList.map fun b=>.f (.int .u8 b.toNat))else none
 | .c x=>match sm g x,qF g sz x with
  | some l,some cs=>some (l,cs)
  | _,_=>none
 | _=>none
def GR(g:Nat→Option cU):C→Option Nat
 | .sl b _ _ c d sz=>match g b with
  | some (.box _ _)=>some c
  | some (.bE s _ _ e .nil)=>if d=e∧sz=s then some 0 else none
  | some (.bE s _ _ e .es)=>if d=e∧sz=s then some 0 else none
  | _=>none
 | .f .ay=>some 0
 | .f .es=>some 0
 | _=>none
def zU(g:Nat→Option cU):V→Option V
 | .c (.mi b)=>match g b with
  | some (.vV m _ true)=>match g m with
   | some (.map [e])=>some (.t [.c (.f e.1),mV e.2])
   | _=>none
  | _=>none
 | _=>none
def ab'(g:Nat→Option cU)(x:C)(xs:List C):Option B6:=
 match x with
 | .ptr b off j=>match g b with
  | some (.box cs d)=>if d≤off∧off+xs.length≤cs.length then some (.set b (.box (over cs off xs) d))else none
  | some (.bE sz cs d e .loc)=>if j=e∧d≤off∧off+xs.length≤cs.length then some (.set b (.bE sz (over cs off xs) d e .loc))else none
  | _=>none
 | _=>none
def Gq(g:Nat→Option cU):V→Option (V × B6)
 | .c (.it b)=>match g b with
  | some (.it s pos)=>
   if pos<s.size then
    let r:=Utf8.decode s pos
    some (.t [.bool true,.int .i64 pos,.int .i32 r.1],.set b (.it s (pos+r.2)))
   else some (.t [.bool false],.no)
  | _=>none
 | _=>none
def uo(g:Nat→Option cU)(q:Nat)(sz bytes:Nat)(x y:V):Option (V × B6):=
 match ph g sz y with
 | none=>none
 | some (m,ys)=>
  if sz=0 then none else
  match x with
  | .c (.f .ay)=>if m=0 then some (.c (.f .ay),.no)else
    if bI m bytes then some (.c (.sl q 0 m 0 0 sz),.push (.bE sz ys 0 0 .loc))else none
  | .c (.f .es)=>if m=0 then some (.c (.f .es),.no)else
    if bI m bytes then some (.c (.sl q 0 m 0 0 sz),.push (.bE sz ys 0 0 .loc))else none
  | .c (.sl b o l cap j s)=>match g b with
   | some (.box cs d)=>
    if l+m≤cap then
     if d≤o+l*sz∧o+l*sz+ys.length≤cs.length then some (.c (.sl b o (l+m) cap j s),.set b (.box (over cs (o+l*sz) ys) d))else none
    else if bI (l+m) bytes∧o+l*sz≤cs.length then some (.c (.sl q 0 (l+m) 0 0 sz),.push (.bE sz ((cs.drop o).take (l*sz)++ys) 0 0 .loc))else none
   | some (.bE s' cs d e st)=>
    if j=e∧s'=sz∧s=sz then
     if m=0 then some (x,.no)
     else if o=0∧l*sz=cs.length∧d≤cs.length then
      if bI (l+m) bytes then some (.c (.sl b 0 (l+m) 0 (j+1) sz),.set b (.bE sz (cs++ys) d (e+1) .loc))else none
     else if st=.loc∧d≤o+l*sz∧o+l*sz+ys.length≤cs.length then
      some (.c (.sl b o (l+m) 0 j sz),.set b (.bE sz (over cs (o+l*sz) ys) d e .loc))
     else none
    else none
   | _=>none
  | _=>none
def FR(g:Nat→Option cU)(sz:Nat)(x y:V):Option (V × B6):=
 match ph g sz y,x with
 | some _,.c (.f .ay)=>some (.int .i64 0,.no)
 | some _,.c (.f .es)=>some (.int .i64 0,.no)
 | some (m,ys),.c (.sl b o l _ j s')=>
  let n:=Nat.min m l
  match g b with
  | some (.box cs d)=>if d≤o∧o+n*sz≤cs.length then some (.int .i64 n,.set b (.box (over cs o (ys.take (n*sz))) d))else none
  | some (.bE s cs d e .loc)=>if j=e∧s'=s∧s=sz∧d≤o∧o+n*sz≤cs.length then some (.int .i64 n,.set b (.bE s (over cs o (ys.take (n*sz))) d e .loc))else none
  | _=>none
 | _,_=>none
def zP(g:Nat→Option cU)(sz:Nat)(zs:List FC)(x:V):Option B6:=
 match x with
 | .c y=>match sm g y with
  | some 0=>some .no
  | some l=>
   if zs.length=sz then
    match y with
    | .sl b o _ _ d s=>match g b with
     | some (.box _ _)=>ab' g (.ptr b o d) ((cF l zs).map .f)
     | some (.bE s' _ _ e .loc)=>if d=e∧s=s' then ab' g (.ptr b o d) ((cF l zs).map .f)else none
     | _=>none
    | _=>none
   else none
  | none=>none
 | _=>none
def GW(g:Nat→Option cU)(sz:Nat)(x hi mx:V):Option (V × B6):=
 match tI g sz x none (some hi) (some mx)with
 | some v=>some (v,.no)
 | none=>match x with
  | .c (.sl b o n _ d s)=>match g b with
   | some (.bE s' cs l e .loc)=>
    if d=e∧s=sz∧s'=sz∧o=0 then
     match DY hi n,DY mx n with
     | some i,some j=>
      if i=j∧0<i∧i*sz≤cs.length then
       match aU fcC (cs.take (i*sz))with
       | some ys=>some (.c (.f (.fs ys i)),.set b (.bE s' cs (Nat.max l (i*sz)) e .loc))
       | none=>none
      else none
     | _,_=>none
    else none
   | _=>none
  | _=>none
def FJ(g:Nat→Option cU)(b:Nat)(sz bytes:Nat)(zs:List FC)(x n:V):Option (V × B6):=
 match dk n with
 | some n=>
  if 0≤n∧zs.length=sz then
   match x with
   | .c (.f .ay)=>if n.toNat=0 then some (.c (.f .ay),.no)else
     if bI n.toNat bytes then some (.c (.sl b 0 n.toNat 0 0 sz),.push (.bE sz ((cF n.toNat zs).map .f) 0 0 .loc))else none
   | .c (.f .es)=>if n.toNat=0 then some (.c (.f .es),.no)else
     if bI n.toNat bytes then some (.c (.sl b 0 n.toNat 0 0 sz),.push (.bE sz ((cF n.toNat zs).map .f) 0 0 .loc))else none
   | _=>none
  else none
 | none=>none
def Aq(g:Nat→Option cU):V→Option (V × B6)
 | .c (.mi b)=>match g b with
  | some (.vV m d done)=>match g m with
   | some (.map [])=>if done then none else some (.t [.bool false],.no)
   | some (.map [e])=>if done then some (.t [.bool false],.no)else if d=1 then some (.t [.bool true,.c (.f e.1),mV e.2],.set b (.vV m 1 true))else none
   | _=>none
  | _=>none
 | _=>none
def vr(g:Nat→Option cU)(j:Nat):V→Option (V × B6)
 | .c (.mp b)=>match g b with
  | some (.map d)=>if d.length≤1 then some (.c (.mi j),.push (.vV b d.length false))else none
  | _=>none
 | _=>none
def acn(au:T)(g:Nat→Option cU)(d:Nat):cK→Option (V × B6)
 | .bf x=>some (x.ev au,.no)
 | .pre o sz=>if o=.loc∨sz=0 then none else some (.c (.sl d 0 0 0 0 sz),.push (.bE sz [] 0 0 o))
 | .pick c a b=>match c.ev au with
  | .c (.f (.bool v))=>some ((if v then a else b).ev au,.no)
  | _=>none
 | .alloc zs=>some (.c (.ptr d 0 0),.push (.box (zs.map .f) 0))
 | .box x=>match (x.ev au).cells? with
  | some xs=>some (.c (.ptr d 0 0),.push (.box xs 0))
  | none=>none
 | .build zs ps=>(dc au (zs.map .f) ps).map fun cs=>(.a cs,.no)
 | .aO sz zs n ps=>
  if n=0 then(if ps.isEmpty then some (.c (.f .es),.no)else none)else
  (dc au ((cF n zs).map .f) (ps.map fun p=>(p.1*sz,sz,p.2))).map fun cs=>(.c (.sl d 0 n n 0 sz),.push (.box cs 0))
 | .load n x=>(akG g n (x.ev au)).map (·,.no)
 | .store n x y=>match x.ev au,(y.ev au).cells? with
  | .c p,some xs=>if xs.length=n then(ab' g p xs).map (.top,·)else none
  | _,_=>none
 | .bh x=>match x.ev au with
  | .c (.ptr b o e)=>some (.c (.ptr b o e),.no)
  | .c (.f (.fp cs o))=>some (.c (.f (.fp cs o)),.no)
  | _=>none
 | .bin B x y=>(bJ B (x.ev au) (y.ev au)).map (·,.no)
 | .eq neg k x y=>(akk g k (x.ev au) (y.ev au)).map fun b=>(.bool (if neg then !b else b),.no)
 | .un B x=>(unV B (x.ev au)).map (·,.no)
 | .ek k x=>match x.ev au with
  | .c (.f (.int _ n))=>some (.int k (k.wrap n),.no)
  | _=>none
 | .zQ x=>match x.ev au with
  | .c (.f (.str s))=>some (.c (.f (.str s)),.no)
  | _=>none
 | .wq x=>(FT g (x.ev au)).map (·,.no)
 | .FU x=>match x.ev au with
  | .c (.f (.str s))=>if s.size<2 ^ 48 then some (.c (.sl d 0 s.size 0 0 1),.push (.bE 1 (s.toList.map fun b=>.f (.int .u8 b.toNat)) 0 0 .loc))else none
  | _=>none
 | .kh f j=>(aU ta (c6 au j)).map fun xs=>(.c (.cl f xs),.no)
 | .jz=>some (.c (.mp d),.push (.map []))
 | .lookup q z m k=>(uU g q z (m.ev au) (k.ev au)).map (·,.no)
 | .jw q m k v=>match m.ev au,k.ev au,sH (v.ev au)with
  | .c (.mp b),.c (.f k),some v=>match g b with
   | some (.map A)=>if isKey q k then(yD q k v A).map fun A=>(.top,.set b (.map A))else none
   | _=>none
  | _,_,_=>none
 | .cP sz bytes zs l c=>match dk (l.ev au),dk (c.ev au)with
  | some l,some c=>
   if 0≤l∧l≤c∧bI c.toNat bytes=true∧zs.length=sz then
    (if c=0 then some (.c (.f .es),.no)else
    some (.c (.sl d 0 l.toNat c.toNat 0 sz),.push (.box ((cF c.toNat zs).map .f) 0)))
   else none
  | _,_=>none
 | .slice sz x lo hi mx=>(tI g sz (x.ev au) (lo.map (·.ev au)) (hi.map (·.ev au)) (mx.map (·.ev au))).map (·,.no)
 | .ku n sz x lo hi mx=>(AM g n sz (x.ev au) (lo.map (·.ev au)) (hi.map (·.ev au)) (mx.map (·.ev au))).map (·,.no)
 | .qG x lo hi=>(vI (x.ev au) (lo.map (·.ev au)) (hi.map (·.ev au))).map (·,.no)
 | .aw off x=>(iu off (x.ev au)).map (·,.no)
 | .field off n x=>(mE off n (x.ev au)).map (·,.no)
 | .aP sz u x i=>(uP g sz u (x.ev au) (i.ev au)).map (·,.no)
 | .idxs x i=>(CM (x.ev au) (i.ev au)).map (·,.no)
 | .pK len sz n x i=>(lR len sz n (x.ev au) (i.ev au)).map (·,.no)
 | .range x=>match x.ev au with
  | .c (.f (.str s))=>some (.c (.it d),.push (.it s 0))
  | _=>none
 | .next x=>Gq g (x.ev au)
 | .extract x i=>match x.ev au with
  | .t F=>(F[i]?).map (·,.no)
  | _=>none
 | .uS n=>some (.int .i64 n,.no)
 | .lens x=>match x.ev au with
  | .c (.f (.str s))=>some (.int .i64 (s.size:Nat),.no)
  | _=>none
 | .len x=>match x.ev au with
  | .c y=>match sm g y with
   | some n=>some (.int .i64 (n:Nat),.no)
   | none=>none
  | _=>none
 | .append sz bytes x y=>uo g d sz bytes (x.ev au) (y.ev au)
 | .copy sz x y=>FR g sz (x.ev au) (y.ev au)
 | .mP lo xs=>(Ok lo (c6 au xs)).map (·,.no)
 | .clear sz zs x=>(zP g sz zs (x.ev au)).map (.t [],·)
 | .gv sz zs n ps=>((dc au ((cF n zs).map .f) (ps.map fun p=>(p.1*sz,sz,p.2))).bind fun cs=>if n=0 then none else fcL cs).map fun E=>(.c (.f (.fs E n)),.no)
 | .wN sz x hi mx=>GW g sz (x.ev au) (hi.ev au) (mx.ev au)
 | .sZ sz bytes zs x n=>FJ g d sz bytes zs (x.ev au) (n.ev au)
 | .lu x=>vr g d (x.ev au)
 | .pU x=>Aq g (x.ev au)
 | .entry x=>(zU g (x.ev au)).map (·,.no)
 | .wv f xs=>(aU ta (c6 au xs)).map fun xs=>(.c (.bm f xs),.no)
 | .cap x=>match x.ev au with
  | .c y=>match GR g y with
   | some n=>some (.int .i64 (n:Nat),.no)
   | none=>none
  | _=>none
 | _=>none
def gt(H:ai):Nat→Option cU:=fun b=>H[b]?
theorem Cz(H:ai):uw (gt H)=az H:=by funext x;unfold uw az gt;rfl
theorem agH(H:ai):akG (gt H)=aQ H:=by funext n x;unfold akG aQ;rw [Cz];rfl
theorem nG(H:ai):sm (gt H)=bA H:=by funext x;unfold sm bA gt;rfl
theorem sS(H:ai):qF (gt H)=cH H:=by funext n x;unfold qF cH gt;rfl
theorem N8(H:ai):rM (gt H)=isNil H:=by funext k x;unfold rM isNil gt;rfl
theorem af_(H:ai):akk (gt H)=zW H:=by funext k x y;unfold akk zW;rw [N8];rfl
theorem vH(H:ai):tI (gt H)=eY H:=by funext n x a b c;unfold tI eY gt;rfl
theorem GU(H:ai):AM (gt H)=ig H:=by funext m n x a b c;unfold AM ig gt;rfl
theorem CN(H:ai):uP (gt H)=aG H:=by funext n a x i;unfold uP aG gt;rfl
theorem CX(H:ai):uU (gt H)=fR H:=by funext k z x y;unfold uU fR gt;rfl
theorem NP(H:ai):FT (gt H)=nU H:=by funext x;unfold FT nU;rw [nG,sS];rfl
theorem ot(H:ai):ph (gt H)=cM H:=by funext n x;unfold ph cM;rw [nG,sS];rfl
theorem OY(H:ai):GR (gt H)=lW H:=by funext x;unfold GR lW gt;rfl
theorem FW(H:ai):zU (gt H)=kL H:=by funext x;unfold zU kL gt;rfl
def iT(H:ai)(r:Option (V × B6)):Option (V × ai):=r.map fun r=>(r.1,r.2.app H)
theorem AO(H:ai)(x:C)(xs:List C):(ab' (gt H) x xs).map (·.app H)=df H x xs:=by
 cases x with
 | ptr b off g=>
  simp only [ab',df,gt]
  cases h:H[b]? with
  | none=>rfl
  | some aX=>
   cases aX with
   | box cs d=>simp only;split<;>rfl
   | bE sz cs d e st=>cases st<;>simp only<;>first | rfl | (split<;>rfl)
   | _=>rfl
 | _=>rfl
theorem Ou(H:ai)(x:V):iT H (Gq (gt H) x)=Ic H x:=by
 cases x with
 | c x=>
  cases x with
  | it b=>
   simp only [Gq,Ic,gt,iT]
   cases h:H[b]? with
   | none=>rfl
   | some aX=>
    cases aX with
    | it s pos=>simp only;split<;>rfl
    | _=>rfl
  | _=>rfl
 | _=>rfl
theorem NO(H:ai)(sz:Nat)(x y:V):iT H (FR (gt H) sz x y)=copyV H sz x y:=by
 unfold FR copyV iT;rw [ot]
 cases j:cM H sz y with
 | none=>rfl
 | some r=>
  obtain⟨m,ys⟩:=r
  cases x with
  | c x=>
   cases x with
   | f x=>cases x<;>rfl
   | sl b o l cap g s=>
    simp only [gt]
    cases h:H[b]? with
    | none=>rfl
    | some aX=>
     cases aX with
     | box cs d=>simp only;split<;>rfl
     | bE sz cs d e st=>cases st<;>simp only<;>first | rfl | (split<;>rfl)
     | _=>rfl
   | _=>rfl
  | _=>rfl
theorem Cq(H:ai)(sz bytes:Nat)(x y:V):iT H (uo (gt H) H.length sz bytes x y)=bz H sz bytes x y:=by
 unfold uo bz iT;rw [ot]
 cases q:cM H sz y with
 | none=>rfl
 | some r=>
  obtain⟨m,ys⟩:=r;simp only;by_cases d:sz=0
  ·simp [d]
  ·simp only [d,if_false]
   cases x with
   | c x=>
    cases x with
    | f x=>cases x<;>first | rfl | (simp only;repeat' (first | rfl | split))
    | sl b o l cap j s=>
     simp only [gt]
     cases h:H[b]? with
     | none=>rfl
     | some aX=>
      cases aX with
      | box cs g=>simp only;repeat' (first | rfl | split)
      | bE sz cs g e st=>simp only;repeat' (first | rfl | split)
      | _=>rfl
    | _=>rfl
   | _=>rfl
theorem FP(H:ai)(sz:Nat)(zs:List FC)(x:V):(zP (gt H) sz zs x).map (·.app H)=uB H sz zs x:=by
 unfold zP uB
 cases x with
 | c y=>
  simp only [nG]
  cases bA H y with
  | none=>rfl
  | some l=>
   cases l with
   | zero=>rfl
   | succ l=>
    simp only;split
    ·cases y with
     | sl b o j c g s=>
      simp only [gt]
      cases h:H[b]? with
      | none=>rfl
      | some aX=>
       cases aX with
       | box cs d=>exact AO H _ _
       | bE s' cs d e st=>
        cases st<;>simp only<;>first | rfl | skip
        split
        ·exact AO H _ _
        ·rfl
       | _=>rfl
     | _=>rfl
    ·rfl
 | _=>rfl
theorem NF(H:ai)(sz bytes:Nat)(zs:List FC)(x n:V):iT H (FJ (gt H) H.length sz bytes zs x n)=HB H sz bytes zs x n:=by
 unfold FJ HB iT
 cases dk n with
 | none=>rfl
 | some n=>
  simp only;split
  ·cases x with
   | c x=>
    cases x with
    | f x=>cases x<;>first | rfl | (simp only;repeat' (first | rfl | split))
    | _=>rfl
   | _=>rfl
  ·rfl
theorem O1(H:ai)(sz:Nat)(x hi mx:V):iT H (GW (gt H) sz x hi mx)=DD H sz x hi mx:=by
 unfold GW DD iT;rw [vH]
 cases eY H sz x none (some hi) (some mx)with
 | some v=>rfl
 | none=>
  simp only
  cases x with
  | c x=>
   cases x with
   | sl b o n c d s=>
    simp only [gt]
    cases H[b]? with
    | none=>rfl
    | some aX=>
     cases aX with
     | bE s' cs g e st=>
      cases st<;>simp only<;>first | rfl | skip
      split
      ·cases DY hi n<;>cases DY mx n<;>simp only<;>first | rfl | skip
       split
       ·cases aU fcC (List.take _ cs)<;>rfl
       ·rfl
      ·rfl
     | _=>rfl
   | _=>rfl
  | _=>rfl
theorem Gr(H:ai)(x:V):iT H (Aq (gt H) x)=Ap H x:=by
 cases x with
 | c x=>
  cases x with
  | mi b=>
   simp only [Aq,Ap,gt,iT]
   cases h:H[b]? with
   | none=>rfl
   | some aX=>
    cases aX with
    | vV m g done=>
     simp only
     cases l:H[m]? with
     | none=>rfl
     | some d=>
      cases d with
      | map j=>
       match j with
       | []=>simp only;split<;>rfl
       | [e]=>simp only;repeat' (first | rfl | split)
       | _::_::_=>rfl
      | _=>rfl
    | _=>rfl
  | _=>rfl
 | _=>rfl
theorem Dm(H:ai)(x:V):iT H (vr (gt H) H.length x)=tE H x:=by
 cases x with
 | c x=>
  cases x with
  | mp b=>
   simp only [vr,tE,gt,iT]
   cases h:H[b]? with
   | none=>rfl
   | some aX=>
    cases aX with
    | map d=>simp only;split<;>rfl
    | _=>rfl
  | _=>rfl
 | _=>rfl
theorem HA{H:ai}(o:Option V):iT H (o.map (·,.no))=o.map (·,H):=by cases o<;>rfl
theorem AZ(au:T)(H:ai)(g:cK):iT H (acn au (gt H) H.length g)=aZ au H g:=by
 cases g<;>simp only [acn,aZ,HA,agH,vH,GU,CN,CX,NP,Cq,NO,Ou,NF,O1,Gr,Dm,FW]
 all_goals first | rfl | skip
 case pre o sz=>split<;>rfl
 case pick c a b=>
  generalize c.ev au=v;cases v<;>try rfl
  rename_i x;cases x<;>try rfl
  rename_i x;cases x<;>rfl
 case box x=>generalize (x.ev au).cells?=o;cases o<;>rfl
 case build zs ps=>cases dc au (zs.map .f) ps<;>rfl
 case aO sz zs n ps=>
  split
  ·split<;>rfl
  ·simp only [iT,awZ];rfl
 case gv sz zs n ps=>
  generalize (dc au ((cF n zs).map .f) (ps.map fun p=>(p.1*sz,sz,p.2))).bind (fun cs=>if n=0 then none else fcL cs)=o
  cases o<;>rfl
 case store n x y=>
  generalize x.ev au=v;generalize (y.ev au).cells?=o;cases v<;>cases o<;>try rfl
  simp only;split
  ·rw [←AO];simp only [iT,awZ];rfl
  ·rfl
 case bh x=>
  generalize x.ev au=v;cases v<;>try rfl
  rename_i x;cases x<;>try rfl
  rename_i x;cases x<;>rfl
 case eq neg k x y=>rw [af_];simp only [iT,awZ];rfl
 case ek k x=>
  generalize x.ev au=v;cases v<;>try rfl
  rename_i x;cases x<;>try rfl
  rename_i x;cases x<;>rfl
 case zQ x=>
  generalize x.ev au=v;cases v<;>try rfl
  rename_i x;cases x<;>try rfl
  rename_i x;cases x<;>rfl
 case FU x=>
  generalize x.ev au=v;cases v<;>try rfl
  rename_i x;cases x<;>try rfl
  rename_i x;cases x<;>try rfl
  simp only;split<;>rfl
 case kh f d=>simp only [iT,awZ];rfl
 case jw j m k v=>
  generalize m.ev au=m;generalize k.ev au=k;generalize sH (v.ev au)=v;cases m<;>try rfl
  rename_i m;cases m<;>try rfl
  cases k<;>try rfl
  rename_i k;cases k<;>try rfl
  cases v<;>try rfl
  simp only [gt];rename_i b k v
  cases H[b]? with
  | none=>rfl
  | some aX=>
   cases aX<;>try rfl
   simp only;split
   ·simp only [iT,awZ];rfl
   ·rfl
 case cP sz bytes zs l c=>
  generalize dk (l.ev au)=l;generalize dk (c.ev au)=c;cases l<;>cases c<;>try rfl
  simp only;split
  ·split<;>rfl
  ·rfl
 case range x=>
  generalize x.ev au=v;cases v<;>try rfl
  rename_i x;cases x<;>try rfl
  rename_i x;cases x<;>rfl
 case extract x i=>
  generalize x.ev au=v;cases v<;>try rfl
  simp only [HA]
 case len x=>
  generalize x.ev au=v;cases v<;>try rfl
  rw [nG];simp only;rename_i y;cases bA H y<;>rfl
 case lens x=>
  generalize x.ev au=v;cases v<;>try rfl
  rename_i x;cases x<;>try rfl
  rename_i x;cases x<;>rfl
 case clear sz zs x=>rw [←FP];simp only [iT,awZ];rfl
 case wv f d=>simp only [iT,awZ];rfl
 case cap x=>
  generalize x.ev au=v;cases v<;>try rfl
  rw [OY];simp only;rename_i y;cases lW H y<;>rfl
end
section
set_option linter.unusedVariables false
inductive BT(α:Type) where
 | e
 | n (l:BT α) (x:α) (r:BT α)
def BT.get{d:Type}:BT d→Nat→Option d
 | .e,_=>none
 | .n l x r,b=>match b with
  | 0=>some x
  | m+1=>if m % 2=0 then l.get (m / 2)else r.get (m / 2)
abbrev HT:=BT cU
def fM{j:Type}(b:Nat)(t:BT j)(k:j→Prop):Prop:=
 BT.rec (motive:=fun _=>Nat→Prop) (fun _=>False)
  (fun _ x _ d g b=>Nat.rec (motive:=fun _=>Prop) (k x) (fun m _=>Nat.rec (motive:=fun _=>Prop) (d (Nat.div m 2)) (fun _ _=>g (Nat.div m 2)) (Nat.mod m 2)) b) t b
def fN{d:Type}(x:d)(t:BT d):Nat→(BT d→Prop)→Prop:=
 BT.rec (motive:=fun _=>Nat→(BT d→Prop)→Prop) (fun _ _=>False)
  (fun l y r g j b k=>Nat.rec (motive:=fun _=>Prop) (k (.n l x r))
   (fun m _=>Nat.rec (motive:=fun _=>Prop) (g (Nat.div m 2) fun q=>k (.n q y r)) (fun _ _=>j (Nat.div m 2) fun r'=>k (.n l y r')) (Nat.mod m 2)) b) t
def zL{d:Type}(x:d)(t:BT d):Nat→(BT d→Prop)→Prop:=
 BT.rec (motive:=fun _=>Nat→(BT d→Prop)→Prop) (fun b k=>Nat.rec (motive:=fun _=>Prop) (k (.n .e x .e)) (fun _ _=>False) b)
  (fun l y r g j b k=>Nat.rec (motive:=fun _=>Prop) False
   (fun m _=>Nat.rec (motive:=fun _=>Prop) (g (Nat.div m 2) fun q=>k (.n q y r)) (fun _ _=>j (Nat.div m 2) fun r'=>k (.n l y r')) (Nat.mod m 2)) b) t
theorem aa'(m:Nat):m % 2=0∨m % 2=1:=by omega
theorem c8{u:Type}{t:BT u}:∀ {b:Nat} {k:u→Prop},fM b t k→∃ x,t.get b=some x∧k x:=by
 induction t with
 | e=>intro b k h;exact h.elim
 | n l x r q s=>
  intro b k h
  cases b with
  | zero=>exact⟨x,rfl,h⟩
  | succ m=>
   have j:Nat.rec (motive:=fun _=>Prop) (fM (m / 2) l k) (fun _ _=>fM (m / 2) r k) (m % 2):=h
   rcases aa' m with e | e<;>rw [e]at j
   ·obtain⟨y,d,g⟩:=q j;exact⟨y,by simp [BT.get,e,d],g⟩
   ·obtain⟨y,d,g⟩:=s j;exact⟨y,by simp [BT.get,e,d],g⟩
def nS{d:Type}(t g:BT d)(b:Nat)(x:d):Prop:=∀ i,g.get i=if i=b then some x else t.get i
theorem nS.left{g:Type}{l d r:BT g}{y x:g}{m:Nat}(e:m % 2=0)(h:nS l d (m / 2) x):nS (.n l y r) (.n d y r) (m+1) x:=by
 intro i
 cases i with
 | zero=>simp [BT.get]
 | succ j=>
  simp only [BT.get,h (j / 2)];rcases aa' j with b | b
  ·have:(j / 2=m / 2)↔(j=m):=by omega
   simp [b,this]
  ·have:j≠m:=by omega
   simp [b,this]
theorem nS.right{d:Type}{l r' r:BT d}{y x:d}{m:Nat}(e:m % 2=1)(h:nS r r' (m / 2) x):nS (.n l y r) (.n l y r') (m+1) x:=by
 intro i
 cases i with
 | zero=>simp [BT.get]
 | succ j=>
  simp only [BT.get,h (j / 2)];rcases aa' j with b | b
  ·have:j≠m:=by omega
   simp [b,this]
  ·have:(j / 2=m / 2)↔(j=m):=by omega
   simp [b,this]
theorem aad{A:Type}{x:A}{t:BT A}:∀ {b:Nat} {k:BT A→Prop},fN x t b k→∃ B,nS t B b x∧(∃ y,t.get b=some y)∧k B:=by
 induction t with
 | e=>intro b k h;exact h.elim
 | n l y r s u=>
  intro b k h
  cases b with
  | zero=>
   refine⟨.n l x r,fun i=>?_,⟨y,rfl⟩,h⟩
   cases i<;>simp [BT.get]
  | succ m=>
   have q:Nat.rec (motive:=fun _=>Prop) (fN x l (m / 2) fun v=>k (.n v y r)) (fun _ _=>fN x r (m / 2) fun r'=>k (.n l y r')) (m % 2):=h
   rcases aa' m with e | e<;>rw [e]at q
   ·obtain⟨v,d,⟨z,g⟩,j⟩:=s q;exact⟨_,d.left e,⟨z,by simp [BT.get,e,g]⟩,j⟩
   ·obtain⟨v,d,⟨z,g⟩,j⟩:=u q;exact⟨_,d.right e,⟨z,by simp [BT.get,e,g]⟩,j⟩
theorem NG{v:Type}{x:v}{t:BT v}:∀ {b:Nat} {k:BT v→Prop},zL x t b k→∃ z,nS t z b x∧k z:=by
 induction t with
 | e=>
  intro b k h
  cases b with
  | zero=>
   refine⟨.n .e x .e,fun i=>?_,h⟩
   cases i<;>simp [BT.get]
  | succ m=>exact h.elim
 | n l y r q s=>
  intro b k h
  cases b with
  | zero=>exact h.elim
  | succ m=>
   have j:Nat.rec (motive:=fun _=>Prop) (zL x l (m / 2) fun u=>k (.n u y r)) (fun _ _=>zL x r (m / 2) fun r'=>k (.n l y r')) (m % 2):=h
   rcases aa' m with e | e<;>rw [e]at j
   ·obtain⟨u,d,g⟩:=q j;exact⟨_,d.left e,g⟩
   ·obtain⟨u,d,g⟩:=s j;exact⟨_,d.right e,g⟩
def cR(H:ai)(t:HT):Prop:=t.get=gt H
theorem cR.nil:cR [] .e:=by funext b;simp [BT.get,gt]
theorem cR.set{H:ai}{t g:HT}(h:cR H t){b:Nat}{x:cU}(l:nS t g b x)(j:∃ y,t.get b=some y):cR (H.set b x) g:=by
 funext i
 obtain⟨y,hy⟩:=j;rw [h]at hy;have d:b<H.length:=(BY.1 hy).1;rw [l i,h];simp only [gt];by_cases e:i=b
 ·subst e;simp [d]
 ·simp [e,By (Ne.symm e)]
theorem cR.push{H:ai}{t b:HT}(h:cR H t){x:cU}(d:nS t b H.length x):cR (H++[x]) b:=by
 funext i
 rw [d i,h];simp only [gt];by_cases e:i=H.length
 ·subst e;simp
 ·by_cases hi:i<H.length
  ·simp [e,List.getElem?_append_left hi]
  ·rw [avM (by omega)]
   have:i-H.length≠0:=by omega
   simp [e,aw4 (l:=H) (i:=i) (by omega),this]
def bQ(n:Nat)(k:Nat→Prop):Prop:=Nat.rec (motive:=fun _=>Prop) (k 0) (fun m _=>k (Nat.succ m)) n
def rH(n:Int)(k:Int→Prop):Prop:=Int.rec (motive:=fun _=>Prop) (fun n=>bQ n fun n=>k (.ofNat n)) (fun n=>bQ n fun n=>k (.negSucc n)) n
def mH(b:Bool)(k:Bool→Prop):Prop:=Bool.rec (motive:=fun _=>Prop) (k false) (k true) b
theorem bT(n:Nat)(k:Nat→Prop):bQ n k=k n:=by cases n<;>rfl
theorem xP(n:Int)(k:Int→Prop):rH n k=k n:=by cases n<;>simp only [rH,bT]
theorem gu(b:Bool)(k:Bool→Prop):mH b k=k b:=by cases b<;>rfl
def FZ(x:FC)(k:FC→Prop):Prop:=match x with
 | .bool b=>mH b fun b=>k (.bool b)
 | .int j n=>rH n fun n=>k (.int j n)
 | .fp cs o=>bQ o fun o=>k (.fp cs o)
 | .fs cs l=>bQ l fun l=>k (.fs cs l)
 | x=>k x
theorem N1(x:FC)(k:FC→Prop):FZ x k=k x:=by cases x<;>simp only [FZ,bT,xP,gu]
def rF(x:C)(k:C→Prop):Prop:=match x with
 | .f x=>FZ x fun x=>k (.f x)
 | .ptr b o e=>bQ b fun b=>bQ o fun o=>bQ e fun e=>k (.ptr b o e)
 | .sl b o l c e s=>bQ b fun b=>bQ o fun o=>bQ l fun l=>bQ c fun c=>bQ e fun e=>bQ s fun s=>k (.sl b o l c e s)
 | x=>k x
theorem rG(x:C)(k:C→Prop):rF x k=k x:=by cases x<;>simp only [rF,bT,N1]
def mI(xs:List C):(List C→Prop)→Prop:=
 List.rec (motive:=fun _=>(List C→Prop)→Prop) (fun k=>k []) (fun x _ b k=>rF x fun x=>b fun xs=>k (x::xs)) xs
theorem ka:∀(xs:List C) (k:List C→Prop),mI xs k=k xs
 | [],k=>rfl
 | x::xs,k=>by
  show rF x (fun x=>mI xs fun xs=>k (x::xs))=_
  rw [rG,ka xs]
def tw(v:V)(k:V→Prop):Prop:=match v with
 | .c x=>rF x fun x=>k (.c x)
 | .a xs=>mI xs fun xs=>k (.a xs)
 | v=>k v
theorem F0(v:V)(k:V→Prop):tw v k=k v:=by cases v<;>simp only [tw,rG,ka]
def z5(xs:List V):(List V→Prop)→Prop:=
 List.rec (motive:=fun _=>(List V→Prop)→Prop) (fun k=>k []) (fun x _ b k=>tw x fun x=>b fun xs=>k (x::xs)) xs
theorem uM:∀(xs:List V) (k:List V→Prop),z5 xs k=k xs
 | [],k=>rfl
 | x::xs,k=>by
  show tw x (fun x=>z5 xs fun xs=>k (x::xs))=_
  rw [F0,uM xs]
def kQ(v:V)(k:V→Prop):Prop:=match v with
 | .c x=>rF x fun x=>k (.c x)
 | .a xs=>mI xs fun xs=>k (.a xs)
 | .t b=>z5 b fun b=>k (.t b)
 | .top=>k .top
theorem rI(v:V)(k:V→Prop):kQ v k=k v:=by cases v<;>simp only [kQ,rG,ka,uM]
def rJ(x:cU)(k:cU→Prop):Prop:=match x with
 | .box cs b=>mI cs fun cs=>bQ b fun b=>k (.box cs b)
 | .bE sz cs b e st=>mI cs fun cs=>bQ b fun b=>bQ e fun e=>k (.bE sz cs b e st)
 | .it s p=>bQ p fun p=>k (.it s p)
 | x=>k x
theorem xQ(x:cU)(k:cU→Prop):rJ x k=k x:=by cases x<;>simp only [rJ,bT,ka]
def CL(p:P):T→(V→Prop)→Prop:=
 P.rec (motive:=fun _=>T→(V→Prop)→Prop)
  (fun t k=>T.rec (motive:=fun _=>Prop) (k .top) (fun _ v _ _ _=>k v) t)
  (fun _ b t k=>T.rec (motive:=fun _=>Prop) (k .top) (fun l _ _ _ _=>b l k) t)
  (fun _ b t k=>T.rec (motive:=fun _=>Prop) (k .top) (fun _ _ r _ _=>b r k) t) p
theorem nw:∀(p:P) (t:T) (k:V→Prop),CL p t k=k (t.get p)
 | .h,.e,k=>rfl
 | .h,.n _ _ _,k=>rfl
 | .o p,.e,k=>rfl
 | .o p,.n l _ _,k=>nw p l k
 | .i p,.e,k=>rfl
 | .i p,.n _ _ r,k=>nw p r k
def ahV(p:P)(w:V):T→(T→Prop)→Prop:=
 P.rec (motive:=fun _=>T→(T→Prop)→Prop)
  (fun t k=>T.rec (motive:=fun _=>Prop) (k (.n .e w .e)) (fun l _ r _ _=>k (.n l w r)) t)
  (fun _ b t k=>T.rec (motive:=fun _=>Prop) (b .e fun l=>k (.n l .top .e)) (fun l v r _ _=>b l fun l=>k (.n l v r)) t)
  (fun _ b t k=>T.rec (motive:=fun _=>Prop) (b .e fun r=>k (.n .e .top r)) (fun l v r _ _=>b r fun r=>k (.n l v r)) t) p
theorem nF(w:V):∀(p:P) (t:T) (k:T→Prop),ahV p w t k=k (t.set p w)
 | .h,.e,k=>rfl
 | .h,.n _ _ _,k=>rfl
 | .o p,.e,k=>nF w p .e _
 | .o p,.n l _ _,k=>nF w p l _
 | .i p,.e,k=>nF w p .e _
 | .i p,.n _ _ r,k=>nF w p r _
def pD(x:Arg)(r:T)(k:V→Prop):Prop:=Arg.rec (motive:=fun _=>Prop) (fun p=>CL p r k) (fun v=>k v) x
theorem cZ(x:Arg)(r:T)(k:V→Prop):pD x r k=k (x.ev r):=by cases x;exact nw _ _ _;rfl
def Cs(xs:List Arg)(r:T):(List V→Prop)→Prop:=
 List.rec (motive:=fun _=>(List V→Prop)→Prop) (fun k=>k []) (fun x _ b k=>pD x r fun v=>b fun d=>k (v::d)) xs
theorem pj(r:T):∀(xs:List Arg) (k:List V→Prop),Cs xs r k=k (c6 r xs)
 | [],k=>rfl
 | x::xs,k=>by
  show pD x r (fun v=>Cs xs r fun b=>k (v::b))=_
  rw [cZ,pj r xs];rfl
def amh(d:Option P)(r:T)(v:V)(k:T→Prop):Prop:=Option.rec (motive:=fun _=>Prop) (k r) (fun d=>ahV d v r k) d
theorem IA(d:Option P)(r:T)(v:V)(k:T→Prop):amh d r v k=k (je r d v):=by cases d;rfl;exact nF _ _ _ _
def tG(ps:List P):List V→T→(T→Prop)→Prop:=
 List.rec (motive:=fun _=>List V→T→(T→Prop)→Prop) (fun _ r k=>k r)
  (fun p _ d b r k=>List.rec (motive:=fun _=>Prop) (k r) (fun v b _=>ahV p v r fun r=>d b r k) b) ps
theorem oI:∀(ps:List P) (b:List V) (r:T) (k:T→Prop),tG ps b r k=k (cC ps b r)
 | [],b,r,k=>by cases b<;>rfl
 | p::ps,[],r,k=>rfl
 | p::ps,v::b,r,k=>by
  show ahV p v r (fun r=>tG ps b r k)=_
  rw [nF,oI ps];rfl
def agX{b:Type}(n:Nat):List b→(b→Prop)→Prop:=
 Nat.rec (motive:=fun _=>List b→(b→Prop)→Prop) (fun xs k=>List.rec (motive:=fun _=>Prop) False (fun x _ _=>k x) xs)
  (fun _ d xs k=>List.rec (motive:=fun _=>Prop) False (fun _ xs _=>d xs k) xs) n
theorem tA{b:Type}:∀ {n:Nat} {xs:List b} {k:b→Prop},agX n xs k→∃ x,xs[n]?=some x∧k x
 | 0,[],_,h=>h.elim
 | 0,x::_,_,h=>⟨x,rfl,h⟩
 | n+1,[],_,h=>h.elim
 | n+1,_::xs,k,h=>tA (n:=n) (xs:=xs) (k:=k) h
def uH{b:Type}(n:Nat):List b→(List b→Prop)→Prop:=
 Nat.rec (motive:=fun _=>List b→(List b→Prop)→Prop) (fun xs k=>k xs)
  (fun _ d xs k=>List.rec (motive:=fun _=>Prop) (k []) (fun _ xs _=>d xs k) xs) n
theorem mB{b:Type}:∀(n:Nat) (xs:List b) (k:List b→Prop),uH n xs k=k (xs.drop n)
 | 0,xs,k=>rfl
 | n+1,[],k=>rfl
 | n+1,_::xs,k=>mB n xs k
def rD{b:Type}(n:Nat):List b→(List b→Prop)→Prop:=
 Nat.rec (motive:=fun _=>List b→(List b→Prop)→Prop) (fun xs k=>k xs)
  (fun _ d xs k=>List.rec (motive:=fun _=>Prop) False (fun _ xs _=>d xs k) xs) n
theorem iM{b:Type}:∀ {n:Nat} {xs:List b} {k:List b→Prop},rD n xs k→n≤xs.length∧k (xs.drop n)
 | 0,xs,k,h=>⟨by simp,h⟩
 | n+1,[],k,h=>h.elim
 | n+1,x::xs,k,h=>by
  obtain⟨g,d⟩:=iM (n:=n) (xs:=xs) (k:=k) h;exact⟨by simp;omega,d⟩
def lY{b:Type}(n:Nat):List b→(List b→Prop)→Prop:=
 Nat.rec (motive:=fun _=>List b→(List b→Prop)→Prop) (fun _ k=>k [])
  (fun _ d xs k=>List.rec (motive:=fun _=>Prop) False (fun x xs _=>d xs fun ys=>k (x::ys)) xs) n
theorem fj{b:Type}:∀ {n:Nat} {xs:List b} {k:List b→Prop},lY n xs k→n≤xs.length∧k (xs.take n)
 | 0,xs,k,h=>⟨by simp,by have d:k []:=h;simpa using d⟩
 | n+1,[],k,h=>h.elim
 | n+1,x::xs,k,h=>by
  obtain⟨j,g⟩:=fj (n:=n) (xs:=xs) (k:=fun ys=>k (x::ys)) h
  exact⟨by simp;omega,by simpa using g⟩
def apo{b:Type}(xs:List b):List b→(List b→Prop)→Prop:=
 List.rec (motive:=fun _=>List b→(List b→Prop)→Prop) (fun cs k=>k cs)
  (fun x _ d cs k=>List.rec (motive:=fun _=>Prop) False (fun _ cs _=>d cs fun ys=>k (x::ys)) cs) xs
theorem HY{b:Type}:∀ {xs cs:List b} {k:List b→Prop},apo xs cs k→xs.length≤cs.length∧k (xs++cs.drop xs.length)
 | [],cs,k,h=>⟨by simp,by have d:k cs:=h;simpa using d⟩
 | x::xs,[],k,h=>h.elim
 | x::xs,c::cs,k,h=>by
  obtain⟨j,g⟩:=HY (xs:=xs) (cs:=cs) (k:=fun ys=>k (x::ys)) h
  exact⟨by simp;omega,by simpa using g⟩
def vj{b:Type}(xs:List b)(off:Nat):List b→(List b→Prop)→Prop:=
 Nat.rec (motive:=fun _=>List b→(List b→Prop)→Prop) (fun cs k=>apo xs cs k)
  (fun _ d cs k=>List.rec (motive:=fun _=>Prop) False (fun c cs _=>d cs fun ys=>k (c::ys)) cs) off
theorem kk{d:Type}{xs:List d}:∀ {off:Nat} {cs:List d} {k:List d→Prop},vj xs off cs k→off+xs.length≤cs.length∧k (over cs off xs)
 | 0,cs,k,h=>by
  obtain⟨g,b⟩:=HY (xs:=xs) (cs:=cs) (k:=k) h
  exact⟨by omega,by simpa [over]using b⟩
 | n+1,[],k,h=>h.elim
 | n+1,c::cs,k,h=>by
  obtain⟨g,b⟩:=kk (off:=n) (cs:=cs) (k:=fun ys=>k (c::ys)) h
  refine⟨by simp;omega,?_⟩
  have:n+1+xs.length=(n+xs.length)+1:=by omega
  simpa [over,this]using b
def akd{b:Type}(xs ys:List b):(List b→Prop)→Prop:=
 List.rec (motive:=fun _=>(List b→Prop)→Prop) (fun k=>k ys) (fun x _ d k=>d fun zs=>k (x::zs)) xs
theorem zO{b:Type}(ys:List b):∀(xs:List b) (k:List b→Prop),akd xs ys k=k (xs++ys)
 | [],k=>rfl
 | x::xs,k=>zO ys xs fun zs=>k (x::zs)
def fzK(zs:List FC):(List C→Prop)→Prop:=
 List.rec (motive:=fun _=>(List C→Prop)→Prop) (fun k=>k []) (fun z _ b k=>b fun cs=>k (.f z::cs)) zs
theorem rK:∀(zs:List FC) (k:List C→Prop),fzK zs k=k (zs.map .f)
 | [],k=>rfl
 | z::zs,k=>rK zs fun cs=>k (.f z::cs)
def ltB:Int→Int→Bool
 | .ofNat a,.ofNat b=>Nat.ble (Nat.succ a) b
 | .ofNat _,.negSucc _=>false
 | .negSucc _,.ofNat _=>true
 | .negSucc a,.negSucc b=>Nat.ble (Nat.succ b) a
theorem Aj(x y:Int):ltB x y=decide (x<y):=by
 have e:∀ n:Nat,Int.ofNat n=(n:Int):=fun _=>rfl
 cases x<;>cases y<;>simp only [ltB]<;>rw [Bool.eq_iff_iff]<;>simp only [Nat.ble_eq,decide_eq_true_eq,atN,false_iff,true_iff,e,Nat.succ_eq_add_one]<;>omega
def eqB:Int→Int→Bool
 | .ofNat a,.ofNat b=>Nat.beq a b
 | .negSucc a,.negSucc b=>Nat.beq a b
 | _,_=>false
theorem aav(x y:Int):eqB x y=(x == y):=by
 have e:∀ n:Nat,Int.ofNat n=(n:Int):=fun _=>rfl
 cases x<;>cases y<;>simp only [eqB]<;>rw [Bool.eq_iff_iff]<;>simp only [Nat.beq_eq,beq_iff_eq,atN,false_iff,e]<;>omega
def y_(j:IntKind)(n:Int)(k:Int→Prop):Prop:=match j with
 | .i64=>Int.rec (motive:=fun _=>Prop)
   (fun n=>bQ n fun n=>Bool.rec (motive:=fun _=>Prop) (rH (IntKind.i64.wrap (.ofNat n)) k) (k (.ofNat n)) (Nat.ble n 9223372036854775807))
   (fun n=>bQ n fun n=>Bool.rec (motive:=fun _=>Prop) (rH (IntKind.i64.wrap (.negSucc n)) k) (k (.negSucc n)) (Nat.ble n 9223372036854775807)) n
 | j=>rH (j.wrap n) k
theorem y9{n:Int}(g:-9223372036854775808≤n)(j:n≤9223372036854775807):IntKind.i64.wrap n=n:=by
 simp only [IntKind.wrap,IntKind.bits,IntKind.signed];have b:(2 ^ 64:Int)=18446744073709551616:=by decide
 have d:(2 ^ (64-1):Int)=9223372036854775808:=by decide
 simp only [b,d,Bool.true_and,decide_eq_true_eq];split<;>omega
theorem qL(j:IntKind)(n:Int)(k:Int→Prop):y_ j n k=k (j.wrap n):=by
 cases j<;>simp only [y_,xP]
 cases n with
 | ofNat n=>
  simp only [bT]
  cases h:Nat.ble n 9223372036854775807 with
  | false=>rfl
  | true=>
   have:=awu h;have e:Int.ofNat n=(n:Int):=rfl
   rw [y9 (by rw [e];omega) (by rw [e];omega)]
 | negSucc n=>
  simp only [bT]
  cases h:Nat.ble n 9223372036854775807 with
  | false=>rfl
  | true=>
   have:=awu h;rw [y9 (by omega) (by omega)]
end
section
set_option linter.unusedVariables false
def gS(a b:Nat)(p:Prop):Prop:=Bool.rec (motive:=fun _=>Prop) False p (Nat.beq a b)
def s0(a b:Nat)(p:Prop):Prop:=Bool.rec (motive:=fun _=>Prop) False p (Nat.ble a b)
def sG(b:Bool)(p:Prop):Prop:=Bool.rec (motive:=fun _=>Prop) False p b
def rS{b:Type}(o:Option b)(k:b→Prop):Prop:=Option.rec (motive:=fun _=>Prop) False k o
theorem cN{a b:Nat}{p:Prop}(h:gS a b p):a=b∧p:=by
 unfold gS at h
 cases e:Nat.beq a b with
 | false=>rw [e]at h;exact h.elim
 | true=>rw [e]at h;exact⟨awN e,h⟩
theorem gJ{a b:Nat}{p:Prop}(h:s0 a b p):a≤b∧p:=by
 unfold s0 at h
 cases e:Nat.ble a b with
 | false=>rw [e]at h;exact h.elim
 | true=>rw [e]at h;exact⟨awu e,h⟩
theorem my{b:Bool}{p:Prop}(h:sG b p):b=true∧p:=by cases b;exact h.elim;exact⟨rfl,h⟩
theorem jB{b:Type}{o:Option b}{k:b→Prop}(h:rS o k):∃ x,o=some x∧k x:=by cases o;exact h.elim;exact⟨_,rfl,h⟩
def nV(x:cU)(t:HT)(n:Nat)(k:HT→Nat→Prop):Prop:=zL x t n fun t=>bQ (Nat.succ n) fun n=>k t n
theorem gW{H:ai}{t:HT}(h:cR H t){x:cU}{k:HT→Nat→Prop}(j:nV x t H.length k):∃ b,cR (H++[x]) b∧k b (H++[x]).length:=by
 obtain⟨b,g,d⟩:=NG j;rw [bT]at d;exact⟨b,h.push g,by simpa using d⟩
theorem dE{H:ai}{t:HT}(h:cR H t){b:Nat}{x:cU}{k:HT→Prop}(m:fN x t b k):∃ d,cR (H.set b x) d∧k d:=by
 obtain⟨d,g,j,l⟩:=aad m;exact⟨d,h.set g j,l⟩
def akj(e:B6)(t:HT)(n:Nat)(k:HT→Nat→Prop):Prop:=
 B6.rec (motive:=fun _=>Prop) (k t n) (fun b x=>rJ x fun x=>fN x t b fun t=>k t n) (fun x=>rJ x fun x=>nV x t n k) e
theorem af6{H:ai}{t:HT}(h:cR H t){e:B6}{k:HT→Nat→Prop}(d:akj e t H.length k):∃ g,cR (e.app H) g∧k g (e.app H).length:=by
 cases e with
 | no=>exact⟨t,h,d⟩
 | set b x=>
  have d:rJ x fun x=>fN x t b fun t=>k t H.length:=d
  rw [xQ]at d;obtain⟨g,j,l⟩:=dE h d
  exact⟨g,j,by simpa [B6.app]using l⟩
 | push x=>
  have d:rJ x fun x=>nV x t H.length k:=d
  rw [xQ]at d;exact gW h d
def apc(b:cK)(r:T)(t:HT)(n:Nat)(k:V→HT→Nat→Prop):Prop:=
 rS (acn r t.get n b) fun r=>Prod.rec (motive:=fun _=>Prop) (fun v e=>kQ v fun v=>akj e t n (k v)) r
def OpS(d:cK)(r:T)(m:HT→Nat→(V→HT→Nat→Prop)→Prop):Prop:=
 ∀(H:ai) (t:HT) (k:V→HT→Nat→Prop),cR H t→m t H.length k→∃ v H' b,aZ r H d=some (v,H')∧cR H' b∧k v b H'.length
theorem agi(g:cK)(r:T):OpS g r (apc g r):=by
 intro H t k h m;obtain⟨⟨v,e⟩,d,b⟩:=jB m;have b:kQ v fun v=>akj e t H.length (k v):=b
 rw [rI]at b;obtain⟨q,j,l⟩:=af6 h b;refine⟨v,e.app H,q,?_,j,l⟩;rw [h]at d;rw [←AZ,d];rfl
def uA(v:V)(k:List C→Prop):Prop:=match v with
 | .c x=>k [x]
 | .a xs=>k xs
 | _=>False
theorem rC{v:V}{k:List C→Prop}(h:uA v k):∃ xs,v.cells?=some xs∧k xs:=by
 cases v with
 | c x=>exact⟨_,rfl,h⟩
 | a xs=>exact⟨_,rfl,h⟩
 | _=>exact h.elim
def Iu(n:Option Nat)(off:Nat)(cs:List C)(k:V→Prop):Prop:=
 Option.rec (motive:=fun _=>Prop) (agX off cs fun c=>k (.c c)) (fun m=>uH off cs fun cs=>lY m cs fun cs=>k (.a cs)) n
theorem vn{n:Option Nat}{off:Nat}{cs:List C}{k:V→Prop}(h:Iu n off cs k):∃ v,aF n (cs.drop off)=some v∧k v:=by
 cases n with
 | none=>
  obtain⟨c,b,d⟩:=tA h;refine⟨.c c,?_,d⟩;rw [←Nat.add_zero off,←avU]at b
  cases e:cs.drop off with
  | nil=>rw [e]at b;simp at b
  | cons y ys=>rw [e]at b;simp at b;subst b;rfl
 | some m=>
  have h:uH off cs fun cs=>lY m cs fun cs=>k (.a cs):=h
  rw [mB]at h;obtain⟨b,d⟩:=fj h;exact⟨_,if_pos b,d⟩
def abC(n:Option Nat)(off:Nat)(cs:List FC)(k:V→Prop):Prop:=
 Option.rec (motive:=fun _=>Prop) (agX off cs fun c=>k (.c (.f c))) (fun m=>uH off cs fun cs=>lY m cs fun cs=>fzK cs fun cs=>k (.a cs)) n
theorem OO{n:Option Nat}{off:Nat}{cs:List FC}{k:V→Prop}(h:abC n off cs k):∃ v,aF n ((cs.drop off).map .f)=some v∧k v:=by
 cases n with
 | none=>
  obtain⟨c,b,d⟩:=tA h;refine⟨.c (.f c),?_,d⟩;rw [←Nat.add_zero off,←avU]at b
  cases e:cs.drop off with
  | nil=>rw [e]at b;simp at b
  | cons y ys=>rw [e]at b;simp at b;subst b;rfl
 | some m=>
  have h:uH off cs fun cs=>lY m cs fun cs=>fzK cs fun cs=>k (.a cs):=h
  rw [mB]at h;obtain⟨b,d⟩:=fj h;rw [rK]at d;refine⟨_,if_pos (by simpa using b),?_⟩
  rw [←List.map_take];exact d
def ldK(t:HT)(n:Option Nat)(x:V)(k:V→Prop):Prop:=match x with
 | .c (.ptr b off d)=>fM b t fun aX=>match aX with
  | .box cs _=>Iu n off cs k
  | .bE _ cs _ e .loc=>gS d e (Iu n off cs k)
  | _=>False
 | .c (.f (.fp cs off))=>abC n off cs k
 | _=>False
theorem aaN{H:ai}{t:HT}(h:cR H t){n:Option Nat}{x:V}{k:V→Prop}(m:ldK t n x k):∃ v,aQ H n x=some v∧k v:=by
 unfold ldK at m;split at m
 ·rename_i b off s;obtain⟨aX,g,d⟩:=c8 m;rw [h]at g;have g:H[b]?=some aX:=g;split at d
  ·obtain⟨v,j,l⟩:=vn d;exact⟨v,by simp [aQ,az,g,j],l⟩
  ·obtain⟨q,d⟩:=cN d;obtain⟨v,j,l⟩:=vn d;exact⟨v,by simp [aQ,az,g,j,q],l⟩
  ·exact d.elim
 ·obtain⟨v,j,l⟩:=OO m;exact⟨v,by simp only [aQ,az,Option.bind_some,j],l⟩
 ·exact m.elim
def stK(t:HT)(x:C)(xs:List C)(k:HT→Prop):Prop:=match x with
 | .ptr b off g=>fM b t fun aX=>match aX with
  | .box cs d=>s0 d off (vj xs off cs fun cs=>fN (.box cs d) t b k)
  | .bE sz cs d e .loc=>gS g e (s0 d off (vj xs off cs fun cs=>fN (.bE sz cs d e .loc) t b k))
  | _=>False
 | _=>False
theorem amv{H:ai}{t:HT}(h:cR H t){x:C}{xs:List C}{k:HT→Prop}(l:stK t x xs k):∃ H' g,df H x xs=some H'∧cR H' g∧H'.length=H.length∧k g:=by
 unfold stK at l;split at l
 ·rename_i b off y;obtain⟨aX,j,d⟩:=c8 l;rw [h]at j;have j:H[b]?=some aX:=j;split at d
  ·obtain⟨m,d⟩:=gJ d;obtain⟨q,d⟩:=kk d;obtain⟨g,s,u⟩:=dE h d;exact⟨_,g,by simp [df,j,m,q],s,by simp,u⟩
  ·obtain⟨v,d⟩:=cN d;obtain⟨m,d⟩:=gJ d;obtain⟨q,d⟩:=kk d;obtain⟨g,s,u⟩:=dE h d;exact⟨_,g,by simp [df,j,v,m,q],s,by simp,u⟩
  ·exact d.elim
 ·exact l.elim
def lP(op:BinOp)(j:IntKind)(x y:Int)(k:V→Prop):Prop:=match op with
 | .add=>y_ j (Int.add x y) fun n=>k (.c (.f (.int j n)))
 | .sub=>y_ j (Int.sub x y) fun n=>k (.c (.f (.int j n)))
 | .mul=>y_ j (Int.mul x y) fun n=>k (.c (.f (.int j n)))
 | .eql=>mH (eqB x y) fun b=>k (.c (.f (.bool b)))
 | .neq=>mH (!eqB x y) fun b=>k (.c (.f (.bool b)))
 | .lss=>mH (ltB x y) fun b=>k (.c (.f (.bool b)))
 | .leq=>mH (!ltB y x) fun b=>k (.c (.f (.bool b)))
 | .gtr=>mH (ltB y x) fun b=>k (.c (.f (.bool b)))
 | .geq=>mH (!ltB x y) fun b=>k (.c (.f (.bool b)))
 | op=>rS (jJ op j x y) fun v=>kQ v k
theorem vd(x y:Int):(!decide (x<y))=decide (y≤x):=by
 rw [Bool.eq_iff_iff];simp
theorem Z9{b:BinOp}{j:IntKind}{x y:Int}{k:V→Prop}(h:lP b j x y k):∃ v,jJ b j x y=some v∧k v:=by
 cases b
 case add=>simp only [lP,qL]at h;exact⟨_,rfl,h⟩
 case sub=>simp only [lP,qL]at h;exact⟨_,rfl,h⟩
 case mul=>simp only [lP,qL]at h;exact⟨_,rfl,h⟩
 case eql=>simp only [lP,gu,aav]at h;exact⟨_,rfl,h⟩
 case neq=>simp only [lP,gu,aav]at h;exact⟨_,rfl,h⟩
 case lss=>simp only [lP,gu,Aj]at h;exact⟨_,rfl,h⟩
 case leq=>simp only [lP,gu,Aj,vd]at h;exact⟨_,rfl,h⟩
 case gtr=>simp only [lP,gu,Aj]at h;exact⟨_,rfl,h⟩
 case geq=>simp only [lP,gu,Aj,vd]at h;exact⟨_,rfl,h⟩
 all_goals
  simp only [lP]at h;obtain⟨v,g,d⟩:=jB h;rw [rI]at d;exact⟨v,g,d⟩
def aaJ(j b:IntKind)(p:Prop):Prop:=match j,b with
 | .i64,.i64=>p
 | j,b=>sG (decide (j=b)) p
theorem aaK{j b:IntKind}{p:Prop}(h:aaJ j b p):j=b∧p:=by
 unfold aaJ at h;split at h
 ·exact⟨rfl,h⟩
 ·obtain⟨d,g⟩:=my h;exact⟨of_decide_eq_true d,g⟩
def Z'(op:BinOp)(x y:V)(k:V→Prop):Prop:=match x,y with
 | .c (.f (.int j a)),.c (.f (.int d b))=>match op with
  | .shl=>rS (bJ .shl x y) fun v=>kQ v k
  | .shr=>rS (bJ .shr x y) fun v=>kQ v k
  | op=>aaJ j d (lP op j a b k)
 | x,y=>rS (bJ op x y) fun v=>kQ v k
theorem afV{d:BinOp}{x y:V}{k:V→Prop}(h:Z' d x y k):∃ v,bJ d x y=some v∧k v:=by
 have gen:(rS (bJ d x y) fun v=>kQ v k)→∃ v,bJ d x y=some v∧k v:=by
  intro h;obtain⟨v,l,g⟩:=jB h;rw [rI]at g;exact⟨v,l,g⟩
 unfold Z' at h;split at h
 ·rename_i j a u b;split at h
  ·exact gen h
  ·exact gen h
  ·rename_i l g;obtain⟨e,m⟩:=aaK h;subst e;obtain⟨v,q,s⟩:=Z9 m;refine⟨v,?_,s⟩;cases d<;>first | exact absurd rfl l | exact absurd rfl g | (simp only [bJ,if_true];exact q)
 ·exact gen h
def akT(v:V)(k:Nat→Prop):Prop:=match v with
 | .c (.f (.int _ (.ofNat m)))=>k m
 | _=>False
theorem agT{v:V}{k:Nat→Prop}(h:akT v k):∃ m,dk v=some (Int.ofNat m)∧k m:=by
 unfold akT at h;split at h
 ·exact⟨_,rfl,h⟩
 ·exact h.elim
def aaG(t:HT)(sz:Nat)(g:Option Nat)(x i:V)(k:V→Prop):Prop:=akT i fun m=>match g with
 | none=>match x with
  | .c (.sl b o l _ d s)=>s0 (Nat.succ m) l (fM b t fun aX=>match aX with
   | .box _ _=>bQ (Nat.add o (Nat.mul m sz)) fun o=>k (.c (.ptr b o d))
   | .bE s' _ _ e .loc=>gS d e (gS s s' (bQ (Nat.add o (Nat.mul m sz)) fun o=>k (.c (.ptr b o d))))
   | _=>False)
  | .c (.f (.fs cs l))=>s0 (Nat.succ m) l (bQ (Nat.mul m sz) fun o=>k (.c (.f (.fp cs o))))
  | _=>False
 | some n=>match x with
  | .c (.ptr b o d)=>s0 (Nat.succ m) n (bQ (Nat.add o (Nat.mul m sz)) fun o=>k (.c (.ptr b o d)))
  | .c (.f (.fp cs o))=>s0 (Nat.succ m) n (bQ (Nat.add o (Nat.mul m sz)) fun o=>k (.c (.f (.fp cs o))))
  | _=>False
theorem N6{H:ai}{t:HT}(h:cR H t){sz:Nat}{y:Option Nat}{x i:V}{k:V→Prop}(d:aaG t sz y x i k):∃ v,aG H sz y x i=some v∧k v:=by
 obtain⟨m,hi,d⟩:=agT d;have z:(0:Int)≤Int.ofNat m:=Int.natCast_nonneg m;have g:∀ l:Nat,Nat.succ m≤l→Int.ofNat m<(l:Int):=fun l F=>Int.ofNat_lt.2 F
 have j:(Int.ofNat m).toNat=m:=rfl;simp only at d;split at d
 ·split at d
  ·rename_i b o l cap I s _;obtain⟨u,d⟩:=gJ d;obtain⟨aX,A,q⟩:=c8 d;rw [h]at A;have A:H[b]?=some aX:=A;split at q
   ·rw [bT]at q;exact⟨_,by simp only [aG,hi,if_pos z,if_pos (g _ u),A,j];rfl,q⟩
   ·obtain⟨B,q⟩:=cN q;obtain⟨E,q⟩:=cN q;rw [bT]at q;exact⟨_,by simp only [aG,hi,if_pos z,if_pos (g _ u),A,j,B,E,and_self,if_true];rfl,B▸q⟩
   ·exact q.elim
  ·obtain⟨u,d⟩:=gJ d;rw [bT]at d;exact⟨_,by simp only [aG,hi,if_pos z,if_pos (g _ u),j];rfl,d⟩
  ·exact d.elim
 ·split at d
  ·obtain⟨u,d⟩:=gJ d;rw [bT]at d;exact⟨_,by simp only [aG,hi,if_pos z,if_pos (g _ u),j];rfl,d⟩
  ·obtain⟨u,d⟩:=gJ d;rw [bT]at d;exact⟨_,by simp only [aG,hi,if_pos z,if_pos (g _ u),j];rfl,d⟩
  ·exact d.elim
def akK(t:HT)(x:V)(k:Nat→Prop):Prop:=match x with
 | .c (.sl b _ l _ d sz)=>fM b t fun aX=>match aX with
  | .box _ _=>k l
  | .bE s _ _ e _=>gS d e (gS sz s (k l))
  | _=>False
 | .c (.f .ay)=>k 0
 | .c (.f .es)=>k 0
 | .c (.f (.fs _ l))=>k l
 | _=>False
theorem agL{H:ai}{t:HT}(h:cR H t){x:V}{k:Nat→Prop}(g:akK t x k):∃ y n,x=.c y∧bA H y=some n∧k n:=by
 unfold akK at g;split at g
 ·rename_i b o l cap s sz;obtain⟨aX,j,d⟩:=c8 g;rw [h]at j;have j:H[b]?=some aX:=j;split at d
  ·exact⟨_,l,rfl,by simp [bA,j],d⟩
  ·obtain⟨m,d⟩:=cN d;obtain⟨q,d⟩:=cN d;exact⟨_,l,rfl,by simp [bA,j,m,q],d⟩
  ·exact d.elim
 ·exact⟨_,0,rfl,rfl,g⟩
 ·exact⟨_,0,rfl,rfl,g⟩
 ·exact⟨_,_,rfl,rfl,g⟩
 ·exact g.elim
def GB(r:T)(ps:List (Nat × Nat × Arg)):List C→(List C→Prop)→Prop:=
 List.rec (motive:=fun _=>List C→(List C→Prop)→Prop) (fun cs k=>k cs)
  (fun p _ b cs k=>Prod.rec (motive:=fun _=>Prop) (fun off q=>Prod.rec (motive:=fun _=>Prop) (fun n x=>pD x r fun v=>uA v fun xs=>gS xs.length n (vj xs off cs fun cs=>b cs k)) q) p) ps
theorem yR(r:T):∀ {ps:List (Nat × Nat × Arg)} {cs:List C} {k:List C→Prop},GB r ps cs k→∃ cs',dc r cs ps=some cs'∧k cs'
 | [],cs,k,h=>⟨cs,rfl,h⟩
 | (off,n,x)::ps,cs,k,h=>by
  have h:pD x r fun v=>uA v fun xs=>gS xs.length n (vj xs off cs fun cs=>GB r ps cs k):=h
  rw [cZ]at h;obtain⟨xs,b,h⟩:=rC h;obtain⟨d,h⟩:=cN h;obtain⟨g,h⟩:=kk h;obtain⟨cs',j,l⟩:=yR r h;exact⟨cs',by simp [dc,b,d,j]at g ⊢;omega,l⟩
def FF(t:HT)(sz:Nat)(y:V)(k:Nat→List C→Prop):Prop:=match y with
 | .c (.f .ay)=>k 0 []
 | .c (.f .es)=>k 0 []
 | .c (.f (.fs cs l))=>gS cs.length (Nat.mul l sz) (fzK cs fun cs=>k l cs)
 | .c (.sl b o l _ d s)=>fM b t fun aX=>match aX with
  | .box cs _=>rD o cs fun cs=>lY (Nat.mul l sz) cs fun cs=>k l cs
  | .bE s' cs _ e _=>gS d e (gS s s' (gS s' sz (rD o cs fun cs=>lY (Nat.mul l sz) cs fun cs=>k l cs)))
  | _=>False
 | y=>rS (ph t.get sz y) fun r=>Prod.rec (motive:=fun _=>Prop) (fun n cs=>mI cs fun cs=>k n cs) r
theorem Nz{H:ai}{t:HT}(h:cR H t){sz:Nat}{y:V}{k:Nat→List C→Prop}(j:FF t sz y k) :
  ∃ n cs,cM H sz y=some (n,cs)∧k n cs:=by
 unfold FF at j;split at j
 ·exact⟨0,[],rfl,j⟩
 ·exact⟨0,[],rfl,j⟩
 ·rename_i cs l;obtain⟨m,j⟩:=cN j;rw [rK]at j;have m:cs.length=l*sz:=m;exact⟨l,_,by simp only [cM,bA,cH,m,if_true],j⟩
 ·rename_i b o l cap B s;obtain⟨aX,g,d⟩:=c8 j;rw [h]at g;have g:H[b]?=some aX:=g;split at d
  ·obtain⟨A,d⟩:=iM d;obtain⟨q,u⟩:=fj d;have q:l*sz≤_:=q;rw [awt]at q;refine⟨l,_,?_,u⟩;simp only [cM,bA,cH,g];rw [if_pos (by omega)];rfl
  ·obtain⟨q,d⟩:=cN d;obtain⟨u,d⟩:=cN d;obtain⟨x,d⟩:=cN d;obtain⟨A,d⟩:=iM d;obtain⟨v,z⟩:=fj d;have v:l*sz≤_:=v;rw [awt]at v;subst q u x;refine⟨l,_,?_,z⟩;simp only [cM,bA,cH,g,and_self,if_true];rw [if_pos ⟨trivial,trivial,by omega⟩];rfl
  ·exact d.elim
 ·obtain⟨⟨n,cs⟩,m,g⟩:=jB j;have g:mI cs fun cs=>k n cs:=g
  rw [ka]at g;rw [h,ot]at m;exact⟨n,cs,m,g⟩
def Du(need bytes:Nat)(p:Prop):Prop:=s0 (Nat.mul (Nat.add (Nat.mul 2 need) 768) bytes) 281474976710656 (s0 (Nat.succ need) 281474976710656 p)
theorem qd{need bytes:Nat}{p:Prop}(h:Du need bytes p):bI need bytes=true∧p:=by
 obtain⟨b,h⟩:=gJ h;obtain⟨d,h⟩:=gJ h;refine⟨?_,h⟩;have e:(2:Nat) ^ 48=281474976710656:=by decide
 simp only [bI,If,decide_eq_true_eq,e];exact⟨b,d⟩
def aoP(t:HT)(n:Nat)(sz bytes:Nat)(x y:V)(k:V→HT→Nat→Prop):Prop:=
 FF t sz y fun m ys=>Nat.rec (motive:=fun _=>Prop) False (fun _ _=>match x with
  | .c (.f .ay)=>Nat.rec (motive:=fun _=>Prop) (k (.c (.f .ay)) t n) (fun _ _=>Du m bytes (bQ m fun m=>nV (.bE sz ys 0 0 .loc) t n fun t n'=>k (.c (.sl n 0 m 0 0 sz)) t n')) m
  | .c (.f .es)=>Nat.rec (motive:=fun _=>Prop) (k (.c (.f .es)) t n) (fun _ _=>Du m bytes (bQ m fun m=>nV (.bE sz ys 0 0 .loc) t n fun t n'=>k (.c (.sl n 0 m 0 0 sz)) t n')) m
  | .c (.sl b o l cap j s)=>fM b t fun aX=>match aX with
   | .box cs g=>Bool.rec (motive:=fun _=>Prop)
     (bQ (Nat.add l m) fun d=>Du d bytes (rD o cs fun cs=>lY (Nat.mul l sz) cs fun cs=>akd cs ys fun cs=>nV (.bE sz cs 0 0 .loc) t n fun t n'=>k (.c (.sl n 0 d 0 0 sz)) t n'))
     (bQ (Nat.add l m) fun d=>s0 g (Nat.add o (Nat.mul l sz)) (vj ys (Nat.add o (Nat.mul l sz)) cs fun cs=>fN (.box cs g) t b fun t=>k (.c (.sl b o d cap j s)) t n))
     (Nat.ble (Nat.add l m) cap)
   | .bE s' cs g e st=>gS j e (gS s' sz (gS s sz (Nat.rec (motive:=fun _=>Prop) (k x t n) (fun _ _=>
     bQ (Nat.add l m) fun d=>Bool.rec (motive:=fun _=>Prop)
      (match st with
       | .loc=>s0 g (Nat.add o (Nat.mul l sz)) (vj ys (Nat.add o (Nat.mul l sz)) cs fun cs=>fN (.bE sz cs g e .loc) t b fun t=>k (.c (.sl b o d 0 j sz)) t n)
       | _=>False)
      (Du d bytes (bQ (Nat.succ e) fun q=>akd cs ys fun cs=>fN (.bE sz cs g q .loc) t b fun t=>k (.c (.sl b 0 d 0 q sz)) t n))
      (and (and (Nat.beq o 0) (Nat.beq (Nat.mul l sz) cs.length)) (Nat.ble g cs.length))) m)))
   | _=>False
  | _=>False) sz
theorem afR{H:ai}{t:HT}(h:cR H t){sz bytes:Nat}{x y:V}{k:V→HT→Nat→Prop}(d:aoP t H.length sz bytes x y k) :
  ∃ v H' g,bz H sz bytes x y=some (v,H')∧cR H' g∧k v g H'.length:=by
 obtain⟨m,ys,O,d⟩:=Nz h d;unfold bz;rw [O]
 cases sz with
 | zero=>exact d.elim
 | succ u=>
  simp only at d ⊢;rw [if_neg (by omega)]
  split at d
  ·cases m with
   | zero=>exact⟨_,H,t,rfl,h,d⟩
   | succ M=>
    simp only at d;obtain⟨K,d⟩:=qd d;rw [bT]at d;obtain⟨g,z,j⟩:=gW h d;exact⟨_,_,g,by simp only [Nat.add_one_ne_zero,if_false,K,if_true],z,j⟩
  ·cases m with
   | zero=>exact⟨_,H,t,rfl,h,d⟩
   | succ M=>
    simp only at d;obtain⟨K,d⟩:=qd d;rw [bT]at d;obtain⟨g,z,j⟩:=gW h d;exact⟨_,_,g,by simp only [Nat.add_one_ne_zero,if_false,K,if_true],z,j⟩
  ·rename_i b o l cap S s _;obtain⟨aX,z,d⟩:=c8 d;rw [h]at z;have z:H[b]?=some aX:=z;simp only [z];split at d
   ·rename_i cs J _;simp only
    cases hc:Nat.ble (Nat.add l m) cap with
    | false=>
     rw [hc]at d;have B:¬ (l+m≤cap):=fun e=>by have:=Nat.ble_eq_true_of_le e;rw [show Nat.ble (Nat.add l m) cap=Nat.ble (l+m) cap from rfl,this]at hc;cases hc
     simp only [bT]at d;obtain⟨j,d⟩:=qd d;obtain⟨F,d⟩:=iM d;obtain⟨E,d⟩:=fj d;rw [zO]at d;obtain⟨g,q,A⟩:=gW h d;rw [awt]at E;have E:l*(u+1)≤_:=E;rw [if_neg B,if_pos ⟨j,by omega⟩]
     exact⟨_,_,g,rfl,q,A⟩
    | true=>
     rw [hc]at d;have B:l+m≤cap:=awu hc;simp only [bT]at d;obtain⟨j,d⟩:=gJ d;obtain⟨F,d⟩:=kk d;obtain⟨g,q,A⟩:=dE h d;rw [if_pos B,if_pos ⟨j,F⟩];exact⟨_,_,g,rfl,q,by simpa using A⟩
   ·rename_i s' cs J e st _;simp only;obtain⟨j,d⟩:=cN d;obtain⟨F,d⟩:=cN d;obtain⟨E,d⟩:=cN d;rw [if_pos ⟨j,F,E⟩]
    cases m with
    | zero=>rw [if_pos rfl];exact⟨_,H,t,rfl,h,d⟩
    | succ M=>
     rw [if_neg (by omega)]
     simp only [bT]at d
     cases hc:and (and (Nat.beq o 0) (Nat.beq (Nat.mul l (u+1)) cs.length)) (Nat.ble J cs.length)with
     | true=>
      rw [hc]at d;simp only [If]at hc;have c1:=awN hc.1.1;have c2:=awN hc.1.2;have I:=awu hc.2;simp only at d;obtain⟨q,d⟩:=qd d;rw [zO]at d;obtain⟨g,A,L⟩:=dE h d;have q:bI (l+(M+1)) bytes=true:=q;rw [if_pos ⟨c1,c2,I⟩,if_pos q];subst j
      exact⟨_,_,g,rfl,A,by simpa using L⟩
     | false=>
      rw [hc]at d
      have Q:¬ (o=0∧l*(u+1)=cs.length∧J≤cs.length):=by
       rintro⟨c1,c2,I⟩;rw [c1,show Nat.mul l (u+1)=cs.length from c2,Nat.ble_eq_true_of_le I]at hc
       simp at hc
      rw [if_neg Q];simp only at d;split at d
      ·obtain⟨q,d⟩:=gJ d;obtain⟨A,d⟩:=kk d;obtain⟨g,L,N⟩:=dE h d;rw [if_pos ⟨rfl,q,A⟩];exact⟨_,_,g,rfl,L,by simpa using N⟩
      ·exact d.elim
   ·exact d.elim
  ·exact d.elim
end
section
set_option linter.unusedVariables false
abbrev eP:=Callee→List V→HT→Nat→(V→HT→Nat→Prop)→Prop
def oU(call:cE)(bs:eP):Prop:=
 ∀(c:Callee) (args:List V) (H:ai) (t:HT) (k:V→HT→Nat→Prop),cR H t→bs c args t H.length k→∃ v H' b,call c args H=some (v,H')∧cR H' b∧k v b H'.length
def zX{d b:Type}(g:d→(b→Prop)→Prop)(xs:List d):(List b→Prop)→Prop:=
 List.rec (motive:=fun _=>(List b→Prop)→Prop) (fun k=>k []) (fun x _ j k=>g x fun y=>j fun ys=>k (y::ys)) xs
theorem ir{b d:Type}{g:b→(d→Prop)→Prop}{f:b→Option d}(j:∀ x k,g x k→∃ y,f x=some y∧k y):∀ {xs:List b} {k:List d→Prop},zX g xs k→∃ ys,aU f xs=some ys∧k ys
 | [],k,h=>⟨[],rfl,h⟩
 | x::xs,k,h=>by
  obtain⟨y,l,h⟩:=j x _ h;obtain⟨ys,m,q⟩:=ir j (xs:=xs) h;exact⟨y::ys,by simp [aU,l,m],q⟩
def exK(t:HT)(m:Nat):C→(FC→Prop)→Prop:=
 Nat.rec (motive:=fun _=>C→(FC→Prop)→Prop) (fun x k=>match x with
   | .f y=>k y
   | _=>False)
  (fun _ j x k=>match x with
   | .f y=>k y
   | .ptr b off _=>fM b t fun aX=>match aX with
    | .box cs _=>zX j cs fun d=>k (.fp d off)
    | _=>False
   | .sl b o l _ q sz=>fM b t fun aX=>match aX with
    | .box cs _=>rD o cs fun cs=>lY (Nat.mul l sz) cs fun cs=>zX j cs fun d=>k (.fs d l)
    | .bE s cs _ e .loc=>gS q e (gS sz s (rD o cs fun cs=>lY (Nat.mul l sz) cs fun cs=>zX j cs fun d=>k (.fs d l)))
    | .bE s cs _ e .nil=>gS q e (gS sz s (k .ay))
    | .bE s cs _ e .es=>gS q e (gS sz s (k .es))
    | _=>False
   | .cl f g=>zX j g fun d=>k (.fn f d)
   | _=>False) m
theorem aay{H:ai}{t:HT}(h:cR H t):∀(m:Nat) (x:C) (k:FC→Prop),exK t m x k→∃ y,cW m H x=some y∧k y:=by
 intro m
 induction m with
 | zero=>
  intro x k q
  cases x with
  | f y=>exact⟨y,rfl,q⟩
  | _=>exact q.elim
 | succ m E=>
  intro x k q
  cases x with
  | f y=>exact⟨y,rfl,q⟩
  | ptr b off J=>
   obtain⟨aX,g,d⟩:=c8 q;rw [h]at g;have g:H[b]?=some aX:=g
   cases aX with
   | box cs I=>
    obtain⟨z,j,u⟩:=ir E d
    exact⟨_,by simp only [cW,g,j];rfl,u⟩
   | _=>exact d.elim
  | sl b o l cap J sz=>
   obtain⟨aX,g,d⟩:=c8 q;rw [h]at g;have g:H[b]?=some aX:=g
   cases aX with
   | box cs I=>
    obtain⟨K,d⟩:=iM d;obtain⟨v,d⟩:=fj d;obtain⟨z,j,u⟩:=ir E d;rw [awt]at v;have v:l*sz≤_:=v;have j:aU (cW m H) ((cs.drop o).take (l*sz))=some z:=j
    exact⟨_,by simp only [cW,g];rw [if_pos (by omega),j];rfl,u⟩
   | bE s cs I e st=>
    cases st with
    | loc=>
     obtain⟨A,d⟩:=cN d;obtain⟨B,d⟩:=cN d;obtain⟨K,d⟩:=iM d;obtain⟨v,d⟩:=fj d;obtain⟨z,j,u⟩:=ir E d;rw [awt]at v;have v:l*sz≤_:=v;have j:aU (cW m H) ((cs.drop o).take (l*sz))=some z:=j
     exact⟨_,by simp only [cW,g];rw [if_pos ⟨A,B,by omega⟩,j];rfl,u⟩
    | nil=>
     obtain⟨A,d⟩:=cN d;obtain⟨B,d⟩:=cN d
     exact⟨_,by simp only [cW,g];rw [if_pos ⟨A,B⟩],d⟩
    | es=>
     obtain⟨A,d⟩:=cN d;obtain⟨B,d⟩:=cN d
     exact⟨_,by simp only [cW,g];rw [if_pos ⟨A,B⟩],d⟩
   | _=>exact d.elim
  | cl f F=>
   obtain⟨z,j,u⟩:=ir E q
   exact⟨_,by simp only [cW,j];rfl,u⟩
  | _=>exact q.elim
def HH(t:HT)(v:V)(k:V→Prop):Prop:=match v with
 | .c x=>exK t deep x fun y=>k (.c (.f y))
 | .a xs=>zX (exK t deep) xs fun ys=>fzK ys fun cs=>k (.a cs)
 | _=>False
theorem pE{H:ai}{t:HT}(h:cR H t)(v:V)(k:V→Prop)(g:HH t v k):∃ y,bX deep H v=some y∧k y:=by
 cases v with
 | c x=>
  obtain⟨y,d,b⟩:=aay h deep x _ g
  exact⟨_,by simp only [bX,d];rfl,b⟩
 | a xs=>
  obtain⟨ys,d,b⟩:=ir (aay h deep) g;rw [rK]at b
  exact⟨_,by simp only [bX,d];rfl,b⟩
 | _=>exact g.elim
def ao_(t:HT)(v:V)(k:V→Prop):Prop:=match v with
 | .t b=>zX (HH t) b fun b=>k (.t b)
 | v=>HH t v k
theorem agd{H:ai}{t:HT}(h:cR H t)(v:V)(k:V→Prop)(b:ao_ t v k):∃ y,iN deep H v=some y∧k y:=by
 cases v with
 | t j=>
  obtain⟨ys,d,g⟩:=ir (pE h) b
  exact⟨_,by simp only [iN,d];rfl,g⟩
 | c x=>exact pE h (.c x) k b
 | a xs=>exact pE h (.a xs) k b
 | top=>exact b.elim
def Gm{b:Type}(g:b→HT→(HT→Prop)→Prop)(xs:List b):HT→(HT→Prop)→Prop:=
 List.rec (motive:=fun _=>HT→(HT→Prop)→Prop) (fun t k=>k t) (fun x _ d t k=>g x t fun t=>d t k) xs
def MkS{b:Type}(g:b→HT→(HT→Prop)→Prop)(f:ai→b→ai):Prop:=∀(x:b) (H:ai) (t:HT) (k:HT→Prop),cR H t→g x t k→∃ d,cR (f H x) d∧k d
theorem kZ{d:Type}{g:d→HT→(HT→Prop)→Prop}{f:ai→d→ai}(j:MkS g f):∀(xs:List d) (H:ai) (t:HT) (k:HT→Prop),cR H t→Gm g xs t k→∃ l,cR (xs.foldl f H) l∧k l
 | [],H,t,k,h,b=>⟨t,h,b⟩
 | x::xs,H,t,k,h,b=>by
  obtain⟨t1,m,q⟩:=j x H t _ h b;exact kZ j xs _ t1 k m q
def mkK(m:Nat):C→HT→(HT→Prop)→Prop:=
 Nat.rec (motive:=fun _=>C→HT→(HT→Prop)→Prop) (fun _ t k=>k t)
  (fun _ j x t k=>match x with
   | .f _=>k t
   | .ptr b _ _=>fM b t fun aX=>match aX with
    | .box cs d=>bQ (Nat.max d cs.length) fun d=>fN (.box cs d) t b fun t=>Gm j cs t k
    | _=>k t
   | .sl b o l _ _ sz=>fM b t fun aX=>match aX with
    | .box cs d=>bQ (Nat.max d (Nat.add o (Nat.mul l sz))) fun d=>fN (.box cs d) t b fun t=>uH o cs fun cs=>lY (Nat.mul l sz) cs fun cs=>Gm j cs t k
    | .bE s cs d e st=>bQ (Nat.max d (Nat.add o (Nat.mul l sz))) fun d=>fN (.bE s cs d e st) t b fun t=>uH o cs fun cs=>lY (Nat.mul l sz) cs fun cs=>Gm j cs t k
    | _=>k t
   | .cl _ g=>Gm j g t k
   | _=>k t) m
theorem aa7:∀(m:Nat),MkS (mkK m) (fun H x=>fZ m x H):=by
 intro m
 induction m with
 | zero=>intro x H t k h q;exact⟨t,by cases x<;>exact h,q⟩
 | succ m v=>
  intro x H t k h q
  cases x with
  | f y=>exact⟨t,h,q⟩
  | ptr b off B=>
   obtain⟨aX,d,g⟩:=c8 q;rw [h]at d;have d:H[b]?=some aX:=d
   cases aX with
   | box cs A=>
    change bQ _ _ at g;rw [bT]at g;obtain⟨t1,u,j⟩:=dE h g;simp only [fZ,d]
    exact kZ v cs _ t1 k u j
   | _=>simp only [fZ,d];exact⟨t,h,g⟩
  | sl b o l cap B sz=>
   obtain⟨aX,d,g⟩:=c8 q;rw [h]at d;have d:H[b]?=some aX:=d
   cases aX with
   | box cs A=>
    change bQ _ _ at g;rw [bT]at g;obtain⟨t1,u,j⟩:=dE h g;rw [mB]at j;obtain⟨_,j⟩:=fj j;simp only [fZ,d]
    exact kZ v _ _ t1 k u j
   | bE s cs A e st=>
    change bQ _ _ at g;rw [bT]at g;obtain⟨t1,u,j⟩:=dE h g;rw [mB]at j;obtain⟨_,j⟩:=fj j;simp only [fZ,d]
    exact kZ v _ _ t1 k u j
   | _=>simp only [fZ,d];exact⟨t,h,g⟩
  | cl f z=>
   simp only [fZ]
   exact kZ v _ _ t k h q
  | _=>exact⟨t,h,q⟩
def apH(v:V)(t:HT)(k:HT→Prop):Prop:=match v with
 | .c x=>mkK deep x t k
 | .a xs=>Gm (mkK deep) xs t k
 | _=>k t
theorem agR:MkS apH (mkV deep):=by
 intro v H t k h b
 cases v with
 | c x=>exact aa7 deep x H t k h b
 | a xs=>exact kZ (aa7 deep) xs H t k h b
 | _=>exact⟨t,h,b⟩
def ais(call:eP)(f:Nat)(d:List V)(t:HT)(n:Nat)(k:V→HT→Nat→Prop):Prop:=
 zX (HH t) d fun g=>call (.fn f) g .e 0 fun b j _=>ao_ j b fun b=>Gm apH d t fun t=>k b t n
theorem abI{call:cE}{bs:eP}(hc:oU call bs){f:Nat}{g:List V}{H:ai}{t:HT}{k:V→HT→Nat→Prop}(h:cR H t)(b:ais bs f g t H.length k) :
  ∃ v H' d,dQ call f g H=some (v,H')∧cR H' d∧k v d H'.length:=by
 obtain⟨l,m,b⟩:=ir (pE h) b;obtain⟨y,z,t1,q,s,b⟩:=hc (.fn f) l [] .e _ cR.nil b;obtain⟨j,u,b⟩:=agd s y _ b;obtain⟨d,x,b⟩:=kZ agR g H t _ h b;refine⟨j,_,d,by simp only [dQ,m,q,u],x,?_⟩
 rw [←(nA deep g H).1];exact b
abbrev tk:=eP→T→List dt→HT→Nat→(V→List dt→HT→Nat→Prop)→Prop
def eT(b:cK):tk:=fun _ r d t n k=>apc b r t n fun v t n=>k v d t n
def ajS(x:Arg):tk:=fun _ r d t n k=>pD x r fun v=>k v d t n
def ZY(c a b:Arg):tk:=fun _ r d t n k=>pD c r fun v=>match v with
 | .c (.f (.bool v))=>Bool.rec (motive:=fun _=>Prop) (pD b r fun v=>k v d t n) (pD a r fun v=>k v d t n) v
 | _=>False
def Fy(zs:List FC):tk:=fun _ r d t n k=>fzK zs fun cs=>nV (.box cs 0) t n fun t n'=>k (.c (.ptr n 0 0)) d t n'
def ajP(x:Arg):tk:=fun _ r d t n k=>pD x r fun v=>uA v fun xs=>nV (.box xs 0) t n fun t n'=>k (.c (.ptr n 0 0)) d t n'
def Fz(zs:List FC)(ps:List (Nat × Nat × Arg)):tk:=fun _ r d t n k=>fzK zs fun cs=>GB r ps cs fun cs=>k (.a cs) d t n
def ZX(m:Option Nat)(x:Arg):tk:=fun _ r d t n k=>pD x r fun v=>ldK t m v fun v=>k v d t n
def FE(m:Nat)(x y:Arg):tk:=fun _ r d t n k=>pD x r fun v=>pD y r fun y=>uA y fun xs=>gS xs.length m (match v with
 | .c p=>stK t p xs fun t=>k .top d t n
 | _=>False)
def zG(x:Arg):tk:=fun _ r d t n k=>pD x r fun v=>match v with
 | .c (.ptr b o e)=>k (.c (.ptr b o e)) d t n
 | .c (.f (.fp cs o))=>k (.c (.f (.fp cs o))) d t n
 | _=>False
def ajO(b:BinOp)(x y:Arg):tk:=fun _ r d t n k=>pD x r fun x=>pD y r fun y=>Z' b x y fun v=>k v d t n
def ajQ(j:IntKind)(x:Arg):tk:=fun _ r d t n k=>pD x r fun v=>match v with
 | .c (.f (.int _ m))=>y_ j m fun m=>k (.c (.f (.int j m))) d t n
 | _=>False
def zE(off:Nat)(x:Arg):tk:=fun _ r d t n k=>pD x r fun v=>match v with
 | .c (.ptr b o e)=>bQ (Nat.add o off) fun o=>k (.c (.ptr b o e)) d t n
 | .c (.f (.fp cs o))=>bQ (Nat.add o off) fun o=>k (.c (.f (.fp cs o))) d t n
 | _=>False
def FD(off:Nat)(m:Option Nat)(x:Arg):tk:=fun _ r d t n k=>pD x r fun v=>match v with
 | .a xs=>Iu m off xs fun v=>k v d t n
 | _=>False
def zF(sz:Nat)(b:Option Nat)(x i:Arg):tk:=fun _ r d t n k=>pD x r fun x=>pD i r fun i=>aaG t sz b x i fun v=>k v d t n
def ui(x:Arg)(i:Nat):tk:=fun _ r d t n k=>pD x r fun v=>match v with
 | .t b=>agX i b fun v=>k v d t n
 | _=>False
def ZW(f:Nat)(args:List Arg)(h:Bool):tk:=fun call r d t n k=>Cs args r fun b=>
 Bool.rec (motive:=fun _=>Prop) (ais call f b t n fun v t n=>k v d t n) (call (.fn f) b t n fun v t n=>k v d t n) h
def FA(x:Arg)(args:List Arg)(_:Bool):tk:=fun call r d t n k=>pD x r fun x=>Cs args r fun b=>
 rS (bP x b) fun g=>Prod.rec (motive:=fun _=>Prop) (fun c b=>call c b t n fun v t n=>k v d t n) g
def aie(m:Nat):tk:=fun _ r d t n k=>k (.c (.f (.int .i64 (.ofNat m)))) d t n
def ajR(x:Arg):tk:=fun _ r d t n k=>pD x r fun v=>akK t v fun m=>k (.c (.f (.int .i64 (.ofNat m)))) d t n
def zD(sz bytes:Nat)(x y:Arg):tk:=fun _ r d t n k=>pD x r fun x=>pD y r fun y=>aoP t n sz bytes x y fun v t n=>k v d t n
def Cm:tk:=fun _ r d t n k=>k (.c (.f .lZ)) d t n
def FB(x:Arg)(args:List Arg):tk:=fun _ r d t n k=>pD x r fun x=>Cs args r fun b=>
 rS (bP x b) fun g=>Prod.rec (motive:=fun _=>Prop) (fun c b=>Callee.rec (motive:=fun _=>Prop) (fun f=>k .top (.fn f b::d) t n) (fun _=>False) c) g
def apS(d:cK):tk:=
 cK.rec (motive:=fun _=>tk)
  ajS (fun o s=>eT (.pre o s)) ZY Fy ajP Fz (fun a b c e=>eT (.aO a b c e)) ZX FE zG ajO
  (fun a b c e=>eT (.eq a b c e)) (fun a b=>eT (.un a b)) ajQ (fun a=>eT (.zQ a)) (fun a=>eT (.wq a)) (fun a=>eT (.FU a)) (fun a b=>eT (.kh a b)) (eT .jz)
  (fun a b c e=>eT (.lookup a b c e)) (fun a b c e=>eT (.jw a b c e)) (fun a b c e f=>eT (.cP a b c e f)) (fun a b c e f=>eT (.slice a b c e f)) (fun a b c e f g=>eT (.ku a b c e f g)) (fun a b c=>eT (.qG a b c))
  zE FD zF (fun a b=>eT (.idxs a b)) (fun a b c e f=>eT (.pK a b c e f)) (fun a=>eT (.range a)) (fun a=>eT (.next a)) ui ZW FA ajR aie (fun a=>eT (.lens a)) (fun a=>eT (.cap a))
  zD (fun a b c=>eT (.copy a b c)) (fun a b=>eT (.mP a b)) (fun a b c e f=>eT (.sZ a b c e f)) (fun a b c=>eT (.clear a b c)) (fun a=>eT (.lu a)) (fun a=>eT (.pU a)) (fun a=>eT (.entry a)) (fun a b=>eT (.wv a b)) (fun a b c e=>eT (.wN a b c e)) (fun a b c e=>eT (.gv a b c e)) Cm FB (eT .bad) d
theorem agZ{call:cE}{bs:eP}(hc:oU call bs)(A:cK){r:T}{d:List dt}{H:ai}{t:HT}{k:V→List dt→HT→Nat→Prop}(h:cR H t)(g:apS A bs r d t H.length k) :
  ∃ v B H' q,dZ call ⟨r,d,H⟩ A=some (v,⟨r,B,H'⟩)∧cR H' q∧k v B q H'.length:=by
 have go:∀ {v H' q},dZ call ⟨r,d,H⟩ A=(aZ r H A).map (fun r'=>(r'.1,⟨r,d,r'.2⟩))→aZ r H A=some (v,H')→cR H' q→k v d q H'.length →
   ∃ v B H' q,dZ call ⟨r,d,H⟩ A=some (v,⟨r,B,H'⟩)∧cR H' q∧k v B q H'.length:=
  fun s u l E=>⟨_,d,_,_,by rw [s,u];rfl,l,E⟩
 have gen:dZ call ⟨r,d,H⟩ A=(aZ r H A).map (fun r'=>(r'.1,⟨r,d,r'.2⟩))→eT A bs r d t H.length k →
   ∃ v B H' q,dZ call ⟨r,d,H⟩ A=some (v,⟨r,B,H'⟩)∧cR H' q∧k v B q H'.length:=fun s u=>by
  obtain⟨v,H',q,l,E,J⟩:=agi A r H t _ h u;exact go s l E J
 cases A
 case bf x=>
  have g:ajS x bs r d t H.length k:=g;unfold ajS at g;rw [cZ]at g;exact go rfl rfl h g
 case pick c a b=>
  have g:ZY c a b bs r d t H.length k:=g;unfold ZY at g;rw [cZ]at g;split at g
  ·rename_i v z
   cases v with
   | true=>
    simp only [cZ]at g
    exact go rfl (by simp only [aZ,z];rfl) h g
   | false=>
    simp only [cZ]at g;exact go rfl (by simp only [aZ,z];rfl) h g
  ·exact g.elim
 case alloc zs=>
  have g:Fy zs bs r d t H.length k:=g;unfold Fy at g;rw [rK]at g;obtain⟨q,s,u⟩:=gW h g;exact go rfl rfl s u
 case box x=>
  have g:ajP x bs r d t H.length k:=g;unfold ajP at g;rw [cZ]at g;obtain⟨xs,l,g⟩:=rC g;obtain⟨q,s,u⟩:=gW h g;exact go rfl (by simp only [aZ,l]) s u
 case build zs ps=>
  have g:Fz zs ps bs r d t H.length k:=g;unfold Fz at g;rw [rK]at g;obtain⟨cs,l,g⟩:=yR r g;exact go rfl (by simp only [aZ,l];rfl) h g
 case load m x=>
  have g:ZX m x bs r d t H.length k:=g;unfold ZX at g;rw [cZ]at g;obtain⟨v,l,g⟩:=aaN h g;exact go rfl (by simp only [aZ,l];rfl) h g
 case store m x y=>
  have g:FE m x y bs r d t H.length k:=g;unfold FE at g;rw [cZ,cZ]at g;obtain⟨xs,l,g⟩:=rC g;obtain⟨E,g⟩:=cN g;split at g
  ·rename_i p N;obtain⟨H',q,J,L,M,g⟩:=amv h g;exact go rfl (by simp only [aZ,N,l,E,if_true,J];rfl) L (by rw [M];exact g)
  ·exact g.elim
 case bh x=>
  have g:zG x bs r d t H.length k:=g;unfold zG at g;rw [cZ]at g;split at g
  ·rename_i z;exact go rfl (by simp only [aZ,z]) h g
  ·rename_i z;exact go rfl (by simp only [aZ,z]) h g
  ·exact g.elim
 case bin A x y=>
  have g:ajO A x y bs r d t H.length k:=g;unfold ajO at g;rw [cZ,cZ]at g;obtain⟨v,l,g⟩:=afV g;exact go rfl (by simp only [aZ,l];rfl) h g
 case ek j x=>
  have g:ajQ j x bs r d t H.length k:=g;unfold ajQ at g;rw [cZ]at g;split at g
  ·rename_i z;simp only [qL]at g;exact go rfl (by simp only [aZ,z];rfl) h g
  ·exact g.elim
 case aw off x=>
  have g:zE off x bs r d t H.length k:=g;unfold zE at g;rw [cZ]at g;split at g
  ·rename_i z;rw [bT]at g;exact go rfl (by simp only [aZ,z,iu];rfl) h g
  ·rename_i z;rw [bT]at g;exact go rfl (by simp only [aZ,z,iu];rfl) h g
  ·exact g.elim
 case field off m x=>
  have g:FD off m x bs r d t H.length k:=g;unfold FD at g;rw [cZ]at g;split at g
  ·rename_i z;obtain⟨v,l,g⟩:=vn g;exact go rfl (by simp only [aZ,z,mE,l];rfl) h g
  ·exact g.elim
 case aP sz I x i=>
  have g:zF sz I x i bs r d t H.length k:=g;unfold zF at g;rw [cZ,cZ]at g;obtain⟨v,l,g⟩:=N6 h g;exact go rfl (by simp only [aZ,l];rfl) h g
 case extract x i=>
  have g:ui x i bs r d t H.length k:=g;unfold ui at g;rw [cZ]at g;split at g
  ·rename_i z;obtain⟨v,l,g⟩:=tA g;exact go rfl (by simp only [aZ,z,l];rfl) h g
  ·exact g.elim
 case call f args F=>
  have g:ZW f args F bs r d t H.length k:=g;unfold ZW at g;rw [pj]at g
  cases F with
  | false=>
   obtain⟨v,H',q,s,u,l⟩:=abI hc h g
   exact⟨v,d,H',q,by simp only [dZ,fW,atN,if_false,s];rfl,u,l⟩
  | true=>
   obtain⟨v,H',q,s,u,l⟩:=hc _ _ H t _ h g;exact⟨v,d,H',q,by simp only [dZ,fW,if_true,s];rfl,u,l⟩
 case bR x args F=>
  have g:FA x args F bs r d t H.length k:=g;unfold FA at g;rw [cZ,pj]at g;obtain⟨⟨c,K⟩,s,g⟩:=jB g;obtain⟨v,H',q,u,l,E⟩:=hc c K H t _ h g;exact⟨v,d,H',q,by simp only [dZ,s,u];rfl,l,E⟩
 case len x=>
  have g:ajR x bs r d t H.length k:=g;unfold ajR at g;rw [cZ]at g;obtain⟨y,m,s,u,g⟩:=agL h g;exact go rfl (by simp only [aZ,s,u];rfl) h g
 case uS m=>
  have g:aie m bs r d t H.length k:=g;exact go rfl rfl h g
 case append sz bytes x y=>
  have g:zD sz bytes x y bs r d t H.length k:=g;unfold zD at g;rw [cZ,cZ]at g;obtain⟨v,H',q,s,u,l⟩:=afR h g;exact go rfl (by simp only [aZ,s]) u l
 case recover=>
  have g:Cm bs r d t H.length k:=g;exact⟨_,d,H,t,rfl,h,g⟩
 case defer x args=>
  have g:FB x args bs r d t H.length k:=g;unfold FB at g;rw [cZ,pj]at g;obtain⟨⟨c,K⟩,s,g⟩:=jB g
  cases c with
  | fn f=>exact⟨_,.fn f K::d,H,t,by simp only [dZ,s],h,g⟩
  | yield b=>exact g.elim
 all_goals exact gen rfl g
end
section
set_option linter.unusedVariables false
def aiA(g:Option (P × Bool))(r:T)(d j:Prop):Prop:=
 Option.rec (motive:=fun _=>Prop) d (fun pw=>Prod.rec (motive:=fun _=>Prop) (fun p w=>CL p r fun v=>match v with
  | .c (.f (.bool b))=>Bool.rec (motive:=fun _=>Prop) (Bool.rec (motive:=fun _=>Prop) d j w) (Bool.rec (motive:=fun _=>Prop) j d w) b
  | .t []=>j
  | _=>False) pw) g
theorem aci{g:Option (P × Bool)}{r:T}{d l:Prop}(h:aiA g r d l):(wanted r g=some true∧d)∨(wanted r g=some false∧l):=by
 cases g with
 | none=>exact .inl ⟨rfl,h⟩
 | some pw=>
  obtain⟨p,w⟩:=pw;change CL p r _ at h;rw [nw]at h;simp only [wanted];split at h
  ·rename_i b j;rw [j];cases b<;>cases w
   ·exact .inl ⟨rfl,h⟩
   ·exact .inr ⟨rfl,h⟩
   ·exact .inr ⟨rfl,h⟩
   ·exact .inl ⟨rfl,h⟩
  ·rename_i j;rw [j];exact .inr ⟨rfl,h⟩
  ·exact h.elim
abbrev Nv:=T→List dt→HT→Nat→Prop
def aca(o:aH)(call:eP)(r:T)(d:List dt)(t:HT)(n:Nat)(k:Nv):Prop:=
 aH.rec (motive:=fun _=>Prop) (fun b j g=>aiA g r (apS j call r d t n fun v d t n=>amh b r v fun r=>k r d t n) (amh b r (.t []) fun r=>k r d t n)) o
theorem DI{call:cE}{bs:eP}(hc:oU call bs){o:aH}{r:T}{d:List dt}{H:ai}{t:HT}{k:Nv}(h:cR H t)(b:aca o bs r d t H.length k) :
  ∃ s' l,eR call ⟨r,d,H⟩ o=some s'∧cR s'.heap l∧k s'.au s'.defs l s'.heap.length:=by
 obtain⟨j,y,g⟩:=o;rcases aci b with⟨m,b⟩ | ⟨m,b⟩
 ·obtain⟨v,s,H',l,u,x,q⟩:=agZ hc y h b;rw [IA]at q;exact⟨⟨je r j v,s,H'⟩,l,by simp only [eR,m,u],x,q⟩
 ·rw [IA]at b;exact⟨⟨je r j (.t []),d,H⟩,t,by simp only [eR,m],h,b⟩
def ap0(ops:List aH)(call:eP):T→List dt→HT→Nat→Nv→Prop:=
 List.rec (motive:=fun _=>T→List dt→HT→Nat→Nv→Prop) (fun r d t n k=>k r d t n) (fun o _ b r d t n k=>aca o call r d t n fun r d t n=>b r d t n k) ops
theorem Ij{call:cE}{bs:eP}(hc:oU call bs):∀ {ops:List aH} {r:T} {d:List dt} {H:ai} {t:HT} {k:Nv},cR H t→ap0 ops bs r d t H.length k →
  ∃ s' j,eO call ops ⟨r,d,H⟩=some s'∧cR s'.heap j∧k s'.au s'.defs j s'.heap.length
 | [],r,d,H,t,k,h,b=>⟨⟨r,d,H⟩,t,rfl,h,b⟩
 | o::ops,r,d,H,t,k,h,b=>by
  obtain⟨g,t1,l,m,q⟩:=DI hc h b;obtain⟨x,t2,s,u,v⟩:=Ij hc (r:=g.au) (d:=g.defs) (H:=g.heap) m q;exact⟨x,t2,by simp only [eO,l];exact s,u,v⟩
structure ug where
 r:T
 d:List dt
 t:HT
 n:Nat
def AQ(ops:List aH)(call:eP):T→List dt→HT→Nat→(List ug→Nv)→Prop:=
 List.rec (motive:=fun _=>T→List dt→HT→Nat→(List ug→Nv)→Prop) (fun r d t n k=>k [⟨r,d,t,n⟩] r d t n)
  (fun o _ q r d t n k=>aca o call r d t n fun r' m u n'=>q r' m u n' fun s j b l g=>k (⟨r,d,t,n⟩::s) j b l g) ops
def aic(s:St)(x:ug):Prop:=x.r=s.au∧x.d=s.defs∧cR s.heap x.t∧x.n=s.heap.length
inductive uh:List St→List ug→Prop
 | nil:uh [] []
 | cons {s:St} {x:ug} {ss:List St} {xs:List ug} (h:aic s x) (hs:uh ss xs):uh (s::ss) (x::xs)
theorem uh.get{d:List St}{xs:List ug}(h:uh d xs):∀(i:Nat) (x:ug),xs[i]?=some x→∃ s,d[i]?=some s∧aic s x:=by
 induction h with
 | nil=>intro i x b;simp at b
 | cons h j g=>
  intro i x b
  cases i with
  | zero=>simp at b;subst b;exact⟨_,rfl,h⟩
  | succ i=>simpa using g i x (by simpa using b)
theorem vK{call:cE}{bs:eP}(hc:oU call bs):∀ {ops:List aH} {r:T} {d:List dt} {H:ai} {t:HT} {k:List ug→Nv},cR H t→AQ ops bs r d t H.length k →
  ∃ b xs s' m,dq call ops ⟨r,d,H⟩=some b∧uh b xs∧b.getLast?=some s'∧cR s'.heap m∧k xs s'.au s'.defs m s'.heap.length
 | [],r,d,H,t,k,h,g=>⟨[⟨r,d,H⟩],[⟨r,d,t,H.length⟩],⟨r,d,H⟩,t,rfl,.cons ⟨rfl,rfl,h,rfl⟩ .nil,rfl,h,g⟩
 | o::ops,r,d,H,t,k,h,g=>by
  obtain⟨j,t1,q,s,u⟩:=DI hc h g;obtain⟨b,xs,A,t2,v,x,l,y,z⟩:=vK hc (r:=j.au) (d:=j.defs) (H:=j.heap) s u;refine⟨⟨r,d,H⟩::b,⟨r,d,t,H.length⟩::xs,A,t2,by simp only [dq,q];rw [v],.cons ⟨rfl,rfl,h,rfl⟩ x,?_,y,z⟩
  cases b with
  | nil=>simp at l
  | cons a as=>simpa using l
def IP(ops:List aH)(xs:List ug)(c:Nat × Nat):Bool:=
 match ops[c.1]?,xs[c.1]?,xs[c.2]? with
 | some o,some s,some s'=>match wanted s.r o.g with
  | some false=>true
  | _=>match acn s.r s.t.get s.n o.op,acn s.r s'.t.get s'.n o.op with
   | some (v,_),some (b,_)=>v.beq b
   | _,_=>false
 | _,_,_=>false
theorem abV{ops:List aH}{l:List St}{xs:List ug}(h:uh l xs){c:Nat × Nat}(hc:IP ops xs c=true):sameAt ops l c=true:=by
 unfold IP at hc;split at hc
 ·rename_i o x O z A B;obtain⟨s,m,q,K,u,y⟩:=h.get _ _ A;obtain⟨s',F,L,M,H,I⟩:=h.get _ _ B;unfold sameAt;rw [z,m,F];simp only;rw [←q];split at hc
  ·rename_i E;rw [E]
  ·split at hc
   ·rename_i v e N J g j;rw [u,y]at g;rw [H,I]at j;have b:=AZ x.r s.heap o.op;rw [g]at b;have d:=AZ x.r s'.heap o.op;rw [j]at d;rw [←b,←d];split
    ·rfl
    ·exact hc
   ·simp at hc
 ·simp at hc
def qc(ops:List aH)(gL:List (Nat × Nat))(call:eP)(r:T)(d:List dt)(t:HT)(n:Nat)(k:Nv):Prop:=
 List.rec (motive:=fun _=>Prop) (ap0 ops call r d t n k) (fun _ _ _=>AQ ops call r d t n fun xs r d t n=>sG (gL.all (IP ops xs)) (k r d t n)) gL
theorem GM{call:cE}{bs:eP}(hc:oU call bs){ops:List aH}{gL:List (Nat × Nat)}{r:T}{d:List dt}{H:ai}{t:HT}{k:Nv}(h:cR H t)(b:qc ops gL bs r d t H.length k) :
  ∃ s' g,fx call ops gL ⟨r,d,H⟩=some s'∧cR s'.heap g∧k s'.au s'.defs g s'.heap.length:=by
 cases gL with
 | nil=>exact Ij hc h b
 | cons c cs=>
  have b:AQ ops bs r d t H.length (fun xs r d t n=>sG ((c::cs).all (IP ops xs)) (k r d t n)):=b
  obtain⟨x,xs,s',g,l,m,q,s,u⟩:=vK hc h b;obtain⟨j,v⟩:=my u;refine⟨s',g,?_,s,v⟩;simp only [fx,l];rw [if_pos,q];rw [avP]at j ⊢;exact fun c hc=>abV m (j c hc)
abbrev Go1:=Option Nat→List cm→Nv
abbrev afL:=Option aq→Nv
abbrev bY:=eP→Nat→afL→Go1→Option Nat→List cm→Nv
def HD:bY:=fun _ _ _ go ro rest r d t n=>go ro rest r d t n
def afY(ops:List aH)(gL:List (Nat × Nat)):bY:=fun call _ _ go ro rest r d t n=>
 Option.rec (motive:=fun _=>Prop) (qc ops gL call r d t n fun r d t n=>go ro rest r d t n)
  (fun _=>sG (ops.all (·.op.dJ)) (qc ops gL call r d t n fun r d t n=>go ro rest r d t n)) ro
def asV(a b:aq)(_ _:bY):bY:=fun _ _ _ go ro rest r d t n=>go ro (.code a::.code b::rest) r d t n
def aah(c:Arg)(a b:aq)(_ _:bY):bY:=fun _ _ _ go ro rest r d t n=>pD c r fun v=>match v with
 | .c (.f (.bool v))=>Bool.rec (motive:=fun _=>Prop) (go ro (.code b::rest) r d t n) (go ro (.code a::rest) r d t n) v
 | _=>False
def aka(id:Nat)(a:aq)(_:bY):bY:=fun _ _ _ go ro rest r d t n=>go ro (.code a::.inBlock id::rest) r d t n
def ao2(a:aq)(_:bY):bY:=fun _ _ _ go ro rest r d t n=>go ro (.code a::.inLoop a::rest) r d t n
def zM(f:Arg)(ps:List P)(as bd:aq)(_ _:bY):bY:=fun call fn _ go ro rest r d t n=>
 Option.rec (motive:=fun _=>Prop)
  (nV (.jM true) t n fun t n1=>nV (.lp fn r ps as bd .ready none n) t n1 fun t n2=>pD f r fun x=>
   rS (bP x [.c (.yl n1)]) fun b=>Prod.rec (motive:=fun _=>Prop) (fun c j=>Callee.rec (motive:=fun _=>Prop)
    (fun g=>call (.fn g) j t n2 fun _ t n'=>go none (.im n1::rest) r (.py n::d) t n') (fun _=>False) c) b)
  (fun _=>False) ro
def aai(id:Nat):bY:=fun _ _ b go ro rest r d t n=>
 Option.rec (motive:=fun _=>Prop) (Option.rec (motive:=fun _=>Prop) False (fun _=>b (some (.exit id)) r d t n) ro) (fun k=>go ro k r d t n) (exitTo id rest)
def asU:bY:=fun _ _ b _ _ _ r d t n=>b (some .ret) r d t n
def asT:bY:=fun _ _ _ _ _ _ _ _ _ _=>False
def akc(a:aq)(_:bY):bY:=fun _ _ _ go ro rest r d t n=>go ro (.code a::.inScope a::rest) r d t n
def akb(_:Nat):bY:=HD
def ao1(l:Nat):bY:=fun _ _ _ go ro rest r d t n=>rS (gotoIn l rest) fun k=>go ro k r d t n
def CD(c:aq):bY:=aq.rec (motive:=fun _=>bY) HD afY asV aah aka ao2 zM aai asU asT akc akb ao1 c
def aks(_:Nat):bY:=HD
def apf(c:aq):bY:=fun _ _ _ go ro rest r d t n=>go ro (.code c::.inLoop c::rest) r d t n
def F3(b:Nat):bY:=fun _ _ _ go ro rest r d t n=>fM b t fun aX=>match aX with
 | .lp f tmps ps as bd st pending g=>sG (match st with | .busy=>false | _=>true) (fN (.lp f tmps ps as bd .exhausted pending g) t b fun t=>match pending with
  | none=>go ro rest r d t n
  | some .ret=>go ro (.code .ret::rest) r d t n
  | some (.exit id)=>go ro (.code (.exit id)::rest) r d t n
  | some _=>False)
 | _=>False
def aik:bY:=fun _ _ _ go ro rest r d t n=>Option.rec (motive:=fun _=>Prop) False (fun b=>fM b t fun aX=>match aX with
 | .lp f tmps ps as bd .ready pending g=>fN (.lp f tmps ps as bd .busy pending g) t b fun t=>go ro rest r d t n
 | _=>False) ro
def akt(_:aq):bY:=HD
def ail(x:cm):bY:=cm.rec (motive:=fun _=>bY) CD aks apf F3 aik akt x
def runK(call:eP)(fn:Nat)(b:afL)(m:Nat):Go1:=
 Nat.rec (motive:=fun _=>Go1) (fun _ _ _ _ _ _=>False)
  (fun _ j ro g r d t n=>List.rec (motive:=fun _=>Prop) (b none r d t n) (fun x rest _=>ail x call fn b j ro rest r d t n) g) m
def am8(call:cE)(fn m:Nat)(ro:Option Nat)(g:List cm)(s:St)(d:afL):Prop:=
 ∃ b s' j,run call fn m ro g s=some (b,s')∧cR s'.heap j∧d b s'.au s'.defs j s'.heap.length
theorem IJ{call:cE}{bs:eP}(hc:oU call bs)(fn:Nat)(j:afL):∀(m:Nat) (ro:Option Nat) (s:List cm) (r:T) (d:List dt) (H:ai) (t:HT),
  cR H t→runK bs fn j m ro s r d t H.length→am8 call fn m ro s ⟨r,d,H⟩ j:=by
 intro m
 induction m with
 | zero=>intro ro s r d H t h q;exact q.elim
 | succ m ih=>
  intro ro s r d H t h q
  have go:∀ {y} {s':St} {E:HT},run call fn (m+1) ro s ⟨r,d,H⟩=run call fn m ro y s'→cR s'.heap E→runK bs fn j m ro y s'.au s'.defs E s'.heap.length→am8 call fn (m+1) ro s ⟨r,d,H⟩ j:=by
   intro y s' E u z B;obtain⟨L,N,O,W,X,Y⟩:=ih ro y s'.au s'.defs s'.heap E z B;exact⟨L,N,O,by rw [u];exact W,X,Y⟩
  cases s with
  | nil=>exact⟨none,⟨r,d,H⟩,t,rfl,h,q⟩
  | cons x rest=>
   have q:ail x bs fn j (runK bs fn j m) ro rest r d t H.length:=q
   cases x with
   | inBlock id=>exact go (s':=⟨r,d,H⟩) (by simp only [run]) h q
   | inLoop c=>exact go (s':=⟨r,d,H⟩) (by simp only [run]) h q
   | inScope c=>exact go (s':=⟨r,d,H⟩) (by simp only [run]) h q
   | im b=>
    have q:F3 b bs fn j (runK bs fn j m) ro rest r d t H.length:=q;unfold F3 at q;obtain⟨aX,u,z⟩:=c8 q;rw [h]at u;have u:H[b]?=some aX:=u;split at z
    ·rename_i f tmps ps as bd st pending F _;obtain⟨B,z⟩:=my z;obtain⟨E,I,A⟩:=dE h z;have J:st≠.busy:=by rintro rfl;simp at B
     have M:H.length=(H.set b (.lp f tmps ps as bd .exhausted pending F)).length:=by simp
     rw [M]at A;split at A
     ·exact go (s':=⟨r,d,H.set b (.lp f tmps ps as bd .exhausted none F)⟩) (by simp only [run,u,if_neg J]) I A
     ·exact go (s':=⟨r,d,H.set b (.lp f tmps ps as bd .exhausted (some .ret) F)⟩) (by simp only [run,u,if_neg J]) I A
     ·exact go (s':=⟨r,d,H.set b (.lp f tmps ps as bd .exhausted (some (.exit _)) F)⟩) (by simp only [run,u,if_neg J]) I A
     ·exact A.elim
    ·exact z.elim
   | mu=>
    have q:aik bs fn j (runK bs fn j m) ro rest r d t H.length:=q
    cases ro with
    | none=>exact q.elim
    | some b=>
     obtain⟨aX,u,z⟩:=c8 q;rw [h]at u;have u:H[b]?=some aX:=u;split at z
     ·rename_i f tmps ps as bd pending F _;obtain⟨E,I,A⟩:=dE h z;have M:H.length=(H.set b (.lp f tmps ps as bd .busy pending F)).length:=by simp
      rw [M]at A;exact go (s':=⟨r,d,H.set b (.lp f tmps ps as bd .busy pending F)⟩) (by simp only [run,u]) I A
     ·exact z.elim
   | code c=>
    cases c with
    | skip=>exact go (s':=⟨r,d,H⟩) (by simp only [run]) h q
    | label l=>exact go (s':=⟨r,d,H⟩) (by simp only [run]) h q
    | scope a=>exact go (s':=⟨r,d,H⟩) (by simp only [run]) h q
    | goto l=>
     obtain⟨k',K,q⟩:=jB (show rS (gotoIn l rest) (fun k'=>runK bs fn j m ro k' r d t H.length) from q)
     exact go (s':=⟨r,d,H⟩) (by simp only [run,K]) h q
    | bad=>exact q.elim
    | ret=>exact⟨some .ret,⟨r,d,H⟩,t,rfl,h,q⟩
    | seq a b=>exact go (s':=⟨r,d,H⟩) (by simp only [run]) h q
    | block id a=>exact go (s':=⟨r,d,H⟩) (by simp only [run]) h q
    | loop a=>exact go (s':=⟨r,d,H⟩) (by simp only [run]) h q
    | exit id=>
     have q:aai id bs fn j (runK bs fn j m) ro rest r d t H.length:=q;unfold aai at q
     cases K:exitTo id rest with
     | some k'=>
      rw [K]at q
      exact go (s':=⟨r,d,H⟩) (by simp only [run,K]) h q
     | none=>
      rw [K]at q
      cases ro with
      | none=>exact q.elim
      | some b=>exact⟨some (.exit id),⟨r,d,H⟩,t,by simp only [run,K,Option.isSome_some,if_true],h,q⟩
    | cond c a b=>
     have q:aah c a b (CD a) (CD b) bs fn j (runK bs fn j m) ro rest r d t H.length:=q;unfold aah at q;rw [cZ]at q;split at q
     ·rename_i v U
      cases v with
      | true=>exact go (s':=⟨r,d,H⟩) (by simp only [run,U,if_true]) h q
      | false=>exact go (s':=⟨r,d,H⟩) (by simp only [run,U,atN,if_false]) h q
     ·exact q.elim
    | region ops gL=>
     have key:(ro.isSome&&!ops.all (·.op.dJ))=false∧qc ops gL bs r d t H.length (fun r d t n=>runK bs fn j m ro rest r d t n):=by
      cases ro with
      | none=>exact⟨rfl,q⟩
      | some b=>
       obtain⟨u,z⟩:=my (show sG (ops.all (·.op.dJ)) (qc ops gL bs r d t H.length (fun r d t n=>runK bs fn j m (some b) rest r d t n)) from q)
       exact⟨by rw [u];rfl,z⟩
     obtain⟨s',E,u,z,B⟩:=GM hc h key.2
     exact go (s':=s') (by simp only [run,key.1,atN,if_false,u]) z B
    | jQ f ps as bd=>
     have q:zM f ps as bd (CD as) (CD bd) bs fn j (runK bs fn j m) ro rest r d t H.length:=q
     cases ro with
     | some b=>exact q.elim
     | none=>
      unfold zM at q;obtain⟨t1,u,q⟩:=gW h q;obtain⟨t2,z,q⟩:=gW u q;rw [cZ]at q;obtain⟨⟨c,vs⟩,B,q⟩:=jB q;have Q:(H++[cU.jM true]).length=H.length+1:=by simp
      have S:H++[cU.jM true]++[cU.lp fn r ps as bd .ready none H.length]=H++[.jM true,.lp fn r ps as bd .ready none H.length]:=by simp
      rw [Q]at B;rw [S]at z
      cases c with
      | yield b=>exact q.elim
      | fn g=>
       have q:bs (.fn g) vs t2 (H++[cU.jM true]++[cU.lp fn r ps as bd .ready none H.length]).length (fun _ t n'=>runK bs fn j m none (.im (H++[cU.jM true]).length::rest) r (.py H.length::d) t n'):=q
       rw [S,Q]at q;obtain⟨v,H',E,I,A,Z⟩:=hc _ _ _ _ _ z q;exact go (s':=⟨r,.py H.length::d,H'⟩) (by simp only [run,Option.isSome_none,atN,if_false,B,I]) A Z
def aar(call:eP)(ds:List dt):HT→Nat→(HT→Nat→Prop)→Prop:=
 List.rec (motive:=fun _=>HT→Nat→(HT→Nat→Prop)→Prop) (fun t n k=>k t n)
  (fun x _ d t n k=>dt.rec (motive:=fun _=>Prop)
   (fun b=>fM b t fun aX=>match aX with
    | .jM true=>fN (.jM false) t b fun t=>d t n k
    | _=>False)
   (fun f args=>call (.fn f) args t n fun _ t n=>d t n k) x) ds
theorem uG{call:cE}{bs:eP}(hc:oU call bs):∀ {ds:List dt} {H:ai} {t:HT} {k:HT→Nat→Prop},cR H t→aar bs ds t H.length k→∃ H' g,dD call ds H=some H'∧cR H' g∧k g H'.length
 | [],H,t,k,h,l=>⟨H,t,rfl,h,l⟩
 | .py b::ds,H,t,k,h,l=>by
  obtain⟨aX,d,j⟩:=c8 l;rw [h]at d;have d:H[b]?=some aX:=d;split at j
  ·obtain⟨t1,q,m⟩:=dE h j;have y:H.length=(H.set b (.jM false)).length:=by simp
   have m:aar bs ds t1 H.length k:=m;rw [y]at m;obtain⟨H',g,s,u,x⟩:=uG hc q m;exact⟨H',g,by simp only [dD,d];exact s,u,x⟩
  ·exact j.elim
 | .fn f args::ds,H,t,k,h,l=>by
  obtain⟨v,z,t1,d,j,q⟩:=hc _ _ H t _ h l;obtain⟨H',g,s,u,x⟩:=uG hc (ds:=ds) j q;exact⟨H',g,by simp only [dD,d];exact s,u,x⟩
def arj(r:T)(t:HT)(a:iq)(k:V→Prop):Prop:=iq.rec (motive:=fun _=>Prop)
 (fun p=>CL p r fun v=>match v with
  | .t _=>False
  | v=>k v)
 (fun p m=>CL p r fun v=>ldK t m v k) a
theorem ahT{H:ai}{t:HT}(h:cR H t){r:T}(a:iq)(k:V→Prop)(b:arj r t a k):∃ v,bG r H a=some v∧k v:=by
 cases a with
 | tmp p=>
  change CL p r _ at b;rw [nw]at b;simp only [bG]
  cases d:r.get p with
  | t g=>rw [d]at b;exact b.elim
  | _=>rw [d]at b;exact⟨_,rfl,b⟩
 | cell p m=>
  change CL p r _ at b;rw [nw]at b;exact aaN h b
def Ds(r:T)(t:HT)(b:List iq)(k:V→Prop):Prop:=zX (arj r t) b fun vs=>match vs with
 | [v]=>k v
 | vs=>k (.t vs)
theorem Dt{H:ai}{t:HT}(h:cR H t){r:T}{g:List iq}{k:V→Prop}(m:Ds r t g k):∃ v,Km.results r H g=some v∧k v:=by
 obtain⟨j,l,d⟩:=ir (ahT h) m;unfold Km.results;rw [l];split at d
 ·exact⟨_,rfl,d⟩
 ·rename_i b;refine⟨.t j,?_,d⟩
  match j,b with
  | [v],b=>exact absurd rfl (b v)
  | [],_=>rfl
  | _::_::_,_=>rfl
def fnK(tab:BT ax)(m:Nat)(call:eP)(f:Nat)(args:List V)(t:HT)(n:Nat)(k:V→HT→Nat→Prop):Prop:=
 fM f tab fun b=>ax.rec (motive:=fun _=>Prop) (fun ps g body=>gS args.length ps.length (tG ps args .e fun r=>
  runK call f (fun _ r d t n=>aar call d t n fun t n=>Ds r t g fun v=>k v t n) m none [.code body] r [] t n)) b
def acq(m:Nat)(call:eP)(b:Nat)(args:List V)(t:HT)(n:Nat)(k:V→HT→Nat→Prop):Prop:=
 fM b t fun aX=>match aX with
  | .lp f tmps ps as bd _ _ _=>gS args.length ps.length (tG ps args tmps fun r=>
    runK call f (fun q _ d t n=>sG d.isEmpty (fM b t fun aX=>match aX with
     | .lp v g s as' l _ _ u=>match q with
      | none=>fN (.lp v g s as' l .ready none u) t b fun t=>k (.c (.f (.bool true))) t n
      | some j=>fN (.lp v g s as' l .done (some j) u) t b fun t=>k (.c (.f (.bool false))) t n
     | _=>False)) m (some b) [.code as,.mu,.code bd] r [] t n)
  | _=>False
def bs(tab:BT ax)(m:Nat)(d:Nat):eP:=
 Nat.rec (motive:=fun _=>eP) (fun _ _ _ _ _=>False)
  (fun _ g c args t n k=>Callee.rec (motive:=fun _=>Prop) (fun f=>fnK tab m g f args t n k) (fun b=>acq m g b args t n k) c) d
def jc:Nat→List V→ai→Option (Option (V × ai)):=fun _ _ _=>none
theorem aak(tab:BT ax)(m:Nat):∀ g,oU (dN tab.get jc m g) (bs tab m g):=by
 intro g
 induction g with
 | zero=>intro c args H t k h d;exact d.elim
 | succ g F=>
  intro c args H t k h d
  cases c with
  | fn f=>
   obtain⟨I,u,d⟩:=c8 (show fnK tab m (bs tab m g) f args t H.length k from d)
   obtain⟨ps,K,body⟩:=I;obtain⟨z,d⟩:=cN d;rw [oI]at d;obtain⟨s,s',J,A,x,d⟩:=IJ F f _ m none [.code body] _ [] H t h d;obtain⟨H',l,B,q,d⟩:=uG F x d;obtain⟨v,y,d⟩:=Dt q d
   exact⟨v,H',l,by simp only [dN,jc,u,z,if_true,A,B,y];rfl,q,d⟩
  | yield b=>
   obtain⟨aX,u,d⟩:=c8 (show acq m (bs tab m g) b args t H.length k from d)
   rw [h]at u;have u:H[b]?=some aX:=u;split at d
   ·obtain⟨z,d⟩:=cN d;rw [oI]at d;obtain⟨s,s',J,A,x,d⟩:=IJ F _ _ m (some b) _ _ [] H t h d;obtain⟨B,d⟩:=my d;obtain⟨blk',q,d⟩:=c8 d;rw [x]at q;have q:s'.heap[b]?=some blk':=q;split at d
    ·cases s with
     | none=>
      obtain⟨l,y,E⟩:=dE x d
      exact⟨_,_,l,by simp only [dN,u,z,if_true,A,B,q];rfl,y,by rw [List.length_set];exact E⟩
     | some j=>
      obtain⟨l,y,E⟩:=dE x d;exact⟨_,_,l,by simp only [dN,u,z,if_true,A,B,q];rfl,y,by rw [List.length_set];exact E⟩
    ·exact d.elim
   ·exact d.elim
def isTrue(v:V)(_:HT)(_:Nat):Prop:=match v with
 | .c (.f (.bool b))=>Bool.rec (motive:=fun _=>Prop) False True b
 | _=>False
theorem FO{tab:BT ax}{m d f:Nat}(h:bs tab m d (.fn f) [] .e 0 isTrue):∃ H',dN tab.get jc m d (.fn f) [] []=some (.c (.f (.bool true)),H'):=by
 obtain⟨v,H',q,j,l,g⟩:=aak tab m d (.fn f) [] [] .e isTrue cR.nil h;refine⟨H',?_⟩;rw [j];unfold isTrue at g;split at g
 ·rename_i b
  cases b with
  | true=>rfl
  | false=>exact g.elim
 ·exact g.elim
end
section
theorem aC{P:Nat→ax→Prop}:∀ i a,(BT.e:BT ax).get i=some a→P i a:=fun i a h=>by cases i<;>cases h
theorem aD{P:Nat→ax→Prop}{l r:BT ax}{x:ax}(d:∀ i a,l.get i=some a→P (2*i+1) a)(g:P 0 x)
  (hr:∀ i a,r.get i=some a→P (2*i+2) a):∀ i a,(BT.n l x r).get i=some a→P i a:=by
 intro i a h
 cases i with
 | zero=>cases h;exact g
 | succ m=>
  have b:(if m % 2=0 then l.get (m / 2)else r.get (m / 2))=some a:=h
  split at b
  ·have:=d _ _ b
   rwa [show 2*(m / 2)+1=m+1 by omega]at this
  ·have:=hr _ _ b
   rwa [show 2*(m / 2)+2=m+1 by omega]at this
theorem Ov(Q:Program)(σ:Nat→FuncId):ZP Q σ jc:=fun f args H r H' h=>by cases h
theorem Dq{tab:BT ax}{f:Nat}(h:∃ m b,bs tab m b (.fn f) [] .e 0 isTrue=True):∃ m b H',dN tab.get jc m b (.fn f) [] []=some (.c (.f (.bool true)),H'):=by
 obtain⟨m,b,h⟩:=h;obtain⟨H',d⟩:=FO (of_eq_true h);exact⟨m,b,H',d⟩
end
section
def zi(c1 c2:cE):Prop:=∀ c args H r,c1 c args H=some r→c2 c args H=some r
section
variable{c1 c2:cE}(hc:zi c1 c2)
include hc
theorem wK{c:Nat}{args:List V}{H:ai}{r:V × ai}(h:dQ c1 c args H=some r):dQ c2 c args H=some r:=by
 unfold dQ at h ⊢;split at h
 ·simp at h
 ·rename_i g d;split at h
  ·simp at h
  ·rename_i r0 H0 b;simp only [hc _ _ _ _ b];exact h
theorem Au{b:Bool}{c:Nat}{args:List V}{H:ai}{r:V × ai}(h:fW c1 b c args H=some r):fW c2 b c args H=some r:=by
 unfold fW at h ⊢;split at h
 ·rename_i d;simp only [d,if_true];exact hc _ _ _ _ h
 ·rename_i d;simp only [d];exact wK hc h
theorem zd{s:St}{g:cK}{r:V × St}(h:dZ c1 s g=some r):dZ c2 s g=some r:=by
 cases g with
 | call f args b=>
  simp only [dZ,IN]at h ⊢;obtain⟨a,d,rfl⟩:=h
  exact⟨a,Au hc d,rfl⟩
 | bR x args b=>
  simp only [dZ]at h ⊢;split at h
  ·simp only [IN]at h ⊢;obtain⟨a,d,rfl⟩:=h;exact⟨a,hc _ _ _ _ d,rfl⟩
  ·simp at h
 | _=>exact h
theorem vT{s s':St}{o:aH}(h:eR c1 s o=some s'):eR c2 s o=some s':=by
 unfold eR at h ⊢
 cases g:wanted s.au o.g with
 | none=>simp [g]at h
 | some b=>
  cases b with
  | false=>simpa [g]using h
  | true=>
   simp only [g]at h ⊢
   cases d:dZ c1 s o.op with
   | none=>simp [d]at h
   | some x=>
    obtain⟨v,j⟩:=x;rw [zd hc d];rw [d]at h;exact h
theorem di:∀(os:List aH) (s:St) {s':St},eO c1 os s=some s'→eO c2 os s=some s'
 | [],s,s',h=>h
 | o::os,s,s',h=>by
  simp only [eO]at h ⊢;split at h
  ·rename_i d b;simp only [vT hc b];exact di os d h
  ·simp at h
theorem qM:∀(os:List aH) (s:St) {b:List St},dq c1 os s=some b→dq c2 os s=some b
 | [],s,b,h=>h
 | o::os,s,b,h=>by
  simp only [dq]at h ⊢;split at h
  ·rename_i j d;simp only [vT hc d];split at h
   ·rename_i l g;simp only [qM os j g];exact h
   ·simp at h
  ·simp at h
theorem A0{ops:List aH}{gL:List (Nat × Nat)}{s s':St}(h:fx c1 ops gL s=some s'):fx c2 ops gL s=some s':=by
 unfold fx at h ⊢;split at h
 ·exact di hc _ _ h
 ·split at h
  ·rename_i d b;simp only [qM hc _ _ b];exact h
  ·simp at h
theorem qf{fn:Nat}:∀(n n':Nat) (ro:Option Nat) (j:List cm) (s:St) {r:Option aq × St},n≤n' →
  run c1 fn n ro j s=some r→run c2 fn n' ro j s=some r
 | 0,_,_,_,_,_,_,h=>by simp [run]at h
 | n+1,0,_,_,_,_,B,_=>by omega
 | n+1,n'+1,ro,j,s,r,B,h=>by
  have m:=fun ro j s r h=>qf (fn:=fn) n n' ro j s (r:=r) (by omega) h
  match j,h with
  | [],h=>exact h
  | .inBlock _::k,h=>exact m _ _ _ _ h
  | .inLoop c::k,h=>exact m _ _ _ _ h
  | .im b::k,h=>
   simp only [run]at h ⊢;split at h
   ·rename_i f tmps ps as bd st pending d y
    try simp only [y]
    split at h
    ·simp at h
    ·rename_i z
     try simp only [z,if_false]
     split at h
     ·exact m _ _ _ _ h
     ·exact m _ _ _ _ h
     ·exact m _ _ _ _ h
     ·simp at h
   ·simp at h
  | .mu::k,h=>
   simp only [run]at h ⊢;split at h
   ·simp at h
   ·rename_i b;split at h
    ·rename_i y
     try simp only [y]
     exact m _ _ _ _ h
    ·simp at h
  | .code .skip::k,h=>exact m _ _ _ _ h
  | .inScope _::k,h=>exact m _ _ _ _ h
  | .code (.label _)::k,h=>exact m _ _ _ _ h
  | .code (.scope a)::k,h=>exact m _ _ _ _ h
  | .code (.goto l)::k,h=>
   simp only [run]at h ⊢;split at h
   ·rename_i u;(try simp only [u]);exact m _ _ _ _ h
   ·simp at h
  | .code .bad::_,h=>simp [run]at h
  | .code .ret::_,h=>exact h
  | .code (.exit id)::k,h=>
   simp only [run]at h ⊢;split at h
   ·rename_i u;(try simp only [u]);exact m _ _ _ _ h
   ·rename_i u;(try simp only [u]);exact h
  | .code (.seq a b)::k,h=>exact m _ _ _ _ h
  | .code (.block id a)::k,h=>exact m _ _ _ _ h
  | .code (.loop a)::k,h=>exact m _ _ _ _ h
  | .code (.cond c a b)::k,h=>
   simp only [run]at h ⊢;split at h
   ·rename_i v E;(try simp only [E]);exact m _ _ _ _ h
   ·simp at h
  | .code (.region ops gL)::k,h=>
   simp only [run]at h ⊢;split at h
   ·simp at h
   ·rename_i q
    try simp only [q]
    split at h
    ·rename_i H x
     try simp only [A0 hc x]
     exact m _ _ _ _ h
    ·simp at h
  | .code (.jQ f ps as bd)::k,h=>
   simp only [run]at h ⊢;split at h
   ·simp at h
   ·rename_i q
    try simp only [q]
    split at h
    ·rename_i g args A
     try simp only [A]
     split at h
     ·rename_i v F x
      try simp only [hc _ _ _ _ x]
      exact m _ _ _ _ h
     ·simp at h
    ·simp at h
theorem iG:∀(ds:List dt) (H:ai) {H':ai},dD c1 ds H=some H'→dD c2 ds H=some H'
 | [],H,H',h=>h
 | .py b::ds,H,H',h=>by
  simp only [dD]at h ⊢;split at h
  ·rename_i j;exact iG ds _ h
  ·simp at h
 | .fn f args::ds,H,H',h=>by
  simp only [dD]at h ⊢;split at h
  ·rename_i v g d
   try simp only [hc _ _ _ _ d]
   exact iG ds _ h
  ·simp at h
end
variable{tab:Nat→Option ax}{nK:Nat→List V→ai→Option (Option (V × ai))}
theorem uu{m l:Nat}(v:m≤l):∀(d g:Nat),d≤g→zi (dN tab nK m d) (dN tab nK l g)
 | 0,_,_,_,_,_,_,h=>by simp [dN]at h
 | d+1,0,E,_,_,_,_,_=>by omega
 | d+1,g+1,E,c,args,H,r,h=>by
  have z:zi (dN tab nK m d) (dN tab nK l g):=uu v d g (by omega)
  match c,h with
  | .fn f,h=>
   simp only [dN]at h ⊢;split at h
   ·rename_i r' x;(try simp only [x]);exact h
   ·rename_i x
    try simp only [x]
    split at h
    ·simp at h
    ·rename_i I q
     try simp only [q]
     split at h
     ·rename_i u
      try simp only [u,if_true]
      split at h
      ·rename_i j s y
       try simp only [qf z m l _ _ _ v y]
       split at h
       ·rename_i F A
        try simp only [iG z _ _ A]
        exact h
       ·simp at h
      ·simp at h
     ·simp at h
  | .yield b,h=>
   simp only [dN]at h ⊢;split at h
   ·rename_i f tmps ps as bd J K L B
    try simp only [B]
    split at h
    ·rename_i u
     try simp only [u,if_true]
     split at h
     ·rename_i j s y
      try simp only [qf z m l _ _ _ v y]
      exact h
     ·simp at h
    ·simp at h
   ·simp at h
end
section
section
variable(tab:Nat→Option ax)
abbrev CF(m d:Nat):cE:=dN tab jc m d
def Ev(c:Callee)(args:List V)(H:ai)(r:V)(H':ai):Prop:=∃ m d,CF tab m d c args H=some (r,H')
def Pure(f:Nat)(args:List V)(r:V):Prop:=∃ r0 H',Ev tab (.fn f) args [] r0 H'∧iN deep H' r0=some r
def WP(fn:Nat)(ro:Option Nat)(b:List cm)(s:St)(Q:Option aq→St→Prop):Prop:=
 ∃ n m d j s',run (CF tab m d) fn n ro b s=some (j,s')∧Q j s'
def jI(s:St)(op:cK)(K:V→St→Prop):Prop:=
 match op with
 | .call f args h=>
  if h then ∃ r H',Ev tab (.fn f) (c6 s.au args) s.heap r H'∧K r { s with heap:=H' }
  else ∃ b r,aU (bX deep s.heap) (c6 s.au args)=some b∧Pure tab f b r∧K r { s with heap:=(c6 s.au args).foldl (mkV deep) s.heap }
 | .bR x args _=>∃ c as r H',bP (x.ev s.au) (c6 s.au args)=some (c,as)∧Ev tab c as s.heap r H'∧K r { s with heap:=H' }
 | .recover=>K (.c (.f .lZ)) s
 | .defer x args=>∃ f as,bP (x.ev s.au) (c6 s.au args)=some (.fn f,as)∧K .top { s with defs:=.fn f as::s.defs }
 | op=>∃ v H',aZ s.au s.heap op=some (v,H')∧K v { s with heap:=H' }
def wb:List aH→St→(St→Prop)→Prop
 | [],s,K=>K s
 | o::os,s,K=>match wanted s.au o.g with
  | some true=>jI tab s o.op fun v s'=>wb os { s' with au:=je s'.au o.dst v } K
  | some false=>wb os { s with au:=je s.au o.dst (.t []) } K
  | none=>False
variable{tab}
variable{c:Callee}{args:List V}{H H':ai}{r:V}
theorem js{m g d b:Nat}(l:m≤g)(j:d≤b):zi (CF tab m d) (CF tab g b):=uu l d b j
theorem Ev.det{r2:V}{j:ai}(b:Ev tab c args H r H')(g:Ev tab c args H r2 j):r=r2∧H'=j:=by
 obtain⟨m,d,b⟩:=b;obtain⟨s,l,g⟩:=g;have u:=js (tab:=tab) (av4 m s) (av4 d l) _ _ _ _ b;have q:=js (tab:=tab) (avY m s) (avY d l) _ _ _ _ g;rw [u]at q;simpa using q
theorem Pure.det{f:Nat}{r2:V}(g:Pure tab f args r)(d:Pure tab f args r2):r=r2:=by
 obtain⟨a,m,j,g⟩:=g;obtain⟨b,q,l,d⟩:=d;obtain⟨rfl,rfl⟩:=j.det l;rw [g]at d;simpa using d
theorem Nw{s:St}{u:cK}{K:V→St→Prop}(h:jI tab s u K):∃ m d v s',dZ (CF tab m d) s u=some (v,s')∧K v s':=by
 cases u with
 | call f args b=>
  simp only [jI]at h;split at h
  ·rename_i q;obtain⟨r,H',⟨m,d,g⟩,l⟩:=h;exact⟨m,d,r,_,by simp [dZ,fW,q,g],l⟩
  ·rename_i q;obtain⟨z,r,j,⟨r0,H0,⟨m,d,g⟩,l⟩,y⟩:=h
   exact⟨m,d,r,_,by simp [dZ,fW,q,dQ,j,g,l],y⟩
 | bR x args b=>
  obtain⟨c,as,r,H',j,⟨m,d,g⟩,l⟩:=h
  exact⟨m,d,r,_,by simp [dZ,j,g],l⟩
 | recover=>exact⟨0,0,_,_,rfl,h⟩
 | «defer» x args=>
  obtain⟨f,as,j,g⟩:=h
  exact⟨0,0,.top,_,by simp [dZ,j],g⟩
 | _=>
  obtain⟨v,H',j,g⟩:=h;exact⟨0,0,v,_,by simp [dZ,j],g⟩
theorem iK:∀(os:List aH) (s:St) {K:St→Prop},wb tab os s K→∃ m d s',eO (CF tab m d) os s=some s'∧K s'
 | [],s,K,h=>⟨0,0,s,rfl,h⟩
 | o::os,s,K,h=>by
  simp only [wb]at h;split at h
  ·rename_i q;obtain⟨m,d,v,A,y,z⟩:=Nw h;obtain⟨g,b,s',j,l⟩:=iK os _ z;refine⟨max m g,max d b,s',?_,l⟩;have u:=zd (js (tab:=tab) (av4 m g) (av4 d b)) y;have x:=di (js (tab:=tab) (avY m g) (avY d b)) os _ j;simp only [eO,eR,q,u,x]
  ·rename_i q;obtain⟨g,b,s',j,l⟩:=iK os _ h;exact⟨g,b,s',by simp only [eO,eR,q,j],l⟩
  ·exact h.elim
variable{fn:Nat}{ro:Option Nat}{k:List cm}{s:St}{Q:Option aq→St→Prop}{a b:aq}
theorem lS{g:List cm}{b:List cm}{s':St}(h:WP tab fn ro b s' Q)
  (u:∀ m d n,run (CF tab m d) fn (n+1) ro g s=run (CF tab m d) fn n ro b s'):WP tab fn ro g s Q:=by
 obtain⟨n,m,d,j,v,l,q⟩:=h;exact⟨n+1,m,d,j,v,by rw [u,l],q⟩
theorem iY(h:Q none s):WP tab fn ro [] s Q:=⟨1,0,0,none,s,rfl,h⟩
theorem al{i:Nat}(h:WP tab fn ro k s Q):WP tab fn ro (.inBlock i::k) s Q:=lS h fun _ _ _=>rfl
theorem rN(h:WP tab fn ro (.code a::.inLoop a::k) s Q):WP tab fn ro (.inLoop a::k) s Q:=lS h fun _ _ _=>rfl
theorem aB(h:WP tab fn ro k s Q):WP tab fn ro (.code .skip::k) s Q:=lS h fun _ _ _=>rfl
theorem ag(h:WP tab fn ro (.code a::.code b::k) s Q):WP tab fn ro (.code (.seq a b)::k) s Q:=lS h fun _ _ _=>rfl
theorem av{i:Nat}(h:WP tab fn ro (.code a::.inBlock i::k) s Q):WP tab fn ro (.code (.block i a)::k) s Q:=lS h fun _ _ _=>rfl
theorem aA(h:Q (some .ret) s):WP tab fn ro (.code .ret::k) s Q:=⟨1,0,0,some .ret,s,rfl,h⟩
theorem aT{i:Nat}{k':List cm}(b:exitTo i k=some k')(h:WP tab fn ro k' s Q):WP tab fn ro (.code (.exit i)::k) s Q:=
 lS h fun _ _ _=>by simp only [run,b]
theorem HX{c:Arg}{v:Bool}(hc:c.ev s.au=.c (.f (.bool v)))(h:WP tab fn ro (.code (if v then a else b)::k) s Q) :
  WP tab fn ro (.code (.cond c a b)::k) s Q:=lS h fun _ _ _=>by simp only [run,hc]
theorem aj{c:Arg}(hc:c.ev s.au=.c (.f (.bool true)))(h:WP tab fn ro (.code a::k) s Q) :
  WP tab fn ro (.code (.cond c a b)::k) s Q:=HX hc h
theorem ah{c:Arg}(hc:c.ev s.au=.c (.f (.bool false)))(h:WP tab fn ro (.code b::k) s Q) :
  WP tab fn ro (.code (.cond c a b)::k) s Q:=HX hc h
theorem vB{m j d g n n':Nat}{b:List cm}{x:Option aq × St}(q:m≤j)(l:d≤g)(u:n≤n')
  (h:run (CF tab m d) fn n ro b s=some x):run (CF tab j g) fn n' ro b s=some x:=
 qf (js q l) n n' ro b s u h
theorem ab{ops:List aH}(hr:ro=none∨ops.all (·.op.dJ)=true)(h:wb tab ops s fun s'=>WP tab fn ro k s' Q) :
  WP tab fn ro (.code (.region ops [])::k) s Q:=by
 obtain⟨m,d,s',v,n,l,b,j,z,x,y⟩:=iK ops s h;refine⟨n+1,max m l,max d b,j,z,?_,y⟩;have q:=di (js (tab:=tab) (av4 m l) (av4 d b)) ops _ v;have u:=vB (avY m l) (avY d b) (aft n) x
 have g:(ro.isSome&&!ops.all (·.op.dJ))=false:=by
  rcases hr with rfl | hr
  ·rfl
  ·rw [hr];simp
 simp only [run,g,fx,q,u];simp
theorem bw(I:Nat→St→Prop)(n:Nat)(d:I n s)
  (step:∀ n s,I n s→(∀ n' s',n'<n→I n' s'→WP tab fn ro (.inLoop a::k) s' Q)→WP tab fn ro (.code a::.inLoop a::k) s Q) :
  WP tab fn ro (.code (.loop a)::k) s Q:=by
 have key:∀ n s,I n s→WP tab fn ro (.code a::.inLoop a::k) s Q:=by
  intro n
  induction n using Nat.strongRecOn with
  | _ n l=>
   intro s j;exact step n s j fun n' s' g b=>rN (l n' g s' b)
 exact lS (key n s d) fun _ _ _=>rfl
def Fin(tab:Nat→Option ax)(g:ax)(r:V)(H':ai)(s:St):Prop:=
 ∃ m d b,dD (CF tab m d) s.defs s.heap=some b∧results s.au b g.results=some r∧b=H'
theorem xN{f:Nat}{b:ax}(L:tab f=some b)(J:args.length=b.ps.length)
  (h:WP tab f none [.code b.body] ⟨cC b.ps args .e,[],H⟩ fun _ s=>Fin tab b r H' s):Ev tab (.fn f) args H r H':=by
 obtain⟨n,m,d,j,s,B,A,x,N,F,I,rfl⟩:=h;obtain⟨M,q,u,v⟩:∃ M,m≤M∧A≤M∧n≤M:=⟨max (max m A) n,by omega,by omega,by omega⟩
 obtain⟨E,g,l⟩:∃ E,d≤E∧x≤E:=⟨max d x,by omega,by omega⟩
 refine⟨M,E+1,?_⟩;have y:run (CF tab M E) f M none [.code b.body] ⟨cC b.ps args .e,[],H⟩=some (j,s):=vB q g v B;have z:=iG (js (tab:=tab) u l) _ _ F;have K:jc f args H=none:=rfl;simp only [CF]at y z ⊢;simp only [dN,K,L,J,if_true,y,z,I,awg]
def oh(b:List iq)(r:V)(s:St):Prop:=s.defs=[]∧∃ r0,results s.au s.heap b=some r0∧iN deep s.heap r0=some r
theorem bK{f:Nat}{ps:List P}{b:List iq}{body:aq}(y:tab f=some ⟨ps,b,body⟩)(x:args.length=ps.length)
  (h:∀ Q:Option aq→St→Prop,(∀ j s,oh b r s→Q j s)→WP tab f none [.code body] ⟨cC ps args .e,[],[]⟩ Q):Pure tab f args r:=by
 have g:=h (fun _ s=>oh b r s) fun _ _ h=>h
 obtain⟨n,m,d,j,s,l,v,r0,q,u⟩:=g;exact⟨r0,s.heap,xN y x ⟨n,m,d,j,s,l,0,0,s.heap,by rw [v];rfl,q,rfl⟩,u⟩
end
theorem ae{tab:Nat→Option ax}{fn:Nat}{ops:List aH}{b:aq}{k:List cm}{s:St}{Q:Option aq→St→Prop}(h:wb tab ops s fun s'=>WP tab fn none (.code b::k) s' Q):WP tab fn none (.code (.seq (.region ops []) b)::k) s Q:=ag (ab (.inl rfl) h)
theorem aY{tab:Nat→Option ax}{fn:Nat}{ro:Option Nat}{a:aq}{c:Arg}{k:List cm}{s:St}{Q:Option aq→St→Prop}(hc:c.ev s.au=.c (.f (.bool false)))(h:WP tab fn ro k s Q):WP tab fn ro (.code (.cond c a .skip)::k) s Q:=ah hc (aB h)
end
end Km
