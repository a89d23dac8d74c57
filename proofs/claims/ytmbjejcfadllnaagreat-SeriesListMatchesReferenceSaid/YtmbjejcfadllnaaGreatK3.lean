/-
  Our own small machine for Go code by value, held s9 the model: part 3. No program in Gx.
-/
import Derived.Test.YtmbjejcfadllnaaGreatK2
import Derived.Orders
import Derived.Test.YtmbjejcfadllnaaGreatK1
open Option renaming some → ab,none → ae
open Bool renaming true → ag,false → ah
open List renaming mem_filter → au8, all_eq_true → at4, eq_nil_of_length_eq_zero → api, mem_of_getElem? → atZ, getElem?_eq_getElem → AT, getElem?_eq_some_iff → BY, getElem?_set_ne → By, getElem?_append_right → at1, getElem?_eq_none → avk, getElem?_drop → at8, length_drop → auK
open Bool renaming and_eq_true → If, not_eq_true' → ava, false_eq_true → atY
open Option renaming map_some → auz, map_eq_some_iff → IN, map_map → avf
open Nat renaming le_refl → aft, le_of_ble_eq_true → auL, eq_of_beq_eq_true → au2, le_max_left → auh, le_max_right → aud
open Option.some renaming injEq → sh
open Prod.mk renaming injEq → IT
set_option linter.unusedVariables false
set_option linter.constructorNameAsVariable false
set_option linter.unusedSimpArgs false
set_option linter.unusedSectionVars false
set_option maxRecDepth 100000
namespace Km
open Go
section
variable{Q:Program}{σ:Nat→FuncId}{X:Wd}{call:cO}
variable{n:Nat}{ops:Array Oper}{aos:List aO}{iT:List (Nat × Nat)}{st:Nat→St}
def LD(b:Array Bool)(j:Nat):Prop:=b.getD j ah=ag
theorem Y_{b:Array Bool}{i:Nat}(hi:i<b.size):LD (b.setIfInBounds i ag)=fun j=>LD b j∨j=i:=by
 funext j;apply propext;unfold LD;by_cases h:i=j
 ·subst h;simp [hi]
 ·have:j≠i:=fun e=>h e.symm;simp [Array.getD_eq_getD_getElem?,Array.getElem?_setIfInBounds_ne h,this]
theorem Ea{b:Array Bool}{i:Nat}(h:i ∈ Region.ready .any ops b):i<ops.size∧¬ LD b i∧∃ o,ops[i]?=ab o∧∀ e ∈ o.after.toList,Region.binds .any e=ag→LD b e.on:=by
 unfold Region.ready at h;simp only [au8,List.mem_range,If,ava]at h;obtain⟨l,d,j⟩:=h;refine⟨l,fun g=>?_,?_⟩
 ·unfold LD at g;simp only [Array.getD_eq_getD_getElem?]at d g;cases m:b[i]? with
  | none=>rw [m]at d;simp at d| some v=>rw [m]at d g;simp at d g;rw [d]at g;simp at g
 ·have q:=Array.getElem?_eq_getElem l;rw [q]at j;simp only [auz,Option.getD_some]at j;refine⟨ops[i],q,fun e u s=>?_⟩;rw [←Array.all_toList,at4]at j;have:=j e u;simpa [s,LD]using this
theorem aa'(l:Ord ops.toList aos iT)(F:aos.length=ops.size){b:Array Bool}(B:b.size=ops.size){j:Nat}(z:j<ops.size)(y:¬ LD b j):Region.ready .any ops b≠[]:=by
 have key:∀ m,m<ops.size→¬ LD b m→∃ i,i ∈ Region.ready .any ops b:=by
  intro m;induction m using Nat.strongRecOn with
  | ind m E=>
   intro v g;have A:=Array.getElem?_eq_getElem v;by_cases d:∀ e ∈ ops[m].after.toList,Region.binds .any e=ag→LD b e.on
   ·refine⟨m,?_⟩;unfold Region.ready;simp only [au8,List.mem_range,If,ava,A,auz,Option.getD_some];refine⟨v,?_,?_⟩
    ·unfold LD at g;have u:m<b.size:=by omega
     simp [u]at g ⊢;exact g
    ·rw [←Array.all_toList,at4];intro e s;by_cases q:Region.binds .any e=ag
     ·have:=d e s q;unfold LD at this;simp [this]
     ·simp [q]
   ·simp only [Classical.not_forall]at d;obtain⟨e,s,q,x⟩:=d;have:=l.back m ops[m] (by omega) (by simp [v]) e s q;exact E e.on this (by omega) x
 obtain⟨i,hi⟩:=key j z y;intro h;rw [h]at hi;simp at hi
theorem ZS(Y:eR Q σ call)(R:ku Q σ call n ops aos iT st){b:Frame}{k:List Item}{cs:List Frame}(Z:jE b cs)(H:∀ y ∈ aos,gF y.op b) :
  ∀(X0:Wd) (fuel t:Nat) (d:Array Bool) (U:List Nat) (E:Nat) (X:Wd) (a:Act),d.size=ops.size→U.Nodup→(∀ j,j<ops.size→(¬ LD d j↔j ∈ U))→U.length≤fuel→Inv Q σ X0 n ops aos st (LD d) E X a →
  ∃ q z X' a',Steps Q (lone (b.atR a (.inRegion ops (Region.linearise.go .any ops fuel t d [])::k)) cs X.w) (lone (b.atR a' k) cs X'.w)∧Inv Q σ X0 n ops aos st q z X' a'∧(∀ j,j<ops.size→q j)∧a'.tmps.size=a.tmps.size:=by
 have u:aos.length=ops.size:=by have:=(ey R.akP).len;simpa using this.symm
 intro X0 fuel;induction fuel with
 | zero=>
  intro t d U E X a m B l F A;refine⟨LD d,E,X,a,?_,A,fun j s=>?_,rfl⟩
  ·simp only [Region.linearise.go,List.reverse_nil];exact .one stepR_region_end
  ·have g:U=[]:=api (by omega);refine Classical.byContradiction fun h=>?_;have:=(l j s).1 h;rw [g]at this;simp at this
 | succ fuel ih=>
  intro t d U E X a m B l F A;simp only [Region.linearise.go];change ∃ q z X' a',Steps Q (lone (b.atR a (.inRegion ops (match (Region.ready .any ops d)[t % (Region.ready .any ops d).length]? with
   | some i=>Region.linearise.go .any ops fuel (t / (Region.ready .any ops d).length) (d.setIfInBounds i ag) [i]
   | none=>[].reverse)::k)) cs X.w) _∧_
  cases hi:(Region.ready .any ops d)[t % (Region.ready .any ops d).length]? with
  | none=>
   have g:Region.ready .any ops d=[]:=by
    cases hr:Region.ready .any ops d with
    | nil=>rfl
    | cons x xs=>
     rw [hr]at hi;have a7:t % (x::xs).length<(x::xs).length:=Nat.mod_lt _ (by simp);rw [List.getElem?_eq_none_iff]at hi;omega
   refine⟨LD d,E,X,a,?_,A,fun j s=>?_,rfl⟩
   ·exact .one stepR_region_end
   ·exact Classical.byContradiction fun h=>aa' R.ord u m s h g
  | some i=>
   simp only [];rw [linearise_go_acc,List.reverse_singleton,List.singleton_append];obtain⟨r1,r2,o,r3,r4⟩:=Ea (atZ hi);have hy:=AT (show i<aos.length by omega);have hr:kr ops aos (LD d) i o aos[i]:=⟨r3,hy,r2,r4⟩
   obtain⟨z,J,a1,M,I,N⟩:=R.ahC Y A hr (b:=b) (rest:=Region.linearise.go .any ops fuel (t / (Region.ready .any ops d).length) (d.setIfInBounds i ag) []) (k:=k) (cs:=cs) Z (H _ (List.getElem_mem _));rw [←Y_ (by omega)]at I;have v:i ∈ U:=(l i r1).1 r2;obtain⟨q,E2,K,L,k1,k2,k3,k5⟩:=ih (t / (Region.ready .any ops d).length) (d.setIfInBounds i ag) (U.erase i) z J a1 (by simpa using m) (B.erase i)
    (fun j s=>by
     rw [B.mem_erase_iff,←l j s,Y_ (by omega)];constructor
     ·intro h;exact⟨fun e=>h (.inr e),fun O=>h (.inl O)⟩
     ·rintro⟨S,W⟩ (h | h)
      ·exact W h
      ·exact S h)
    (by rw [List.length_erase_of_mem v];omega) I
   exact⟨q,E2,K,L,M.trans k1,k2,k3,k5.trans N⟩
theorem ZT(hC:eR Q σ call)(u:Q.follows .mixedOrders=ag)(R:ku Q σ call n ops aos iT st){b:Frame}{k:List Item}{cs:List Frame}(hk:jE b cs)(M:∀ y ∈ aos,gF y.op b){X:Wd}{a:Act}(g:Fr Q σ n X (st 0) a)(id:Nat) :
  ∃ X' a',Steps Q (lone (b.atR a (.code (.region id ops ag)::k)) cs X.w) (lone (b.atR a' k) cs X'.w)∧Fr Q σ n X' (st aos.length) a'∧Ext X.H.length X X'∧a'.tmps.size=a.tmps.size:=by
 have Z:aos.length=ops.size:=by have:=(ey R.akP).len;simpa using this.symm
 let X0:Wd:={ X with w:={ X.w with drawn:=X.w.drawn+1 } }
 have A:Ext X.H.length X X0:=
  {B:=rfl,F:=fun _ _ h=>h,pT:=fun _ _ h=>.inl h,fw:=fun _ _ _=>rfl,cu:=fun b _ bp J=>⟨bp,J,by cases bp<;>simp [X0]⟩
   xp:=fun b L h=>.inl ⟨b,L,h,rfl⟩,size:=aft _,os:=rfl,tape:=rfl,output:=rfl,frame:=fun _ _ _=>rfl }
 have I:SR Q σ X0:=by
  refine⟨fun b L J=>?_,g.sr.inj,g.sr.fb⟩;obtain⟨q,s,bp,U,W⟩:=g.sr.br b L J;exact⟨q,s,bp,U,BR.ext Q σ A rfl (fun _ h=>h) W⟩
 obtain⟨p1,p2,p3,p4⟩:=px (aos:=aos) (i:=0) (by omega);obtain⟨q1,q2⟩:=R.cZ _ p1 p2 p4;have E:X0.H=(st 0).heap:=g.heap;rw [←E]at q1;obtain⟨k1,k2⟩:=SR.ahead I q1;have m:Ext X.H.length X { X0 with H:=(st (phase aos 0)).heap }:=A.trans k2;have d:∀ j,¬ LD (Array.replicate ops.size ah) j:=fun j h=>by
  unfold LD at h;simp only [Array.getD_eq_getD_getElem?,Array.getElem?_replicate]at h;split at h<;>simp at h
 have hI:Inv Q σ { X0 with H:=(st (phase aos 0)).heap } n ops aos st (LD (Array.replicate ops.size ah)) (phase aos 0) { X0 with H:=(st (phase aos 0)).heap } a:=by
  refine⟨fun j o h=>absurd h (d j),fun j h=>absurd h (d j),p2,p3,d _,fun j q s=>absurd q (p4 j (Nat.zero_le _) s),rfl,Ext.refl _ _,k1,g.b,by rw [q2];exact g.defs.ext' m,g.size,
   fun p=>⟨0,Nat.zero_le _,.inl (VR.ext' σ m (g.aA p)),fun j y _ _=>⟨fun h=>by omega,fun h=>absurd h (d j)⟩⟩,fun j y q _ U W h5=>?_⟩
  show X.cC _=ae;have a7:=(R.cZ j (Nat.zero_le _) (by omega) fun k q s=>p4 k q (by omega)).1.len;cases v:X.cC (st j).heap.length with
  | none=>rfl| some L=>have:=SR.lt g.sr v;rw [g.heap]at this;omega
 obtain⟨D',O,X',a',g1,l,S,g5⟩:=ZS hC R hk M (k:=k) { X0 with H:=(st (phase aos 0)).heap } ops.size (X.w.tape X.w.drawn (.order b.fn id)) (Array.replicate ops.size ah) (List.range ops.size) (phase aos 0) { X0 with H:=(st (phase aos 0)).heap } a (by simp) List.nodup_range
  (fun j hj=>⟨fun _=>by simpa using hj,fun _=>d j⟩) (by simp) hI
 have Y:O=aos.length:=by
  rcases l.eW with h | ⟨z,N,_⟩
  ·exact h
  ·exact absurd (S O (by have:=(BY.1 N).1;omega)) l.eD
 subst Y;refine⟨X',a',.head stepR_region_draw ?_,⟨l.heap,l.sr,l.b,fun p=>?_,l.defs,l.size⟩,m.trans (l.ext.mono (m.len)),g5⟩
 ·simp only [Region.schedule,u,Bool.true_or,if_true];exact g1
 ·obtain⟨K,hK,x,hw⟩:=l.abr p;have x:VR σ X' ((st K).aA.get p) (a'.tmps.getD p.toNat undef):=by
   rcases x with x | ⟨z,zs,c,_,Y,N,_⟩
   ·exact x
   ·have:=(BY.1 N).1;omega
  rw [←R.my aos.length hK (aft _) fun j y q s hy hd=>?_]
  ·exact x
  ·have:=(hw j y hy hd).2 (S j (by omega));omega
end
section
variable{Q:Program}{σ:Nat→FuncId}{X:Wd}{call:cO}
theorem A'{b:Type}{f:b→b→Bool}(d:∀ x y,f x y=ag→x=y):∀ {xs ys:List b},nr f xs ys=ag→xs=ys
 | [],[],_=>rfl
 | x::xs,y::ys,h=>by
  simp only [nr,If]at h;rw [d x y h.1,A' d h.2]
 | [],_::_,h=>by simp [nr]at h
 | _::_,[],h=>by simp [nr]at h
theorem FC.beq_eq:∀(n:Nat) (a b:FC),FC.beq n a b=ag→a=b:=by
 intro n;induction n with
 | zero=>
  intro a b h;cases a<;>cases b<;>simp_all [FC.beq]
 | succ n d=>
  intro a b h;cases a<;>cases b<;>simp_all [FC.beq]
  all_goals exact A' d h.2
theorem C.beq_eq{a b:C}(h:a.beq b=ag):a=b:=by
 cases a<;>cases b<;>simp_all [C.beq];exact FC.beq_eq _ _ _ h
theorem V.beq_eq{a b:V}(h:a.beq b=ag):a=b:=by
 cases a<;>cases b<;>simp only [V.beq,atY]at h
 ·rw [C.beq_eq h]
 ·rename_i xs ys;simp only [If,beq_iff_eq,at4]at h
  congr 1
  refine List.ext_getElem h.1 fun i d g=>C.beq_eq (h.2 (xs[i],ys[i]) ?_);exact atZ (i:=i) (by rw [List.getElem?_zip_eq_some];exact⟨AT d,AT g⟩)
theorem yc:∀ {aos:List aO} {s s':St},fv call aos s=ab s'→∃ b:List St,dG call aos s=ab b∧b.getLast?=ab s'
 | [],s,s',h=>by simp only [fv,sh]at h;subst h;exact⟨[s],rfl,rfl⟩
 | o::os,s,s',h=>by
  simp only [fv]at h;split at h
  ·rename_i l g;obtain⟨b,j,d⟩:=yc h;refine⟨s::b,by simp [dG,g,j],?_⟩;cases b with
   | nil=>simp at d| cons x xs=>simpa using d
  ·simp at h
theorem nZ:∀ {aos:List aO} {s:St} {b:List St},dG call aos s=ab b→b.length=aos.length+1∧b[0]?=ab s ∧
  ∀ i y,aos[i]?=ab y→∃ u v,b[i]?=ab u∧b[i+1]?=ab v∧fA call u y=ab v
 | [],s,b,h=>by
  simp only [dG,sh]at h;subst h;exact⟨rfl,rfl,fun i y h=>by simp at h⟩
 | o::os,s,b,h=>by
  simp only [dG]at h;split at h
  ·rename_i x m;split at h
   ·rename_i z q;simp only [sh]at h;subst h;obtain⟨g,j,l⟩:=nZ q;refine⟨by simp [g],rfl,fun i y d=>?_⟩;cases i with
    | zero=>
     simp only [List.getElem?_cons_zero,sh]at d;subst d;exact⟨s,x,rfl,by simpa using j,m⟩
    | succ i=>simpa using l i y (by simpa using d)
   ·simp at h
  ·simp at h
theorem vj:∀ {aos:List aO} {s:St} {b:List St} {s':St},dG call aos s=ab b→b.getLast?=ab s'→fv call aos s=ab s'
 | [],s,b,s',h,d=>by simp only [dG,sh]at h;subst h;simpa [fv]using d
 | o::os,s,b,s',h,d=>by
  simp only [dG]at h;split at h
  ·rename_i m l;split at h
   ·rename_i g j;simp only [sh]at h;subst h;have:=(nZ j).1;simp only [fv,l];refine vj j ?_;cases g with
    | nil=>simp at this| cons x xs=>simpa using d
   ·simp at h
  ·simp at h
theorem Ol(S:eR Q σ call)(A:Q.follows .mixedOrders=ag){n:Nat}{id:Nat}{ops:Array Oper}{g:Bool}{aos:List aO}{iT:List (Nat × Nat)}(W:cm Q σ n (.region id ops g) (.region aos iT)=ag)
  {b:Frame} {k:List Item} {cs:List Frame} (U:jE b cs) (B:∀ y ∈ aos,gF y.op b) {X:Wd} {a:Act} {s s':St} (K:Fr Q σ n X s a) (h:fQ call aos iT s=ab s') :
  ∃ X' a',Steps Q (lone (b.atR a (.code (.region id ops g)::k)) cs X.w) (lone (b.atR a' k) cs X'.w)∧Fr Q σ n X' s' a'∧Ext X.H.length X X'∧a'.tmps.size=a.tmps.size:=by
 simp only [cm,If,Bool.or_eq_true,ava]at W;obtain⟨l,E⟩:=W;obtain⟨j,O,J,h3⟩:∃ j:List St,dG call aos s=ab j∧j.getLast?=ab s'∧∀ c ∈ iT,sameAt aos j c=ag:=by
  unfold fQ at h;split at h
  ·obtain⟨j,q,x⟩:=yc h;exact⟨j,q,x,by simp⟩
  ·split at h
   ·rename_i j L;split at h
    ·rename_i z;exact⟨j,L,h,at4.1 z⟩
    ·simp at h
   ·simp at h
 cases g with
 | false=>
  obtain⟨X',a',q,x⟩:=GH S U (k:=k) aos 0 X s s' a K (by simpa using l) B (vj O J);exact⟨X',a',.head stepR_region (by simpa using q),x⟩
 | true=>
  obtain⟨q,x,g3⟩:=nZ O
  let st:Nat→St:=fun i=>j.getD i s
  have d:∀ i u,j[i]?=ab u→st i=u:=fun i u hu=>by simp [st,List.getD_eq_getElem?_getD,hu]
  have R:ku Q σ call n ops aos iT st:=by
   refine⟨l,N6 (E.resolve_left (by simp)),fun i y M=>?_,fun i e y hc M Y=>?_⟩
   ·obtain⟨u,v,F,H,I⟩:=g3 i y M;rw [d _ _ F,d _ _ H];exact I
   ·have m:=h3 _ hc;simp only [sameAt,M]at m;split at m
    ·rename_i o s1 s2 F H I;cases F;rw [d _ _ H]at Y ⊢;rw [d _ _ I];rw [Y]at m;simp only at m;split at m
     ·rename_i v x1 v' x2 Z N;rw [←V.beq_eq m]at N;exact⟨v,x1,x2,Z,N⟩
     ·simp at m
    ·simp at m
  have h0:st 0=s:=d 0 s x;have hN:st aos.length=s':=d _ _ (by rw [List.getLast?_eq_getElem?,q]at J;simpa using J);rw [←h0]at K;rw [←hN];exact ZT S A R U B K id
end
section
variable{Q:Program}{σ:Nat→FuncId}{X:Wd}{call:cO}
def DY(X:Wd)(b:Nat):Prop:=∃ f t p a c s q d,X.H[b]?=ab (.lp f t p a c s q d)
theorem DY.ext{X X':Wd}(m:Ext X.H.length X X'){b:Nat}(h:DY X b):DY X' b∧∀ L,X.cC b=ab L→X'.cC b=ab L:=by
 obtain⟨f,t,p,a,c,s,q,d,j⟩:=h;obtain⟨blk',g,l⟩:=m.cu b (BY.1 j).1 _ j;cases blk'<;>simp only at l;exact⟨⟨_,_,_,_,_,_,_,_,g⟩,l.2⟩
inductive iE(Q:Program)(σ:Nat→FuncId)(n:Nat)(X:Wd):cG→Item→Prop
 | code {a:ay} {c:Code} (h:cm Q σ n c a=ag):iE Q σ n X (.code a) (.code c)
 | inBlock (id:Nat):iE Q σ n X (.inBlock id) (.inBlock id)
 | inLoop {a:ay} {c:Code} (h:cm Q σ n c a=ag):iE Q σ n X (.inLoop a) (.inLoop c)
 | jv {b:Nat} {L:Loc} (h:X.cC b=ab L) (hl:DY X b):iE Q σ n X (.jv b) (.endRangeFunc L.c)
 | ns:iE Q σ n X .ns .beginRound
 | inScope {a:ay} {c:Code} (h:cm Q σ n c a=ag) (hs:mD a=ag):iE Q σ n X (.inScope a) (.inScope c)
theorem iE.ext{n:Nat}{X X':Wd}(d:Ext X.H.length X X'){x:cG}{y:Item}(h:iE Q σ n X x y):iE Q σ n X' x y:=by
 cases h with
 | code h=>exact .code h| inBlock id=>exact .inBlock id| inLoop h=>exact .inLoop h| jv h b=>exact .jv ((b.ext d).2 _ h) (b.ext d).1| ns=>exact .ns| inScope h g=>exact .inScope h g
def RoR(X:Wd):Option Nat→Option Nat→Prop
 | none,ae=>True| some b,ab l=>∃ L,X.cC b=ab L∧L.c=l∧DY X b| _,_=>False
theorem RoR.ext{X X':Wd}(g:Ext X.H.length X X'){ro b:Option Nat}(h:RoR X ro b):RoR X' ro b:=by
 cases ro<;>cases b<;>simp only [RoR]at h ⊢;obtain⟨L,j,l,d⟩:=h;exact⟨L,(d.ext g).2 _ j,l,(d.ext g).1⟩
theorem xi{n:Nat}(id:Nat):∀(k:List cG) (ks:List Item),A2 (iE Q σ n X) k ks →
  match Km.exitTo id k with
  | some k'=>∃ b,Go.exitTo id ks=ab b∧A2 (iE Q σ n X) k' b| none=>Go.exitTo id ks=ae
 | [],ks,h=>by
  have:ks=[]:=api h.len.symm;subst this;rfl
 | x::k,[],h=>by have:=h.len;simp at this
 | x::k,y::ks,h=>by
  obtain⟨m,g⟩:=h.of_cons;have l:=xi id k ks g;cases m with
  | inBlock d=>
   simp only [Km.exitTo,Go.exitTo];by_cases j:(d == id)=ag
   ·simp only [j,if_true];exact⟨ks,rfl,g⟩
   ·simp only [j,atY,if_false];exact l
  | _=>exact l
theorem yU{n:Nat}(l:Nat):∀(a:ay) (c:Code),cm Q σ n c a=ag→mD a=ag →
  match Km.findLabel a l with
  | some r=>∃ r',Go.findLabel c l=ab r'∧cm Q σ n r' r=ag| none=>Go.findLabel c l=ae:=by
 intro a;induction a with
 | seq a b m q=>
  intro c h g;simp only [mD,If]at g;cases c with
  | seq c d=>
   simp only [cm,If]at h;have j:=m c h.1 g.1;simp only [Km.findLabel,Go.findLabel];cases u:Km.findLabel a l with
   | some r=>
    rw [u]at j;obtain⟨r',v,x⟩:=j;simp only [v];exact⟨_,rfl,by simp [cm,x,h.2]⟩
   | none=>
    rw [u]at j;simp only [j];exact q d h.2 g.2
  | _=>simp [cm]at h
 | label z=>
  intro c h _;cases c with
  | label y=>
   simp only [cm,beq_iff_eq]at h;subst h;simp only [Km.findLabel,Go.findLabel];by_cases s:(y == l)=ag
   ·simp only [s,if_true];exact⟨_,rfl,by simp [cm]⟩
   ·simp only [s,atY,if_false]
  | _=>simp [cm]at h
 | bad=>intro c h g;simp [mD]at g| _=>intro c h _;cases c<;>simp_all [cm,Km.findLabel,Go.findLabel]
theorem xm{n:Nat}(l:Nat):∀(k:List cG) (ks:List Item),A2 (iE Q σ n X) k ks →
  match Km.gotoIn l k with
  | some k'=>∃ b,Go.gotoIn l ks=ab b∧A2 (iE Q σ n X) k' b| none=>Go.gotoIn l ks=ae
 | [],ks,h=>by
  have:ks=[]:=api h.len.symm;subst this;rfl
 | x::k,[],h=>by have:=h.len;simp at this
 | x::k,y::ks,h=>by
  obtain⟨u,g⟩:=h.of_cons;have s:=xm l k ks g;cases u with
  | inScope m q=>
   rename_i a c;have d:=yU (Q:=Q) (σ:=σ) l a c m q;simp only [Km.gotoIn,Go.gotoIn];cases j:Km.findLabel a l with
   | some r=>
    rw [j]at d;obtain⟨r',v,z⟩:=d;simp only [v];exact⟨_,rfl,A2.cons (.code z) (A2.cons (.inScope m q) g)⟩
   | none=>
    rw [j]at d;simp only [d];exact s
  | _=>exact s
def ai7:Option ay→List Item→Prop
 | none,b=>b=[]| some .ret,b=>∃ k,b=.code .ret::k| some (.exit id),b=>∃ k,b=.code (.exit id)::k∧Go.exitTo id k=ae| _,_=>False
end
section
variable{Q:Program}{σ:Nat→FuncId}{X:Wd}{call:cO}
theorem qq{b:Nat}{L:Loc}(x:SR Q σ X)(v:X.cC b=ab L){f:Nat}{t:T}{ps:List P}{as bd:ay}{q:gm}{g:Option ay}{d:Nat}(y:X.H[b]?=ab (.lp f t ps as bd q g d)) :
  ∃(n:Nat) (us:Array Value) (m:Array Tmp) (as' j:Code) (pend':Option Code) (u:Loc),
   X.w.heap[L.c]?=ab (.loop { state:=q.of,pending:=pend',fn:=σ f,tmps:=us,params:=m,assign:=as',body:=j,defers:=u.c }) ∧
   n≤us.size∧RR σ X t us∧fK (fun p (q:P)=>q.toNat == p&&decide (p<n)) m.toList ps=ag∧cm Q σ n as' as=ag∧cm Q σ n j bd=ag∧xC Q σ n g pend'∧X.cC d=ab u∧∃ o,X.H[d]?=ab (.kM o):=by
 obtain⟨_,_,bp,l,s⟩:=x.br b L v;rw [y]at l;cases l;exact s
theorem zS(J:SR Q σ X){b:Nat}{L:Loc}(I:X.cC b=ab L){f:Nat}{t:T}{ps:List P}{as bd:ay}{q q':gm}{y pend1:Option ay}{d:Nat}(s:X.H[b]?=ab (.lp f t ps as bd q y d))
  {n:Nat} {us:Array Value} {j:Array Tmp} {as' g:Code} {pend':Option Code} {u:Loc}
  (O:n≤us.size) (S:RR σ X t us) (U:fK (fun p (q:P)=>q.toNat == p&&decide (p<n)) j.toList ps=ag) (W:cm Q σ n as' as=ag) (Y:cm Q σ n g bd=ag) (Z:xC Q σ n pend1 pend') (a:X.cC d=ab u) (z:∃ o,X.H[d]?=ab (.kM o)) :
  SR Q σ { X with H:=X.H.set b (.lp f t ps as bd q' pend1 d),w:=X.w.putObj L.c (.loop { state:=q'.of,pending:=pend',fn:=σ f,tmps:=us,params:=j,assign:=as',body:=g,defers:=u.c }) } ∧
  Ext X.H.length X { X with H:=X.H.set b (.lp f t ps as bd q' pend1 d),w:=X.w.putObj L.c (.loop { state:=q'.of,pending:=pend',fn:=σ f,tmps:=us,params:=j,assign:=as',body:=g,defers:=u.c }) }:=by
 obtain⟨m,r,k,M,N,i,K,v,_⟩:=qq J I s;have A:b<X.H.length:=(BY.1 s).1;refine SR.qP (o':=.loop { state:=q'.of,pending:=pend',fn:=σ f,tmps:=us,params:=j,assign:=as',body:=g,defers:=u.c }) (blk':=.lp f t ps as bd q' pend1 d) J s I v (by simp) (by simp)
  (fun bp l=>⟨.lp f t ps as bd q' pend1 d,by simp [A],by rw [s]at l;cases l;exact⟨⟨rfl,rfl,rfl,rfl,rfl,rfl⟩,fun L h=>h⟩⟩)
  (fun X' F E _ x c=>?_)
 obtain⟨o,z⟩:=z;refine⟨n,us,j,as',g,pend',u,E,O,RR.ext' σ F S,U,W,Y,Z,by rw [x];exact a,o,?_⟩;have B:b≠d:=fun e=>by rw [e,z]at s;cases s
 rw [c,By B];exact z
end
section
variable{Q:Program}{σ:Nat→FuncId}{call:cO}
structure Way(Q:Program)(σ:Nat→FuncId)(fn:Nat)(n:Nat)(b:Frame)(cs:List Frame)(ro:Option Nat)(todo:List cG)(items:List Item)(s:St)(X:Wd)(a:Act):Prop where
 fr:Fr Q σ n X s a
 items:A2 (iE Q σ n X) todo items
 ro:RoR X ro b.roundOf
 kind:jE b cs
 fn:b.fn=σ fn
theorem Way.ext{fn n:Nat}{b:Frame}{cs:List Frame}{ro:Option Nat}{j:List cG}{items:List Item}{s s':St}{X X':Wd}{a a':Act}(h:Way Q σ fn n b cs ro j items s X a){g:List cG}{d:List Item}(l:Ext X.H.length X X')(m:Fr Q σ n X' s' a')
  (hi:A2 (iE Q σ n X) g d):Way Q σ fn n b cs ro g d s' X' a':=
 ⟨m,hi.lR fun _ _ h=>h.ext l,h.ro.ext l,h.kind,h.fn⟩
theorem Way.to{fn n:Nat}{b:Frame}{cs:List Frame}{ro:Option Nat}{j:List cG}{items:List Item}{s:St}{X:Wd}{a:Act}(h:Way Q σ fn n b cs ro j items s X a){g:List cG}{d:List Item}
  (hi:A2 (iE Q σ n X) g d):Way Q σ fn n b cs ro g d s X a:=⟨h.fr,hi,h.ro,h.kind,h.fn⟩
def ane(Q:Program)(σ:Nat→FuncId)(call:cO)(fn m:Nat):Prop:=
 ∀(n:Nat) (b:Frame) (cs:List Frame) ro l g s X a j s',run call fn m ro l s=ab (j,s')→Way Q σ fn n b cs ro l g s X a →
  ∃ X' a' d,Steps Q (lone (b.atR a g) cs X.w) (lone (b.atR a' d) cs X'.w)∧Fr Q σ n X' s' a'∧Ext X.H.length X X'∧a'.tmps.size=a.tmps.size∧ai7 j d
theorem v3{b:Frame}{a:Act}{k:List Item}{cs:List Frame}{w:World}{body:Code}:step Q (lone (b.atR a (.inScope body::k)) cs w)=.next (lone (b.atR a k) cs w):=
 step_lone_go (by simp [stepG,stepG.exec,Frame.atR])
theorem Co{b:Frame}{a:Act}{k:List Item}{cs:List Frame}{w:World}{body:Code}:step Q (lone (b.atR a (.code (.scope body)::k)) cs w)=.next (lone (b.atR a (.code body::.inScope body::k)) cs w):=
 step_lone_go (by simp [stepG,stepG.exec,Frame.atR])
theorem abf(hC:eR Q σ call)(f9:Q.follows .mixedOrders=ag)(fn:Nat):∀ m,ane Q σ call fn m:=by
 intro m;induction m with
 | zero=>intro n b cs ro c9 I s X a F s' h;simp [run]at h
 | succ m ih=>
  intro n b cs ro c9 I s X a F s' h z;have go:∀ {B j},run call fn m ro B s=ab (F,s')→A2 (iE Q σ n X) B j→step Q (lone (b.atR a I) cs X.w)=.next (lone (b.atR a j) cs X.w) →
    ∃ X' a' j,Steps Q (lone (b.atR a I) cs X.w) (lone (b.atR a' j) cs X'.w)∧Fr Q σ n X' s' a'∧Ext X.H.length X X'∧a'.tmps.size=a.tmps.size∧ai7 F j:=by
   intro B j hr hi S;obtain⟨X',a',it,g1,M⟩:=ih n b cs ro B j s X a F s' hr (z.to hi);exact⟨X',a',it,.head S g1,M⟩
  cases c9 with
  | nil=>
   have:I=[]:=api z.items.len.symm;subst this;simp only [run,sh,IT]at h;obtain⟨rfl,rfl⟩:=h;exact⟨X,a,[],Steps.refl _ _,z.fr,Ext.refl _ _,rfl,rfl⟩
  | cons x k=>
   cases I with
   | nil=>have:=z.items.len;simp at this
   | cons it ks=>
    obtain⟨hx,A⟩:=z.items.of_cons;cases hx with
    | inBlock id=>exact go (by simpa [run]using h) A stepR_inBlock
    | inLoop E=>exact go (by simpa [run]using h) (A2.cons (.code E) (A2.cons (.inLoop E) A)) stepR_inLoop
    | inScope E hs=>exact go (by simpa [run]using h) A v3
    | jv hb hl=>
     rename_i bb L;simp only [run]at h;split at h
     ·rename_i f t ps as bd q b_ d J;split at h
      ·simp at h
      ·rename_i hq;rw [←z.fr.heap]at J;obtain⟨m0,us,Z,as',U,pend',Ld,a_,h2,h3,h4,h5,h6,W,h8,h9⟩:=qq z.fr.sr hb J;obtain⟨g1,M⟩:=zS z.fr.sr hb J (q':=.exhausted) h2 h3 h4 h5 h6 W h8 h9;have k_:(q.of)≠LoopState.busy:=by cases q<;>simp [gm.of]at hq ⊢
       have S:=stepR_endRangeFunc (P:=Q) (b:=b) (a:=a) (k:=ks) (cs:=cs) (run_endLoop (P:=Q) a_ k_);have key:∀ {B j},run call fn m ro B { s with heap:=s.heap.set bb (.lp f t ps as bd .exhausted b_ d) }=ab (F,s')→A2 (iE Q σ n X) B j→j=(pend'.map Item.code).toList++ks →
         ∃ X' a' j,Steps Q (lone (b.atR a (.endRangeFunc L.c::ks)) cs X.w) (lone (b.atR a' j) cs X'.w)∧Fr Q σ n X' s' a'∧Ext X.H.length X X'∧a'.tmps.size=a.tmps.size∧ai7 F j:=by
        intro B j hr hi he;obtain⟨X',a',it,k1,k2,k3,k4,k5⟩:=ih n b cs ro B j _ _ a F s' hr (z.ext (a':=a) M ⟨by rw [←z.fr.heap],g1,by simpa [World.putObj]using z.fr.b,z.fr.aA.ext' σ M,z.fr.defs.ext' M,z.fr.size⟩ hi);rw [he]at k1;exact⟨X',a',it,.head S k1,k2,M.trans (k3.mono M.len),k4,k5⟩
       split at h
       ·cases pend' with
        | none=>exact key h A rfl| some c=>exact W.elim
       ·cases pend' with
        | none=>exact W.elim
        | some c=>
         have W:cm Q σ m0 c .ret=ag:=W;cases c<;>simp [cm]at W;exact key h (A2.cons (.code (by simp [cm])) A) rfl
       ·rename_i id;cases pend' with
        | none=>exact W.elim
        | some c=>
         have W:cm Q σ m0 c (.exit id)=ag:=W;cases c<;>simp [cm]at W;subst W;exact key h (A2.cons (.code (by simp [cm])) A) rfl
       ·simp at h
     ·simp at h
    | ns=>
     simp only [run]at h;split at h
     ·simp at h
     ·rename_i bb;split at h
      ·rename_i f t ps as bd b_ d J;have K:=z.ro;cases d5:b.roundOf with
       | none=>rw [d5]at K;exact K.elim
       | some l=>
        rw [d5]at K;obtain⟨L,hL,rfl,_⟩:=K;rw [←z.fr.heap]at J;obtain⟨m0,us,Z,as',U,pend',Ld,a_,h2,h3,h4,h5,h6,W,h8,h9⟩:=qq z.fr.sr hL J;obtain⟨g1,M⟩:=zS z.fr.sr hL J (q':=.busy) h2 h3 h4 h5 h6 W h8 h9;have S:=stepR_beginRound (P:=Q) (b:=b) (a:=a) (k:=ks) (cs:=cs) d5 (run_beginRound (P:=Q) a_ rfl);obtain⟨X',a',it,k1,k2,k3,k4,k5⟩:=ih n b cs _ k ks _ _ a F s' h (z.ext (a':=a) M ⟨by rw [←z.fr.heap],g1,by simpa [World.putObj]using z.fr.b,z.fr.aA.ext' σ M,z.fr.defs.ext' M,z.fr.size⟩ A);exact⟨X',a',it,.head S k1,k2,M.trans (k3.mono M.len),k4,k5⟩
      ·simp at h
    | code E=>
     rename_i ac c;cases ac with
     | bad=>simp [run]at h| skip=>cases c<;>simp [cm]at E;exact go (by simpa [run]using h) A stepR_skip
     | label l=>cases c<;>simp [cm]at E;exact go (by simpa [run]using h) A stepR_label
     | scope p=>
      cases c<;>simp [cm]at E;exact go (by simpa [run]using h) (A2.cons (.code E.1) (A2.cons (.inScope E.1 E.2) A)) Co
     | goto l=>
      cases c<;>simp [cm]at E;subst E;rename_i l';have O:=xm (Q:=Q) (σ:=σ) (n:=n) (X:=X) l' k ks A;simp only [run]at h;split at h
      ·rename_i k' H;rw [H]at O;obtain⟨m7,he,a9⟩:=O;exact go h a9 (stepR_goto he)
      ·simp at h
     | ret=>
      cases c<;>simp [cm]at E;simp only [run,sh,IT]at h;obtain⟨rfl,rfl⟩:=h;exact⟨X,a,_,Steps.refl _ _,z.fr,Ext.refl _ _,rfl,ks,rfl⟩
     | seq p q=>
      cases c<;>simp [cm]at E;exact go (by simpa [run]using h) (A2.cons (.code E.1) (A2.cons (.code E.2) A)) stepR_seq
     | block id p=>
      cases c<;>simp [cm]at E;obtain⟨rfl,E⟩:=E;exact go (by simpa [run]using h) (A2.cons (.code E) (A2.cons (.inBlock _) A)) stepR_block
     | loop p=>
      cases c<;>simp [cm]at E;exact go (by simpa [run]using h) (A2.cons (.code E) (A2.cons (.inLoop E) A)) stepR_loop
     | exit id=>
      cases c<;>simp [cm]at E;subst E;rename_i m6;have O:=xi (Q:=Q) (σ:=σ) (n:=n) (X:=X) m6 k ks A;simp only [run]at h;split at h
      ·rename_i k' H;rw [H]at O;obtain⟨m7,he,a9⟩:=O;exact go h a9 (stepR_exit he)
      ·rename_i H;rw [H]at O;split at h
       ·simp only [sh,IT]at h;obtain⟨rfl,rfl⟩:=h;exact⟨X,a,_,Steps.refl _ _,z.fr,Ext.refl _ _,rfl,ks,rfl,O⟩
       ·simp at h
     | cond x p q=>
      cases c<;>simp [cm]at E;simp only [run]at h;split at h
      ·rename_i v hv;have hx:=bS z.fr.aA E.1.1;rw [hv]at hx;have m5:cN σ X.F X.w (.bool v) _:=hx;have he:∀ u,cN σ X.F X.w (.bool v) u→u=.bool v:=fun u hu=>by cases hu;rfl
       refine go h ?_ (stepR_cond (he _ m5));cases v
       ·exact A2.cons (.code E.2) A
       ·exact A2.cons (.code E.1.2) A
      ·simp at h
     | region aos iT=>
      cases c with
      | region id ops m9=>
       simp only [run]at h;split at h
       ·simp at h
       ·rename_i K;split at h
        ·rename_i s1 h1;have l7:∀ y ∈ aos,gF y.op b:=by
          intro y hy;unfold gF;cases ro with
          | none=>
           refine .inl ?_;have:=z.ro;cases hb:b.roundOf with
           | none=>rfl| some l=>rw [hb]at this;exact this.elim
          | some r=>
           simp only [Option.isSome_some,Bool.true_and,ava,Bool.not_eq_false]at K;exact .inr (at4.1 K y hy)
         obtain⟨X1,a1,g1,M,g3,g4⟩:=Ol hC f9 E z.kind l7 (k:=ks) z.fr h1;obtain⟨X',a',it,k1,k2,k3,k4,k5⟩:=ih n b cs ro k ks s1 X1 a1 F s' h (z.ext g3 M A);exact⟨X',a',it,g1.trans k1,k2,g3.trans (k3.mono g3.len),k4.trans g4,k5⟩
        ·simp at h
      | _=>simp [cm]at E
     | kR f ps as bd=>
      cases c with
      | rangeFunc f' Z as' U=>
       simp only [cm,If]at E;obtain⟨⟨⟨j7,j8⟩,j9⟩,j_⟩:=E;simp only [run]at h;split at h
       ·simp at h
       ·rename_i K;have l9:b.roundOf=ae:=by
         have:=z.ro;cases ro with
         | some r=>simp at K
         | none=>
          cases hb:b.roundOf with
          | none=>rfl| some l=>rw [hb]at this;exact this.elim
        split at h
        ·rename_i g args d_;split at h
         ·rename_i r2 H2 N;obtain⟨X1,w1,H1,S1,E1,r1,B1⟩:=SR.new z.fr.sr z.fr.b (.kM ag) (dP.alloc X.w (.deferred (ab []))) 0 (fun X' hx hw hF hH=>by
           show X'.w.heap[X.w.heap.size]?=_;rw [hw];exact(dP.alloc X.w (.deferred (ab []))).new)
          have e_:X1.H[X.H.length]?=ab (.kM ag):=by rw [H1];simp
          have b7:X.H.length<X1.H.length:=by rw [H1];simp
          have f_:X1.w.heap.size=X.w.heap.size+1:=by rw [w1];simp
          obtain⟨X2,w2,g_,S2,E2,d7,B2⟩:=SR.new S1 B1 (.lp fn s.aA ps as bd .ready ae s.heap.length)
           (dP.alloc X1.w (.loop { state:=.ready,pending:=ae,fn:=b.fn,tmps:=a.tmps,params:=Z,assign:=as',body:=U,defers:=X.w.heap.size })) 0 (fun X' hx hw hF hH=>by
            obtain⟨blk',c_,H⟩:=hx.cu X.H.length b7 _ e_;cases blk'<;>simp only at H;refine⟨n,a.tmps,Z,as',U,ae,⟨X.w.heap.size,0⟩,?_,z.fr.size,RR.ext' σ hx (RR.ext' σ E1 z.fr.aA),j8,j9,j_,trivial,?_,?_⟩
            ·show X'.w.heap[X1.w.heap.size]?=_;rw [hw,(dP.alloc X1.w (.loop { state:=.ready,pending:=ae,fn:=b.fn,tmps:=a.tmps,params:=Z,assign:=as',body:=U,defers:=X.w.heap.size })).new,z.fn];rfl
            ·rw [←z.fr.heap];exact H _ r1
            ·rw [←z.fr.heap];exact⟨_,c_⟩)
          have d6:Ext X.H.length X X2:=E1.trans (E2.mono E1.len);have d8:X2.H=s.heap++[.kM ag,.lp fn s.aA ps as bd .ready ae s.heap.length]:=by rw [g_,H1,←z.fr.heap];simp
          have j4:X1.H.length=s.heap.length+1:=by rw [H1,←z.fr.heap];simp
          have J:DY X2 (s.heap.length+1):=⟨fn,s.aA,ps,as,bd,.ready,ae,s.heap.length,by rw [d8,at1 (by omega)];simp⟩
          rw [j4,f_]at d7;have d9:A2 (VR σ X2) [.c (.yl (s.heap.length+1))] [.func (.yield (X.w.heap.size+1)) #[] #[]]:=A2.cons ⟨⟨X.w.heap.size+1,0⟩,d7,J,rfl⟩ A2.nil;obtain⟨fst,cap,l_,m4⟩:=o9 d_ (VR.ext' σ d6 (bS z.fr.aA j7)) d9;rw [←d8]at N;have j3:=hC.enters _ _ _ _ N
          let a1:Act:={ a with defers:={ target:=.collected X.w.heap.size,args:=#[] }::a.defers }
          obtain⟨fr,X3,u,q1,⟨l1,l2,l3,l4,h_,l5,l6⟩,q3,q4,q5,q6,q7⟩:=hC.fn g args _ r2 H2 N X2 _ .normal (b.atR a1 (.inRangeFunc (X.w.heap.size+1)::ks)::cs) rfl S2 B2 m4 (.inl rfl);have S:step Q (lone (b.atR a (.code (.rangeFunc f' Z as' U)::ks)) cs X.w)=.next (lone (Frame.enter Q (σ g) (fst.toArray++#[.func (.yield (X.w.heap.size+1)) #[] #[]]++cap.toArray) .normal) (b.atR a1 (.inRangeFunc (X.w.heap.size+1)::ks)::cs) X2.w):=by
           refine stepR_rangeFunc (P:=Q) (b:=b) (a:=a) (k:=ks) (cs:=cs) (l:=X.w.heap.size+1) (mark:=[{ target:=.collected X.w.heap.size,args:=#[] }]) (w₁:=X2.w) (w₁':=X2.w) (d:={ target:=.fn (.func (σ g)) cap.toArray,args:=fst.toArray++#[.func (.yield (X.w.heap.size+1)) #[] #[]] }) ?_ ?_ ?_
           ·rw [l9,run_enterLoop_outer,w2,w1]
           ·simp only [resolve,l_,Deferred.ofValue,Sem.run_bind,Sem.run_pure,Result.andThen_ok];simp [Act.eval]
           ·exact eI j3
          have Y:Ext X.H.length X X3:=d6.trans (q6.mono d6.len);have a7:=step_leave_returned (P:=Q) (c:=b.atR a1 (.inRangeFunc (X.w.heap.size+1)::ks)) (cs:=cs) (show fr.leaving Q X3.w (.returned u) from⟨l1,l2,l3,h_,by rw [l4];exact l5,l6⟩);rw [finish_atR_inRangeFunc]at a7;have b9:=J.ext q6;have i_:tK σ X3 (.qb s.heap.length) { target:=.collected X.w.heap.size,args:=#[] }:=by
           obtain⟨blk',c_,H⟩:=(E2.trans (q6.mono E2.len)).cu X.H.length b7 _ e_;cases blk'<;>simp only at H;rw [←z.fr.heap];exact⟨⟨X.w.heap.size,0⟩,_,H _ r1,c_,rfl⟩
          obtain⟨X',a',it,k1,k2,k3,k4,k5⟩:=ih n b cs ro (.jv (s.heap.length+1)::k) (.endRangeFunc (X.w.heap.size+1)::ks) _ X3 a1 F s' h
           ⟨⟨q3,q4,q7,RR.ext' σ Y z.fr.aA,A2.cons i_ (z.fr.defs.ext' Y),z.fr.size⟩,A2.cons (.jv (b9.2 _ d7) b9.1) (A.lR fun _ _ h=>h.ext Y),z.ro.ext Y,z.kind,z.fn⟩
          refine⟨X',a',it,.head S (Steps.trans ?_ (.head a7 k1)),k2,Y.trans (k3.mono Y.len),k4,k5⟩;simpa using q1
         ·simp at h
        ·simp at h
      | _=>simp [cm]at E
end
section
variable{Q:Program}{σ:Nat→FuncId}{X:Wd}{call:cO}
def Zb(Q:Program)(σ:Nat→FuncId)(oR:Nat→List V→an→Option (Option (V × an))):Prop:=
 ∀ f args H r H',oR f args H=ab (ab (r,H')) →
  (∀ as w,(callFunc (σ f) as).run Q w=.ok (.enter (σ f) as) w) ∧
  ∀(X:Wd) us b cs,X.H=H→SR Q σ X→X.B≤X.w.heap.size→A2 (VR σ X) args us→pk b cs →
   ∃ fr X' u,Steps Q (lone (Frame.enter Q (σ f) us.toArray b) cs X.w) (lone fr cs X'.w)∧Leaves Q (σ f) b fr u X'.w∧rk Q σ X r H' X' u
structure Env(Q:Program)(σ:Nat→FuncId)(tab:Nat→Option aB)(oR:Nat→List V→an→Option (Option (V × an))):Prop where
 mix:Q.follows .mixedOrders=ag
 fn:∀ f af,tab f=ab af→∃ fn,Q.funcs[σ f]?=ab fn∧FP Q σ fn af=ag
 oR:Zb Q σ oR
theorem u_:∀(ps:List P) (args:List V) (t:T) (s:Nat),ps.map P.toNat=List.range' s ps.length→args.length=ps.length→∀ q:P,
  (cM ps args t).get q=if s≤q.toNat then(args[q.toNat-s]?).getD (t.get q)else t.get q
 | [],args,t,s,_,b,q=>by
  have:args=[]:=api b;subst this;simp [cM]
 | p::ps,[],t,s,_,b,q=>by simp at b
 | p::ps,v::y,t,s,d,b,q=>by
  simp only [List.map_cons,List.length_cons,List.range'_succ,List.cons.injEq]at d;have x:=u_ ps y (t.set p v) (s+1) d.2 (by simpa using b) q;simp only [cM,x];by_cases j:p=q
  ·subst j;rw [aY (by omega),T.qi];simp [d.1]
  ·have u:q.toNat≠s:=fun e=>j (P.toNat_inj (d.1.trans e.symm));simp only [T.qi,j,if_false];by_cases l:s≤q.toNat
   ·have g:s+1≤q.toNat:=by omega
    have m:q.toNat-s=(q.toNat-(s+1))+1:=by omega
    simp [g,l,m]
   ·have g:¬ (s+1≤q.toNat):=by omega
    simp [g,l]
theorem RR.cM:∀(ps:List P) (b:List Tmp) (args:List V) (us:List Value) (aA:T) (tmps:Array Value) (n:Nat),n≤tmps.size→RR σ X aA tmps→A2 (VR σ X) args us→args.length=ps.length →
  fK (fun p (q:P)=>q.toNat == p&&decide (p<n)) b ps=ag→RR σ X (Km.cM ps args aA) ((b.zip us).foldl (fun tmps (t,a)=>tmps.setIfInBounds t a) tmps)
 | [],b,args,us,aA,tmps,n,l,j,d,g,h=>by
  have:args=[]:=api g;subst this;have:us=[]:=api d.len.symm;subst this;simpa [Km.cM]using j
 | p::ps,[],args,us,aA,tmps,n,l,j,d,g,h=>by simp [fK]at h
 | p::ps,s::b,[],us,aA,tmps,n,l,j,d,g,h=>by simp at g
 | p::ps,s::b,v::x,[],aA,tmps,n,l,j,d,g,h=>by have:=d.len;simp at this
 | p::ps,s::b,v::x,u::us,aA,tmps,n,l,j,d,g,h=>by
  simp only [fK,If,beq_iff_eq,decide_eq_true_eq]at h;obtain⟨⟨y,A⟩,z⟩:=h;obtain⟨m,d⟩:=d.of_cons;subst y;refine RR.cM ps b x us _ _ n (by simpa using l) (RR.set σ j (by omega) m) d (by simpa using g) z
theorem sH:∀(l:List (Tmp × Value)) (tmps:Array Value),(l.foldl (fun tmps (t,a)=>tmps.setIfInBounds t a) tmps).size=tmps.size
 | [],_=>rfl| x::l,tmps=>by rw [List.foldl_cons,sH l];simp
theorem abe(fn:Nat):∀ m d s b s',run call fn m ae d s=ab (b,s')→b=ae∨b=ab .ret:=by
 intro m;induction m with
 | zero=>intro d s b s' h;simp [run]at h
 | succ m g=>
  intro d s b s' h;unfold run at h;split at h
  all_goals first
   | exact g _ _ _ _ h
   | (simp at h;done)
   | skip
  ·simp only [sh,IT]at h;exact .inl h.1.symm
  ·split at h
   ·split at h
    ·simp at h
    ·split at h
     ·exact g _ _ _ _ h
     ·exact g _ _ _ _ h
     ·exact g _ _ _ _ h
     ·simp at h
   ·simp at h
  ·split at h
   ·exact g _ _ _ _ h
   ·simp at h
  ·simp only [sh,IT]at h;exact .inr h.1.symm
  ·split at h
   ·exact g _ _ _ _ h
   ·simp at h
  ·split at h
   ·exact g _ _ _ _ h
   ·simp at h
  ·split at h
   ·simp at h
   ·split at h
    ·exact g _ _ _ _ h
    ·simp at h
  ·split at h
   ·simp at h
   ·simp only at h;split at h
    ·split at h
     ·exact g _ _ _ _ h
     ·simp at h
    ·simp at h
theorem sB{fn:Func}{af:aB}(h:FP Q σ fn af=ag):∃ c,fn.name≠ "runtime.NumGoroutine"∧fn.body=ab c∧cm Q σ fn.ntmps c af.body=ag ∧
  fK (zg Q fn.ntmps) fn.results.toList af.results=ag∧af.ps.map P.toNat=List.range af.ps.length:=by
 simp only [FP,If,bne_iff_ne,ne_eq,decide_eq_true_eq]at h;obtain⟨⟨⟨h1,h2⟩,h3⟩,h4⟩:=h;cases hb:fn.body with
 | none=>rw [hb]at h2;simp at h2| some c=>rw [hb]at h2;exact⟨c,h1,rfl,h2,h3,h4⟩
theorem zH{f:FuncId}{fn:Func}{c:Code}(hf:Q.funcs[f]?=ab fn)(hn:fn.name≠ "runtime.NumGoroutine")(hb:fn.body=ab c)(as:Array Value)(w:World):(callFunc f as).run Q w=.ok (.enter f as) w:=by
 simp [callFunc,hf,hn,hb]
def jO(g:FuncId)(b:CallKind)(tmps:Array Value)(ds:List Deferred)(fr:Frame):Prop:=
 fr.mode=.returning∧fr.defers=ds∧fr.kind=b∧fr.fn=g∧fr.tmps=tmps
theorem step_collected{fr:Frame}{cs:List Frame}{w w':World}{b:Nat}{as:Array Value}{ds:List Deferred}(g:fr.mode=.returning)(d:fr.defers = { target:=.collected b,args:=as }::ds)
  (hr:(Instr.takeDeferred b).run Q w=.ok [] w'):step Q (lone fr cs w)=.next (lone { fr with defers:=ds } cs w'):=
 step_lone_go (by simp [stepG,unwind,g,d,Sem.runT_eq,hr])
theorem v5{fr:Frame}{cs:List Frame}{w:World}{f:FuncId}{cap as as':Array Value}{ds:List Deferred}(d:fr.mode=.returning)(b:fr.defers = { target:=.fn (.func f) cap,args:=as }::ds)
  (hr:(invoke (.fn (.func f) cap) as).run Q w=.ok (.enter f as') w):step Q (lone fr cs w)=.next (lone (Frame.enter Q f as' .deferred) ({ fr with defers:=ds }::cs) w):=
 step_lone_go (by simp [stepG,unwind,d,b,callDeferred,Sem.runT_eq,hr])
theorem oU{fr c:Frame}{cs:List Frame}{w:World}{v:Value}{f:FuncId}(h:Leaves Q f .deferred fr v w)(hc:c.mode=.returning) :
  step Q (lone fr (c::cs) w)=.next (lone c cs w):=by
 obtain⟨m,g,l,j,fn,b,d⟩:=h;rw [←j]at b;exact step_lone_go (by simp [stepG,unwind,doReturn,m,g,l,b,Sem.runT_eq,d,hc])
theorem jO.pop{g:FuncId}{kind:CallKind}{tmps:Array Value}{d:Deferred}{ds:List Deferred}{fr:Frame}(h:jO g kind tmps (d::ds) fr):jO g kind tmps ds { fr with defers:=ds }:=
 ⟨h.1,rfl,h.2.2.1,h.2.2.2.1,h.2.2.2.2⟩
theorem yR(F:eR Q σ call){g:FuncId}{x:CallKind}{tmps:Array Value}{cs:List Frame}:∀(ds:List dH) (X:Wd) (l:List Deferred) (fr:Frame) (H':an),
  dV call ds X.H=ab H'→SR Q σ X→X.B≤X.w.heap.size→fJ σ X ds l→jO g x tmps l fr →
  ∃ fr' X',Steps Q (lone fr cs X.w) (lone fr' cs X'.w)∧jO g x tmps [] fr'∧X'.H=H'∧SR Q σ X'∧X'.B≤X'.w.heap.size∧Ext X.H.length X X'
 | [],X,l,fr,H',h,A,B,y,j=>by
  have:l=[]:=api y.len.symm;subst this;simp only [dV,sh]at h;exact⟨fr,X,Steps.refl _ _,j,h,A,B,Ext.refl _ _⟩
 | d::ds,X,[],fr,H',h,A,B,y,j=>by have:=y.len;simp at this
 | .qb b::ds,X,m::l,fr,H',h,A,B,y,j=>by
  obtain⟨⟨L,o,h1,h2,rfl⟩,z⟩:=A2.of_cons y;simp only [dV]at h;split at h
  ·rename_i H;obtain⟨_,_,bp,E,J⟩:=A.br b L h1;rw [H]at E;cases E;have v:X.w.heap[L.c]?=ab (.deferred (ab [])):=J;obtain⟨g1,I⟩:=SR.qP (o':=.deferred ae) (blk':=.kM ah) A H h1 v (by simp) (by simp)
    (fun bp s=>⟨.kM ah,by simp [(BY.1 H).1],by rw [H]at s;cases s;exact fun L h=>h⟩)
    (fun X' a_ M _ a7 hH=>M)
   obtain⟨fr',X',N,O,S,U,W,Y⟩:=yR F ds _ l { fr with defers:=l } H' h g1 (by simpa using B) (fJ.ext' I z) j.pop;exact⟨fr',X',.head (step_collected j.1 j.2.1 (run_takeDeferred v)) N,O,S,U,W,I.trans (Y.mono I.len)⟩
  ·simp at h
 | .fn f args::ds,X,m::l,fr,H',h,A,B,y,j=>by
  obtain⟨⟨us,cap,rfl,hA⟩,z⟩:=A2.of_cons y;simp only [dV]at h;split at h
  ·rename_i r H1 q;have K:=F.enters f args _ _ q;obtain⟨a9,X1,u,q1,q2,q3,q4,q5,Z,q7⟩:=F.fn f args _ r H1 q X _ .deferred ({ fr with defers:=l }::cs) rfl A B hA (.inr ⟨rfl,_,_,rfl,j.1⟩);rw [←q3]at h;obtain⟨fr',X',N,O,S,U,W,Y⟩:=yR F ds X1 l { fr with defers:=l } H' h q4 q7 (fJ.ext' Z z) j.pop;refine⟨fr',X',.head (v5 (as':=us++cap) j.1 j.2.1 (eI K)) (Steps.trans ?_ (.head (oU (c:={ fr with defers:=l }) q2 j.1) N)),O,S,U,W,Z.trans (Y.mono Z.len)⟩;have e:(us.toList++cap.toList).toArray=us++cap:=by apply Array.ext';simp
   rw [e]at q1;exact q1
  ·simp at h
theorem amh(E:SR Q σ X){n:Nat}{aA:T}{tmps:Array Value}(m:RR σ X aA tmps){r:ResultVar}{a:jr}(g:zg Q n r a=ag){v:V}
  (h:bw aA X.H a=ab v):∃ u,(match r with | .tmp t=>pure (tmps.getD t undef) | .cell a t=>do loadVar t (←asAddr (tmps.getD a undef)):Sem Value).run Q X.w=.ok u X.w∧ju σ X v u:=by
 cases r with
 | tmp t=>
  cases a with
  | tmp p=>
   simp only [zg,If,beq_iff_eq,decide_eq_true_eq]at g;have d:=m p;rw [g.1]at d;simp only [bw]at h;refine⟨_,rfl,?_⟩;split at h
   ·simp at h
   ·rename_i j;simp only [sh]at h;rw [h]at d;cases v with
    | t H=>exact absurd h (j H)| top=>trivial| c x=>exact d| a xs=>exact d
  | cell p k=>simp [zg]at g
 | cell t I=>
  cases a with
  | tmp p=>simp [zg]at g
  | cell p k=>
   simp only [zg,If,beq_iff_eq,decide_eq_true_eq]at g;have d:=m p;rw [g.1.1]at d;simp only [bw]at h;cases q:aA.get p with
   | c x=>
    rw [q]at h d;simp only [aV,Option.bind_eq_some_iff]at h;obtain⟨cs,s,b⟩:=h;obtain⟨c,o,us,F,z,A⟩:=tY E d s;obtain⟨u,B,l⟩:=Cp g.2 z A b;refine⟨u,by simp [F,asAddr,B],?_⟩;cases k with
    | none=>cases cs with
     | nil=>simp [aK]at b| cons y ys=>simp only [aK,sh]at b;subst b;exact l
    | some k=>
     simp only [aK]at b;split at b
     ·simp only [sh]at b;subst b;exact l
     ·simp at b
   | _=>rw [q]at h;simp [aV]at h
theorem EG(K:SR Q σ X){fn:Func}{m:List jr}(L:fK (zg Q fn.ntmps) fn.results.toList m=ag){aA:T}{tmps:Array Value}(J:RR σ X aA tmps){v:V}
  (h:Km.results aA X.H m=ab v):∃ u,(Go.results fn tmps).run Q X.w=.ok u X.w∧VR σ X v u:=by
 have key:∀(m:List jr) (qs:List ResultVar) (j:List V),fK (zg Q fn.ntmps) qs m=ag→aZ (bw aA X.H) m=ab j →
   ∃ us:List Value,(qs.mapM (fun r=>match r with | .tmp t=>pure (tmps.getD t undef) | .cell a t=>do loadVar t (←asAddr (tmps.getD a undef)):ResultVar→Sem Value)).run Q X.w=.ok us X.w∧A2 (ju σ X) j us:=by
  intro m;induction m with
  | nil=>
   intro qs j x l;cases qs with
   | nil=>simp only [aZ,sh]at l;subst l;exact⟨[],rfl,A2.nil⟩| cons q qs=>simp [fK]at x
  | cons a m M=>
   intro qs j x l;cases qs with
   | nil=>simp [fK]at x
   | cons q qs=>
    simp only [fK,If]at x;simp only [aZ]at l;split at l
    ·simp at l
    ·rename_i A E;split at l
     ·simp at l
     ·rename_i B F;simp only [sh]at l;subst l;obtain⟨u,s,b⟩:=amh K J x.1 E;obtain⟨us,H,I⟩:=M qs B x.2 F;refine⟨u::us,?_,A2.cons b I⟩;rw [List.mapM_cons,Sem.run_bind,s];simp only [Result.andThen_ok,Sem.run_bind,H,Sem.run_pure]
 unfold Km.results at h;have y:∀ j,aZ (bw aA X.H) m=ab j→∃ us:List Value,(Go.results fn tmps).run Q X.w=.ok (if h:us.toArray.size=1 then us.toArray[0]else .tuple us.toArray) X.w∧A2 (ju σ X) j us:=by
  intro j g;obtain⟨us,s,b⟩:=key m fn.results.toList j L g;refine⟨us,?_,b⟩;unfold Go.results;rw [Array.mapM_eq_mapM_toList,Sem.run_bind,Sem.run_map];exact(congrArg (fun r:Result (List Value)=>(r.andThen fun a w'=>Result.ok a.toArray w').andThen fun a w'=>Sem.run Q (pure (if h:a.size=1 then a[0]else Value.tuple a)) w') s).trans rfl
 split at h
 ·rename_i A g;simp only [sh]at h;subst h;obtain⟨us,s,b⟩:=y _ g
  match us,b with
  | [u],b=>exact⟨u,s,VR.of1 σ b.of_cons.1⟩| [],b=>have:=b.len;simp at this| _::_::_,b=>have:=b.len;simp at this
 ·rename_i j z g;simp only [sh]at h;subst h;obtain⟨us,s,b⟩:=y _ g;refine⟨.tuple us.toArray,?_,us,rfl,b⟩;rw [s,dif_neg];intro d
  match us,d with
  | [u],_=>
   match j,b with
   | [A],_=>exact z A rfl| [],b=>have:=b.len;simp at this| _::_::_,b=>have:=b.len;simp at this
  | [],d=>simp at d| _::_::_,d=>simp at d
 ·simp at h
end
section
variable{Q:Program}{σ:Nat→FuncId}{tab:Nat→Option aB}{oR:Nat→List V→an→Option (Option (V × an))}
theorem aoi(n:Env Q σ tab oR){m:Nat}{call:cO}(i:eR Q σ call){f:Nat}{j:aB}(J:tab f=ab j){args:List V}(F:args.length=j.ps.length){y:Option ay}{s':St}{X:Wd}
  (x:run call f m ae [.code j.body] ⟨cM j.ps args .e,[],X.H⟩=ab (y,s')) {H':an} (l:dV call s'.defs s'.heap=ab H') {r:V} (v:Km.results s'.aA H' j.results=ab r)
  {us:List Value} {d:CallKind} {cs:List Frame} (hS:SR Q σ X) (hB:X.B≤X.w.heap.size) (h:A2 (VR σ X) args us) (hk:pk d cs) :
  ∃ fr X' u,Steps Q (lone (Frame.enter Q (σ f) us.toArray d) cs X.w) (lone fr cs X'.w)∧Leaves Q (σ f) d fr u X'.w∧rk Q σ X r H' X' u:=by
 obtain⟨fn,o,hm⟩:=n.fn f j J;obtain⟨c,N,z,A,S,O⟩:=sB hm
 let b:Frame:=Frame.enter Q (σ f) us.toArray d
 let q:Act:={ tmps:=us.toArray++Array.replicate (fn.ntmps-us.toArray.size) undef,defers:=[] }
 have hb:b=b.atR q [.code c]:=by
  simp [b,q,Frame.enter,Frame.atR,o,z]
 have U:fn.ntmps≤q.tmps.size:=by simp [q];omega
 have M:RR σ X (cM j.ps args .e) q.tmps:=by
  intro p;rw [u_ j.ps args .e 0 (by rw [O,List.range_eq_range']) F p];simp only [Nat.zero_le,if_true,Nat.sub_zero];by_cases t:p.toNat<args.length
  ·have w:=AT t;have H:p.toNat<us.length:=h.len▸t;have hy:=AT H;have hv:=h.2 _ _ _ w hy;rw [w];have:q.tmps.getD p.toNat undef=us[p.toNat]:=by
    simp [q,Array.getD_eq_getD_getElem?,Array.getElem?_append,H]
   rw [this];exact hv
  ·rw [avk (by omega)];cases p<;>trivial
 have hF:Fr Q σ fn.ntmps X ⟨cM j.ps args .e,[],X.H⟩ q:=⟨rfl,hS,hB,M,A2.nil,U⟩
 have hW:Way Q σ f fn.ntmps b cs ae [.code j.body] [.code c] ⟨cM j.ps args .e,[],X.H⟩ X q:=⟨hF,A2.cons (.code A) A2.nil,trivial,hk,rfl⟩
 obtain⟨K,a1,g,s1,B,W,_,Y⟩:=abf i n.mix f m fn.ntmps b cs ae _ _ _ X q y s' x hW;have I:∃ s,Steps Q (lone (b.atR a1 g) cs K.w) (lone s cs K.w)∧jO (σ f) d a1.tmps a1.defers s:=by
  rcases abe f m _ _ _ _ x with rfl | rfl
  ·have:g=[]:=Y;subst this;exact⟨_,.one (stepR_end rfl),rfl,rfl,rfl,rfl,rfl⟩
  ·obtain⟨k,rfl⟩:=Y;exact⟨_,.one (stepR_ret rfl),rfl,rfl,rfl,rfl,rfl⟩
 obtain⟨s,s2,R1⟩:=I;rw [←B.heap]at l;obtain⟨L,X2,s3,E,Z,a,h3,e⟩:=yR i (cs:=cs) s'.defs K a1.defers s H' l B.sr B.b B.defs R1;rw [←Z]at v;obtain⟨u,g1,g2⟩:=EG a S (RR.ext' σ e B.aA) v;refine⟨L,X2,u,?_,⟨E.1,E.2.1,E.2.2.1,E.2.2.2.1,fn,o,by rw [E.2.2.2.2];exact g1⟩,Z,a,g2,W.trans (e.mono W.len),h3⟩;show Steps Q (lone b cs X.w) _;rw [hb];exact s1.trans (s2.trans s3)
theorem abP(hE:Env Q σ tab oR){m:Nat}{call:cO}(hC:eR Q σ call){b:Nat}{f:Nat}{tmps:T}{ps:List P}{as bd:ay}{q:gm}{pd:Option ay}{d:Nat}{X:Wd}(U:X.H[b]?=ab (.lp f tmps ps as bd q pd d))
  {args:List V} (S:args.length=ps.length) {g:Option ay} {s':St} (Y:run call f m (ab b) [.code as,.ns,.code bd] ⟨cM ps args tmps,[],X.H⟩=ab (g,s')) (b_:s'.defs.isEmpty=ag)
  {f':Nat} {v:T} {J:List P} {as' H:ay} {q':gm} {d5:Option ay} {d':Nat} (y:s'.heap[b]?=ab (.lp f' v J as' H q' d5 d'))
  {us:List Value} {c:Frame} {cs:List Frame} {L:Loc} (hS:SR Q σ X) (hB:X.B≤X.w.heap.size) (hA:A2 (VR σ X) args us) (hL:X.cC b=ab L) :
  ∃ f tmps as bd X' u,(Instr.yield L.c us.toArray).run Q X.w=.ok (.round L.c f tmps as bd) X.w ∧
   Steps Q (lone (Frame.round L.c f tmps as bd .normal) (c::cs) X.w) (lone (c.finish u) cs X'.w)∧rk Q σ X (.bool g.isNone) (s'.heap.set b (.lp f' v J as' H (if g.isNone then .ready else .done) g d')) X' u:=by
 obtain⟨n,ts,qs,z,A,d6,Ld,W,h2,h3,h4,h5,h6,h7,h8,h9⟩:=qq hS hL U;have hq:=(ey h4).len;have c_:us.toArray.size=qs.size:=by
  have:=hA.len;simp only [Array.length_toList]at hq;simp;omega
 have hy:=run_yield (P:=Q) (args:=us.toArray) W c_
 let F:Array Value:=(qs.zip us.toArray).foldl (fun tmps (t,a)=>tmps.setIfInBounds t a) ts
 have O:F=(qs.toList.zip us).foldl (fun tmps (t,a)=>tmps.setIfInBounds t a) ts:=by
  simp only [F];rw [←Array.foldl_toList];simp
 let M:Act:={ tmps:=F,defers:=[] }
 let B:Frame:=Frame.round L.c (σ f) F z A .normal
 have b7:B=B.atR M [.code z,.beginRound,.code A]:=by simp [B,M,Frame.round,Frame.atR]
 have b9:RR σ X (cM ps args tmps) F:=by
  rw [O];exact RR.cM ps qs.toList args us tmps ts n h2 h3 hA S h4
 have hn:n≤F.size:=by rw [O,sH];exact h2
 have hF:Fr Q σ n X ⟨cM ps args tmps,[],X.H⟩ M:=⟨rfl,hS,hB,b9,A2.nil,hn⟩
 have E:DY X b:=⟨_,_,_,_,_,_,_,_,U⟩
 have hW:Way Q σ f n B (c::cs) (ab b) [.code as,.ns,.code bd] [.code z,.beginRound,.code A] ⟨cM ps args tmps,[],X.H⟩ X M:=
  ⟨hF,A2.cons (.code h5) (A2.cons .ns (A2.cons (.code h6) A2.nil)),⟨L,hL,rfl,E⟩,.inl rfl,rfl⟩
 obtain⟨X1,a1,x,s1,K,E1,_,Z⟩:=abf hC hE.mix f m n B (c::cs) (ab b) _ _ _ X M g s' Y hW;have N:=(E.ext E1).2 _ hL;rw [←K.heap]at y;obtain⟨n1,d8,d7,a9,a_,pend1,a7,s,k2,k3,k4,k5,k6,k7,k8,k9⟩:=qq K.sr N y;have I:∀(l:Option Code),xC Q σ n1 g l→l.isNone=g.isNone→step Q (lone (B.atR a1 x) (c::cs) X1.w)=.next (lone (c.finish (.bool l.isNone)) cs (X1.w.putObj L.c (.loop { state:=if l.isNone then .ready else .done,pending:=l,fn:=σ f',tmps:=d8,params:=d7,assign:=a9,body:=a_,defers:=a7.c }))) →
   ∃ f tmps as bd X' u,(Instr.yield L.c us.toArray).run Q X.w=.ok (.round L.c f tmps as bd) X.w ∧
   Steps Q (lone (Frame.round L.c f tmps as bd .normal) (c::cs) X.w) (lone (c.finish u) cs X'.w)∧rk Q σ X (.bool g.isNone) (s'.heap.set b (.lp f' v J as' H (if g.isNone then .ready else .done) g d')) X' u:=by
  intro l hj hn c9;obtain⟨g1,g2⟩:=zS K.sr N y (q':=if g.isNone then .ready else .done) (pend1:=g) (pend':=l) k2 k3 k4 k5 k6 hj k8 k9;have hq:(if g.isNone then gm.ready else gm.done).of=(if l.isNone then LoopState.ready else LoopState.done):=by
   rw [hn];cases g<;>rfl
  rw [hq]at g1 g2;refine⟨σ f,F,z,A,_,.bool l.isNone,hy,?_,?_,g1,?_,E1.trans (g2.mono E1.len),?_⟩
  ·show Steps Q (lone B (c::cs) X.w) _;rw [b7];exact s1.trans (.one c9)
  ·rw [←K.heap]
  ·rw [hn];exact VR.uK _
  ·have:=K.b;simpa [World.putObj]using this
 cases g with
 | none=>
  have:x=[]:=Z;subst this;exact I ae trivial rfl (stepR_round_end rfl rfl (run_endRound (P:=Q) ae s))
 | some j=>
  cases j with
  | ret=>
   obtain⟨k,rfl⟩:=Z;exact I (ab .ret) (by simp [xC,cm]) rfl (stepR_round_ret rfl rfl (run_endRound (P:=Q) (ab .ret) s))
  | exit id=>
   obtain⟨k,rfl,hx⟩:=Z;exact I (ab (.exit id)) (by simp [xC,cm]) rfl (stepR_round_exit rfl rfl hx (run_endRound (P:=Q) (ab (.exit id)) s))
  | _=>exact Z.elim
theorem ZJ(x:Env Q σ tab oR)(m:Nat):∀ d,eR Q σ (ef tab oR m d):=by
 intro d;induction d with
 | zero=>exact⟨fun f args H r h=>by simp [ef]at h,fun f args H r H' h=>by simp [ef]at h,fun b args H r H' h=>by simp [ef]at h⟩
 | succ d S=>
  refine⟨fun f args H r h=>?_,fun f args H r H' h X us B cs J I F E U=>?_,fun b args H r H' h X us c cs L J I F E Z=>?_⟩
  ·simp only [ef]at h;split at h
   ·rename_i r' M;obtain⟨r0,H0⟩:=r;exact(x.oR f args H r0 H0 (by rw [M,h])).1
   ·split at h
    ·simp at h
    ·rename_i O l;obtain⟨fn,hf,hm⟩:=x.fn f O l;obtain⟨c,v,s,_⟩:=sB hm;exact zH hf v s
  ·simp only [ef]at h;split at h
   ·rename_i r' M;exact(x.oR f args H r H' (by rw [M,h])).2 X us B cs J I F E U
   ·split at h
    ·simp at h
    ·rename_i O l;split at h
     ·rename_i g;split at h
      ·rename_i A s' j;split at h
       ·rename_i H1 u;simp only [IN,IT]at h;obtain⟨r1,z,rfl,rfl⟩:=h;subst J;exact aoi x S l g j u z I F E U
       ·simp at h
      ·simp at h
     ·simp at h
  ·simp only [ef]at h;split at h
   ·rename_i f tmps ps as bd q pd d' K;split at h
    ·rename_i g;split at h
     ·rename_i A s' j;split at h
      ·rename_i hd;split at h
       ·rename_i f' N a9 as' W q' a7 Y y;simp only [sh,IT]at h;obtain⟨rfl,rfl⟩:=h;subst J;exact abP x S K g j hd y I F E Z
       ·simp at h
      ·simp at h
     ·simp at h
    ·simp at h
   ·simp at h
end
inductive A6 where
 | no
 | set (b:Nat) (x:c6)
 | push (x:c6)
def A6.app(H:an):A6→an
 | .no=>H| .set b x=>H.set b x| .push x=>H++[x]
def tX(g:Nat→Option c6):C→Option (List C)
 | .ptr b off d=>match g b with
  | some (.box cs _)=>ab (cs.drop off)| some (.bR _ cs _ e .loc)=>if d=e then ab (cs.drop off)else ae| _=>ae
 | .f (.fp cs off)=>ab ((cs.drop off).map .f)| _=>ae
def akE(g:Nat→Option c6)(n:Option Nat):V→Option V
 | .c x=>(tX g x).bind (aK n)| _=>ae
def sa(g:Nat→Option c6):C→Option Nat
 | .sl b _ l _ d sz=>match g b with
  | some (.box _ _)=>ab l| some (.bR s _ _ e _)=>if d=e∧sz=s then ab l else ae| _=>ae
 | .f .aG=>ab 0| .f .es=>ab 0| .f (.fs _ l)=>ab l| _=>ae
def qL(g:Nat→Option c6)(sz:Nat):C→Option (List C)
 | .sl b o l _ d s=>match g b with
  | some (.box cs _)=>if o+l*sz≤cs.length then ab ((cs.drop o).take (l*sz))else ae| some (.bR s' cs _ e _)=>if d=e∧s=s'∧o+l*sz≤cs.length then ab ((cs.drop o).take (l*sz))else ae| _=>ae
 | .f .aG=>ab []| .f .es=>ab []| .f (.fs cs l)=>if cs.length=l*sz then ab (cs.map .f)else ae| _=>ae
def rN(g:Nat→Option c6):MR→C→Option Bool
 | .ptr,.f .gE=>ab ag| .ptr,.f (.fp _ _)=>ab ah| .ptr,.ptr _ _ _=>ab ah| .sl,.f .aG=>ab ag| .sl,.f .es=>ab ah| .sl,.f (.fs _ _)=>ab ah
 | .sl,.sl b _ _ _ d sz=>match g b with
  | some (.box _ _)=>ab ah| some (.bR s _ _ e st)=>if d=e∧sz=s then ab (st == .nil)else ae| _=>ae
 | .fn,.f .kn=>ab ag| .fn,.f (.fn _ _)=>ab ah| .fn,.cl _ _=>ab ah| .fn,.bm _ _=>ab ah| .ifc,.f .mZ=>ab ag| _,_=>ae
def aki(g:Nat→Option c6):MR→V→V→Option Bool
 | .bool,.c x,.c y=>OB .bool x y| .st ks,.a xs,.a ys=>rC ks xs ys| .ptr,.c x,.c (.f .gE)=>rN g .ptr x| .sl,.c x,.c (.f .aG)=>rN g .sl x| .fn,.c x,.c (.f .kn)=>rN g .fn x| .ifc,.c x,.c (.f .mZ)=>rN g .ifc x| _,_,_=>ae
def tv(g:Nat→Option c6)(sz:Nat)(x:V)(lo hi mx:Option V):Option V:=
 match x with
 | .c (.f .aG)=>match cL 0 0 lo hi mx with
  | some _=>ab (.c (.f .aG))| none=>ae
 | .c (.f .es)=>match cL 0 0 lo hi mx with
  | some _=>ab (.c (.f .es))| none=>ae
 | .c (.f (.fs cs n))=>match cL n n lo hi mx with
  | some (l,h,m)=>
   if mx.isSome∧m=l then ab (.c (.f .es))else
   ab (.c (.f (.fs ((cs.drop (l*sz)).take ((h-l)*sz)) (h-l))))
  | none=>ae
 | .c (.sl b o n cap d s)=>match g b with
  | some (.box _ _)=>match cL n cap lo hi mx with
   | some (l,h,m)=>if m=l then ab (.c (.f .es))else ab (.c (.sl b (o+l*sz) (h-l) (m-l) d s))| none=>ae
  | some (.bR s' _ _ e st)=>
   if d=e∧s=sz∧s'=sz then
    match st with
    | .loc=>match cL n n lo hi mx with
     | some (l,h,m)=>
      if mx.isSome∧m=l then ab (.c (.f .es))
      else if l=h∧0<l then ab (.c (.f (.fs [] 0)))
      else if mx.isSome then ae
      else ab (.c (.sl b (o+l*sz) (h-l) 0 d s))
     | none=>ae
    | .nil=>match cL 0 0 lo hi mx with
     | some _=>ab (.c (.f .aG))| none=>ae
    | .es=>match cL 0 0 lo hi mx with
     | some _=>ab (.c (.f .es))| none=>ae
   else ae
  | _=>ae
 | _=>ae
def zK(g:Nat→Option c6)(n sz:Nat)(x:V)(lo hi mx:Option V):Option V:=
 match x with
 | .c (.ptr b off _)=>match g b with
  | some (.box cs _)=>match cL n n lo hi mx with
   | some (l,h,m)=>if off+n*sz≤cs.length then(if m=l then ab (.c (.f .es))else ab (.c (.sl b (off+l*sz) (h-l) (m-l) 0 sz)))else ae| none=>ae
  | _=>ae
 | .c (.f (.fp cs off))=>match cL n n lo hi mx with
   | some (l,h,m)=>if off+n*sz≤cs.length then(if m=l then ab (.c (.f .es))else ab (.c (.f (.fs ((cs.drop (off+l*sz)).take ((h-l)*sz)) (h-l)))))else ae| none=>ae
 | _=>ae
def uz(g:Nat→Option c6)(sz:Nat)(j:Option Nat)(x i:V):Option V:=
 match dD i with
 | none=>ae
 | some i=>
  if 0≤i then
   match j,x with
   | none,.c (.sl b o l _ d s)=>if i<l then
     (match g b with
      | some (.box _ _)=>ab (.c (.ptr b (o+i.toNat*sz) d))| some (.bR s' _ _ e .loc)=>if d=e∧s=s' then ab (.c (.ptr b (o+i.toNat*sz) d))else ae
      | _=>ae)else ae
   | none,.c (.f (.fs cs l))=>if i<l then ab (.c (.f (.fp cs (i.toNat*sz))))else ae| some n,.c (.ptr b o d)=>if i<n then ab (.c (.ptr b (o+i.toNat*sz) d))else ae| some n,.c (.f (.fp cs o))=>if i<n then ab (.c (.f (.fp cs (o+i.toNat*sz))))else ae| _,_=>ae
  else ae
def uH(g:Nat→Option c6)(d:CK)(z:FC):V→V→Option V
 | .c (.f .vQ),.c (.f k)=>if isKey d k then ab (lkR z ae)else ae
 | .c (.mp b),.c (.f k)=>match g b with
  | some (.map j)=>if isKey d k then(nK d k j).map (lkR z)else ae| _=>ae
 | _,_=>ae
def DI(g:Nat→Option c6):V→Option V
 | .c x=>match sa g x with
  | some _=>match qL g 1 x with
   | some cs=>(aZ (fun c=>match c with | C.f (.int .u8 n)=>ab (UInt8.ofNat n.toNat) | _=>ae) cs).map fun l=>.c (.f (.str ⟨l.toArray⟩))
   | none=>ae
  | none=>ae
 | _=>ae
def pW(g:Nat→Option c6)(sz:Nat):V→Option (Nat × List C)
 | .c (.f (.str s))=>if sz=1 then ab (s.size,s.toList.map fun b=>.f (.int .u8 b.toNat))else ae
 | .c x=>match sa g x,qL g sz x with
  | some l,ab cs=>ab (l,cs)| _,_=>ae
 | _=>ae
def EK(g:Nat→Option c6):C→Option Nat
 | .sl b _ _ c d sz=>match g b with
  | some (.box _ _)=>ab c| some (.bR s _ _ e .nil)=>if d=e∧sz=s then ab 0 else ae| some (.bR s _ _ e .es)=>if d=e∧sz=s then ab 0 else ae| _=>ae
 | .f .aG=>ab 0| .f .es=>ab 0| _=>ae
def yS(g:Nat→Option c6):V→Option V
 | .c (.mi b)=>match g b with
  | some (.vw m _ ag)=>match g m with
   | some (.map [e])=>ab (.t [.c (.f e.1),mV e.2])| _=>ae
  | _=>ae
 | _=>ae
def abx(g:Nat→Option c6)(x:C)(xs:List C):Option A6:=
 match x with
 | .ptr b off j=>match g b with
  | some (.box cs d)=>if d≤off∧off+xs.length≤cs.length then ab (.set b (.box (over cs off xs) d))else ae| some (.bR sz cs d e .loc)=>if j=e∧d≤off∧off+xs.length≤cs.length then ab (.set b (.bR sz (over cs off xs) d e .loc))else ae| _=>ae
 | _=>ae
def Ei(g:Nat→Option c6):V→Option (V × A6)
 | .c (.it b)=>match g b with
  | some (.it s pos)=>
   if pos<s.size then
    let r:=Utf8.decode s pos
    ab (.t [.bool ag,.int .i64 pos,.int .i32 r.1],.set b (.it s (pos+r.2)))
   else ab (.t [.bool ah],.no)
  | _=>ae
 | _=>ae
def tT(g:Nat→Option c6)(q:Nat)(sz bytes:Nat)(x y:V):Option (V × A6):=
 match pW g sz y with
 | none=>ae
 | some (m,ys)=>
  if sz=0 then ae else
  match x with
  | .c (.f .aG)=>if m=0 then ab (.c (.f .aG),.no)else
    if bU m bytes then ab (.c (.sl q 0 m 0 0 sz),.push (.bR sz ys 0 0 .loc))else ae
  | .c (.f .es)=>if m=0 then ab (.c (.f .es),.no)else
    if bU m bytes then ab (.c (.sl q 0 m 0 0 sz),.push (.bR sz ys 0 0 .loc))else ae
  | .c (.sl b o l cap j s)=>match g b with
   | some (.box cs d)=>
    if l+m≤cap then
     if d≤o+l*sz∧o+l*sz+ys.length≤cs.length then ab (.c (.sl b o (l+m) cap j s),.set b (.box (over cs (o+l*sz) ys) d))else ae
    else if bU (l+m) bytes∧o+l*sz≤cs.length then ab (.c (.sl q 0 (l+m) 0 0 sz),.push (.bR sz ((cs.drop o).take (l*sz)++ys) 0 0 .loc))else ae
   | some (.bR s' cs d e st)=>
    if j=e∧s'=sz∧s=sz then
     if m=0 then ab (x,.no)
     else if o=0∧l*sz=cs.length∧d≤cs.length then
      if bU (l+m) bytes then ab (.c (.sl b 0 (l+m) 0 (j+1) sz),.set b (.bR sz (cs++ys) d (e+1) .loc))else ae
     else if st=.loc∧d≤o+l*sz∧o+l*sz+ys.length≤cs.length then
      ab (.c (.sl b o (l+m) 0 j sz),.set b (.bR sz (over cs (o+l*sz) ys) d e .loc))
     else ae
    else ae
   | _=>ae
  | _=>ae
def DH(g:Nat→Option c6)(sz:Nat)(x y:V):Option (V × A6):=
 match pW g sz y,x with
 | some _,.c (.f .aG)=>ab (.int .i64 0,.no)| some _,.c (.f .es)=>ab (.int .i64 0,.no)
 | some (m,ys),.c (.sl b o l _ j s')=>
  let n:=Nat.min m l
  match g b with
  | some (.box cs d)=>if d≤o∧o+n*sz≤cs.length then ab (.int .i64 n,.set b (.box (over cs o (ys.take (n*sz))) d))else ae| some (.bR s cs d e .loc)=>if j=e∧s'=s∧s=sz∧d≤o∧o+n*sz≤cs.length then ab (.int .i64 n,.set b (.bR s (over cs o (ys.take (n*sz))) d e .loc))else ae| _=>ae
 | _,_=>ae
def yO(g:Nat→Option c6)(sz:Nat)(zs:List FC)(x:V):Option A6:=
 match x with
 | .c y=>match sa g y with
  | some 0=>ab .no
  | some l=>
   if zs.length=sz then
    match y with
    | .sl b o _ _ d s=>match g b with
     | some (.box _ _)=>abx g (.ptr b o d) ((cP l zs).map .f)| some (.bR s' _ _ e .loc)=>if d=e∧s=s' then abx g (.ptr b o d) ((cP l zs).map .f)else ae| _=>ae
    | _=>ae
   else ae
  | none=>ae
 | _=>ae
def EN(g:Nat→Option c6)(sz:Nat)(x hi mx:V):Option (V × A6):=
 match tv g sz x ae (ab hi) (ab mx)with
 | some v=>ab (v,.no)
 | none=>match x with
  | .c (.sl b o n _ d s)=>match g b with
   | some (.bR s' cs l e .loc)=>
    if d=e∧s=sz∧s'=sz∧o=0 then
     match CD hi n,CD mx n with
     | some i,ab j=>
      if i=j∧0<i∧i*sz≤cs.length then
       match aZ fcC (cs.take (i*sz))with
       | some ys=>ab (.c (.f (.fs ys i)),.set b (.bR s' cs (Nat.max l (i*sz)) e .loc))| none=>ae
      else ae
     | _,_=>ae
    else ae
   | _=>ae
  | _=>ae
def DA(g:Nat→Option c6)(b:Nat)(sz bytes:Nat)(zs:List FC)(x n:V):Option (V × A6):=
 match dD n with
 | some n=>
  if 0≤n∧zs.length=sz then
   match x with
   | .c (.f .aG)=>if n.toNat=0 then ab (.c (.f .aG),.no)else
     if bU n.toNat bytes then ab (.c (.sl b 0 n.toNat 0 0 sz),.push (.bR sz ((cP n.toNat zs).map .f) 0 0 .loc))else ae
   | .c (.f .es)=>if n.toNat=0 then ab (.c (.f .es),.no)else
     if bU n.toNat bytes then ab (.c (.sl b 0 n.toNat 0 0 sz),.push (.bR sz ((cP n.toNat zs).map .f) 0 0 .loc))else ae
   | _=>ae
  else ae
 | none=>ae
def zl(g:Nat→Option c6):V→Option (V × A6)
 | .c (.mi b)=>match g b with
  | some (.vw m d done)=>match g m with
   | some (.map [])=>if done then ae else ab (.t [.bool ah],.no)| some (.map [e])=>if done then ab (.t [.bool ah],.no)else if d=1 then ab (.t [.bool ag,.c (.f e.1),mV e.2],.set b (.vw m 1 ag))else ae| _=>ae
  | _=>ae
 | _=>ae
def u4(g:Nat→Option c6)(j:Nat):V→Option (V × A6)
 | .c (.mp b)=>match g b with
  | some (.map d)=>if d.length≤1 then ab (.c (.mi j),.push (.vw b d.length ah))else ae| _=>ae
 | _=>ae
def abK(aA:T)(g:Nat→Option c6)(d:Nat):cV→Option (V × A6)
 | .bN x=>ab (x.ev aA,.no)| .pre o sz=>if o=.loc∨sz=0 then ae else ab (.c (.sl d 0 0 0 0 sz),.push (.bR sz [] 0 0 o))
 | .pick c a b=>match c.ev aA with
  | .c (.f (.bool v))=>ab ((if v then a else b).ev aA,.no)| _=>ae
 | .alloc zs=>ab (.c (.ptr d 0 0),.push (.box (zs.map .f) 0))
 | .box x=>match (x.ev aA).cells? with
  | some xs=>ab (.c (.ptr d 0 0),.push (.box xs 0))| none=>ae
 | .build zs ps=>(dw aA (zs.map .f) ps).map fun cs=>(.a cs,.no)
 | .aR sz zs n ps=>
  if n=0 then(if ps.isEmpty then ab (.c (.f .es),.no)else ae)else
  (dw aA ((cP n zs).map .f) (ps.map fun p=>(p.1*sz,sz,p.2))).map fun cs=>(.c (.sl d 0 n n 0 sz),.push (.box cs 0))
 | .load n x=>(akE g n (x.ev aA)).map (·,.no)
 | .store n x y=>match x.ev aA,(y.ev aA).cells? with
  | .c p,ab xs=>if xs.length=n then(abx g p xs).map (.top,·)else ae| _,_=>ae
 | .bE x=>match x.ev aA with
  | .c (.ptr b o e)=>ab (.c (.ptr b o e),.no)| .c (.f (.fp cs o))=>ab (.c (.f (.fp cs o)),.no)| _=>ae
 | .bin B x y=>(bV B (x.ev aA) (y.ev aA)).map (·,.no)| .eq neg k x y=>(aki g k (x.ev aA) (y.ev aA)).map fun b=>(.bool (if neg then !b else b),.no)
 | .un B x=>(unV B (x.ev aA)).map (·,.no)
 | .eX k x=>match x.ev aA with
  | .c (.f (.int _ n))=>ab (.int k (k.wrap n),.no)| _=>ae
 | .yP x=>match x.ev aA with
  | .c (.f (.str s))=>ab (.c (.f (.str s)),.no)| _=>ae
 | .vJ x=>(DI g (x.ev aA)).map (·,.no)
 | .DJ x=>match x.ev aA with
  | .c (.f (.str s))=>if s.size<2 ^ 48 then ab (.c (.sl d 0 s.size 0 0 1),.push (.bR 1 (s.toList.map fun b=>.f (.int .u8 b.toNat)) 0 0 .loc))else ae
  | _=>ae
 | .lz f j=>(aZ sQ (dj aA j)).map fun xs=>(.c (.cl f xs),.no)
 | .kD=>ab (.c (.mp d),.push (.map []))| .lookup q z m k=>(uH g q z (m.ev aA) (k.ev aA)).map (·,.no)
 | .kB q m k v=>match m.ev aA,k.ev aA,su (v.ev aA)with
  | .c (.mp b),.c (.f k),ab v=>match g b with
   | some (.map A)=>if isKey q k then(xJ q k v A).map fun A=>(.top,.set b (.map A))else ae
   | _=>ae
  | _,_,_=>ae
 | .c4 sz bytes zs l c=>match dD (l.ev aA),dD (c.ev aA)with
  | some l,ab c=>
   if 0≤l∧l≤c∧bU c.toNat bytes=ag∧zs.length=sz then
    (if c=0 then ab (.c (.f .es),.no)else
    ab (.c (.sl d 0 l.toNat c.toNat 0 sz),.push (.box ((cP c.toNat zs).map .f) 0)))
   else ae
  | _,_=>ae
 | .slice sz x lo hi mx=>(tv g sz (x.ev aA) (lo.map (·.ev aA)) (hi.map (·.ev aA)) (mx.map (·.ev aA))).map (·,.no)| .lK n sz x lo hi mx=>(zK g n sz (x.ev aA) (lo.map (·.ev aA)) (hi.map (·.ev aA)) (mx.map (·.ev aA))).map (·,.no)| .qM x lo hi=>(vf (x.ev aA) (lo.map (·.ev aA)) (hi.map (·.ev aA))).map (·,.no)| .aC off x=>(jB off (x.ev aA)).map (·,.no)| .field off n x=>(nB off n (x.ev aA)).map (·,.no)| .aS sz u x i=>(uz g sz u (x.ev aA) (i.ev aA)).map (·,.no)| .idxs x i=>(Bv (x.ev aA) (i.ev aA)).map (·,.no)| .qk len sz n x i=>(mM len sz n (x.ev aA) (i.ev aA)).map (·,.no)
 | .range x=>match x.ev aA with
  | .c (.f (.str s))=>ab (.c (.it d),.push (.it s 0))| _=>ae
 | .next x=>Ei g (x.ev aA)
 | .extract x i=>match x.ev aA with
  | .t F=>(F[i]?).map (·,.no)| _=>ae
 | .uD n=>ab (.int .i64 n,.no)
 | .lens x=>match x.ev aA with
  | .c (.f (.str s))=>ab (.int .i64 (s.size:Nat),.no)| _=>ae
 | .len x=>match x.ev aA with
  | .c y=>match sa g y with
   | some n=>ab (.int .i64 (n:Nat),.no)| none=>ae
  | _=>ae
 | .append sz bytes x y=>tT g d sz bytes (x.ev aA) (y.ev aA)| .copy sz x y=>DH g sz (x.ev aA) (y.ev aA)| .mX lo xs=>(NR lo (dj aA xs)).map (·,.no)| .clear sz zs x=>(yO g sz zs (x.ev aA)).map (.t [],·)| .iM sz zs n ps=>((dw aA ((cP n zs).map .f) (ps.map fun p=>(p.1*sz,sz,p.2))).bind fun cs=>if n=0 then ae else fcL cs).map fun E=>(.c (.f (.fs E n)),.no)
 | .vY sz x hi mx=>EN g sz (x.ev aA) (hi.ev aA) (mx.ev aA)| .sO sz bytes zs x n=>DA g d sz bytes zs (x.ev aA) (n.ev aA)| .mw x=>u4 g d (x.ev aA)| .qy x=>zl g (x.ev aA)| .entry x=>(yS g (x.ev aA)).map (·,.no)| .vN f xs=>(aZ sQ (dj aA xs)).map fun xs=>(.c (.bm f xs),.no)
 | .cap x=>match x.ev aA with
  | .c y=>match EK g y with
   | some n=>ab (.int .i64 (n:Nat),.no)| none=>ae
  | _=>ae
 | _=>ae
def gt(H:an):Nat→Option c6:=fun b=>H[b]?
theorem Bk(H:an):tX (gt H)=aF H:=by funext x;unfold tX aF gt;rfl
theorem af_(H:an):akE (gt H)=aV H:=by funext n x;unfold akE aV;rw [Bk];rfl
theorem oN(H:an):sa (gt H)=bJ H:=by funext x;unfold sa bJ gt;rfl
theorem sI(H:an):qL (gt H)=cS H:=by funext n x;unfold qL cS gt;rfl
theorem Nz(H:an):rN (gt H)=isNil H:=by funext k x;unfold rN isNil gt;rfl
theorem afE(H:an):aki (gt H)=z6 H:=by funext k x y;unfold aki z6;rw [Nz];rfl
theorem ve(H:an):tv (gt H)=fH H:=by funext n x a b c;unfold tv fH gt;rfl
theorem EL(H:an):zK (gt H)=jt H:=by funext m n x a b c;unfold zK jt gt;rfl
theorem Bx(H:an):uz (gt H)=aL H:=by funext n a x i;unfold uz aL gt;rfl
theorem BD(H:an):uH (gt H)=gw H:=by funext k z x y;unfold uH gw gt;rfl
theorem Nd(H:an):DI (gt H)=oX H:=by funext x;unfold DI oX;rw [oN,sI];rfl
theorem o8(H:an):pW (gt H)=cX H:=by funext n x;unfold pW cX;rw [oN,sI];rfl
theorem On(H:an):EK (gt H)=mR H:=by funext x;unfold EK mR gt;rfl
theorem DK(H:an):yS (gt H)=lW H:=by funext x;unfold yS lW gt;rfl
def jT(H:an)(r:Option (V × A6)):Option (V × an):=r.map fun r=>(r.1,r.2.app H)
theorem zM(H:an)(x:C)(xs:List C):(abx (gt H) x xs).map (·.app H)=dn H x xs:=by
 cases x with
 | ptr b off g=>
  simp only [abx,dn,gt];cases h:H[b]? with
  | none=>rfl
  | some bp=>
   cases bp with
   | box cs d=>simp only;split<;>rfl
   | bR sz cs d e st=>cases st<;>simp only<;>first | rfl | (split<;>rfl)
   | _=>rfl
 | _=>rfl
theorem NZ(H:an)(x:V):jT H (Ei (gt H) x)=FW H x:=by
 cases x with
 | c x=>
  cases x with
  | it b=>
   simp only [Ei,FW,gt,jT];cases h:H[b]? with
   | none=>rfl
   | some bp=>
    cases bp with
    | it s pos=>simp only;split<;>rfl
    | _=>rfl
  | _=>rfl
 | _=>rfl
theorem Nc(H:an)(sz:Nat)(x y:V):jT H (DH (gt H) sz x y)=copyV H sz x y:=by
 unfold DH copyV jT;rw [o8];cases j:cX H sz y with
 | none=>rfl
 | some r=>
  obtain⟨m,ys⟩:=r;cases x with
  | c x=>
   cases x with
   | f x=>cases x<;>rfl
   | sl b o l cap g s=>
    simp only [gt];cases h:H[b]? with
    | none=>rfl
    | some bp=>
     cases bp with
     | box cs d=>simp only;split<;>rfl
     | bR sz cs d e st=>cases st<;>simp only<;>first | rfl | (split<;>rfl)
     | _=>rfl
   | _=>rfl
  | _=>rfl
theorem Ba(H:an)(sz bytes:Nat)(x y:V):jT H (tT (gt H) H.length sz bytes x y)=bK H sz bytes x y:=by
 unfold tT bK jT;rw [o8];cases q:cX H sz y with
 | none=>rfl
 | some r=>
  obtain⟨m,ys⟩:=r;simp only;by_cases d:sz=0
  ·simp [d]
  ·simp only [d,if_false];cases x with
   | c x=>
    cases x with
    | f x=>cases x<;>first | rfl | (simp only;repeat' (first | rfl | split))
    | sl b o l cap j s=>
     simp only [gt];cases h:H[b]? with
     | none=>rfl
     | some bp=>
      cases bp with
      | box cs g=>simp only;repeat' (first | rfl | split)
      | bR sz cs g e st=>simp only;repeat' (first | rfl | split)
      | _=>rfl
    | _=>rfl
   | _=>rfl
theorem DF(H:an)(sz:Nat)(zs:List FC)(x:V):(yO (gt H) sz zs x).map (·.app H)=t_ H sz zs x:=by
 unfold yO t_;cases x with
 | c y=>
  simp only [oN];cases bJ H y with
  | none=>rfl
  | some l=>
   cases l with
   | zero=>rfl
   | succ l=>
    simp only;split
    ·cases y with
     | sl b o j c g s=>
      simp only [gt];cases h:H[b]? with
      | none=>rfl
      | some bp=>
       cases bp with
       | box cs d=>exact zM H _ _
       | bR s' cs d e st=>
        cases st<;>simp only<;>first | rfl | skip
        split
        ·exact zM H _ _
        ·rfl
       | _=>rfl
     | _=>rfl
    ·rfl
 | _=>rfl
theorem M4(H:an)(sz bytes:Nat)(zs:List FC)(x n:V):jT H (DA (gt H) H.length sz bytes zs x n)=Fl H sz bytes zs x n:=by
 unfold DA Fl jT;cases dD n with
 | none=>rfl
 | some n=>
  simp only;split
  ·cases x with
   | c x=>
    cases x with
    | f x=>cases x<;>first | rfl | (simp only;repeat' (first | rfl | split))
    | _=>rfl
   | _=>rfl
  ·rfl
theorem Ot(H:an)(sz:Nat)(x hi mx:V):jT H (EN (gt H) sz x hi mx)=Cj H sz x hi mx:=by
 unfold EN Cj jT;rw [ve];cases fH H sz x ae (ab hi) (ab mx)with
 | some v=>rfl
 | none=>
  simp only;cases x with
  | c x=>
   cases x with
   | sl b o n c d s=>
    simp only [gt];cases H[b]? with
    | none=>rfl
    | some bp=>
     cases bp with
     | bR s' cs g e st=>
      cases st<;>simp only<;>first | rfl | skip
      split
      ·cases CD hi n<;>cases CD mx n<;>simp only<;>first | rfl | skip
       split
       ·cases aZ fcC (List.take _ cs)<;>rfl
       ·rfl
      ·rfl
     | _=>rfl
   | _=>rfl
  | _=>rfl
theorem Ej(H:an)(x:V):jT H (zl (gt H) x)=zk H x:=by
 cases x with
 | c x=>
  cases x with
  | mi b=>
   simp only [zl,zk,gt,jT];cases h:H[b]? with
   | none=>rfl
   | some bp=>
    cases bp with
    | vw m g done=>
     simp only;cases l:H[m]? with
     | none=>rfl
     | some d=>
      cases d with
      | map j=>
       match j with
       | []=>simp only;split<;>rfl
       | [e]=>simp only;repeat' (first | rfl | split)
       | _::_::_=>rfl
      | _=>rfl
    | _=>rfl
  | _=>rfl
 | _=>rfl
theorem B5(H:an)(x:V):jT H (u4 (gt H) H.length x)=tn H x:=by
 cases x with
 | c x=>
  cases x with
  | mp b=>
   simp only [u4,tn,gt,jT];cases h:H[b]? with
   | none=>rfl
   | some bp=>
    cases bp with
    | map d=>simp only;split<;>rfl
    | _=>rfl
  | _=>rfl
 | _=>rfl
theorem Fk{H:an}(o:Option V):jT H (o.map (·,.no))=o.map (·,H):=by cases o<;>rfl
theorem zX(aA:T)(H:an)(g:cV):jT H (abK aA (gt H) H.length g)=bu aA H g:=by
 cases g<;>simp only [abK,bu,Fk,af_,ve,EL,Bx,BD,Nd,Ba,Nc,NZ,M4,Ot,Ej,B5,DK]
 all_goals first | rfl | skip
 case pre o sz=>split<;>rfl
 case pick c a b=>
  generalize c.ev aA=v;cases v<;>try rfl
  rename_i x;cases x<;>try rfl
  rename_i x;cases x<;>rfl
 case box x=>generalize (x.ev aA).cells?=o;cases o<;>rfl
 case build zs ps=>cases dw aA (zs.map .f) ps<;>rfl
 case aR sz zs n ps=>
  split
  ·split<;>rfl
  ·simp only [jT,avf];rfl
 case iM sz zs n ps=>
  generalize (dw aA ((cP n zs).map .f) (ps.map fun p=>(p.1*sz,sz,p.2))).bind (fun cs=>if n=0 then ae else fcL cs)=o;cases o<;>rfl
 case store n x y=>
  generalize x.ev aA=v;generalize (y.ev aA).cells?=o;cases v<;>cases o<;>try rfl
  simp only;split
  ·rw [←zM];simp only [jT,avf];rfl
  ·rfl
 case bE x=>
  generalize x.ev aA=v;cases v<;>try rfl
  rename_i x;cases x<;>try rfl
  rename_i x;cases x<;>rfl
 case eq neg k x y=>rw [afE];simp only [jT,avf];rfl
 case eX k x=>
  generalize x.ev aA=v;cases v<;>try rfl
  rename_i x;cases x<;>try rfl
  rename_i x;cases x<;>rfl
 case yP x=>
  generalize x.ev aA=v;cases v<;>try rfl
  rename_i x;cases x<;>try rfl
  rename_i x;cases x<;>rfl
 case DJ x=>
  generalize x.ev aA=v;cases v<;>try rfl
  rename_i x;cases x<;>try rfl
  rename_i x;cases x<;>try rfl
  simp only;split<;>rfl
 case lz f d=>simp only [jT,avf];rfl
 case kB j m k v=>
  generalize m.ev aA=m;generalize k.ev aA=k;generalize su (v.ev aA)=v;cases m<;>try rfl
  rename_i m;cases m<;>try rfl
  cases k<;>try rfl
  rename_i k;cases k<;>try rfl
  cases v<;>try rfl
  simp only [gt];rename_i b k v;cases H[b]? with
  | none=>rfl
  | some bp=>
   cases bp<;>try rfl
   simp only;split
   ·simp only [jT,avf];rfl
   ·rfl
 case c4 sz bytes zs l c=>
  generalize dD (l.ev aA)=l;generalize dD (c.ev aA)=c;cases l<;>cases c<;>try rfl
  simp only;split
  ·split<;>rfl
  ·rfl
 case range x=>
  generalize x.ev aA=v;cases v<;>try rfl
  rename_i x;cases x<;>try rfl
  rename_i x;cases x<;>rfl
 case extract x i=>
  generalize x.ev aA=v;cases v<;>try rfl
  simp only [Fk]
 case len x=>
  generalize x.ev aA=v;cases v<;>try rfl
  rw [oN];simp only;rename_i y;cases bJ H y<;>rfl
 case lens x=>
  generalize x.ev aA=v;cases v<;>try rfl
  rename_i x;cases x<;>try rfl
  rename_i x;cases x<;>rfl
 case clear sz zs x=>rw [←DF];simp only [jT,avf];rfl
 case vN f d=>simp only [jT,avf];rfl
 case cap x=>
  generalize x.ev aA=v;cases v<;>try rfl
  rw [On];simp only;rename_i y;cases mR H y<;>rfl
section
set_option linter.unusedVariables false
inductive BT(α:Type) where
 | e
 | n (l:BT α) (x:α) (r:BT α)
def BT.get{d:Type}:BT d→Nat→Option d
 | .e,_=>ae
 | .n l x r,b=>match b with
  | 0=>ab x| m+1=>if m % 2=0 then l.get (m / 2)else r.get (m / 2)
abbrev HT:=BT c6
def gn{j:Type}(b:Nat)(t:BT j)(k:j→Prop):Prop:=
 BT.rec (motive:=fun _=>Nat→Prop) (fun _=>False)
  (fun _ x _ d g b=>Nat.rec (motive:=fun _=>Prop) (k x) (fun m _=>Nat.rec (motive:=fun _=>Prop) (d (Nat.div m 2)) (fun _ _=>g (Nat.div m 2)) (Nat.mod m 2)) b) t b
def gq{d:Type}(x:d)(t:BT d):Nat→(BT d→Prop)→Prop:=
 BT.rec (motive:=fun _=>Nat→(BT d→Prop)→Prop) (fun _ _=>False)
  (fun l y r g j b k=>Nat.rec (motive:=fun _=>Prop) (k (.n l x r))
   (fun m _=>Nat.rec (motive:=fun _=>Prop) (g (Nat.div m 2) fun q=>k (.n q y r)) (fun _ _=>j (Nat.div m 2) fun r'=>k (.n l y r')) (Nat.mod m 2)) b) t
def yK{d:Type}(x:d)(t:BT d):Nat→(BT d→Prop)→Prop:=
 BT.rec (motive:=fun _=>Nat→(BT d→Prop)→Prop) (fun b k=>Nat.rec (motive:=fun _=>Prop) (k (.n .e x .e)) (fun _ _=>False) b)
  (fun l y r g j b k=>Nat.rec (motive:=fun _=>Prop) False
   (fun m _=>Nat.rec (motive:=fun _=>Prop) (g (Nat.div m 2) fun q=>k (.n q y r)) (fun _ _=>j (Nat.div m 2) fun r'=>k (.n l y r')) (Nat.mod m 2)) b) t
theorem aas(m:Nat):m % 2=0∨m % 2=1:=by omega
theorem dq{u:Type}{t:BT u}:∀ {b:Nat} {k:u→Prop},gn b t k→∃ x,t.get b=ab x∧k x:=by
 induction t with
 | e=>intro b k h;exact h.elim
 | n l x r q s=>
  intro b k h;cases b with
  | zero=>exact⟨x,rfl,h⟩
  | succ m=>
   have j:Nat.rec (motive:=fun _=>Prop) (gn (m / 2) l k) (fun _ _=>gn (m / 2) r k) (m % 2):=h;rcases aas m with e | e<;>rw [e]at j
   ·obtain⟨y,d,g⟩:=q j;exact⟨y,by simp [BT.get,e,d],g⟩
   ·obtain⟨y,d,g⟩:=s j;exact⟨y,by simp [BT.get,e,d],g⟩
def oV{d:Type}(t g:BT d)(b:Nat)(x:d):Prop:=∀ i,g.get i=if i=b then ab x else t.get i
theorem oV.left{g:Type}{l d r:BT g}{y x:g}{m:Nat}(e:m % 2=0)(h:oV l d (m / 2) x):oV (.n l y r) (.n d y r) (m+1) x:=by
 intro i;cases i with
 | zero=>simp [BT.get]
 | succ j=>
  simp only [BT.get,h (j / 2)];rcases aas j with b | b
  ·have:(j / 2=m / 2)↔(j=m):=by omega
   simp [b,this]
  ·have:j≠m:=by omega
   simp [b,this]
theorem oV.right{d:Type}{l r' r:BT d}{y x:d}{m:Nat}(e:m % 2=1)(h:oV r r' (m / 2) x):oV (.n l y r) (.n l y r') (m+1) x:=by
 intro i;cases i with
 | zero=>simp [BT.get]
 | succ j=>
  simp only [BT.get,h (j / 2)];rcases aas j with b | b
  ·have:j≠m:=by omega
   simp [b,this]
  ·have:(j / 2=m / 2)↔(j=m):=by omega
   simp [b,this]
theorem ZA{A:Type}{x:A}{t:BT A}:∀ {b:Nat} {k:BT A→Prop},gq x t b k→∃ B,oV t B b x∧(∃ y,t.get b=ab y)∧k B:=by
 induction t with
 | e=>intro b k h;exact h.elim
 | n l y r s u=>
  intro b k h;cases b with
  | zero=>
   refine⟨.n l x r,fun i=>?_,⟨y,rfl⟩,h⟩;cases i<;>simp [BT.get]
  | succ m=>
   have q:Nat.rec (motive:=fun _=>Prop) (gq x l (m / 2) fun v=>k (.n v y r)) (fun _ _=>gq x r (m / 2) fun r'=>k (.n l y r')) (m % 2):=h;rcases aas m with e | e<;>rw [e]at q
   ·obtain⟨v,d,⟨z,g⟩,j⟩:=s q;exact⟨_,d.left e,⟨z,by simp [BT.get,e,g]⟩,j⟩
   ·obtain⟨v,d,⟨z,g⟩,j⟩:=u q;exact⟨_,d.right e,⟨z,by simp [BT.get,e,g]⟩,j⟩
theorem M7{v:Type}{x:v}{t:BT v}:∀ {b:Nat} {k:BT v→Prop},yK x t b k→∃ z,oV t z b x∧k z:=by
 induction t with
 | e=>
  intro b k h;cases b with
  | zero=>
   refine⟨.n .e x .e,fun i=>?_,h⟩;cases i<;>simp [BT.get]
  | succ m=>exact h.elim
 | n l y r q s=>
  intro b k h;cases b with
  | zero=>exact h.elim
  | succ m=>
   have j:Nat.rec (motive:=fun _=>Prop) (yK x l (m / 2) fun u=>k (.n u y r)) (fun _ _=>yK x r (m / 2) fun r'=>k (.n l y r')) (m % 2):=h;rcases aas m with e | e<;>rw [e]at j
   ·obtain⟨u,d,g⟩:=q j;exact⟨_,d.left e,g⟩
   ·obtain⟨u,d,g⟩:=s j;exact⟨_,d.right e,g⟩
def c7(H:an)(t:HT):Prop:=t.get=gt H
theorem c7.nil:c7 [] .e:=by funext b;simp [BT.get,gt]
theorem c7.set{H:an}{t g:HT}(h:c7 H t){b:Nat}{x:c6}(l:oV t g b x)(j:∃ y,t.get b=ab y):c7 (H.set b x) g:=by
 funext i;obtain⟨y,hy⟩:=j;rw [h]at hy;have d:b<H.length:=(BY.1 hy).1;rw [l i,h];simp only [gt];by_cases e:i=b
 ·subst e;simp [d]
 ·simp [e,By (Ne.symm e)]
theorem c7.push{H:an}{t b:HT}(h:c7 H t){x:c6}(d:oV t b H.length x):c7 (H++[x]) b:=by
 funext i;rw [d i,h];simp only [gt];by_cases e:i=H.length
 ·subst e;simp
 ·by_cases hi:i<H.length
  ·simp [e,List.getElem?_append_left hi]
  ·rw [at1 (by omega)];have:i-H.length≠0:=by omega
   simp [e,avk (l:=H) (i:=i) (by omega),this]
def cd(n:Nat)(k:Nat→Prop):Prop:=Nat.rec (motive:=fun _=>Prop) (k 0) (fun m _=>k (Nat.succ m)) n
def rF(n:Int)(k:Int→Prop):Prop:=Int.rec (motive:=fun _=>Prop) (fun n=>cd n fun n=>k (.ofNat n)) (fun n=>cd n fun n=>k (.negSucc n)) n
def nE(b:Bool)(k:Bool→Prop):Prop:=Bool.rec (motive:=fun _=>Prop) (k ah) (k ag) b
theorem cq(n:Nat)(k:Nat→Prop):cd n k=k n:=by cases n<;>rfl
theorem xj(n:Int)(k:Int→Prop):rF n k=k n:=by cases n<;>simp only [rF,cq]
theorem iL(b:Bool)(k:Bool→Prop):nE b k=k b:=by cases b<;>rfl
def DO(x:FC)(k:FC→Prop):Prop:=match x with
 | .bool b=>nE b fun b=>k (.bool b)
 | .int j n=>rF n fun n=>k (.int j n)
 | .fp cs o=>cd o fun o=>k (.fp cs o)
 | .fs cs l=>cd l fun l=>k (.fs cs l)
 | x=>k x
theorem Ns(x:FC)(k:FC→Prop):DO x k=k x:=by cases x<;>simp only [DO,cq,xj,iL]
def rD(x:C)(k:C→Prop):Prop:=match x with
 | .f x=>DO x fun x=>k (.f x)
 | .ptr b o e=>cd b fun b=>cd o fun o=>cd e fun e=>k (.ptr b o e)
 | .sl b o l c e s=>cd b fun b=>cd o fun o=>cd l fun l=>cd c fun c=>cd e fun e=>cd s fun s=>k (.sl b o l c e s)
 | x=>k x
theorem rE(x:C)(k:C→Prop):rD x k=k x:=by cases x<;>simp only [rD,cq,Ns]
def nF(xs:List C):(List C→Prop)→Prop:=
 List.rec (motive:=fun _=>(List C→Prop)→Prop) (fun k=>k []) (fun x _ b k=>rD x fun x=>b fun xs=>k (x::xs)) xs
theorem lf:∀(xs:List C) (k:List C→Prop),nF xs k=k xs
 | [],k=>rfl
 | x::xs,k=>by
  show rD x (fun x=>nF xs fun xs=>k (x::xs))=_;rw [rE,lf xs]
def te(v:V)(k:V→Prop):Prop:=match v with
 | .c x=>rD x fun x=>k (.c x)
 | .a xs=>nF xs fun xs=>k (.a xs)
 | v=>k v
theorem DP(v:V)(k:V→Prop):te v k=k v:=by cases v<;>simp only [te,rE,lf]
def yW(xs:List V):(List V→Prop)→Prop:=
 List.rec (motive:=fun _=>(List V→Prop)→Prop) (fun k=>k []) (fun x _ b k=>te x fun x=>b fun xs=>k (x::xs)) xs
theorem uq:∀(xs:List V) (k:List V→Prop),yW xs k=k xs
 | [],k=>rfl
 | x::xs,k=>by
  show te x (fun x=>yW xs fun xs=>k (x::xs))=_;rw [DP,uq xs]
def lZ(v:V)(k:V→Prop):Prop:=match v with
 | .c x=>rD x fun x=>k (.c x)
 | .a xs=>nF xs fun xs=>k (.a xs)
 | .t b=>yW b fun b=>k (.t b)
 | .top=>k .top
theorem rG(v:V)(k:V→Prop):lZ v k=k v:=by cases v<;>simp only [lZ,rE,lf,uq]
def rH(x:c6)(k:c6→Prop):Prop:=match x with
 | .box cs b=>nF cs fun cs=>cd b fun b=>k (.box cs b)
 | .bR sz cs b e st=>nF cs fun cs=>cd b fun b=>cd e fun e=>k (.bR sz cs b e st)
 | .it s p=>cd p fun p=>k (.it s p)
 | x=>k x
theorem xk(x:c6)(k:c6→Prop):rH x k=k x:=by cases x<;>simp only [rH,cq,lf]
def Bu(p:P):T→(V→Prop)→Prop:=
 P.rec (motive:=fun _=>T→(V→Prop)→Prop)
  (fun t k=>T.rec (motive:=fun _=>Prop) (k .top) (fun _ v _ _ _=>k v) t)
  (fun _ b t k=>T.rec (motive:=fun _=>Prop) (k .top) (fun l _ _ _ _=>b l k) t)
  (fun _ b t k=>T.rec (motive:=fun _=>Prop) (k .top) (fun _ _ r _ _=>b r k) t) p
theorem oA:∀(p:P) (t:T) (k:V→Prop),Bu p t k=k (t.get p)
 | .h,.e,k=>rfl| .h,.n _ _ _,k=>rfl| .o p,.e,k=>rfl| .o p,.n l _ _,k=>oA p l k| .i p,.e,k=>rfl| .i p,.n _ _ r,k=>oA p r k
def ahs(p:P)(w:V):T→(T→Prop)→Prop:=
 P.rec (motive:=fun _=>T→(T→Prop)→Prop)
  (fun t k=>T.rec (motive:=fun _=>Prop) (k (.n .e w .e)) (fun l _ r _ _=>k (.n l w r)) t)
  (fun _ b t k=>T.rec (motive:=fun _=>Prop) (b .e fun l=>k (.n l .top .e)) (fun l v r _ _=>b l fun l=>k (.n l v r)) t)
  (fun _ b t k=>T.rec (motive:=fun _=>Prop) (b .e fun r=>k (.n .e .top r)) (fun l v r _ _=>b r fun r=>k (.n l v r)) t) p
theorem oM(w:V):∀(p:P) (t:T) (k:T→Prop),ahs p w t k=k (t.set p w)
 | .h,.e,k=>rfl| .h,.n _ _ _,k=>rfl| .o p,.e,k=>oM w p .e _| .o p,.n l _ _,k=>oM w p l _| .i p,.e,k=>oM w p .e _| .i p,.n _ _ r,k=>oM w p r _
def qd(x:Arg)(r:T)(k:V→Prop):Prop:=Arg.rec (motive:=fun _=>Prop) (fun p=>Bu p r k) (fun v=>k v) x
theorem dh(x:Arg)(r:T)(k:V→Prop):qd x r k=k (x.ev r):=by cases x;exact oA _ _ _;rfl
def Bc(xs:List Arg)(r:T):(List V→Prop)→Prop:=
 List.rec (motive:=fun _=>(List V→Prop)→Prop) (fun k=>k []) (fun x _ b k=>qd x r fun v=>b fun d=>k (v::d)) xs
theorem pX(r:T):∀(xs:List Arg) (k:List V→Prop),Bc xs r k=k (dj r xs)
 | [],k=>rfl
 | x::xs,k=>by
  show qd x r (fun v=>Bc xs r fun b=>k (v::b))=_;rw [dh,pX r xs];rfl
def ame(d:Option P)(r:T)(v:V)(k:T→Prop):Prop:=Option.rec (motive:=fun _=>Prop) (k r) (fun d=>ahs d v r k) d
theorem Gg(d:Option P)(r:T)(v:V)(k:T→Prop):ame d r v k=k (ka r d v):=by cases d;rfl;exact oM _ _ _ _
def tt(ps:List P):List V→T→(T→Prop)→Prop:=
 List.rec (motive:=fun _=>List V→T→(T→Prop)→Prop) (fun _ r k=>k r)
  (fun p _ d b r k=>List.rec (motive:=fun _=>Prop) (k r) (fun v b _=>ahs p v r fun r=>d b r k) b) ps
theorem pz:∀(ps:List P) (b:List V) (r:T) (k:T→Prop),tt ps b r k=k (cM ps b r)
 | [],b,r,k=>by cases b<;>rfl
 | p::ps,[],r,k=>rfl
 | p::ps,v::b,r,k=>by
  show ahs p v r (fun r=>tt ps b r k)=_;rw [oM,pz ps];rfl
def ags{b:Type}(n:Nat):List b→(b→Prop)→Prop:=
 Nat.rec (motive:=fun _=>List b→(b→Prop)→Prop) (fun xs k=>List.rec (motive:=fun _=>Prop) False (fun x _ _=>k x) xs)
  (fun _ d xs k=>List.rec (motive:=fun _=>Prop) False (fun _ xs _=>d xs k) xs) n
theorem th{b:Type}:∀ {n:Nat} {xs:List b} {k:b→Prop},ags n xs k→∃ x,xs[n]?=ab x∧k x
 | 0,[],_,h=>h.elim| 0,x::_,_,h=>⟨x,rfl,h⟩| n+1,[],_,h=>h.elim| n+1,_::xs,k,h=>th (n:=n) (xs:=xs) (k:=k) h
def uf{b:Type}(n:Nat):List b→(List b→Prop)→Prop:=
 Nat.rec (motive:=fun _=>List b→(List b→Prop)→Prop) (fun xs k=>k xs)
  (fun _ d xs k=>List.rec (motive:=fun _=>Prop) (k []) (fun _ xs _=>d xs k) xs) n
theorem ny{b:Type}:∀(n:Nat) (xs:List b) (k:List b→Prop),uf n xs k=k (xs.drop n)
 | 0,xs,k=>rfl| n+1,[],k=>rfl| n+1,_::xs,k=>ny n xs k
def rA{b:Type}(n:Nat):List b→(List b→Prop)→Prop:=
 Nat.rec (motive:=fun _=>List b→(List b→Prop)→Prop) (fun xs k=>k xs)
  (fun _ d xs k=>List.rec (motive:=fun _=>Prop) False (fun _ xs _=>d xs k) xs) n
theorem jP{b:Type}:∀ {n:Nat} {xs:List b} {k:List b→Prop},rA n xs k→n≤xs.length∧k (xs.drop n)
 | 0,xs,k,h=>⟨by simp,h⟩
 | n+1,[],k,h=>h.elim
 | n+1,x::xs,k,h=>by
  obtain⟨g,d⟩:=jP (n:=n) (xs:=xs) (k:=k) h;exact⟨by simp;omega,d⟩
def mU{b:Type}(n:Nat):List b→(List b→Prop)→Prop:=
 Nat.rec (motive:=fun _=>List b→(List b→Prop)→Prop) (fun _ k=>k [])
  (fun _ d xs k=>List.rec (motive:=fun _=>Prop) False (fun x xs _=>d xs fun ys=>k (x::ys)) xs) n
theorem fM{b:Type}:∀ {n:Nat} {xs:List b} {k:List b→Prop},mU n xs k→n≤xs.length∧k (xs.take n)
 | 0,xs,k,h=>⟨by simp,by have d:k []:=h;simpa using d⟩
 | n+1,[],k,h=>h.elim
 | n+1,x::xs,k,h=>by
  obtain⟨j,g⟩:=fM (n:=n) (xs:=xs) (k:=fun ys=>k (x::ys)) h;exact⟨by simp;omega,by simpa using g⟩
def aov{b:Type}(xs:List b):List b→(List b→Prop)→Prop:=
 List.rec (motive:=fun _=>List b→(List b→Prop)→Prop) (fun cs k=>k cs)
  (fun x _ d cs k=>List.rec (motive:=fun _=>Prop) False (fun _ cs _=>d cs fun ys=>k (x::ys)) cs) xs
theorem FN{b:Type}:∀ {xs cs:List b} {k:List b→Prop},aov xs cs k→xs.length≤cs.length∧k (xs++cs.drop xs.length)
 | [],cs,k,h=>⟨by simp,by have d:k cs:=h;simpa using d⟩
 | x::xs,[],k,h=>h.elim
 | x::xs,c::cs,k,h=>by
  obtain⟨j,g⟩:=FN (xs:=xs) (cs:=cs) (k:=fun ys=>k (x::ys)) h;exact⟨by simp;omega,by simpa using g⟩
def uT{b:Type}(xs:List b)(off:Nat):List b→(List b→Prop)→Prop:=
 Nat.rec (motive:=fun _=>List b→(List b→Prop)→Prop) (fun cs k=>aov xs cs k)
  (fun _ d cs k=>List.rec (motive:=fun _=>Prop) False (fun c cs _=>d cs fun ys=>k (c::ys)) cs) off
theorem lD{d:Type}{xs:List d}:∀ {off:Nat} {cs:List d} {k:List d→Prop},uT xs off cs k→off+xs.length≤cs.length∧k (over cs off xs)
 | 0,cs,k,h=>by
  obtain⟨g,b⟩:=FN (xs:=xs) (cs:=cs) (k:=k) h;exact⟨by omega,by simpa [over]using b⟩
 | n+1,[],k,h=>h.elim
 | n+1,c::cs,k,h=>by
  obtain⟨g,b⟩:=lD (off:=n) (cs:=cs) (k:=fun ys=>k (c::ys)) h;refine⟨by simp;omega,?_⟩;have:n+1+xs.length=(n+xs.length)+1:=by omega
  simpa [over,this]using b
def akb{b:Type}(xs ys:List b):(List b→Prop)→Prop:=
 List.rec (motive:=fun _=>(List b→Prop)→Prop) (fun k=>k ys) (fun x _ d k=>d fun zs=>k (x::zs)) xs
theorem yN{b:Type}(ys:List b):∀(xs:List b) (k:List b→Prop),akb xs ys k=k (xs++ys)
 | [],k=>rfl| x::xs,k=>yN ys xs fun zs=>k (x::zs)
def fzK(zs:List FC):(List C→Prop)→Prop:=
 List.rec (motive:=fun _=>(List C→Prop)→Prop) (fun k=>k []) (fun z _ b k=>b fun cs=>k (.f z::cs)) zs
theorem rI:∀(zs:List FC) (k:List C→Prop),fzK zs k=k (zs.map .f)
 | [],k=>rfl| z::zs,k=>rI zs fun cs=>k (.f z::cs)
def ltB:Int→Int→Bool
 | .ofNat a,.ofNat b=>Nat.ble (Nat.succ a) b| .ofNat _,.negSucc _=>ah| .negSucc _,.ofNat _=>ag| .negSucc a,.negSucc b=>Nat.ble (Nat.succ b) a
theorem ze(x y:Int):ltB x y=decide (x<y):=by
 have e:∀ n:Nat,Int.ofNat n=(n:Int):=fun _=>rfl;cases x<;>cases y<;>simp only [ltB]<;>rw [Bool.eq_iff_iff]<;>simp only [Nat.ble_eq,decide_eq_true_eq,atY,false_iff,true_iff,e,Nat.succ_eq_add_one]<;>omega
def eqB:Int→Int→Bool
 | .ofNat a,.ofNat b=>Nat.beq a b| .negSucc a,.negSucc b=>Nat.beq a b| _,_=>ah
theorem ZV(x y:Int):eqB x y=(x == y):=by
 have e:∀ n:Nat,Int.ofNat n=(n:Int):=fun _=>rfl;cases x<;>cases y<;>simp only [eqB]<;>rw [Bool.eq_iff_iff]<;>simp only [Nat.beq_eq,beq_iff_eq,atY,false_iff,e]<;>omega
def yh(j:IntKind)(n:Int)(k:Int→Prop):Prop:=match j with
 | .i64=>Int.rec (motive:=fun _=>Prop)
   (fun n=>cd n fun n=>Bool.rec (motive:=fun _=>Prop) (rF (IntKind.i64.wrap (.ofNat n)) k) (k (.ofNat n)) (Nat.ble n 9223372036854775807))
   (fun n=>cd n fun n=>Bool.rec (motive:=fun _=>Prop) (rF (IntKind.i64.wrap (.negSucc n)) k) (k (.negSucc n)) (Nat.ble n 9223372036854775807)) n
 | j=>rF (j.wrap n) k
theorem ye{n:Int}(g:-9223372036854775808≤n)(j:n≤9223372036854775807):IntKind.i64.wrap n=n:=by
 simp only [IntKind.wrap,IntKind.bits,IntKind.signed];have b:(2 ^ 64:Int)=18446744073709551616:=by decide
 have d:(2 ^ (64-1):Int)=9223372036854775808:=by decide
 simp only [b,d,Bool.true_and,decide_eq_true_eq];split<;>omega
theorem qR(j:IntKind)(n:Int)(k:Int→Prop):yh j n k=k (j.wrap n):=by
 cases j<;>simp only [yh,xj];cases n with
 | ofNat n=>
  simp only [cq];cases h:Nat.ble n 9223372036854775807 with
  | false=>rfl
  | true=>
   have:=auL h;have e:Int.ofNat n=(n:Int):=rfl;rw [ye (by rw [e];omega) (by rw [e];omega)]
 | negSucc n=>
  simp only [cq];cases h:Nat.ble n 9223372036854775807 with
  | false=>rfl
  | true=>
   have:=auL h;rw [ye (by omega) (by omega)]
end
section
set_option linter.unusedVariables false
def jd(a b:Nat)(p:Prop):Prop:=Bool.rec (motive:=fun _=>Prop) False p (Nat.beq a b)
def sP(a b:Nat)(p:Prop):Prop:=Bool.rec (motive:=fun _=>Prop) False p (Nat.ble a b)
def sm(b:Bool)(p:Prop):Prop:=Bool.rec (motive:=fun _=>Prop) False p b
def rU{b:Type}(o:Option b)(k:b→Prop):Prop:=Option.rec (motive:=fun _=>Prop) False k o
theorem cY{a b:Nat}{p:Prop}(h:jd a b p):a=b∧p:=by
 unfold jd at h;cases e:Nat.beq a b with
 | false=>rw [e]at h;exact h.elim| true=>rw [e]at h;exact⟨au2 e,h⟩
theorem iR{a b:Nat}{p:Prop}(h:sP a b p):a≤b∧p:=by
 unfold sP at h;cases e:Nat.ble a b with
 | false=>rw [e]at h;exact h.elim| true=>rw [e]at h;exact⟨auL e,h⟩
theorem nv{b:Bool}{p:Prop}(h:sm b p):b=ag∧p:=by cases b;exact h.elim;exact⟨rfl,h⟩
theorem kF{b:Type}{o:Option b}{k:b→Prop}(h:rU o k):∃ x,o=ab x∧k x:=by cases o;exact h.elim;exact⟨_,rfl,h⟩
def oY(x:c6)(t:HT)(n:Nat)(k:HT→Nat→Prop):Prop:=yK x t n fun t=>cd (Nat.succ n) fun n=>k t n
theorem jj{H:an}{t:HT}(h:c7 H t){x:c6}{k:HT→Nat→Prop}(j:oY x t H.length k):∃ b,c7 (H++[x]) b∧k b (H++[x]).length:=by
 obtain⟨b,g,d⟩:=M7 j;rw [cq]at d;exact⟨b,h.push g,by simpa using d⟩
theorem dW{H:an}{t:HT}(h:c7 H t){b:Nat}{x:c6}{k:HT→Prop}(m:gq x t b k):∃ d,c7 (H.set b x) d∧k d:=by
 obtain⟨d,g,j,l⟩:=ZA m;exact⟨d,h.set g j,l⟩
def akh(e:A6)(t:HT)(n:Nat)(k:HT→Nat→Prop):Prop:=
 A6.rec (motive:=fun _=>Prop) (k t n) (fun b x=>rH x fun x=>gq x t b fun t=>k t n) (fun x=>rH x fun x=>oY x t n k) e
theorem afz{H:an}{t:HT}(h:c7 H t){e:A6}{k:HT→Nat→Prop}(d:akh e t H.length k):∃ g,c7 (e.app H) g∧k g (e.app H).length:=by
 cases e with
 | no=>exact⟨t,h,d⟩
 | set b x=>
  have d:rH x fun x=>gq x t b fun t=>k t H.length:=d;rw [xk]at d;obtain⟨g,j,l⟩:=dW h d;exact⟨g,j,by simpa [A6.app]using l⟩
 | push x=>
  have d:rH x fun x=>oY x t H.length k:=d;rw [xk]at d;exact jj h d
def aoj(b:cV)(r:T)(t:HT)(n:Nat)(k:V→HT→Nat→Prop):Prop:=
 rU (abK r t.get n b) fun r=>Prod.rec (motive:=fun _=>Prop) (fun v e=>lZ v fun v=>akh e t n (k v)) r
def OpS(d:cV)(r:T)(m:HT→Nat→(V→HT→Nat→Prop)→Prop):Prop:=
 ∀(H:an) (t:HT) (k:V→HT→Nat→Prop),c7 H t→m t H.length k→∃ v H' b,bu r H d=ab (v,H')∧c7 H' b∧k v b H'.length
theorem afM(g:cV)(r:T):OpS g r (aoj g r):=by
 intro H t k h m;obtain⟨⟨v,e⟩,d,b⟩:=kF m;have b:lZ v fun v=>akh e t H.length (k v):=b;rw [rG]at b;obtain⟨q,j,l⟩:=afz h b;refine⟨v,e.app H,q,?_,j,l⟩;rw [h]at d;rw [←zX,d];rfl
def tZ(v:V)(k:List C→Prop):Prop:=match v with
 | .c x=>k [x]| .a xs=>k xs| _=>False
theorem ry{v:V}{k:List C→Prop}(h:tZ v k):∃ xs,v.cells?=ab xs∧k xs:=by
 cases v with
 | c x=>exact⟨_,rfl,h⟩| a xs=>exact⟨_,rfl,h⟩| _=>exact h.elim
def Ga(n:Option Nat)(off:Nat)(cs:List C)(k:V→Prop):Prop:=
 Option.rec (motive:=fun _=>Prop) (ags off cs fun c=>k (.c c)) (fun m=>uf off cs fun cs=>mU m cs fun cs=>k (.a cs)) n
theorem uW{n:Option Nat}{off:Nat}{cs:List C}{k:V→Prop}(h:Ga n off cs k):∃ v,aK n (cs.drop off)=ab v∧k v:=by
 cases n with
 | none=>
  obtain⟨c,b,d⟩:=th h;refine⟨.c c,?_,d⟩;rw [←Nat.add_zero off,←at8]at b;cases e:cs.drop off with
  | nil=>rw [e]at b;simp at b| cons y ys=>rw [e]at b;simp at b;subst b;rfl
 | some m=>
  have h:uf off cs fun cs=>mU m cs fun cs=>k (.a cs):=h;rw [ny]at h;obtain⟨b,d⟩:=fM h;exact⟨_,bg b,d⟩
def aaV(n:Option Nat)(off:Nat)(cs:List FC)(k:V→Prop):Prop:=
 Option.rec (motive:=fun _=>Prop) (ags off cs fun c=>k (.c (.f c))) (fun m=>uf off cs fun cs=>mU m cs fun cs=>fzK cs fun cs=>k (.a cs)) n
theorem Oe{n:Option Nat}{off:Nat}{cs:List FC}{k:V→Prop}(h:aaV n off cs k):∃ v,aK n ((cs.drop off).map .f)=ab v∧k v:=by
 cases n with
 | none=>
  obtain⟨c,b,d⟩:=th h;refine⟨.c (.f c),?_,d⟩;rw [←Nat.add_zero off,←at8]at b;cases e:cs.drop off with
  | nil=>rw [e]at b;simp at b| cons y ys=>rw [e]at b;simp at b;subst b;rfl
 | some m=>
  have h:uf off cs fun cs=>mU m cs fun cs=>fzK cs fun cs=>k (.a cs):=h;rw [ny]at h;obtain⟨b,d⟩:=fM h;rw [rI]at d;refine⟨_,bg (by simpa using b),?_⟩;rw [←List.map_take];exact d
def ldK(t:HT)(n:Option Nat)(x:V)(k:V→Prop):Prop:=match x with
 | .c (.ptr b off d)=>gn b t fun bp=>match bp with
  | .box cs _=>Ga n off cs k| .bR _ cs _ e .loc=>jd d e (Ga n off cs k)| _=>False
 | .c (.f (.fp cs off))=>aaV n off cs k| _=>False
theorem aab{H:an}{t:HT}(h:c7 H t){n:Option Nat}{x:V}{k:V→Prop}(m:ldK t n x k):∃ v,aV H n x=ab v∧k v:=by
 unfold ldK at m;split at m
 ·rename_i b off s;obtain⟨bp,g,d⟩:=dq m;rw [h]at g;have g:H[b]?=ab bp:=g;split at d
  ·obtain⟨v,j,l⟩:=uW d;exact⟨v,by simp [aV,aF,g,j],l⟩
  ·obtain⟨q,d⟩:=cY d;obtain⟨v,j,l⟩:=uW d;exact⟨v,by simp [aV,aF,g,j,q],l⟩
  ·exact d.elim
 ·obtain⟨v,j,l⟩:=Oe m;exact⟨v,by simp only [aV,aF,Option.bind_some,j],l⟩
 ·exact m.elim
def stK(t:HT)(x:C)(xs:List C)(k:HT→Prop):Prop:=match x with
 | .ptr b off g=>gn b t fun bp=>match bp with
  | .box cs d=>sP d off (uT xs off cs fun cs=>gq (.box cs d) t b k)
  | .bR sz cs d e .loc=>jd g e (sP d off (uT xs off cs fun cs=>gq (.bR sz cs d e .loc) t b k))
  | _=>False
 | _=>False
theorem amt{H:an}{t:HT}(h:c7 H t){x:C}{xs:List C}{k:HT→Prop}(l:stK t x xs k):∃ H' g,dn H x xs=ab H'∧c7 H' g∧H'.length=H.length∧k g:=by
 unfold stK at l;split at l
 ·rename_i b off y;obtain⟨bp,j,d⟩:=dq l;rw [h]at j;have j:H[b]?=ab bp:=j;split at d
  ·obtain⟨m,d⟩:=iR d;obtain⟨q,d⟩:=lD d;obtain⟨g,s,u⟩:=dW h d;exact⟨_,g,by simp [dn,j,m,q],s,by simp,u⟩
  ·obtain⟨v,d⟩:=cY d;obtain⟨m,d⟩:=iR d;obtain⟨q,d⟩:=lD d;obtain⟨g,s,u⟩:=dW h d;exact⟨_,g,by simp [dn,j,v,m,q],s,by simp,u⟩
  ·exact d.elim
 ·exact l.elim
def mI(op:BinOp)(j:IntKind)(x y:Int)(k:V→Prop):Prop:=match op with
 | .add=>yh j (Int.add x y) fun n=>k (.c (.f (.int j n)))
 | .sub=>yh j (Int.sub x y) fun n=>k (.c (.f (.int j n)))
 | .mul=>yh j (Int.mul x y) fun n=>k (.c (.f (.int j n)))
 | .eql=>nE (eqB x y) fun b=>k (.c (.f (.bool b)))
 | .neq=>nE (!eqB x y) fun b=>k (.c (.f (.bool b)))
 | .lss=>nE (ltB x y) fun b=>k (.c (.f (.bool b)))
 | .leq=>nE (!ltB y x) fun b=>k (.c (.f (.bool b)))
 | .gtr=>nE (ltB y x) fun b=>k (.c (.f (.bool b)))
 | .geq=>nE (!ltB x y) fun b=>k (.c (.f (.bool b)))
 | op=>rU (kJ op j x y) fun v=>lZ v k
theorem uP(x y:Int):(!decide (x<y))=decide (y≤x):=by
 rw [Bool.eq_iff_iff];simp
theorem Zu{b:BinOp}{j:IntKind}{x y:Int}{k:V→Prop}(h:mI b j x y k):∃ v,kJ b j x y=ab v∧k v:=by
 cases b
 case add=>simp only [mI,qR]at h;exact⟨_,rfl,h⟩
 case sub=>simp only [mI,qR]at h;exact⟨_,rfl,h⟩
 case mul=>simp only [mI,qR]at h;exact⟨_,rfl,h⟩
 case eql=>simp only [mI,iL,ZV]at h;exact⟨_,rfl,h⟩
 case neq=>simp only [mI,iL,ZV]at h;exact⟨_,rfl,h⟩
 case lss=>simp only [mI,iL,ze]at h;exact⟨_,rfl,h⟩
 case leq=>simp only [mI,iL,ze,uP]at h;exact⟨_,rfl,h⟩
 case gtr=>simp only [mI,iL,ze]at h;exact⟨_,rfl,h⟩
 case geq=>simp only [mI,iL,ze,uP]at h;exact⟨_,rfl,h⟩
 all_goals
  simp only [mI]at h;obtain⟨v,g,d⟩:=kF h;rw [rG]at d;exact⟨v,g,d⟩
def Z9(j b:IntKind)(p:Prop):Prop:=match j,b with
 | .i64,.i64=>p| j,b=>sm (decide (j=b)) p
theorem Z'{j b:IntKind}{p:Prop}(h:Z9 j b p):j=b∧p:=by
 unfold Z9 at h;split at h
 ·exact⟨rfl,h⟩
 ·obtain⟨d,g⟩:=nv h;exact⟨of_decide_eq_true d,g⟩
def Zv(op:BinOp)(x y:V)(k:V→Prop):Prop:=match x,y with
 | .c (.f (.int j a)),.c (.f (.int d b))=>match op with
  | .shl=>rU (bV .shl x y) fun v=>lZ v k
  | .shr=>rU (bV .shr x y) fun v=>lZ v k
  | op=>Z9 j d (mI op j a b k)
 | x,y=>rU (bV op x y) fun v=>lZ v k
theorem afo{d:BinOp}{x y:V}{k:V→Prop}(h:Zv d x y k):∃ v,bV d x y=ab v∧k v:=by
 have gen:(rU (bV d x y) fun v=>lZ v k)→∃ v,bV d x y=ab v∧k v:=by
  intro h;obtain⟨v,l,g⟩:=kF h;rw [rG]at g;exact⟨v,l,g⟩
 unfold Zv at h;split at h
 ·rename_i j a u b;split at h
  ·exact gen h
  ·exact gen h
  ·rename_i l g;obtain⟨e,m⟩:=Z' h;subst e;obtain⟨v,q,s⟩:=Zu m;refine⟨v,?_,s⟩;cases d<;>first | exact absurd rfl l | exact absurd rfl g | (simp only [bV,if_true];exact q)
 ·exact gen h
def akQ(v:V)(k:Nat→Prop):Prop:=match v with
 | .c (.f (.int _ (.ofNat m)))=>k m| _=>False
theorem ago{v:V}{k:Nat→Prop}(h:akQ v k):∃ m,dD v=ab (Int.ofNat m)∧k m:=by
 unfold akQ at h;split at h
 ·exact⟨_,rfl,h⟩
 ·exact h.elim
def Z5(t:HT)(sz:Nat)(g:Option Nat)(x i:V)(k:V→Prop):Prop:=akQ i fun m=>match g with
 | none=>match x with
  | .c (.sl b o l _ d s)=>sP (Nat.succ m) l (gn b t fun bp=>match bp with
   | .box _ _=>cd (Nat.add o (Nat.mul m sz)) fun o=>k (.c (.ptr b o d))
   | .bR s' _ _ e .loc=>jd d e (jd s s' (cd (Nat.add o (Nat.mul m sz)) fun o=>k (.c (.ptr b o d))))
   | _=>False)
  | .c (.f (.fs cs l))=>sP (Nat.succ m) l (cd (Nat.mul m sz) fun o=>k (.c (.f (.fp cs o))))
  | _=>False
 | some n=>match x with
  | .c (.ptr b o d)=>sP (Nat.succ m) n (cd (Nat.add o (Nat.mul m sz)) fun o=>k (.c (.ptr b o d)))
  | .c (.f (.fp cs o))=>sP (Nat.succ m) n (cd (Nat.add o (Nat.mul m sz)) fun o=>k (.c (.f (.fp cs o))))
  | _=>False
theorem Nx{H:an}{t:HT}(h:c7 H t){sz:Nat}{y:Option Nat}{x i:V}{k:V→Prop}(d:Z5 t sz y x i k):∃ v,aL H sz y x i=ab v∧k v:=by
 obtain⟨m,hi,d⟩:=ago d;have z:(0:Int)≤Int.ofNat m:=Int.natCast_nonneg m;have g:∀ l:Nat,Nat.succ m≤l→Int.ofNat m<(l:Int):=fun l F=>Int.ofNat_lt.2 F;have j:(Int.ofNat m).toNat=m:=rfl;simp only at d;split at d
 ·split at d
  ·rename_i b o l cap I s _;obtain⟨u,d⟩:=iR d;obtain⟨bp,A,q⟩:=dq d;rw [h]at A;have A:H[b]?=ab bp:=A;split at q
   ·rw [cq]at q;exact⟨_,by simp only [aL,hi,bg z,bg (g _ u),A,j];rfl,q⟩
   ·obtain⟨B,q⟩:=cY q;obtain⟨E,q⟩:=cY q;rw [cq]at q;exact⟨_,by simp only [aL,hi,bg z,bg (g _ u),A,j,B,E,and_self,if_true];rfl,B▸q⟩
   ·exact q.elim
  ·obtain⟨u,d⟩:=iR d;rw [cq]at d;exact⟨_,by simp only [aL,hi,bg z,bg (g _ u),j];rfl,d⟩
  ·exact d.elim
 ·split at d
  ·obtain⟨u,d⟩:=iR d;rw [cq]at d;exact⟨_,by simp only [aL,hi,bg z,bg (g _ u),j];rfl,d⟩
  ·obtain⟨u,d⟩:=iR d;rw [cq]at d;exact⟨_,by simp only [aL,hi,bg z,bg (g _ u),j];rfl,d⟩
  ·exact d.elim
def akI(t:HT)(x:V)(k:Nat→Prop):Prop:=match x with
 | .c (.sl b _ l _ d sz)=>gn b t fun bp=>match bp with
  | .box _ _=>k l| .bR s _ _ e _=>jd d e (jd sz s (k l))| _=>False
 | .c (.f .aG)=>k 0| .c (.f .es)=>k 0| .c (.f (.fs _ l))=>k l| _=>False
theorem agd{H:an}{t:HT}(h:c7 H t){x:V}{k:Nat→Prop}(g:akI t x k):∃ y n,x=.c y∧bJ H y=ab n∧k n:=by
 unfold akI at g;split at g
 ·rename_i b o l cap s sz;obtain⟨bp,j,d⟩:=dq g;rw [h]at j;have j:H[b]?=ab bp:=j;split at d
  ·exact⟨_,l,rfl,by simp [bJ,j],d⟩
  ·obtain⟨m,d⟩:=cY d;obtain⟨q,d⟩:=cY d;exact⟨_,l,rfl,by simp [bJ,j,m,q],d⟩
  ·exact d.elim
 ·exact⟨_,0,rfl,rfl,g⟩
 ·exact⟨_,0,rfl,rfl,g⟩
 ·exact⟨_,_,rfl,rfl,g⟩
 ·exact g.elim
def Eu(r:T)(ps:List (Nat × Nat × Arg)):List C→(List C→Prop)→Prop:=
 List.rec (motive:=fun _=>List C→(List C→Prop)→Prop) (fun cs k=>k cs)
  (fun p _ b cs k=>Prod.rec (motive:=fun _=>Prop) (fun off q=>Prod.rec (motive:=fun _=>Prop) (fun n x=>qd x r fun v=>tZ v fun xs=>jd xs.length n (uT xs off cs fun cs=>b cs k)) q) p) ps
theorem xW(r:T):∀ {ps:List (Nat × Nat × Arg)} {cs:List C} {k:List C→Prop},Eu r ps cs k→∃ cs',dw r cs ps=ab cs'∧k cs'
 | [],cs,k,h=>⟨cs,rfl,h⟩
 | (off,n,x)::ps,cs,k,h=>by
  have h:qd x r fun v=>tZ v fun xs=>jd xs.length n (uT xs off cs fun cs=>Eu r ps cs k):=h;rw [dh]at h;obtain⟨xs,b,h⟩:=ry h;obtain⟨d,h⟩:=cY h;obtain⟨g,h⟩:=lD h;obtain⟨cs',j,l⟩:=xW r h;exact⟨cs',by simp [dw,b,d,j]at g ⊢;omega,l⟩
def Dz(t:HT)(sz:Nat)(y:V)(k:Nat→List C→Prop):Prop:=match y with
 | .c (.f .aG)=>k 0 []| .c (.f .es)=>k 0 []| .c (.f (.fs cs l))=>jd cs.length (Nat.mul l sz) (fzK cs fun cs=>k l cs)
 | .c (.sl b o l _ d s)=>gn b t fun bp=>match bp with
  | .box cs _=>rA o cs fun cs=>mU (Nat.mul l sz) cs fun cs=>k l cs
  | .bR s' cs _ e _=>jd d e (jd s s' (jd s' sz (rA o cs fun cs=>mU (Nat.mul l sz) cs fun cs=>k l cs)))
  | _=>False
 | y=>rU (pW t.get sz y) fun r=>Prod.rec (motive:=fun _=>Prop) (fun n cs=>nF cs fun cs=>k n cs) r
theorem MY{H:an}{t:HT}(h:c7 H t){sz:Nat}{y:V}{k:Nat→List C→Prop}(j:Dz t sz y k) :
  ∃ n cs,cX H sz y=ab (n,cs)∧k n cs:=by
 unfold Dz at j;split at j
 ·exact⟨0,[],rfl,j⟩
 ·exact⟨0,[],rfl,j⟩
 ·rename_i cs l;obtain⟨m,j⟩:=cY j;rw [rI]at j;have m:cs.length=l*sz:=m;exact⟨l,_,by simp only [cX,bJ,cS,m,if_true],j⟩
 ·rename_i b o l cap B s;obtain⟨bp,g,d⟩:=dq j;rw [h]at g;have g:H[b]?=ab bp:=g;split at d
  ·obtain⟨A,d⟩:=jP d;obtain⟨q,u⟩:=fM d;have q:l*sz≤_:=q;rw [auK]at q;refine⟨l,_,?_,u⟩;simp only [cX,bJ,cS,g];rw [bg (by omega)];rfl
  ·obtain⟨q,d⟩:=cY d;obtain⟨u,d⟩:=cY d;obtain⟨x,d⟩:=cY d;obtain⟨A,d⟩:=jP d;obtain⟨v,z⟩:=fM d;have v:l*sz≤_:=v;rw [auK]at v;subst q u x;refine⟨l,_,?_,z⟩;simp only [cX,bJ,cS,g,and_self,if_true];rw [bg ⟨trivial,trivial,by omega⟩];rfl
  ·exact d.elim
 ·obtain⟨⟨n,cs⟩,m,g⟩:=kF j;have g:nF cs fun cs=>k n cs:=g;rw [lf]at g;rw [h,o8]at m;exact⟨n,cs,m,g⟩
def Ca(need bytes:Nat)(p:Prop):Prop:=sP (Nat.mul (Nat.add (Nat.mul 2 need) 768) bytes) 281474976710656 (sP (Nat.succ need) 281474976710656 p)
theorem qJ{need bytes:Nat}{p:Prop}(h:Ca need bytes p):bU need bytes=ag∧p:=by
 obtain⟨b,h⟩:=iR h;obtain⟨d,h⟩:=iR h;refine⟨?_,h⟩;have e:(2:Nat) ^ 48=281474976710656:=by decide
 simp only [bU,If,decide_eq_true_eq,e];exact⟨b,d⟩
def anW(t:HT)(n:Nat)(sz bytes:Nat)(x y:V)(k:V→HT→Nat→Prop):Prop:=
 Dz t sz y fun m ys=>Nat.rec (motive:=fun _=>Prop) False (fun _ _=>match x with
  | .c (.f .aG)=>Nat.rec (motive:=fun _=>Prop) (k (.c (.f .aG)) t n) (fun _ _=>Ca m bytes (cd m fun m=>oY (.bR sz ys 0 0 .loc) t n fun t n'=>k (.c (.sl n 0 m 0 0 sz)) t n')) m
  | .c (.f .es)=>Nat.rec (motive:=fun _=>Prop) (k (.c (.f .es)) t n) (fun _ _=>Ca m bytes (cd m fun m=>oY (.bR sz ys 0 0 .loc) t n fun t n'=>k (.c (.sl n 0 m 0 0 sz)) t n')) m
  | .c (.sl b o l cap j s)=>gn b t fun bp=>match bp with
   | .box cs g=>Bool.rec (motive:=fun _=>Prop)
     (cd (Nat.add l m) fun d=>Ca d bytes (rA o cs fun cs=>mU (Nat.mul l sz) cs fun cs=>akb cs ys fun cs=>oY (.bR sz cs 0 0 .loc) t n fun t n'=>k (.c (.sl n 0 d 0 0 sz)) t n'))
     (cd (Nat.add l m) fun d=>sP g (Nat.add o (Nat.mul l sz)) (uT ys (Nat.add o (Nat.mul l sz)) cs fun cs=>gq (.box cs g) t b fun t=>k (.c (.sl b o d cap j s)) t n))
     (Nat.ble (Nat.add l m) cap)
   | .bR s' cs g e st=>jd j e (jd s' sz (jd s sz (Nat.rec (motive:=fun _=>Prop) (k x t n) (fun _ _=>
     cd (Nat.add l m) fun d=>Bool.rec (motive:=fun _=>Prop)
      (match st with
       | .loc=>sP g (Nat.add o (Nat.mul l sz)) (uT ys (Nat.add o (Nat.mul l sz)) cs fun cs=>gq (.bR sz cs g e .loc) t b fun t=>k (.c (.sl b o d 0 j sz)) t n)
       | _=>False)
      (Ca d bytes (cd (Nat.succ e) fun q=>akb cs ys fun cs=>gq (.bR sz cs g q .loc) t b fun t=>k (.c (.sl b 0 d 0 q sz)) t n))
      (and (and (Nat.beq o 0) (Nat.beq (Nat.mul l sz) cs.length)) (Nat.ble g cs.length))) m)))
   | _=>False
  | _=>False) sz
theorem afk{H:an}{t:HT}(h:c7 H t){sz bytes:Nat}{x y:V}{k:V→HT→Nat→Prop}(d:anW t H.length sz bytes x y k) :
  ∃ v H' g,bK H sz bytes x y=ab (v,H')∧c7 H' g∧k v g H'.length:=by
 obtain⟨m,ys,O,d⟩:=MY h d;unfold bK;rw [O];cases sz with
 | zero=>exact d.elim
 | succ u=>
  simp only at d ⊢;rw [aY (by omega)];split at d
  ·cases m with
   | zero=>exact⟨_,H,t,rfl,h,d⟩
   | succ M=>
    simp only at d;obtain⟨K,d⟩:=qJ d;rw [cq]at d;obtain⟨g,z,j⟩:=jj h d;exact⟨_,_,g,by simp only [Nat.add_one_ne_zero,if_false,K,if_true],z,j⟩
  ·cases m with
   | zero=>exact⟨_,H,t,rfl,h,d⟩
   | succ M=>
    simp only at d;obtain⟨K,d⟩:=qJ d;rw [cq]at d;obtain⟨g,z,j⟩:=jj h d;exact⟨_,_,g,by simp only [Nat.add_one_ne_zero,if_false,K,if_true],z,j⟩
  ·rename_i b o l cap S s _;obtain⟨bp,z,d⟩:=dq d;rw [h]at z;have z:H[b]?=ab bp:=z;simp only [z];split at d
   ·rename_i cs J _;simp only;cases hc:Nat.ble (Nat.add l m) cap with
    | false=>
     rw [hc]at d;have B:¬ (l+m≤cap):=fun e=>by have:=Nat.ble_eq_true_of_le e;rw [show Nat.ble (Nat.add l m) cap=Nat.ble (l+m) cap from rfl,this]at hc;cases hc
     simp only [cq]at d;obtain⟨j,d⟩:=qJ d;obtain⟨F,d⟩:=jP d;obtain⟨E,d⟩:=fM d;rw [yN]at d;obtain⟨g,q,A⟩:=jj h d;rw [auK]at E;have E:l*(u+1)≤_:=E;rw [aY B,bg ⟨j,by omega⟩];exact⟨_,_,g,rfl,q,A⟩
    | true=>
     rw [hc]at d;have B:l+m≤cap:=auL hc;simp only [cq]at d;obtain⟨j,d⟩:=iR d;obtain⟨F,d⟩:=lD d;obtain⟨g,q,A⟩:=dW h d;rw [bg B,bg ⟨j,F⟩];exact⟨_,_,g,rfl,q,by simpa using A⟩
   ·rename_i s' cs J e st _;simp only;obtain⟨j,d⟩:=cY d;obtain⟨F,d⟩:=cY d;obtain⟨E,d⟩:=cY d;rw [bg ⟨j,F,E⟩];cases m with
    | zero=>rw [bg rfl];exact⟨_,H,t,rfl,h,d⟩
    | succ M=>
     rw [aY (by omega)];simp only [cq]at d;cases hc:and (and (Nat.beq o 0) (Nat.beq (Nat.mul l (u+1)) cs.length)) (Nat.ble J cs.length)with
     | true=>
      rw [hc]at d;simp only [If]at hc;have c1:=au2 hc.1.1;have c2:=au2 hc.1.2;have I:=auL hc.2;simp only at d;obtain⟨q,d⟩:=qJ d;rw [yN]at d;obtain⟨g,A,L⟩:=dW h d;have q:bU (l+(M+1)) bytes=ag:=q;rw [bg ⟨c1,c2,I⟩,bg q];subst j;exact⟨_,_,g,rfl,A,by simpa using L⟩
     | false=>
      rw [hc]at d;have Q:¬ (o=0∧l*(u+1)=cs.length∧J≤cs.length):=by
       rintro⟨c1,c2,I⟩;rw [c1,show Nat.mul l (u+1)=cs.length from c2,Nat.ble_eq_true_of_le I]at hc;simp at hc
      rw [aY Q];simp only at d;split at d
      ·obtain⟨q,d⟩:=iR d;obtain⟨A,d⟩:=lD d;obtain⟨g,L,N⟩:=dW h d;rw [bg ⟨rfl,q,A⟩];exact⟨_,_,g,rfl,L,by simpa using N⟩
      ·exact d.elim
   ·exact d.elim
  ·exact d.elim
end
section
set_option linter.unusedVariables false
abbrev fx:=Callee→List V→HT→Nat→(V→HT→Nat→Prop)→Prop
def pR(call:cO)(bH:fx):Prop:=
 ∀(c:Callee) (args:List V) (H:an) (t:HT) (k:V→HT→Nat→Prop),c7 H t→bH c args t H.length k→∃ v H' b,call c args H=ab (v,H')∧c7 H' b∧k v b H'.length
def yT{d b:Type}(g:d→(b→Prop)→Prop)(xs:List d):(List b→Prop)→Prop:=
 List.rec (motive:=fun _=>(List b→Prop)→Prop) (fun k=>k []) (fun x _ j k=>g x fun y=>j fun ys=>k (y::ys)) xs
theorem jA{b d:Type}{g:b→(d→Prop)→Prop}{f:b→Option d}(j:∀ x k,g x k→∃ y,f x=ab y∧k y):∀ {xs:List b} {k:List d→Prop},yT g xs k→∃ ys,aZ f xs=ab ys∧k ys
 | [],k,h=>⟨[],rfl,h⟩
 | x::xs,k,h=>by
  obtain⟨y,l,h⟩:=j x _ h;obtain⟨ys,m,q⟩:=jA j (xs:=xs) h;exact⟨y::ys,by simp [aZ,l,m],q⟩
def exK(t:HT)(m:Nat):C→(FC→Prop)→Prop:=
 Nat.rec (motive:=fun _=>C→(FC→Prop)→Prop) (fun x k=>match x with
   | .f y=>k y
   | _=>False)
  (fun _ j x k=>match x with
   | .f y=>k y
   | .ptr b off _=>gn b t fun bp=>match bp with
    | .box cs _=>yT j cs fun d=>k (.fp d off)
    | _=>False
   | .sl b o l _ q sz=>gn b t fun bp=>match bp with
    | .box cs _=>rA o cs fun cs=>mU (Nat.mul l sz) cs fun cs=>yT j cs fun d=>k (.fs d l)
    | .bR s cs _ e .loc=>jd q e (jd sz s (rA o cs fun cs=>mU (Nat.mul l sz) cs fun cs=>yT j cs fun d=>k (.fs d l)))
    | .bR s cs _ e .nil=>jd q e (jd sz s (k .aG))| .bR s cs _ e .es=>jd q e (jd sz s (k .es))| _=>False
   | .cl f g=>yT j g fun d=>k (.fn f d)
   | _=>False) m
theorem ZY{H:an}{t:HT}(h:c7 H t):∀(m:Nat) (x:C) (k:FC→Prop),exK t m x k→∃ y,db m H x=ab y∧k y:=by
 intro m;induction m with
 | zero=>
  intro x k q;cases x with
  | f y=>exact⟨y,rfl,q⟩| _=>exact q.elim
 | succ m E=>
  intro x k q;cases x with
  | f y=>exact⟨y,rfl,q⟩
  | ptr b off J=>
   obtain⟨bp,g,d⟩:=dq q;rw [h]at g;have g:H[b]?=ab bp:=g;cases bp with
   | box cs I=>
    obtain⟨z,j,u⟩:=jA E d;exact⟨_,by simp only [db,g,j];rfl,u⟩
   | _=>exact d.elim
  | sl b o l cap J sz=>
   obtain⟨bp,g,d⟩:=dq q;rw [h]at g;have g:H[b]?=ab bp:=g;cases bp with
   | box cs I=>
    obtain⟨K,d⟩:=jP d;obtain⟨v,d⟩:=fM d;obtain⟨z,j,u⟩:=jA E d;rw [auK]at v;have v:l*sz≤_:=v;have j:aZ (db m H) ((cs.drop o).take (l*sz))=ab z:=j;exact⟨_,by simp only [db,g];rw [bg (by omega),j];rfl,u⟩
   | bR s cs I e st=>
    cases st with
    | loc=>
     obtain⟨A,d⟩:=cY d;obtain⟨B,d⟩:=cY d;obtain⟨K,d⟩:=jP d;obtain⟨v,d⟩:=fM d;obtain⟨z,j,u⟩:=jA E d;rw [auK]at v;have v:l*sz≤_:=v;have j:aZ (db m H) ((cs.drop o).take (l*sz))=ab z:=j;exact⟨_,by simp only [db,g];rw [bg ⟨A,B,by omega⟩,j];rfl,u⟩
    | nil=>
     obtain⟨A,d⟩:=cY d;obtain⟨B,d⟩:=cY d;exact⟨_,by simp only [db,g];rw [bg ⟨A,B⟩],d⟩
    | es=>
     obtain⟨A,d⟩:=cY d;obtain⟨B,d⟩:=cY d;exact⟨_,by simp only [db,g];rw [bg ⟨A,B⟩],d⟩
   | _=>exact d.elim
  | cl f F=>
   obtain⟨z,j,u⟩:=jA E q;exact⟨_,by simp only [db,j];rfl,u⟩
  | _=>exact q.elim
def Fu(t:HT)(v:V)(k:V→Prop):Prop:=match v with
 | .c x=>exK t deep x fun y=>k (.c (.f y))
 | .a xs=>yT (exK t deep) xs fun ys=>fzK ys fun cs=>k (.a cs)
 | _=>False
theorem qf{H:an}{t:HT}(h:c7 H t)(v:V)(k:V→Prop)(g:Fu t v k):∃ y,bX deep H v=ab y∧k y:=by
 cases v with
 | c x=>
  obtain⟨y,d,b⟩:=ZY h deep x _ g;exact⟨_,by simp only [bX,d];rfl,b⟩
 | a xs=>
  obtain⟨ys,d,b⟩:=jA (ZY h deep) g;rw [rI]at b;exact⟨_,by simp only [bX,d];rfl,b⟩
 | _=>exact g.elim
def aog(t:HT)(v:V)(k:V→Prop):Prop:=match v with
 | .t b=>yT (Fu t) b fun b=>k (.t b)
 | v=>Fu t v k
theorem afI{H:an}{t:HT}(h:c7 H t)(v:V)(k:V→Prop)(b:aog t v k):∃ y,fZ deep H v=ab y∧k y:=by
 cases v with
 | t j=>
  obtain⟨ys,d,g⟩:=jA (qf h) b;exact⟨_,by simp only [fZ,d];rfl,g⟩
 | c x=>exact qf h (.c x) k b| a xs=>exact qf h (.a xs) k b| top=>exact b.elim
def Ee{b:Type}(g:b→HT→(HT→Prop)→Prop)(xs:List b):HT→(HT→Prop)→Prop:=
 List.rec (motive:=fun _=>HT→(HT→Prop)→Prop) (fun t k=>k t) (fun x _ d t k=>g x t fun t=>d t k) xs
def MkS{b:Type}(g:b→HT→(HT→Prop)→Prop)(f:an→b→an):Prop:=∀(x:b) (H:an) (t:HT) (k:HT→Prop),c7 H t→g x t k→∃ d,c7 (f H x) d∧k d
theorem mn{d:Type}{g:d→HT→(HT→Prop)→Prop}{f:an→d→an}(j:MkS g f):∀(xs:List d) (H:an) (t:HT) (k:HT→Prop),c7 H t→Ee g xs t k→∃ l,c7 (xs.foldl f H) l∧k l
 | [],H,t,k,h,b=>⟨t,h,b⟩
 | x::xs,H,t,k,h,b=>by
  obtain⟨t1,m,q⟩:=j x H t _ h b;exact mn j xs _ t1 k m q
def mkK(m:Nat):C→HT→(HT→Prop)→Prop:=
 Nat.rec (motive:=fun _=>C→HT→(HT→Prop)→Prop) (fun _ t k=>k t)
  (fun _ j x t k=>match x with
   | .f _=>k t
   | .ptr b _ _=>gn b t fun bp=>match bp with
    | .box cs d=>cd (Nat.max d cs.length) fun d=>gq (.box cs d) t b fun t=>Ee j cs t k
    | _=>k t
   | .sl b o l _ _ sz=>gn b t fun bp=>match bp with
    | .box cs d=>cd (Nat.max d (Nat.add o (Nat.mul l sz))) fun d=>gq (.box cs d) t b fun t=>uf o cs fun cs=>mU (Nat.mul l sz) cs fun cs=>Ee j cs t k
    | .bR s cs d e st=>cd (Nat.max d (Nat.add o (Nat.mul l sz))) fun d=>gq (.bR s cs d e st) t b fun t=>uf o cs fun cs=>mU (Nat.mul l sz) cs fun cs=>Ee j cs t k
    | _=>k t
   | .cl _ g=>Ee j g t k
   | _=>k t) m
theorem aap:∀(m:Nat),MkS (mkK m) (fun H x=>iG m x H):=by
 intro m;induction m with
 | zero=>intro x H t k h q;exact⟨t,by cases x<;>exact h,q⟩
 | succ m v=>
  intro x H t k h q;cases x with
  | f y=>exact⟨t,h,q⟩
  | ptr b off B=>
   obtain⟨bp,d,g⟩:=dq q;rw [h]at d;have d:H[b]?=ab bp:=d;cases bp with
   | box cs A=>
    change cd _ _ at g;rw [cq]at g;obtain⟨t1,u,j⟩:=dW h g;simp only [iG,d];exact mn v cs _ t1 k u j
   | _=>simp only [iG,d];exact⟨t,h,g⟩
  | sl b o l cap B sz=>
   obtain⟨bp,d,g⟩:=dq q;rw [h]at d;have d:H[b]?=ab bp:=d;cases bp with
   | box cs A=>
    change cd _ _ at g;rw [cq]at g;obtain⟨t1,u,j⟩:=dW h g;rw [ny]at j;obtain⟨_,j⟩:=fM j;simp only [iG,d];exact mn v _ _ t1 k u j
   | bR s cs A e st=>
    change cd _ _ at g;rw [cq]at g;obtain⟨t1,u,j⟩:=dW h g;rw [ny]at j;obtain⟨_,j⟩:=fM j;simp only [iG,d];exact mn v _ _ t1 k u j
   | _=>simp only [iG,d];exact⟨t,h,g⟩
  | cl f z=>
   simp only [iG];exact mn v _ _ t k h q
  | _=>exact⟨t,h,q⟩
def aoN(v:V)(t:HT)(k:HT→Prop):Prop:=match v with
 | .c x=>mkK deep x t k| .a xs=>Ee (mkK deep) xs t k| _=>k t
theorem agm:MkS aoN (mkV deep):=by
 intro v H t k h b;cases v with
 | c x=>exact aap deep x H t k h b| a xs=>exact mn (aap deep) xs H t k h b| _=>exact⟨t,h,b⟩
def aiU(call:fx)(f:Nat)(d:List V)(t:HT)(n:Nat)(k:V→HT→Nat→Prop):Prop:=
 yT (Fu t) d fun g=>call (.fn f) g .e 0 fun b j _=>aog j b fun b=>Ee aoN d t fun t=>k b t n
theorem aa2{call:cO}{bH:fx}(hc:pR call bH){f:Nat}{g:List V}{H:an}{t:HT}{k:V→HT→Nat→Prop}(h:c7 H t)(b:aiU bH f g t H.length k) :
  ∃ v H' d,en call f g H=ab (v,H')∧c7 H' d∧k v d H'.length:=by
 obtain⟨l,m,b⟩:=jA (qf h) b;obtain⟨y,z,t1,q,s,b⟩:=hc (.fn f) l [] .e _ c7.nil b;obtain⟨j,u,b⟩:=afI s y _ b;obtain⟨d,x,b⟩:=mn agm g H t _ h b;refine⟨j,_,d,by simp only [en,m,q,u],x,?_⟩;rw [←(oF deep g H).1];exact b
abbrev s0:=fx→T→List dH→HT→Nat→(V→List dH→HT→Nat→Prop)→Prop
def fC(b:cV):s0:=fun _ r d t n k=>aoj b r t n fun v t n=>k v d t n
def ajP(x:Arg):s0:=fun _ r d t n k=>qd x r fun v=>k v d t n
def Zi(c a b:Arg):s0:=fun _ r d t n k=>qd c r fun v=>match v with
 | .c (.f (.bool v))=>Bool.rec (motive:=fun _=>Prop) (qd b r fun v=>k v d t n) (qd a r fun v=>k v d t n) v
 | _=>False
def Dt(zs:List FC):s0:=fun _ r d t n k=>fzK zs fun cs=>oY (.box cs 0) t n fun t n'=>k (.c (.ptr n 0 0)) d t n'
def ajM(x:Arg):s0:=fun _ r d t n k=>qd x r fun v=>tZ v fun xs=>oY (.box xs 0) t n fun t n'=>k (.c (.ptr n 0 0)) d t n'
def Du(zs:List FC)(ps:List (Nat × Nat × Arg)):s0:=fun _ r d t n k=>fzK zs fun cs=>Eu r ps cs fun cs=>k (.a cs) d t n
def Zh(m:Option Nat)(x:Arg):s0:=fun _ r d t n k=>qd x r fun v=>ldK t m v fun v=>k v d t n
def Dy(m:Nat)(x y:Arg):s0:=fun _ r d t n k=>qd x r fun v=>qd y r fun y=>tZ y fun xs=>jd xs.length m (match v with
 | .c p=>stK t p xs fun t=>k .top d t n
 | _=>False)
def yG(x:Arg):s0:=fun _ r d t n k=>qd x r fun v=>match v with
 | .c (.ptr b o e)=>k (.c (.ptr b o e)) d t n| .c (.f (.fp cs o))=>k (.c (.f (.fp cs o))) d t n| _=>False
def ajL(b:BinOp)(x y:Arg):s0:=fun _ r d t n k=>qd x r fun x=>qd y r fun y=>Zv b x y fun v=>k v d t n
def ajN(j:IntKind)(x:Arg):s0:=fun _ r d t n k=>qd x r fun v=>match v with
 | .c (.f (.int _ m))=>yh j m fun m=>k (.c (.f (.int j m))) d t n
 | _=>False
def yE(off:Nat)(x:Arg):s0:=fun _ r d t n k=>qd x r fun v=>match v with
 | .c (.ptr b o e)=>cd (Nat.add o off) fun o=>k (.c (.ptr b o e)) d t n
 | .c (.f (.fp cs o))=>cd (Nat.add o off) fun o=>k (.c (.f (.fp cs o))) d t n
 | _=>False
def Dx(off:Nat)(m:Option Nat)(x:Arg):s0:=fun _ r d t n k=>qd x r fun v=>match v with
 | .a xs=>Ga m off xs fun v=>k v d t n
 | _=>False
def yF(sz:Nat)(b:Option Nat)(x i:Arg):s0:=fun _ r d t n k=>qd x r fun x=>qd i r fun i=>Z5 t sz b x i fun v=>k v d t n
def tP(x:Arg)(i:Nat):s0:=fun _ r d t n k=>qd x r fun v=>match v with
 | .t b=>ags i b fun v=>k v d t n
 | _=>False
def Zg(f:Nat)(args:List Arg)(h:Bool):s0:=fun call r d t n k=>Bc args r fun b=>
 Bool.rec (motive:=fun _=>Prop) (aiU call f b t n fun v t n=>k v d t n) (call (.fn f) b t n fun v t n=>k v d t n) h
def Dv(x:Arg)(args:List Arg)(_:Bool):s0:=fun call r d t n k=>qd x r fun x=>Bc args r fun b=>
 rU (ca x b) fun g=>Prod.rec (motive:=fun _=>Prop) (fun c b=>call c b t n fun v t n=>k v d t n) g
def aiH(m:Nat):s0:=fun _ r d t n k=>k (.c (.f (.int .i64 (.ofNat m)))) d t n
def ajO(x:Arg):s0:=fun _ r d t n k=>qd x r fun v=>akI t v fun m=>k (.c (.f (.int .i64 (.ofNat m)))) d t n
def yD(sz bytes:Nat)(x y:Arg):s0:=fun _ r d t n k=>qd x r fun x=>qd y r fun y=>anW t n sz bytes x y fun v t n=>k v d t n
def A8:s0:=fun _ r d t n k=>k (.c (.f .mZ)) d t n
def Dw(x:Arg)(args:List Arg):s0:=fun _ r d t n k=>qd x r fun x=>Bc args r fun b=>
 rU (ca x b) fun g=>Prod.rec (motive:=fun _=>Prop) (fun c b=>Callee.rec (motive:=fun _=>Prop) (fun f=>k .top (.fn f b::d) t n) (fun _=>False) c) g
def aoZ(d:cV):s0:=
 cV.rec (motive:=fun _=>s0)
  ajP (fun o s=>fC (.pre o s)) Zi Dt ajM Du (fun a b c e=>fC (.aR a b c e)) Zh Dy yG ajL
  (fun a b c e=>fC (.eq a b c e)) (fun a b=>fC (.un a b)) ajN (fun a=>fC (.yP a)) (fun a=>fC (.vJ a)) (fun a=>fC (.DJ a)) (fun a b=>fC (.lz a b)) (fC .kD)
  (fun a b c e=>fC (.lookup a b c e)) (fun a b c e=>fC (.kB a b c e)) (fun a b c e f=>fC (.c4 a b c e f)) (fun a b c e f=>fC (.slice a b c e f)) (fun a b c e f g=>fC (.lK a b c e f g)) (fun a b c=>fC (.qM a b c))
  yE Dx yF (fun a b=>fC (.idxs a b)) (fun a b c e f=>fC (.qk a b c e f)) (fun a=>fC (.range a)) (fun a=>fC (.next a)) tP Zg Dv ajO aiH (fun a=>fC (.lens a)) (fun a=>fC (.cap a))
  yD (fun a b c=>fC (.copy a b c)) (fun a b=>fC (.mX a b)) (fun a b c e f=>fC (.sO a b c e f)) (fun a b c=>fC (.clear a b c)) (fun a=>fC (.mw a)) (fun a=>fC (.qy a)) (fun a=>fC (.entry a)) (fun a b=>fC (.vN a b)) (fun a b c e=>fC (.vY a b c e)) (fun a b c e=>fC (.iM a b c e)) A8 Dw (fC .bad) d
theorem agu{call:cO}{bH:fx}(hc:pR call bH)(A:cV){r:T}{d:List dH}{H:an}{t:HT}{k:V→List dH→HT→Nat→Prop}(h:c7 H t)(g:aoZ A bH r d t H.length k) :
  ∃ v B H' q,eG call ⟨r,d,H⟩ A=ab (v,⟨r,B,H'⟩)∧c7 H' q∧k v B q H'.length:=by
 have go:∀ {v H' q},eG call ⟨r,d,H⟩ A=(bu r H A).map (fun r'=>(r'.1,⟨r,d,r'.2⟩))→bu r H A=ab (v,H')→c7 H' q→k v d q H'.length →
   ∃ v B H' q,eG call ⟨r,d,H⟩ A=ab (v,⟨r,B,H'⟩)∧c7 H' q∧k v B q H'.length:=
  fun s u l E=>⟨_,d,_,_,by rw [s,u];rfl,l,E⟩
 have gen:eG call ⟨r,d,H⟩ A=(bu r H A).map (fun r'=>(r'.1,⟨r,d,r'.2⟩))→fC A bH r d t H.length k →
   ∃ v B H' q,eG call ⟨r,d,H⟩ A=ab (v,⟨r,B,H'⟩)∧c7 H' q∧k v B q H'.length:=fun s u=>by
  obtain⟨v,H',q,l,E,J⟩:=afM A r H t _ h u;exact go s l E J
 cases A
 case bN x=>
  have g:ajP x bH r d t H.length k:=g;unfold ajP at g;rw [dh]at g;exact go rfl rfl h g
 case pick c a b=>
  have g:Zi c a b bH r d t H.length k:=g;unfold Zi at g;rw [dh]at g;split at g
  ·rename_i v z;cases v with
   | true=>
    simp only [dh]at g;exact go rfl (by simp only [bu,z];rfl) h g
   | false=>
    simp only [dh]at g;exact go rfl (by simp only [bu,z];rfl) h g
  ·exact g.elim
 case alloc zs=>
  have g:Dt zs bH r d t H.length k:=g;unfold Dt at g;rw [rI]at g;obtain⟨q,s,u⟩:=jj h g;exact go rfl rfl s u
 case box x=>
  have g:ajM x bH r d t H.length k:=g;unfold ajM at g;rw [dh]at g;obtain⟨xs,l,g⟩:=ry g;obtain⟨q,s,u⟩:=jj h g;exact go rfl (by simp only [bu,l]) s u
 case build zs ps=>
  have g:Du zs ps bH r d t H.length k:=g;unfold Du at g;rw [rI]at g;obtain⟨cs,l,g⟩:=xW r g;exact go rfl (by simp only [bu,l];rfl) h g
 case load m x=>
  have g:Zh m x bH r d t H.length k:=g;unfold Zh at g;rw [dh]at g;obtain⟨v,l,g⟩:=aab h g;exact go rfl (by simp only [bu,l];rfl) h g
 case store m x y=>
  have g:Dy m x y bH r d t H.length k:=g;unfold Dy at g;rw [dh,dh]at g;obtain⟨xs,l,g⟩:=ry g;obtain⟨E,g⟩:=cY g;split at g
  ·rename_i p N;obtain⟨H',q,J,L,M,g⟩:=amt h g;exact go rfl (by simp only [bu,N,l,E,if_true,J];rfl) L (by rw [M];exact g)
  ·exact g.elim
 case bE x=>
  have g:yG x bH r d t H.length k:=g;unfold yG at g;rw [dh]at g;split at g
  ·rename_i z;exact go rfl (by simp only [bu,z]) h g
  ·rename_i z;exact go rfl (by simp only [bu,z]) h g
  ·exact g.elim
 case bin A x y=>
  have g:ajL A x y bH r d t H.length k:=g;unfold ajL at g;rw [dh,dh]at g;obtain⟨v,l,g⟩:=afo g;exact go rfl (by simp only [bu,l];rfl) h g
 case eX j x=>
  have g:ajN j x bH r d t H.length k:=g;unfold ajN at g;rw [dh]at g;split at g
  ·rename_i z;simp only [qR]at g;exact go rfl (by simp only [bu,z];rfl) h g
  ·exact g.elim
 case aC off x=>
  have g:yE off x bH r d t H.length k:=g;unfold yE at g;rw [dh]at g;split at g
  ·rename_i z;rw [cq]at g;exact go rfl (by simp only [bu,z,jB];rfl) h g
  ·rename_i z;rw [cq]at g;exact go rfl (by simp only [bu,z,jB];rfl) h g
  ·exact g.elim
 case field off m x=>
  have g:Dx off m x bH r d t H.length k:=g;unfold Dx at g;rw [dh]at g;split at g
  ·rename_i z;obtain⟨v,l,g⟩:=uW g;exact go rfl (by simp only [bu,z,nB,l];rfl) h g
  ·exact g.elim
 case aS sz I x i=>
  have g:yF sz I x i bH r d t H.length k:=g;unfold yF at g;rw [dh,dh]at g;obtain⟨v,l,g⟩:=Nx h g;exact go rfl (by simp only [bu,l];rfl) h g
 case extract x i=>
  have g:tP x i bH r d t H.length k:=g;unfold tP at g;rw [dh]at g;split at g
  ·rename_i z;obtain⟨v,l,g⟩:=th g;exact go rfl (by simp only [bu,z,l];rfl) h g
  ·exact g.elim
 case call f args F=>
  have g:Zg f args F bH r d t H.length k:=g;unfold Zg at g;rw [pX]at g;cases F with
  | false=>
   obtain⟨v,H',q,s,u,l⟩:=aa2 hc h g;exact⟨v,d,H',q,by simp only [eG,gG,atY,if_false,s];rfl,u,l⟩
  | true=>
   obtain⟨v,H',q,s,u,l⟩:=hc _ _ H t _ h g;exact⟨v,d,H',q,by simp only [eG,gG,if_true,s];rfl,u,l⟩
 case cj x args F=>
  have g:Dv x args F bH r d t H.length k:=g;unfold Dv at g;rw [dh,pX]at g;obtain⟨⟨c,K⟩,s,g⟩:=kF g;obtain⟨v,H',q,u,l,E⟩:=hc c K H t _ h g;exact⟨v,d,H',q,by simp only [eG,s,u];rfl,l,E⟩
 case len x=>
  have g:ajO x bH r d t H.length k:=g;unfold ajO at g;rw [dh]at g;obtain⟨y,m,s,u,g⟩:=agd h g;exact go rfl (by simp only [bu,s,u];rfl) h g
 case uD m=>
  have g:aiH m bH r d t H.length k:=g;exact go rfl rfl h g
 case append sz bytes x y=>
  have g:yD sz bytes x y bH r d t H.length k:=g;unfold yD at g;rw [dh,dh]at g;obtain⟨v,H',q,s,u,l⟩:=afk h g;exact go rfl (by simp only [bu,s]) u l
 case recover=>
  have g:A8 bH r d t H.length k:=g;exact⟨_,d,H,t,rfl,h,g⟩
 case defer x args=>
  have g:Dw x args bH r d t H.length k:=g;unfold Dw at g;rw [dh,pX]at g;obtain⟨⟨c,K⟩,s,g⟩:=kF g;cases c with
  | fn f=>exact⟨_,.fn f K::d,H,t,by simp only [eG,s],h,g⟩
  | yield b=>exact g.elim
 all_goals exact gen rfl g
end
section
set_option linter.unusedVariables false
def ai2(g:Option (P × Bool))(r:T)(d j:Prop):Prop:=
 Option.rec (motive:=fun _=>Prop) d (fun pw=>Prod.rec (motive:=fun _=>Prop) (fun p w=>Bu p r fun v=>match v with
  | .c (.f (.bool b))=>Bool.rec (motive:=fun _=>Prop) (Bool.rec (motive:=fun _=>Prop) d j w) (Bool.rec (motive:=fun _=>Prop) j d w) b
  | .t []=>j
  | _=>False) pw) g
theorem abG{g:Option (P × Bool)}{r:T}{d l:Prop}(h:ai2 g r d l):(wanted r g=ab ag∧d)∨(wanted r g=ab ah∧l):=by
 cases g with
 | none=>exact .inl ⟨rfl,h⟩
 | some pw=>
  obtain⟨p,w⟩:=pw;change Bu p r _ at h;rw [oA]at h;simp only [wanted];split at h
  ·rename_i b j;rw [j];cases b<;>cases w
   ·exact .inl ⟨rfl,h⟩
   ·exact .inr ⟨rfl,h⟩
   ·exact .inr ⟨rfl,h⟩
   ·exact .inl ⟨rfl,h⟩
  ·rename_i j;rw [j];exact .inr ⟨rfl,h⟩
  ·exact h.elim
abbrev MU:=T→List dH→HT→Nat→Prop
def abz(o:aO)(call:fx)(r:T)(d:List dH)(t:HT)(n:Nat)(k:MU):Prop:=
 aO.rec (motive:=fun _=>Prop) (fun b j g=>ai2 g r (aoZ j call r d t n fun v d t n=>ame b r v fun r=>k r d t n) (ame b r (.t []) fun r=>k r d t n)) o
theorem Cn{call:cO}{bH:fx}(hc:pR call bH){o:aO}{r:T}{d:List dH}{H:an}{t:HT}{k:MU}(h:c7 H t)(b:abz o bH r d t H.length k) :
  ∃ s' l,fA call ⟨r,d,H⟩ o=ab s'∧c7 s'.heap l∧k s'.aA s'.defs l s'.heap.length:=by
 obtain⟨j,y,g⟩:=o;rcases abG b with⟨m,b⟩ | ⟨m,b⟩
 ·obtain⟨v,s,H',l,u,x,q⟩:=agu hc y h b;rw [Gg]at q;exact⟨⟨ka r j v,s,H'⟩,l,by simp only [fA,m,u],x,q⟩
 ·rw [Gg]at b;exact⟨⟨ka r j (.t []),d,H⟩,t,by simp only [fA,m],h,b⟩
def ao7(ops:List aO)(call:fx):T→List dH→HT→Nat→MU→Prop:=
 List.rec (motive:=fun _=>T→List dH→HT→Nat→MU→Prop) (fun r d t n k=>k r d t n) (fun o _ b r d t n k=>abz o call r d t n fun r d t n=>b r d t n k) ops
theorem F2{call:cO}{bH:fx}(hc:pR call bH):∀ {ops:List aO} {r:T} {d:List dH} {H:an} {t:HT} {k:MU},c7 H t→ao7 ops bH r d t H.length k →
  ∃ s' j,fv call ops ⟨r,d,H⟩=ab s'∧c7 s'.heap j∧k s'.aA s'.defs j s'.heap.length
 | [],r,d,H,t,k,h,b=>⟨⟨r,d,H⟩,t,rfl,h,b⟩
 | o::ops,r,d,H,t,k,h,b=>by
  obtain⟨g,t1,l,m,q⟩:=Cn hc h b;obtain⟨x,t2,s,u,v⟩:=F2 hc (r:=g.aA) (d:=g.defs) (H:=g.heap) m q;exact⟨x,t2,by simp only [fv,l];exact s,u,v⟩
structure tN where
 r:T
 d:List dH
 t:HT
 n:Nat
def zO(ops:List aO)(call:fx):T→List dH→HT→Nat→(List tN→MU)→Prop:=
 List.rec (motive:=fun _=>T→List dH→HT→Nat→(List tN→MU)→Prop) (fun r d t n k=>k [⟨r,d,t,n⟩] r d t n)
  (fun o _ q r d t n k=>abz o call r d t n fun r' m u n'=>q r' m u n' fun s j b l g=>k (⟨r,d,t,n⟩::s) j b l g) ops
def aiF(s:St)(x:tN):Prop:=x.r=s.aA∧x.d=s.defs∧c7 s.heap x.t∧x.n=s.heap.length
inductive tO:List St→List tN→Prop
 | nil:tO [] []
 | cons {s:St} {x:tN} {ss:List St} {xs:List tN} (h:aiF s x) (hs:tO ss xs):tO (s::ss) (x::xs)
theorem tO.get{d:List St}{xs:List tN}(h:tO d xs):∀(i:Nat) (x:tN),xs[i]?=ab x→∃ s,d[i]?=ab s∧aiF s x:=by
 induction h with
 | nil=>intro i x b;simp at b
 | cons h j g=>
  intro i x b;cases i with
  | zero=>simp at b;subst b;exact⟨_,rfl,h⟩| succ i=>simpa using g i x (by simpa using b)
theorem vh{call:cO}{bH:fx}(hc:pR call bH):∀ {ops:List aO} {r:T} {d:List dH} {H:an} {t:HT} {k:List tN→MU},c7 H t→zO ops bH r d t H.length k →
  ∃ b xs s' m,dG call ops ⟨r,d,H⟩=ab b∧tO b xs∧b.getLast?=ab s'∧c7 s'.heap m∧k xs s'.aA s'.defs m s'.heap.length
 | [],r,d,H,t,k,h,g=>⟨[⟨r,d,H⟩],[⟨r,d,t,H.length⟩],⟨r,d,H⟩,t,rfl,.cons ⟨rfl,rfl,h,rfl⟩ .nil,rfl,h,g⟩
 | o::ops,r,d,H,t,k,h,g=>by
  obtain⟨j,t1,q,s,u⟩:=Cn hc h g;obtain⟨b,xs,A,t2,v,x,l,y,z⟩:=vh hc (r:=j.aA) (d:=j.defs) (H:=j.heap) s u;refine⟨⟨r,d,H⟩::b,⟨r,d,t,H.length⟩::xs,A,t2,by simp only [dG,q];rw [v],.cons ⟨rfl,rfl,h,rfl⟩ x,?_,y,z⟩;cases b with
  | nil=>simp at l| cons a as=>simpa using l
def Gt(ops:List aO)(xs:List tN)(c:Nat × Nat):Bool:=
 match ops[c.1]?,xs[c.1]?,xs[c.2]? with
 | some o,ab s,ab s'=>match wanted s.r o.g with
  | some ah=>ag
  | _=>match abK s.r s.t.get s.n o.op,abK s.r s'.t.get s'.n o.op with
   | some (v,_),ab (b,_)=>v.beq b| _,_=>ah
 | _,_,_=>ah
theorem abg{ops:List aO}{l:List St}{xs:List tN}(h:tO l xs){c:Nat × Nat}(hc:Gt ops xs c=ag):sameAt ops l c=ag:=by
 unfold Gt at hc;split at hc
 ·rename_i o x O z A B;obtain⟨s,m,q,K,u,y⟩:=h.get _ _ A;obtain⟨s',F,L,M,H,I⟩:=h.get _ _ B;unfold sameAt;rw [z,m,F];simp only;rw [←q];split at hc
  ·rename_i E;rw [E]
  ·split at hc
   ·rename_i v e N J g j;rw [u,y]at g;rw [H,I]at j;have b:=zX x.r s.heap o.op;rw [g]at b;have d:=zX x.r s'.heap o.op;rw [j]at d;rw [←b,←d];split
    ·rfl
    ·exact hc
   ·simp at hc
 ·simp at hc
def qI(ops:List aO)(iT:List (Nat × Nat))(call:fx)(r:T)(d:List dH)(t:HT)(n:Nat)(k:MU):Prop:=
 List.rec (motive:=fun _=>Prop) (ao7 ops call r d t n k) (fun _ _ _=>zO ops call r d t n fun xs r d t n=>sm (iT.all (Gt ops xs)) (k r d t n)) iT
theorem EF{call:cO}{bH:fx}(hc:pR call bH){ops:List aO}{iT:List (Nat × Nat)}{r:T}{d:List dH}{H:an}{t:HT}{k:MU}(h:c7 H t)(b:qI ops iT bH r d t H.length k) :
  ∃ s' g,fQ call ops iT ⟨r,d,H⟩=ab s'∧c7 s'.heap g∧k s'.aA s'.defs g s'.heap.length:=by
 cases iT with
 | nil=>exact F2 hc h b
 | cons c cs=>
  have b:zO ops bH r d t H.length (fun xs r d t n=>sm ((c::cs).all (Gt ops xs)) (k r d t n)):=b;obtain⟨x,xs,s',g,l,m,q,s,u⟩:=vh hc h b;obtain⟨j,v⟩:=nv u;refine⟨s',g,?_,s,v⟩;simp only [fQ,l];rw [bg,q];rw [at4]at j ⊢;exact fun c hc=>abg m (j c hc)
abbrev Go1:=Option Nat→List cG→MU
abbrev aff:=Option ay→MU
abbrev cH:=fx→Nat→aff→Go1→Option Nat→List cG→MU
def Fp:cH:=fun _ _ _ go ro rest r d t n=>go ro rest r d t n
def afr(ops:List aO)(iT:List (Nat × Nat)):cH:=fun call _ _ go ro rest r d t n=>
 Option.rec (motive:=fun _=>Prop) (qI ops iT call r d t n fun r d t n=>go ro rest r d t n)
  (fun _=>sm (ops.all (·.op.ec)) (qI ops iT call r d t n fun r d t n=>go ro rest r d t n)) ro
def arC(a b:ay)(_ _:cH):cH:=fun _ _ _ go ro rest r d t n=>go ro (.code a::.code b::rest) r d t n
def ZG(c:Arg)(a b:ay)(_ _:cH):cH:=fun _ _ _ go ro rest r d t n=>qd c r fun v=>match v with
 | .c (.f (.bool v))=>Bool.rec (motive:=fun _=>Prop) (go ro (.code b::rest) r d t n) (go ro (.code a::rest) r d t n) v
 | _=>False
def aj'(id:Nat)(a:ay)(_:cH):cH:=fun _ _ _ go ro rest r d t n=>go ro (.code a::.inBlock id::rest) r d t n
def an9(a:ay)(_:cH):cH:=fun _ _ _ go ro rest r d t n=>go ro (.code a::.inLoop a::rest) r d t n
def yL(f:Arg)(ps:List P)(as bd:ay)(_ _:cH):cH:=fun call fn _ go ro rest r d t n=>
 Option.rec (motive:=fun _=>Prop)
  (oY (.kM ag) t n fun t b=>oY (.lp fn r ps as bd .ready ae n) t b fun t l=>qd f r fun x=>
   rU (ca x [.c (.yl b)]) fun j=>Prod.rec (motive:=fun _=>Prop) (fun c m=>Callee.rec (motive:=fun _=>Prop)
    (fun g=>call (.fn g) m t l fun _ t n'=>go ae (.jv b::rest) r (.qb n::d) t n') (fun _=>False) c) j)
  (fun _=>False) ro
def ZH(id:Nat):cH:=fun _ _ b go ro rest r d t n=>
 Option.rec (motive:=fun _=>Prop) (Option.rec (motive:=fun _=>Prop) False (fun _=>b (ab (.exit id)) r d t n) ro) (fun k=>go ro k r d t n) (exitTo id rest)
def arB:cH:=fun _ _ b _ _ _ r d t n=>b (ab .ret) r d t n
def arA:cH:=fun _ _ _ _ _ _ _ _ _ _=>False
def aka(a:ay)(_:cH):cH:=fun _ _ _ go ro rest r d t n=>go ro (.code a::.inScope a::rest) r d t n
def aj_(_:Nat):cH:=Fp
def an8(l:Nat):cH:=fun _ _ _ go ro rest r d t n=>rU (gotoIn l rest) fun k=>go ro k r d t n
def Bo(c:ay):cH:=ay.rec (motive:=fun _=>cH) Fp afr arC ZG aj' an9 yL ZH arB arA aka aj_ an8 c
def akr(_:Nat):cH:=Fp
def aom(c:ay):cH:=fun _ _ _ go ro rest r d t n=>go ro (.code c::.inLoop c::rest) r d t n
def DS(b:Nat):cH:=fun _ _ _ go ro rest r d t n=>gn b t fun bp=>match bp with
 | .lp f tmps ps as bd st pending g=>sm (match st with | .busy=>ah | _=>ag) (gq (.lp f tmps ps as bd .exhausted pending g) t b fun t=>match pending with
  | none=>go ro rest r d t n| some .ret=>go ro (.code .ret::rest) r d t n| some (.exit id)=>go ro (.code (.exit id)::rest) r d t n
  | some _=>False)
 | _=>False
def aiM:cH:=fun _ _ _ go ro rest r d t n=>Option.rec (motive:=fun _=>Prop) False (fun b=>gn b t fun bp=>match bp with
 | .lp f tmps ps as bd .ready pending g=>gq (.lp f tmps ps as bd .busy pending g) t b fun t=>go ro rest r d t n
 | _=>False) ro
def aks(_:ay):cH:=Fp
def aiN(x:cG):cH:=cG.rec (motive:=fun _=>cH) Bo akr aom DS aiM aks x
def runK(call:fx)(fn:Nat)(b:aff)(m:Nat):Go1:=
 Nat.rec (motive:=fun _=>Go1) (fun _ _ _ _ _ _=>False)
  (fun _ j ro g r d t n=>List.rec (motive:=fun _=>Prop) (b ae r d t n) (fun x rest _=>aiN x call fn b j ro rest r d t n) g) m
def am7(call:cO)(fn m:Nat)(ro:Option Nat)(g:List cG)(s:St)(d:aff):Prop:=
 ∃ b s' j,run call fn m ro g s=ab (b,s')∧c7 s'.heap j∧d b s'.aA s'.defs j s'.heap.length
theorem Gp{call:cO}{bH:fx}(hc:pR call bH)(fn:Nat)(j:aff):∀(m:Nat) (ro:Option Nat) (s:List cG) (r:T) (d:List dH) (H:an) (t:HT),
  c7 H t→runK bH fn j m ro s r d t H.length→am7 call fn m ro s ⟨r,d,H⟩ j:=by
 intro m;induction m with
 | zero=>intro ro s r d H t h q;exact q.elim
 | succ m ih=>
  intro ro s r d H t h q;have go:∀ {y} {s':St} {E:HT},run call fn (m+1) ro s ⟨r,d,H⟩=run call fn m ro y s'→c7 s'.heap E→runK bH fn j m ro y s'.aA s'.defs E s'.heap.length→am7 call fn (m+1) ro s ⟨r,d,H⟩ j:=by
   intro y s' E u z B;obtain⟨L,N,O,W,X,Y⟩:=ih ro y s'.aA s'.defs s'.heap E z B;exact⟨L,N,O,by rw [u];exact W,X,Y⟩
  cases s with
  | nil=>exact⟨ae,⟨r,d,H⟩,t,rfl,h,q⟩
  | cons x rest=>
   have q:aiN x bH fn j (runK bH fn j m) ro rest r d t H.length:=q;cases x with
   | inBlock id=>exact go (s':=⟨r,d,H⟩) (by simp only [run]) h q
   | inLoop c=>exact go (s':=⟨r,d,H⟩) (by simp only [run]) h q
   | inScope c=>exact go (s':=⟨r,d,H⟩) (by simp only [run]) h q
   | jv b=>
    have q:DS b bH fn j (runK bH fn j m) ro rest r d t H.length:=q;unfold DS at q;obtain⟨bp,u,z⟩:=dq q;rw [h]at u;have u:H[b]?=ab bp:=u;split at z
    ·rename_i f tmps ps as bd st pending F _;obtain⟨B,z⟩:=nv z;obtain⟨E,I,A⟩:=dW h z;have J:st≠.busy:=by rintro rfl;simp at B
     have M:H.length=(H.set b (.lp f tmps ps as bd .exhausted pending F)).length:=by simp
     rw [M]at A;split at A
     ·exact go (s':=⟨r,d,H.set b (.lp f tmps ps as bd .exhausted ae F)⟩) (by simp only [run,u,aY J]) I A
     ·exact go (s':=⟨r,d,H.set b (.lp f tmps ps as bd .exhausted (ab .ret) F)⟩) (by simp only [run,u,aY J]) I A
     ·exact go (s':=⟨r,d,H.set b (.lp f tmps ps as bd .exhausted (ab (.exit _)) F)⟩) (by simp only [run,u,aY J]) I A
     ·exact A.elim
    ·exact z.elim
   | ns=>
    have q:aiM bH fn j (runK bH fn j m) ro rest r d t H.length:=q;cases ro with
    | none=>exact q.elim
    | some b=>
     obtain⟨bp,u,z⟩:=dq q;rw [h]at u;have u:H[b]?=ab bp:=u;split at z
     ·rename_i f tmps ps as bd pending F _;obtain⟨E,I,A⟩:=dW h z;have M:H.length=(H.set b (.lp f tmps ps as bd .busy pending F)).length:=by simp
      rw [M]at A;exact go (s':=⟨r,d,H.set b (.lp f tmps ps as bd .busy pending F)⟩) (by simp only [run,u]) I A
     ·exact z.elim
   | code c=>
    cases c with
    | skip=>exact go (s':=⟨r,d,H⟩) (by simp only [run]) h q
    | label l=>exact go (s':=⟨r,d,H⟩) (by simp only [run]) h q
    | scope a=>exact go (s':=⟨r,d,H⟩) (by simp only [run]) h q
    | goto l=>
     obtain⟨k',K,q⟩:=kF (show rU (gotoIn l rest) (fun k'=>runK bH fn j m ro k' r d t H.length) from q);exact go (s':=⟨r,d,H⟩) (by simp only [run,K]) h q
    | bad=>exact q.elim| ret=>exact⟨ab .ret,⟨r,d,H⟩,t,rfl,h,q⟩| seq a b=>exact go (s':=⟨r,d,H⟩) (by simp only [run]) h q
    | block id a=>exact go (s':=⟨r,d,H⟩) (by simp only [run]) h q
    | loop a=>exact go (s':=⟨r,d,H⟩) (by simp only [run]) h q
    | exit id=>
     have q:ZH id bH fn j (runK bH fn j m) ro rest r d t H.length:=q;unfold ZH at q;cases K:exitTo id rest with
     | some k'=>
      rw [K]at q;exact go (s':=⟨r,d,H⟩) (by simp only [run,K]) h q
     | none=>
      rw [K]at q;cases ro with
      | none=>exact q.elim| some b=>exact⟨ab (.exit id),⟨r,d,H⟩,t,by simp only [run,K,Option.isSome_some,if_true],h,q⟩
    | cond c a b=>
     have q:ZG c a b (Bo a) (Bo b) bH fn j (runK bH fn j m) ro rest r d t H.length:=q;unfold ZG at q;rw [dh]at q;split at q
     ·rename_i v U;cases v with
      | true=>exact go (s':=⟨r,d,H⟩) (by simp only [run,U,if_true]) h q
      | false=>exact go (s':=⟨r,d,H⟩) (by simp only [run,U,atY,if_false]) h q
     ·exact q.elim
    | region ops iT=>
     have key:(ro.isSome&&!ops.all (·.op.ec))=ah∧qI ops iT bH r d t H.length (fun r d t n=>runK bH fn j m ro rest r d t n):=by
      cases ro with
      | none=>exact⟨rfl,q⟩
      | some b=>
       obtain⟨u,z⟩:=nv (show sm (ops.all (·.op.ec)) (qI ops iT bH r d t H.length (fun r d t n=>runK bH fn j m (ab b) rest r d t n)) from q);exact⟨by rw [u];rfl,z⟩
     obtain⟨s',E,u,z,B⟩:=EF hc h key.2;exact go (s':=s') (by simp only [run,key.1,atY,if_false,u]) z B
    | kR f ps as bd=>
     have q:yL f ps as bd (Bo as) (Bo bd) bH fn j (runK bH fn j m) ro rest r d t H.length:=q;cases ro with
     | some b=>exact q.elim
     | none=>
      unfold yL at q;obtain⟨t1,u,q⟩:=jj h q;obtain⟨t2,z,q⟩:=jj u q;rw [dh]at q;obtain⟨⟨c,vs⟩,B,q⟩:=kF q;have Q:(H++[c6.kM ag]).length=H.length+1:=by simp
      have S:H++[c6.kM ag]++[c6.lp fn r ps as bd .ready ae H.length]=H++[.kM ag,.lp fn r ps as bd .ready ae H.length]:=by simp
      rw [Q]at B;rw [S]at z;cases c with
      | yield b=>exact q.elim
      | fn g=>
       have q:bH (.fn g) vs t2 (H++[c6.kM ag]++[c6.lp fn r ps as bd .ready ae H.length]).length (fun _ t n'=>runK bH fn j m ae (.jv (H++[c6.kM ag]).length::rest) r (.qb H.length::d) t n'):=q;rw [S,Q]at q;obtain⟨v,H',E,I,A,Z⟩:=hc _ _ _ _ _ z q;exact go (s':=⟨r,.qb H.length::d,H'⟩) (by simp only [run,Option.isSome_none,atY,if_false,B,I]) A Z
def ZR(call:fx)(ds:List dH):HT→Nat→(HT→Nat→Prop)→Prop:=
 List.rec (motive:=fun _=>HT→Nat→(HT→Nat→Prop)→Prop) (fun t n k=>k t n)
  (fun x _ d t n k=>dH.rec (motive:=fun _=>Prop)
   (fun b=>gn b t fun bp=>match bp with
    | .kM ag=>gq (.kM ah) t b fun t=>d t n k
    | _=>False)
   (fun f args=>call (.fn f) args t n fun _ t n=>d t n k) x) ds
theorem ue{call:cO}{bH:fx}(hc:pR call bH):∀ {ds:List dH} {H:an} {t:HT} {k:HT→Nat→Prop},c7 H t→ZR bH ds t H.length k→∃ H' g,dV call ds H=ab H'∧c7 H' g∧k g H'.length
 | [],H,t,k,h,l=>⟨H,t,rfl,h,l⟩
 | .qb b::ds,H,t,k,h,l=>by
  obtain⟨bp,d,j⟩:=dq l;rw [h]at d;have d:H[b]?=ab bp:=d;split at j
  ·obtain⟨t1,q,m⟩:=dW h j;have y:H.length=(H.set b (.kM ah)).length:=by simp
   have m:ZR bH ds t1 H.length k:=m;rw [y]at m;obtain⟨H',g,s,u,x⟩:=ue hc q m;exact⟨H',g,by simp only [dV,d];exact s,u,x⟩
  ·exact j.elim
 | .fn f args::ds,H,t,k,h,l=>by
  obtain⟨v,z,t1,d,j,q⟩:=hc _ _ H t _ h l;obtain⟨H',g,s,u,x⟩:=ue hc (ds:=ds) j q;exact⟨H',g,by simp only [dV,d];exact s,u,x⟩
def aqq(r:T)(t:HT)(a:jr)(k:V→Prop):Prop:=jr.rec (motive:=fun _=>Prop)
 (fun p=>Bu p r fun v=>match v with
  | .t _=>False
  | v=>k v)
 (fun p m=>Bu p r fun v=>ldK t m v k) a
theorem ahp{H:an}{t:HT}(h:c7 H t){r:T}(a:jr)(k:V→Prop)(b:aqq r t a k):∃ v,bw r H a=ab v∧k v:=by
 cases a with
 | tmp p=>
  change Bu p r _ at b;rw [oA]at b;simp only [bw];cases d:r.get p with
  | t g=>rw [d]at b;exact b.elim| _=>rw [d]at b;exact⟨_,rfl,b⟩
 | cell p m=>
  change Bu p r _ at b;rw [oA]at b;exact aab h b
def B'(r:T)(t:HT)(b:List jr)(k:V→Prop):Prop:=yT (aqq r t) b fun vs=>match vs with
 | [v]=>k v| vs=>k (.t vs)
theorem B_{H:an}{t:HT}(h:c7 H t){r:T}{g:List jr}{k:V→Prop}(m:B' r t g k):∃ v,Km.results r H g=ab v∧k v:=by
 obtain⟨j,l,d⟩:=jA (ahp h) m;unfold Km.results;rw [l];split at d
 ·exact⟨_,rfl,d⟩
 ·rename_i b;refine⟨.t j,?_,d⟩
  match j,b with
  | [v],b=>exact absurd rfl (b v)| [],_=>rfl| _::_::_,_=>rfl
def fnK(tab:BT aB)(m:Nat)(call:fx)(f:Nat)(args:List V)(t:HT)(n:Nat)(k:V→HT→Nat→Prop):Prop:=
 gn f tab fun b=>aB.rec (motive:=fun _=>Prop) (fun ps g body=>jd args.length ps.length (tt ps args .e fun r=>
  runK call f (fun _ r d t n=>ZR call d t n fun t n=>B' r t g fun v=>k v t n) m ae [.code body] r [] t n)) b
def abO(m:Nat)(call:fx)(b:Nat)(args:List V)(t:HT)(n:Nat)(k:V→HT→Nat→Prop):Prop:=
 gn b t fun bp=>match bp with
  | .lp f tmps ps as bd _ _ _=>jd args.length ps.length (tt ps args tmps fun r=>
    runK call f (fun q _ d t n=>sm d.isEmpty (gn b t fun bp=>match bp with
     | .lp v g s as' l _ _ u=>match q with
      | none=>gq (.lp v g s as' l .ready ae u) t b fun t=>k (.c (.f (.bool ag))) t n
      | some j=>gq (.lp v g s as' l .done (ab j) u) t b fun t=>k (.c (.f (.bool ah))) t n
     | _=>False)) m (ab b) [.code as,.ns,.code bd] r [] t n)
  | _=>False
def bH(tab:BT aB)(m:Nat)(d:Nat):fx:=
 Nat.rec (motive:=fun _=>fx) (fun _ _ _ _ _=>False)
  (fun _ g c args t n k=>Callee.rec (motive:=fun _=>Prop) (fun f=>fnK tab m g f args t n k) (fun b=>abO m g b args t n k) c) d
def jY:Nat→List V→an→Option (Option (V × an)):=fun _ _ _=>ae
theorem ZK(tab:BT aB)(m:Nat):∀ g,pR (ef tab.get jY m g) (bH tab m g):=by
 intro g;induction g with
 | zero=>intro c args H t k h d;exact d.elim
 | succ g F=>
  intro c args H t k h d;cases c with
  | fn f=>
   obtain⟨I,u,d⟩:=dq (show fnK tab m (bH tab m g) f args t H.length k from d);obtain⟨ps,K,body⟩:=I;obtain⟨z,d⟩:=cY d;rw [pz]at d;obtain⟨s,s',J,A,x,d⟩:=Gp F f _ m ae [.code body] _ [] H t h d;obtain⟨H',l,B,q,d⟩:=ue F x d;obtain⟨v,y,d⟩:=B_ q d;exact⟨v,H',l,by simp only [ef,jY,u,z,if_true,A,B,y];rfl,q,d⟩
  | yield b=>
   obtain⟨bp,u,d⟩:=dq (show abO m (bH tab m g) b args t H.length k from d);rw [h]at u;have u:H[b]?=ab bp:=u;split at d
   ·obtain⟨z,d⟩:=cY d;rw [pz]at d;obtain⟨s,s',J,A,x,d⟩:=Gp F _ _ m (ab b) _ _ [] H t h d;obtain⟨B,d⟩:=nv d;obtain⟨blk',q,d⟩:=dq d;rw [x]at q;have q:s'.heap[b]?=ab blk':=q;split at d
    ·cases s with
     | none=>
      obtain⟨l,y,E⟩:=dW x d;exact⟨_,_,l,by simp only [ef,u,z,if_true,A,B,q];rfl,y,by rw [List.length_set];exact E⟩
     | some j=>
      obtain⟨l,y,E⟩:=dW x d;exact⟨_,_,l,by simp only [ef,u,z,if_true,A,B,q];rfl,y,by rw [List.length_set];exact E⟩
    ·exact d.elim
   ·exact d.elim
def isTrue(v:V)(_:HT)(_:Nat):Prop:=match v with
 | .c (.f (.bool b))=>Bool.rec (motive:=fun _=>Prop) False True b
 | _=>False
theorem DE{tab:BT aB}{m d f:Nat}(h:bH tab m d (.fn f) [] .e 0 isTrue):∃ H',ef tab.get jY m d (.fn f) [] []=ab (.c (.f (.bool ag)),H'):=by
 obtain⟨v,H',q,j,l,g⟩:=ZK tab m d (.fn f) [] [] .e isTrue c7.nil h;refine⟨H',?_⟩;rw [j];unfold isTrue at g;split at g
 ·rename_i b;cases b with
  | true=>rfl| false=>exact g.elim
 ·exact g.elim
end
theorem aI{P:Nat→aB→Prop}:∀ i a,(BT.e:BT aB).get i=ab a→P i a:=fun i a h=>by cases i<;>cases h
theorem aJ{P:Nat→aB→Prop}{l r:BT aB}{x:aB}(d:∀ i a,l.get i=ab a→P (2*i+1) a)(g:P 0 x)
  (hr:∀ i a,r.get i=ab a→P (2*i+2) a):∀ i a,(BT.n l x r).get i=ab a→P i a:=by
 intro i a h;cases i with
 | zero=>cases h;exact g
 | succ m=>
  have b:(if m % 2=0 then l.get (m / 2)else r.get (m / 2))=ab a:=h;split at b
  ·have:=d _ _ b;rwa [show 2*(m / 2)+1=m+1 by omega]at this
  ·have:=hr _ _ b;rwa [show 2*(m / 2)+2=m+1 by omega]at this
theorem N0(Q:Program)(σ:Nat→FuncId):Zb Q σ jY:=fun f args H r H' h=>by cases h
theorem B8{tab:BT aB}{f:Nat}(h:∃ m b,bH tab m b (.fn f) [] .e 0 isTrue=True):∃ m b H',ef tab.get jY m b (.fn f) [] []=ab (.c (.f (.bool ag)),H'):=by
 obtain⟨m,b,h⟩:=h;obtain⟨H',d⟩:=DE (of_eq_true h);exact⟨m,b,H',d⟩
section
def yx(c1 c2:cO):Prop:=∀ c args H r,c1 c args H=ab r→c2 c args H=ab r
section
variable{c1 c2:cO}(hc:yx c1 c2)
include hc
theorem vV{c:Nat}{args:List V}{H:an}{r:V × an}(h:en c1 c args H=ab r):en c2 c args H=ab r:=by
 unfold en at h ⊢;split at h
 ·simp at h
 ·rename_i g d;split at h
  ·simp at h
  ·rename_i r0 H0 b;simp only [hc _ _ _ _ b];exact h
theorem zt{b:Bool}{c:Nat}{args:List V}{H:an}{r:V × an}(h:gG c1 b c args H=ab r):gG c2 b c args H=ab r:=by
 unfold gG at h ⊢;split at h
 ·rename_i d;simp only [d,if_true];exact hc _ _ _ _ h
 ·rename_i d;simp only [d];exact vV hc h
theorem yo{s:St}{g:cV}{r:V × St}(h:eG c1 s g=ab r):eG c2 s g=ab r:=by
 cases g with
 | call f args b=>
  simp only [eG,IN]at h ⊢;obtain⟨a,d,rfl⟩:=h;exact⟨a,zt hc d,rfl⟩
 | cj x args b=>
  simp only [eG]at h ⊢;split at h
  ·simp only [IN]at h ⊢;obtain⟨a,d,rfl⟩:=h;exact⟨a,hc _ _ _ _ d,rfl⟩
  ·simp at h
 | _=>exact h
theorem vr{s s':St}{o:aO}(h:fA c1 s o=ab s'):fA c2 s o=ab s':=by
 unfold fA at h ⊢;cases g:wanted s.aA o.g with
 | none=>simp [g]at h
 | some b=>
  cases b with
  | false=>simpa [g]using h
  | true=>
   simp only [g]at h ⊢;cases d:eG c1 s o.op with
   | none=>simp [d]at h
   | some x=>
    obtain⟨v,j⟩:=x;rw [yo hc d];rw [d]at h;exact h
theorem dz:∀(os:List aO) (s:St) {s':St},fv c1 os s=ab s'→fv c2 os s=ab s'
 | [],s,s',h=>h
 | o::os,s,s',h=>by
  simp only [fv]at h ⊢;split at h
  ·rename_i d b;simp only [vr hc b];exact dz os d h
  ·simp at h
theorem qS:∀(os:List aO) (s:St) {b:List St},dG c1 os s=ab b→dG c2 os s=ab b
 | [],s,b,h=>h
 | o::os,s,b,h=>by
  simp only [dG]at h ⊢;split at h
  ·rename_i j d;simp only [vr hc d];split at h
   ·rename_i l g;simp only [qS os j g];exact h
   ·simp at h
  ·simp at h
theorem zY{ops:List aO}{iT:List (Nat × Nat)}{s s':St}(h:fQ c1 ops iT s=ab s'):fQ c2 ops iT s=ab s':=by
 unfold fQ at h ⊢;split at h
 ·exact dz hc _ _ h
 ·split at h
  ·rename_i d b;simp only [qS hc _ _ b];exact h
  ·simp at h
theorem qK{fn:Nat}:∀(n n':Nat) (ro:Option Nat) (j:List cG) (s:St) {r:Option ay × St},n≤n' →
  run c1 fn n ro j s=ab r→run c2 fn n' ro j s=ab r
 | 0,_,_,_,_,_,_,h=>by simp [run]at h
 | n+1,0,_,_,_,_,B,_=>by omega
 | n+1,n'+1,ro,j,s,r,B,h=>by
  have m:=fun ro j s r h=>qK (fn:=fn) n n' ro j s (r:=r) (by omega) h
  match j,h with
  | [],h=>exact h| .inBlock _::k,h=>exact m _ _ _ _ h| .inLoop c::k,h=>exact m _ _ _ _ h
  | .jv b::k,h=>
   simp only [run]at h ⊢;split at h
   ·rename_i f tmps ps as bd st pending d y
    try simp only [y]
    split at h
    ·simp at h
    ·rename_i z
     try simp only [z,if_false]
     split at h
     ·exact m _ _ _ _ h
     ·exact m _ _ _ _ h
     ·exact m _ _ _ _ h
     ·simp at h
   ·simp at h
  | .ns::k,h=>
   simp only [run]at h ⊢;split at h
   ·simp at h
   ·rename_i b;split at h
    ·rename_i y
     try simp only [y]
     exact m _ _ _ _ h
    ·simp at h
  | .code .skip::k,h=>exact m _ _ _ _ h| .inScope _::k,h=>exact m _ _ _ _ h| .code (.label _)::k,h=>exact m _ _ _ _ h| .code (.scope a)::k,h=>exact m _ _ _ _ h
  | .code (.goto l)::k,h=>
   simp only [run]at h ⊢;split at h
   ·rename_i u;(try simp only [u]);exact m _ _ _ _ h
   ·simp at h
  | .code .bad::_,h=>simp [run]at h| .code .ret::_,h=>exact h
  | .code (.exit id)::k,h=>
   simp only [run]at h ⊢;split at h
   ·rename_i u;(try simp only [u]);exact m _ _ _ _ h
   ·rename_i u;(try simp only [u]);exact h
  | .code (.seq a b)::k,h=>exact m _ _ _ _ h| .code (.block id a)::k,h=>exact m _ _ _ _ h| .code (.loop a)::k,h=>exact m _ _ _ _ h
  | .code (.cond c a b)::k,h=>
   simp only [run]at h ⊢;split at h
   ·rename_i v E;(try simp only [E]);exact m _ _ _ _ h
   ·simp at h
  | .code (.region ops iT)::k,h=>
   simp only [run]at h ⊢;split at h
   ·simp at h
   ·rename_i q
    try simp only [q]
    split at h
    ·rename_i H x
     try simp only [zY hc x]
     exact m _ _ _ _ h
    ·simp at h
  | .code (.kR f ps as bd)::k,h=>
   simp only [run]at h ⊢;split at h
   ·simp at h
   ·rename_i q
    try simp only [q]
    split at h
    ·rename_i g args A
     try simp only [A]
     split at h
     ·rename_i v F x
      try simp only [hc _ _ _ _ x]
      exact m _ _ _ _ h
     ·simp at h
    ·simp at h
theorem jK:∀(ds:List dH) (H:an) {H':an},dV c1 ds H=ab H'→dV c2 ds H=ab H'
 | [],H,H',h=>h
 | .qb b::ds,H,H',h=>by
  simp only [dV]at h ⊢;split at h
  ·rename_i j;exact jK ds _ h
  ·simp at h
 | .fn f args::ds,H,H',h=>by
  simp only [dV]at h ⊢;split at h
  ·rename_i v g d
   try simp only [hc _ _ _ _ d]
   exact jK ds _ h
  ·simp at h
end
variable{tab:Nat→Option aB}{oR:Nat→List V→an→Option (Option (V × an))}
theorem tV{m l:Nat}(v:m≤l):∀(d g:Nat),d≤g→yx (ef tab oR m d) (ef tab oR l g)
 | 0,_,_,_,_,_,_,h=>by simp [ef]at h
 | d+1,0,E,_,_,_,_,_=>by omega
 | d+1,g+1,E,c,args,H,r,h=>by
  have z:yx (ef tab oR m d) (ef tab oR l g):=tV v d g (by omega)
  match c,h with
  | .fn f,h=>
   simp only [ef]at h ⊢;split at h
   ·rename_i r' x;(try simp only [x]);exact h
   ·rename_i x
    try simp only [x]
    split at h
    ·simp at h
    ·rename_i I q
     try simp only [q]
     split at h
     ·rename_i u
      try simp only [u,if_true]
      split at h
      ·rename_i j s y
       try simp only [qK z m l _ _ _ v y]
       split at h
       ·rename_i F A
        try simp only [jK z _ _ A]
        exact h
       ·simp at h
      ·simp at h
     ·simp at h
  | .yield b,h=>
   simp only [ef]at h ⊢;split at h
   ·rename_i f tmps ps as bd J K L B
    try simp only [B]
    split at h
    ·rename_i u
     try simp only [u,if_true]
     split at h
     ·rename_i j s y
      try simp only [qK z m l _ _ _ v y]
      exact h
     ·simp at h
    ·simp at h
   ·simp at h
end
section
variable(tab:Nat→Option aB)
abbrev CF(m d:Nat):cO:=ef tab jY m d
def Ev(c:Callee)(args:List V)(H:an)(r:V)(H':an):Prop:=∃ m d,CF tab m d c args H=ab (r,H')
def bB(f:Nat)(args:List V)(r:V):Prop:=∃ r0 H',Ev tab (.fn f) args [] r0 H'∧fZ deep H' r0=ab r
def WP(fn:Nat)(ro:Option Nat)(b:List cG)(s:St)(Q:Option ay→St→Prop):Prop:=
 ∃ n m d j s',run (CF tab m d) fn n ro b s=ab (j,s')∧Q j s'
def kI(s:St)(op:cV)(K:V→St→Prop):Prop:=
 match op with
 | .call f args h=>
  if h then ∃ r H',Ev tab (.fn f) (dj s.aA args) s.heap r H'∧K r { s with heap:=H' }
  else ∃ b r,aZ (bX deep s.heap) (dj s.aA args)=ab b∧bB tab f b r∧K r { s with heap:=(dj s.aA args).foldl (mkV deep) s.heap }
 | .cj x args _=>∃ c as r H',ca (x.ev s.aA) (dj s.aA args)=ab (c,as)∧Ev tab c as s.heap r H'∧K r { s with heap:=H' }
 | .recover=>K (.c (.f .mZ)) s| .defer x args=>∃ f as,ca (x.ev s.aA) (dj s.aA args)=ab (.fn f,as)∧K .top { s with defs:=.fn f as::s.defs }
 | op=>∃ v H',bu s.aA s.heap op=ab (v,H')∧K v { s with heap:=H' }
def vE:List aO→St→(St→Prop)→Prop
 | [],s,K=>K s
 | o::os,s,K=>match wanted s.aA o.g with
  | some ag=>kI tab s o.op fun v s'=>vE os { s' with aA:=ka s'.aA o.dst v } K
  | some ah=>vE os { s with aA:=ka s.aA o.dst (.t []) } K
  | none=>False
variable{tab}
variable{c:Callee}{args:List V}{H H':an}{r:V}
theorem kv{m g d b:Nat}(l:m≤g)(j:d≤b):yx (CF tab m d) (CF tab g b):=tV l d b j
theorem Ev.det{r2:V}{j:an}(b:Ev tab c args H r H')(g:Ev tab c args H r2 j):r=r2∧H'=j:=by
 obtain⟨m,d,b⟩:=b;obtain⟨s,l,g⟩:=g;have u:=kv (tab:=tab) (auh m s) (auh d l) _ _ _ _ b;have q:=kv (tab:=tab) (aud m s) (aud d l) _ _ _ _ g;rw [u]at q;simpa using q
theorem bB.det{f:Nat}{r2:V}(g:bB tab f args r)(d:bB tab f args r2):r=r2:=by
 obtain⟨a,m,j,g⟩:=g;obtain⟨b,q,l,d⟩:=d;obtain⟨rfl,rfl⟩:=j.det l;rw [g]at d;simpa using d
theorem MV{s:St}{u:cV}{K:V→St→Prop}(h:kI tab s u K):∃ m d v s',eG (CF tab m d) s u=ab (v,s')∧K v s':=by
 cases u with
 | call f args b=>
  simp only [kI]at h;split at h
  ·rename_i q;obtain⟨r,H',⟨m,d,g⟩,l⟩:=h;exact⟨m,d,r,_,by simp [eG,gG,q,g],l⟩
  ·rename_i q;obtain⟨z,r,j,⟨r0,H0,⟨m,d,g⟩,l⟩,y⟩:=h;exact⟨m,d,r,_,by simp [eG,gG,q,en,j,g,l],y⟩
 | cj x args b=>
  obtain⟨c,as,r,H',j,⟨m,d,g⟩,l⟩:=h;exact⟨m,d,r,_,by simp [eG,j,g],l⟩
 | recover=>exact⟨0,0,_,_,rfl,h⟩
 | «defer» x args=>
  obtain⟨f,as,j,g⟩:=h;exact⟨0,0,.top,_,by simp [eG,j],g⟩
 | _=>
  obtain⟨v,H',j,g⟩:=h;exact⟨0,0,v,_,by simp [eG,j],g⟩
theorem jN:∀(os:List aO) (s:St) {K:St→Prop},vE tab os s K→∃ m d s',fv (CF tab m d) os s=ab s'∧K s'
 | [],s,K,h=>⟨0,0,s,rfl,h⟩
 | o::os,s,K,h=>by
  simp only [vE]at h;split at h
  ·rename_i q;obtain⟨m,d,v,A,y,z⟩:=MV h;obtain⟨g,b,s',j,l⟩:=jN os _ z;refine⟨max m g,max d b,s',?_,l⟩;have u:=yo (kv (tab:=tab) (auh m g) (auh d b)) y;have x:=dz (kv (tab:=tab) (aud m g) (aud d b)) os _ j;simp only [fv,fA,q,u,x]
  ·rename_i q;obtain⟨g,b,s',j,l⟩:=jN os _ h;exact⟨g,b,s',by simp only [fv,fA,q,j],l⟩
  ·exact h.elim
variable{fn:Nat}{ro:Option Nat}{k:List cG}{s:St}{Q:Option ay→St→Prop}{a b:ay}
theorem mN{g:List cG}{b:List cG}{s':St}(h:WP tab fn ro b s' Q)
  (u:∀ m d n,run (CF tab m d) fn (n+1) ro g s=run (CF tab m d) fn n ro b s'):WP tab fn ro g s Q:=by
 obtain⟨n,m,d,j,v,l,q⟩:=h;exact⟨n+1,m,d,j,v,by rw [u,l],q⟩
theorem jX(h:Q ae s):WP tab fn ro [] s Q:=⟨1,0,0,ae,s,rfl,h⟩
theorem aw{i:Nat}(h:WP tab fn ro k s Q):WP tab fn ro (.inBlock i::k) s Q:=mN h fun _ _ _=>rfl
theorem rO(h:WP tab fn ro (.code a::.inLoop a::k) s Q):WP tab fn ro (.inLoop a::k) s Q:=mN h fun _ _ _=>rfl
theorem aH(h:WP tab fn ro k s Q):WP tab fn ro (.code .skip::k) s Q:=mN h fun _ _ _=>rfl
theorem aq(h:WP tab fn ro (.code a::.code b::k) s Q):WP tab fn ro (.code (.seq a b)::k) s Q:=mN h fun _ _ _=>rfl
theorem az{i:Nat}(h:WP tab fn ro (.code a::.inBlock i::k) s Q):WP tab fn ro (.code (.block i a)::k) s Q:=mN h fun _ _ _=>rfl
theorem aE(h:Q (ab .ret) s):WP tab fn ro (.code .ret::k) s Q:=⟨1,0,0,ab .ret,s,rfl,h⟩
theorem bf{i:Nat}{k':List cG}(b:exitTo i k=ab k')(h:WP tab fn ro k' s Q):WP tab fn ro (.code (.exit i)::k) s Q:=
 mN h fun _ _ _=>by simp only [run,b]
theorem FM{c:Arg}{v:Bool}(hc:c.ev s.aA=.c (.f (.bool v)))(h:WP tab fn ro (.code (if v then a else b)::k) s Q) :
  WP tab fn ro (.code (.cond c a b)::k) s Q:=mN h fun _ _ _=>by simp only [run,hc]
theorem ak{c:Arg}(hc:c.ev s.aA=.c (.f (.bool ag)))(h:WP tab fn ro (.code a::k) s Q) :
  WP tab fn ro (.code (.cond c a b)::k) s Q:=FM hc h
theorem al{c:Arg}(hc:c.ev s.aA=.c (.f (.bool ah)))(h:WP tab fn ro (.code b::k) s Q) :
  WP tab fn ro (.code (.cond c a b)::k) s Q:=FM hc h
theorem u9{m j d g n n':Nat}{b:List cG}{x:Option ay × St}(q:m≤j)(l:d≤g)(u:n≤n')
  (h:run (CF tab m d) fn n ro b s=ab x):run (CF tab j g) fn n' ro b s=ab x:=
 qK (kv q l) n n' ro b s u h
theorem au{ops:List aO}(hr:ro=ae∨ops.all (·.op.ec)=ag)(h:vE tab ops s fun s'=>WP tab fn ro k s' Q) :
  WP tab fn ro (.code (.region ops [])::k) s Q:=by
 obtain⟨m,d,s',v,n,l,b,j,z,x,y⟩:=jN ops s h;refine⟨n+1,max m l,max d b,j,z,?_,y⟩;have q:=dz (kv (tab:=tab) (auh m l) (auh d b)) ops _ v;have u:=u9 (aud m l) (aud d b) (aft n) x;have g:(ro.isSome&&!ops.all (·.op.ec))=ah:=by
  rcases hr with rfl | hr
  ·rfl
  ·rw [hr];simp
 simp only [run,g,fQ,q,u];simp
theorem bG(I:Nat→St→Prop)(n:Nat)(d:I n s)
  (step:∀ n s,I n s→(∀ n' s',n'<n→I n' s'→WP tab fn ro (.inLoop a::k) s' Q)→WP tab fn ro (.code a::.inLoop a::k) s Q) :
  WP tab fn ro (.code (.loop a)::k) s Q:=by
 have key:∀ n s,I n s→WP tab fn ro (.code a::.inLoop a::k) s Q:=by
  intro n;induction n using Nat.strongRecOn with
  | _ n l=>
   intro s j;exact step n s j fun n' s' g b=>rO (l n' g s' b)
 exact mN (key n s d) fun _ _ _=>rfl
def Fin(tab:Nat→Option aB)(g:aB)(r:V)(H':an)(s:St):Prop:=
 ∃ m d b,dV (CF tab m d) s.defs s.heap=ab b∧results s.aA b g.results=ab r∧b=H'
theorem xh{f:Nat}{b:aB}(L:tab f=ab b)(J:args.length=b.ps.length)
  (h:WP tab f ae [.code b.body] ⟨cM b.ps args .e,[],H⟩ fun _ s=>Fin tab b r H' s):Ev tab (.fn f) args H r H':=by
 obtain⟨n,m,d,j,s,B,A,x,N,F,I,rfl⟩:=h;obtain⟨M,q,u,v⟩:∃ M,m≤M∧A≤M∧n≤M:=⟨max (max m A) n,by omega,by omega,by omega⟩
 obtain⟨E,g,l⟩:∃ E,d≤E∧x≤E:=⟨max d x,by omega,by omega⟩
 refine⟨M,E+1,?_⟩;have y:run (CF tab M E) f M ae [.code b.body] ⟨cM b.ps args .e,[],H⟩=ab (j,s):=u9 q g v B;have z:=jK (kv (tab:=tab) u l) _ _ F;have K:jY f args H=ae:=rfl;simp only [CF]at y z ⊢;simp only [ef,K,L,J,if_true,y,z,I,auz]
def mW(b:List jr)(r:V)(s:St):Prop:=s.defs=[]∧∃ r0,results s.aA s.heap b=ab r0∧fZ deep s.heap r0=ab r
theorem bI{f:Nat}{ps:List P}{b:List jr}{body:ay}(y:tab f=ab ⟨ps,b,body⟩)(x:args.length=ps.length)
  (h:∀ Q:Option ay→St→Prop,(∀ j s,mW b r s→Q j s)→WP tab f ae [.code body] ⟨cM ps args .e,[],[]⟩ Q):bB tab f args r:=by
 have g:=h (fun _ s=>mW b r s) fun _ _ h=>h;obtain⟨n,m,d,j,s,l,v,r0,q,u⟩:=g;exact⟨r0,s.heap,xh y x ⟨n,m,d,j,s,l,0,0,s.heap,by rw [v];rfl,q,rfl⟩,u⟩
end
theorem aj{tab:Nat→Option aB}{fn:Nat}{ops:List aO}{b:ay}{k:List cG}{s:St}{Q:Option ay→St→Prop}(h:vE tab ops s fun s'=>WP tab fn ae (.code b::k) s' Q):WP tab fn ae (.code (.seq (.region ops []) b)::k) s Q:=aq (au (.inl rfl) h)
theorem aW{tab:Nat→Option aB}{fn:Nat}{ro:Option Nat}{a:ay}{c:Arg}{k:List cG}{s:St}{Q:Option ay→St→Prop}(hc:c.ev s.aA=.c (.f (.bool ah)))(h:WP tab fn ro k s Q):WP tab fn ro (.code (.cond c a .skip)::k) s Q:=al hc (aH h)
end Km
