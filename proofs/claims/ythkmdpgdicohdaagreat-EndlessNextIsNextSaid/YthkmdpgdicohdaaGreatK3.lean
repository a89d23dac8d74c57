/-
  Our own small machine for Go code by value, held ph the model: part 3. No program in AJ.
-/
import Derived.Test.YthkmdpgdicohdaaGreatK2
import Derived.Orders
import Derived.Test.YthkmdpgdicohdaaGreatK1
open Option renaming some → aa,none → ab
open Bool renaming true → ae,false → ag
open Bool renaming and_eq_true → BY, not_eq_true' → adR, false_eq_true → acJ, true_and → adl
open Option renaming map_some → ac8, map_eq_some_iff → IN, map_map → adU
open List renaming all_eq_true → acN, eq_nil_of_length_eq_zero → acH, mem_of_getElem? → acI, getElem?_eq_getElem → By, getElem?_eq_some_iff → If, getElem?_set_ne → AI, getElem?_append_right → acR, getElem?_eq_none → ad5, getElem?_drop → acO, length_drop → adg
open Nat renaming le_refl → IT, le_of_ble_eq_true → adv, eq_of_beq_eq_true → adN, le_max_left → acV, le_max_right → acQ
open Option.some renaming injEq → sh
open Prod.mk renaming injEq → IS
set_option linter.unusedVariables false
set_option linter.constructorNameAsVariable false
set_option linter.unusedSimpArgs false
set_option linter.unusedSectionVars false
set_option maxRecDepth 100000
namespace Km
open Go
section
variable{Q:Program}{σ:Nat→FuncId}{X:Wd}{call:bQ}
variable{n:Nat}{ops:Array Oper}{aos:List aH}{fC:List (Nat × Nat)}{st:Nat→St}
def LD(b:Array Bool)(j:Nat):Prop:=b.getD j ag=ae
theorem I1{b:Array Bool}{i:Nat}(d:i<b.size):LD (b.setIfInBounds i ae)=fun j=>LD b j∨j=i:=by
 funext j;apply propext;unfold LD;by_cases h:i=j
 ·subst h;simp [d]
 ·have:j≠i:=fun e=>h e.symm;simp [Array.getD_eq_getD_getElem?,Array.getElem?_setIfInBounds_ne h,this]
theorem yQ{b:Array Bool}{i:Nat}(h:i ∈ Region.ready .any ops b):i<ops.size∧¬ LD b i∧∃ o,ops[i]?=aa o∧∀ e ∈ o.after.toList,Region.binds .any e=ae→LD b e.on:=by
 unfold Region.ready at h;simp only [List.mem_filter,List.mem_range,BY,adR]at h;obtain⟨l,d,j⟩:=h;refine⟨l,fun g=>?_,?_⟩
 ·unfold LD at g;simp only [Array.getD_eq_getD_getElem?]at d g;cases m:b[i]? with
  | none=>rw [m]at d;simp at d| some v=>rw [m]at d g;simp at d g;rw [d]at g;simp at g
 ·have q:=Array.getElem?_eq_getElem l;rw [q]at j;simp only [ac8,Option.getD_some]at j;refine⟨ops[i],q,fun e u s=>?_⟩;rw [←Array.all_toList,acN]at j;have:=j e u;simpa [s,LD]using this
theorem LA(l:Ord ops.toList aos fC)(H:aos.length=ops.size){b:Array Bool}(E:b.size=ops.size){j:Nat}(A:j<ops.size)(z:¬ LD b j):Region.ready .any ops b≠[]:=by
 have key:∀ m,m<ops.size→¬ LD b m→∃ i,i ∈ Region.ready .any ops b:=by
  intro m;induction m using Nat.strongRecOn with
  | ind m F=>
   intro v g;have B:=Array.getElem?_eq_getElem v;by_cases d:∀ e ∈ ops[m].after.toList,Region.binds .any e=ae→LD b e.on
   ·refine⟨m,?_⟩;unfold Region.ready;simp only [List.mem_filter,List.mem_range,BY,adR,B,ac8,Option.getD_some];refine⟨v,?_,?_⟩
    ·unfold LD at g;have u:m<b.size:=by omega
     simp [u]at g ⊢;exact g
    ·rw [←Array.all_toList,acN];intro e s;by_cases q:Region.binds .any e=ae
     ·have:=d e s q;unfold LD at this;simp [this]
     ·simp [q]
   ·simp only [Classical.not_forall]at d;obtain⟨e,s,q,x⟩:=d;have:=l.back m ops[m] (by omega) (by simp [v]) e s q;exact F e.on this (by omega) x
 obtain⟨i,y⟩:=key j A z;intro h;rw [h]at y;simp at y
theorem Jz(hC:ea Q σ call)(R:gS Q σ call n ops aos fC st){b:Frame}{k:List Item}{cs:List Frame}(hk:gm b cs)(I:∀ y ∈ aos,fe y.op b) :
  ∀(X0:Wd) (fuel t:Nat) (d:Array Bool) (U:List Nat) (E:Nat) (X:Wd) (a:Act),d.size=ops.size→U.Nodup→(∀ j,j<ops.size→(¬ LD d j↔j ∈ U))→U.length≤fuel→Inv Q σ X0 n ops aos st (LD d) E X a →
  ∃ q z X' a',Steps Q (lone (b.atR a (.inRegion ops (Region.linearise.go .any ops fuel t d [])::k)) cs X.w) (lone (b.atR a' k) cs X'.w)∧Inv Q σ X0 n ops aos st q z X' a'∧(∀ j,j<ops.size→q j)∧a'.tmps.size=a.tmps.size:=by
 have u:aos.length=ops.size:=by have:=(dH R.UT).len;simpa using this.symm
 intro X0 fuel;induction fuel with
 | zero=>
  intro t d U E X a m B l F A;refine⟨LD d,E,X,a,?_,A,fun j s=>?_,rfl⟩
  ·simp only [Region.linearise.go,List.reverse_nil];exact .one stepR_region_end
  ·have g:U=[]:=acH (by omega);refine Classical.byContradiction fun h=>?_;have:=(l j s).1 h;rw [g]at this;simp at this
 | succ fuel ih=>
  intro t d U E X a m B l F A;simp only [Region.linearise.go];change ∃ q z X' a',Steps Q (lone (b.atR a (.inRegion ops (match (Region.ready .any ops d)[t % (Region.ready .any ops d).length]? with
   | some i=>Region.linearise.go .any ops fuel (t / (Region.ready .any ops d).length) (d.setIfInBounds i ae) [i]
   | none=>[].reverse)::k)) cs X.w) _∧_
  cases H:(Region.ready .any ops d)[t % (Region.ready .any ops d).length]? with
  | none=>
   have g:Region.ready .any ops d=[]:=by
    cases J:Region.ready .any ops d with
    | nil=>rfl
    | cons x xs=>
     rw [J]at H;have a8:t % (x::xs).length<(x::xs).length:=Nat.mod_lt _ (by simp);rw [List.getElem?_eq_none_iff]at H;omega
   refine⟨LD d,E,X,a,?_,A,fun j s=>?_,rfl⟩
   ·exact .one stepR_region_end
   ·exact Classical.byContradiction fun h=>LA R.ord u m s h g
  | some i=>
   simp only [];rw [linearise_go_acc,List.reverse_singleton,List.singleton_append];obtain⟨r1,r2,o,r3,r4⟩:=yQ (acI H);have hy:=By (show i<aos.length by omega);have J:gR ops aos (LD d) i o aos[i]:=⟨r3,hy,r2,r4⟩
   obtain⟨z,L,a1,O,K,S⟩:=R.RV hC A J (b:=b) (rest:=Region.linearise.go .any ops fuel (t / (Region.ready .any ops d).length) (d.setIfInBounds i ae) []) (k:=k) (cs:=cs) hk (I _ (List.getElem_mem _));rw [←I1 (by omega)]at K;have v:i ∈ U:=(l i r1).1 r2;obtain⟨q,E2,M,N,k1,k2,k3,k5⟩:=ih (t / (Region.ready .any ops d).length) (d.setIfInBounds i ae) (U.erase i) z L a1 (by simpa using m) (B.erase i)
    (fun j s=>by
     rw [B.mem_erase_iff,←l j s,I1 (by omega)];constructor
     ·intro h;exact⟨fun e=>h (.inr e),fun W=>h (.inl W)⟩
     ·rintro⟨Y,Z⟩ (h | h)
      ·exact Z h
      ·exact Y h)
    (by rw [List.length_erase_of_mem v];omega) K
   exact⟨q,E2,M,N,O.trans k1,k2,k3,k5.trans S⟩
theorem JA(hC:ea Q σ call)(u:Q.follows .mixedOrders=ae)(R:gS Q σ call n ops aos fC st){b:Frame}{k:List Item}{cs:List Frame}(hk:gm b cs)(M:∀ y ∈ aos,fe y.op b){X:Wd}{a:Act}(g:Fr Q σ n X (st 0) a)(id:Nat) :
  ∃ X' a',Steps Q (lone (b.atR a (.code (.region id ops ae)::k)) cs X.w) (lone (b.atR a' k) cs X'.w)∧Fr Q σ n X' (st aos.length) a'∧Ext X.H.length X X'∧a'.tmps.size=a.tmps.size:=by
 have Z:aos.length=ops.size:=by have:=(dH R.UT).len;simpa using this.symm
 let X0:Wd:={ X with w:={ X.w with drawn:=X.w.drawn+1 } }
 have A:Ext X.H.length X X0:=
  {B:=rfl,F:=fun _ _ h=>h,mB:=fun _ _ h=>.inl h,fw:=fun _ _ _=>rfl,cC:=fun b _ aS J=>⟨aS,J,by cases aS<;>simp [X0]⟩
   sA:=fun b L h=>.inl ⟨b,L,h,rfl⟩,size:=IT _,os:=rfl,tape:=rfl,output:=rfl,frame:=fun _ _ _=>rfl }
 have I:SR Q σ X0:=by
  refine⟨fun b L J=>?_,g.sr.inj,g.sr.fb⟩;obtain⟨q,s,aS,U,W⟩:=g.sr.br b L J;exact⟨q,s,aS,U,BR.ext Q σ A rfl (fun _ h=>h) W⟩
 obtain⟨p1,p2,p3,p4⟩:=mh (aos:=aos) (i:=0) (by omega);obtain⟨q1,q2⟩:=R.cu _ p1 p2 p4;have E:X0.H=(st 0).heap:=g.heap;rw [←E]at q1;obtain⟨k1,k2⟩:=SR.ahead I q1;have m:Ext X.H.length X { X0 with H:=(st (phase aos 0)).heap }:=A.trans k2;have d:∀ j,¬ LD (Array.replicate ops.size ag) j:=fun j h=>by
  unfold LD at h;simp only [Array.getD_eq_getD_getElem?,Array.getElem?_replicate]at h;split at h<;>simp at h
 have hI:Inv Q σ { X0 with H:=(st (phase aos 0)).heap } n ops aos st (LD (Array.replicate ops.size ag)) (phase aos 0) { X0 with H:=(st (phase aos 0)).heap } a:=by
  refine⟨fun j o h=>absurd h (d j),fun j h=>absurd h (d j),p2,p3,d _,fun j q s=>absurd q (p4 j (Nat.zero_le _) s),rfl,Ext.refl _ _,k1,g.b,by rw [q2];exact g.defs.ext' m,g.size,
   fun p=>⟨0,Nat.zero_le _,.inl (VR.ext' σ m (g.al p)),fun j y _ _=>⟨fun h=>by omega,fun h=>absurd h (d j)⟩⟩,fun j y q _ U W h5=>?_⟩
  show X.bI _=ab;have a8:=(R.cu j (Nat.zero_le _) (by omega) fun k q s=>p4 k q (by omega)).1.len;cases v:X.bI (st j).heap.length with
  | none=>rfl| some L=>have:=SR.lt g.sr v;rw [g.heap]at this;omega
 obtain⟨D',O,X',a',g1,l,S,g5⟩:=Jz hC R hk M (k:=k) { X0 with H:=(st (phase aos 0)).heap } ops.size (X.w.tape X.w.drawn (.order b.fn id)) (Array.replicate ops.size ag) (List.range ops.size) (phase aos 0) { X0 with H:=(st (phase aos 0)).heap } a (by simp) List.nodup_range
  (fun j hj=>⟨fun _=>by simpa using hj,fun _=>d j⟩) (by simp) hI
 have Y:O=aos.length:=by
  rcases l.eW with h | ⟨z,N,_⟩
  ·exact h
  ·exact absurd (S O (by have:=(If.1 N).1;omega)) l.eD
 subst Y;refine⟨X',a',.head stepR_region_draw ?_,⟨l.heap,l.sr,l.b,fun p=>?_,l.defs,l.size⟩,m.trans (l.ext.mono (m.len)),g5⟩
 ·simp only [Region.schedule,u,Bool.true_or,if_true];exact g1
 ·obtain⟨K,hK,x,hw⟩:=l.LQ p;have x:VR σ X' ((st K).al.get p) (a'.tmps.getD p.toNat undef):=by
   rcases x with x | ⟨z,zs,c,_,Y,N,_⟩
   ·exact x
   ·have:=(If.1 N).1;omega
  rw [←R.jG aos.length hK (IT _) fun j y q s hy hd=>?_]
  ·exact x
  ·have:=(hw j y hy hd).2 (S j (by omega));omega
end
section
variable{Q:Program}{σ:Nat→FuncId}{X:Wd}{call:bQ}
theorem vw{b:Type}{f:b→b→Bool}(d:∀ x y,f x y=ae→x=y):∀ {xs ys:List b},oM f xs ys=ae→xs=ys
 | [],[],_=>rfl
 | x::xs,y::ys,h=>by
  simp only [oM,BY]at h;rw [d x y h.1,vw d h.2]
 | [],_::_,h=>by simp [oM]at h
 | _::_,[],h=>by simp [oM]at h
theorem FC.beq_eq:∀(n:Nat) (a b:FC),FC.beq n a b=ae→a=b:=by
 intro n;induction n with
 | zero=>
  intro a b h;cases a<;>cases b<;>simp_all [FC.beq]
 | succ n d=>
  intro a b h;cases a<;>cases b<;>simp_all [FC.beq]
  all_goals exact vw d h.2
theorem C.beq_eq{a b:C}(h:a.beq b=ae):a=b:=by
 cases a<;>cases b<;>simp_all [C.beq];exact FC.beq_eq _ _ _ h
theorem V.beq_eq{a b:V}(h:a.beq b=ae):a=b:=by
 cases a<;>cases b<;>simp only [V.beq,acJ]at h
 ·rw [C.beq_eq h]
 ·rename_i xs ys;simp only [BY,beq_iff_eq,acN]at h
  congr 1
  refine List.ext_getElem h.1 fun i d g=>C.beq_eq (h.2 (xs[i],ys[i]) ?_);exact acI (i:=i) (by rw [List.getElem?_zip_eq_some];exact⟨By d,By g⟩)
theorem s8:∀ {aos:List aH} {s s':St},ej call aos s=aa s'→∃ b:List St,di call aos s=aa b∧b.getLast?=aa s'
 | [],s,s',h=>by simp only [ej,sh]at h;subst h;exact⟨[s],rfl,rfl⟩
 | o::os,s,s',h=>by
  simp only [ej]at h;split at h
  ·rename_i l g;obtain⟨b,j,d⟩:=s8 h;refine⟨s::b,by simp [di,g,j],?_⟩;cases b with
   | nil=>simp at d| cons x xs=>simpa using d
  ·simp at h
theorem kP:∀ {aos:List aH} {s:St} {b:List St},di call aos s=aa b→b.length=aos.length+1∧b[0]?=aa s ∧
  ∀ i y,aos[i]?=aa y→∃ u v,b[i]?=aa u∧b[i+1]?=aa v∧eo call u y=aa v
 | [],s,b,h=>by
  simp only [di,sh]at h;subst h;exact⟨rfl,rfl,fun i y h=>by simp at h⟩
 | o::os,s,b,h=>by
  simp only [di]at h;split at h
  ·rename_i x m;split at h
   ·rename_i z q;simp only [sh]at h;subst h;obtain⟨g,j,l⟩:=kP q;refine⟨by simp [g],rfl,fun i y d=>?_⟩;cases i with
    | zero=>
     simp only [List.getElem?_cons_zero,sh]at d;subst d;exact⟨s,x,rfl,by simpa using j,m⟩
    | succ i=>simpa using l i y (by simpa using d)
   ·simp at h
  ·simp at h
theorem q8:∀ {aos:List aH} {s:St} {b:List St} {s':St},di call aos s=aa b→b.getLast?=aa s'→ej call aos s=aa s'
 | [],s,b,s',h,d=>by simp only [di,sh]at h;subst h;simpa [ej]using d
 | o::os,s,b,s',h,d=>by
  simp only [di]at h;split at h
  ·rename_i m l;split at h
   ·rename_i g j;simp only [sh]at h;subst h;have:=(kP j).1;simp only [ej,l];refine q8 j ?_;cases g with
    | nil=>simp at this| cons x xs=>simpa using d
   ·simp at h
  ·simp at h
theorem DJ(S:ea Q σ call)(A:Q.follows .mixedOrders=ae){n:Nat}{id:Nat}{ops:Array Oper}{g:Bool}{aos:List aH}{fC:List (Nat × Nat)}(W:bD Q σ n (.region id ops g) (.region aos fC)=ae)
  {b:Frame} {k:List Item} {cs:List Frame} (U:gm b cs) (B:∀ y ∈ aos,fe y.op b) {X:Wd} {a:Act} {s s':St} (K:Fr Q σ n X s a) (h:eI call aos fC s=aa s') :
  ∃ X' a',Steps Q (lone (b.atR a (.code (.region id ops g)::k)) cs X.w) (lone (b.atR a' k) cs X'.w)∧Fr Q σ n X' s' a'∧Ext X.H.length X X'∧a'.tmps.size=a.tmps.size:=by
 simp only [bD,BY,Bool.or_eq_true,adR]at W;obtain⟨l,E⟩:=W;obtain⟨j,O,J,h3⟩:∃ j:List St,di call aos s=aa j∧j.getLast?=aa s'∧∀ c ∈ fC,sameAt aos j c=ae:=by
  unfold eI at h;split at h
  ·obtain⟨j,q,x⟩:=s8 h;exact⟨j,q,x,by simp⟩
  ·split at h
   ·rename_i j L;split at h
    ·rename_i z;exact⟨j,L,h,acN.1 z⟩
    ·simp at h
   ·simp at h
 cases g with
 | false=>
  obtain⟨X',a',q,x⟩:=AO S U (k:=k) aos 0 X s s' a K (by simpa using l) B (q8 O J);exact⟨X',a',.head stepR_region (by simpa using q),x⟩
 | true=>
  obtain⟨q,x,g3⟩:=kP O
  let st:Nat→St:=fun i=>j.getD i s
  have d:∀ i u,j[i]?=aa u→st i=u:=fun i u hu=>by simp [st,List.getD_eq_getElem?_getD,hu]
  have R:gS Q σ call n ops aos fC st:=by
   refine⟨l,C2 (E.resolve_left (by simp)),fun i y M=>?_,fun i e y hc M Y=>?_⟩
   ·obtain⟨u,v,F,H,I⟩:=g3 i y M;rw [d _ _ F,d _ _ H];exact I
   ·have m:=h3 _ hc;simp only [sameAt,M]at m;split at m
    ·rename_i o s1 s2 F H I;cases F;rw [d _ _ H]at Y ⊢;rw [d _ _ I];rw [Y]at m;simp only at m;split at m
     ·rename_i v x1 v' x2 Z N;rw [←V.beq_eq m]at N;exact⟨v,x1,x2,Z,N⟩
     ·simp at m
    ·simp at m
  have h0:st 0=s:=d 0 s x;have hN:st aos.length=s':=d _ _ (by rw [List.getLast?_eq_getElem?,q]at J;simpa using J);rw [←h0]at K;rw [←hN];exact JA S A R U B K id
end
section
variable{Q:Program}{σ:Nat→FuncId}{X:Wd}{call:bQ}
def yG(X:Wd)(b:Nat):Prop:=∃ f t p a c s q d,X.H[b]?=aa (.lp f t p a c s q d)
theorem yG.ext{X X':Wd}(m:Ext X.H.length X X'){b:Nat}(h:yG X b):yG X' b∧∀ L,X.bI b=aa L→X'.bI b=aa L:=by
 obtain⟨f,t,p,a,c,s,q,d,j⟩:=h;obtain⟨blk',g,l⟩:=m.cC b (If.1 j).1 _ j;cases blk'<;>simp only at l;exact⟨⟨_,_,_,_,_,_,_,_,g⟩,l.2⟩
inductive fq(Q:Program)(σ:Nat→FuncId)(n:Nat)(X:Wd):ca→Item→Prop
 | code {a:ak} {c:Code} (h:bD Q σ n c a=ae):fq Q σ n X (.code a) (.code c)
 | inBlock (id:Nat):fq Q σ n X (.inBlock id) (.inBlock id)
 | inLoop {a:ak} {c:Code} (h:bD Q σ n c a=ae):fq Q σ n X (.inLoop a) (.inLoop c)
 | fZ {b:Nat} {L:Loc} (h:X.bI b=aa L) (hl:yG X b):fq Q σ n X (.fZ b) (.endRangeFunc L.c)
 | ke:fq Q σ n X .ke .beginRound
 | inScope {a:ak} {c:Code} (h:bD Q σ n c a=ae) (hs:jK a=ae):fq Q σ n X (.inScope a) (.inScope c)
theorem fq.ext{n:Nat}{X X':Wd}(d:Ext X.H.length X X'){x:ca}{y:Item}(h:fq Q σ n X x y):fq Q σ n X' x y:=by
 cases h with
 | code h=>exact .code h| inBlock id=>exact .inBlock id| inLoop h=>exact .inLoop h| fZ h b=>exact .fZ ((b.ext d).2 _ h) (b.ext d).1| ke=>exact .ke| inScope h g=>exact .inScope h g
def XI(X:Wd):Option Nat→Option Nat→Prop
 | none,ab=>True| some b,aa l=>∃ L,X.bI b=aa L∧L.c=l∧yG X b| _,_=>False
theorem XI.ext{X X':Wd}(g:Ext X.H.length X X'){ro b:Option Nat}(h:XI X ro b):XI X' ro b:=by
 cases ro<;>cases b<;>simp only [XI]at h ⊢;obtain⟨L,j,l,d⟩:=h;exact⟨L,(d.ext g).2 _ j,l,(d.ext g).1⟩
theorem sf{n:Nat}(id:Nat):∀(k:List ca) (ks:List Item),A2 (fq Q σ n X) k ks →
  match Km.exitTo id k with
  | some k'=>∃ b,Go.exitTo id ks=aa b∧A2 (fq Q σ n X) k' b| none=>Go.exitTo id ks=ab
 | [],ks,h=>by
  have:ks=[]:=acH h.len.symm;subst this;rfl
 | x::k,[],h=>by have:=h.len;simp at this
 | x::k,y::ks,h=>by
  obtain⟨m,g⟩:=h.of_cons;have l:=sf id k ks g;cases m with
  | inBlock d=>
   simp only [Km.exitTo,Go.exitTo];by_cases j:(d == id)=ae
   ·simp only [j,if_true];exact⟨ks,rfl,g⟩
   ·simp only [j,acJ,if_false];exact l
  | _=>exact l
theorem tD{n:Nat}(l:Nat):∀(a:ak) (c:Code),bD Q σ n c a=ae→jK a=ae →
  match Km.findLabel a l with
  | some r=>∃ r',Go.findLabel c l=aa r'∧bD Q σ n r' r=ae| none=>Go.findLabel c l=ab:=by
 intro a;induction a with
 | seq a b m q=>
  intro c h g;simp only [jK,BY]at g;cases c with
  | seq c d=>
   simp only [bD,BY]at h;have j:=m c h.1 g.1;simp only [Km.findLabel,Go.findLabel];cases u:Km.findLabel a l with
   | some r=>
    rw [u]at j;obtain⟨r',v,x⟩:=j;simp only [v];exact⟨_,rfl,by simp [bD,x,h.2]⟩
   | none=>
    rw [u]at j;simp only [j];exact q d h.2 g.2
  | _=>simp [bD]at h
 | label z=>
  intro c h _;cases c with
  | label y=>
   simp only [bD,beq_iff_eq]at h;subst h;simp only [Km.findLabel,Go.findLabel];by_cases s:(y == l)=ae
   ·simp only [s,if_true];exact⟨_,rfl,by simp [bD]⟩
   ·simp only [s,acJ,if_false]
  | _=>simp [bD]at h
 | bad=>intro c h g;simp [jK]at g| _=>intro c h _;cases c<;>simp_all [bD,Km.findLabel,Go.findLabel]
theorem sv{n:Nat}(l:Nat):∀(k:List ca) (ks:List Item),A2 (fq Q σ n X) k ks →
  match Km.gotoIn l k with
  | some k'=>∃ b,Go.gotoIn l ks=aa b∧A2 (fq Q σ n X) k' b| none=>Go.gotoIn l ks=ab
 | [],ks,h=>by
  have:ks=[]:=acH h.len.symm;subst this;rfl
 | x::k,[],h=>by have:=h.len;simp at this
 | x::k,y::ks,h=>by
  obtain⟨u,g⟩:=h.of_cons;have s:=sv l k ks g;cases u with
  | inScope m q=>
   rename_i a c;have d:=tD (Q:=Q) (σ:=σ) l a c m q;simp only [Km.gotoIn,Go.gotoIn];cases j:Km.findLabel a l with
   | some r=>
    rw [j]at d;obtain⟨r',v,z⟩:=d;simp only [v];exact⟨_,rfl,A2.cons (.code z) (A2.cons (.inScope m q) g)⟩
   | none=>
    rw [j]at d;simp only [d];exact s
  | _=>exact s
def TG:Option ak→List Item→Prop
 | none,b=>b=[]| some .ret,b=>∃ k,b=.code .ret::k| some (.exit id),b=>∃ k,b=.code (.exit id)::k∧Go.exitTo id k=ab| _,_=>False
end
section
variable{Q:Program}{σ:Nat→FuncId}{X:Wd}{call:bQ}
theorem na{b:Nat}{L:Loc}(x:SR Q σ X)(v:X.bI b=aa L){f:Nat}{t:T}{ps:List P}{as bd:ak}{q:eL}{g:Option ak}{d:Nat}(y:X.H[b]?=aa (.lp f t ps as bd q g d)) :
  ∃(n:Nat) (us:Array Value) (m:Array Tmp) (as' j:Code) (pend':Option Code) (u:Loc),
   X.w.heap[L.c]?=aa (.loop { state:=q.of,pending:=pend',fn:=σ f,tmps:=us,params:=m,assign:=as',body:=j,defers:=u.c }) ∧
   n≤us.size∧RR σ X t us∧eC (fun p (q:P)=>q.toNat == p&&decide (p<n)) m.toList ps=ae∧bD Q σ n as' as=ae∧bD Q σ n j bd=ae∧sD Q σ n g pend'∧X.bI d=aa u∧∃ o,X.H[d]?=aa (.fk o):=by
 obtain⟨_,_,aS,l,s⟩:=x.br b L v;rw [y]at l;cases l;exact s
theorem uM(J:SR Q σ X){b:Nat}{L:Loc}(I:X.bI b=aa L){f:Nat}{t:T}{ps:List P}{as bd:ak}{q q':eL}{y pend1:Option ak}{d:Nat}(s:X.H[b]?=aa (.lp f t ps as bd q y d))
  {n:Nat} {us:Array Value} {j:Array Tmp} {as' g:Code} {pend':Option Code} {u:Loc}
  (O:n≤us.size) (S:RR σ X t us) (U:eC (fun p (q:P)=>q.toNat == p&&decide (p<n)) j.toList ps=ae) (W:bD Q σ n as' as=ae) (Y:bD Q σ n g bd=ae) (Z:sD Q σ n pend1 pend') (a:X.bI d=aa u) (z:∃ o,X.H[d]?=aa (.fk o)) :
  SR Q σ { X with H:=X.H.set b (.lp f t ps as bd q' pend1 d),w:=X.w.putObj L.c (.loop { state:=q'.of,pending:=pend',fn:=σ f,tmps:=us,params:=j,assign:=as',body:=g,defers:=u.c }) } ∧
  Ext X.H.length X { X with H:=X.H.set b (.lp f t ps as bd q' pend1 d),w:=X.w.putObj L.c (.loop { state:=q'.of,pending:=pend',fn:=σ f,tmps:=us,params:=j,assign:=as',body:=g,defers:=u.c }) }:=by
 obtain⟨m,r,k,M,N,i,K,v,_⟩:=na J I s;have A:b<X.H.length:=(If.1 s).1;refine SR.nB (o':=.loop { state:=q'.of,pending:=pend',fn:=σ f,tmps:=us,params:=j,assign:=as',body:=g,defers:=u.c }) (blk':=.lp f t ps as bd q' pend1 d) J s I v (by simp) (by simp)
  (fun aS l=>⟨.lp f t ps as bd q' pend1 d,by simp [A],by rw [s]at l;cases l;exact⟨⟨rfl,rfl,rfl,rfl,rfl,rfl⟩,fun L h=>h⟩⟩)
  (fun X' F E _ x c=>?_)
 obtain⟨o,z⟩:=z;refine⟨n,us,j,as',g,pend',u,E,O,RR.ext' σ F S,U,W,Y,Z,by rw [x];exact a,o,?_⟩;have B:b≠d:=fun e=>by rw [e,z]at s;cases s
 rw [c,AI B];exact z
end
section
variable{Q:Program}{σ:Nat→FuncId}{call:bQ}
structure Way(Q:Program)(σ:Nat→FuncId)(fn:Nat)(n:Nat)(b:Frame)(cs:List Frame)(ro:Option Nat)(todo:List ca)(items:List Item)(s:St)(X:Wd)(a:Act):Prop where
 fr:Fr Q σ n X s a
 items:A2 (fq Q σ n X) todo items
 ro:XI X ro b.roundOf
 kind:gm b cs
 fn:b.fn=σ fn
theorem Way.ext{fn n:Nat}{b:Frame}{cs:List Frame}{ro:Option Nat}{j:List ca}{items:List Item}{s s':St}{X X':Wd}{a a':Act}(h:Way Q σ fn n b cs ro j items s X a){g:List ca}{d:List Item}(l:Ext X.H.length X X')(m:Fr Q σ n X' s' a')
  (q:A2 (fq Q σ n X) g d):Way Q σ fn n b cs ro g d s' X' a':=
 ⟨m,q.jj fun _ _ h=>h.ext l,h.ro.ext l,h.kind,h.fn⟩
theorem Way.to{fn n:Nat}{b:Frame}{cs:List Frame}{ro:Option Nat}{j:List ca}{items:List Item}{s:St}{X:Wd}{a:Act}(h:Way Q σ fn n b cs ro j items s X a){g:List ca}{d:List Item}
  (l:A2 (fq Q σ n X) g d):Way Q σ fn n b cs ro g d s X a:=⟨h.fr,l,h.ro,h.kind,h.fn⟩
def XJ(Q:Program)(σ:Nat→FuncId)(call:bQ)(fn m:Nat):Prop:=
 ∀(n:Nat) (b:Frame) (cs:List Frame) ro l g s X a j s',run call fn m ro l s=aa (j,s')→Way Q σ fn n b cs ro l g s X a →
  ∃ X' a' d,Steps Q (lone (b.atR a g) cs X.w) (lone (b.atR a' d) cs X'.w)∧Fr Q σ n X' s' a'∧Ext X.H.length X X'∧a'.tmps.size=a.tmps.size∧TG j d
theorem rQ{b:Frame}{a:Act}{k:List Item}{cs:List Frame}{w:World}{body:Code}:step Q (lone (b.atR a (.inScope body::k)) cs w)=.next (lone (b.atR a k) cs w):=
 step_lone_go (by simp [stepG,stepG.exec,Frame.atR])
theorem w_{b:Frame}{a:Act}{k:List Item}{cs:List Frame}{w:World}{body:Code}:step Q (lone (b.atR a (.code (.scope body)::k)) cs w)=.next (lone (b.atR a (.code body::.inScope body::k)) cs w):=
 step_lone_go (by simp [stepG,stepG.exec,Frame.atR])
theorem LG(hC:ea Q σ call)(d8:Q.follows .mixedOrders=ae)(fn:Nat):∀ m,XJ Q σ call fn m:=by
 intro m;induction m with
 | zero=>intro n b cs ro c4 I s X a F s' h;simp [run]at h
 | succ m ih=>
  intro n b cs ro c4 I s X a F s' h z;have go:∀ {B j},run call fn m ro B s=aa (F,s')→A2 (fq Q σ n X) B j→step Q (lone (b.atR a I) cs X.w)=.next (lone (b.atR a j) cs X.w) →
    ∃ X' a' j,Steps Q (lone (b.atR a I) cs X.w) (lone (b.atR a' j) cs X'.w)∧Fr Q σ n X' s' a'∧Ext X.H.length X X'∧a'.tmps.size=a.tmps.size∧TG F j:=by
   intro B j hr hi S;obtain⟨X',a',it,g1,M⟩:=ih n b cs ro B j s X a F s' hr (z.to hi);exact⟨X',a',it,.head S g1,M⟩
  cases c4 with
  | nil=>
   have:I=[]:=acH z.items.len.symm;subst this;simp only [run,sh,IS]at h;obtain⟨rfl,rfl⟩:=h;exact⟨X,a,[],Steps.refl _ _,z.fr,Ext.refl _ _,rfl,rfl⟩
  | cons x k=>
   cases I with
   | nil=>have:=z.items.len;simp at this
   | cons it ks=>
    obtain⟨hx,A⟩:=z.items.of_cons;cases hx with
    | inBlock id=>exact go (by simpa [run]using h) A stepR_inBlock
    | inLoop E=>exact go (by simpa [run]using h) (A2.cons (.code E) (A2.cons (.inLoop E) A)) stepR_inLoop
    | inScope E hs=>exact go (by simpa [run]using h) A rQ
    | fZ hb hl=>
     rename_i bb L;simp only [run]at h;split at h
     ·rename_i f t ps as bd q b_ d J;split at h
      ·simp at h
      ·rename_i hq;rw [←z.fr.heap]at J;obtain⟨m0,us,Z,as',U,pend',Ld,b6,h2,h3,h4,h5,h6,W,h8,h9⟩:=na z.fr.sr hb J;obtain⟨g1,M⟩:=uM z.fr.sr hb J (q':=.exhausted) h2 h3 h4 h5 h6 W h8 h9;have i_:(q.of)≠LoopState.busy:=by cases q<;>simp [eL.of]at hq ⊢
       have S:=stepR_endRangeFunc (P:=Q) (b:=b) (a:=a) (k:=ks) (cs:=cs) (run_endLoop (P:=Q) b6 i_);have key:∀ {B j},run call fn m ro B { s with heap:=s.heap.set bb (.lp f t ps as bd .exhausted b_ d) }=aa (F,s')→A2 (fq Q σ n X) B j→j=(pend'.map Item.code).toList++ks →
         ∃ X' a' j,Steps Q (lone (b.atR a (.endRangeFunc L.c::ks)) cs X.w) (lone (b.atR a' j) cs X'.w)∧Fr Q σ n X' s' a'∧Ext X.H.length X X'∧a'.tmps.size=a.tmps.size∧TG F j:=by
        intro B j hr hi he;obtain⟨X',a',it,k1,k2,k3,k4,k5⟩:=ih n b cs ro B j _ _ a F s' hr (z.ext (a':=a) M ⟨by rw [←z.fr.heap],g1,by simpa [World.putObj]using z.fr.b,z.fr.al.ext' σ M,z.fr.defs.ext' M,z.fr.size⟩ hi);rw [he]at k1;exact⟨X',a',it,.head S k1,k2,M.trans (k3.mono M.len),k4,k5⟩
       split at h
       ·cases pend' with
        | none=>exact key h A rfl| some c=>exact W.elim
       ·cases pend' with
        | none=>exact W.elim
        | some c=>
         have W:bD Q σ m0 c .ret=ae:=W;cases c<;>simp [bD]at W;exact key h (A2.cons (.code (by simp [bD])) A) rfl
       ·rename_i id;cases pend' with
        | none=>exact W.elim
        | some c=>
         have W:bD Q σ m0 c (.exit id)=ae:=W;cases c<;>simp [bD]at W;subst W;exact key h (A2.cons (.code (by simp [bD])) A) rfl
       ·simp at h
     ·simp at h
    | ke=>
     simp only [run]at h;split at h
     ·simp at h
     ·rename_i bb;split at h
      ·rename_i f t ps as bd b_ d J;have K:=z.ro;cases c7:b.roundOf with
       | none=>rw [c7]at K;exact K.elim
       | some l=>
        rw [c7]at K;obtain⟨L,hL,rfl,_⟩:=K;rw [←z.fr.heap]at J;obtain⟨m0,us,Z,as',U,pend',Ld,b6,h2,h3,h4,h5,h6,W,h8,h9⟩:=na z.fr.sr hL J;obtain⟨g1,M⟩:=uM z.fr.sr hL J (q':=.busy) h2 h3 h4 h5 h6 W h8 h9;have S:=stepR_beginRound (P:=Q) (b:=b) (a:=a) (k:=ks) (cs:=cs) c7 (run_beginRound (P:=Q) b6 rfl);obtain⟨X',a',it,k1,k2,k3,k4,k5⟩:=ih n b cs _ k ks _ _ a F s' h (z.ext (a':=a) M ⟨by rw [←z.fr.heap],g1,by simpa [World.putObj]using z.fr.b,z.fr.al.ext' σ M,z.fr.defs.ext' M,z.fr.size⟩ A);exact⟨X',a',it,.head S k1,k2,M.trans (k3.mono M.len),k4,k5⟩
      ·simp at h
    | code E=>
     rename_i ac c;cases ac with
     | bad=>simp [run]at h| skip=>cases c<;>simp [bD]at E;exact go (by simpa [run]using h) A stepR_skip
     | label l=>cases c<;>simp [bD]at E;exact go (by simpa [run]using h) A stepR_label
     | scope p=>
      cases c<;>simp [bD]at E;exact go (by simpa [run]using h) (A2.cons (.code E.1) (A2.cons (.inScope E.1 E.2) A)) w_
     | goto l=>
      cases c<;>simp [bD]at E;subst E;rename_i l';have O:=sv (Q:=Q) (σ:=σ) (n:=n) (X:=X) l' k ks A;simp only [run]at h;split at h
      ·rename_i k' H;rw [H]at O;obtain⟨k_,he,a_⟩:=O;exact go h a_ (stepR_goto he)
      ·simp at h
     | ret=>
      cases c<;>simp [bD]at E;simp only [run,sh,IS]at h;obtain⟨rfl,rfl⟩:=h;exact⟨X,a,_,Steps.refl _ _,z.fr,Ext.refl _ _,rfl,ks,rfl⟩
     | seq p q=>
      cases c<;>simp [bD]at E;exact go (by simpa [run]using h) (A2.cons (.code E.1) (A2.cons (.code E.2) A)) stepR_seq
     | block id p=>
      cases c<;>simp [bD]at E;obtain⟨rfl,E⟩:=E;exact go (by simpa [run]using h) (A2.cons (.code E) (A2.cons (.inBlock _) A)) stepR_block
     | loop p=>
      cases c<;>simp [bD]at E;exact go (by simpa [run]using h) (A2.cons (.code E) (A2.cons (.inLoop E) A)) stepR_loop
     | exit id=>
      cases c<;>simp [bD]at E;subst E;rename_i j_;have O:=sf (Q:=Q) (σ:=σ) (n:=n) (X:=X) j_ k ks A;simp only [run]at h;split at h
      ·rename_i k' H;rw [H]at O;obtain⟨k_,he,a_⟩:=O;exact go h a_ (stepR_exit he)
      ·rename_i H;rw [H]at O;split at h
       ·simp only [sh,IS]at h;obtain⟨rfl,rfl⟩:=h;exact⟨X,a,_,Steps.refl _ _,z.fr,Ext.refl _ _,rfl,ks,rfl,O⟩
       ·simp at h
     | cond x p q=>
      cases c<;>simp [bD]at E;simp only [run]at h;split at h
      ·rename_i v hv;have hx:=bj z.fr.al E.1.1;rw [hv]at hx;have j9:bS σ X.F X.w (.bool v) _:=hx;have he:∀ u,bS σ X.F X.w (.bool v) u→u=.bool v:=fun u hu=>by cases hu;rfl
       refine go h ?_ (stepR_cond (he _ j9));cases v
       ·exact A2.cons (.code E.2) A
       ·exact A2.cons (.code E.1.2) A
      ·simp at h
     | region aos fC=>
      cases c with
      | region id ops l7=>
       simp only [run]at h;split at h
       ·simp at h
       ·rename_i K;split at h
        ·rename_i s1 h1;have j3:∀ y ∈ aos,fe y.op b:=by
          intro y hy;unfold fe;cases ro with
          | none=>
           refine .inl ?_;have:=z.ro;cases hb:b.roundOf with
           | none=>rfl| some l=>rw [hb]at this;exact this.elim
          | some r=>
           simp only [Option.isSome_some,adl,adR,Bool.not_eq_false]at K;exact .inr (acN.1 K y hy)
         obtain⟨X1,a1,g1,M,g3,g4⟩:=DJ hC d8 E z.kind j3 (k:=ks) z.fr h1;obtain⟨X',a',it,k1,k2,k3,k4,k5⟩:=ih n b cs ro k ks s1 X1 a1 F s' h (z.ext g3 M A);exact⟨X',a',it,g1.trans k1,k2,g3.trans (k3.mono g3.len),k4.trans g4,k5⟩
        ·simp at h
      | _=>simp [bD]at E
     | dE f ps as bd=>
      cases c with
      | rangeFunc f' Z as' U=>
       simp only [bD,BY]at E;obtain⟨⟨⟨f9,f_⟩,g_⟩,h_⟩:=E;simp only [run]at h;split at h
       ·simp at h
       ·rename_i K;have j4:b.roundOf=ab:=by
         have:=z.ro;cases ro with
         | some r=>simp at K
         | none=>
          cases hb:b.roundOf with
          | none=>rfl| some l=>rw [hb]at this;exact this.elim
        split at h
        ·rename_i g args d6;split at h
         ·rename_i r2 H2 N;obtain⟨X1,w1,H1,S1,E1,r1,B1⟩:=SR.new z.fr.sr z.fr.b (.fk ae) (dp.alloc X.w (.deferred (aa []))) 0 (fun X' hx hw hF hH=>by
           show X'.w.heap[X.w.heap.size]?=_;rw [hw];exact(dp.alloc X.w (.deferred (aa []))).new)
          have d7:X1.H[X.H.length]?=aa (.fk ae):=by rw [H1];simp
          have b7:X.H.length<X1.H.length:=by rw [H1];simp
          have d9:X1.w.heap.size=X.w.heap.size+1:=by rw [w1];simp
          obtain⟨X2,w2,d_,S2,E2,c9,B2⟩:=SR.new S1 B1 (.lp fn s.al ps as bd .ready ab s.heap.length)
           (dp.alloc X1.w (.loop { state:=.ready,pending:=ab,fn:=b.fn,tmps:=a.tmps,params:=Z,assign:=as',body:=U,defers:=X.w.heap.size })) 0 (fun X' hx hw hF hH=>by
            obtain⟨blk',c6,H⟩:=hx.cC X.H.length b7 _ d7;cases blk'<;>simp only at H;refine⟨n,a.tmps,Z,as',U,ab,⟨X.w.heap.size,0⟩,?_,z.fr.size,RR.ext' σ hx (RR.ext' σ E1 z.fr.al),f_,g_,h_,trivial,?_,?_⟩
            ·show X'.w.heap[X1.w.heap.size]?=_;rw [hw,(dp.alloc X1.w (.loop { state:=.ready,pending:=ab,fn:=b.fn,tmps:=a.tmps,params:=Z,assign:=as',body:=U,defers:=X.w.heap.size })).new,z.fn];rfl
            ·rw [←z.fr.heap];exact H _ r1
            ·rw [←z.fr.heap];exact⟨_,c6⟩)
          have c8:Ext X.H.length X X2:=E1.trans (E2.mono E1.len);have c_:X2.H=s.heap++[.fk ae,.lp fn s.al ps as bd .ready ab s.heap.length]:=by rw [d_,H1,←z.fr.heap];simp
          have f8:X1.H.length=s.heap.length+1:=by rw [H1,←z.fr.heap];simp
          have J:yG X2 (s.heap.length+1):=⟨fn,s.al,ps,as,bd,.ready,ab,s.heap.length,by rw [c_,acR (by omega)];simp⟩
          rw [f8,d9]at c9;have d5:A2 (VR σ X2) [.c (.yl (s.heap.length+1))] [.func (.yield (X.w.heap.size+1)) #[] #[]]:=A2.cons ⟨⟨X.w.heap.size+1,0⟩,c9,J,rfl⟩ A2.nil;obtain⟨fst,cap,j7,j8⟩:=lT d6 (VR.ext' σ c8 (bj z.fr.al f9)) d5;rw [←c_]at N;have f7:=hC.enters _ _ _ _ N
          let a1:Act:={ a with defers:={ target:=.collected X.w.heap.size,args:=#[] }::a.defers }
          obtain⟨fr,X3,u,q1,⟨l1,l2,l3,l4,e_,l5,l6⟩,q3,q4,q5,q6,q7⟩:=hC.fn g args _ r2 H2 N X2 _ .normal (b.atR a1 (.inRangeFunc (X.w.heap.size+1)::ks)::cs) rfl S2 B2 j8 (.inl rfl) (.inl rfl);have S:step Q (lone (b.atR a (.code (.rangeFunc f' Z as' U)::ks)) cs X.w)=.next (lone (Frame.enter Q (σ g) (fst.toArray++#[.func (.yield (X.w.heap.size+1)) #[] #[]]++cap.toArray) .normal) (b.atR a1 (.inRangeFunc (X.w.heap.size+1)::ks)::cs) X2.w):=by
           refine stepR_rangeFunc (P:=Q) (b:=b) (a:=a) (k:=ks) (cs:=cs) (l:=X.w.heap.size+1) (mark:=[{ target:=.collected X.w.heap.size,args:=#[] }]) (w₁:=X2.w) (w₁':=X2.w) (d:={ target:=.fn (.func (σ g)) cap.toArray,args:=fst.toArray++#[.func (.yield (X.w.heap.size+1)) #[] #[]] }) ?_ ?_ ?_
           ·rw [j4,run_enterLoop_outer,w2,w1]
           ·simp only [resolve,j7,Deferred.ofValue,Sem.run_bind,Sem.run_pure,Result.andThen_ok];simp [Act.eval]
           ·exact dS f7
          have Y:Ext X.H.length X X3:=c8.trans (q6.mono c8.len);have a8:=step_leave_returned (P:=Q) (c:=b.atR a1 (.inRangeFunc (X.w.heap.size+1)::ks)) (cs:=cs) (show fr.leaving Q X3.w (.returned u) from⟨l1,l2,l3,e_,by rw [l4];exact l5,l6⟩);rw [finish_atR_inRangeFunc]at a8;have b9:=J.ext q6;have f4:pN σ X3 (.hY s.heap.length) { target:=.collected X.w.heap.size,args:=#[] }:=by
           obtain⟨blk',c6,H⟩:=(E2.trans (q6.mono E2.len)).cC X.H.length b7 _ d7;cases blk'<;>simp only at H;rw [←z.fr.heap];exact⟨⟨X.w.heap.size,0⟩,_,H _ r1,c6,rfl⟩
          obtain⟨X',a',it,k1,k2,k3,k4,k5⟩:=ih n b cs ro (.fZ (s.heap.length+1)::k) (.endRangeFunc (X.w.heap.size+1)::ks) _ X3 a1 F s' h
           ⟨⟨q3,q4,q7,RR.ext' σ Y z.fr.al,A2.cons f4 (z.fr.defs.ext' Y),z.fr.size⟩,A2.cons (.fZ (b9.2 _ c9) b9.1) (A.jj fun _ _ h=>h.ext Y),z.ro.ext Y,z.kind,z.fn⟩
          refine⟨X',a',it,.head S (Steps.trans ?_ (.head a8 k1)),k2,Y.trans (k3.mono Y.len),k4,k5⟩;simpa using q1
         ·simp at h
        ·simp at h
      | _=>simp [bD]at E
end
section
variable{Q:Program}{σ:Nat→FuncId}{X:Wd}{call:bQ}
def xR(Q:Program)(σ:Nat→FuncId)(lB:Nat→List V→aj→Option (Option (V × aj))):Prop:=
 ∀ f args H r H',lB f args H=aa (aa (r,H')) →
  (∀ as w,(callFunc (σ f) as).run Q w=.ok (.enter (σ f) as) w) ∧
  ∀(X:Wd) us b cs,X.H=H→SR Q σ X→X.B≤X.w.heap.size→A2 (VR σ X) args us→mc b cs→b=.normal∨f≠oa →
   ∃ d X' u,Steps Q (lone (Frame.enter Q (σ f) us.toArray b) cs X.w) (lone d cs X'.w)∧Leaves Q (σ f) b d u X'.w∧eB Q σ X r H' X' u
structure Env(Q:Program)(σ:Nat→FuncId)(tab:Nat→Option aw)(lB:Nat→List V→aj→Option (Option (V × aj))):Prop where
 mix:Q.follows .mixedOrders=ae
 fn:∀ f af,tab f=aa af→∃ fn,Q.funcs[σ f]?=aa fn∧Aa Q σ fn af=ae
 lB:xR Q σ lB
theorem qU:∀(ps:List P) (args:List V) (t:T) (s:Nat),ps.map P.toNat=List.range' s ps.length→args.length=ps.length→∀ q:P,
  (bP ps args t).get q=if s≤q.toNat then(args[q.toNat-s]?).getD (t.get q)else t.get q
 | [],args,t,s,_,b,q=>by
  have:args=[]:=acH b;subst this;simp [bP]
 | p::ps,[],t,s,_,b,q=>by simp at b
 | p::ps,v::y,t,s,d,b,q=>by
  simp only [List.map_cons,List.length_cons,List.range'_succ,List.cons.injEq]at d;have x:=qU ps y (t.set p v) (s+1) d.2 (by simpa using b) q;simp only [bP,x];by_cases j:p=q
  ·subst j;rw [aU (by omega),T.mS];simp [d.1]
  ·have u:q.toNat≠s:=fun e=>j (P.toNat_inj (d.1.trans e.symm));simp only [T.mS,j,if_false];by_cases l:s≤q.toNat
   ·have g:s+1≤q.toNat:=by omega
    have m:q.toNat-s=(q.toNat-(s+1))+1:=by omega
    simp [g,l,m]
   ·have g:¬ (s+1≤q.toNat):=by omega
    simp [g,l]
theorem RR.bP:∀(ps:List P) (b:List Tmp) (args:List V) (us:List Value) (al:T) (tmps:Array Value) (n:Nat),n≤tmps.size→RR σ X al tmps→A2 (VR σ X) args us→args.length=ps.length →
  eC (fun p (q:P)=>q.toNat == p&&decide (p<n)) b ps=ae→RR σ X (Km.bP ps args al) ((b.zip us).foldl (fun tmps (t,a)=>tmps.setIfInBounds t a) tmps)
 | [],b,args,us,al,tmps,n,l,j,d,g,h=>by
  have:args=[]:=acH g;subst this;have:us=[]:=acH d.len.symm;subst this;simpa [Km.bP]using j
 | p::ps,[],args,us,al,tmps,n,l,j,d,g,h=>by simp [eC]at h
 | p::ps,s::b,[],us,al,tmps,n,l,j,d,g,h=>by simp at g
 | p::ps,s::b,v::x,[],al,tmps,n,l,j,d,g,h=>by have:=d.len;simp at this
 | p::ps,s::b,v::x,u::us,al,tmps,n,l,j,d,g,h=>by
  simp only [eC,BY,beq_iff_eq,decide_eq_true_eq]at h;obtain⟨⟨y,A⟩,z⟩:=h;obtain⟨m,d⟩:=d.of_cons;subst y;refine RR.bP ps b x us _ _ n (by simpa using l) (RR.set σ j (by omega) m) d (by simpa using g) z
theorem oY:∀(l:List (Tmp × Value)) (tmps:Array Value),(l.foldl (fun tmps (t,a)=>tmps.setIfInBounds t a) tmps).size=tmps.size
 | [],_=>rfl| x::l,tmps=>by rw [List.foldl_cons,oY l];simp
theorem LF(fn:Nat):∀ m d s b s',run call fn m ab d s=aa (b,s')→b=ab∨b=aa .ret:=by
 intro m;induction m with
 | zero=>intro d s b s' h;simp [run]at h
 | succ m g=>
  intro d s b s' h;unfold run at h;split at h
  all_goals first
   | exact g _ _ _ _ h
   | (simp at h;done)
   | skip
  ·simp only [sh,IS]at h;exact .inl h.1.symm
  ·split at h
   ·split at h
    ·simp at h
    ·split at h
     ·exact g _ _ _ _ h
     ·exact g _ _ _ _ h
     ·exact g _ _ _ _ h
     ·simp at h
   ·simp at h
  ·split at h
   ·exact g _ _ _ _ h
   ·simp at h
  ·simp only [sh,IS]at h;exact .inr h.1.symm
  ·split at h
   ·exact g _ _ _ _ h
   ·simp at h
  ·split at h
   ·exact g _ _ _ _ h
   ·simp at h
  ·split at h
   ·simp at h
   ·split at h
    ·exact g _ _ _ _ h
    ·simp at h
  ·split at h
   ·simp at h
   ·simp only at h;split at h
    ·split at h
     ·exact g _ _ _ _ h
     ·simp at h
    ·simp at h
theorem oU{fn:Func}{af:aw}(h:Aa Q σ fn af=ae):∃ c,fn.name≠ "runtime.NumGoroutine"∧fn.body=aa c∧bD Q σ fn.ntmps c af.body=ae ∧
  eC (tR Q fn.ntmps) fn.results.toList af.results=ae∧af.ps.map P.toNat=List.range af.ps.length:=by
 simp only [Aa,BY,bne_iff_ne,ne_eq,decide_eq_true_eq]at h;obtain⟨⟨⟨h1,h2⟩,h3⟩,h4⟩:=h;cases hb:fn.body with
 | none=>rw [hb]at h2;simp at h2| some c=>rw [hb]at h2;exact⟨c,h1,rfl,h2,h3,h4⟩
theorem uF{f:FuncId}{fn:Func}{c:Code}(hf:Q.funcs[f]?=aa fn)(hn:fn.name≠ "runtime.NumGoroutine")(hb:fn.body=aa c)(as:Array Value)(w:World):(callFunc f as).run Q w=.ok (.enter f as) w:=by
 simp [callFunc,hf,hn,hb]
def gA(g:FuncId)(d:CallKind)(tmps:Array Value)(ds:List Deferred)(b:Frame):Prop:=
 b.mode=.returning∧b.defers=ds∧b.kind=d∧b.fn=g∧b.tmps=tmps
theorem step_collected{d:Frame}{cs:List Frame}{w w':World}{b:Nat}{as:Array Value}{ds:List Deferred}(j:d.mode=.returning)(g:d.defers = { target:=.collected b,args:=as }::ds)
  (l:(Instr.takeDeferred b).run Q w=.ok [] w'):step Q (lone d cs w)=.next (lone { d with defers:=ds } cs w'):=
 step_lone_go (by simp [stepG,unwind,j,g,Sem.runT_eq,l])
theorem rR{b:Frame}{cs:List Frame}{w:World}{f:FuncId}{cap as as':Array Value}{ds:List Deferred}(g:b.mode=.returning)(d:b.defers = { target:=.fn (.func f) cap,args:=as }::ds)
  (j:(invoke (.fn (.func f) cap) as).run Q w=.ok (.enter f as') w):step Q (lone b cs w)=.next (lone (Frame.enter Q f as' .deferred) ({ b with defers:=ds }::cs) w):=
 step_lone_go (by simp [stepG,unwind,g,d,callDeferred,Sem.runT_eq,j])
theorem lD{b c:Frame}{cs:List Frame}{w:World}{v:Value}{f:FuncId}(h:Leaves Q f .deferred b v w)(hc:c.mode=.returning) :
  step Q (lone b (c::cs) w)=.next (lone c cs w):=by
 obtain⟨q,j,m,l,fn,d,g⟩:=h;rw [←l]at d;exact step_lone_go (by simp [stepG,unwind,doReturn,q,j,m,d,Sem.runT_eq,g,hc])
theorem gA.pop{g:FuncId}{kind:CallKind}{tmps:Array Value}{d:Deferred}{ds:List Deferred}{fr:Frame}(h:gA g kind tmps (d::ds) fr):gA g kind tmps ds { fr with defers:=ds }:=
 ⟨h.1,rfl,h.2.2.1,h.2.2.2.1,h.2.2.2.2⟩
theorem tz(H:ea Q σ call){g:FuncId}{y:CallKind}{tmps:Array Value}{cs:List Frame}:∀(ds:List dm) (X:Wd) (l:List Deferred) (q:Frame) (H':aj),
  cV call ds X.H=aa H'→SR Q σ X→X.B≤X.w.heap.size→ez σ X ds l→gA g y tmps l q →
  ∃ fr' X',Steps Q (lone q cs X.w) (lone fr' cs X'.w)∧gA g y tmps [] fr'∧X'.H=H'∧SR Q σ X'∧X'.B≤X'.w.heap.size∧Ext X.H.length X X'
 | [],X,l,q,H',h,B,E,z,j=>by
  have:l=[]:=acH z.len.symm;subst this;simp only [cV,sh]at h;exact⟨q,X,Steps.refl _ _,j,h,B,E,Ext.refl _ _⟩
 | d::ds,X,[],q,H',h,B,E,z,j=>by have:=z.len;simp at this
 | .hY b::ds,X,m::l,q,H',h,B,E,z,j=>by
  obtain⟨⟨L,o,h1,h2,rfl⟩,A⟩:=A2.of_cons z;simp only [cV]at h;split at h
  ·rename_i I;obtain⟨_,_,aS,F,K⟩:=B.br b L h1;rw [I]at F;cases F;have x:X.w.heap[L.c]?=aa (.deferred (aa [])):=K;obtain⟨g1,J⟩:=SR.nB (o':=.deferred ab) (blk':=.fk ag) B I h1 x (by simp) (by simp)
    (fun aS v=>⟨.fk ag,by simp [(If.1 I).1],by rw [I]at v;cases v;exact fun L h=>h⟩)
    (fun X' b6 O _ a8 hH=>O)
   obtain⟨fr',X',S,U,W,Y,Z,k6⟩:=tz H ds _ l { q with defers:=l } H' h g1 (by simpa using E) (ez.ext' J A) j.pop;exact⟨fr',X',.head (step_collected j.1 j.2.1 (run_takeDeferred x)) S,U,W,Y,Z,J.trans (k6.mono J.len)⟩
  ·simp at h
 | .fn f args::ds,X,m::l,q,H',h,B,E,z,j=>by
  obtain⟨⟨us,cap,rfl,hA⟩,A⟩:=A2.of_cons z;simp only [cV]at h;split at h
  ·simp at h
  rename_i N;split at h
  ·rename_i r H1 s;have M:=H.enters f args _ _ s;obtain⟨a_,X1,u,q1,q2,q3,q4,q5,q6,q7⟩:=H.fn f args _ r H1 s X _ .deferred ({ q with defers:=l }::cs) rfl B E hA (.inr ⟨rfl,_,_,rfl,j.1⟩) (.inr N);rw [←q3]at h;obtain⟨fr',X',S,U,W,Y,Z,k6⟩:=tz H ds X1 l { q with defers:=l } H' h q4 q7 (ez.ext' q6 A) j.pop;refine⟨fr',X',.head (rR (as':=us++cap) j.1 j.2.1 (dS M)) (Steps.trans ?_ (.head (lD (c:={ q with defers:=l }) q2 j.1) S)),U,W,Y,Z,q6.trans (k6.mono q6.len)⟩;have e:(us.toList++cap.toList).toArray=us++cap:=by apply Array.ext';simp
   rw [e]at q1;exact q1
  ·simp at h
theorem WJ(E:SR Q σ X){n:Nat}{al:T}{tmps:Array Value}(m:RR σ X al tmps){r:ResultVar}{a:fF}(g:tR Q n r a=ae){v:V}
  (h:cD al X.H a=aa v):∃ u,(match r with | .tmp t=>pure (tmps.getD t undef) | .cell a t=>do loadVar t (←asAddr (tmps.getD a undef)):Sem Value).run Q X.w=.ok u X.w∧fX σ X v u:=by
 cases r with
 | tmp t=>
  cases a with
  | tmp p=>
   simp only [tR,BY,beq_iff_eq,decide_eq_true_eq]at g;have d:=m p;rw [g.1]at d;simp only [cD]at h;refine⟨_,rfl,?_⟩;split at h
   ·simp at h
   ·rename_i j;simp only [sh]at h;rw [h]at d;cases v with
    | t H=>exact absurd h (j H)| top=>trivial| c x=>exact d| a xs=>exact d
  | cell p k=>simp [tR]at g
 | cell t I=>
  cases a with
  | tmp p=>simp [tR]at g
  | cell p k=>
   simp only [tR,BY,beq_iff_eq,decide_eq_true_eq]at g;have d:=m p;rw [g.1.1]at d;simp only [cD]at h;cases q:al.get p with
   | c x=>
    rw [q]at h d;simp only [dz,Option.bind_eq_some_iff]at h;obtain⟨cs,s,b⟩:=h;obtain⟨c,o,us,F,z,A⟩:=pY E d s;obtain⟨u,B,l⟩:=xa g.2 z A b;refine⟨u,by simp [F,asAddr,B],?_⟩;cases k with
    | none=>cases cs with
     | nil=>simp [bY]at b| cons y ys=>simp only [bY,sh]at b;subst b;exact l
    | some k=>
     simp only [bY]at b;split at b
     ·simp only [sh]at b;subst b;exact l
     ·simp at b
   | _=>rw [q]at h;simp [dz]at h
theorem zj(K:SR Q σ X){fn:Func}{m:List fF}(L:eC (tR Q fn.ntmps) fn.results.toList m=ae){al:T}{tmps:Array Value}(J:RR σ X al tmps){v:V}
  (h:Km.results al X.H m=aa v):∃ u,(Go.results fn tmps).run Q X.w=.ok u X.w∧VR σ X v u:=by
 have key:∀(m:List fF) (qs:List ResultVar) (j:List V),eC (tR Q fn.ntmps) qs m=ae→aY (cD al X.H) m=aa j →
   ∃ us:List Value,(qs.mapM (fun r=>match r with | .tmp t=>pure (tmps.getD t undef) | .cell a t=>do loadVar t (←asAddr (tmps.getD a undef)):ResultVar→Sem Value)).run Q X.w=.ok us X.w∧A2 (fX σ X) j us:=by
  intro m;induction m with
  | nil=>
   intro qs j x l;cases qs with
   | nil=>simp only [aY,sh]at l;subst l;exact⟨[],rfl,A2.nil⟩| cons q qs=>simp [eC]at x
  | cons a m M=>
   intro qs j x l;cases qs with
   | nil=>simp [eC]at x
   | cons q qs=>
    simp only [eC,BY]at x;simp only [aY]at l;split at l
    ·simp at l
    ·rename_i A E;split at l
     ·simp at l
     ·rename_i B F;simp only [sh]at l;subst l;obtain⟨u,s,b⟩:=WJ K J x.1 E;obtain⟨us,H,I⟩:=M qs B x.2 F;refine⟨u::us,?_,A2.cons b I⟩;rw [List.mapM_cons,Sem.run_bind,s];simp only [Result.andThen_ok,Sem.run_bind,H,Sem.run_pure]
 unfold Km.results at h;have y:∀ j,aY (cD al X.H) m=aa j→∃ us:List Value,(Go.results fn tmps).run Q X.w=.ok (if h:us.toArray.size=1 then us.toArray[0]else .tuple us.toArray) X.w∧A2 (fX σ X) j us:=by
  intro j g;obtain⟨us,s,b⟩:=key m fn.results.toList j L g;refine⟨us,?_,b⟩;unfold Go.results;rw [Array.mapM_eq_mapM_toList,Sem.run_bind,Sem.run_map];exact(congrArg (fun r:Result (List Value)=>(r.andThen fun a w'=>Result.ok a.toArray w').andThen fun a w'=>Sem.run Q (pure (if h:a.size=1 then a[0]else Value.tuple a)) w') s).trans rfl
 split at h
 ·rename_i A g;simp only [sh]at h;subst h;obtain⟨us,s,b⟩:=y _ g
  match us,b with
  | [u],b=>exact⟨u,s,VR.Me σ b.of_cons.1⟩| [],b=>have:=b.len;simp at this| _::_::_,b=>have:=b.len;simp at this
 ·rename_i j z g;simp only [sh]at h;subst h;obtain⟨us,s,b⟩:=y _ g;refine⟨.tuple us.toArray,?_,us,rfl,b⟩;rw [s,dif_neg];intro d
  match us,d with
  | [u],_=>
   match j,b with
   | [A],_=>exact z A rfl| [],b=>have:=b.len;simp at this| _::_::_,b=>have:=b.len;simp at this
  | [],d=>simp at d| _::_::_,d=>simp at d
 ·simp at h
end
section
variable{Q:Program}{σ:Nat→FuncId}{tab:Nat→Option aw}{lB:Nat→List V→aj→Option (Option (V × aj))}
theorem YT(o:Env Q σ tab lB){m:Nat}{call:bQ}(n:ea Q σ call){f:Nat}{j:aw}(J:tab f=aa j){args:List V}(F:args.length=j.ps.length){y:Option ak}{s':St}{X:Wd}
  (x:run call f m ab [.code j.body] ⟨bP j.ps args .e,[],X.H⟩=aa (y,s')) {H':aj} (l:cV call s'.defs s'.heap=aa H') {r:V} (v:Km.results s'.al H' j.results=aa r)
  {us:List Value} {d:CallKind} {cs:List Frame} (hS:SR Q σ X) (hB:X.B≤X.w.heap.size) (i:A2 (VR σ X) args us) (hk:mc d cs) :
  ∃ Z X' u,Steps Q (lone (Frame.enter Q (σ f) us.toArray d) cs X.w) (lone Z cs X'.w)∧Leaves Q (σ f) d Z u X'.w∧eB Q σ X r H' X' u:=by
 obtain⟨fn,t,hm⟩:=o.fn f j J;obtain⟨c,N,z,A,S,O⟩:=oU hm
 let b:Frame:=Frame.enter Q (σ f) us.toArray d
 let q:Act:={ tmps:=us.toArray++Array.replicate (fn.ntmps-us.toArray.size) undef,defers:=[] }
 have hb:b=b.atR q [.code c]:=by
  simp [b,q,Frame.enter,Frame.atR,t,z]
 have U:fn.ntmps≤q.tmps.size:=by simp [q];omega
 have M:RR σ X (bP j.ps args .e) q.tmps:=by
  intro p;rw [qU j.ps args .e 0 (by rw [O,List.range_eq_range']) F p];simp only [Nat.zero_le,if_true,Nat.sub_zero];by_cases w:p.toNat<args.length
  ·have hx:=By w;have H:p.toNat<us.length:=i.len▸w;have hy:=By H;have hv:=i.2 _ _ _ hx hy;rw [hx];have:q.tmps.getD p.toNat undef=us[p.toNat]:=by
    simp [q,Array.getD_eq_getD_getElem?,Array.getElem?_append,H]
   rw [this];exact hv
  ·rw [ad5 (by omega)];cases p<;>trivial
 have hF:Fr Q σ fn.ntmps X ⟨bP j.ps args .e,[],X.H⟩ q:=⟨rfl,hS,hB,M,A2.nil,U⟩
 have hW:Way Q σ f fn.ntmps b cs ab [.code j.body] [.code c] ⟨bP j.ps args .e,[],X.H⟩ X q:=⟨hF,A2.cons (.code A) A2.nil,trivial,hk,rfl⟩
 obtain⟨K,a1,g,s1,B,W,_,Y⟩:=LG n o.mix f m fn.ntmps b cs ab _ _ _ X q y s' x hW;have I:∃ s,Steps Q (lone (b.atR a1 g) cs K.w) (lone s cs K.w)∧gA (σ f) d a1.tmps a1.defers s:=by
  rcases LF f m _ _ _ _ x with rfl | rfl
  ·have:g=[]:=Y;subst this;exact⟨_,.one (stepR_end rfl),rfl,rfl,rfl,rfl,rfl⟩
  ·obtain⟨k,rfl⟩:=Y;exact⟨_,.one (stepR_ret rfl),rfl,rfl,rfl,rfl,rfl⟩
 obtain⟨s,s2,R1⟩:=I;rw [←B.heap]at l;obtain⟨L,X2,s3,E,a,e,h3,h⟩:=tz n (cs:=cs) s'.defs K a1.defers s H' l B.sr B.b B.defs R1;rw [←a]at v;obtain⟨u,g1,g2⟩:=zj e S (RR.ext' σ h B.al) v;refine⟨L,X2,u,?_,⟨E.1,E.2.1,E.2.2.1,E.2.2.2.1,fn,t,by rw [E.2.2.2.2];exact g1⟩,a,e,g2,W.trans (h.mono W.len),h3⟩;show Steps Q (lone b cs X.w) _;rw [hb];exact s1.trans (s2.trans s3)
theorem L_(hE:Env Q σ tab lB){m:Nat}{call:bQ}(hC:ea Q σ call){b:Nat}{f:Nat}{tmps:T}{ps:List P}{as bd:ak}{q:eL}{pd:Option ak}{d:Nat}{X:Wd}(U:X.H[b]?=aa (.lp f tmps ps as bd q pd d))
  {args:List V} (S:args.length=ps.length) {g:Option ak} {s':St} (Y:run call f m (aa b) [.code as,.ke,.code bd] ⟨bP ps args tmps,[],X.H⟩=aa (g,s')) (b_:s'.defs.isEmpty=ae)
  {f':Nat} {v:T} {J:List P} {as' H:ak} {q':eL} {c7:Option ak} {d':Nat} (y:s'.heap[b]?=aa (.lp f' v J as' H q' c7 d'))
  {us:List Value} {c:Frame} {cs:List Frame} {L:Loc} (hS:SR Q σ X) (hB:X.B≤X.w.heap.size) (hA:A2 (VR σ X) args us) (hL:X.bI b=aa L) :
  ∃ f tmps as bd X' u,(Instr.yield L.c us.toArray).run Q X.w=.ok (.round L.c f tmps as bd) X.w ∧
   Steps Q (lone (Frame.round L.c f tmps as bd .normal) (c::cs) X.w) (lone (c.finish u) cs X'.w)∧eB Q σ X (.bool g.isNone) (s'.heap.set b (.lp f' v J as' H (if g.isNone then .ready else .done) g d')) X' u:=by
 obtain⟨n,ts,qs,z,A,c8,Ld,W,h2,h3,h4,h5,h6,h7,h8,h9⟩:=na hS hL U;have hq:=(dH h4).len;have c6:us.toArray.size=qs.size:=by
  have:=hA.len;simp only [Array.length_toList]at hq;simp;omega
 have hy:=run_yield (P:=Q) (args:=us.toArray) W c6
 let F:Array Value:=(qs.zip us.toArray).foldl (fun tmps (t,a)=>tmps.setIfInBounds t a) ts
 have O:F=(qs.toList.zip us).foldl (fun tmps (t,a)=>tmps.setIfInBounds t a) ts:=by
  simp only [F];rw [←Array.foldl_toList];simp
 let M:Act:={ tmps:=F,defers:=[] }
 let B:Frame:=Frame.round L.c (σ f) F z A .normal
 have b7:B=B.atR M [.code z,.beginRound,.code A]:=by simp [B,M,Frame.round,Frame.atR]
 have b9:RR σ X (bP ps args tmps) F:=by
  rw [O];exact RR.bP ps qs.toList args us tmps ts n h2 h3 hA S h4
 have hn:n≤F.size:=by rw [O,oY];exact h2
 have hF:Fr Q σ n X ⟨bP ps args tmps,[],X.H⟩ M:=⟨rfl,hS,hB,b9,A2.nil,hn⟩
 have E:yG X b:=⟨_,_,_,_,_,_,_,_,U⟩
 have hW:Way Q σ f n B (c::cs) (aa b) [.code as,.ke,.code bd] [.code z,.beginRound,.code A] ⟨bP ps args tmps,[],X.H⟩ X M:=
  ⟨hF,A2.cons (.code h5) (A2.cons .ke (A2.cons (.code h6) A2.nil)),⟨L,hL,rfl,E⟩,.inl rfl,rfl⟩
 obtain⟨X1,a1,x,s1,K,E1,_,Z⟩:=LG hC hE.mix f m n B (c::cs) (aa b) _ _ _ X M g s' Y hW;have N:=(E.ext E1).2 _ hL;rw [←K.heap]at y;obtain⟨n1,c_,c9,a_,b6,pend1,a8,s,k2,k3,k4,k5,k6,k7,k8,k9⟩:=na K.sr N y;have I:∀(l:Option Code),sD Q σ n1 g l→l.isNone=g.isNone→step Q (lone (B.atR a1 x) (c::cs) X1.w)=.next (lone (c.finish (.bool l.isNone)) cs (X1.w.putObj L.c (.loop { state:=if l.isNone then .ready else .done,pending:=l,fn:=σ f',tmps:=c_,params:=c9,assign:=a_,body:=b6,defers:=a8.c }))) →
   ∃ f tmps as bd X' u,(Instr.yield L.c us.toArray).run Q X.w=.ok (.round L.c f tmps as bd) X.w ∧
   Steps Q (lone (Frame.round L.c f tmps as bd .normal) (c::cs) X.w) (lone (c.finish u) cs X'.w)∧eB Q σ X (.bool g.isNone) (s'.heap.set b (.lp f' v J as' H (if g.isNone then .ready else .done) g d')) X' u:=by
  intro l hj hn c4;obtain⟨g1,g2⟩:=uM K.sr N y (q':=if g.isNone then .ready else .done) (pend1:=g) (pend':=l) k2 k3 k4 k5 k6 hj k8 k9;have hq:(if g.isNone then eL.ready else eL.done).of=(if l.isNone then LoopState.ready else LoopState.done):=by
   rw [hn];cases g<;>rfl
  rw [hq]at g1 g2;refine⟨σ f,F,z,A,_,.bool l.isNone,hy,?_,?_,g1,?_,E1.trans (g2.mono E1.len),?_⟩
  ·show Steps Q (lone B (c::cs) X.w) _;rw [b7];exact s1.trans (.one c4)
  ·rw [←K.heap]
  ·rw [hn];exact VR.qz _
  ·have:=K.b;simpa [World.putObj]using this
 cases g with
 | none=>
  have:x=[]:=Z;subst this;exact I ab trivial rfl (stepR_round_end rfl rfl (run_endRound (P:=Q) ab s))
 | some j=>
  cases j with
  | ret=>
   obtain⟨k,rfl⟩:=Z;exact I (aa .ret) (by simp [sD,bD]) rfl (stepR_round_ret rfl rfl (run_endRound (P:=Q) (aa .ret) s))
  | exit id=>
   obtain⟨k,rfl,hx⟩:=Z;exact I (aa (.exit id)) (by simp [sD,bD]) rfl (stepR_round_exit rfl rfl hx (run_endRound (P:=Q) (aa (.exit id)) s))
  | _=>exact Z.elim
theorem Jo(x:Env Q σ tab lB)(m:Nat):∀ d,ea Q σ (dx tab lB m d):=by
 intro d;induction d with
 | zero=>exact⟨fun f args H r h=>by simp [dx]at h,fun f args H r H' h=>by simp [dx]at h,fun b args H r H' h=>by simp [dx]at h⟩
 | succ d U=>
  refine⟨fun f args H r h=>?_,fun f args H r H' h X us B cs J I F E W K=>?_,fun b args H r H' h X us c cs L J I F E hL=>?_⟩
  ·simp only [dx]at h;split at h
   ·rename_i r' N;obtain⟨r0,H0⟩:=r;exact(x.lB f args H r0 H0 (by rw [N,h])).1
   ·split at h
    ·simp at h
    ·rename_i S l;obtain⟨fn,hf,hm⟩:=x.fn f S l;obtain⟨c,v,s,_⟩:=oU hm;exact uF hf v s
  ·simp only [dx]at h;split at h
   ·rename_i r' N;exact(x.lB f args H r H' (by rw [N,h])).2 X us B cs J I F E W K
   ·split at h
    ·simp at h
    ·rename_i S l;split at h
     ·rename_i g;split at h
      ·rename_i A s' j;split at h
       ·rename_i H1 u;simp only [IN,IS]at h;obtain⟨r1,z,rfl,rfl⟩:=h;subst J;exact YT x U l g j u z I F E W
       ·simp at h
      ·simp at h
     ·simp at h
  ·simp only [dx]at h;split at h
   ·rename_i f tmps ps as bd q pd d' M;split at h
    ·rename_i g;split at h
     ·rename_i A s' j;split at h
      ·rename_i hd;split at h
       ·rename_i f' O a_ as' Y q' a8 Z y;simp only [sh,IS]at h;obtain⟨rfl,rfl⟩:=h;subst J;exact L_ x U M g j hd y I F E hL
       ·simp at h
      ·simp at h
     ·simp at h
    ·simp at h
   ·simp at h
end
inductive vn where
 | no
 | set (b:Nat) (x:bK)
 | push (x:bK)
def vn.app(H:aj):vn→aj
 | .no=>H| .set b x=>H.set b x| .push x=>H++[x]
def pX(g:Nat→Option bK):C→Option (List C)
 | .ptr b off d=>match g b with
  | some (.box cs _)=>aa (cs.drop off)| some (.bA _ cs _ e .loc)=>if d=e then aa (cs.drop off)else ab| _=>ab
 | .f (.fp cs off)=>aa ((cs.drop off).map .f)| _=>ab
def UK(g:Nat→Option bK)(n:Option Nat):V→Option V
 | .c x=>(pX g x).bind (bY n)| _=>ab
def oD(g:Nat→Option bK):C→Option Nat
 | .sl b _ l _ d sz=>match g b with
  | some (.box _ _)=>aa l| some (.bA s _ _ e _)=>if d=e∧sz=s then aa l else ab| _=>ab
 | .f .ax=>aa 0| .f .es=>aa 0| .f (.fs _ l)=>aa l| _=>ab
def nz(g:Nat→Option bK)(sz:Nat):C→Option (List C)
 | .sl b o l _ d s=>match g b with
  | some (.box cs _)=>if o+l*sz≤cs.length then aa ((cs.drop o).take (l*sz))else ab| some (.bA s' cs _ e _)=>if d=e∧s=s'∧o+l*sz≤cs.length then aa ((cs.drop o).take (l*sz))else ab| _=>ab
 | .f .ax=>aa []| .f .es=>aa []| .f (.fs cs l)=>if cs.length=l*sz then aa (cs.map .f)else ab| _=>ab
def od(g:Nat→Option bK):Ch→C→Option Bool
 | .ptr,.f .lZ=>aa ae| .ptr,.f (.fp _ _)=>aa ag| .ptr,.ptr _ _ _=>aa ag| .sl,.f .ax=>aa ae| .sl,.f .es=>aa ag| .sl,.f (.fs _ _)=>aa ag
 | .sl,.sl b _ _ _ d sz=>match g b with
  | some (.box _ _)=>aa ag| some (.bA s _ _ e st)=>if d=e∧sz=s then aa (st == .nil)else ab| _=>ab
 | .fn,.f .gl=>aa ae| .fn,.f (.fn _ _)=>aa ag| .fn,.cl _ _=>aa ag| .fn,.bm _ _=>aa ag| .SU,.f .kG=>aa ae| _,_=>ab
def Ul(g:Nat→Option bK):Ch→V→V→Option Bool
 | .bool,.c x,.c y=>DV .bool x y| .st ks,.a xs,.a ys=>nR ks xs ys| .ptr,.c x,.c (.f .lZ)=>od g .ptr x| .sl,.c x,.c (.f .ax)=>od g .sl x| .fn,.c x,.c (.f .gl)=>od g .fn x| .SU,.c x,.c (.f .kG)=>od g .SU x| _,_,_=>ab
def pI(g:Nat→Option bK)(sz:Nat)(x:V)(lo d mx:Option V):Option V:=
 match x with
 | .c (.f .ax)=>match bw 0 0 lo d mx with
  | some _=>aa (.c (.f .ax))| none=>ab
 | .c (.f .es)=>match bw 0 0 lo d mx with
  | some _=>aa (.c (.f .es))| none=>ab
 | .c (.f (.fs cs n))=>match bw n n lo d mx with
  | some (l,h,m)=>
   if mx.isSome∧m=l then aa (.c (.f .es))else
   aa (.c (.f (.fs ((cs.drop (l*sz)).take ((h-l)*sz)) (h-l))))
  | none=>ab
 | .c (.sl b o n cap j s)=>match g b with
  | some (.box _ _)=>match bw n cap lo d mx with
   | some (l,h,m)=>if m=l then aa (.c (.f .es))else aa (.c (.sl b (o+l*sz) (h-l) (m-l) j s))| none=>ab
  | some (.bA s' _ _ e st)=>
   if j=e∧s=sz∧s'=sz then
    match st with
    | .loc=>match bw n n lo d mx with
     | some (l,h,m)=>
      if mx.isSome∧m=l then aa (.c (.f .es))
      else if l=h∧0<l then aa (.c (.f (.fs [] 0)))
      else if mx.isSome then ab
      else aa (.c (.sl b (o+l*sz) (h-l) 0 j s))
     | none=>ab
    | .nil=>match bw 0 0 lo d mx with
     | some _=>aa (.c (.f .ax))| none=>ab
    | .es=>match bw 0 0 lo d mx with
     | some _=>aa (.c (.f .es))| none=>ab
   else ab
  | _=>ab
 | _=>ab
def uH(g:Nat→Option bK)(n sz:Nat)(x:V)(lo d mx:Option V):Option V:=
 match x with
 | .c (.ptr b off _)=>match g b with
  | some (.box cs _)=>match bw n n lo d mx with
   | some (l,h,m)=>if off+n*sz≤cs.length then(if m=l then aa (.c (.f .es))else aa (.c (.sl b (off+l*sz) (h-l) (m-l) 0 sz)))else ab| none=>ab
  | _=>ab
 | .c (.f (.fp cs off))=>match bw n n lo d mx with
   | some (l,h,m)=>if off+n*sz≤cs.length then(if m=l then aa (.c (.f .es))else aa (.c (.f (.fs ((cs.drop (off+l*sz)).take ((h-l)*sz)) (h-l)))))else ab| none=>ab
 | _=>ab
def qo(g:Nat→Option bK)(sz:Nat)(j:Option Nat)(x i:V):Option V:=
 match fK i with
 | none=>ab
 | some i=>
  if 0≤i then
   match j,x with
   | none,.c (.sl b o l _ d s)=>if i<l then
     (match g b with
      | some (.box _ _)=>aa (.c (.ptr b (o+i.toNat*sz) d))| some (.bA s' _ _ e .loc)=>if d=e∧s=s' then aa (.c (.ptr b (o+i.toNat*sz) d))else ab
      | _=>ab)else ab
   | none,.c (.f (.fs cs l))=>if i<l then aa (.c (.f (.fp cs (i.toNat*sz))))else ab| some n,.c (.ptr b o d)=>if i<n then aa (.c (.ptr b (o+i.toNat*sz) d))else ab| some n,.c (.f (.fp cs o))=>if i<n then aa (.c (.f (.fp cs (o+i.toNat*sz))))else ab| _,_=>ab
  else ab
def qw(g:Nat→Option bK)(d:CK)(z:FC):V→V→Option V
 | .c (.f .lY),.c (.f k)=>if isKey d k then aa (UN z ab)else ab
 | .c (.mp b),.c (.f k)=>match g b with
  | some (.map j)=>if isKey d k then(ot d k j).map (UN z)else ab| _=>ab
 | _,_=>ab
def yj(g:Nat→Option bK):V→Option V
 | .c x=>match oD g x with
  | some _=>match nz g 1 x with
   | some cs=>(aY (fun c=>match c with | C.f (.int .u8 n)=>aa (UInt8.ofNat n.toNat) | _=>ab) cs).map fun l=>.c (.f (.str ⟨l.toArray⟩))
   | none=>ab
  | none=>ab
 | _=>ab
def mE(g:Nat→Option bK)(sz:Nat):V→Option (Nat × List C)
 | .c (.f (.str s))=>if sz=1 then aa (s.size,s.toList.map fun b=>.f (.int .u8 b.toNat))else ab
 | .c x=>match oD g x,nz g sz x with
  | some l,aa cs=>aa (l,cs)| _,_=>ab
 | _=>ab
def zn(g:Nat→Option bK):C→Option Nat
 | .sl b _ _ c d sz=>match g b with
  | some (.box _ _)=>aa c| some (.bA s _ _ e .nil)=>if d=e∧sz=s then aa 0 else ab| some (.bA s _ _ e .es)=>if d=e∧sz=s then aa 0 else ab| _=>ab
 | .f .ax=>aa 0| .f .es=>aa 0| _=>ab
def tA(g:Nat→Option bK):V→Option V
 | .c (.mi b)=>match g b with
  | some (.rk m _ ae)=>match g m with
   | some (.map [e])=>aa (.t [.c (.f e.1),mV e.2])| _=>ab
  | _=>ab
 | _=>ab
def LU(g:Nat→Option bK)(x:C)(xs:List C):Option vn:=
 match x with
 | .ptr b off d=>match g b with
  | some (.box cs fl)=>if fl≤off∧off+xs.length≤cs.length then aa (.set b (.box (over cs off xs) fl))else ab| some (.bA sz cs fl e .loc)=>if d=e∧fl≤off∧off+xs.length≤cs.length then aa (.set b (.bA sz (over cs off xs) fl e .loc))else ab| _=>ab
 | _=>ab
def yV(g:Nat→Option bK):V→Option (V × vn)
 | .c (.it b)=>match g b with
  | some (.it s pos)=>
   if pos<s.size then
    let r:=Utf8.decode s pos
    aa (.t [.bool ae,.int .i64 pos,.int .i32 r.1],.set b (.it s (pos+r.2)))
   else aa (.t [.bool ag],.no)
  | _=>ab
 | _=>ab
def pU(g:Nat→Option bK)(j:Nat)(sz bytes:Nat)(x y:V):Option (V × vn):=
 match mE g sz y with
 | none=>ab
 | some (m,ys)=>
  if sz=0 then ab else
  match x with
  | .c (.f .ax)=>if m=0 then aa (.c (.f .ax),.no)else
    if bB m bytes then aa (.c (.sl j 0 m 0 0 sz),.push (.bA sz ys 0 0 .loc))else ab
  | .c (.f .es)=>if m=0 then aa (.c (.f .es),.no)else
    if bB m bytes then aa (.c (.sl j 0 m 0 0 sz),.push (.bA sz ys 0 0 .loc))else ab
  | .c (.sl b o l cap d s)=>match g b with
   | some (.box cs fl)=>
    if l+m≤cap then
     if fl≤o+l*sz∧o+l*sz+ys.length≤cs.length then aa (.c (.sl b o (l+m) cap d s),.set b (.box (over cs (o+l*sz) ys) fl))else ab
    else if bB (l+m) bytes∧o+l*sz≤cs.length then aa (.c (.sl j 0 (l+m) 0 0 sz),.push (.bA sz ((cs.drop o).take (l*sz)++ys) 0 0 .loc))else ab
   | some (.bA s' cs fl e st)=>
    if d=e∧s'=sz∧s=sz then
     if m=0 then aa (x,.no)
     else if o=0∧l*sz=cs.length∧fl≤cs.length then
      if bB (l+m) bytes then aa (.c (.sl b 0 (l+m) 0 (d+1) sz),.set b (.bA sz (cs++ys) fl (e+1) .loc))else ab
     else if st=.loc∧fl≤o+l*sz∧o+l*sz+ys.length≤cs.length then
      aa (.c (.sl b o (l+m) 0 d sz),.set b (.bA sz (over cs (o+l*sz) ys) fl e .loc))
     else ab
    else ab
   | _=>ab
  | _=>ab
def yh(g:Nat→Option bK)(sz:Nat)(x y:V):Option (V × vn):=
 match mE g sz y,x with
 | some _,.c (.f .ax)=>aa (.int .i64 0,.no)| some _,.c (.f .es)=>aa (.int .i64 0,.no)
 | some (m,ys),.c (.sl b o l _ d s')=>
  let n:=Nat.min m l
  match g b with
  | some (.box cs fl)=>if fl≤o∧o+n*sz≤cs.length then aa (.int .i64 n,.set b (.box (over cs o (ys.take (n*sz))) fl))else ab| some (.bA s cs fl e .loc)=>if d=e∧s'=s∧s=sz∧fl≤o∧o+n*sz≤cs.length then aa (.int .i64 n,.set b (.bA s (over cs o (ys.take (n*sz))) fl e .loc))else ab| _=>ab
 | _,_=>ab
def tv(g:Nat→Option bK)(sz:Nat)(zs:List FC)(x:V):Option vn:=
 match x with
 | .c y=>match oD g y with
  | some 0=>aa .no
  | some l=>
   if zs.length=sz then
    match y with
    | .sl b o _ _ d s=>match g b with
     | some (.box _ _)=>LU g (.ptr b o d) ((bX l zs).map .f)| some (.bA s' _ _ e .loc)=>if d=e∧s=s' then LU g (.ptr b o d) ((bX l zs).map .f)else ab| _=>ab
    | _=>ab
   else ab
  | none=>ab
 | _=>ab
def zq(g:Nat→Option bK)(sz:Nat)(x d mx:V):Option (V × vn):=
 match pI g sz x ab (aa d) (aa mx)with
 | some v=>aa (v,.no)
 | none=>match x with
  | .c (.sl b o n _ l s)=>match g b with
   | some (.bA s' cs fl e .loc)=>
    if l=e∧s=sz∧s'=sz∧o=0 then
     match uQ d n,uQ mx n with
     | some i,aa j=>
      if i=j∧0<i∧i*sz≤cs.length then
       match aY YR (cs.take (i*sz))with
       | some ys=>aa (.c (.f (.fs ys i)),.set b (.bA s' cs (Nat.max fl (i*sz)) e .loc))| none=>ab
      else ab
     | _,_=>ab
    else ab
   | _=>ab
  | _=>ab
def xZ(g:Nat→Option bK)(b:Nat)(sz bytes:Nat)(zs:List FC)(x n:V):Option (V × vn):=
 match fK n with
 | some n=>
  if 0≤n∧zs.length=sz then
   match x with
   | .c (.f .ax)=>if n.toNat=0 then aa (.c (.f .ax),.no)else
     if bB n.toNat bytes then aa (.c (.sl b 0 n.toNat 0 0 sz),.push (.bA sz ((bX n.toNat zs).map .f) 0 0 .loc))else ab
   | .c (.f .es)=>if n.toNat=0 then aa (.c (.f .es),.no)else
     if bB n.toNat bytes then aa (.c (.sl b 0 n.toNat 0 0 sz),.push (.bA sz ((bX n.toNat zs).map .f) 0 0 .loc))else ab
   | _=>ab
  else ab
 | none=>ab
def tY(g:Nat→Option bK):V→Option (V × vn)
 | .c (.mi b)=>match g b with
  | some (.rk m d done)=>match g m with
   | some (.map [])=>if done then ab else aa (.t [.bool ag],.no)| some (.map [e])=>if done then aa (.t [.bool ag],.no)else if d=1 then aa (.t [.bool ae,.c (.f e.1),mV e.2],.set b (.rk m 1 ae))else ab| _=>ab
  | _=>ab
 | _=>ab
def qP(g:Nat→Option bK)(j:Nat):V→Option (V × vn)
 | .c (.mp b)=>match g b with
  | some (.map d)=>if d.length≤1 then aa (.c (.mi j),.push (.rk b d.length ag))else ab| _=>ab
 | _=>ab
def L6(al:T)(g:Nat→Option bK)(d:Nat):cj→Option (V × vn)
 | .cb x=>aa (x.ev al,.no)| .pre o sz=>if o=.loc∨sz=0 then ab else aa (.c (.sl d 0 0 0 0 sz),.push (.bA sz [] 0 0 o))
 | .pick c a b=>match c.ev al with
  | .c (.f (.bool v))=>aa ((if v then a else b).ev al,.no)| _=>ab
 | .alloc zs=>aa (.c (.ptr d 0 0),.push (.box (zs.map .f) 0))
 | .box x=>match (x.ev al).cells? with
  | some xs=>aa (.c (.ptr d 0 0),.push (.box xs 0))| none=>ab
 | .build zs ps=>(cT al (zs.map .f) ps).map fun cs=>(.a cs,.no)
 | .aZ sz zs n ps=>
  if n=0 then(if ps.isEmpty then aa (.c (.f .es),.no)else ab)else
  (cT al ((bX n zs).map .f) (ps.map fun p=>(p.1*sz,sz,p.2))).map fun cs=>(.c (.sl d 0 n n 0 sz),.push (.box cs 0))
 | .load n x=>(UK g n (x.ev al)).map (·,.no)
 | .store n x y=>match x.ev al,(y.ev al).cells? with
  | .c p,aa xs=>if xs.length=n then(LU g p xs).map (.top,·)else ab| _,_=>ab
 | .bp x=>match x.ev al with
  | .c (.ptr b o e)=>aa (.c (.ptr b o e),.no)| .c (.f (.fp cs o))=>aa (.c (.f (.fp cs o)),.no)| _=>ab
 | .bin E x y=>(bt E (x.ev al) (y.ev al)).map (·,.no)| .eq neg k x y=>(Ul g k (x.ev al) (y.ev al)).map fun b=>(.bool (if neg then !b else b),.no)
 | .un E x=>(unV E (x.ev al)).map (·,.no)
 | .gF k x=>match x.ev al with
  | .c (.f (.int _ n))=>aa (.int k (k.wrap n),.no)| _=>ab
 | .tx x=>match x.ev al with
  | .c (.f (.str s))=>aa (.c (.f (.str s)),.no)| _=>ab
 | .tw x=>(yj g (x.ev al)).map (·,.no)
 | .yk x=>match x.ev al with
  | .c (.f (.str s))=>if s.size<2 ^ 48 then aa (.c (.sl d 0 s.size 0 0 1),.push (.bA 1 (s.toList.map fun b=>.f (.int .u8 b.toNat)) 0 0 .loc))else ab
  | _=>ab
 | .eT f q=>(aY o7 (cK al q)).map fun xs=>(.c (.cl f xs),.no)
 | .gW=>aa (.c (.mp d),.push (.map []))| .lookup u z m k=>(qw g u z (m.ev al) (k.ev al)).map (·,.no)
 | .iZ u m k v=>match m.ev al,k.ev al,pW (v.ev al)with
  | .c (.mp b),.c (.f k),aa v=>match g b with
   | some (.map B)=>if isKey u k then(sH u k v B).map fun B=>(.top,.set b (.map B))else ab
   | _=>ab
  | _,_,_=>ab
 | .dh sz bytes zs l c=>match fK (l.ev al),fK (c.ev al)with
  | some l,aa c=>
   if 0≤l∧l≤c∧bB c.toNat bytes=ae∧zs.length=sz then
    (if c=0 then aa (.c (.f .es),.no)else
    aa (.c (.sl d 0 l.toNat c.toNat 0 sz),.push (.box ((bX c.toNat zs).map .f) 0)))
   else ab
  | _,_=>ab
 | .slice sz x lo j mx=>(pI g sz (x.ev al) (lo.map (·.ev al)) (j.map (·.ev al)) (mx.map (·.ev al))).map (·,.no)| .lM n sz x lo j mx=>(uH g n sz (x.ev al) (lo.map (·.ev al)) (j.map (·.ev al)) (mx.map (·.ev al))).map (·,.no)| .nA x lo j=>(qY (x.ev al) (lo.map (·.ev al)) (j.map (·.ev al))).map (·,.no)| .aJ off x=>(gh off (x.ev al)).map (·,.no)| .field off n x=>(nS off n (x.ev al)).map (·,.no)| .bh sz A x i=>(qo g sz A (x.ev al) (i.ev al)).map (·,.no)| .idxs x i=>(vW (x.ev al) (i.ev al)).map (·,.no)| .tJ len sz n x i=>(vV len sz n (x.ev al) (i.ev al)).map (·,.no)
 | .range x=>match x.ev al with
  | .c (.f (.str s))=>aa (.c (.it d),.push (.it s 0))| _=>ab
 | .next x=>yV g (x.ev al)
 | .extract x i=>match x.ev al with
  | .t H=>(H[i]?).map (·,.no)| _=>ab
 | .qt n=>aa (.int .i64 n,.no)
 | .lens x=>match x.ev al with
  | .c (.f (.str s))=>aa (.int .i64 (s.size:Nat),.no)| _=>ab
 | .len x=>match x.ev al with
  | .c y=>match oD g y with
   | some n=>aa (.int .i64 (n:Nat),.no)| none=>ab
  | _=>ab
 | .append sz bytes x y=>pU g d sz bytes (x.ev al) (y.ev al)| .copy sz x y=>yh g sz (x.ev al) (y.ev al)| .dZ lo xs=>(wh lo (cK al xs)).map (·,.no)| .clear sz zs x=>(tv g sz zs (x.ev al)).map (.t [],·)| .fT sz zs n ps=>((cT al ((bX n zs).map .f) (ps.map fun p=>(p.1*sz,sz,p.2))).bind fun cs=>if n=0 then ab else Py cs).map fun F=>(.c (.f (.fs F n)),.no)
 | .qV sz x j mx=>zq g sz (x.ev al) (j.ev al) (mx.ev al)| .mF sz bytes zs x n=>xZ g d sz bytes zs (x.ev al) (n.ev al)| .ik x=>qP g d (x.ev al)| .lG x=>tY g (x.ev al)| .entry x=>(tA g (x.ev al)).map (·,.no)| .rG f xs=>(aY o7 (cK al xs)).map fun xs=>(.c (.bm f xs),.no)
 | .cap x=>match x.ev al with
  | .c y=>match zn g y with
   | some n=>aa (.int .i64 (n:Nat),.no)| none=>ab
  | _=>ab
 | _=>ab
def gt(H:aj):Nat→Option bK:=fun b=>H[b]?
theorem vH(H:aj):pX (gt H)=bo H:=by funext x;unfold pX bo gt;rfl
theorem PT(H:aj):UK (gt H)=dz H:=by funext n x;unfold UK dz;rw [vH];rfl
theorem lq(H:aj):oD (gt H)=bM H:=by funext x;unfold oD bM gt;rfl
theorem oZ(H:aj):nz (gt H)=cW H:=by funext n x;unfold nz cW gt;rfl
theorem CL(H:aj):od (gt H)=isNil H:=by funext k x;unfold od isNil gt;rfl
theorem Pt(H:aj):Ul (gt H)=JH H:=by funext k x y;unfold Ul JH;rw [CL];rfl
theorem qW(H:aj):pI (gt H)=dL H:=by funext n x a b c;unfold pI dL gt;rfl
theorem zo(H:aj):uH (gt H)=il H:=by funext m n x a b c;unfold uH il gt;rfl
theorem vY(H:aj):qo (gt H)=a6 H:=by funext n a x i;unfold qo a6 gt;rfl
theorem wa(H:aj):qw (gt H)=gk H:=by funext k z x y;unfold qw gk gt;rfl
theorem Cw(H:aj):yj (gt H)=lF H:=by funext x;unfold yj lF;rw [lq,oZ];rfl
theorem lR(H:aj):mE (gt H)=dC H:=by funext n x;unfold mE dC;rw [lq,oZ];rfl
theorem DL(H:aj):zn (gt H)=jU H:=by funext x;unfold zn jU gt;rfl
theorem yp(H:aj):tA (gt H)=jx H:=by funext x;unfold tA jx gt;rfl
def gE(H:aj)(r:Option (V × vn)):Option (V × aj):=r.map fun r=>(r.1,r.2.app H)
theorem uI(H:aj)(x:C)(xs:List C):(LU (gt H) x xs).map (·.app H)=gD H x xs:=by
 cases x with
 | ptr b off d=>
  simp only [LU,gD,gt];cases h:H[b]? with
  | none=>rfl
  | some aS=>
   cases aS with
   | box cs fl=>simp only;split<;>rfl
   | bA sz cs fl e st=>cases st<;>simp only<;>first | rfl | (split<;>rfl)
   | _=>rfl
 | _=>rfl
theorem CX(H:aj)(x:V):gE H (yV (gt H) x)=Ae H x:=by
 cases x with
 | c x=>
  cases x with
  | it b=>
   simp only [yV,Ae,gt,gE];cases h:H[b]? with
   | none=>rfl
   | some aS=>
    cases aS with
    | it s pos=>simp only;split<;>rfl
    | _=>rfl
  | _=>rfl
 | _=>rfl
theorem Cu(H:aj)(sz:Nat)(x y:V):gE H (yh (gt H) sz x y)=copyV H sz x y:=by
 unfold yh copyV gE;rw [lR];cases g:dC H sz y with
 | none=>rfl
 | some r=>
  obtain⟨m,ys⟩:=r;cases x with
  | c x=>
   cases x with
   | f x=>cases x<;>rfl
   | sl b o l cap d s=>
    simp only [gt];cases h:H[b]? with
    | none=>rfl
    | some aS=>
     cases aS with
     | box cs fl=>simp only;split<;>rfl
     | bA sz cs fl e st=>cases st<;>simp only<;>first | rfl | (split<;>rfl)
     | _=>rfl
   | _=>rfl
  | _=>rfl
theorem vA(H:aj)(sz bytes:Nat)(x y:V):gE H (pU (gt H) H.length sz bytes x y)=bJ H sz bytes x y:=by
 unfold pU bJ gE;rw [lR];cases j:dC H sz y with
 | none=>rfl
 | some r=>
  obtain⟨m,ys⟩:=r;simp only;by_cases d:sz=0
  ·simp [d]
  ·simp only [d,if_false];cases x with
   | c x=>
    cases x with
    | f x=>cases x<;>first | rfl | (simp only;repeat' (first | rfl | split))
    | sl b o l cap g s=>
     simp only [gt];cases h:H[b]? with
     | none=>rfl
     | some aS=>
      cases aS with
      | box cs fl=>simp only;repeat' (first | rfl | split)
      | bA sz cs fl e st=>simp only;repeat' (first | rfl | split)
      | _=>rfl
    | _=>rfl
   | _=>rfl
theorem yc(H:aj)(sz:Nat)(zs:List FC)(x:V):(tv (gt H) sz zs x).map (·.app H)=lV H sz zs x:=by
 unfold tv lV;cases x with
 | c y=>
  simp only [lq];cases bM H y with
  | none=>rfl
  | some l=>
   cases l with
   | zero=>rfl
   | succ l=>
    simp only;split
    ·cases y with
     | sl b o g c d s=>
      simp only [gt];cases h:H[b]? with
      | none=>rfl
      | some aS=>
       cases aS with
       | box cs fl=>exact uI H _ _
       | bA s' cs fl e st=>
        cases st<;>simp only<;>first | rfl | skip
        split
        ·exact uI H _ _
        ·rfl
       | _=>rfl
     | _=>rfl
    ·rfl
 | _=>rfl
theorem Cp(H:aj)(sz bytes:Nat)(zs:List FC)(x n:V):gE H (xZ (gt H) H.length sz bytes zs x n)=zL H sz bytes zs x n:=by
 unfold xZ zL gE;cases fK n with
 | none=>rfl
 | some n=>
  simp only;split
  ·cases x with
   | c x=>
    cases x with
    | f x=>cases x<;>first | rfl | (simp only;repeat' (first | rfl | split))
    | _=>rfl
   | _=>rfl
  ·rfl
theorem DO(H:aj)(sz:Nat)(x d mx:V):gE H (zq (gt H) sz x d mx)=w7 H sz x d mx:=by
 unfold zq w7 gE;rw [qW];cases dL H sz x ab (aa d) (aa mx)with
 | some v=>rfl
 | none=>
  simp only;cases x with
  | c x=>
   cases x with
   | sl b o n c g s=>
    simp only [gt];cases H[b]? with
    | none=>rfl
    | some aS=>
     cases aS with
     | bA s' cs fl e st=>
      cases st<;>simp only<;>first | rfl | skip
      split
      ·cases uQ d n<;>cases uQ mx n<;>simp only<;>first | rfl | skip
       split
       ·cases aY YR (List.take _ cs)<;>rfl
       ·rfl
      ·rfl
     | _=>rfl
   | _=>rfl
  | _=>rfl
theorem yW(H:aj)(x:V):gE H (tY (gt H) x)=tX H x:=by
 cases x with
 | c x=>
  cases x with
  | mi b=>
   simp only [tY,tX,gt,gE];cases h:H[b]? with
   | none=>rfl
   | some aS=>
    cases aS with
    | rk m g done=>
     simp only;cases l:H[m]? with
     | none=>rfl
     | some d=>
      cases d with
      | map j=>
       match j with
       | []=>simp only;split<;>rfl
       | [e]=>simp only;repeat' (first | rfl | split)
       | _::_::_=>rfl
      | _=>rfl
    | _=>rfl
  | _=>rfl
 | _=>rfl
theorem wP(H:aj)(x:V):gE H (qP (gt H) H.length x)=pD H x:=by
 cases x with
 | c x=>
  cases x with
  | mp b=>
   simp only [qP,pD,gt,gE];cases h:H[b]? with
   | none=>rfl
   | some aS=>
    cases aS with
    | map d=>simp only;split<;>rfl
    | _=>rfl
  | _=>rfl
 | _=>rfl
theorem zK{H:aj}(o:Option V):gE H (o.map (·,.no))=o.map (·,H):=by cases o<;>rfl
theorem uN(al:T)(H:aj)(g:cj):gE H (L6 al (gt H) H.length g)=aW al H g:=by
 cases g<;>simp only [L6,aW,zK,PT,qW,zo,vY,wa,Cw,vA,Cu,CX,Cp,DO,yW,wP,yp]
 all_goals first | rfl | skip
 case pre o sz=>split<;>rfl
 case pick c a b=>
  generalize c.ev al=v;cases v<;>try rfl
  rename_i x;cases x<;>try rfl
  rename_i x;cases x<;>rfl
 case box x=>generalize (x.ev al).cells?=o;cases o<;>rfl
 case build zs ps=>cases cT al (zs.map .f) ps<;>rfl
 case aZ sz zs n ps=>
  split
  ·split<;>rfl
  ·simp only [gE,adU];rfl
 case fT sz zs n ps=>
  generalize (cT al ((bX n zs).map .f) (ps.map fun p=>(p.1*sz,sz,p.2))).bind (fun cs=>if n=0 then ab else Py cs)=o;cases o<;>rfl
 case store n x y=>
  generalize x.ev al=v;generalize (y.ev al).cells?=o;cases v<;>cases o<;>try rfl
  simp only;split
  ·rw [←uI];simp only [gE,adU];rfl
  ·rfl
 case bp x=>
  generalize x.ev al=v;cases v<;>try rfl
  rename_i x;cases x<;>try rfl
  rename_i x;cases x<;>rfl
 case eq neg k x y=>rw [Pt];simp only [gE,adU];rfl
 case gF k x=>
  generalize x.ev al=v;cases v<;>try rfl
  rename_i x;cases x<;>try rfl
  rename_i x;cases x<;>rfl
 case tx x=>
  generalize x.ev al=v;cases v<;>try rfl
  rename_i x;cases x<;>try rfl
  rename_i x;cases x<;>rfl
 case yk x=>
  generalize x.ev al=v;cases v<;>try rfl
  rename_i x;cases x<;>try rfl
  rename_i x;cases x<;>try rfl
  simp only;split<;>rfl
 case eT f d=>simp only [gE,adU];rfl
 case iZ j m k v=>
  generalize m.ev al=m;generalize k.ev al=k;generalize pW (v.ev al)=v;cases m<;>try rfl
  rename_i m;cases m<;>try rfl
  cases k<;>try rfl
  rename_i k;cases k<;>try rfl
  cases v<;>try rfl
  simp only [gt];rename_i b k v;cases H[b]? with
  | none=>rfl
  | some aS=>
   cases aS<;>try rfl
   simp only;split
   ·simp only [gE,adU];rfl
   ·rfl
 case dh sz bytes zs l c=>
  generalize fK (l.ev al)=l;generalize fK (c.ev al)=c;cases l<;>cases c<;>try rfl
  simp only;split
  ·split<;>rfl
  ·rfl
 case range x=>
  generalize x.ev al=v;cases v<;>try rfl
  rename_i x;cases x<;>try rfl
  rename_i x;cases x<;>rfl
 case extract x i=>
  generalize x.ev al=v;cases v<;>try rfl
  simp only [zK]
 case len x=>
  generalize x.ev al=v;cases v<;>try rfl
  rw [lq];simp only;rename_i y;cases bM H y<;>rfl
 case lens x=>
  generalize x.ev al=v;cases v<;>try rfl
  rename_i x;cases x<;>try rfl
  rename_i x;cases x<;>rfl
 case clear sz zs x=>rw [←yc];simp only [gE,adU];rfl
 case rG f d=>simp only [gE,adU];rfl
 case cap x=>
  generalize x.ev al=v;cases v<;>try rfl
  rw [DL];simp only;rename_i y;cases jU H y<;>rfl
section
set_option linter.unusedVariables false
inductive BT(α:Type) where
 | e
 | n (l:BT α) (x:α) (r:BT α)
def BT.get{d:Type}:BT d→Nat→Option d
 | .e,_=>ab
 | .n l x r,b=>match b with
  | 0=>aa x| m+1=>if m % 2=0 then l.get (m / 2)else r.get (m / 2)
abbrev HT:=BT bK
def eZ{j:Type}(b:Nat)(t:BT j)(k:j→Prop):Prop:=
 BT.rec (motive:=fun _=>Nat→Prop) (fun _=>False)
  (fun _ x _ d g b=>Nat.rec (motive:=fun _=>Prop) (k x) (fun m _=>Nat.rec (motive:=fun _=>Prop) (d (Nat.div m 2)) (fun _ _=>g (Nat.div m 2)) (Nat.mod m 2)) b) t b
def e7{d:Type}(x:d)(t:BT d):Nat→(BT d→Prop)→Prop:=
 BT.rec (motive:=fun _=>Nat→(BT d→Prop)→Prop) (fun _ _=>False)
  (fun l y r g j b k=>Nat.rec (motive:=fun _=>Prop) (k (.n l x r))
   (fun m _=>Nat.rec (motive:=fun _=>Prop) (g (Nat.div m 2) fun q=>k (.n q y r)) (fun _ _=>j (Nat.div m 2) fun r'=>k (.n l y r')) (Nat.mod m 2)) b) t
def tq{d:Type}(x:d)(t:BT d):Nat→(BT d→Prop)→Prop:=
 BT.rec (motive:=fun _=>Nat→(BT d→Prop)→Prop) (fun b k=>Nat.rec (motive:=fun _=>Prop) (k (.n .e x .e)) (fun _ _=>False) b)
  (fun l y r g j b k=>Nat.rec (motive:=fun _=>Prop) False
   (fun m _=>Nat.rec (motive:=fun _=>Prop) (g (Nat.div m 2) fun q=>k (.n q y r)) (fun _ _=>j (Nat.div m 2) fun r'=>k (.n l y r')) (Nat.mod m 2)) b) t
theorem Kc(m:Nat):m % 2=0∨m % 2=1:=by omega
theorem cP{u:Type}{t:BT u}:∀ {b:Nat} {k:u→Prop},eZ b t k→∃ x,t.get b=aa x∧k x:=by
 induction t with
 | e=>intro b k h;exact h.elim
 | n l x r q s=>
  intro b k h;cases b with
  | zero=>exact⟨x,rfl,h⟩
  | succ m=>
   have j:Nat.rec (motive:=fun _=>Prop) (eZ (m / 2) l k) (fun _ _=>eZ (m / 2) r k) (m % 2):=h;rcases Kc m with e | e<;>rw [e]at j
   ·obtain⟨y,d,g⟩:=q j;exact⟨y,by simp [BT.get,e,d],g⟩
   ·obtain⟨y,d,g⟩:=s j;exact⟨y,by simp [BT.get,e,d],g⟩
def lE{d:Type}(t g:BT d)(b:Nat)(x:d):Prop:=∀ i,g.get i=if i=b then aa x else t.get i
theorem lE.left{g:Type}{l d r:BT g}{y x:g}{m:Nat}(e:m % 2=0)(h:lE l d (m / 2) x):lE (.n l y r) (.n d y r) (m+1) x:=by
 intro i;cases i with
 | zero=>simp [BT.get]
 | succ j=>
  simp only [BT.get,h (j / 2)];rcases Kc j with b | b
  ·have:(j / 2=m / 2)↔(j=m):=by omega
   simp [b,this]
  ·have:j≠m:=by omega
   simp [b,this]
theorem lE.right{d:Type}{l r' r:BT d}{y x:d}{m:Nat}(e:m % 2=1)(h:lE r r' (m / 2) x):lE (.n l y r) (.n l y r') (m+1) x:=by
 intro i;cases i with
 | zero=>simp [BT.get]
 | succ j=>
  simp only [BT.get,h (j / 2)];rcases Kc j with b | b
  ·have:j≠m:=by omega
   simp [b,this]
  ·have:(j / 2=m / 2)↔(j=m):=by omega
   simp [b,this]
theorem Jl{A:Type}{x:A}{t:BT A}:∀ {b:Nat} {k:BT A→Prop},e7 x t b k→∃ B,lE t B b x∧(∃ y,t.get b=aa y)∧k B:=by
 induction t with
 | e=>intro b k h;exact h.elim
 | n l y r s u=>
  intro b k h;cases b with
  | zero=>
   refine⟨.n l x r,fun i=>?_,⟨y,rfl⟩,h⟩;cases i<;>simp [BT.get]
  | succ m=>
   have q:Nat.rec (motive:=fun _=>Prop) (e7 x l (m / 2) fun v=>k (.n v y r)) (fun _ _=>e7 x r (m / 2) fun r'=>k (.n l y r')) (m % 2):=h;rcases Kc m with e | e<;>rw [e]at q
   ·obtain⟨v,d,⟨z,g⟩,j⟩:=s q;exact⟨_,d.left e,⟨z,by simp [BT.get,e,g]⟩,j⟩
   ·obtain⟨v,d,⟨z,g⟩,j⟩:=u q;exact⟨_,d.right e,⟨z,by simp [BT.get,e,g]⟩,j⟩
theorem Cq{v:Type}{x:v}{t:BT v}:∀ {b:Nat} {k:BT v→Prop},tq x t b k→∃ z,lE t z b x∧k z:=by
 induction t with
 | e=>
  intro b k h;cases b with
  | zero=>
   refine⟨.n .e x .e,fun i=>?_,h⟩;cases i<;>simp [BT.get]
  | succ m=>exact h.elim
 | n l y r q s=>
  intro b k h;cases b with
  | zero=>exact h.elim
  | succ m=>
   have j:Nat.rec (motive:=fun _=>Prop) (tq x l (m / 2) fun u=>k (.n u y r)) (fun _ _=>tq x r (m / 2) fun r'=>k (.n l y r')) (m % 2):=h;rcases Kc m with e | e<;>rw [e]at j
   ·obtain⟨u,d,g⟩:=q j;exact⟨_,d.left e,g⟩
   ·obtain⟨u,d,g⟩:=s j;exact⟨_,d.right e,g⟩
def cm(H:aj)(t:HT):Prop:=t.get=gt H
theorem cm.nil:cm [] .e:=by funext b;simp [BT.get,gt]
theorem cm.set{H:aj}{t g:HT}(h:cm H t){b:Nat}{x:bK}(l:lE t g b x)(j:∃ y,t.get b=aa y):cm (H.set b x) g:=by
 funext i;obtain⟨y,hy⟩:=j;rw [h]at hy;have d:b<H.length:=(If.1 hy).1;rw [l i,h];simp only [gt];by_cases e:i=b
 ·subst e;simp [d]
 ·simp [e,AI (Ne.symm e)]
theorem cm.push{H:aj}{t b:HT}(h:cm H t){x:bK}(g:lE t b H.length x):cm (H++[x]) b:=by
 funext i;rw [g i,h];simp only [gt];by_cases e:i=H.length
 ·subst e;simp
 ·by_cases d:i<H.length
  ·simp [e,List.getElem?_append_left d]
  ·rw [acR (by omega)];have:i-H.length≠0:=by omega
   simp [e,ad5 (l:=H) (i:=i) (by omega),this]
def bz(n:Nat)(k:Nat→Prop):Prop:=Nat.rec (motive:=fun _=>Prop) (k 0) (fun m _=>k (Nat.succ m)) n
def nV(n:Int)(k:Int→Prop):Prop:=Int.rec (motive:=fun _=>Prop) (fun n=>bz n fun n=>k (.ofNat n)) (fun n=>bz n fun n=>k (.negSucc n)) n
def kz(b:Bool)(k:Bool→Prop):Prop:=Bool.rec (motive:=fun _=>Prop) (k ag) (k ae) b
theorem bE(n:Nat)(k:Nat→Prop):bz n k=k n:=by cases n<;>rfl
theorem sj(n:Int)(k:Int→Prop):nV n k=k n:=by cases n<;>simp only [nV,bE]
theorem fu(b:Bool)(k:Bool→Prop):kz b k=k b:=by cases b<;>rfl
def yx(x:FC)(k:FC→Prop):Prop:=match x with
 | .bool b=>kz b fun b=>k (.bool b)
 | .int j n=>nV n fun n=>k (.int j n)
 | .fp cs o=>bz o fun o=>k (.fp cs o)
 | .fs cs l=>bz l fun l=>k (.fs cs l)
 | x=>k x
theorem CE(x:FC)(k:FC→Prop):yx x k=k x:=by cases x<;>simp only [yx,bE,sj,fu]
def nT(x:C)(k:C→Prop):Prop:=match x with
 | .f x=>yx x fun x=>k (.f x)
 | .ptr b o e=>bz b fun b=>bz o fun o=>bz e fun e=>k (.ptr b o e)
 | .sl b o l c e s=>bz b fun b=>bz o fun o=>bz l fun l=>bz c fun c=>bz e fun e=>bz s fun s=>k (.sl b o l c e s)
 | x=>k x
theorem nU(x:C)(k:C→Prop):nT x k=k x:=by cases x<;>simp only [nT,bE,CE]
def kA(xs:List C):(List C→Prop)→Prop:=
 List.rec (motive:=fun _=>(List C→Prop)→Prop) (fun k=>k []) (fun x _ b k=>nT x fun x=>b fun xs=>k (x::xs)) xs
theorem iU:∀(xs:List C) (k:List C→Prop),kA xs k=k xs
 | [],k=>rfl
 | x::xs,k=>by
  show nT x (fun x=>kA xs fun xs=>k (x::xs))=_;rw [nU,iU xs]
def pr(v:V)(k:V→Prop):Prop:=match v with
 | .c x=>nT x fun x=>k (.c x)
 | .a xs=>kA xs fun xs=>k (.a xs)
 | v=>k v
theorem yy(v:V)(k:V→Prop):pr v k=k v:=by cases v<;>simp only [pr,nU,iU]
def tF(xs:List V):(List V→Prop)→Prop:=
 List.rec (motive:=fun _=>(List V→Prop)→Prop) (fun k=>k []) (fun x _ b k=>pr x fun x=>b fun xs=>k (x::xs)) xs
theorem qn:∀(xs:List V) (k:List V→Prop),tF xs k=k xs
 | [],k=>rfl
 | x::xs,k=>by
  show pr x (fun x=>tF xs fun xs=>k (x::xs))=_;rw [yy,qn xs]
def jA(v:V)(k:V→Prop):Prop:=match v with
 | .c x=>nT x fun x=>k (.c x)
 | .a xs=>kA xs fun xs=>k (.a xs)
 | .t b=>tF b fun b=>k (.t b)
 | .top=>k .top
theorem nW(v:V)(k:V→Prop):jA v k=k v:=by cases v<;>simp only [jA,nU,iU,qn]
def nX(x:bK)(k:bK→Prop):Prop:=match x with
 | .box cs fl=>kA cs fun cs=>bz fl fun fl=>k (.box cs fl)
 | .bA sz cs fl e st=>kA cs fun cs=>bz fl fun fl=>bz e fun e=>k (.bA sz cs fl e st)
 | .it s p=>bz p fun p=>k (.it s p)
 | x=>k x
theorem sk(x:bK)(k:bK→Prop):nX x k=k x:=by cases x<;>simp only [nX,bE,iU]
def vU(p:P):T→(V→Prop)→Prop:=
 P.rec (motive:=fun _=>T→(V→Prop)→Prop)
  (fun t k=>T.rec (motive:=fun _=>Prop) (k .top) (fun _ v _ _ _=>k v) t)
  (fun _ b t k=>T.rec (motive:=fun _=>Prop) (k .top) (fun l _ _ _ _=>b l k) t)
  (fun _ b t k=>T.rec (motive:=fun _=>Prop) (k .top) (fun _ _ r _ _=>b r k) t) p
theorem kY:∀(p:P) (t:T) (k:V→Prop),vU p t k=k (t.get p)
 | .h,.e,k=>rfl| .h,.n _ _ _,k=>rfl| .o p,.e,k=>rfl| .o p,.n l _ _,k=>kY p l k| .i p,.e,k=>rfl| .i p,.n _ _ r,k=>kY p r k
def RM(p:P)(w:V):T→(T→Prop)→Prop:=
 P.rec (motive:=fun _=>T→(T→Prop)→Prop)
  (fun t k=>T.rec (motive:=fun _=>Prop) (k (.n .e w .e)) (fun l _ r _ _=>k (.n l w r)) t)
  (fun _ b t k=>T.rec (motive:=fun _=>Prop) (b .e fun l=>k (.n l .top .e)) (fun l v r _ _=>b l fun l=>k (.n l v r)) t)
  (fun _ b t k=>T.rec (motive:=fun _=>Prop) (b .e fun r=>k (.n .e .top r)) (fun l v r _ _=>b r fun r=>k (.n l v r)) t) p
theorem lj(w:V):∀(p:P) (t:T) (k:T→Prop),RM p w t k=k (t.set p w)
 | .h,.e,k=>rfl| .h,.n _ _ _,k=>rfl| .o p,.e,k=>lj w p .e _| .o p,.n l _ _,k=>lj w p l _| .i p,.e,k=>lj w p .e _| .i p,.n _ _ r,k=>lj w p r _
def mM(x:Arg)(r:T)(k:V→Prop):Prop:=Arg.rec (motive:=fun _=>Prop) (fun p=>vU p r k) (fun v=>k v) x
theorem cI(x:Arg)(r:T)(k:V→Prop):mM x r k=k (x.ev r):=by cases x;exact kY _ _ _;rfl
def vC(xs:List Arg)(r:T):(List V→Prop)→Prop:=
 List.rec (motive:=fun _=>(List V→Prop)→Prop) (fun k=>k []) (fun x _ b k=>mM x r fun v=>b fun d=>k (v::d)) xs
theorem mG(r:T):∀(xs:List Arg) (k:List V→Prop),vC xs r k=k (cK r xs)
 | [],k=>rfl
 | x::xs,k=>by
  show mM x r (fun v=>vC xs r fun b=>k (v::b))=_;rw [cI,mG r xs];rfl
def Wg(d:Option P)(r:T)(v:V)(k:T→Prop):Prop:=Option.rec (motive:=fun _=>Prop) (k r) (fun d=>RM d v r k) d
theorem At(d:Option P)(r:T)(v:V)(k:T→Prop):Wg d r v k=k (gK r d v):=by cases d;rfl;exact lj _ _ _ _
def pG(ps:List P):List V→T→(T→Prop)→Prop:=
 List.rec (motive:=fun _=>List V→T→(T→Prop)→Prop) (fun _ r k=>k r)
  (fun p _ d b r k=>List.rec (motive:=fun _=>Prop) (k r) (fun v b _=>RM p v r fun r=>d b r k) b) ps
theorem mn:∀(ps:List P) (b:List V) (r:T) (k:T→Prop),pG ps b r k=k (bP ps b r)
 | [],b,r,k=>by cases b<;>rfl
 | p::ps,[],r,k=>rfl
 | p::ps,v::b,r,k=>by
  show RM p v r (fun r=>pG ps b r k)=_;rw [lj,mn ps];rfl
def P'{b:Type}(n:Nat):List b→(b→Prop)→Prop:=
 Nat.rec (motive:=fun _=>List b→(b→Prop)→Prop) (fun xs k=>List.rec (motive:=fun _=>Prop) False (fun x _ _=>k x) xs)
  (fun _ d xs k=>List.rec (motive:=fun _=>Prop) False (fun _ xs _=>d xs k) xs) n
theorem py{b:Type}:∀ {n:Nat} {xs:List b} {k:b→Prop},P' n xs k→∃ x,xs[n]?=aa x∧k x
 | 0,[],_,h=>h.elim| 0,x::_,_,h=>⟨x,rfl,h⟩| n+1,[],_,h=>h.elim| n+1,_::xs,k,h=>py (n:=n) (xs:=xs) (k:=k) h
def qg{b:Type}(n:Nat):List b→(List b→Prop)→Prop:=
 Nat.rec (motive:=fun _=>List b→(List b→Prop)→Prop) (fun xs k=>k xs)
  (fun _ d xs k=>List.rec (motive:=fun _=>Prop) (k []) (fun _ xs _=>d xs k) xs) n
theorem km{b:Type}:∀(n:Nat) (xs:List b) (k:List b→Prop),qg n xs k=k (xs.drop n)
 | 0,xs,k=>rfl| n+1,[],k=>rfl| n+1,_::xs,k=>km n xs k
def nP{b:Type}(n:Nat):List b→(List b→Prop)→Prop:=
 Nat.rec (motive:=fun _=>List b→(List b→Prop)→Prop) (fun xs k=>k xs)
  (fun _ d xs k=>List.rec (motive:=fun _=>Prop) False (fun _ xs _=>d xs k) xs) n
theorem gB{b:Type}:∀ {n:Nat} {xs:List b} {k:List b→Prop},nP n xs k→n≤xs.length∧k (xs.drop n)
 | 0,xs,k,h=>⟨by simp,h⟩
 | n+1,[],k,h=>h.elim
 | n+1,x::xs,k,h=>by
  obtain⟨g,d⟩:=gB (n:=n) (xs:=xs) (k:=k) h;exact⟨by simp;omega,d⟩
def jV{b:Type}(n:Nat):List b→(List b→Prop)→Prop:=
 Nat.rec (motive:=fun _=>List b→(List b→Prop)→Prop) (fun _ k=>k [])
  (fun _ d xs k=>List.rec (motive:=fun _=>Prop) False (fun x xs _=>d xs fun ys=>k (x::ys)) xs) n
theorem eE{b:Type}:∀ {n:Nat} {xs:List b} {k:List b→Prop},jV n xs k→n≤xs.length∧k (xs.take n)
 | 0,xs,k,h=>⟨by simp,by have d:k []:=h;simpa using d⟩
 | n+1,[],k,h=>h.elim
 | n+1,x::xs,k,h=>by
  obtain⟨j,g⟩:=eE (n:=n) (xs:=xs) (k:=fun ys=>k (x::ys)) h;exact⟨by simp;omega,by simpa using g⟩
def Y5{b:Type}(xs:List b):List b→(List b→Prop)→Prop:=
 List.rec (motive:=fun _=>List b→(List b→Prop)→Prop) (fun cs k=>k cs)
  (fun x _ d cs k=>List.rec (motive:=fun _=>Prop) False (fun _ cs _=>d cs fun ys=>k (x::ys)) cs) xs
theorem z9{b:Type}:∀ {xs cs:List b} {k:List b→Prop},Y5 xs cs k→xs.length≤cs.length∧k (xs++cs.drop xs.length)
 | [],cs,k,h=>⟨by simp,by have d:k cs:=h;simpa using d⟩
 | x::xs,[],k,h=>h.elim
 | x::xs,c::cs,k,h=>by
  obtain⟨j,g⟩:=z9 (xs:=xs) (cs:=cs) (k:=fun ys=>k (x::ys)) h;exact⟨by simp;omega,by simpa using g⟩
def qG{b:Type}(xs:List b)(off:Nat):List b→(List b→Prop)→Prop:=
 Nat.rec (motive:=fun _=>List b→(List b→Prop)→Prop) (fun cs k=>Y5 xs cs k)
  (fun _ d cs k=>List.rec (motive:=fun _=>Prop) False (fun c cs _=>d cs fun ys=>k (c::ys)) cs) off
theorem jc{d:Type}{xs:List d}:∀ {off:Nat} {cs:List d} {k:List d→Prop},qG xs off cs k→off+xs.length≤cs.length∧k (over cs off xs)
 | 0,cs,k,h=>by
  obtain⟨g,b⟩:=z9 (xs:=xs) (cs:=cs) (k:=k) h;exact⟨by omega,by simpa [over]using b⟩
 | n+1,[],k,h=>h.elim
 | n+1,c::cs,k,h=>by
  obtain⟨g,b⟩:=jc (off:=n) (cs:=cs) (k:=fun ys=>k (c::ys)) h;refine⟨by simp;omega,?_⟩;have:n+1+xs.length=(n+xs.length)+1:=by omega
  simpa [over,this]using b
def Ug{b:Type}(xs ys:List b):(List b→Prop)→Prop:=
 List.rec (motive:=fun _=>(List b→Prop)→Prop) (fun k=>k ys) (fun x _ d k=>d fun zs=>k (x::zs)) xs
theorem tu{b:Type}(ys:List b):∀(xs:List b) (k:List b→Prop),Ug xs ys k=k (xs++ys)
 | [],k=>rfl| x::xs,k=>tu ys xs fun zs=>k (x::zs)
def Us(zs:List FC):(List C→Prop)→Prop:=
 List.rec (motive:=fun _=>(List C→Prop)→Prop) (fun k=>k []) (fun z _ b k=>b fun cs=>k (.f z::cs)) zs
theorem nY:∀(zs:List FC) (k:List C→Prop),Us zs k=k (zs.map .f)
 | [],k=>rfl| z::zs,k=>nY zs fun cs=>k (.f z::cs)
def Xd:Int→Int→Bool
 | .ofNat a,.ofNat b=>Nat.ble (Nat.succ a) b| .ofNat _,.negSucc _=>ag| .negSucc _,.ofNat _=>ae| .negSucc a,.negSucc b=>Nat.ble (Nat.succ b) a
theorem tP(x y:Int):Xd x y=decide (x<y):=by
 have e:∀ n:Nat,Int.ofNat n=(n:Int):=fun _=>rfl;cases x<;>cases y<;>simp only [Xd]<;>rw [Bool.eq_iff_iff]<;>simp only [Nat.ble_eq,decide_eq_true_eq,acJ,false_iff,true_iff,e,Nat.succ_eq_add_one]<;>omega
def JE:Int→Int→Bool
 | .ofNat a,.ofNat b=>Nat.beq a b| .negSucc a,.negSucc b=>Nat.beq a b| _,_=>ag
theorem JF(x y:Int):JE x y=(x == y):=by
 have e:∀ n:Nat,Int.ofNat n=(n:Int):=fun _=>rfl;cases x<;>cases y<;>simp only [JE]<;>rw [Bool.eq_iff_iff]<;>simp only [Nat.beq_eq,beq_iff_eq,acJ,false_iff,e]<;>omega
def s_(j:IntKind)(n:Int)(k:Int→Prop):Prop:=match j with
 | .i64=>Int.rec (motive:=fun _=>Prop)
   (fun n=>bz n fun n=>Bool.rec (motive:=fun _=>Prop) (nV (IntKind.i64.wrap (.ofNat n)) k) (k (.ofNat n)) (Nat.ble n 9223372036854775807))
   (fun n=>bz n fun n=>Bool.rec (motive:=fun _=>Prop) (nV (IntKind.i64.wrap (.negSucc n)) k) (k (.negSucc n)) (Nat.ble n 9223372036854775807)) n
 | j=>nV (j.wrap n) k
theorem s9{n:Int}(g:-9223372036854775808≤n)(j:n≤9223372036854775807):IntKind.i64.wrap n=n:=by
 simp only [IntKind.wrap,IntKind.bits,IntKind.signed];have b:(2 ^ 64:Int)=18446744073709551616:=by decide
 have d:(2 ^ (64-1):Int)=9223372036854775808:=by decide
 simp only [b,d,adl,decide_eq_true_eq];split<;>omega
theorem nC(j:IntKind)(n:Int)(k:Int→Prop):s_ j n k=k (j.wrap n):=by
 cases j<;>simp only [s_,sj];cases n with
 | ofNat n=>
  simp only [bE];cases h:Nat.ble n 9223372036854775807 with
  | false=>rfl
  | true=>
   have:=adv h;have e:Int.ofNat n=(n:Int):=rfl;rw [s9 (by rw [e];omega) (by rw [e];omega)]
 | negSucc n=>
  simp only [bE];cases h:Nat.ble n 9223372036854775807 with
  | false=>rfl
  | true=>
   have:=adv h;rw [s9 (by omega) (by omega)]
end
section
set_option linter.unusedVariables false
def fH(a b:Nat)(p:Prop):Prop:=Bool.rec (motive:=fun _=>Prop) False p (Nat.beq a b)
def o6(a b:Nat)(p:Prop):Prop:=Bool.rec (motive:=fun _=>Prop) False p (Nat.ble a b)
def oN(b:Bool)(p:Prop):Prop:=Bool.rec (motive:=fun _=>Prop) False p b
def ou{b:Type}(o:Option b)(k:b→Prop):Prop:=Option.rec (motive:=fun _=>Prop) False k o
theorem cr{a b:Nat}{p:Prop}(h:fH a b p):a=b∧p:=by
 unfold fH at h;cases e:Nat.beq a b with
 | false=>rw [e]at h;exact h.elim| true=>rw [e]at h;exact⟨adN e,h⟩
theorem fB{a b:Nat}{p:Prop}(h:o6 a b p):a≤b∧p:=by
 unfold o6 at h;cases e:Nat.ble a b with
 | false=>rw [e]at h;exact h.elim| true=>rw [e]at h;exact⟨adv e,h⟩
theorem kg{b:Bool}{p:Prop}(h:oN b p):b=ae∧p:=by cases b;exact h.elim;exact⟨rfl,h⟩
theorem gX{b:Type}{o:Option b}{k:b→Prop}(h:ou o k):∃ x,o=aa x∧k x:=by cases o;exact h.elim;exact⟨_,rfl,h⟩
def lI(x:bK)(t:HT)(n:Nat)(k:HT→Nat→Prop):Prop:=tq x t n fun t=>bz (Nat.succ n) fun n=>k t n
theorem fM{H:aj}{t:HT}(h:cm H t){x:bK}{k:HT→Nat→Prop}(j:lI x t H.length k):∃ b,cm (H++[x]) b∧k b (H++[x]).length:=by
 obtain⟨b,g,d⟩:=Cq j;rw [bE]at d;exact⟨b,h.push g,by simpa using d⟩
theorem dv{H:aj}{t:HT}(h:cm H t){b:Nat}{x:bK}{k:HT→Prop}(m:e7 x t b k):∃ d,cm (H.set b x) d∧k d:=by
 obtain⟨d,g,j,l⟩:=Jl m;exact⟨d,h.set g j,l⟩
def Uk(e:vn)(t:HT)(n:Nat)(k:HT→Nat→Prop):Prop:=
 vn.rec (motive:=fun _=>Prop) (k t n) (fun b x=>nX x fun x=>e7 x t b fun t=>k t n) (fun x=>nX x fun x=>lI x t n k) e
theorem Pn{H:aj}{t:HT}(h:cm H t){e:vn}{k:HT→Nat→Prop}(d:Uk e t H.length k):∃ g,cm (e.app H) g∧k g (e.app H).length:=by
 cases e with
 | no=>exact⟨t,h,d⟩
 | set b x=>
  have d:nX x fun x=>e7 x t b fun t=>k t H.length:=d;rw [sk]at d;obtain⟨g,j,l⟩:=dv h d;exact⟨g,j,by simpa [vn.app]using l⟩
 | push x=>
  have d:nX x fun x=>lI x t H.length k:=d;rw [sk]at d;exact fM h d
def YU(b:cj)(r:T)(t:HT)(n:Nat)(k:V→HT→Nat→Prop):Prop:=
 ou (L6 r t.get n b) fun r=>Prod.rec (motive:=fun _=>Prop) (fun v e=>jA v fun v=>Uk e t n (k v)) r
def OpS(d:cj)(r:T)(m:HT→Nat→(V→HT→Nat→Prop)→Prop):Prop:=
 ∀(H:aj) (t:HT) (k:V→HT→Nat→Prop),cm H t→m t H.length k→∃ v H' b,aW r H d=aa (v,H')∧cm H' b∧k v b H'.length
theorem Pz(g:cj)(r:T):OpS g r (YU g r):=by
 intro H t k h m;obtain⟨⟨v,e⟩,d,b⟩:=gX m;have b:jA v fun v=>Uk e t H.length (k v):=b;rw [nW]at b;obtain⟨q,j,l⟩:=Pn h b;refine⟨v,e.app H,q,?_,j,l⟩;rw [h]at d;rw [←uN,d];rfl
def pZ(v:V)(k:List C→Prop):Prop:=match v with
 | .c x=>k [x]| .a xs=>k xs| _=>False
theorem nO{v:V}{k:List C→Prop}(h:pZ v k):∃ xs,v.cells?=aa xs∧k xs:=by
 cases v with
 | c x=>exact⟨_,rfl,h⟩| a xs=>exact⟨_,rfl,h⟩| _=>exact h.elim
def Ao(n:Option Nat)(off:Nat)(cs:List C)(k:V→Prop):Prop:=
 Option.rec (motive:=fun _=>Prop) (P' off cs fun c=>k (.c c)) (fun m=>qg off cs fun cs=>jV m cs fun cs=>k (.a cs)) n
theorem qJ{n:Option Nat}{off:Nat}{cs:List C}{k:V→Prop}(h:Ao n off cs k):∃ v,bY n (cs.drop off)=aa v∧k v:=by
 cases n with
 | none=>
  obtain⟨c,b,d⟩:=py h;refine⟨.c c,?_,d⟩;rw [←Nat.add_zero off,←acO]at b;cases e:cs.drop off with
  | nil=>rw [e]at b;simp at b| cons y ys=>rw [e]at b;simp at b;subst b;rfl
 | some m=>
  have h:qg off cs fun cs=>jV m cs fun cs=>k (.a cs):=h;rw [km]at h;obtain⟨b,d⟩:=eE h;exact⟨_,bf b,d⟩
def K_(n:Option Nat)(off:Nat)(cs:List FC)(k:V→Prop):Prop:=
 Option.rec (motive:=fun _=>Prop) (P' off cs fun c=>k (.c (.f c))) (fun m=>qg off cs fun cs=>jV m cs fun cs=>Us cs fun cs=>k (.a cs)) n
theorem Dp{n:Option Nat}{off:Nat}{cs:List FC}{k:V→Prop}(h:K_ n off cs k):∃ v,bY n ((cs.drop off).map .f)=aa v∧k v:=by
 cases n with
 | none=>
  obtain⟨c,b,d⟩:=py h;refine⟨.c (.f c),?_,d⟩;rw [←Nat.add_zero off,←acO]at b;cases e:cs.drop off with
  | nil=>rw [e]at b;simp at b| cons y ys=>rw [e]at b;simp at b;subst b;rfl
 | some m=>
  have h:qg off cs fun cs=>jV m cs fun cs=>Us cs fun cs=>k (.a cs):=h;rw [km]at h;obtain⟨b,d⟩:=eE h;rw [nY]at d;refine⟨_,bf (by simpa using b),?_⟩;rw [←List.map_take];exact d
def ldK(t:HT)(n:Option Nat)(x:V)(k:V→Prop):Prop:=match x with
 | .c (.ptr b off d)=>eZ b t fun aS=>match aS with
  | .box cs _=>Ao n off cs k| .bA _ cs _ e .loc=>fH d e (Ao n off cs k)| _=>False
 | .c (.f (.fp cs off))=>K_ n off cs k| _=>False
theorem JU{H:aj}{t:HT}(h:cm H t){n:Option Nat}{x:V}{k:V→Prop}(m:ldK t n x k):∃ v,dz H n x=aa v∧k v:=by
 unfold ldK at m;split at m
 ·rename_i b off s;obtain⟨aS,g,d⟩:=cP m;rw [h]at g;have g:H[b]?=aa aS:=g;split at d
  ·obtain⟨v,j,l⟩:=qJ d;exact⟨v,by simp [dz,bo,g,j],l⟩
  ·obtain⟨q,d⟩:=cr d;obtain⟨v,j,l⟩:=qJ d;exact⟨v,by simp [dz,bo,g,j,q],l⟩
  ·exact d.elim
 ·obtain⟨v,j,l⟩:=Dp m;exact⟨v,by simp only [dz,bo,Option.bind_some,j],l⟩
 ·exact m.elim
def stK(t:HT)(x:C)(xs:List C)(k:HT→Prop):Prop:=match x with
 | .ptr b off d=>eZ b t fun aS=>match aS with
  | .box cs fl=>o6 fl off (qG xs off cs fun cs=>e7 (.box cs fl) t b k)
  | .bA sz cs fl e .loc=>fH d e (o6 fl off (qG xs off cs fun cs=>e7 (.bA sz cs fl e .loc) t b k))
  | _=>False
 | _=>False
theorem WX{H:aj}{t:HT}(h:cm H t){x:C}{xs:List C}{k:HT→Prop}(l:stK t x xs k):∃ H' g,gD H x xs=aa H'∧cm H' g∧H'.length=H.length∧k g:=by
 unfold stK at l;split at l
 ·rename_i b off y;obtain⟨aS,j,d⟩:=cP l;rw [h]at j;have j:H[b]?=aa aS:=j;split at d
  ·obtain⟨m,d⟩:=fB d;obtain⟨q,d⟩:=jc d;obtain⟨g,s,u⟩:=dv h d;exact⟨_,g,by simp [gD,j,m,q],s,by simp,u⟩
  ·obtain⟨v,d⟩:=cr d;obtain⟨m,d⟩:=fB d;obtain⟨q,d⟩:=jc d;obtain⟨g,s,u⟩:=dv h d;exact⟨_,g,by simp [gD,j,v,m,q],s,by simp,u⟩
  ·exact d.elim
 ·exact l.elim
def jO(op:BinOp)(j:IntKind)(x y:Int)(k:V→Prop):Prop:=match op with
 | .add=>s_ j (Int.add x y) fun n=>k (.c (.f (.int j n)))
 | .sub=>s_ j (Int.sub x y) fun n=>k (.c (.f (.int j n)))
 | .mul=>s_ j (Int.mul x y) fun n=>k (.c (.f (.int j n)))
 | .eql=>kz (JE x y) fun b=>k (.c (.f (.bool b)))
 | .neq=>kz (!JE x y) fun b=>k (.c (.f (.bool b)))
 | .lss=>kz (Xd x y) fun b=>k (.c (.f (.bool b)))
 | .leq=>kz (!Xd y x) fun b=>k (.c (.f (.bool b)))
 | .gtr=>kz (Xd y x) fun b=>k (.c (.f (.bool b)))
 | .geq=>kz (!Xd x y) fun b=>k (.c (.f (.bool b)))
 | op=>ou (hV op j x y) fun v=>jA v k
theorem qE(x y:Int):(!decide (x<y))=decide (y≤x):=by
 rw [Bool.eq_iff_iff];simp
theorem Jg{b:BinOp}{j:IntKind}{x y:Int}{k:V→Prop}(h:jO b j x y k):∃ v,hV b j x y=aa v∧k v:=by
 cases b
 case add=>simp only [jO,nC]at h;exact⟨_,rfl,h⟩
 case sub=>simp only [jO,nC]at h;exact⟨_,rfl,h⟩
 case mul=>simp only [jO,nC]at h;exact⟨_,rfl,h⟩
 case eql=>simp only [jO,fu,JF]at h;exact⟨_,rfl,h⟩
 case neq=>simp only [jO,fu,JF]at h;exact⟨_,rfl,h⟩
 case lss=>simp only [jO,fu,tP]at h;exact⟨_,rfl,h⟩
 case leq=>simp only [jO,fu,tP,qE]at h;exact⟨_,rfl,h⟩
 case gtr=>simp only [jO,fu,tP]at h;exact⟨_,rfl,h⟩
 case geq=>simp only [jO,fu,tP,qE]at h;exact⟨_,rfl,h⟩
 all_goals
  simp only [jO]at h;obtain⟨v,g,d⟩:=gX h;rw [nW]at d;exact⟨v,g,d⟩
def JQ(j b:IntKind)(p:Prop):Prop:=match j,b with
 | .i64,.i64=>p| j,b=>oN (decide (j=b)) p
theorem JR{j b:IntKind}{p:Prop}(h:JQ j b p):j=b∧p:=by
 unfold JQ at h;split at h
 ·exact⟨rfl,h⟩
 ·obtain⟨d,g⟩:=kg h;exact⟨of_decide_eq_true d,g⟩
def T7(op:BinOp)(x y:V)(k:V→Prop):Prop:=match x,y with
 | .c (.f (.int j a)),.c (.f (.int d b))=>match op with
  | .shl=>ou (bt .shl x y) fun v=>jA v k
  | .shr=>ou (bt .shr x y) fun v=>jA v k
  | op=>JQ j d (jO op j a b k)
 | x,y=>ou (bt op x y) fun v=>jA v k
theorem Pa{d:BinOp}{x y:V}{k:V→Prop}(h:T7 d x y k):∃ v,bt d x y=aa v∧k v:=by
 have gen:(ou (bt d x y) fun v=>jA v k)→∃ v,bt d x y=aa v∧k v:=by
  intro h;obtain⟨v,l,g⟩:=gX h;rw [nW]at g;exact⟨v,l,g⟩
 unfold T7 at h;split at h
 ·rename_i j a u b;split at h
  ·exact gen h
  ·exact gen h
  ·rename_i l g;obtain⟨e,m⟩:=JR h;subst e;obtain⟨v,q,s⟩:=Jg m;refine⟨v,?_,s⟩;cases d<;>first | exact absurd rfl l | exact absurd rfl g | (simp only [bt,if_true];exact q)
 ·exact gen h
def UU(v:V)(k:Nat→Prop):Prop:=match v with
 | .c (.f (.int _ (.ofNat m)))=>k m| _=>False
theorem P6{v:V}{k:Nat→Prop}(h:UU v k):∃ m,fK v=aa (Int.ofNat m)∧k m:=by
 unfold UU at h;split at h
 ·exact⟨_,rfl,h⟩
 ·exact h.elim
def JP(t:HT)(sz:Nat)(g:Option Nat)(x i:V)(k:V→Prop):Prop:=UU i fun m=>match g with
 | none=>match x with
  | .c (.sl b o l _ d s)=>o6 (Nat.succ m) l (eZ b t fun aS=>match aS with
   | .box _ _=>bz (Nat.add o (Nat.mul m sz)) fun o=>k (.c (.ptr b o d))
   | .bA s' _ _ e .loc=>fH d e (fH s s' (bz (Nat.add o (Nat.mul m sz)) fun o=>k (.c (.ptr b o d))))
   | _=>False)
  | .c (.f (.fs cs l))=>o6 (Nat.succ m) l (bz (Nat.mul m sz) fun o=>k (.c (.f (.fp cs o))))
  | _=>False
 | some n=>match x with
  | .c (.ptr b o d)=>o6 (Nat.succ m) n (bz (Nat.add o (Nat.mul m sz)) fun o=>k (.c (.ptr b o d)))
  | .c (.f (.fp cs o))=>o6 (Nat.succ m) n (bz (Nat.add o (Nat.mul m sz)) fun o=>k (.c (.f (.fp cs o))))
  | _=>False
theorem CI{H:aj}{t:HT}(h:cm H t){sz:Nat}{y:Option Nat}{x i:V}{k:V→Prop}(d:JP t sz y x i k):∃ v,a6 H sz y x i=aa v∧k v:=by
 obtain⟨m,B,d⟩:=P6 d;have z:(0:Int)≤Int.ofNat m:=Int.natCast_nonneg m;have g:∀ l:Nat,Nat.succ m≤l→Int.ofNat m<(l:Int):=fun l I=>Int.ofNat_lt.2 I;have j:(Int.ofNat m).toNat=m:=rfl;simp only at d;split at d
 ·split at d
  ·rename_i b o l cap J s _;obtain⟨u,d⟩:=fB d;obtain⟨aS,A,q⟩:=cP d;rw [h]at A;have A:H[b]?=aa aS:=A;split at q
   ·rw [bE]at q;exact⟨_,by simp only [a6,B,bf z,bf (g _ u),A,j];rfl,q⟩
   ·obtain⟨E,q⟩:=cr q;obtain⟨F,q⟩:=cr q;rw [bE]at q;exact⟨_,by simp only [a6,B,bf z,bf (g _ u),A,j,E,F,and_self,if_true];rfl,E▸q⟩
   ·exact q.elim
  ·obtain⟨u,d⟩:=fB d;rw [bE]at d;exact⟨_,by simp only [a6,B,bf z,bf (g _ u),j];rfl,d⟩
  ·exact d.elim
 ·split at d
  ·obtain⟨u,d⟩:=fB d;rw [bE]at d;exact⟨_,by simp only [a6,B,bf z,bf (g _ u),j];rfl,d⟩
  ·obtain⟨u,d⟩:=fB d;rw [bE]at d;exact⟨_,by simp only [a6,B,bf z,bf (g _ u),j];rfl,d⟩
  ·exact d.elim
def UM(t:HT)(x:V)(k:Nat→Prop):Prop:=match x with
 | .c (.sl b _ l _ d sz)=>eZ b t fun aS=>match aS with
  | .box _ _=>k l| .bA s _ _ e _=>fH d e (fH sz s (k l))| _=>False
 | .c (.f .ax)=>k 0| .c (.f .es)=>k 0| .c (.f (.fs _ l))=>k l| _=>False
theorem PY{H:aj}{t:HT}(h:cm H t){x:V}{k:Nat→Prop}(g:UM t x k):∃ y n,x=.c y∧bM H y=aa n∧k n:=by
 unfold UM at g;split at g
 ·rename_i b o l cap s sz;obtain⟨aS,j,d⟩:=cP g;rw [h]at j;have j:H[b]?=aa aS:=j;split at d
  ·exact⟨_,l,rfl,by simp [bM,j],d⟩
  ·obtain⟨m,d⟩:=cr d;obtain⟨q,d⟩:=cr d;exact⟨_,l,rfl,by simp [bM,j,m,q],d⟩
  ·exact d.elim
 ·exact⟨_,0,rfl,rfl,g⟩
 ·exact⟨_,0,rfl,rfl,g⟩
 ·exact⟨_,_,rfl,rfl,g⟩
 ·exact g.elim
def y7(r:T)(ps:List (Nat × Nat × Arg)):List C→(List C→Prop)→Prop:=
 List.rec (motive:=fun _=>List C→(List C→Prop)→Prop) (fun cs k=>k cs)
  (fun p _ b cs k=>Prod.rec (motive:=fun _=>Prop) (fun off q=>Prod.rec (motive:=fun _=>Prop) (fun n x=>mM x r fun v=>pZ v fun xs=>fH xs.length n (qG xs off cs fun cs=>b cs k)) q) p) ps
theorem sR(r:T):∀ {ps:List (Nat × Nat × Arg)} {cs:List C} {k:List C→Prop},y7 r ps cs k→∃ cs',cT r cs ps=aa cs'∧k cs'
 | [],cs,k,h=>⟨cs,rfl,h⟩
 | (off,n,x)::ps,cs,k,h=>by
  have h:mM x r fun v=>pZ v fun xs=>fH xs.length n (qG xs off cs fun cs=>y7 r ps cs k):=h;rw [cI]at h;obtain⟨xs,b,h⟩:=nO h;obtain⟨d,h⟩:=cr h;obtain⟨g,h⟩:=jc h;obtain⟨cs',j,l⟩:=sR r h;exact⟨cs',by simp [cT,b,d,j]at g ⊢;omega,l⟩
def xY(t:HT)(sz:Nat)(y:V)(k:Nat→List C→Prop):Prop:=match y with
 | .c (.f .ax)=>k 0 []| .c (.f .es)=>k 0 []| .c (.f (.fs cs l))=>fH cs.length (Nat.mul l sz) (Us cs fun cs=>k l cs)
 | .c (.sl b o l _ d s)=>eZ b t fun aS=>match aS with
  | .box cs _=>nP o cs fun cs=>jV (Nat.mul l sz) cs fun cs=>k l cs
  | .bA s' cs _ e _=>fH d e (fH s s' (fH s' sz (nP o cs fun cs=>jV (Nat.mul l sz) cs fun cs=>k l cs)))
  | _=>False
 | y=>ou (mE t.get sz y) fun r=>Prod.rec (motive:=fun _=>Prop) (fun n cs=>kA cs fun cs=>k n cs) r
theorem Cl{H:aj}{t:HT}(h:cm H t){sz:Nat}{y:V}{k:Nat→List C→Prop}(j:xY t sz y k) :
  ∃ n cs,dC H sz y=aa (n,cs)∧k n cs:=by
 unfold xY at j;split at j
 ·exact⟨0,[],rfl,j⟩
 ·exact⟨0,[],rfl,j⟩
 ·rename_i cs l;obtain⟨m,j⟩:=cr j;rw [nY]at j;have m:cs.length=l*sz:=m;exact⟨l,_,by simp only [dC,bM,cW,m,if_true],j⟩
 ·rename_i b o l cap B s;obtain⟨aS,g,d⟩:=cP j;rw [h]at g;have g:H[b]?=aa aS:=g;split at d
  ·obtain⟨A,d⟩:=gB d;obtain⟨q,u⟩:=eE d;have q:l*sz≤_:=q;rw [adg]at q;refine⟨l,_,?_,u⟩;simp only [dC,bM,cW,g];rw [bf (by omega)];rfl
  ·obtain⟨q,d⟩:=cr d;obtain⟨u,d⟩:=cr d;obtain⟨x,d⟩:=cr d;obtain⟨A,d⟩:=gB d;obtain⟨v,z⟩:=eE d;have v:l*sz≤_:=v;rw [adg]at v;subst q u x;refine⟨l,_,?_,z⟩;simp only [dC,bM,cW,g,and_self,if_true];rw [bf ⟨trivial,trivial,by omega⟩];rfl
  ·exact d.elim
 ·obtain⟨⟨n,cs⟩,m,g⟩:=gX j;have g:kA cs fun cs=>k n cs:=g;rw [iU]at g;rw [h,lR]at m;exact⟨n,cs,m,g⟩
def wV(need bytes:Nat)(p:Prop):Prop:=o6 (Nat.mul (Nat.add (Nat.mul 2 need) 768) bytes) 281474976710656 (o6 (Nat.succ need) 281474976710656 p)
theorem nv{need bytes:Nat}{p:Prop}(h:wV need bytes p):bB need bytes=ae∧p:=by
 obtain⟨b,h⟩:=fB h;obtain⟨d,h⟩:=fB h;refine⟨?_,h⟩;have e:(2:Nat) ^ 48=281474976710656:=by decide
 simp only [bB,BY,decide_eq_true_eq,e];exact⟨b,d⟩
def YC(t:HT)(n:Nat)(sz bytes:Nat)(x y:V)(k:V→HT→Nat→Prop):Prop:=
 xY t sz y fun m ys=>Nat.rec (motive:=fun _=>Prop) False (fun _ _=>match x with
  | .c (.f .ax)=>Nat.rec (motive:=fun _=>Prop) (k (.c (.f .ax)) t n) (fun _ _=>wV m bytes (bz m fun m=>lI (.bA sz ys 0 0 .loc) t n fun t g=>k (.c (.sl n 0 m 0 0 sz)) t g)) m
  | .c (.f .es)=>Nat.rec (motive:=fun _=>Prop) (k (.c (.f .es)) t n) (fun _ _=>wV m bytes (bz m fun m=>lI (.bA sz ys 0 0 .loc) t n fun t g=>k (.c (.sl n 0 m 0 0 sz)) t g)) m
  | .c (.sl b o l cap j s)=>eZ b t fun aS=>match aS with
   | .box cs fl=>Bool.rec (motive:=fun _=>Prop)
     (bz (Nat.add l m) fun d=>wV d bytes (nP o cs fun cs=>jV (Nat.mul l sz) cs fun cs=>Ug cs ys fun cs=>lI (.bA sz cs 0 0 .loc) t n fun t g=>k (.c (.sl n 0 d 0 0 sz)) t g))
     (bz (Nat.add l m) fun d=>o6 fl (Nat.add o (Nat.mul l sz)) (qG ys (Nat.add o (Nat.mul l sz)) cs fun cs=>e7 (.box cs fl) t b fun t=>k (.c (.sl b o d cap j s)) t n))
     (Nat.ble (Nat.add l m) cap)
   | .bA s' cs fl e st=>fH j e (fH s' sz (fH s sz (Nat.rec (motive:=fun _=>Prop) (k x t n) (fun _ _=>
     bz (Nat.add l m) fun d=>Bool.rec (motive:=fun _=>Prop)
      (match st with
       | .loc=>o6 fl (Nat.add o (Nat.mul l sz)) (qG ys (Nat.add o (Nat.mul l sz)) cs fun cs=>e7 (.bA sz cs fl e .loc) t b fun t=>k (.c (.sl b o d 0 j sz)) t n)
       | _=>False)
      (wV d bytes (bz (Nat.succ e) fun q=>Ug cs ys fun cs=>e7 (.bA sz cs fl q .loc) t b fun t=>k (.c (.sl b 0 d 0 q sz)) t n))
      (and (and (Nat.beq o 0) (Nat.beq (Nat.mul l sz) cs.length)) (Nat.ble fl cs.length))) m)))
   | _=>False
  | _=>False) sz
theorem O8{H:aj}{t:HT}(h:cm H t){sz bytes:Nat}{x y:V}{k:V→HT→Nat→Prop}(d:YC t H.length sz bytes x y k) :
  ∃ v H' g,bJ H sz bytes x y=aa (v,H')∧cm H' g∧k v g H'.length:=by
 obtain⟨m,ys,N,d⟩:=Cl h d;unfold bJ;rw [N];cases sz with
 | zero=>exact d.elim
 | succ u=>
  simp only at d ⊢;rw [aU (by omega)];split at d
  ·cases m with
   | zero=>exact⟨_,H,t,rfl,h,d⟩
   | succ L=>
    simp only at d;obtain⟨J,d⟩:=nv d;rw [bE]at d;obtain⟨g,z,j⟩:=fM h d;exact⟨_,_,g,by simp only [Nat.add_one_ne_zero,if_false,J,if_true],z,j⟩
  ·cases m with
   | zero=>exact⟨_,H,t,rfl,h,d⟩
   | succ L=>
    simp only at d;obtain⟨J,d⟩:=nv d;rw [bE]at d;obtain⟨g,z,j⟩:=fM h d;exact⟨_,_,g,by simp only [Nat.add_one_ne_zero,if_false,J,if_true],z,j⟩
  ·rename_i b o l cap Q s _;obtain⟨aS,z,d⟩:=cP d;rw [h]at z;have z:H[b]?=aa aS:=z;simp only [z];split at d
   ·rename_i cs fl _;simp only;cases hc:Nat.ble (Nat.add l m) cap with
    | false=>
     rw [hc]at d;have B:¬ (l+m≤cap):=fun e=>by have:=Nat.ble_eq_true_of_le e;rw [show Nat.ble (Nat.add l m) cap=Nat.ble (l+m) cap from rfl,this]at hc;cases hc
     simp only [bE]at d;obtain⟨j,d⟩:=nv d;obtain⟨F,d⟩:=gB d;obtain⟨E,d⟩:=eE d;rw [tu]at d;obtain⟨g,q,A⟩:=fM h d;rw [adg]at E;have E:l*(u+1)≤_:=E;rw [aU B,bf ⟨j,by omega⟩];exact⟨_,_,g,rfl,q,A⟩
    | true=>
     rw [hc]at d;have B:l+m≤cap:=adv hc;simp only [bE]at d;obtain⟨j,d⟩:=fB d;obtain⟨F,d⟩:=jc d;obtain⟨g,q,A⟩:=dv h d;rw [bf B,bf ⟨j,F⟩];exact⟨_,_,g,rfl,q,by simpa using A⟩
   ·rename_i s' cs fl e st _;simp only;obtain⟨j,d⟩:=cr d;obtain⟨F,d⟩:=cr d;obtain⟨E,d⟩:=cr d;rw [bf ⟨j,F,E⟩];cases m with
    | zero=>rw [bf rfl];exact⟨_,H,t,rfl,h,d⟩
    | succ L=>
     rw [aU (by omega)];simp only [bE]at d;cases hc:and (and (Nat.beq o 0) (Nat.beq (Nat.mul l (u+1)) cs.length)) (Nat.ble fl cs.length)with
     | true=>
      rw [hc]at d;simp only [BY]at hc;have c1:=adN hc.1.1;have c2:=adN hc.1.2;have I:=adv hc.2;simp only at d;obtain⟨q,d⟩:=nv d;rw [tu]at d;obtain⟨g,A,K⟩:=dv h d;have q:bB (l+(L+1)) bytes=ae:=q;rw [bf ⟨c1,c2,I⟩,bf q];subst j;exact⟨_,_,g,rfl,A,by simpa using K⟩
     | false=>
      rw [hc]at d;have O:¬ (o=0∧l*(u+1)=cs.length∧fl≤cs.length):=by
       rintro⟨c1,c2,I⟩;rw [c1,show Nat.mul l (u+1)=cs.length from c2,Nat.ble_eq_true_of_le I]at hc;simp at hc
      rw [aU O];simp only at d;split at d
      ·obtain⟨q,d⟩:=fB d;obtain⟨A,d⟩:=jc d;obtain⟨g,K,M⟩:=dv h d;rw [bf ⟨rfl,q,A⟩];exact⟨_,_,g,rfl,K,by simpa using M⟩
      ·exact d.elim
   ·exact d.elim
  ·exact d.elim
end
section
set_option linter.unusedVariables false
abbrev ek:=Callee→List V→HT→Nat→(V→HT→Nat→Prop)→Prop
def mw(call:bQ)(aV:ek):Prop:=
 ∀(c:Callee) (args:List V) (H:aj) (t:HT) (k:V→HT→Nat→Prop),cm H t→aV c args t H.length k→∃ v H' b,call c args H=aa (v,H')∧cm H' b∧k v b H'.length
def tC{d b:Type}(g:d→(b→Prop)→Prop)(xs:List d):(List b→Prop)→Prop:=
 List.rec (motive:=fun _=>(List b→Prop)→Prop) (fun k=>k []) (fun x _ j k=>g x fun y=>j fun ys=>k (y::ys)) xs
theorem gd{b d:Type}{g:b→(d→Prop)→Prop}{f:b→Option d}(j:∀ x k,g x k→∃ y,f x=aa y∧k y):∀ {xs:List b} {k:List d→Prop},tC g xs k→∃ ys,aY f xs=aa ys∧k ys
 | [],k,h=>⟨[],rfl,h⟩
 | x::xs,k,h=>by
  obtain⟨y,l,h⟩:=j x _ h;obtain⟨ys,m,q⟩:=gd j (xs:=xs) h;exact⟨y::ys,by simp [aY,l,m],q⟩
def exK(t:HT)(m:Nat):C→(FC→Prop)→Prop:=
 Nat.rec (motive:=fun _=>C→(FC→Prop)→Prop) (fun x k=>match x with
   | .f y=>k y
   | _=>False)
  (fun _ j x k=>match x with
   | .f y=>k y
   | .ptr b off _=>eZ b t fun aS=>match aS with
    | .box cs _=>tC j cs fun d=>k (.fp d off)
    | _=>False
   | .sl b o l _ q sz=>eZ b t fun aS=>match aS with
    | .box cs _=>nP o cs fun cs=>jV (Nat.mul l sz) cs fun cs=>tC j cs fun d=>k (.fs d l)
    | .bA s cs _ e .loc=>fH q e (fH sz s (nP o cs fun cs=>jV (Nat.mul l sz) cs fun cs=>tC j cs fun d=>k (.fs d l)))
    | .bA s cs _ e .nil=>fH q e (fH sz s (k .ax))| .bA s cs _ e .es=>fH q e (fH sz s (k .es))| _=>False
   | .cl f g=>tC j g fun d=>k (.fn f d)
   | _=>False) m
theorem JJ{H:aj}{t:HT}(h:cm H t):∀(m:Nat) (x:C) (k:FC→Prop),exK t m x k→∃ y,dI m H x=aa y∧k y:=by
 intro m;induction m with
 | zero=>
  intro x k q;cases x with
  | f y=>exact⟨y,rfl,q⟩| _=>exact q.elim
 | succ m E=>
  intro x k q;cases x with
  | f y=>exact⟨y,rfl,q⟩
  | ptr b off I=>
   obtain⟨aS,g,d⟩:=cP q;rw [h]at g;have g:H[b]?=aa aS:=g;cases aS with
   | box cs fl=>
    obtain⟨z,j,u⟩:=gd E d;exact⟨_,by simp only [dI,g,j];rfl,u⟩
   | _=>exact d.elim
  | sl b o l cap I sz=>
   obtain⟨aS,g,d⟩:=cP q;rw [h]at g;have g:H[b]?=aa aS:=g;cases aS with
   | box cs fl=>
    obtain⟨J,d⟩:=gB d;obtain⟨v,d⟩:=eE d;obtain⟨z,j,u⟩:=gd E d;rw [adg]at v;have v:l*sz≤_:=v;have j:aY (dI m H) ((cs.drop o).take (l*sz))=aa z:=j;exact⟨_,by simp only [dI,g];rw [bf (by omega),j];rfl,u⟩
   | bA s cs fl e st=>
    cases st with
    | loc=>
     obtain⟨A,d⟩:=cr d;obtain⟨B,d⟩:=cr d;obtain⟨J,d⟩:=gB d;obtain⟨v,d⟩:=eE d;obtain⟨z,j,u⟩:=gd E d;rw [adg]at v;have v:l*sz≤_:=v;have j:aY (dI m H) ((cs.drop o).take (l*sz))=aa z:=j;exact⟨_,by simp only [dI,g];rw [bf ⟨A,B,by omega⟩,j];rfl,u⟩
    | nil=>
     obtain⟨A,d⟩:=cr d;obtain⟨B,d⟩:=cr d;exact⟨_,by simp only [dI,g];rw [bf ⟨A,B⟩],d⟩
    | es=>
     obtain⟨A,d⟩:=cr d;obtain⟨B,d⟩:=cr d;exact⟨_,by simp only [dI,g];rw [bf ⟨A,B⟩],d⟩
   | _=>exact d.elim
  | cl f F=>
   obtain⟨z,j,u⟩:=gd E q;exact⟨_,by simp only [dI,j];rfl,u⟩
  | _=>exact q.elim
def zU(t:HT)(v:V)(k:V→Prop):Prop:=match v with
 | .c x=>exK t deep x fun y=>k (.c (.f y))
 | .a xs=>tC (exK t deep) xs fun ys=>Us ys fun cs=>k (.a cs)
 | _=>False
theorem mP{H:aj}{t:HT}(h:cm H t)(v:V)(k:V→Prop)(g:zU t v k):∃ y,db deep H v=aa y∧k y:=by
 cases v with
 | c x=>
  obtain⟨y,d,b⟩:=JJ h deep x _ g;exact⟨_,by simp only [db,d];rfl,b⟩
 | a xs=>
  obtain⟨ys,d,b⟩:=gd (JJ h deep) g;rw [nY]at b;exact⟨_,by simp only [db,d];rfl,b⟩
 | _=>exact g.elim
def YQ(t:HT)(v:V)(k:V→Prop):Prop:=match v with
 | .t b=>tC (zU t) b fun b=>k (.t b)
 | v=>zU t v k
theorem Pw{H:aj}{t:HT}(h:cm H t)(v:V)(k:V→Prop)(b:YQ t v k):∃ y,nE deep H v=aa y∧k y:=by
 cases v with
 | t j=>
  obtain⟨ys,d,g⟩:=gd (mP h) b;exact⟨_,by simp only [nE,d];rfl,g⟩
 | c x=>exact mP h (.c x) k b| a xs=>exact mP h (.a xs) k b| top=>exact b.elim
def yS{b:Type}(g:b→HT→(HT→Prop)→Prop)(xs:List b):HT→(HT→Prop)→Prop:=
 List.rec (motive:=fun _=>HT→(HT→Prop)→Prop) (fun t k=>k t) (fun x _ d t k=>g x t fun t=>d t k) xs
def MkS{b:Type}(g:b→HT→(HT→Prop)→Prop)(f:aj→b→aj):Prop:=∀(x:b) (H:aj) (t:HT) (k:HT→Prop),cm H t→g x t k→∃ d,cm (f H x) d∧k d
theorem jF{d:Type}{g:d→HT→(HT→Prop)→Prop}{f:aj→d→aj}(j:MkS g f):∀(xs:List d) (H:aj) (t:HT) (k:HT→Prop),cm H t→yS g xs t k→∃ l,cm (xs.foldl f H) l∧k l
 | [],H,t,k,h,b=>⟨t,h,b⟩
 | x::xs,H,t,k,h,b=>by
  obtain⟨t1,m,q⟩:=j x H t _ h b;exact jF j xs _ t1 k m q
def mkK(m:Nat):C→HT→(HT→Prop)→Prop:=
 Nat.rec (motive:=fun _=>C→HT→(HT→Prop)→Prop) (fun _ t k=>k t)
  (fun _ g x t k=>match x with
   | .f _=>k t
   | .ptr b _ _=>eZ b t fun aS=>match aS with
    | .box cs fl=>bz (Nat.max fl cs.length) fun fl=>e7 (.box cs fl) t b fun t=>yS g cs t k
    | _=>k t
   | .sl b o l _ _ sz=>eZ b t fun aS=>match aS with
    | .box cs fl=>bz (Nat.max fl (Nat.add o (Nat.mul l sz))) fun fl=>e7 (.box cs fl) t b fun t=>qg o cs fun cs=>jV (Nat.mul l sz) cs fun cs=>yS g cs t k
    | .bA s cs fl e st=>bz (Nat.max fl (Nat.add o (Nat.mul l sz))) fun fl=>e7 (.bA s cs fl e st) t b fun t=>qg o cs fun cs=>jV (Nat.mul l sz) cs fun cs=>yS g cs t k
    | _=>k t
   | .cl _ d=>yS g d t k
   | _=>k t) m
theorem J9:∀(m:Nat),MkS (mkK m) (fun H x=>lW m x H):=by
 intro m;induction m with
 | zero=>intro x H t k h q;exact⟨t,by cases x<;>exact h,q⟩
 | succ m v=>
  intro x H t k h q;cases x with
  | f y=>exact⟨t,h,q⟩
  | ptr b off A=>
   obtain⟨aS,d,g⟩:=cP q;rw [h]at d;have d:H[b]?=aa aS:=d;cases aS with
   | box cs fl=>
    change bz _ _ at g;rw [bE]at g;obtain⟨t1,u,j⟩:=dv h g;simp only [lW,d];exact jF v cs _ t1 k u j
   | _=>simp only [lW,d];exact⟨t,h,g⟩
  | sl b o l cap A sz=>
   obtain⟨aS,d,g⟩:=cP q;rw [h]at d;have d:H[b]?=aa aS:=d;cases aS with
   | box cs fl=>
    change bz _ _ at g;rw [bE]at g;obtain⟨t1,u,j⟩:=dv h g;rw [km]at j;obtain⟨_,j⟩:=eE j;simp only [lW,d];exact jF v _ _ t1 k u j
   | bA s cs fl e st=>
    change bz _ _ at g;rw [bE]at g;obtain⟨t1,u,j⟩:=dv h g;rw [km]at j;obtain⟨_,j⟩:=eE j;simp only [lW,d];exact jF v _ _ t1 k u j
   | _=>simp only [lW,d];exact⟨t,h,g⟩
  | cl f z=>
   simp only [lW];exact jF v _ _ t k h q
  | _=>exact⟨t,h,q⟩
def Zf(v:V)(t:HT)(k:HT→Prop):Prop:=match v with
 | .c x=>mkK deep x t k| .a xs=>yS (mkK deep) xs t k| _=>k t
theorem P5:MkS Zf (Md deep):=by
 intro v H t k h b;cases v with
 | c x=>exact J9 deep x H t k h b| a xs=>exact jF (J9 deep) xs H t k h b| _=>exact⟨t,h,b⟩
def S7(call:ek)(f:Nat)(d:List V)(t:HT)(n:Nat)(k:V→HT→Nat→Prop):Prop:=
 tC (zU t) d fun g=>call (.fn f) g .e 0 fun b j _=>YQ j b fun b=>yS Zf d t fun t=>k b t n
theorem Lc{call:bQ}{aV:ek}(hc:mw call aV){f:Nat}{g:List V}{H:aj}{t:HT}{k:V→HT→Nat→Prop}(h:cm H t)(b:S7 aV f g t H.length k) :
  ∃ v H' d,dD call f g H=aa (v,H')∧cm H' d∧k v d H'.length:=by
 obtain⟨l,m,b⟩:=gd (mP h) b;obtain⟨y,z,t1,q,s,b⟩:=hc (.fn f) l [] .e _ cm.nil b;obtain⟨j,u,b⟩:=Pw s y _ b;obtain⟨d,x,b⟩:=jF P5 g H t _ h b;refine⟨j,_,d,by simp only [dD,m,q,u],x,?_⟩;rw [←(lb deep g H).1];exact b
abbrev pg:=ek→T→List dm→HT→Nat→(V→List dm→HT→Nat→Prop)→Prop
def er(b:cj):pg:=fun _ r d t n k=>YU b r t n fun v t n=>k v d t n
def T3(x:Arg):pg:=fun _ r d t n k=>mM x r fun v=>k v d t n
def I8(c a b:Arg):pg:=fun _ r d t n k=>mM c r fun v=>match v with
 | .c (.f (.bool v))=>Bool.rec (motive:=fun _=>Prop) (mM b r fun v=>k v d t n) (mM a r fun v=>k v d t n) v
 | _=>False
def xS(zs:List FC):pg:=fun _ r d t n k=>Us zs fun cs=>lI (.box cs 0) t n fun t b=>k (.c (.ptr n 0 0)) d t b
def T0(x:Arg):pg:=fun _ r d t n k=>mM x r fun v=>pZ v fun xs=>lI (.box xs 0) t n fun t b=>k (.c (.ptr n 0 0)) d t b
def xT(zs:List FC)(ps:List (Nat × Nat × Arg)):pg:=fun _ r d t n k=>Us zs fun cs=>y7 r ps cs fun cs=>k (.a cs) d t n
def I7(m:Option Nat)(x:Arg):pg:=fun _ r d t n k=>mM x r fun v=>ldK t m v fun v=>k v d t n
def xX(m:Nat)(x y:Arg):pg:=fun _ r d t n k=>mM x r fun v=>mM y r fun y=>pZ y fun xs=>fH xs.length m (match v with
 | .c p=>stK t p xs fun t=>k .top d t n
 | _=>False)
def tn(x:Arg):pg:=fun _ r d t n k=>mM x r fun v=>match v with
 | .c (.ptr b o e)=>k (.c (.ptr b o e)) d t n| .c (.f (.fp cs o))=>k (.c (.f (.fp cs o))) d t n| _=>False
def TZ(b:BinOp)(x y:Arg):pg:=fun _ r d t n k=>mM x r fun x=>mM y r fun y=>T7 b x y fun v=>k v d t n
def T1(j:IntKind)(x:Arg):pg:=fun _ r d t n k=>mM x r fun v=>match v with
 | .c (.f (.int _ m))=>s_ j m fun m=>k (.c (.f (.int j m))) d t n
 | _=>False
def tk(off:Nat)(x:Arg):pg:=fun _ r d t n k=>mM x r fun v=>match v with
 | .c (.ptr b o e)=>bz (Nat.add o off) fun o=>k (.c (.ptr b o e)) d t n
 | .c (.f (.fp cs o))=>bz (Nat.add o off) fun o=>k (.c (.f (.fp cs o))) d t n
 | _=>False
def xW(off:Nat)(m:Option Nat)(x:Arg):pg:=fun _ r d t n k=>mM x r fun v=>match v with
 | .a xs=>Ao m off xs fun v=>k v d t n
 | _=>False
def tm(sz:Nat)(b:Option Nat)(x i:Arg):pg:=fun _ r d t n k=>mM x r fun x=>mM i r fun i=>JP t sz b x i fun v=>k v d t n
def pT(x:Arg)(i:Nat):pg:=fun _ r d t n k=>mM x r fun v=>match v with
 | .t b=>P' i b fun v=>k v d t n
 | _=>False
def I6(f:Nat)(args:List Arg)(h:Bool):pg:=fun call r d t n k=>vC args r fun b=>
 Bool.rec (motive:=fun _=>Prop) (S7 call f b t n fun v t n=>k v d t n) (call (.fn f) b t n fun v t n=>k v d t n) h
def xU(x:Arg)(args:List Arg)(_:Bool):pg:=fun call r d t n k=>mM x r fun x=>vC args r fun b=>
 ou (bG x b) fun g=>Prod.rec (motive:=fun _=>Prop) (fun c b=>call c b t n fun v t n=>k v d t n) g
def SL(m:Nat):pg:=fun _ r d t n k=>k (.c (.f (.int .i64 (.ofNat m)))) d t n
def T2(x:Arg):pg:=fun _ r d t n k=>mM x r fun v=>UM t v fun m=>k (.c (.f (.int .i64 (.ofNat m)))) d t n
def tj(sz bytes:Nat)(x y:Arg):pg:=fun _ r d t n k=>mM x r fun x=>mM y r fun y=>YC t n sz bytes x y fun v t n=>k v d t n
def vq:pg:=fun _ r d t n k=>k (.c (.f .kG)) d t n
def xV(x:Arg)(args:List Arg):pg:=fun _ r d t n k=>mM x r fun x=>vC args r fun b=>
 ou (bG x b) fun g=>Prod.rec (motive:=fun _=>Prop) (fun c b=>Callee.rec (motive:=fun _=>Prop) (fun f=>k .top (.fn f b::d) t n) (fun _=>False) c) g
def Zq(d:cj):pg:=
 cj.rec (motive:=fun _=>pg)
  T3 (fun o s=>er (.pre o s)) I8 xS T0 xT (fun a b c e=>er (.aZ a b c e)) I7 xX tn TZ
  (fun a b c e=>er (.eq a b c e)) (fun a b=>er (.un a b)) T1 (fun a=>er (.tx a)) (fun a=>er (.tw a)) (fun a=>er (.yk a)) (fun a b=>er (.eT a b)) (er .gW)
  (fun a b c e=>er (.lookup a b c e)) (fun a b c e=>er (.iZ a b c e)) (fun a b c e f=>er (.dh a b c e f)) (fun a b c e f=>er (.slice a b c e f)) (fun a b c e f g=>er (.lM a b c e f g)) (fun a b c=>er (.nA a b c))
  tk xW tm (fun a b=>er (.idxs a b)) (fun a b c e f=>er (.tJ a b c e f)) (fun a=>er (.range a)) (fun a=>er (.next a)) pT I6 xU T2 SL (fun a=>er (.lens a)) (fun a=>er (.cap a))
  tj (fun a b c=>er (.copy a b c)) (fun a b=>er (.dZ a b)) (fun a b c e f=>er (.mF a b c e f)) (fun a b c=>er (.clear a b c)) (fun a=>er (.ik a)) (fun a=>er (.lG a)) (fun a=>er (.entry a)) (fun a b=>er (.rG a b)) (fun a b c e=>er (.qV a b c e)) (fun a b c e=>er (.fT a b c e)) vq xV (er .bad) d
theorem P_{call:bQ}{aV:ek}(hc:mw call aV)(A:cj){r:T}{d:List dm}{H:aj}{t:HT}{k:V→List dm→HT→Nat→Prop}(h:cm H t)(g:Zq A aV r d t H.length k) :
  ∃ v B H' q,dO call ⟨r,d,H⟩ A=aa (v,⟨r,B,H'⟩)∧cm H' q∧k v B q H'.length:=by
 have go:∀ {v H' q},dO call ⟨r,d,H⟩ A=(aW r H A).map (fun r'=>(r'.1,⟨r,d,r'.2⟩))→aW r H A=aa (v,H')→cm H' q→k v d q H'.length →
   ∃ v B H' q,dO call ⟨r,d,H⟩ A=aa (v,⟨r,B,H'⟩)∧cm H' q∧k v B q H'.length:=
  fun s u l E=>⟨_,d,_,_,by rw [s,u];rfl,l,E⟩
 have gen:dO call ⟨r,d,H⟩ A=(aW r H A).map (fun r'=>(r'.1,⟨r,d,r'.2⟩))→er A aV r d t H.length k →
   ∃ v B H' q,dO call ⟨r,d,H⟩ A=aa (v,⟨r,B,H'⟩)∧cm H' q∧k v B q H'.length:=fun s u=>by
  obtain⟨v,H',q,l,E,J⟩:=Pz A r H t _ h u;exact go s l E J
 cases A
 case cb x=>
  have g:T3 x aV r d t H.length k:=g;unfold T3 at g;rw [cI]at g;exact go rfl rfl h g
 case pick c a b=>
  have g:I8 c a b aV r d t H.length k:=g;unfold I8 at g;rw [cI]at g;split at g
  ·rename_i v z;cases v with
   | true=>
    simp only [cI]at g;exact go rfl (by simp only [aW,z];rfl) h g
   | false=>
    simp only [cI]at g;exact go rfl (by simp only [aW,z];rfl) h g
  ·exact g.elim
 case alloc zs=>
  have g:xS zs aV r d t H.length k:=g;unfold xS at g;rw [nY]at g;obtain⟨q,s,u⟩:=fM h g;exact go rfl rfl s u
 case box x=>
  have g:T0 x aV r d t H.length k:=g;unfold T0 at g;rw [cI]at g;obtain⟨xs,l,g⟩:=nO g;obtain⟨q,s,u⟩:=fM h g;exact go rfl (by simp only [aW,l]) s u
 case build zs ps=>
  have g:xT zs ps aV r d t H.length k:=g;unfold xT at g;rw [nY]at g;obtain⟨cs,l,g⟩:=sR r g;exact go rfl (by simp only [aW,l];rfl) h g
 case load m x=>
  have g:I7 m x aV r d t H.length k:=g;unfold I7 at g;rw [cI]at g;obtain⟨v,l,g⟩:=JU h g;exact go rfl (by simp only [aW,l];rfl) h g
 case store m x y=>
  have g:xX m x y aV r d t H.length k:=g;unfold xX at g;rw [cI,cI]at g;obtain⟨xs,l,g⟩:=nO g;obtain⟨E,g⟩:=cr g;split at g
  ·rename_i p N;obtain⟨H',q,J,L,M,g⟩:=WX h g;exact go rfl (by simp only [aW,N,l,E,if_true,J];rfl) L (by rw [M];exact g)
  ·exact g.elim
 case bp x=>
  have g:tn x aV r d t H.length k:=g;unfold tn at g;rw [cI]at g;split at g
  ·rename_i z;exact go rfl (by simp only [aW,z]) h g
  ·rename_i z;exact go rfl (by simp only [aW,z]) h g
  ·exact g.elim
 case bin A x y=>
  have g:TZ A x y aV r d t H.length k:=g;unfold TZ at g;rw [cI,cI]at g;obtain⟨v,l,g⟩:=Pa g;exact go rfl (by simp only [aW,l];rfl) h g
 case gF j x=>
  have g:T1 j x aV r d t H.length k:=g;unfold T1 at g;rw [cI]at g;split at g
  ·rename_i z;simp only [nC]at g;exact go rfl (by simp only [aW,z];rfl) h g
  ·exact g.elim
 case aJ off x=>
  have g:tk off x aV r d t H.length k:=g;unfold tk at g;rw [cI]at g;split at g
  ·rename_i z;rw [bE]at g;exact go rfl (by simp only [aW,z,gh];rfl) h g
  ·rename_i z;rw [bE]at g;exact go rfl (by simp only [aW,z,gh];rfl) h g
  ·exact g.elim
 case field off m x=>
  have g:xW off m x aV r d t H.length k:=g;unfold xW at g;rw [cI]at g;split at g
  ·rename_i z;obtain⟨v,l,g⟩:=qJ g;exact go rfl (by simp only [aW,z,nS,l];rfl) h g
  ·exact g.elim
 case bh sz I x i=>
  have g:tm sz I x i aV r d t H.length k:=g;unfold tm at g;rw [cI,cI]at g;obtain⟨v,l,g⟩:=CI h g;exact go rfl (by simp only [aW,l];rfl) h g
 case extract x i=>
  have g:pT x i aV r d t H.length k:=g;unfold pT at g;rw [cI]at g;split at g
  ·rename_i z;obtain⟨v,l,g⟩:=py g;exact go rfl (by simp only [aW,z,l];rfl) h g
  ·exact g.elim
 case call f args F=>
  have g:I6 f args F aV r d t H.length k:=g;unfold I6 at g;rw [mG]at g;cases F with
  | false=>
   obtain⟨v,H',q,s,u,l⟩:=Lc hc h g;exact⟨v,d,H',q,by simp only [dO,ff,acJ,if_false,s];rfl,u,l⟩
  | true=>
   obtain⟨v,H',q,s,u,l⟩:=hc _ _ H t _ h g;exact⟨v,d,H',q,by simp only [dO,ff,if_true,s];rfl,u,l⟩
 case bH x args F=>
  have g:xU x args F aV r d t H.length k:=g;unfold xU at g;rw [cI,mG]at g;obtain⟨⟨c,K⟩,s,g⟩:=gX g;obtain⟨v,H',q,u,l,E⟩:=hc c K H t _ h g;exact⟨v,d,H',q,by simp only [dO,s,u];rfl,l,E⟩
 case len x=>
  have g:T2 x aV r d t H.length k:=g;unfold T2 at g;rw [cI]at g;obtain⟨y,m,s,u,g⟩:=PY h g;exact go rfl (by simp only [aW,s,u];rfl) h g
 case qt m=>
  have g:SL m aV r d t H.length k:=g;exact go rfl rfl h g
 case append sz bytes x y=>
  have g:tj sz bytes x y aV r d t H.length k:=g;unfold tj at g;rw [cI,cI]at g;obtain⟨v,H',q,s,u,l⟩:=O8 h g;exact go rfl (by simp only [aW,s]) u l
 case recover=>
  have g:vq aV r d t H.length k:=g;exact⟨_,d,H,t,rfl,h,g⟩
 case defer x args=>
  have g:xV x args aV r d t H.length k:=g;unfold xV at g;rw [cI,mG]at g;obtain⟨⟨c,K⟩,s,g⟩:=gX g;cases c with
  | fn f=>exact⟨_,.fn f K::d,H,t,by simp only [dO,s],h,g⟩
  | yield b=>exact g.elim
 all_goals exact gen rfl g
end
section
set_option linter.unusedVariables false
def prm(f:Nat)(args:List V)(H:aj):Option (Option (V × aj)):=ab
def UD(args:List V)(t:HT)(n:Nat)(k:V→HT→Nat→Prop):Prop:=False
theorem PO{H:aj}{t:HT}(h:cm H t){args:List V}{k:V→HT→Nat→Prop}(d:UD args t H.length k):∃ v H' b,prm oa args H=aa (aa (v,H'))∧cm H' b∧k v b H'.length:=d.elim
def oA(tab:Nat→Option aw)(f:Nat)(args:List V)(H:aj):Option (Option (V × aj)):=match tab f with
 | some _=>ab| none=>prm f args H
theorem sU{tab:Nat→Option aw}{f:Nat}{a:aw}(h:tab f=aa a)(args:List V)(H:aj):oA tab f args H=ab:=by simp [oA,h]
end
section
set_option linter.unusedVariables false
def Tl(g:Option (P × Bool))(r:T)(d j:Prop):Prop:=
 Option.rec (motive:=fun _=>Prop) d (fun l=>Prod.rec (motive:=fun _=>Prop) (fun p w=>vU p r fun v=>match v with
  | .c (.f (.bool b))=>Bool.rec (motive:=fun _=>Prop) (Bool.rec (motive:=fun _=>Prop) d j w) (Bool.rec (motive:=fun _=>Prop) j d w) b
  | .t []=>j
  | _=>False) l) g
theorem L3{g:Option (P × Bool)}{r:T}{d l:Prop}(h:Tl g r d l):(wanted r g=aa ae∧d)∨(wanted r g=aa ag∧l):=by
 cases g with
 | none=>exact .inl ⟨rfl,h⟩
 | some m=>
  obtain⟨p,w⟩:=m;change vU p r _ at h;rw [kY]at h;simp only [wanted];split at h
  ·rename_i b j;rw [j];cases b<;>cases w
   ·exact .inl ⟨rfl,h⟩
   ·exact .inr ⟨rfl,h⟩
   ·exact .inr ⟨rfl,h⟩
   ·exact .inl ⟨rfl,h⟩
  ·rename_i j;rw [j];exact .inr ⟨rfl,h⟩
  ·exact h.elim
abbrev Ci:=T→List dm→HT→Nat→Prop
def LX(o:aH)(call:ek)(r:T)(d:List dm)(t:HT)(n:Nat)(k:Ci):Prop:=
 aH.rec (motive:=fun _=>Prop) (fun b j g=>Tl g r (Zq j call r d t n fun v d t n=>Wg b r v fun r=>k r d t n) (Wg b r (.t []) fun r=>k r d t n)) o
theorem w9{call:bQ}{aV:ek}(hc:mw call aV){o:aH}{r:T}{d:List dm}{H:aj}{t:HT}{k:Ci}(h:cm H t)(b:LX o aV r d t H.length k) :
  ∃ s' l,eo call ⟨r,d,H⟩ o=aa s'∧cm s'.heap l∧k s'.al s'.defs l s'.heap.length:=by
 obtain⟨j,y,g⟩:=o;rcases L3 b with⟨m,b⟩ | ⟨m,b⟩
 ·obtain⟨v,s,H',l,u,x,q⟩:=P_ hc y h b;rw [At]at q;exact⟨⟨gK r j v,s,H'⟩,l,by simp only [eo,m,u],x,q⟩
 ·rw [At]at b;exact⟨⟨gK r j (.t []),d,H⟩,t,by simp only [eo,m],h,b⟩
def Zw(ops:List aH)(call:ek):T→List dm→HT→Nat→Ci→Prop:=
 List.rec (motive:=fun _=>T→List dm→HT→Nat→Ci→Prop) (fun r d t n k=>k r d t n) (fun o _ b r d t n k=>LX o call r d t n fun r d t n=>b r d t n k) ops
theorem Ah{call:bQ}{aV:ek}(hc:mw call aV):∀ {ops:List aH} {r:T} {d:List dm} {H:aj} {t:HT} {k:Ci},cm H t→Zw ops aV r d t H.length k →
  ∃ s' j,ej call ops ⟨r,d,H⟩=aa s'∧cm s'.heap j∧k s'.al s'.defs j s'.heap.length
 | [],r,d,H,t,k,h,b=>⟨⟨r,d,H⟩,t,rfl,h,b⟩
 | o::ops,r,d,H,t,k,h,b=>by
  obtain⟨g,t1,l,m,q⟩:=w9 hc h b;obtain⟨x,t2,s,u,v⟩:=Ah hc (r:=g.al) (d:=g.defs) (H:=g.heap) m q;exact⟨x,t2,by simp only [ej,l];exact s,u,v⟩
structure pR where
 r:T
 d:List dm
 t:HT
 n:Nat
def uJ(ops:List aH)(call:ek):T→List dm→HT→Nat→(List pR→Ci)→Prop:=
 List.rec (motive:=fun _=>T→List dm→HT→Nat→(List pR→Ci)→Prop) (fun r d t n k=>k [⟨r,d,t,n⟩] r d t n)
  (fun o _ q r d t n k=>LX o call r d t n fun r' m v s=>q r' m v s fun u j b l g=>k (⟨r,d,t,n⟩::u) j b l g) ops
def SJ(s:St)(x:pR):Prop:=x.r=s.al∧x.d=s.defs∧cm s.heap x.t∧x.n=s.heap.length
inductive pS:List St→List pR→Prop
 | nil:pS [] []
 | cons {s:St} {x:pR} {ss:List St} {xs:List pR} (h:SJ s x) (hs:pS ss xs):pS (s::ss) (x::xs)
theorem pS.get{d:List St}{xs:List pR}(h:pS d xs):∀(i:Nat) (x:pR),xs[i]?=aa x→∃ s,d[i]?=aa s∧SJ s x:=by
 induction h with
 | nil=>intro i x b;simp at b
 | cons h j g=>
  intro i x b;cases i with
  | zero=>simp at b;subst b;exact⟨_,rfl,h⟩| succ i=>simpa using g i x (by simpa using b)
theorem qZ{call:bQ}{aV:ek}(hc:mw call aV):∀ {ops:List aH} {r:T} {d:List dm} {H:aj} {t:HT} {k:List pR→Ci},cm H t→uJ ops aV r d t H.length k →
  ∃ b xs s' m,di call ops ⟨r,d,H⟩=aa b∧pS b xs∧b.getLast?=aa s'∧cm s'.heap m∧k xs s'.al s'.defs m s'.heap.length
 | [],r,d,H,t,k,h,g=>⟨[⟨r,d,H⟩],[⟨r,d,t,H.length⟩],⟨r,d,H⟩,t,rfl,.cons ⟨rfl,rfl,h,rfl⟩ .nil,rfl,h,g⟩
 | o::ops,r,d,H,t,k,h,g=>by
  obtain⟨j,t1,q,s,u⟩:=w9 hc h g;obtain⟨b,xs,A,t2,v,x,l,y,z⟩:=qZ hc (r:=j.al) (d:=j.defs) (H:=j.heap) s u;refine⟨⟨r,d,H⟩::b,⟨r,d,t,H.length⟩::xs,A,t2,by simp only [di,q];rw [v],.cons ⟨rfl,rfl,h,rfl⟩ x,?_,y,z⟩;cases b with
  | nil=>simp at l| cons a as=>simpa using l
def AB(ops:List aH)(xs:List pR)(c:Nat × Nat):Bool:=
 match ops[c.1]?,xs[c.1]?,xs[c.2]? with
 | some o,aa s,aa s'=>match wanted s.r o.g with
  | some ag=>ae
  | _=>match L6 s.r s.t.get s.n o.op,L6 s.r s'.t.get s'.n o.op with
   | some (v,_),aa (b,_)=>v.beq b| _,_=>ag
 | _,_,_=>ag
theorem LJ{ops:List aH}{l:List St}{xs:List pR}(h:pS l xs){c:Nat × Nat}(hc:AB ops xs c=ae):sameAt ops l c=ae:=by
 unfold AB at hc;split at hc
 ·rename_i o x O z A B;obtain⟨s,m,q,K,u,y⟩:=h.get _ _ A;obtain⟨s',F,L,M,H,I⟩:=h.get _ _ B;unfold sameAt;rw [z,m,F];simp only;rw [←q];split at hc
  ·rename_i E;rw [E]
  ·split at hc
   ·rename_i v e N J g j;rw [u,y]at g;rw [H,I]at j;have b:=uN x.r s.heap o.op;rw [g]at b;have d:=uN x.r s'.heap o.op;rw [j]at d;rw [←b,←d];split
    ·rfl
    ·exact hc
   ·simp at hc
 ·simp at hc
def ns(ops:List aH)(fC:List (Nat × Nat))(call:ek)(r:T)(d:List dm)(t:HT)(n:Nat)(k:Ci):Prop:=
 List.rec (motive:=fun _=>Prop) (Zw ops call r d t n k) (fun _ _ _=>uJ ops call r d t n fun xs r d t n=>oN (fC.all (AB ops xs)) (k r d t n)) fC
theorem zi{call:bQ}{aV:ek}(hc:mw call aV){ops:List aH}{fC:List (Nat × Nat)}{r:T}{d:List dm}{H:aj}{t:HT}{k:Ci}(h:cm H t)(b:ns ops fC aV r d t H.length k) :
  ∃ s' g,eI call ops fC ⟨r,d,H⟩=aa s'∧cm s'.heap g∧k s'.al s'.defs g s'.heap.length:=by
 cases fC with
 | nil=>exact Ah hc h b
 | cons c cs=>
  have b:uJ ops aV r d t H.length (fun xs r d t n=>oN ((c::cs).all (AB ops xs)) (k r d t n)):=b;obtain⟨x,xs,s',g,l,m,q,s,u⟩:=qZ hc h b;obtain⟨j,v⟩:=kg u;refine⟨s',g,?_,s,v⟩;simp only [eI,l];rw [bf,q];rw [acN]at j ⊢;exact fun c hc=>LJ m (j c hc)
abbrev Go1:=Option Nat→List ca→Ci
abbrev O6:=Option ak→Ci
abbrev bN:=ek→Nat→O6→Go1→Option Nat→List ca→Ci
def zO:bN:=fun _ _ _ go ro rest r d t n=>go ro rest r d t n
def Pc(ops:List aH)(fC:List (Nat × Nat)):bN:=fun call _ _ go ro rest r d t n=>
 Option.rec (motive:=fun _=>Prop) (ns ops fC call r d t n fun r d t n=>go ro rest r d t n)
  (fun _=>oN (ops.all (·.op.dA)) (ns ops fC call r d t n fun r d t n=>go ro rest r d t n)) ro
def abi(a b:ak)(_ _:bN):bN:=fun _ _ _ go ro rest r d t n=>go ro (.code a::.code b::rest) r d t n
def Jm(c:Arg)(a b:ak)(_ _:bN):bN:=fun _ _ _ go ro rest r d t n=>mM c r fun v=>match v with
 | .c (.f (.bool v))=>Bool.rec (motive:=fun _=>Prop) (go ro (.code b::rest) r d t n) (go ro (.code a::rest) r d t n) v
 | _=>False
def Ud(id:Nat)(a:ak)(_:bN):bN:=fun _ _ _ go ro rest r d t n=>go ro (.code a::.inBlock id::rest) r d t n
def YJ(a:ak)(_:bN):bN:=fun _ _ _ go ro rest r d t n=>go ro (.code a::.inLoop a::rest) r d t n
def tr(f:Arg)(ps:List P)(as bd:ak)(_ _:bN):bN:=fun call fn _ go ro rest r d t n=>
 Option.rec (motive:=fun _=>Prop)
  (lI (.fk ae) t n fun t b=>lI (.lp fn r ps as bd .ready ab n) t b fun t m=>mM f r fun x=>
   ou (bG x [.c (.yl b)]) fun j=>Prod.rec (motive:=fun _=>Prop) (fun c q=>Callee.rec (motive:=fun _=>Prop)
    (fun g=>call (.fn g) q t m fun _ t l=>go ab (.fZ b::rest) r (.hY n::d) t l) (fun _=>False) c) j)
  (fun _=>False) ro
def Jn(id:Nat):bN:=fun _ _ b go ro rest r d t n=>
 Option.rec (motive:=fun _=>Prop) (Option.rec (motive:=fun _=>Prop) False (fun _=>b (aa (.exit id)) r d t n) ro) (fun k=>go ro k r d t n) (exitTo id rest)
def abh:bN:=fun _ _ b _ _ _ r d t n=>b (aa .ret) r d t n
def abg:bN:=fun _ _ _ _ _ _ _ _ _ _=>False
def Uf(a:ak)(_:bN):bN:=fun _ _ _ go ro rest r d t n=>go ro (.code a::.inScope a::rest) r d t n
def Ue(_:Nat):bN:=zO
def YI(l:Nat):bN:=fun _ _ _ go ro rest r d t n=>ou (gotoIn l rest) fun k=>go ro k r d t n
def vJ(c:ak):bN:=ak.rec (motive:=fun _=>bN) zO Pc abi Jm Ud YJ tr Jn abh abg Uf Ue YI c
def Uy(_:Nat):bN:=zO
def YW(c:ak):bN:=fun _ _ _ go ro rest r d t n=>go ro (.code c::.inLoop c::rest) r d t n
def yC(b:Nat):bN:=fun _ _ _ go ro rest r d t n=>eZ b t fun aS=>match aS with
 | .lp f tmps ps as bd st pending g=>oN (match st with | .busy=>ag | _=>ae) (e7 (.lp f tmps ps as bd .exhausted pending g) t b fun t=>match pending with
  | none=>go ro rest r d t n| some .ret=>go ro (.code .ret::rest) r d t n| some (.exit id)=>go ro (.code (.exit id)::rest) r d t n
  | some _=>False)
 | _=>False
def SS:bN:=fun _ _ _ go ro rest r d t n=>Option.rec (motive:=fun _=>Prop) False (fun b=>eZ b t fun aS=>match aS with
 | .lp f tmps ps as bd .ready pending g=>e7 (.lp f tmps ps as bd .busy pending g) t b fun t=>go ro rest r d t n
 | _=>False) ro
def Uz(_:ak):bN:=zO
def SV(x:ca):bN:=ca.rec (motive:=fun _=>bN) vJ Uy YW yC SS Uz x
def runK(call:ek)(fn:Nat)(b:O6)(m:Nat):Go1:=
 Nat.rec (motive:=fun _=>Go1) (fun _ _ _ _ _ _=>False)
  (fun _ j ro g r d t n=>List.rec (motive:=fun _=>Prop) (b ab r d t n) (fun x rest _=>SV x call fn b j ro rest r d t n) g) m
def XC(call:bQ)(fn m:Nat)(ro:Option Nat)(g:List ca)(s:St)(d:O6):Prop:=
 ∃ b s' j,run call fn m ro g s=aa (b,s')∧cm s'.heap j∧d b s'.al s'.defs j s'.heap.length
theorem Az{call:bQ}{aV:ek}(hc:mw call aV)(fn:Nat)(j:O6):∀(m:Nat) (ro:Option Nat) (s:List ca) (r:T) (d:List dm) (H:aj) (t:HT),
  cm H t→runK aV fn j m ro s r d t H.length→XC call fn m ro s ⟨r,d,H⟩ j:=by
 intro m;induction m with
 | zero=>intro ro s r d H t h q;exact q.elim
 | succ m ih=>
  intro ro s r d H t h q;have go:∀ {y} {s':St} {E:HT},run call fn (m+1) ro s ⟨r,d,H⟩=run call fn m ro y s'→cm s'.heap E→runK aV fn j m ro y s'.al s'.defs E s'.heap.length→XC call fn (m+1) ro s ⟨r,d,H⟩ j:=by
   intro y s' E u z B;obtain⟨L,N,O,W,X,Y⟩:=ih ro y s'.al s'.defs s'.heap E z B;exact⟨L,N,O,by rw [u];exact W,X,Y⟩
  cases s with
  | nil=>exact⟨ab,⟨r,d,H⟩,t,rfl,h,q⟩
  | cons x rest=>
   have q:SV x aV fn j (runK aV fn j m) ro rest r d t H.length:=q;cases x with
   | inBlock id=>exact go (s':=⟨r,d,H⟩) (by simp only [run]) h q
   | inLoop c=>exact go (s':=⟨r,d,H⟩) (by simp only [run]) h q
   | inScope c=>exact go (s':=⟨r,d,H⟩) (by simp only [run]) h q
   | fZ b=>
    have q:yC b aV fn j (runK aV fn j m) ro rest r d t H.length:=q;unfold yC at q;obtain⟨aS,u,z⟩:=cP q;rw [h]at u;have u:H[b]?=aa aS:=u;split at z
    ·rename_i f tmps ps as bd st pending F _;obtain⟨B,z⟩:=kg z;obtain⟨E,I,A⟩:=dv h z;have J:st≠.busy:=by rintro rfl;simp at B
     have M:H.length=(H.set b (.lp f tmps ps as bd .exhausted pending F)).length:=by simp
     rw [M]at A;split at A
     ·exact go (s':=⟨r,d,H.set b (.lp f tmps ps as bd .exhausted ab F)⟩) (by simp only [run,u,aU J]) I A
     ·exact go (s':=⟨r,d,H.set b (.lp f tmps ps as bd .exhausted (aa .ret) F)⟩) (by simp only [run,u,aU J]) I A
     ·exact go (s':=⟨r,d,H.set b (.lp f tmps ps as bd .exhausted (aa (.exit _)) F)⟩) (by simp only [run,u,aU J]) I A
     ·exact A.elim
    ·exact z.elim
   | ke=>
    have q:SS aV fn j (runK aV fn j m) ro rest r d t H.length:=q;cases ro with
    | none=>exact q.elim
    | some b=>
     obtain⟨aS,u,z⟩:=cP q;rw [h]at u;have u:H[b]?=aa aS:=u;split at z
     ·rename_i f tmps ps as bd pending F _;obtain⟨E,I,A⟩:=dv h z;have M:H.length=(H.set b (.lp f tmps ps as bd .busy pending F)).length:=by simp
      rw [M]at A;exact go (s':=⟨r,d,H.set b (.lp f tmps ps as bd .busy pending F)⟩) (by simp only [run,u]) I A
     ·exact z.elim
   | code c=>
    cases c with
    | skip=>exact go (s':=⟨r,d,H⟩) (by simp only [run]) h q
    | label l=>exact go (s':=⟨r,d,H⟩) (by simp only [run]) h q
    | scope a=>exact go (s':=⟨r,d,H⟩) (by simp only [run]) h q
    | goto l=>
     obtain⟨k',K,q⟩:=gX (show ou (gotoIn l rest) (fun k'=>runK aV fn j m ro k' r d t H.length) from q);exact go (s':=⟨r,d,H⟩) (by simp only [run,K]) h q
    | bad=>exact q.elim| ret=>exact⟨aa .ret,⟨r,d,H⟩,t,rfl,h,q⟩| seq a b=>exact go (s':=⟨r,d,H⟩) (by simp only [run]) h q
    | block id a=>exact go (s':=⟨r,d,H⟩) (by simp only [run]) h q
    | loop a=>exact go (s':=⟨r,d,H⟩) (by simp only [run]) h q
    | exit id=>
     have q:Jn id aV fn j (runK aV fn j m) ro rest r d t H.length:=q;unfold Jn at q;cases K:exitTo id rest with
     | some k'=>
      rw [K]at q;exact go (s':=⟨r,d,H⟩) (by simp only [run,K]) h q
     | none=>
      rw [K]at q;cases ro with
      | none=>exact q.elim| some b=>exact⟨aa (.exit id),⟨r,d,H⟩,t,by simp only [run,K,Option.isSome_some,if_true],h,q⟩
    | cond c a b=>
     have q:Jm c a b (vJ a) (vJ b) aV fn j (runK aV fn j m) ro rest r d t H.length:=q;unfold Jm at q;rw [cI]at q;split at q
     ·rename_i v U;cases v with
      | true=>exact go (s':=⟨r,d,H⟩) (by simp only [run,U,if_true]) h q
      | false=>exact go (s':=⟨r,d,H⟩) (by simp only [run,U,acJ,if_false]) h q
     ·exact q.elim
    | region ops fC=>
     have key:(ro.isSome&&!ops.all (·.op.dA))=ag∧ns ops fC aV r d t H.length (fun r d t n=>runK aV fn j m ro rest r d t n):=by
      cases ro with
      | none=>exact⟨rfl,q⟩
      | some b=>
       obtain⟨u,z⟩:=kg (show oN (ops.all (·.op.dA)) (ns ops fC aV r d t H.length (fun r d t n=>runK aV fn j m (aa b) rest r d t n)) from q);exact⟨by rw [u];rfl,z⟩
     obtain⟨s',E,u,z,B⟩:=zi hc h key.2;exact go (s':=s') (by simp only [run,key.1,acJ,if_false,u]) z B
    | dE f ps as bd=>
     have q:tr f ps as bd (vJ as) (vJ bd) aV fn j (runK aV fn j m) ro rest r d t H.length:=q;cases ro with
     | some b=>exact q.elim
     | none=>
      unfold tr at q;obtain⟨t1,u,q⟩:=fM h q;obtain⟨t2,z,q⟩:=fM u q;rw [cI]at q;obtain⟨⟨c,vs⟩,B,q⟩:=gX q;have Q:(H++[bK.fk ae]).length=H.length+1:=by simp
      have S:H++[bK.fk ae]++[bK.lp fn r ps as bd .ready ab H.length]=H++[.fk ae,.lp fn r ps as bd .ready ab H.length]:=by simp
      rw [Q]at B;rw [S]at z;cases c with
      | yield b=>exact q.elim
      | fn g=>
       have q:aV (.fn g) vs t2 (H++[bK.fk ae]++[bK.lp fn r ps as bd .ready ab H.length]).length (fun _ t n'=>runK aV fn j m ab (.fZ (H++[bK.fk ae]).length::rest) r (.hY H.length::d) t n'):=q;rw [S,Q]at q;obtain⟨v,H',E,I,A,Z⟩:=hc _ _ _ _ _ z q;exact go (s':=⟨r,.hY H.length::d,H'⟩) (by simp only [run,Option.isSome_none,acJ,if_false,B,I]) A Z
def zS(call:ek)(ds:List dm):HT→Nat→(HT→Nat→Prop)→Prop:=
 List.rec (motive:=fun _=>HT→Nat→(HT→Nat→Prop)→Prop) (fun t n k=>k t n)
  (fun x _ d t n k=>dm.rec (motive:=fun _=>Prop)
   (fun b=>eZ b t fun aS=>match aS with
    | .fk ae=>e7 (.fk ag) t b fun t=>d t n k
    | _=>False)
   (fun f args=>Bool.rec (motive:=fun _=>Prop) (call (.fn f) args t n fun _ t n=>d t n k) False (Nat.beq f oa)) x) ds
theorem qf{call:bQ}{aV:ek}(hc:mw call aV):∀ {ds:List dm} {H:aj} {t:HT} {k:HT→Nat→Prop},cm H t→zS aV ds t H.length k→∃ H' j,cV call ds H=aa H'∧cm H' j∧k j H'.length
 | [],H,t,k,h,d=>⟨H,t,rfl,h,d⟩
 | .hY b::ds,H,t,k,h,d=>by
  obtain⟨aS,g,l⟩:=cP d;rw [h]at g;have g:H[b]?=aa aS:=g;split at l
  ·obtain⟨t1,q,m⟩:=dv h l;have z:H.length=(H.set b (.fk ag)).length:=by simp
   have m:zS aV ds t1 H.length k:=m;rw [z]at m;obtain⟨H',j,s,u,x⟩:=qf hc q m;exact⟨H',j,by simp only [cV,g];exact s,u,x⟩
  ·exact l.elim
 | .fn f args::ds,H,t,k,h,d=>by
  have d:Bool.rec (motive:=fun _=>Prop) (aV (.fn f) args t H.length fun _ t n=>zS aV ds t n k) False (Nat.beq f oa):=d;cases y:Nat.beq f oa with
  | true=>rw [y]at d;exact d.elim
  | false=>
   rw [y]at d;obtain⟨v,A,t1,g,l,q⟩:=hc _ _ H t _ h d;obtain⟨H',j,s,u,x⟩:=qf hc (ds:=ds) l q;exact⟨H',j,by simp only [cV,aU (Nat.ne_of_beq_eq_false y),g];exact s,u,x⟩
def aab(r:T)(t:HT)(a:fF)(k:V→Prop):Prop:=fF.rec (motive:=fun _=>Prop)
 (fun p=>vU p r fun v=>match v with
  | .t _=>False
  | v=>k v)
 (fun p m=>vU p r fun v=>ldK t m v k) a
theorem RL{H:aj}{t:HT}(h:cm H t){r:T}(a:fF)(k:V→Prop)(b:aab r t a k):∃ v,cD r H a=aa v∧k v:=by
 cases a with
 | tmp p=>
  change vU p r _ at b;rw [kY]at b;simp only [cD];cases d:r.get p with
  | t g=>rw [d]at b;exact b.elim| _=>rw [d]at b;exact⟨_,rfl,b⟩
 | cell p m=>
  change vU p r _ at b;rw [kY]at b;exact JU h b
def wT(r:T)(t:HT)(b:List fF)(k:V→Prop):Prop:=tC (aab r t) b fun vs=>match vs with
 | [v]=>k v| vs=>k (.t vs)
theorem wU{H:aj}{t:HT}(h:cm H t){r:T}{g:List fF}{k:V→Prop}(m:wT r t g k):∃ v,Km.results r H g=aa v∧k v:=by
 obtain⟨j,l,d⟩:=gd (RL h) m;unfold Km.results;rw [l];split at d
 ·exact⟨_,rfl,d⟩
 ·rename_i b;refine⟨.t j,?_,d⟩
  match j,b with
  | [v],b=>exact absurd rfl (b v)| [],_=>rfl| _::_::_,_=>rfl
def fnK(tab:BT aw)(m:Nat)(call:ek)(f:Nat)(args:List V)(t:HT)(n:Nat)(k:V→HT→Nat→Prop):Prop:=
 eZ f tab fun b=>aw.rec (motive:=fun _=>Prop) (fun ps g body=>fH args.length ps.length (pG ps args .e fun r=>
  runK call f (fun _ r d t n=>zS call d t n fun t n=>wT r t g fun v=>k v t n) m ab [.code body] r [] t n)) b
def L9(m:Nat)(call:ek)(b:Nat)(args:List V)(t:HT)(n:Nat)(k:V→HT→Nat→Prop):Prop:=
 eZ b t fun aS=>match aS with
  | .lp f tmps ps as bd _ _ _=>fH args.length ps.length (pG ps args tmps fun r=>
    runK call f (fun q _ d t n=>oN d.isEmpty (eZ b t fun aS=>match aS with
     | .lp v g s as' l _ _ u=>match q with
      | none=>e7 (.lp v g s as' l .ready ab u) t b fun t=>k (.c (.f (.bool ae))) t n
      | some j=>e7 (.lp v g s as' l .done (aa j) u) t b fun t=>k (.c (.f (.bool ag))) t n
     | _=>False)) m (aa b) [.code as,.ke,.code bd] r [] t n)
  | _=>False
def aV(tab:BT aw)(m:Nat)(d:Nat):ek:=
 Nat.rec (motive:=fun _=>ek) (fun _ _ _ _ _=>False)
  (fun _ g c args t n k=>Callee.rec (motive:=fun _=>Prop) (fun f=>Bool.rec (motive:=fun _=>Prop) (fnK tab m g f args t n k) (Option.rec (motive:=fun _=>Prop) (UD args t n k) (fun _=>False) (tab.get oa)) (Nat.beq f oa)) (fun b=>L9 m g b args t n k) c) d
theorem Jp(tab:BT aw)(m:Nat):∀ g,mw (dx tab.get (oA tab.get) m g) (aV tab m g):=by
 intro g;induction g with
 | zero=>intro c args H t k h d;exact d.elim
 | succ g J=>
  intro c args H t k h d;cases c with
  | fn f=>
   have d:Bool.rec (motive:=fun _=>Prop) (fnK tab m (aV tab m g) f args t H.length k) (Option.rec (motive:=fun _=>Prop) (UD args t H.length k) (fun _=>False) (tab.get oa)) (Nat.beq f oa):=d;cases E:Nat.beq f oa with
   | true=>
    rw [E]at d;have M:=adN E;subst M;cases I:tab.get oa with
    | some _=>rw [I]at d;exact d.elim
    | none=>
     rw [I]at d;obtain⟨v,H',K,q,x,y⟩:=PO h d;exact⟨v,H',K,by simp only [dx,oA,I,q],x,y⟩
   | false=>
   rw [E]at d;have N:=Nat.ne_of_beq_eq_false E;obtain⟨L,q,d⟩:=cP (show fnK tab m (aV tab m g) f args t H.length k from d);obtain⟨ps,O,body⟩:=L;obtain⟨x,d⟩:=cr d;rw [mn]at d;obtain⟨u,s',K,y,z,d⟩:=Az J f _ m ab [.code body] _ [] H t h d;obtain⟨H',l,B,s,d⟩:=qf J z d;obtain⟨v,A,d⟩:=wU s d;exact⟨v,H',l,by simp only [dx,sU q,q,x,if_true,y,B,A];rfl,s,d⟩
  | yield b=>
   obtain⟨aS,q,d⟩:=cP (show L9 m (aV tab m g) b args t H.length k from d);rw [h]at q;have q:H[b]?=aa aS:=q;split at d
   ·obtain⟨x,d⟩:=cr d;rw [mn]at d;obtain⟨u,s',K,y,z,d⟩:=Az J _ _ m (aa b) _ _ [] H t h d;obtain⟨B,d⟩:=kg d;obtain⟨blk',s,d⟩:=cP d;rw [z]at s;have s:s'.heap[b]?=aa blk':=s;split at d
    ·cases u with
     | none=>
      obtain⟨l,A,F⟩:=dv z d;exact⟨_,_,l,by simp only [dx,q,x,if_true,y,B,s];rfl,A,by rw [List.length_set];exact F⟩
     | some j=>
      obtain⟨l,A,F⟩:=dv z d;exact⟨_,_,l,by simp only [dx,q,x,if_true,y,B,s];rfl,A,by rw [List.length_set];exact F⟩
    ·exact d.elim
   ·exact d.elim
def isTrue(v:V)(_:HT)(_:Nat):Prop:=match v with
 | .c (.f (.bool b))=>Bool.rec (motive:=fun _=>Prop) False True b
 | _=>False
theorem x_{tab:BT aw}{m d f:Nat}(h:aV tab m d (.fn f) [] .e 0 isTrue):∃ H',dx tab.get (oA tab.get) m d (.fn f) [] []=aa (.c (.f (.bool ae)),H'):=by
 obtain⟨v,H',q,j,l,g⟩:=Jp tab m d (.fn f) [] [] .e isTrue cm.nil h;refine⟨H',?_⟩;rw [j];unfold isTrue at g;split at g
 ·rename_i b;cases b with
  | true=>rfl| false=>exact g.elim
 ·exact g.elim
end
theorem aE{P:Nat→aw→Prop}:∀ i a,(BT.e:BT aw).get i=aa a→P i a:=fun i a h=>by cases i<;>cases h
theorem aF{P:Nat→aw→Prop}{l r:BT aw}{x:aw}(d:∀ i a,l.get i=aa a→P (2*i+1) a)(j:P 0 x)
  (g:∀ i a,r.get i=aa a→P (2*i+2) a):∀ i a,(BT.n l x r).get i=aa a→P i a:=by
 intro i a h;cases i with
 | zero=>cases h;exact j
 | succ m=>
  have b:(if m % 2=0 then l.get (m / 2)else r.get (m / 2))=aa a:=h;split at b
  ·have:=d _ _ b;rwa [show 2*(m / 2)+1=m+1 by omega]at this
  ·have:=g _ _ b;rwa [show 2*(m / 2)+2=m+1 by omega]at this
theorem Rh{Q:Program}{σ:Nat→FuncId}(h:xR Q σ prm)(tab:Nat→Option aw):xR Q σ (oA tab):=fun f args H r H' b=>by
 unfold oA at b;split at b
 ·cases b
 ·exact h f args H r H' b
theorem wQ{tab:BT aw}{f:Nat}(h:∃ m b,aV tab m b (.fn f) [] .e 0 isTrue=True):∃ m b H',dx tab.get (oA tab.get) m b (.fn f) [] []=aa (.c (.f (.bool ae)),H'):=by
 obtain⟨m,b,h⟩:=h;obtain⟨H',d⟩:=x_ (of_eq_true h);exact⟨m,b,H',d⟩
section
def th(c1 c2:bQ):Prop:=∀ c args H r,c1 c args H=aa r→c2 c args H=aa r
section
variable{c1 c2:bQ}(hc:th c1 c2)
include hc
theorem rL{c:Nat}{args:List V}{H:aj}{r:V × aj}(h:dD c1 c args H=aa r):dD c2 c args H=aa r:=by
 unfold dD at h ⊢;split at h
 ·simp at h
 ·rename_i g d;split at h
  ·simp at h
  ·rename_i r0 H0 b;simp only [hc _ _ _ _ b];exact h
theorem ua{b:Bool}{c:Nat}{args:List V}{H:aj}{r:V × aj}(h:ff c1 b c args H=aa r):ff c2 b c args H=aa r:=by
 unfold ff at h ⊢;split at h
 ·rename_i d;simp only [d,if_true];exact hc _ _ _ _ h
 ·rename_i d;simp only [d];exact rL hc h
theorem tc{s:St}{g:cj}{r:V × St}(h:dO c1 s g=aa r):dO c2 s g=aa r:=by
 cases g with
 | call f args b=>
  simp only [dO,IN]at h ⊢;obtain⟨a,d,rfl⟩:=h;exact⟨a,ua hc d,rfl⟩
 | bH x args b=>
  simp only [dO]at h ⊢;split at h
  ·simp only [IN]at h ⊢;obtain⟨a,d,rfl⟩:=h;exact⟨a,hc _ _ _ _ d,rfl⟩
  ·simp at h
 | _=>exact h
theorem ri{s s':St}{o:aH}(h:eo c1 s o=aa s'):eo c2 s o=aa s':=by
 unfold eo at h ⊢;cases g:wanted s.al o.g with
 | none=>simp [g]at h
 | some b=>
  cases b with
  | false=>simpa [g]using h
  | true=>
   simp only [g]at h ⊢;cases d:dO c1 s o.op with
   | none=>simp [d]at h
   | some x=>
    obtain⟨v,j⟩:=x;rw [tc hc d];rw [d]at h;exact h
theorem cZ:∀(os:List aH) (s:St) {s':St},ej c1 os s=aa s'→ej c2 os s=aa s'
 | [],s,s',h=>h
 | o::os,s,s',h=>by
  simp only [ej]at h ⊢;split at h
  ·rename_i d b;simp only [ri hc b];exact cZ os d h
  ·simp at h
theorem nD:∀(os:List aH) (s:St) {b:List St},di c1 os s=aa b→di c2 os s=aa b
 | [],s,b,h=>h
 | o::os,s,b,h=>by
  simp only [di]at h ⊢;split at h
  ·rename_i j d;simp only [ri hc d];split at h
   ·rename_i l g;simp only [nD os j g];exact h
   ·simp at h
  ·simp at h
theorem uO{ops:List aH}{fC:List (Nat × Nat)}{s s':St}(h:eI c1 ops fC s=aa s'):eI c2 ops fC s=aa s':=by
 unfold eI at h ⊢;split at h
 ·exact cZ hc _ _ h
 ·split at h
  ·rename_i d b;simp only [nD hc _ _ b];exact h
  ·simp at h
theorem nw{fn:Nat}:∀(n x:Nat) (ro:Option Nat) (j:List ca) (s:St) {r:Option ak × St},n≤x →
  run c1 fn n ro j s=aa r→run c2 fn x ro j s=aa r
 | 0,_,_,_,_,_,_,h=>by simp [run]at h
 | n+1,0,_,_,_,_,E,_=>by omega
 | n+1,x+1,ro,j,s,r,E,h=>by
  have m:=fun ro j s r h=>nw (fn:=fn) n x ro j s (r:=r) (by omega) h
  match j,h with
  | [],h=>exact h| .inBlock _::k,h=>exact m _ _ _ _ h| .inLoop c::k,h=>exact m _ _ _ _ h
  | .fZ b::k,h=>
   simp only [run]at h ⊢;split at h
   ·rename_i f tmps ps as bd st pending d z
    try simp only [z]
    split at h
    ·simp at h
    ·rename_i A
     try simp only [A,if_false]
     split at h
     ·exact m _ _ _ _ h
     ·exact m _ _ _ _ h
     ·exact m _ _ _ _ h
     ·simp at h
   ·simp at h
  | .ke::k,h=>
   simp only [run]at h ⊢;split at h
   ·simp at h
   ·rename_i b;split at h
    ·rename_i z
     try simp only [z]
     exact m _ _ _ _ h
    ·simp at h
  | .code .skip::k,h=>exact m _ _ _ _ h| .inScope _::k,h=>exact m _ _ _ _ h| .code (.label _)::k,h=>exact m _ _ _ _ h| .code (.scope a)::k,h=>exact m _ _ _ _ h
  | .code (.goto l)::k,h=>
   simp only [run]at h ⊢;split at h
   ·rename_i u;(try simp only [u]);exact m _ _ _ _ h
   ·simp at h
  | .code .bad::_,h=>simp [run]at h| .code .ret::_,h=>exact h
  | .code (.exit id)::k,h=>
   simp only [run]at h ⊢;split at h
   ·rename_i u;(try simp only [u]);exact m _ _ _ _ h
   ·rename_i u;(try simp only [u]);exact h
  | .code (.seq a b)::k,h=>exact m _ _ _ _ h| .code (.block id a)::k,h=>exact m _ _ _ _ h| .code (.loop a)::k,h=>exact m _ _ _ _ h
  | .code (.cond c a b)::k,h=>
   simp only [run]at h ⊢;split at h
   ·rename_i v F;(try simp only [F]);exact m _ _ _ _ h
   ·simp at h
  | .code (.region ops fC)::k,h=>
   simp only [run]at h ⊢;split at h
   ·simp at h
   ·rename_i q
    try simp only [q]
    split at h
    ·rename_i I y
     try simp only [uO hc y]
     exact m _ _ _ _ h
    ·simp at h
  | .code (.dE f ps as bd)::k,h=>
   simp only [run]at h ⊢;split at h
   ·simp at h
   ·rename_i q
    try simp only [q]
    split at h
    ·rename_i g args B
     try simp only [B]
     split at h
     ·rename_i v H y
      try simp only [hc _ _ _ _ y]
      exact m _ _ _ _ h
     ·simp at h
    ·simp at h
theorem gu:∀(ds:List dm) (H:aj) {H':aj},cV c1 ds H=aa H'→cV c2 ds H=aa H'
 | [],H,H',h=>h
 | .hY b::ds,H,H',h=>by
  simp only [cV]at h ⊢;split at h
  ·rename_i l;exact gu ds _ h
  ·simp at h
 | .fn f args::ds,H,H',h=>by
  simp only [cV]at h ⊢;split at h
  ·simp at h
  rename_i d;rw [aU d];split at h
  ·rename_i v j g
   try simp only [hc _ _ _ _ g]
   exact gu ds _ h
  ·simp at h
end
variable{tab:Nat→Option aw}{lB:Nat→List V→aj→Option (Option (V × aj))}
theorem pV{m l:Nat}(v:m≤l):∀(d g:Nat),d≤g→th (dx tab lB m d) (dx tab lB l g)
 | 0,_,_,_,_,_,_,h=>by simp [dx]at h
 | d+1,0,E,_,_,_,_,_=>by omega
 | d+1,g+1,E,c,args,H,r,h=>by
  have z:th (dx tab lB m d) (dx tab lB l g):=pV v d g (by omega)
  match c,h with
  | .fn f,h=>
   simp only [dx]at h ⊢;split at h
   ·rename_i r' x;(try simp only [x]);exact h
   ·rename_i x
    try simp only [x]
    split at h
    ·simp at h
    ·rename_i I q
     try simp only [q]
     split at h
     ·rename_i u
      try simp only [u,if_true]
      split at h
      ·rename_i j s y
       try simp only [nw z m l _ _ _ v y]
       split at h
       ·rename_i F A
        try simp only [gu z _ _ A]
        exact h
       ·simp at h
      ·simp at h
     ·simp at h
  | .yield b,h=>
   simp only [dx]at h ⊢;split at h
   ·rename_i f tmps ps as bd J K L B
    try simp only [B]
    split at h
    ·rename_i u
     try simp only [u,if_true]
     split at h
     ·rename_i j s y
      try simp only [nw z m l _ _ _ v y]
      exact h
     ·simp at h
    ·simp at h
   ·simp at h
end
section
variable(tab:Nat→Option aw)
abbrev CF(m d:Nat):bQ:=dx tab (oA tab) m d
def Ev(c:Callee)(args:List V)(H:aj)(r:V)(H':aj):Prop:=∃ m d,CF tab m d c args H=aa (r,H')
def cB(f:Nat)(args:List V)(r:V):Prop:=∃ r0 H',Ev tab (.fn f) args [] r0 H'∧nE deep H' r0=aa r
def WP(fn:Nat)(ro:Option Nat)(b:List ca)(s:St)(Q:Option ak→St→Prop):Prop:=
 ∃ n m d j s',run (CF tab m d) fn n ro b s=aa (j,s')∧Q j s'
def jW(s:St)(op:cj)(K:V→St→Prop):Prop:=
 match op with
 | .call f args h=>
  if h then ∃ r H',Ev tab (.fn f) (cK s.al args) s.heap r H'∧K r { s with heap:=H' }
  else ∃ b r,aY (db deep s.heap) (cK s.al args)=aa b∧cB tab f b r∧K r { s with heap:=(cK s.al args).foldl (Md deep) s.heap }
 | .bH x args _=>∃ c as r H',bG (x.ev s.al) (cK s.al args)=aa (c,as)∧Ev tab c as s.heap r H'∧K r { s with heap:=H' }
 | .recover=>K (.c (.f .kG)) s| .defer x args=>∃ f as,bG (x.ev s.al) (cK s.al args)=aa (.fn f,as)∧K .top { s with defs:=.fn f as::s.defs }
 | op=>∃ v H',aW s.al s.heap op=aa (v,H')∧K v { s with heap:=H' }
def rz:List aH→St→(St→Prop)→Prop
 | [],s,K=>K s
 | o::os,s,K=>match wanted s.al o.g with
  | some ae=>jW tab s o.op fun v s'=>rz os { s' with al:=gK s'.al o.dst v } K
  | some ag=>rz os { s with al:=gK s.al o.dst (.t []) } K
  | none=>False
variable{tab}
variable{c:Callee}{args:List V}{H H':aj}{r:V}
theorem gT{m g d b:Nat}(l:m≤g)(j:d≤b):th (CF tab m d) (CF tab g b):=pV l d b j
theorem Ev.Uj{r2:V}{j:aj}(b:Ev tab c args H r H')(g:Ev tab c args H r2 j):r=r2∧H'=j:=by
 obtain⟨m,d,b⟩:=b;obtain⟨s,l,g⟩:=g;have u:=gT (tab:=tab) (acV m s) (acV d l) _ _ _ _ b;have q:=gT (tab:=tab) (acQ m s) (acQ d l) _ _ _ _ g;rw [u]at q;simpa using q
theorem cB.Uj{f:Nat}{r2:V}(g:cB tab f args r)(d:cB tab f args r2):r=r2:=by
 obtain⟨a,m,j,g⟩:=g;obtain⟨b,q,l,d⟩:=d;obtain⟨rfl,rfl⟩:=j.Uj l;rw [g]at d;simpa using d
theorem Cj{s:St}{u:cj}{K:V→St→Prop}(h:jW tab s u K):∃ m d v s',dO (CF tab m d) s u=aa (v,s')∧K v s':=by
 cases u with
 | call f args b=>
  simp only [jW]at h;split at h
  ·rename_i q;obtain⟨r,H',⟨m,d,g⟩,l⟩:=h;exact⟨m,d,r,_,by simp [dO,ff,q,g],l⟩
  ·rename_i q;obtain⟨z,r,j,⟨r0,H0,⟨m,d,g⟩,l⟩,y⟩:=h;exact⟨m,d,r,_,by simp [dO,ff,q,dD,j,g,l],y⟩
 | bH x args b=>
  obtain⟨c,as,r,H',j,⟨m,d,g⟩,l⟩:=h;exact⟨m,d,r,_,by simp [dO,j,g],l⟩
 | recover=>exact⟨0,0,_,_,rfl,h⟩
 | «defer» x args=>
  obtain⟨f,as,j,g⟩:=h;exact⟨0,0,.top,_,by simp [dO,j],g⟩
 | _=>
  obtain⟨v,H',j,g⟩:=h;exact⟨0,0,v,_,by simp [dO,j],g⟩
theorem gz:∀(os:List aH) (s:St) {K:St→Prop},rz tab os s K→∃ m d s',ej (CF tab m d) os s=aa s'∧K s'
 | [],s,K,h=>⟨0,0,s,rfl,h⟩
 | o::os,s,K,h=>by
  simp only [rz]at h;split at h
  ·rename_i q;obtain⟨m,d,v,A,y,z⟩:=Cj h;obtain⟨g,b,s',j,l⟩:=gz os _ z;refine⟨max m g,max d b,s',?_,l⟩;have u:=tc (gT (tab:=tab) (acV m g) (acV d b)) y;have x:=cZ (gT (tab:=tab) (acQ m g) (acQ d b)) os _ j;simp only [ej,eo,q,u,x]
  ·rename_i q;obtain⟨g,b,s',j,l⟩:=gz os _ h;exact⟨g,b,s',by simp only [ej,eo,q,j],l⟩
  ·exact h.elim
variable{fn:Nat}{ro:Option Nat}{k:List ca}{s:St}{Q:Option ak→St→Prop}{a b:ak}
theorem iX{g:List ca}{b:List ca}{s':St}(h:WP tab fn ro b s' Q)
  (u:∀ m d n,run (CF tab m d) fn (n+1) ro g s=run (CF tab m d) fn n ro b s'):WP tab fn ro g s Q:=by
 obtain⟨n,m,d,j,v,l,q⟩:=h;exact⟨n+1,m,d,j,v,by rw [u,l],q⟩
theorem eu(h:Q ab s):WP tab fn ro [] s Q:=⟨1,0,0,ab,s,rfl,h⟩
theorem az{i:Nat}(h:WP tab fn ro k s Q):WP tab fn ro (.inBlock i::k) s Q:=iX h fun _ _ _=>rfl
theorem CM(h:WP tab fn ro (.code a::.inLoop a::k) s Q):WP tab fn ro (.inLoop a::k) s Q:=iX h fun _ _ _=>rfl
theorem aO(h:WP tab fn ro k s Q):WP tab fn ro (.code .skip::k) s Q:=iX h fun _ _ _=>rfl
theorem JS{l:Nat}(h:WP tab fn ro k s Q):WP tab fn ro (.code (.label l)::k) s Q:=iX h fun _ _ _=>rfl
theorem v7(h:WP tab fn ro (.code a::.inScope a::k) s Q):WP tab fn ro (.code (.scope a)::k) s Q:=iX h fun _ _ _=>rfl
theorem aq(h:WP tab fn ro (.code a::.code b::k) s Q):WP tab fn ro (.code (.seq a b)::k) s Q:=iX h fun _ _ _=>rfl
theorem aB{i:Nat}(h:WP tab fn ro (.code a::.inBlock i::k) s Q):WP tab fn ro (.code (.block i a)::k) s Q:=iX h fun _ _ _=>rfl
theorem aG(h:Q (aa .ret) s):WP tab fn ro (.code .ret::k) s Q:=⟨1,0,0,aa .ret,s,rfl,h⟩
theorem ba{i:Nat}{k':List ca}(b:exitTo i k=aa k')(h:WP tab fn ro k' s Q):WP tab fn ro (.code (.exit i)::k) s Q:=
 iX h fun _ _ _=>by simp only [run,b]
theorem z8{c:Arg}{v:Bool}(hc:c.ev s.al=.c (.f (.bool v)))(h:WP tab fn ro (.code (if v then a else b)::k) s Q) :
  WP tab fn ro (.code (.cond c a b)::k) s Q:=iX h fun _ _ _=>by simp only [run,hc]
theorem an{c:Arg}(hc:c.ev s.al=.c (.f (.bool ae)))(h:WP tab fn ro (.code a::k) s Q) :
  WP tab fn ro (.code (.cond c a b)::k) s Q:=z8 hc h
theorem aD{c:Arg}(hc:c.ev s.al=.c (.f (.bool ag)))(h:WP tab fn ro (.code b::k) s Q) :
  WP tab fn ro (.code (.cond c a b)::k) s Q:=z8 hc h
theorem qT{m l d j n g:Nat}{b:List ca}{x:Option ak × St}(u:m≤l)(q:d≤j)(v:n≤g)
  (h:run (CF tab m d) fn n ro b s=aa x):run (CF tab l j) fn g ro b s=aa x:=
 nw (gT u q) n g ro b s v h
theorem au{ops:List aH}(g:ro=ab∨ops.all (·.op.dA)=ae)(h:rz tab ops s fun s'=>WP tab fn ro k s' Q) :
  WP tab fn ro (.code (.region ops [])::k) s Q:=by
 obtain⟨m,d,s',x,n,q,b,j,A,y,z⟩:=gz ops s h;refine⟨n+1,max m q,max d b,j,A,?_,z⟩;have u:=cZ (gT (tab:=tab) (acV m q) (acV d b)) ops _ x;have v:=qT (acQ m q) (acQ d b) (IT n) y;have l:(ro.isSome&&!ops.all (·.op.dA))=ag:=by
  rcases g with rfl | g
  ·rfl
  ·rw [g];simp
 simp only [run,l,eI,u,v];simp
theorem bu(I:Nat→St→Prop)(n:Nat)(g:I n s)
  (step:∀ n s,I n s→(∀ b s',b<n→I b s'→WP tab fn ro (.inLoop a::k) s' Q)→WP tab fn ro (.code a::.inLoop a::k) s Q) :
  WP tab fn ro (.code (.loop a)::k) s Q:=by
 have key:∀ n s,I n s→WP tab fn ro (.code a::.inLoop a::k) s Q:=by
  intro n;induction n using Nat.strongRecOn with
  | _ n m=>
   intro s l;exact step n s l fun b s' j d=>CM (m b j s' d)
 exact iX (key n s g) fun _ _ _=>rfl
def Fin(tab:Nat→Option aw)(g:aw)(r:V)(H':aj)(s:St):Prop:=
 ∃ m d b,cV (CF tab m d) s.defs s.heap=aa b∧results s.al b g.results=aa r∧b=H'
theorem qk{f:Nat}{b:aw}(A:tab f=aa b)(K:args.length=b.ps.length)
  (h:WP tab f ab [.code b.body] ⟨bP b.ps args .e,[],H⟩ fun _ s=>Fin tab b r H' s):Ev tab (.fn f) args H r H':=by
 obtain⟨n,m,d,j,s,F,B,x,N,I,J,rfl⟩:=h;obtain⟨M,q,u,v⟩:∃ M,m≤M∧B≤M∧n≤M:=⟨max (max m B) n,by omega,by omega,by omega⟩
 obtain⟨E,g,l⟩:∃ E,d≤E∧x≤E:=⟨max d x,by omega,by omega⟩
 refine⟨M,E+1,?_⟩;have y:run (CF tab M E) f M ab [.code b.body] ⟨bP b.ps args .e,[],H⟩=aa (j,s):=qT q g v F;have z:=gu (gT (tab:=tab) u l) _ _ I;have L:=sU A args H;simp only [CF]at y z ⊢;simp only [dx,L,A,K,if_true,y,z,J,ac8]
def rv(b:List fF)(r:V)(s:St):Prop:=s.defs=[]∧∃ r0,results s.al s.heap b=aa r0∧nE deep s.heap r0=aa r
theorem du{f:Nat}{ps:List P}{b:List fF}{body:ak}(y:tab f=aa ⟨ps,b,body⟩)(x:args.length=ps.length)
  (h:∀ Q:Option ak→St→Prop,(∀ j s,rv b r s→Q j s)→WP tab f ab [.code body] ⟨bP ps args .e,[],[]⟩ Q):cB tab f args r:=by
 have g:=h (fun _ s=>rv b r s) fun _ _ h=>h;obtain⟨n,m,d,j,s,l,v,r0,q,u⟩:=g;exact⟨r0,s.heap,qk y x ⟨n,m,d,j,s,l,0,0,s.heap,by rw [v];rfl,q,rfl⟩,u⟩
end
theorem ai{tab:Nat→Option aw}{fn:Nat}{ops:List aH}{b:ak}{k:List ca}{s:St}{Q:Option ak→St→Prop}(h:rz tab ops s fun s'=>WP tab fn ab (.code b::k) s' Q):WP tab fn ab (.code (.seq (.region ops []) b)::k) s Q:=aq (au (.inl rfl) h)
theorem bg{tab:Nat→Option aw}{fn:Nat}{ro:Option Nat}{a:ak}{c:Arg}{k:List ca}{s:St}{Q:Option ak→St→Prop}(hc:c.ev s.al=.c (.f (.bool ag)))(h:WP tab fn ro k s Q):WP tab fn ro (.code (.cond c a .skip)::k) s Q:=aD hc (aO h)
end Km
