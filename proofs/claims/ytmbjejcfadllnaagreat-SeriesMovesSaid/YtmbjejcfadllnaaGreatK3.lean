/-
  Our own small machine for Go code by value, held sf the model: part 3. No program in F0.
-/
import Derived.Test.YtmbjejcfadllnaaGreatK2
import Derived.Orders
import Derived.Test.YtmbjejcfadllnaaGreatK1
open Option renaming some → aa,none → ab
open Bool renaming true → ae,false → ag
open List renaming mem_filter → arI, all_eq_true → aqH, eq_nil_of_length_eq_zero → amu, mem_of_getElem? → api, getElem?_eq_getElem → At, getElem?_eq_some_iff → By, getElem?_set_ne → AT, getElem?_append_right → aqJ, getElem?_eq_none → arD, getElem?_drop → aqF, length_drop → aqG
open Bool renaming and_eq_true → BY, not_eq_true' → arP, false_eq_true → anc
open Option renaming map_some → aq2, map_eq_some_iff → If, map_map → arS
open Nat renaming le_refl → IT, le_of_ble_eq_true → ary, eq_of_beq_eq_true → arp, le_max_left → aqS, le_max_right → aqN
open Option.some renaming injEq → sh
open Prod.mk renaming injEq → IN
set_option linter.unusedVariables false
set_option linter.constructorNameAsVariable false
set_option linter.unusedSimpArgs false
set_option linter.unusedSectionVars false
set_option maxRecDepth 100000
namespace Km
open Go
section
variable{Q:Program}{σ:Nat→FuncId}{X:Wd}{call:cC}
variable{n:Nat}{ops:Array Oper}{aos:List aP}{gJ:List (Nat × Nat)}{st:Nat→St}
def LD(b:Array Bool)(j:Nat):Prop:=b.getD j ag=ae
theorem UH{b:Array Bool}{i:Nat}(hi:i<b.size):LD (b.setIfInBounds i ae)=fun j=>LD b j∨j=i:=by
 funext j;apply propext;unfold LD;by_cases h:i=j
 ·subst h;simp [hi]
 ·have:j≠i:=fun e=>h e.symm;simp [Array.getD_eq_getD_getElem?,Array.getElem?_setIfInBounds_ne h,this]
theorem DU{b:Array Bool}{i:Nat}(h:i ∈ Region.ready .any ops b):i<ops.size∧¬ LD b i∧∃ o,ops[i]?=aa o∧∀ e ∈ o.after.toList,Region.binds .any e=ae→LD b e.on:=by
 unfold Region.ready at h;simp only [arI,List.mem_range,BY,arP]at h;obtain⟨l,d,j⟩:=h;refine⟨l,fun g=>?_,?_⟩
 ·unfold LD at g;simp only [Array.getD_eq_getD_getElem?]at d g;cases m:b[i]? with
  | none=>rw [m]at d;simp at d| some v=>rw [m]at d g;simp at d g;rw [d]at g;simp at g
 ·have q:=Array.getElem?_eq_getElem l;rw [q]at j;simp only [aq2,Option.getD_some]at j;refine⟨ops[i],q,fun e u s=>?_⟩;rw [←Array.all_toList,aqH]at j;have:=j e u;simpa [s,LD]using this
theorem WW(l:Ord ops.toList aos gJ)(F:aos.length=ops.size){b:Array Bool}(B:b.size=ops.size){j:Nat}(z:j<ops.size)(y:¬ LD b j):Region.ready .any ops b≠[]:=by
 have key:∀ m,m<ops.size→¬ LD b m→∃ i,i ∈ Region.ready .any ops b:=by
  intro m;induction m using Nat.strongRecOn with
  | ind m E=>
   intro v g;have A:=Array.getElem?_eq_getElem v;by_cases d:∀ e ∈ ops[m].after.toList,Region.binds .any e=ae→LD b e.on
   ·refine⟨m,?_⟩;unfold Region.ready;simp only [arI,List.mem_range,BY,arP,A,aq2,Option.getD_some];refine⟨v,?_,?_⟩
    ·unfold LD at g;have u:m<b.size:=by omega
     simp [u]at g ⊢;exact g
    ·rw [←Array.all_toList,aqH];intro e s;by_cases q:Region.binds .any e=ae
     ·have:=d e s q;unfold LD at this;simp [this]
     ·simp [q]
   ·simp only [Classical.not_forall]at d;obtain⟨e,s,q,x⟩:=d;have:=l.back m ops[m] (by omega) (by simp [v]) e s q;exact E e.on this (by omega) x
 obtain⟨i,hi⟩:=key j z y;intro h;rw [h]at hi;simp at hi
theorem Vd(Y:eC Q σ call)(R:jm Q σ call n ops aos gJ st){b:Frame}{k:List Item}{cs:List Frame}(Z:iw b cs)(H:∀ y ∈ aos,fZ y.op b) :
  ∀(X0:Wd) (fuel t:Nat) (d:Array Bool) (U:List Nat) (E:Nat) (X:Wd) (a:Act),d.size=ops.size→U.Nodup→(∀ j,j<ops.size→(¬ LD d j↔j ∈ U))→U.length≤fuel→Inv Q σ X0 n ops aos st (LD d) E X a →
  ∃ q z X' a',Steps Q (lone (b.atR a (.inRegion ops (Region.linearise.go .any ops fuel t d [])::k)) cs X.w) (lone (b.atR a' k) cs X'.w)∧Inv Q σ X0 n ops aos st q z X' a'∧(∀ j,j<ops.size→q j)∧a'.tmps.size=a.tmps.size:=by
 have u:aos.length=ops.size:=by have:=(eb R.afJ).len;simpa using this.symm
 intro X0 fuel;induction fuel with
 | zero=>
  intro t d U E X a m B l F A;refine⟨LD d,E,X,a,?_,A,fun j s=>?_,rfl⟩
  ·simp only [Region.linearise.go,List.reverse_nil];exact .one stepR_region_end
  ·have g:U=[]:=amu (by omega);refine Classical.byContradiction fun h=>?_;have:=(l j s).1 h;rw [g]at this;simp at this
 | succ fuel ih=>
  intro t d U E X a m B l F A;simp only [Region.linearise.go];change ∃ q z X' a',Steps Q (lone (b.atR a (.inRegion ops (match (Region.ready .any ops d)[t % (Region.ready .any ops d).length]? with
   | some i=>Region.linearise.go .any ops fuel (t / (Region.ready .any ops d).length) (d.setIfInBounds i ae) [i]
   | none=>[].reverse)::k)) cs X.w) _∧_
  cases hi:(Region.ready .any ops d)[t % (Region.ready .any ops d).length]? with
  | none=>
   have g:Region.ready .any ops d=[]:=by
    cases hr:Region.ready .any ops d with
    | nil=>rfl
    | cons x xs=>
     rw [hr]at hi;have a8:t % (x::xs).length<(x::xs).length:=Nat.mod_lt _ (by simp);rw [List.getElem?_eq_none_iff]at hi;omega
   refine⟨LD d,E,X,a,?_,A,fun j s=>?_,rfl⟩
   ·exact .one stepR_region_end
   ·exact Classical.byContradiction fun h=>WW R.ord u m s h g
  | some i=>
   simp only [];rw [linearise_go_acc,List.reverse_singleton,List.singleton_append];obtain⟨r1,r2,o,r3,r4⟩:=DU (api hi);have hy:=At (show i<aos.length by omega);have hr:jk ops aos (LD d) i o aos[i]:=⟨r3,hy,r2,r4⟩
   obtain⟨z,J,a1,M,I,N⟩:=R.ac1 Y A hr (b:=b) (rest:=Region.linearise.go .any ops fuel (t / (Region.ready .any ops d).length) (d.setIfInBounds i ae) []) (k:=k) (cs:=cs) Z (H _ (List.getElem_mem _));rw [←UH (by omega)]at I;have v:i ∈ U:=(l i r1).1 r2;obtain⟨q,E2,K,L,k1,k2,k3,k5⟩:=ih (t / (Region.ready .any ops d).length) (d.setIfInBounds i ae) (U.erase i) z J a1 (by simpa using m) (B.erase i)
    (fun j s=>by
     rw [B.mem_erase_iff,←l j s,UH (by omega)];constructor
     ·intro h;exact⟨fun e=>h (.inr e),fun O=>h (.inl O)⟩
     ·rintro⟨S,W⟩ (h | h)
      ·exact W h
      ·exact S h)
    (by rw [List.length_erase_of_mem v];omega) I
   exact⟨q,E2,K,L,M.trans k1,k2,k3,k5.trans N⟩
theorem Ve(hC:eC Q σ call)(u:Q.follows .mixedOrders=ae)(R:jm Q σ call n ops aos gJ st){b:Frame}{k:List Item}{cs:List Frame}(hk:iw b cs)(M:∀ y ∈ aos,fZ y.op b){X:Wd}{a:Act}(g:Fr Q σ n X (st 0) a)(id:Nat) :
  ∃ X' a',Steps Q (lone (b.atR a (.code (.region id ops ae)::k)) cs X.w) (lone (b.atR a' k) cs X'.w)∧Fr Q σ n X' (st aos.length) a'∧Ext X.H.length X X'∧a'.tmps.size=a.tmps.size:=by
 have Z:aos.length=ops.size:=by have:=(eb R.afJ).len;simpa using this.symm
 let X0:Wd:={ X with w:={ X.w with drawn:=X.w.drawn+1 } }
 have A:Ext X.H.length X X0:=
  {B:=rfl,F:=fun _ _ h=>h,oa:=fun _ _ h=>.inl h,fw:=fun _ _ _=>rfl,bY:=fun b _ bq J=>⟨bq,J,by cases bq<;>simp [X0]⟩
   wT:=fun b L h=>.inl ⟨b,L,h,rfl⟩,size:=IT _,os:=rfl,tape:=rfl,output:=rfl,frame:=fun _ _ _=>rfl }
 have I:SR Q σ X0:=by
  refine⟨fun b L J=>?_,g.sr.inj,g.sr.fb⟩;obtain⟨q,s,bq,U,W⟩:=g.sr.br b L J;exact⟨q,s,bq,U,BR.ext Q σ A rfl (fun _ h=>h) W⟩
 obtain⟨p1,p2,p3,p4⟩:=nI (aos:=aos) (i:=0) (by omega);obtain⟨q1,q2⟩:=R.cM _ p1 p2 p4;have E:X0.H=(st 0).heap:=g.heap;rw [←E]at q1;obtain⟨k1,k2⟩:=SR.ahead I q1;have m:Ext X.H.length X { X0 with H:=(st (phase aos 0)).heap }:=A.trans k2;have d:∀ j,¬ LD (Array.replicate ops.size ag) j:=fun j h=>by
  unfold LD at h;simp only [Array.getD_eq_getD_getElem?,Array.getElem?_replicate]at h;split at h<;>simp at h
 have hI:Inv Q σ { X0 with H:=(st (phase aos 0)).heap } n ops aos st (LD (Array.replicate ops.size ag)) (phase aos 0) { X0 with H:=(st (phase aos 0)).heap } a:=by
  refine⟨fun j o h=>absurd h (d j),fun j h=>absurd h (d j),p2,p3,d _,fun j q s=>absurd q (p4 j (Nat.zero_le _) s),rfl,Ext.refl _ _,k1,g.b,by rw [q2];exact g.defs.ext' m,g.size,
   fun p=>⟨0,Nat.zero_le _,.inl (VR.ext' σ m (g.az p)),fun j y _ _=>⟨fun h=>by omega,fun h=>absurd h (d j)⟩⟩,fun j y q _ U W h5=>?_⟩
  show X.bW _=ab;have a8:=(R.cM j (Nat.zero_le _) (by omega) fun k q s=>p4 k q (by omega)).1.len;cases v:X.bW (st j).heap.length with
  | none=>rfl| some L=>have:=SR.lt g.sr v;rw [g.heap]at this;omega
 obtain⟨D',O,X',a',g1,l,S,g5⟩:=Vd hC R hk M (k:=k) { X0 with H:=(st (phase aos 0)).heap } ops.size (X.w.tape X.w.drawn (.order b.fn id)) (Array.replicate ops.size ag) (List.range ops.size) (phase aos 0) { X0 with H:=(st (phase aos 0)).heap } a (by simp) List.nodup_range
  (fun j hj=>⟨fun _=>by simpa using hj,fun _=>d j⟩) (by simp) hI
 have Y:O=aos.length:=by
  rcases l.eW with h | ⟨z,N,_⟩
  ·exact h
  ·exact absurd (S O (by have:=(By.1 N).1;omega)) l.eD
 subst Y;refine⟨X',a',.head stepR_region_draw ?_,⟨l.heap,l.sr,l.b,fun p=>?_,l.defs,l.size⟩,m.trans (l.ext.mono (m.len)),g5⟩
 ·simp only [Region.schedule,u,Bool.true_or,if_true];exact g1
 ·obtain⟨K,hK,x,hw⟩:=l.Xe p;have x:VR σ X' ((st K).az.get p) (a'.tmps.getD p.toNat undef):=by
   rcases x with x | ⟨z,zs,c,_,Y,N,_⟩
   ·exact x
   ·have:=(By.1 N).1;omega
  rw [←R.kT aos.length hK (IT _) fun j y q s hy hd=>?_]
  ·exact x
  ·have:=(hw j y hy hd).2 (S j (by omega));omega
end
section
variable{Q:Program}{σ:Nat→FuncId}{X:Wd}{call:cC}
theorem AX{b:Type}{f:b→b→Bool}(d:∀ x y,f x y=ae→x=y):∀ {xs ys:List b},kZ f xs ys=ae→xs=ys
 | [],[],_=>rfl
 | x::xs,y::ys,h=>by
  simp only [kZ,BY]at h;rw [d x y h.1,AX d h.2]
 | [],_::_,h=>by simp [kZ]at h
 | _::_,[],h=>by simp [kZ]at h
theorem FC.beq_eq:∀(n:Nat) (a b:FC),FC.beq n a b=ae→a=b:=by
 intro n;induction n with
 | zero=>
  intro a b h;cases a<;>cases b<;>simp_all [FC.beq]
 | succ n d=>
  intro a b h;cases a<;>cases b<;>simp_all [FC.beq]
  all_goals exact AX d h.2
theorem C.beq_eq{a b:C}(h:a.beq b=ae):a=b:=by
 cases a<;>cases b<;>simp_all [C.beq];exact FC.beq_eq _ _ _ h
theorem V.beq_eq{a b:V}(h:a.beq b=ae):a=b:=by
 cases a<;>cases b<;>simp only [V.beq,anc]at h
 ·rw [C.beq_eq h]
 ·rename_i xs ys;simp only [BY,beq_iff_eq,aqH]at h
  congr 1
  refine List.ext_getElem h.1 fun i d g=>C.beq_eq (h.2 (xs[i],ys[i]) ?_);exact api (i:=i) (by rw [List.getElem?_zip_eq_some];exact⟨At d,At g⟩)
theorem xB:∀ {aos:List aP} {s s':St},fe call aos s=aa s'→∃ b:List St,dv call aos s=aa b∧b.getLast?=aa s'
 | [],s,s',h=>by simp only [fe,sh]at h;subst h;exact⟨[s],rfl,rfl⟩
 | o::os,s,s',h=>by
  simp only [fe]at h;split at h
  ·rename_i l g;obtain⟨b,j,d⟩:=xB h;refine⟨s::b,by simp [dv,g,j],?_⟩;cases b with
   | nil=>simp at d| cons x xs=>simpa using d
  ·simp at h
theorem mz:∀ {aos:List aP} {s:St} {b:List St},dv call aos s=aa b→b.length=aos.length+1∧b[0]?=aa s ∧
  ∀ i y,aos[i]?=aa y→∃ u v,b[i]?=aa u∧b[i+1]?=aa v∧fj call u y=aa v
 | [],s,b,h=>by
  simp only [dv,sh]at h;subst h;exact⟨rfl,rfl,fun i y h=>by simp at h⟩
 | o::os,s,b,h=>by
  simp only [dv]at h;split at h
  ·rename_i x m;split at h
   ·rename_i z q;simp only [sh]at h;subst h;obtain⟨g,j,l⟩:=mz q;refine⟨by simp [g],rfl,fun i y d=>?_⟩;cases i with
    | zero=>
     simp only [List.getElem?_cons_zero,sh]at d;subst d;exact⟨s,x,rfl,by simpa using j,m⟩
    | succ i=>simpa using l i y (by simpa using d)
   ·simp at h
  ·simp at h
theorem uI:∀ {aos:List aP} {s:St} {b:List St} {s':St},dv call aos s=aa b→b.getLast?=aa s'→fe call aos s=aa s'
 | [],s,b,s',h,d=>by simp only [dv,sh]at h;subst h;simpa [fe]using d
 | o::os,s,b,s',h,d=>by
  simp only [dv]at h;split at h
  ·rename_i m l;split at h
   ·rename_i g j;simp only [sh]at h;subst h;have:=(mz j).1;simp only [fe,l];refine uI j ?_;cases g with
    | nil=>simp at this| cons x xs=>simpa using d
   ·simp at h
  ·simp at h
theorem KX(S:eC Q σ call)(A:Q.follows .mixedOrders=ae){n:Nat}{id:Nat}{ops:Array Oper}{g:Bool}{aos:List aP}{gJ:List (Nat × Nat)}(W:bT Q σ n (.region id ops g) (.region aos gJ)=ae)
  {b:Frame} {k:List Item} {cs:List Frame} (U:iw b cs) (B:∀ y ∈ aos,fZ y.op b) {X:Wd} {a:Act} {s s':St} (K:Fr Q σ n X s a) (h:fE call aos gJ s=aa s') :
  ∃ X' a',Steps Q (lone (b.atR a (.code (.region id ops g)::k)) cs X.w) (lone (b.atR a' k) cs X'.w)∧Fr Q σ n X' s' a'∧Ext X.H.length X X'∧a'.tmps.size=a.tmps.size:=by
 simp only [bT,BY,Bool.or_eq_true,arP]at W;obtain⟨l,E⟩:=W;obtain⟨j,O,J,h3⟩:∃ j:List St,dv call aos s=aa j∧j.getLast?=aa s'∧∀ c ∈ gJ,sameAt aos j c=ae:=by
  unfold fE at h;split at h
  ·obtain⟨j,q,x⟩:=xB h;exact⟨j,q,x,by simp⟩
  ·split at h
   ·rename_i j L;split at h
    ·rename_i z;exact⟨j,L,h,aqH.1 z⟩
    ·simp at h
   ·simp at h
 cases g with
 | false=>
  obtain⟨X',a',q,x⟩:=F' S U (k:=k) aos 0 X s s' a K (by simpa using l) B (uI O J);exact⟨X',a',.head stepR_region (by simpa using q),x⟩
 | true=>
  obtain⟨q,x,g3⟩:=mz O
  let st:Nat→St:=fun i=>j.getD i s
  have d:∀ i u,j[i]?=aa u→st i=u:=fun i u hu=>by simp [st,List.getD_eq_getElem?_getD,hu]
  have R:jm Q σ call n ops aos gJ st:=by
   refine⟨l,KG (E.resolve_left (by simp)),fun i y M=>?_,fun i e y hc M Y=>?_⟩
   ·obtain⟨u,v,F,H,I⟩:=g3 i y M;rw [d _ _ F,d _ _ H];exact I
   ·have m:=h3 _ hc;simp only [sameAt,M]at m;split at m
    ·rename_i o s1 s2 F H I;cases F;rw [d _ _ H]at Y ⊢;rw [d _ _ I];rw [Y]at m;simp only at m;split at m
     ·rename_i v x1 v' x2 Z N;rw [←V.beq_eq m]at N;exact⟨v,x1,x2,Z,N⟩
     ·simp at m
    ·simp at m
  have h0:st 0=s:=d 0 s x;have hN:st aos.length=s':=d _ _ (by rw [List.getLast?_eq_getElem?,q]at J;simpa using J);rw [←h0]at K;rw [←hN];exact Ve S A R U B K id
end
section
variable{Q:Program}{σ:Nat→FuncId}{X:Wd}{call:cC}
def DI(X:Wd)(b:Nat):Prop:=∃ f t p a c s q d,X.H[b]?=aa (.lp f t p a c s q d)
theorem DI.ext{X X':Wd}(m:Ext X.H.length X X'){b:Nat}(h:DI X b):DI X' b∧∀ L,X.bW b=aa L→X'.bW b=aa L:=by
 obtain⟨f,t,p,a,c,s,q,d,j⟩:=h;obtain⟨blk',g,l⟩:=m.bY b (By.1 j).1 _ j;cases blk'<;>simp only at l;exact⟨⟨_,_,_,_,_,_,_,_,g⟩,l.2⟩
inductive gk(Q:Program)(σ:Nat→FuncId)(n:Nat)(X:Wd):cd→Item→Prop
 | code {a:av} {c:Code} (h:bT Q σ n c a=ae):gk Q σ n X (.code a) (.code c)
 | inBlock (id:Nat):gk Q σ n X (.inBlock id) (.inBlock id)
 | inLoop {a:av} {c:Code} (h:bT Q σ n c a=ae):gk Q σ n X (.inLoop a) (.inLoop c)
 | ib {b:Nat} {L:Loc} (h:X.bW b=aa L) (hl:DI X b):gk Q σ n X (.ib b) (.endRangeFunc L.c)
 | lQ:gk Q σ n X .lQ .beginRound
 | inScope {a:av} {c:Code} (h:bT Q σ n c a=ae) (hs:kW a=ae):gk Q σ n X (.inScope a) (.inScope c)
theorem gk.ext{n:Nat}{X X':Wd}(d:Ext X.H.length X X'){x:cd}{y:Item}(h:gk Q σ n X x y):gk Q σ n X' x y:=by
 cases h with
 | code h=>exact .code h| inBlock id=>exact .inBlock id| inLoop h=>exact .inLoop h| ib h b=>exact .ib ((b.ext d).2 _ h) (b.ext d).1| lQ=>exact .lQ| inScope h g=>exact .inScope h g
def RoR(X:Wd):Option Nat→Option Nat→Prop
 | none,ab=>True| some b,aa l=>∃ L,X.bW b=aa L∧L.c=l∧DI X b| _,_=>False
theorem RoR.ext{X X':Wd}(g:Ext X.H.length X X'){ro b:Option Nat}(h:RoR X ro b):RoR X' ro b:=by
 cases ro<;>cases b<;>simp only [RoR]at h ⊢;obtain⟨L,j,l,d⟩:=h;exact⟨L,(d.ext g).2 _ j,l,(d.ext g).1⟩
theorem wL{n:Nat}(id:Nat):∀(k:List cd) (ks:List Item),A2 (gk Q σ n X) k ks →
  match Km.exitTo id k with
  | some k'=>∃ b,Go.exitTo id ks=aa b∧A2 (gk Q σ n X) k' b| none=>Go.exitTo id ks=ab
 | [],ks,h=>by
  have:ks=[]:=amu h.len.symm;subst this;rfl
 | x::k,[],h=>by have:=h.len;simp at this
 | x::k,y::ks,h=>by
  obtain⟨m,g⟩:=h.of_cons;have l:=wL id k ks g;cases m with
  | inBlock d=>
   simp only [Km.exitTo,Go.exitTo];by_cases j:(d == id)=ae
   ·simp only [j,if_true];exact⟨ks,rfl,g⟩
   ·simp only [j,anc,if_false];exact l
  | _=>exact l
theorem yy{n:Nat}(l:Nat):∀(a:av) (c:Code),bT Q σ n c a=ae→kW a=ae →
  match Km.findLabel a l with
  | some r=>∃ r',Go.findLabel c l=aa r'∧bT Q σ n r' r=ae| none=>Go.findLabel c l=ab:=by
 intro a;induction a with
 | seq a b m q=>
  intro c h g;simp only [kW,BY]at g;cases c with
  | seq c d=>
   simp only [bT,BY]at h;have j:=m c h.1 g.1;simp only [Km.findLabel,Go.findLabel];cases u:Km.findLabel a l with
   | some r=>
    rw [u]at j;obtain⟨r',v,x⟩:=j;simp only [v];exact⟨_,rfl,by simp [bT,x,h.2]⟩
   | none=>
    rw [u]at j;simp only [j];exact q d h.2 g.2
  | _=>simp [bT]at h
 | label z=>
  intro c h _;cases c with
  | label y=>
   simp only [bT,beq_iff_eq]at h;subst h;simp only [Km.findLabel,Go.findLabel];by_cases s:(y == l)=ae
   ·simp only [s,if_true];exact⟨_,rfl,by simp [bT]⟩
   ·simp only [s,anc,if_false]
  | _=>simp [bT]at h
 | bad=>intro c h g;simp [kW]at g| _=>intro c h _;cases c<;>simp_all [bT,Km.findLabel,Go.findLabel]
theorem wP{n:Nat}(l:Nat):∀(k:List cd) (ks:List Item),A2 (gk Q σ n X) k ks →
  match Km.gotoIn l k with
  | some k'=>∃ b,Go.gotoIn l ks=aa b∧A2 (gk Q σ n X) k' b| none=>Go.gotoIn l ks=ab
 | [],ks,h=>by
  have:ks=[]:=amu h.len.symm;subst this;rfl
 | x::k,[],h=>by have:=h.len;simp at this
 | x::k,y::ks,h=>by
  obtain⟨u,g⟩:=h.of_cons;have s:=wP l k ks g;cases u with
  | inScope m q=>
   rename_i a c;have d:=yy (Q:=Q) (σ:=σ) l a c m q;simp only [Km.gotoIn,Go.gotoIn];cases j:Km.findLabel a l with
   | some r=>
    rw [j]at d;obtain⟨r',v,z⟩:=d;simp only [v];exact⟨_,rfl,A2.cons (.code z) (A2.cons (.inScope m q) g)⟩
   | none=>
    rw [j]at d;simp only [d];exact s
  | _=>exact s
def aef:Option av→List Item→Prop
 | none,b=>b=[]| some .ret,b=>∃ k,b=.code .ret::k| some (.exit id),b=>∃ k,b=.code (.exit id)::k∧Go.exitTo id k=ab| _,_=>False
end
section
variable{Q:Program}{σ:Nat→FuncId}{X:Wd}{call:cC}
theorem oK{b:Nat}{L:Loc}(x:SR Q σ X)(v:X.bW b=aa L){f:Nat}{t:T}{ps:List P}{as bd:av}{q:fP}{g:Option av}{d:Nat}(y:X.H[b]?=aa (.lp f t ps as bd q g d)) :
  ∃(n:Nat) (us:Array Value) (m:Array Tmp) (as' j:Code) (pend':Option Code) (u:Loc),
   X.w.heap[L.c]?=aa (.loop { state:=q.of,pending:=pend',fn:=σ f,tmps:=us,params:=m,assign:=as',body:=j,defers:=u.c }) ∧
   n≤us.size∧RR σ X t us∧fy (fun p (q:P)=>q.toNat == p&&decide (p<n)) m.toList ps=ae∧bT Q σ n as' as=ae∧bT Q σ n j bd=ae∧xc Q σ n g pend'∧X.bW d=aa u∧∃ o,X.H[d]?=aa (.jF o):=by
 obtain⟨_,_,bq,l,s⟩:=x.br b L v;rw [y]at l;cases l;exact s
theorem zw(J:SR Q σ X){b:Nat}{L:Loc}(I:X.bW b=aa L){f:Nat}{t:T}{ps:List P}{as bd:av}{q q':fP}{y pend1:Option av}{d:Nat}(s:X.H[b]?=aa (.lp f t ps as bd q y d))
  {n:Nat} {us:Array Value} {j:Array Tmp} {as' g:Code} {pend':Option Code} {u:Loc}
  (O:n≤us.size) (S:RR σ X t us) (U:fy (fun p (q:P)=>q.toNat == p&&decide (p<n)) j.toList ps=ae) (W:bT Q σ n as' as=ae) (Y:bT Q σ n g bd=ae) (Z:xc Q σ n pend1 pend') (a:X.bW d=aa u) (z:∃ o,X.H[d]?=aa (.jF o)) :
  SR Q σ { X with H:=X.H.set b (.lp f t ps as bd q' pend1 d),w:=X.w.putObj L.c (.loop { state:=q'.of,pending:=pend',fn:=σ f,tmps:=us,params:=j,assign:=as',body:=g,defers:=u.c }) } ∧
  Ext X.H.length X { X with H:=X.H.set b (.lp f t ps as bd q' pend1 d),w:=X.w.putObj L.c (.loop { state:=q'.of,pending:=pend',fn:=σ f,tmps:=us,params:=j,assign:=as',body:=g,defers:=u.c }) }:=by
 obtain⟨m,r,k,M,N,i,K,v,_⟩:=oK J I s;have A:b<X.H.length:=(By.1 s).1;refine SR.pP (o':=.loop { state:=q'.of,pending:=pend',fn:=σ f,tmps:=us,params:=j,assign:=as',body:=g,defers:=u.c }) (blk':=.lp f t ps as bd q' pend1 d) J s I v (by simp) (by simp)
  (fun bq l=>⟨.lp f t ps as bd q' pend1 d,by simp [A],by rw [s]at l;cases l;exact⟨⟨rfl,rfl,rfl,rfl,rfl,rfl⟩,fun L h=>h⟩⟩)
  (fun X' F E _ x c=>?_)
 obtain⟨o,z⟩:=z;refine⟨n,us,j,as',g,pend',u,E,O,RR.ext' σ F S,U,W,Y,Z,by rw [x];exact a,o,?_⟩;have B:b≠d:=fun e=>by rw [e,z]at s;cases s
 rw [c,AT B];exact z
end
section
variable{Q:Program}{σ:Nat→FuncId}{call:cC}
structure Way(Q:Program)(σ:Nat→FuncId)(fn:Nat)(n:Nat)(b:Frame)(cs:List Frame)(ro:Option Nat)(todo:List cd)(items:List Item)(s:St)(X:Wd)(a:Act):Prop where
 fr:Fr Q σ n X s a
 items:A2 (gk Q σ n X) todo items
 ro:RoR X ro b.roundOf
 kind:iw b cs
 fn:b.fn=σ fn
theorem Way.ext{fn n:Nat}{b:Frame}{cs:List Frame}{ro:Option Nat}{j:List cd}{items:List Item}{s s':St}{X X':Wd}{a a':Act}(h:Way Q σ fn n b cs ro j items s X a){g:List cd}{d:List Item}(l:Ext X.H.length X X')(m:Fr Q σ n X' s' a')
  (hi:A2 (gk Q σ n X) g d):Way Q σ fn n b cs ro g d s' X' a':=
 ⟨m,hi.kr fun _ _ h=>h.ext l,h.ro.ext l,h.kind,h.fn⟩
theorem Way.to{fn n:Nat}{b:Frame}{cs:List Frame}{ro:Option Nat}{j:List cd}{items:List Item}{s:St}{X:Wd}{a:Act}(h:Way Q σ fn n b cs ro j items s X a){g:List cd}{d:List Item}
  (hi:A2 (gk Q σ n X) g d):Way Q σ fn n b cs ro g d s X a:=⟨h.fr,hi,h.ro,h.kind,h.fn⟩
def ahU(Q:Program)(σ:Nat→FuncId)(call:cC)(fn m:Nat):Prop:=
 ∀(n:Nat) (b:Frame) (cs:List Frame) ro l g s X a j s',run call fn m ro l s=aa (j,s')→Way Q σ fn n b cs ro l g s X a →
  ∃ X' a' d,Steps Q (lone (b.atR a g) cs X.w) (lone (b.atR a' d) cs X'.w)∧Fr Q σ n X' s' a'∧Ext X.H.length X X'∧a'.tmps.size=a.tmps.size∧aef j d
theorem vI{b:Frame}{a:Act}{k:List Item}{cs:List Frame}{w:World}{body:Code}:step Q (lone (b.atR a (.inScope body::k)) cs w)=.next (lone (b.atR a k) cs w):=
 step_lone_go (by simp [stepG,stepG.exec,Frame.atR])
theorem Cl{b:Frame}{a:Act}{k:List Item}{cs:List Frame}{w:World}{body:Code}:step Q (lone (b.atR a (.code (.scope body)::k)) cs w)=.next (lone (b.atR a (.code body::.inScope body::k)) cs w):=
 step_lone_go (by simp [stepG,stepG.exec,Frame.atR])
theorem W4(hC:eC Q σ call)(g_:Q.follows .mixedOrders=ae)(fn:Nat):∀ m,ahU Q σ call fn m:=by
 intro m;induction m with
 | zero=>intro n b cs ro c9 I s X a F s' h;simp [run]at h
 | succ m ih=>
  intro n b cs ro c9 I s X a F s' h z;have go:∀ {B j},run call fn m ro B s=aa (F,s')→A2 (gk Q σ n X) B j→step Q (lone (b.atR a I) cs X.w)=.next (lone (b.atR a j) cs X.w) →
    ∃ X' a' j,Steps Q (lone (b.atR a I) cs X.w) (lone (b.atR a' j) cs X'.w)∧Fr Q σ n X' s' a'∧Ext X.H.length X X'∧a'.tmps.size=a.tmps.size∧aef F j:=by
   intro B j hr hi S;obtain⟨X',a',it,g1,M⟩:=ih n b cs ro B j s X a F s' hr (z.to hi);exact⟨X',a',it,.head S g1,M⟩
  cases c9 with
  | nil=>
   have:I=[]:=amu z.items.len.symm;subst this;simp only [run,sh,IN]at h;obtain⟨rfl,rfl⟩:=h;exact⟨X,a,[],Steps.refl _ _,z.fr,Ext.refl _ _,rfl,rfl⟩
  | cons x k=>
   cases I with
   | nil=>have:=z.items.len;simp at this
   | cons it ks=>
    obtain⟨hx,A⟩:=z.items.of_cons;cases hx with
    | inBlock id=>exact go (by simpa [run]using h) A stepR_inBlock
    | inLoop E=>exact go (by simpa [run]using h) (A2.cons (.code E) (A2.cons (.inLoop E) A)) stepR_inLoop
    | inScope E hs=>exact go (by simpa [run]using h) A vI
    | ib hb hl=>
     rename_i bb L;simp only [run]at h;split at h
     ·rename_i f t ps as bd q b_ d J;split at h
      ·simp at h
      ·rename_i hq;rw [←z.fr.heap]at J;obtain⟨m0,us,Z,as',U,pend',Ld,a_,h2,h3,h4,h5,h6,W,h8,h9⟩:=oK z.fr.sr hb J;obtain⟨g1,M⟩:=zw z.fr.sr hb J (q':=.exhausted) h2 h3 h4 h5 h6 W h8 h9;have m7:(q.of)≠LoopState.busy:=by cases q<;>simp [fP.of]at hq ⊢
       have S:=stepR_endRangeFunc (P:=Q) (b:=b) (a:=a) (k:=ks) (cs:=cs) (run_endLoop (P:=Q) a_ m7);have key:∀ {B j},run call fn m ro B { s with heap:=s.heap.set bb (.lp f t ps as bd .exhausted b_ d) }=aa (F,s')→A2 (gk Q σ n X) B j→j=(pend'.map Item.code).toList++ks →
         ∃ X' a' j,Steps Q (lone (b.atR a (.endRangeFunc L.c::ks)) cs X.w) (lone (b.atR a' j) cs X'.w)∧Fr Q σ n X' s' a'∧Ext X.H.length X X'∧a'.tmps.size=a.tmps.size∧aef F j:=by
        intro B j hr hi he;obtain⟨X',a',it,k1,k2,k3,k4,k5⟩:=ih n b cs ro B j _ _ a F s' hr (z.ext (a':=a) M ⟨by rw [←z.fr.heap],g1,by simpa [World.putObj]using z.fr.b,z.fr.az.ext' σ M,z.fr.defs.ext' M,z.fr.size⟩ hi);rw [he]at k1;exact⟨X',a',it,.head S k1,k2,M.trans (k3.mono M.len),k4,k5⟩
       split at h
       ·cases pend' with
        | none=>exact key h A rfl| some c=>exact W.elim
       ·cases pend' with
        | none=>exact W.elim
        | some c=>
         have W:bT Q σ m0 c .ret=ae:=W;cases c<;>simp [bT]at W;exact key h (A2.cons (.code (by simp [bT])) A) rfl
       ·rename_i id;cases pend' with
        | none=>exact W.elim
        | some c=>
         have W:bT Q σ m0 c (.exit id)=ae:=W;cases c<;>simp [bT]at W;subst W;exact key h (A2.cons (.code (by simp [bT])) A) rfl
       ·simp at h
     ·simp at h
    | lQ=>
     simp only [run]at h;split at h
     ·simp at h
     ·rename_i bb;split at h
      ·rename_i f t ps as bd b_ d J;have K:=z.ro;cases d6:b.roundOf with
       | none=>rw [d6]at K;exact K.elim
       | some l=>
        rw [d6]at K;obtain⟨L,hL,rfl,_⟩:=K;rw [←z.fr.heap]at J;obtain⟨m0,us,Z,as',U,pend',Ld,a_,h2,h3,h4,h5,h6,W,h8,h9⟩:=oK z.fr.sr hL J;obtain⟨g1,M⟩:=zw z.fr.sr hL J (q':=.busy) h2 h3 h4 h5 h6 W h8 h9;have S:=stepR_beginRound (P:=Q) (b:=b) (a:=a) (k:=ks) (cs:=cs) d6 (run_beginRound (P:=Q) a_ rfl);obtain⟨X',a',it,k1,k2,k3,k4,k5⟩:=ih n b cs _ k ks _ _ a F s' h (z.ext (a':=a) M ⟨by rw [←z.fr.heap],g1,by simpa [World.putObj]using z.fr.b,z.fr.az.ext' σ M,z.fr.defs.ext' M,z.fr.size⟩ A);exact⟨X',a',it,.head S k1,k2,M.trans (k3.mono M.len),k4,k5⟩
      ·simp at h
    | code E=>
     rename_i ac c;cases ac with
     | bad=>simp [run]at h| skip=>cases c<;>simp [bT]at E;exact go (by simpa [run]using h) A stepR_skip
     | label l=>cases c<;>simp [bT]at E;exact go (by simpa [run]using h) A stepR_label
     | scope p=>
      cases c<;>simp [bT]at E;exact go (by simpa [run]using h) (A2.cons (.code E.1) (A2.cons (.inScope E.1 E.2) A)) Cl
     | goto l=>
      cases c<;>simp [bT]at E;subst E;rename_i l';have O:=wP (Q:=Q) (σ:=σ) (n:=n) (X:=X) l' k ks A;simp only [run]at h;split at h
      ·rename_i k' H;rw [H]at O;obtain⟨n9,he,a9⟩:=O;exact go h a9 (stepR_goto he)
      ·simp at h
     | ret=>
      cases c<;>simp [bT]at E;simp only [run,sh,IN]at h;obtain⟨rfl,rfl⟩:=h;exact⟨X,a,_,Steps.refl _ _,z.fr,Ext.refl _ _,rfl,ks,rfl⟩
     | seq p q=>
      cases c<;>simp [bT]at E;exact go (by simpa [run]using h) (A2.cons (.code E.1) (A2.cons (.code E.2) A)) stepR_seq
     | block id p=>
      cases c<;>simp [bT]at E;obtain⟨rfl,E⟩:=E;exact go (by simpa [run]using h) (A2.cons (.code E) (A2.cons (.inBlock _) A)) stepR_block
     | loop p=>
      cases c<;>simp [bT]at E;exact go (by simpa [run]using h) (A2.cons (.code E) (A2.cons (.inLoop E) A)) stepR_loop
     | exit id=>
      cases c<;>simp [bT]at E;subst E;rename_i n7;have O:=wL (Q:=Q) (σ:=σ) (n:=n) (X:=X) n7 k ks A;simp only [run]at h;split at h
      ·rename_i k' H;rw [H]at O;obtain⟨n9,he,a9⟩:=O;exact go h a9 (stepR_exit he)
      ·rename_i H;rw [H]at O;split at h
       ·simp only [sh,IN]at h;obtain⟨rfl,rfl⟩:=h;exact⟨X,a,_,Steps.refl _ _,z.fr,Ext.refl _ _,rfl,ks,rfl,O⟩
       ·simp at h
     | cond x p q=>
      cases c<;>simp [bT]at E;simp only [run]at h;split at h
      ·rename_i v hv;have hx:=bH z.fr.az E.1.1;rw [hv]at hx;have n6:cB σ X.F X.w (.bool v) _:=hx;have he:∀ u,cB σ X.F X.w (.bool v) u→u=.bool v:=fun u hu=>by cases hu;rfl
       refine go h ?_ (stepR_cond (he _ n6));cases v
       ·exact A2.cons (.code E.2) A
       ·exact A2.cons (.code E.1.2) A
      ·simp at h
     | region aos gJ=>
      cases c with
      | region id ops n_=>
       simp only [run]at h;split at h
       ·simp at h
       ·rename_i K;split at h
        ·rename_i s1 h1;have m9:∀ y ∈ aos,fZ y.op b:=by
          intro y hy;unfold fZ;cases ro with
          | none=>
           refine .inl ?_;have:=z.ro;cases hb:b.roundOf with
           | none=>rfl| some l=>rw [hb]at this;exact this.elim
          | some r=>
           simp only [Option.isSome_some,Bool.true_and,arP,Bool.not_eq_false]at K;exact .inr (aqH.1 K y hy)
         obtain⟨X1,a1,g1,M,g3,g4⟩:=KX hC g_ E z.kind m9 (k:=ks) z.fr h1;obtain⟨X',a',it,k1,k2,k3,k4,k5⟩:=ih n b cs ro k ks s1 X1 a1 F s' h (z.ext g3 M A);exact⟨X',a',it,g1.trans k1,k2,g3.trans (k3.mono g3.len),k4.trans g4,k5⟩
        ·simp at h
      | _=>simp [bT]at E
     | jI f ps as bd=>
      cases c with
      | rangeFunc f' Z as' U=>
       simp only [bT,BY]at E;obtain⟨⟨⟨l9,l_⟩,m4⟩,m6⟩:=E;simp only [run]at h;split at h
       ·simp at h
       ·rename_i K;have m_:b.roundOf=ab:=by
         have:=z.ro;cases ro with
         | some r=>simp at K
         | none=>
          cases hb:b.roundOf with
          | none=>rfl| some l=>rw [hb]at this;exact this.elim
        split at h
        ·rename_i g args f9;split at h
         ·rename_i r2 H2 N;obtain⟨X1,w1,H1,S1,E1,r1,B1⟩:=SR.new z.fr.sr z.fr.b (.jF ae) (dx.alloc X.w (.deferred (aa []))) 0 (fun X' hx hw hF hH=>by
           show X'.w.heap[X.w.heap.size]?=_;rw [hw];exact(dx.alloc X.w (.deferred (aa []))).new)
          have f_:X1.H[X.H.length]?=aa (.jF ae):=by rw [H1];simp
          have b7:X.H.length<X1.H.length:=by rw [H1];simp
          have h_:X1.w.heap.size=X.w.heap.size+1:=by rw [w1];simp
          obtain⟨X2,w2,i_,S2,E2,d9,B2⟩:=SR.new S1 B1 (.lp fn s.az ps as bd .ready ab s.heap.length)
           (dx.alloc X1.w (.loop { state:=.ready,pending:=ab,fn:=b.fn,tmps:=a.tmps,params:=Z,assign:=as',body:=U,defers:=X.w.heap.size })) 0 (fun X' hx hw hF hH=>by
            obtain⟨blk',c_,H⟩:=hx.bY X.H.length b7 _ f_;cases blk'<;>simp only at H;refine⟨n,a.tmps,Z,as',U,ab,⟨X.w.heap.size,0⟩,?_,z.fr.size,RR.ext' σ hx (RR.ext' σ E1 z.fr.az),l_,m4,m6,trivial,?_,?_⟩
            ·show X'.w.heap[X1.w.heap.size]?=_;rw [hw,(dx.alloc X1.w (.loop { state:=.ready,pending:=ab,fn:=b.fn,tmps:=a.tmps,params:=Z,assign:=as',body:=U,defers:=X.w.heap.size })).new,z.fn];rfl
            ·rw [←z.fr.heap];exact H _ r1
            ·rw [←z.fr.heap];exact⟨_,c_⟩)
          have d8:Ext X.H.length X X2:=E1.trans (E2.mono E1.len);have d_:X2.H=s.heap++[.jF ae,.lp fn s.az ps as bd .ready ab s.heap.length]:=by rw [i_,H1,←z.fr.heap];simp
          have l7:X1.H.length=s.heap.length+1:=by rw [H1,←z.fr.heap];simp
          have J:DI X2 (s.heap.length+1):=⟨fn,s.az,ps,as,bd,.ready,ab,s.heap.length,by rw [d_,aqJ (by omega)];simp⟩
          rw [l7,h_]at d9;have e_:A2 (VR σ X2) [.c (.yl (s.heap.length+1))] [.func (.yield (X.w.heap.size+1)) #[] #[]]:=A2.cons ⟨⟨X.w.heap.size+1,0⟩,d9,J,rfl⟩ A2.nil;obtain⟨fst,cap,n4,n5⟩:=nC f9 (VR.ext' σ d8 (bH z.fr.az l9)) e_;rw [←d_]at N;have k_:=hC.enters _ _ _ _ N
          let a1:Act:={ a with defers:={ target:=.collected X.w.heap.size,args:=#[] }::a.defers }
          obtain⟨fr,X3,u,q1,⟨l1,l2,l3,l4,j9,l5,l6⟩,q3,q4,q5,q6,q7⟩:=hC.fn g args _ r2 H2 N X2 _ .normal (b.atR a1 (.inRangeFunc (X.w.heap.size+1)::ks)::cs) rfl S2 B2 n5 (.inl rfl) (.inl rfl);have S:step Q (lone (b.atR a (.code (.rangeFunc f' Z as' U)::ks)) cs X.w)=.next (lone (Frame.enter Q (σ g) (fst.toArray++#[.func (.yield (X.w.heap.size+1)) #[] #[]]++cap.toArray) .normal) (b.atR a1 (.inRangeFunc (X.w.heap.size+1)::ks)::cs) X2.w):=by
           refine stepR_rangeFunc (P:=Q) (b:=b) (a:=a) (k:=ks) (cs:=cs) (l:=X.w.heap.size+1) (mark:=[{ target:=.collected X.w.heap.size,args:=#[] }]) (w₁:=X2.w) (w₁':=X2.w) (d:={ target:=.fn (.func (σ g)) cap.toArray,args:=fst.toArray++#[.func (.yield (X.w.heap.size+1)) #[] #[]] }) ?_ ?_ ?_
           ·rw [m_,run_enterLoop_outer,w2,w1]
           ·simp only [resolve,n4,Deferred.ofValue,Sem.run_bind,Sem.run_pure,Result.andThen_ok];simp [Act.eval]
           ·exact en k_
          have Y:Ext X.H.length X X3:=d8.trans (q6.mono d8.len);have a8:=step_leave_returned (P:=Q) (c:=b.atR a1 (.inRangeFunc (X.w.heap.size+1)::ks)) (cs:=cs) (show fr.leaving Q X3.w (.returned u) from⟨l1,l2,l3,j9,by rw [l4];exact l5,l6⟩);rw [finish_atR_inRangeFunc]at a8;have b9:=J.ext q6;have j_:sY σ X3 (.ov s.heap.length) { target:=.collected X.w.heap.size,args:=#[] }:=by
           obtain⟨blk',c_,H⟩:=(E2.trans (q6.mono E2.len)).bY X.H.length b7 _ f_;cases blk'<;>simp only at H;rw [←z.fr.heap];exact⟨⟨X.w.heap.size,0⟩,_,H _ r1,c_,rfl⟩
          obtain⟨X',a',it,k1,k2,k3,k4,k5⟩:=ih n b cs ro (.ib (s.heap.length+1)::k) (.endRangeFunc (X.w.heap.size+1)::ks) _ X3 a1 F s' h
           ⟨⟨q3,q4,q7,RR.ext' σ Y z.fr.az,A2.cons j_ (z.fr.defs.ext' Y),z.fr.size⟩,A2.cons (.ib (b9.2 _ d9) b9.1) (A.kr fun _ _ h=>h.ext Y),z.ro.ext Y,z.kind,z.fn⟩
          refine⟨X',a',it,.head S (Steps.trans ?_ (.head a8 k1)),k2,Y.trans (k3.mono Y.len),k4,k5⟩;simpa using q1
         ·simp at h
        ·simp at h
      | _=>simp [bT]at E
end
section
variable{Q:Program}{σ:Nat→FuncId}{X:Wd}{call:cC}
def xR(Q:Program)(σ:Nat→FuncId)(m3:Nat→List V→aj→Option (Option (V × aj))):Prop:=
 ∀ f args H r H',m3 f args H=aa (aa (r,H')) →
  (∀ as w,(callFunc (σ f) as).run Q w=.ok (.enter (σ f) as) w) ∧
  ∀(X:Wd) us b cs,X.H=H→SR Q σ X→X.B≤X.w.heap.size→A2 (VR σ X) args us→nH b cs→b=.normal∨f≠lF →
   ∃ d X' u,Steps Q (lone (Frame.enter Q (σ f) us.toArray b) cs X.w) (lone d cs X'.w)∧Leaves Q (σ f) b d u X'.w∧lP Q σ X r H' X' u
structure Env(Q:Program)(σ:Nat→FuncId)(tab:Nat→Option aD)(m3:Nat→List V→aj→Option (Option (V × aj))):Prop where
 mix:Q.follows .mixedOrders=ae
 fn:∀ f af,tab f=aa af→∃ fn,Q.funcs[σ f]?=aa fn∧Fl Q σ fn af=ae
 m3:xR Q σ m3
theorem uB:∀(ps:List P) (args:List V) (t:T) (s:Nat),ps.map P.toNat=List.range' s ps.length→args.length=ps.length→∀ q:P,
  (cu ps args t).get q=if s≤q.toNat then(args[q.toNat-s]?).getD (t.get q)else t.get q
 | [],args,t,s,_,b,q=>by
  have:args=[]:=amu b;subst this;simp [cu]
 | p::ps,[],t,s,_,b,q=>by simp at b
 | p::ps,v::y,t,s,d,b,q=>by
  simp only [List.map_cons,List.length_cons,List.range'_succ,List.cons.injEq]at d;have x:=uB ps y (t.set p v) (s+1) d.2 (by simpa using b) q;simp only [cu,x];by_cases j:p=q
  ·subst j;rw [aY (by omega),T.oC];simp [d.1]
  ·have u:q.toNat≠s:=fun e=>j (P.toNat_inj (d.1.trans e.symm));simp only [T.oC,j,if_false];by_cases l:s≤q.toNat
   ·have g:s+1≤q.toNat:=by omega
    have m:q.toNat-s=(q.toNat-(s+1))+1:=by omega
    simp [g,l,m]
   ·have g:¬ (s+1≤q.toNat):=by omega
    simp [g,l]
theorem RR.cu:∀(ps:List P) (b:List Tmp) (args:List V) (us:List Value) (az:T) (tmps:Array Value) (n:Nat),n≤tmps.size→RR σ X az tmps→A2 (VR σ X) args us→args.length=ps.length →
  fy (fun p (q:P)=>q.toNat == p&&decide (p<n)) b ps=ae→RR σ X (Km.cu ps args az) ((b.zip us).foldl (fun tmps (t,a)=>tmps.setIfInBounds t a) tmps)
 | [],b,args,us,az,tmps,n,l,j,d,g,h=>by
  have:args=[]:=amu g;subst this;have:us=[]:=amu d.len.symm;subst this;simpa [Km.cu]using j
 | p::ps,[],args,us,az,tmps,n,l,j,d,g,h=>by simp [fy]at h
 | p::ps,s::b,[],us,az,tmps,n,l,j,d,g,h=>by simp at g
 | p::ps,s::b,v::x,[],az,tmps,n,l,j,d,g,h=>by have:=d.len;simp at this
 | p::ps,s::b,v::x,u::us,az,tmps,n,l,j,d,g,h=>by
  simp only [fy,BY,beq_iff_eq,decide_eq_true_eq]at h;obtain⟨⟨y,A⟩,z⟩:=h;obtain⟨m,d⟩:=d.of_cons;subst y;refine RR.cu ps b x us _ _ n (by simpa using l) (RR.set σ j (by omega) m) d (by simpa using g) z
theorem rJ:∀(l:List (Tmp × Value)) (tmps:Array Value),(l.foldl (fun tmps (t,a)=>tmps.setIfInBounds t a) tmps).size=tmps.size
 | [],_=>rfl| x::l,tmps=>by rw [List.foldl_cons,rJ l];simp
theorem W3(fn:Nat):∀ m d s b s',run call fn m ab d s=aa (b,s')→b=ab∨b=aa .ret:=by
 intro m;induction m with
 | zero=>intro d s b s' h;simp [run]at h
 | succ m g=>
  intro d s b s' h;unfold run at h;split at h
  all_goals first
   | exact g _ _ _ _ h
   | (simp at h;done)
   | skip
  ·simp only [sh,IN]at h;exact .inl h.1.symm
  ·split at h
   ·split at h
    ·simp at h
    ·split at h
     ·exact g _ _ _ _ h
     ·exact g _ _ _ _ h
     ·exact g _ _ _ _ h
     ·simp at h
   ·simp at h
  ·split at h
   ·exact g _ _ _ _ h
   ·simp at h
  ·simp only [sh,IN]at h;exact .inr h.1.symm
  ·split at h
   ·exact g _ _ _ _ h
   ·simp at h
  ·split at h
   ·exact g _ _ _ _ h
   ·simp at h
  ·split at h
   ·simp at h
   ·split at h
    ·exact g _ _ _ _ h
    ·simp at h
  ·split at h
   ·simp at h
   ·simp only at h;split at h
    ·split at h
     ·exact g _ _ _ _ h
     ·simp at h
    ·simp at h
theorem ry{fn:Func}{af:aD}(h:Fl Q σ fn af=ae):∃ c,fn.name≠ "runtime.NumGoroutine"∧fn.body=aa c∧bT Q σ fn.ntmps c af.body=ae ∧
  fy (yM Q fn.ntmps) fn.results.toList af.results=ae∧af.ps.map P.toNat=List.range af.ps.length:=by
 simp only [Fl,BY,bne_iff_ne,ne_eq,decide_eq_true_eq]at h;obtain⟨⟨⟨h1,h2⟩,h3⟩,h4⟩:=h;cases hb:fn.body with
 | none=>rw [hb]at h2;simp at h2| some c=>rw [hb]at h2;exact⟨c,h1,rfl,h2,h3,h4⟩
theorem oX{f:FuncId}{fn:Func}{c:Code}(hf:Q.funcs[f]?=aa fn)(hn:fn.name≠ "runtime.NumGoroutine")(hb:fn.body=aa c)(as:Array Value)(w:World):(callFunc f as).run Q w=.ok (.enter f as) w:=by
 simp [callFunc,hf,hn,hb]
def iF(g:FuncId)(d:CallKind)(tmps:Array Value)(ds:List Deferred)(b:Frame):Prop:=
 b.mode=.returning∧b.defers=ds∧b.kind=d∧b.fn=g∧b.tmps=tmps
theorem step_collected{d:Frame}{cs:List Frame}{w w':World}{b:Nat}{as:Array Value}{ds:List Deferred}(j:d.mode=.returning)(g:d.defers = { target:=.collected b,args:=as }::ds)
  (hr:(Instr.takeDeferred b).run Q w=.ok [] w'):step Q (lone d cs w)=.next (lone { d with defers:=ds } cs w'):=
 step_lone_go (by simp [stepG,unwind,j,g,Sem.runT_eq,hr])
theorem vJ{b:Frame}{cs:List Frame}{w:World}{f:FuncId}{cap as as':Array Value}{ds:List Deferred}(g:b.mode=.returning)(d:b.defers = { target:=.fn (.func f) cap,args:=as }::ds)
  (hr:(invoke (.fn (.func f) cap) as).run Q w=.ok (.enter f as') w):step Q (lone b cs w)=.next (lone (Frame.enter Q f as' .deferred) ({ b with defers:=ds }::cs) w):=
 step_lone_go (by simp [stepG,unwind,g,d,callDeferred,Sem.runT_eq,hr])
theorem nk{b c:Frame}{cs:List Frame}{w:World}{v:Value}{f:FuncId}(h:Leaves Q f .deferred b v w)(hc:c.mode=.returning) :
  step Q (lone b (c::cs) w)=.next (lone c cs w):=by
 obtain⟨q,j,m,l,fn,d,g⟩:=h;rw [←l]at d;exact step_lone_go (by simp [stepG,unwind,doReturn,q,j,m,d,Sem.runT_eq,g,hc])
theorem iF.pop{g:FuncId}{kind:CallKind}{tmps:Array Value}{d:Deferred}{ds:List Deferred}{fr:Frame}(h:iF g kind tmps (d::ds) fr):iF g kind tmps ds { fr with defers:=ds }:=
 ⟨h.1,rfl,h.2.2.1,h.2.2.2.1,h.2.2.2.2⟩
theorem yu(H:eC Q σ call){g:FuncId}{y:CallKind}{tmps:Array Value}{cs:List Frame}:∀(ds:List dw) (X:Wd) (l:List Deferred) (q:Frame) (H':aj),
  dJ call ds X.H=aa H'→SR Q σ X→X.B≤X.w.heap.size→fx σ X ds l→iF g y tmps l q →
  ∃ fr' X',Steps Q (lone q cs X.w) (lone fr' cs X'.w)∧iF g y tmps [] fr'∧X'.H=H'∧SR Q σ X'∧X'.B≤X'.w.heap.size∧Ext X.H.length X X'
 | [],X,l,q,H',h,B,E,z,j=>by
  have:l=[]:=amu z.len.symm;subst this;simp only [dJ,sh]at h;exact⟨q,X,Steps.refl _ _,j,h,B,E,Ext.refl _ _⟩
 | d::ds,X,[],q,H',h,B,E,z,j=>by have:=z.len;simp at this
 | .ov b::ds,X,m::l,q,H',h,B,E,z,j=>by
  obtain⟨⟨L,o,h1,h2,rfl⟩,A⟩:=A2.of_cons z;simp only [dJ]at h;split at h
  ·rename_i I;obtain⟨_,_,bq,F,K⟩:=B.br b L h1;rw [I]at F;cases F;have x:X.w.heap[L.c]?=aa (.deferred (aa [])):=K;obtain⟨g1,J⟩:=SR.pP (o':=.deferred ab) (blk':=.jF ag) B I h1 x (by simp) (by simp)
    (fun bq v=>⟨.jF ag,by simp [(By.1 I).1],by rw [I]at v;cases v;exact fun L h=>h⟩)
    (fun X' a_ O _ a8 hH=>O)
   obtain⟨fr',X',S,U,W,Y,Z,k6⟩:=yu H ds _ l { q with defers:=l } H' h g1 (by simpa using E) (fx.ext' J A) j.pop;exact⟨fr',X',.head (step_collected j.1 j.2.1 (run_takeDeferred x)) S,U,W,Y,Z,J.trans (k6.mono J.len)⟩
  ·simp at h
 | .fn f args::ds,X,m::l,q,H',h,B,E,z,j=>by
  obtain⟨⟨us,cap,rfl,hA⟩,A⟩:=A2.of_cons z;simp only [dJ]at h;split at h
  ·simp at h
  rename_i N;split at h
  ·rename_i r H1 s;have M:=H.enters f args _ _ s;obtain⟨a9,X1,u,q1,q2,q3,q4,q5,q6,q7⟩:=H.fn f args _ r H1 s X _ .deferred ({ q with defers:=l }::cs) rfl B E hA (.inr ⟨rfl,_,_,rfl,j.1⟩) (.inr N);rw [←q3]at h;obtain⟨fr',X',S,U,W,Y,Z,k6⟩:=yu H ds X1 l { q with defers:=l } H' h q4 q7 (fx.ext' q6 A) j.pop;refine⟨fr',X',.head (vJ (as':=us++cap) j.1 j.2.1 (en M)) (Steps.trans ?_ (.head (nk (c:={ q with defers:=l }) q2 j.1) S)),U,W,Y,Z,q6.trans (k6.mono q6.len)⟩;have e:(us.toList++cap.toList).toArray=us++cap:=by apply Array.ext';simp
   rw [e]at q1;exact q1
  ·simp at h
theorem ag1(E:SR Q σ X){n:Nat}{az:T}{tmps:Array Value}(m:RR σ X az tmps){r:ResultVar}{a:ie}(g:yM Q n r a=ae){v:V}
  (h:bJ az X.H a=aa v):∃ u,(match r with | .tmp t=>pure (tmps.getD t undef) | .cell a t=>do loadVar t (←asAddr (tmps.getD a undef)):Sem Value).run Q X.w=.ok u X.w∧gG σ X v u:=by
 cases r with
 | tmp t=>
  cases a with
  | tmp p=>
   simp only [yM,BY,beq_iff_eq,decide_eq_true_eq]at g;have d:=m p;rw [g.1]at d;simp only [bJ]at h;refine⟨_,rfl,?_⟩;split at h
   ·simp at h
   ·rename_i j;simp only [sh]at h;rw [h]at d;cases v with
    | t H=>exact absurd h (j H)| top=>trivial| c x=>exact d| a xs=>exact d
  | cell p k=>simp [yM]at g
 | cell t I=>
  cases a with
  | tmp p=>simp [yM]at g
  | cell p k=>
   simp only [yM,BY,beq_iff_eq,decide_eq_true_eq]at g;have d:=m p;rw [g.1.1]at d;simp only [bJ]at h;cases q:az.get p with
   | c x=>
    rw [q]at h d;simp only [aX,Option.bind_eq_some_iff]at h;obtain⟨cs,s,b⟩:=h;obtain⟨c,o,us,F,z,A⟩:=tn E d s;obtain⟨u,B,l⟩:=Cm g.2 z A b;refine⟨u,by simp [F,asAddr,B],?_⟩;cases k with
    | none=>cases cs with
     | nil=>simp [aI]at b| cons y ys=>simp only [aI,sh]at b;subst b;exact l
    | some k=>
     simp only [aI]at b;split at b
     ·simp only [sh]at b;subst b;exact l
     ·simp at b
   | _=>rw [q]at h;simp [aX]at h
theorem El(K:SR Q σ X){fn:Func}{m:List ie}(L:fy (yM Q fn.ntmps) fn.results.toList m=ae){az:T}{tmps:Array Value}(J:RR σ X az tmps){v:V}
  (h:Km.results az X.H m=aa v):∃ u,(Go.results fn tmps).run Q X.w=.ok u X.w∧VR σ X v u:=by
 have key:∀(m:List ie) (qs:List ResultVar) (j:List V),fy (yM Q fn.ntmps) qs m=ae→bj (bJ az X.H) m=aa j →
   ∃ us:List Value,(qs.mapM (fun r=>match r with | .tmp t=>pure (tmps.getD t undef) | .cell a t=>do loadVar t (←asAddr (tmps.getD a undef)):ResultVar→Sem Value)).run Q X.w=.ok us X.w∧A2 (gG σ X) j us:=by
  intro m;induction m with
  | nil=>
   intro qs j x l;cases qs with
   | nil=>simp only [bj,sh]at l;subst l;exact⟨[],rfl,A2.nil⟩| cons q qs=>simp [fy]at x
  | cons a m M=>
   intro qs j x l;cases qs with
   | nil=>simp [fy]at x
   | cons q qs=>
    simp only [fy,BY]at x;simp only [bj]at l;split at l
    ·simp at l
    ·rename_i A E;split at l
     ·simp at l
     ·rename_i B F;simp only [sh]at l;subst l;obtain⟨u,s,b⟩:=ag1 K J x.1 E;obtain⟨us,H,I⟩:=M qs B x.2 F;refine⟨u::us,?_,A2.cons b I⟩;rw [List.mapM_cons,Sem.run_bind,s];simp only [Result.andThen_ok,Sem.run_bind,H,Sem.run_pure]
 unfold Km.results at h;have y:∀ j,bj (bJ az X.H) m=aa j→∃ us:List Value,(Go.results fn tmps).run Q X.w=.ok (if h:us.toArray.size=1 then us.toArray[0]else .tuple us.toArray) X.w∧A2 (gG σ X) j us:=by
  intro j g;obtain⟨us,s,b⟩:=key m fn.results.toList j L g;refine⟨us,?_,b⟩;unfold Go.results;rw [Array.mapM_eq_mapM_toList,Sem.run_bind,Sem.run_map];exact(congrArg (fun r:Result (List Value)=>(r.andThen fun a w'=>Result.ok a.toArray w').andThen fun a w'=>Sem.run Q (pure (if h:a.size=1 then a[0]else Value.tuple a)) w') s).trans rfl
 split at h
 ·rename_i A g;simp only [sh]at h;subst h;obtain⟨us,s,b⟩:=y _ g
  match us,b with
  | [u],b=>exact⟨u,s,VR.XI σ b.of_cons.1⟩| [],b=>have:=b.len;simp at this| _::_::_,b=>have:=b.len;simp at this
 ·rename_i j z g;simp only [sh]at h;subst h;obtain⟨us,s,b⟩:=y _ g;refine⟨.tuple us.toArray,?_,us,rfl,b⟩;rw [s,dif_neg];intro d
  match us,d with
  | [u],_=>
   match j,b with
   | [A],_=>exact z A rfl| [],b=>have:=b.len;simp at this| _::_::_,b=>have:=b.len;simp at this
  | [],d=>simp at d| _::_::_,d=>simp at d
 ·simp at h
end
section
variable{Q:Program}{σ:Nat→FuncId}{tab:Nat→Option aD}{m3:Nat→List V→aj→Option (Option (V × aj))}
theorem aiY(o:Env Q σ tab m3){m:Nat}{call:cC}(n:eC Q σ call){f:Nat}{j:aD}(J:tab f=aa j){args:List V}(F:args.length=j.ps.length){y:Option av}{s':St}{X:Wd}
  (x:run call f m ab [.code j.body] ⟨cu j.ps args .e,[],X.H⟩=aa (y,s')) {H':aj} (l:dJ call s'.defs s'.heap=aa H') {r:V} (v:Km.results s'.az H' j.results=aa r)
  {us:List Value} {d:CallKind} {cs:List Frame} (hS:SR Q σ X) (hB:X.B≤X.w.heap.size) (i:A2 (VR σ X) args us) (hk:nH d cs) :
  ∃ Z X' u,Steps Q (lone (Frame.enter Q (σ f) us.toArray d) cs X.w) (lone Z cs X'.w)∧Leaves Q (σ f) d Z u X'.w∧lP Q σ X r H' X' u:=by
 obtain⟨fn,t,hm⟩:=o.fn f j J;obtain⟨c,N,z,A,S,O⟩:=ry hm
 let b:Frame:=Frame.enter Q (σ f) us.toArray d
 let q:Act:={ tmps:=us.toArray++Array.replicate (fn.ntmps-us.toArray.size) undef,defers:=[] }
 have hb:b=b.atR q [.code c]:=by
  simp [b,q,Frame.enter,Frame.atR,t,z]
 have U:fn.ntmps≤q.tmps.size:=by simp [q];omega
 have M:RR σ X (cu j.ps args .e) q.tmps:=by
  intro p;rw [uB j.ps args .e 0 (by rw [O,List.range_eq_range']) F p];simp only [Nat.zero_le,if_true,Nat.sub_zero];by_cases w:p.toNat<args.length
  ·have hx:=At w;have H:p.toNat<us.length:=i.len▸w;have hy:=At H;have hv:=i.2 _ _ _ hx hy;rw [hx];have:q.tmps.getD p.toNat undef=us[p.toNat]:=by
    simp [q,Array.getD_eq_getD_getElem?,Array.getElem?_append,H]
   rw [this];exact hv
  ·rw [arD (by omega)];cases p<;>trivial
 have hF:Fr Q σ fn.ntmps X ⟨cu j.ps args .e,[],X.H⟩ q:=⟨rfl,hS,hB,M,A2.nil,U⟩
 have hW:Way Q σ f fn.ntmps b cs ab [.code j.body] [.code c] ⟨cu j.ps args .e,[],X.H⟩ X q:=⟨hF,A2.cons (.code A) A2.nil,trivial,hk,rfl⟩
 obtain⟨K,a1,g,s1,B,W,_,Y⟩:=W4 n o.mix f m fn.ntmps b cs ab _ _ _ X q y s' x hW;have I:∃ s,Steps Q (lone (b.atR a1 g) cs K.w) (lone s cs K.w)∧iF (σ f) d a1.tmps a1.defers s:=by
  rcases W3 f m _ _ _ _ x with rfl | rfl
  ·have:g=[]:=Y;subst this;exact⟨_,.one (stepR_end rfl),rfl,rfl,rfl,rfl,rfl⟩
  ·obtain⟨k,rfl⟩:=Y;exact⟨_,.one (stepR_ret rfl),rfl,rfl,rfl,rfl,rfl⟩
 obtain⟨s,s2,R1⟩:=I;rw [←B.heap]at l;obtain⟨L,X2,s3,E,a,e,h3,h⟩:=yu n (cs:=cs) s'.defs K a1.defers s H' l B.sr B.b B.defs R1;rw [←a]at v;obtain⟨u,g1,g2⟩:=El e S (RR.ext' σ h B.az) v;refine⟨L,X2,u,?_,⟨E.1,E.2.1,E.2.2.1,E.2.2.2.1,fn,t,by rw [E.2.2.2.2];exact g1⟩,a,e,g2,W.trans (h.mono W.len),h3⟩;show Steps Q (lone b cs X.w) _;rw [hb];exact s1.trans (s2.trans s3)
theorem XB(hE:Env Q σ tab m3){m:Nat}{call:cC}(hC:eC Q σ call){b:Nat}{f:Nat}{tmps:T}{ps:List P}{as bd:av}{q:fP}{pd:Option av}{d:Nat}{X:Wd}(U:X.H[b]?=aa (.lp f tmps ps as bd q pd d))
  {args:List V} (S:args.length=ps.length) {g:Option av} {s':St} (Y:run call f m (aa b) [.code as,.lQ,.code bd] ⟨cu ps args tmps,[],X.H⟩=aa (g,s')) (b_:s'.defs.isEmpty=ae)
  {f':Nat} {v:T} {J:List P} {as' H:av} {q':fP} {d6:Option av} {d':Nat} (y:s'.heap[b]?=aa (.lp f' v J as' H q' d6 d'))
  {us:List Value} {c:Frame} {cs:List Frame} {L:Loc} (hS:SR Q σ X) (hB:X.B≤X.w.heap.size) (hA:A2 (VR σ X) args us) (hL:X.bW b=aa L) :
  ∃ f tmps as bd X' u,(Instr.yield L.c us.toArray).run Q X.w=.ok (.round L.c f tmps as bd) X.w ∧
   Steps Q (lone (Frame.round L.c f tmps as bd .normal) (c::cs) X.w) (lone (c.finish u) cs X'.w)∧lP Q σ X (.bool g.isNone) (s'.heap.set b (.lp f' v J as' H (if g.isNone then .ready else .done) g d')) X' u:=by
 obtain⟨n,ts,qs,z,A,d8,Ld,W,h2,h3,h4,h5,h6,h7,h8,h9⟩:=oK hS hL U;have hq:=(eb h4).len;have c_:us.toArray.size=qs.size:=by
  have:=hA.len;simp only [Array.length_toList]at hq;simp;omega
 have hy:=run_yield (P:=Q) (args:=us.toArray) W c_
 let F:Array Value:=(qs.zip us.toArray).foldl (fun tmps (t,a)=>tmps.setIfInBounds t a) ts
 have O:F=(qs.toList.zip us).foldl (fun tmps (t,a)=>tmps.setIfInBounds t a) ts:=by
  simp only [F];rw [←Array.foldl_toList];simp
 let M:Act:={ tmps:=F,defers:=[] }
 let B:Frame:=Frame.round L.c (σ f) F z A .normal
 have b7:B=B.atR M [.code z,.beginRound,.code A]:=by simp [B,M,Frame.round,Frame.atR]
 have b9:RR σ X (cu ps args tmps) F:=by
  rw [O];exact RR.cu ps qs.toList args us tmps ts n h2 h3 hA S h4
 have hn:n≤F.size:=by rw [O,rJ];exact h2
 have hF:Fr Q σ n X ⟨cu ps args tmps,[],X.H⟩ M:=⟨rfl,hS,hB,b9,A2.nil,hn⟩
 have E:DI X b:=⟨_,_,_,_,_,_,_,_,U⟩
 have hW:Way Q σ f n B (c::cs) (aa b) [.code as,.lQ,.code bd] [.code z,.beginRound,.code A] ⟨cu ps args tmps,[],X.H⟩ X M:=
  ⟨hF,A2.cons (.code h5) (A2.cons .lQ (A2.cons (.code h6) A2.nil)),⟨L,hL,rfl,E⟩,.inl rfl,rfl⟩
 obtain⟨X1,a1,x,s1,K,E1,_,Z⟩:=W4 hC hE.mix f m n B (c::cs) (aa b) _ _ _ X M g s' Y hW;have N:=(E.ext E1).2 _ hL;rw [←K.heap]at y;obtain⟨n1,d_,d9,a9,a_,pend1,a8,s,k2,k3,k4,k5,k6,k7,k8,k9⟩:=oK K.sr N y;have I:∀(l:Option Code),xc Q σ n1 g l→l.isNone=g.isNone→step Q (lone (B.atR a1 x) (c::cs) X1.w)=.next (lone (c.finish (.bool l.isNone)) cs (X1.w.putObj L.c (.loop { state:=if l.isNone then .ready else .done,pending:=l,fn:=σ f',tmps:=d_,params:=d9,assign:=a9,body:=a_,defers:=a8.c }))) →
   ∃ f tmps as bd X' u,(Instr.yield L.c us.toArray).run Q X.w=.ok (.round L.c f tmps as bd) X.w ∧
   Steps Q (lone (Frame.round L.c f tmps as bd .normal) (c::cs) X.w) (lone (c.finish u) cs X'.w)∧lP Q σ X (.bool g.isNone) (s'.heap.set b (.lp f' v J as' H (if g.isNone then .ready else .done) g d')) X' u:=by
  intro l hj hn c9;obtain⟨g1,g2⟩:=zw K.sr N y (q':=if g.isNone then .ready else .done) (pend1:=g) (pend':=l) k2 k3 k4 k5 k6 hj k8 k9;have hq:(if g.isNone then fP.ready else fP.done).of=(if l.isNone then LoopState.ready else LoopState.done):=by
   rw [hn];cases g<;>rfl
  rw [hq]at g1 g2;refine⟨σ f,F,z,A,_,.bool l.isNone,hy,?_,?_,g1,?_,E1.trans (g2.mono E1.len),?_⟩
  ·show Steps Q (lone B (c::cs) X.w) _;rw [b7];exact s1.trans (.one c9)
  ·rw [←K.heap]
  ·rw [hn];exact VR.tT _
  ·have:=K.b;simpa [World.putObj]using this
 cases g with
 | none=>
  have:x=[]:=Z;subst this;exact I ab trivial rfl (stepR_round_end rfl rfl (run_endRound (P:=Q) ab s))
 | some j=>
  cases j with
  | ret=>
   obtain⟨k,rfl⟩:=Z;exact I (aa .ret) (by simp [xc,bT]) rfl (stepR_round_ret rfl rfl (run_endRound (P:=Q) (aa .ret) s))
  | exit id=>
   obtain⟨k,rfl,hx⟩:=Z;exact I (aa (.exit id)) (by simp [xc,bT]) rfl (stepR_round_exit rfl rfl hx (run_endRound (P:=Q) (aa (.exit id)) s))
  | _=>exact Z.elim
theorem U6(x:Env Q σ tab m3)(m:Nat):∀ d,eC Q σ (dG tab m3 m d):=by
 intro d;induction d with
 | zero=>exact⟨fun f args H r h=>by simp [dG]at h,fun f args H r H' h=>by simp [dG]at h,fun b args H r H' h=>by simp [dG]at h⟩
 | succ d U=>
  refine⟨fun f args H r h=>?_,fun f args H r H' h X us B cs J I F E W K=>?_,fun b args H r H' h X us c cs L J I F E hL=>?_⟩
  ·simp only [dG]at h;split at h
   ·rename_i r' N;obtain⟨r0,H0⟩:=r;exact(x.m3 f args H r0 H0 (by rw [N,h])).1
   ·split at h
    ·simp at h
    ·rename_i S l;obtain⟨fn,hf,hm⟩:=x.fn f S l;obtain⟨c,v,s,_⟩:=ry hm;exact oX hf v s
  ·simp only [dG]at h;split at h
   ·rename_i r' N;exact(x.m3 f args H r H' (by rw [N,h])).2 X us B cs J I F E W K
   ·split at h
    ·simp at h
    ·rename_i S l;split at h
     ·rename_i g;split at h
      ·rename_i A s' j;split at h
       ·rename_i H1 u;simp only [If,IN]at h;obtain⟨r1,z,rfl,rfl⟩:=h;subst J;exact aiY x U l g j u z I F E W
       ·simp at h
      ·simp at h
     ·simp at h
  ·simp only [dG]at h;split at h
   ·rename_i f tmps ps as bd q pd d' M;split at h
    ·rename_i g;split at h
     ·rename_i A s' j;split at h
      ·rename_i hd;split at h
       ·rename_i f' O a9 as' Y q' a8 Z y;simp only [sh,IN]at h;obtain⟨rfl,rfl⟩:=h;subst J;exact XB x U M g j hd y I F E hL
       ·simp at h
      ·simp at h
     ·simp at h
    ·simp at h
   ·simp at h
end
inductive AR where
 | no
 | set (b:Nat) (x:cS)
 | push (x:cS)
def AR.app(H:aj):AR→aj
 | .no=>H| .set b x=>H.set b x| .push x=>H++[x]
def tk(g:Nat→Option cS):C→Option (List C)
 | .ptr b off d=>match g b with
  | some (.box cs _)=>aa (cs.drop off)| some (.bG _ cs _ e .loc)=>if d=e then aa (cs.drop off)else ab| _=>ab
 | .f (.fp cs off)=>aa ((cs.drop off).map .f)| _=>ab
def afA(g:Nat→Option cS)(n:Option Nat):V→Option V
 | .c x=>(tk g x).bind (aI n)| _=>ab
def qT(g:Nat→Option cS):C→Option Nat
 | .sl b _ l _ d sz=>match g b with
  | some (.box _ _)=>aa l| some (.bG s _ _ e _)=>if d=e∧sz=s then aa l else ab| _=>ab
 | .f .aE=>aa 0| .f .es=>aa 0| .f (.fs _ l)=>aa l| _=>ab
def pK(g:Nat→Option cS)(sz:Nat):C→Option (List C)
 | .sl b o l _ d s=>match g b with
  | some (.box cs _)=>if o+l*sz≤cs.length then aa ((cs.drop o).take (l*sz))else ab| some (.bG s' cs _ e _)=>if d=e∧s=s'∧o+l*sz≤cs.length then aa ((cs.drop o).take (l*sz))else ab| _=>ab
 | .f .aE=>aa []| .f .es=>aa []| .f (.fs cs l)=>if cs.length=l*sz then aa (cs.map .f)else ab| _=>ab
def qw(g:Nat→Option cS):Jw→C→Option Bool
 | .ptr,.f .fY=>aa ae| .ptr,.f (.fp _ _)=>aa ag| .ptr,.ptr _ _ _=>aa ag| .sl,.f .aE=>aa ae| .sl,.f .es=>aa ag| .sl,.f (.fs _ _)=>aa ag
 | .sl,.sl b _ _ _ d sz=>match g b with
  | some (.box _ _)=>aa ag| some (.bG s _ _ e st)=>if d=e∧sz=s then aa (st == .nil)else ab| _=>ab
 | .fn,.f .jj=>aa ae| .fn,.f (.fn _ _)=>aa ag| .fn,.cl _ _=>aa ag| .fn,.bm _ _=>aa ag| .ifc,.f .lG=>aa ae| _,_=>ab
def afb(g:Nat→Option cS):Jw→V→V→Option Bool
 | .bool,.c x,.c y=>Ll .bool x y| .st ks,.a xs,.a ys=>qi ks xs ys| .ptr,.c x,.c (.f .fY)=>qw g .ptr x| .sl,.c x,.c (.f .aE)=>qw g .sl x| .fn,.c x,.c (.f .jj)=>qw g .fn x| .ifc,.c x,.c (.f .lG)=>qw g .ifc x| _,_,_=>ab
def sK(g:Nat→Option cS)(sz:Nat)(x:V)(lo hi mx:Option V):Option V:=
 match x with
 | .c (.f .aE)=>match cr 0 0 lo hi mx with
  | some _=>aa (.c (.f .aE))| none=>ab
 | .c (.f .es)=>match cr 0 0 lo hi mx with
  | some _=>aa (.c (.f .es))| none=>ab
 | .c (.f (.fs cs n))=>match cr n n lo hi mx with
  | some (l,h,m)=>
   if mx.isSome∧m=l then aa (.c (.f .es))else
   aa (.c (.f (.fs ((cs.drop (l*sz)).take ((h-l)*sz)) (h-l))))
  | none=>ab
 | .c (.sl b o n cap d s)=>match g b with
  | some (.box _ _)=>match cr n cap lo hi mx with
   | some (l,h,m)=>if m=l then aa (.c (.f .es))else aa (.c (.sl b (o+l*sz) (h-l) (m-l) d s))| none=>ab
  | some (.bG s' _ _ e st)=>
   if d=e∧s=sz∧s'=sz then
    match st with
    | .loc=>match cr n n lo hi mx with
     | some (l,h,m)=>
      if mx.isSome∧m=l then aa (.c (.f .es))
      else if l=h∧0<l then aa (.c (.f (.fs [] 0)))
      else if mx.isSome then ab
      else aa (.c (.sl b (o+l*sz) (h-l) 0 d s))
     | none=>ab
    | .nil=>match cr 0 0 lo hi mx with
     | some _=>aa (.c (.f .aE))| none=>ab
    | .es=>match cr 0 0 lo hi mx with
     | some _=>aa (.c (.f .es))| none=>ab
   else ab
  | _=>ab
 | _=>ab
def zm(g:Nat→Option cS)(n sz:Nat)(x:V)(lo hi mx:Option V):Option V:=
 match x with
 | .c (.ptr b off _)=>match g b with
  | some (.box cs _)=>match cr n n lo hi mx with
   | some (l,h,m)=>if off+n*sz≤cs.length then(if m=l then aa (.c (.f .es))else aa (.c (.sl b (off+l*sz) (h-l) (m-l) 0 sz)))else ab| none=>ab
  | _=>ab
 | .c (.f (.fp cs off))=>match cr n n lo hi mx with
   | some (l,h,m)=>if off+n*sz≤cs.length then(if m=l then aa (.c (.f .es))else aa (.c (.f (.fs ((cs.drop (off+l*sz)).take ((h-l)*sz)) (h-l)))))else ab| none=>ab
 | _=>ab
def tL(g:Nat→Option cS)(sz:Nat)(j:Option Nat)(x i:V):Option V:=
 match dy i with
 | none=>ab
 | some i=>
  if 0≤i then
   match j,x with
   | none,.c (.sl b o l _ d s)=>if i<l then
     (match g b with
      | some (.box _ _)=>aa (.c (.ptr b (o+i.toNat*sz) d))| some (.bG s' _ _ e .loc)=>if d=e∧s=s' then aa (.c (.ptr b (o+i.toNat*sz) d))else ab
      | _=>ab)else ab
   | none,.c (.f (.fs cs l))=>if i<l then aa (.c (.f (.fp cs (i.toNat*sz))))else ab| some n,.c (.ptr b o d)=>if i<n then aa (.c (.ptr b (o+i.toNat*sz) d))else ab| some n,.c (.f (.fp cs o))=>if i<n then aa (.c (.f (.fp cs (o+i.toNat*sz))))else ab| _,_=>ab
  else ab
def tS(g:Nat→Option cS)(d:CK)(z:FC):V→V→Option V
 | .c (.f .vq),.c (.f k)=>if isKey d k then aa (lkR z ab)else ab
 | .c (.mp b),.c (.f k)=>match g b with
  | some (.map j)=>if isKey d k then(mn d k j).map (lkR z)else ab| _=>ab
 | _,_=>ab
def Dt(g:Nat→Option cS):V→Option V
 | .c x=>match qT g x with
  | some _=>match pK g 1 x with
   | some cs=>(bj (fun c=>match c with | C.f (.int .u8 n)=>aa (UInt8.ofNat n.toNat) | _=>ab) cs).map fun l=>.c (.f (.str ⟨l.toArray⟩))
   | none=>ab
  | none=>ab
 | _=>ab
def oh(g:Nat→Option cS)(sz:Nat):V→Option (Nat × List C)
 | .c (.f (.str s))=>if sz=1 then aa (s.size,s.toList.map fun b=>.f (.int .u8 b.toNat))else ab
 | .c x=>match qT g x,pK g sz x with
  | some l,aa cs=>aa (l,cs)| _,_=>ab
 | _=>ab
def Ep(g:Nat→Option cS):C→Option Nat
 | .sl b _ _ c d sz=>match g b with
  | some (.box _ _)=>aa c| some (.bG s _ _ e .nil)=>if d=e∧sz=s then aa 0 else ab| some (.bG s _ _ e .es)=>if d=e∧sz=s then aa 0 else ab| _=>ab
 | .f .aE=>aa 0| .f .es=>aa 0| _=>ab
def yw(g:Nat→Option cS):V→Option V
 | .c (.mi b)=>match g b with
  | some (.uX m _ ae)=>match g m with
   | some (.map [e])=>aa (.t [.c (.f e.1),mV e.2])| _=>ab
  | _=>ab
 | _=>ab
def Xi(g:Nat→Option cS)(x:C)(xs:List C):Option AR:=
 match x with
 | .ptr b off j=>match g b with
  | some (.box cs d)=>if d≤off∧off+xs.length≤cs.length then aa (.set b (.box (over cs off xs) d))else ab| some (.bG sz cs d e .loc)=>if j=e∧d≤off∧off+xs.length≤cs.length then aa (.set b (.bG sz (over cs off xs) d e .loc))else ab| _=>ab
 | _=>ab
def D2(g:Nat→Option cS):V→Option (V × AR)
 | .c (.it b)=>match g b with
  | some (.it s pos)=>
   if pos<s.size then
    let r:=Utf8.decode s pos
    aa (.t [.bool ae,.int .i64 pos,.int .i32 r.1],.set b (.it s (pos+r.2)))
   else aa (.t [.bool ag],.no)
  | _=>ab
 | _=>ab
def tf(g:Nat→Option cS)(q:Nat)(sz bytes:Nat)(x y:V):Option (V × AR):=
 match oh g sz y with
 | none=>ab
 | some (m,ys)=>
  if sz=0 then ab else
  match x with
  | .c (.f .aE)=>if m=0 then aa (.c (.f .aE),.no)else
    if bN m bytes then aa (.c (.sl q 0 m 0 0 sz),.push (.bG sz ys 0 0 .loc))else ab
  | .c (.f .es)=>if m=0 then aa (.c (.f .es),.no)else
    if bN m bytes then aa (.c (.sl q 0 m 0 0 sz),.push (.bG sz ys 0 0 .loc))else ab
  | .c (.sl b o l cap j s)=>match g b with
   | some (.box cs d)=>
    if l+m≤cap then
     if d≤o+l*sz∧o+l*sz+ys.length≤cs.length then aa (.c (.sl b o (l+m) cap j s),.set b (.box (over cs (o+l*sz) ys) d))else ab
    else if bN (l+m) bytes∧o+l*sz≤cs.length then aa (.c (.sl q 0 (l+m) 0 0 sz),.push (.bG sz ((cs.drop o).take (l*sz)++ys) 0 0 .loc))else ab
   | some (.bG s' cs d e st)=>
    if j=e∧s'=sz∧s=sz then
     if m=0 then aa (x,.no)
     else if o=0∧l*sz=cs.length∧d≤cs.length then
      if bN (l+m) bytes then aa (.c (.sl b 0 (l+m) 0 (j+1) sz),.set b (.bG sz (cs++ys) d (e+1) .loc))else ab
     else if st=.loc∧d≤o+l*sz∧o+l*sz+ys.length≤cs.length then
      aa (.c (.sl b o (l+m) 0 j sz),.set b (.bG sz (over cs (o+l*sz) ys) d e .loc))
     else ab
    else ab
   | _=>ab
  | _=>ab
def Ds(g:Nat→Option cS)(sz:Nat)(x y:V):Option (V × AR):=
 match oh g sz y,x with
 | some _,.c (.f .aE)=>aa (.int .i64 0,.no)| some _,.c (.f .es)=>aa (.int .i64 0,.no)
 | some (m,ys),.c (.sl b o l _ j s')=>
  let n:=Nat.min m l
  match g b with
  | some (.box cs d)=>if d≤o∧o+n*sz≤cs.length then aa (.int .i64 n,.set b (.box (over cs o (ys.take (n*sz))) d))else ab| some (.bG s cs d e .loc)=>if j=e∧s'=s∧s=sz∧d≤o∧o+n*sz≤cs.length then aa (.int .i64 n,.set b (.bG s (over cs o (ys.take (n*sz))) d e .loc))else ab| _=>ab
 | _,_=>ab
def yk(g:Nat→Option cS)(sz:Nat)(zs:List FC)(x:V):Option AR:=
 match x with
 | .c y=>match qT g y with
  | some 0=>aa .no
  | some l=>
   if zs.length=sz then
    match y with
    | .sl b o _ _ d s=>match g b with
     | some (.box _ _)=>Xi g (.ptr b o d) ((bV l zs).map .f)| some (.bG s' _ _ e .loc)=>if d=e∧s=s' then Xi g (.ptr b o d) ((bV l zs).map .f)else ab| _=>ab
    | _=>ab
   else ab
  | none=>ab
 | _=>ab
def Eu(g:Nat→Option cS)(sz:Nat)(x hi mx:V):Option (V × AR):=
 match sK g sz x ab (aa hi) (aa mx)with
 | some v=>aa (v,.no)
 | none=>match x with
  | .c (.sl b o n _ d s)=>match g b with
   | some (.bG s' cs l e .loc)=>
    if d=e∧s=sz∧s'=sz∧o=0 then
     match CB hi n,CB mx n with
     | some i,aa j=>
      if i=j∧0<i∧i*sz≤cs.length then
       match bj fcC (cs.take (i*sz))with
       | some ys=>aa (.c (.f (.fs ys i)),.set b (.bG s' cs (Nat.max l (i*sz)) e .loc))| none=>ab
      else ab
     | _,_=>ab
    else ab
   | _=>ab
  | _=>ab
def Dj(g:Nat→Option cS)(b:Nat)(sz bytes:Nat)(zs:List FC)(x n:V):Option (V × AR):=
 match dy n with
 | some n=>
  if 0≤n∧zs.length=sz then
   match x with
   | .c (.f .aE)=>if n.toNat=0 then aa (.c (.f .aE),.no)else
     if bN n.toNat bytes then aa (.c (.sl b 0 n.toNat 0 0 sz),.push (.bG sz ((bV n.toNat zs).map .f) 0 0 .loc))else ab
   | .c (.f .es)=>if n.toNat=0 then aa (.c (.f .es),.no)else
     if bN n.toNat bytes then aa (.c (.sl b 0 n.toNat 0 0 sz),.push (.bG sz ((bV n.toNat zs).map .f) 0 0 .loc))else ab
   | _=>ab
  else ab
 | none=>ab
def yT(g:Nat→Option cS):V→Option (V × AR)
 | .c (.mi b)=>match g b with
  | some (.uX m d done)=>match g m with
   | some (.map [])=>if done then ab else aa (.t [.bool ag],.no)| some (.map [e])=>if done then aa (.t [.bool ag],.no)else if d=1 then aa (.t [.bool ae,.c (.f e.1),mV e.2],.set b (.uX m 1 ae))else ab| _=>ab
  | _=>ab
 | _=>ab
def uu(g:Nat→Option cS)(j:Nat):V→Option (V × AR)
 | .c (.mp b)=>match g b with
  | some (.map d)=>if d.length≤1 then aa (.c (.mi j),.push (.uX b d.length ag))else ab| _=>ab
 | _=>ab
def Xx(az:T)(g:Nat→Option cS)(d:Nat):cG→Option (V × AR)
 | .bB x=>aa (x.ev az,.no)| .pre o sz=>if o=.loc∨sz=0 then ab else aa (.c (.sl d 0 0 0 0 sz),.push (.bG sz [] 0 0 o))
 | .pick c a b=>match c.ev az with
  | .c (.f (.bool v))=>aa ((if v then a else b).ev az,.no)| _=>ab
 | .alloc zs=>aa (.c (.ptr d 0 0),.push (.box (zs.map .f) 0))
 | .box x=>match (x.ev az).cells? with
  | some xs=>aa (.c (.ptr d 0 0),.push (.box xs 0))| none=>ab
 | .build zs ps=>(dh az (zs.map .f) ps).map fun cs=>(.a cs,.no)
 | .aU sz zs n ps=>
  if n=0 then(if ps.isEmpty then aa (.c (.f .es),.no)else ab)else
  (dh az ((bV n zs).map .f) (ps.map fun p=>(p.1*sz,sz,p.2))).map fun cs=>(.c (.sl d 0 n n 0 sz),.push (.box cs 0))
 | .load n x=>(afA g n (x.ev az)).map (·,.no)
 | .store n x y=>match x.ev az,(y.ev az).cells? with
  | .c p,aa xs=>if xs.length=n then(Xi g p xs).map (.top,·)else ab| _,_=>ab
 | .bw x=>match x.ev az with
  | .c (.ptr b o e)=>aa (.c (.ptr b o e),.no)| .c (.f (.fp cs o))=>aa (.c (.f (.fp cs o)),.no)| _=>ab
 | .bin op x y=>(bM op (x.ev az) (y.ev az)).map (·,.no)| .eq neg k x y=>(afb g k (x.ev az) (y.ev az)).map fun b=>(.bool (if neg then !b else b),.no)
 | .un op x=>(unV op (x.ev az)).map (·,.no)
 | .eM k x=>match x.ev az with
  | .c (.f (.int _ n))=>aa (.int k (k.wrap n),.no)| _=>ab
 | .yo x=>match x.ev az with
  | .c (.f (.str s))=>aa (.c (.f (.str s)),.no)| _=>ab
 | .vk x=>(Dt g (x.ev az)).map (·,.no)
 | .Du x=>match x.ev az with
  | .c (.f (.str s))=>if s.size<2 ^ 48 then aa (.c (.sl d 0 s.size 0 0 1),.push (.bG 1 (s.toList.map fun b=>.f (.int .u8 b.toNat)) 0 0 .loc))else ab
  | _=>ab
 | .jZ f j=>(bj rS (c8 az j)).map fun xs=>(.c (.cl f xs),.no)
 | .jt=>aa (.c (.mp d),.push (.map []))| .lookup q z m k=>(tS g q z (m.ev az) (k.ev az)).map (·,.no)
 | .jr q m k v=>match m.ev az,k.ev az,rj (v.ev az)with
  | .c (.mp b),.c (.f k),aa v=>match g b with
   | some (.map A)=>if isKey q k then(xj q k v A).map fun A=>(.top,.set b (.map A))else ab
   | _=>ab
  | _,_,_=>ab
 | .cE sz bytes zs l c=>match dy (l.ev az),dy (c.ev az)with
  | some l,aa c=>
   if 0≤l∧l≤c∧bN c.toNat bytes=ae∧zs.length=sz then
    (if c=0 then aa (.c (.f .es),.no)else
    aa (.c (.sl d 0 l.toNat c.toNat 0 sz),.push (.box ((bV c.toNat zs).map .f) 0)))
   else ab
  | _,_=>ab
 | .slice sz x lo hi mx=>(sK g sz (x.ev az) (lo.map (·.ev az)) (hi.map (·.ev az)) (mx.map (·.ev az))).map (·,.no)| .nw n sz x lo hi mx=>(zm g n sz (x.ev az) (lo.map (·.ev az)) (hi.map (·.ev az)) (mx.map (·.ev az))).map (·,.no)| .pM x lo hi=>(uF (x.ev az) (lo.map (·.ev az)) (hi.map (·.ev az))).map (·,.no)| .aB off x=>(im off (x.ev az)).map (·,.no)| .field off n x=>(lX off n (x.ev az)).map (·,.no)| .aV sz u x i=>(tL g sz u (x.ev az) (i.ev az)).map (·,.no)| .idxs x i=>(Bh (x.ev az) (i.ev az)).map (·,.no)| .oE len sz n x i=>(lh len sz n (x.ev az) (i.ev az)).map (·,.no)
 | .range x=>match x.ev az with
  | .c (.f (.str s))=>aa (.c (.it d),.push (.it s 0))| _=>ab
 | .next x=>D2 g (x.ev az)
 | .extract x i=>match x.ev az with
  | .t E=>(E[i]?).map (·,.no)| _=>ab
 | .tP n=>aa (.int .i64 n,.no)
 | .lens x=>match x.ev az with
  | .c (.f (.str s))=>aa (.int .i64 (s.size:Nat),.no)| _=>ab
 | .len x=>match x.ev az with
  | .c y=>match qT g y with
   | some n=>aa (.int .i64 (n:Nat),.no)| none=>ab
  | _=>ab
 | .append sz bytes x y=>tf g d sz bytes (x.ev az) (y.ev az)| .copy sz x y=>Ds g sz (x.ev az) (y.ev az)| .mh lo xs=>(Ku lo (c8 az xs)).map (·,.no)| .clear sz zs x=>(yk g sz zs (x.ev az)).map (.t [],·)| .gu sz zs n ps=>((dh az ((bV n zs).map .f) (ps.map fun p=>(p.1*sz,sz,p.2))).bind fun cs=>if n=0 then ab else fcL cs).map fun B=>(.c (.f (.fs B n)),.no)
 | .vG sz x hi mx=>Eu g sz (x.ev az) (hi.ev az) (mx.ev az)| .rQ sz bytes zs x n=>Dj g d sz bytes zs (x.ev az) (n.ev az)| .kS x=>uu g d (x.ev az)| .oO x=>yT g (x.ev az)| .entry x=>(yw g (x.ev az)).map (·,.no)| .vm f xs=>(bj rS (c8 az xs)).map fun xs=>(.c (.bm f xs),.no)
 | .cap x=>match x.ev az with
  | .c y=>match Ep g y with
   | some n=>aa (.int .i64 (n:Nat),.no)| none=>ab
  | _=>ab
 | _=>ab
def gt(H:aj):Nat→Option cS:=fun b=>H[b]?
theorem A7(H:aj):tk (gt H)=aF H:=by funext x;unfold tk aF gt;rfl
theorem abB(H:aj):afA (gt H)=aX H:=by funext n x;unfold afA aX;rw [A7];rfl
theorem mW(H:aj):qT (gt H)=bE H:=by funext x;unfold qT bE gt;rfl
theorem rK(H:aj):pK (gt H)=cF H:=by funext n x;unfold pK cF gt;rfl
theorem Kd(H:aj):qw (gt H)=isNil H:=by funext k x;unfold qw isNil gt;rfl
theorem aa6(H:aj):afb (gt H)=wI H:=by funext k x y;unfold afb wI;rw [Kd];rfl
theorem uE(H:aj):sK (gt H)=fq H:=by funext n x a b c;unfold sK fq gt;rfl
theorem Es(H:aj):zm (gt H)=jJ H:=by funext m n x a b c;unfold zm jJ gt;rfl
theorem Bi(H:aj):tL (gt H)=aL H:=by funext n a x i;unfold tL aL gt;rfl
theorem Br(H:aj):tS (gt H)=fW H:=by funext k z x y;unfold tS fW gt;rfl
theorem JL(H:aj):Dt (gt H)=nr H:=by funext x;unfold Dt nr;rw [mW,rK];rfl
theorem nA(H:aj):oh (gt H)=cT H:=by funext n x;unfold oh cT;rw [mW,rK];rfl
theorem KZ(H:aj):Ep (gt H)=lz H:=by funext x;unfold Ep lz gt;rfl
theorem Dv(H:aj):yw (gt H)=kD H:=by funext x;unfold yw kD gt;rfl
def iO(H:aj)(r:Option (V × AR)):Option (V × aj):=r.map fun r=>(r.1,r.2.app H)
theorem zp(H:aj)(x:C)(xs:List C):(Xi (gt H) x xs).map (·.app H)=df H x xs:=by
 cases x with
 | ptr b off g=>
  simp only [Xi,df,gt];cases h:H[b]? with
  | none=>rfl
  | some bq=>
   cases bq with
   | box cs d=>simp only;split<;>rfl
   | bG sz cs d e st=>cases st<;>simp only<;>first | rfl | (split<;>rfl)
   | _=>rfl
 | _=>rfl
theorem Ky(H:aj)(x:V):iO H (D2 (gt H) x)=Ft H x:=by
 cases x with
 | c x=>
  cases x with
  | it b=>
   simp only [D2,Ft,gt,iO];cases h:H[b]? with
   | none=>rfl
   | some bq=>
    cases bq with
    | it s pos=>simp only;split<;>rfl
    | _=>rfl
  | _=>rfl
 | _=>rfl
theorem JK(H:aj)(sz:Nat)(x y:V):iO H (Ds (gt H) sz x y)=copyV H sz x y:=by
 unfold Ds copyV iO;rw [nA];cases j:cT H sz y with
 | none=>rfl
 | some r=>
  obtain⟨m,ys⟩:=r;cases x with
  | c x=>
   cases x with
   | f x=>cases x<;>rfl
   | sl b o l cap g s=>
    simp only [gt];cases h:H[b]? with
    | none=>rfl
    | some bq=>
     cases bq with
     | box cs d=>simp only;split<;>rfl
     | bG sz cs d e st=>cases st<;>simp only<;>first | rfl | (split<;>rfl)
     | _=>rfl
   | _=>rfl
  | _=>rfl
theorem AZ(H:aj)(sz bytes:Nat)(x y:V):iO H (tf (gt H) H.length sz bytes x y)=bX H sz bytes x y:=by
 unfold tf bX iO;rw [nA];cases q:cT H sz y with
 | none=>rfl
 | some r=>
  obtain⟨m,ys⟩:=r;simp only;by_cases d:sz=0
  ·simp [d]
  ·simp only [d,if_false];cases x with
   | c x=>
    cases x with
    | f x=>cases x<;>first | rfl | (simp only;repeat' (first | rfl | split))
    | sl b o l cap j s=>
     simp only [gt];cases h:H[b]? with
     | none=>rfl
     | some bq=>
      cases bq with
      | box cs g=>simp only;repeat' (first | rfl | split)
      | bG sz cs g e st=>simp only;repeat' (first | rfl | split)
      | _=>rfl
    | _=>rfl
   | _=>rfl
theorem Dq(H:aj)(sz:Nat)(zs:List FC)(x:V):(yk (gt H) sz zs x).map (·.app H)=tq H sz zs x:=by
 unfold yk tq;cases x with
 | c y=>
  simp only [mW];cases bE H y with
  | none=>rfl
  | some l=>
   cases l with
   | zero=>rfl
   | succ l=>
    simp only;split
    ·cases y with
     | sl b o j c g s=>
      simp only [gt];cases h:H[b]? with
      | none=>rfl
      | some bq=>
       cases bq with
       | box cs d=>exact zp H _ _
       | bG s' cs d e st=>
        cases st<;>simp only<;>first | rfl | skip
        split
        ·exact zp H _ _
        ·rfl
       | _=>rfl
     | _=>rfl
    ·rfl
 | _=>rfl
theorem JE(H:aj)(sz bytes:Nat)(zs:List FC)(x n:V):iO H (Dj (gt H) H.length sz bytes zs x n)=EV H sz bytes zs x n:=by
 unfold Dj EV iO;cases dy n with
 | none=>rfl
 | some n=>
  simp only;split
  ·cases x with
   | c x=>
    cases x with
    | f x=>cases x<;>first | rfl | (simp only;repeat' (first | rfl | split))
    | _=>rfl
   | _=>rfl
  ·rfl
theorem La(H:aj)(sz:Nat)(x hi mx:V):iO H (Eu (gt H) sz x hi mx)=Cf H sz x hi mx:=by
 unfold Eu Cf iO;rw [uE];cases fq H sz x ab (aa hi) (aa mx)with
 | some v=>rfl
 | none=>
  simp only;cases x with
  | c x=>
   cases x with
   | sl b o n c d s=>
    simp only [gt];cases H[b]? with
    | none=>rfl
    | some bq=>
     cases bq with
     | bG s' cs g e st=>
      cases st<;>simp only<;>first | rfl | skip
      split
      ·cases CB hi n<;>cases CB mx n<;>simp only<;>first | rfl | skip
       split
       ·cases bj fcC (List.take _ cs)<;>rfl
       ·rfl
      ·rfl
     | _=>rfl
   | _=>rfl
  | _=>rfl
theorem D3(H:aj)(x:V):iO H (yT (gt H) x)=yS H x:=by
 cases x with
 | c x=>
  cases x with
  | mi b=>
   simp only [yT,yS,gt,iO];cases h:H[b]? with
   | none=>rfl
   | some bq=>
    cases bq with
    | uX m g done=>
     simp only;cases l:H[m]? with
     | none=>rfl
     | some d=>
      cases d with
      | map j=>
       match j with
       | []=>simp only;split<;>rfl
       | [e]=>simp only;repeat' (first | rfl | split)
       | _::_::_=>rfl
      | _=>rfl
    | _=>rfl
  | _=>rfl
 | _=>rfl
theorem BZ(H:aj)(x:V):iO H (uu (gt H) H.length x)=sG H x:=by
 cases x with
 | c x=>
  cases x with
  | mp b=>
   simp only [uu,sG,gt,iO];cases h:H[b]? with
   | none=>rfl
   | some bq=>
    cases bq with
    | map d=>simp only;split<;>rfl
    | _=>rfl
  | _=>rfl
 | _=>rfl
theorem ET{H:aj}(o:Option V):iO H (o.map (·,.no))=o.map (·,H):=by cases o<;>rfl
theorem zA(az:T)(H:aj)(op:cG):iO H (Xx az (gt H) H.length op)=bs az H op:=by
 cases op<;>simp only [Xx,bs,ET,abB,uE,Es,Bi,Br,JL,AZ,JK,Ky,JE,La,D3,BZ,Dv]
 all_goals first | rfl | skip
 case pre o sz=>split<;>rfl
 case pick c a b=>
  generalize c.ev az=v;cases v<;>try rfl
  rename_i x;cases x<;>try rfl
  rename_i x;cases x<;>rfl
 case box x=>generalize (x.ev az).cells?=o;cases o<;>rfl
 case build zs ps=>cases dh az (zs.map .f) ps<;>rfl
 case aU sz zs n ps=>
  split
  ·split<;>rfl
  ·simp only [iO,arS];rfl
 case gu sz zs n ps=>
  generalize (dh az ((bV n zs).map .f) (ps.map fun p=>(p.1*sz,sz,p.2))).bind (fun cs=>if n=0 then ab else fcL cs)=o;cases o<;>rfl
 case store n x y=>
  generalize x.ev az=v;generalize (y.ev az).cells?=o;cases v<;>cases o<;>try rfl
  simp only;split
  ·rw [←zp];simp only [iO,arS];rfl
  ·rfl
 case bw x=>
  generalize x.ev az=v;cases v<;>try rfl
  rename_i x;cases x<;>try rfl
  rename_i x;cases x<;>rfl
 case eq neg k x y=>rw [aa6];simp only [iO,arS];rfl
 case eM k x=>
  generalize x.ev az=v;cases v<;>try rfl
  rename_i x;cases x<;>try rfl
  rename_i x;cases x<;>rfl
 case yo x=>
  generalize x.ev az=v;cases v<;>try rfl
  rename_i x;cases x<;>try rfl
  rename_i x;cases x<;>rfl
 case Du x=>
  generalize x.ev az=v;cases v<;>try rfl
  rename_i x;cases x<;>try rfl
  rename_i x;cases x<;>try rfl
  simp only;split<;>rfl
 case jZ f d=>simp only [iO,arS];rfl
 case jr g m k v=>
  generalize m.ev az=m;generalize k.ev az=k;generalize rj (v.ev az)=v;cases m<;>try rfl
  rename_i m;cases m<;>try rfl
  cases k<;>try rfl
  rename_i k;cases k<;>try rfl
  cases v<;>try rfl
  simp only [gt];rename_i b k v;cases H[b]? with
  | none=>rfl
  | some bq=>
   cases bq<;>try rfl
   simp only;split
   ·simp only [iO,arS];rfl
   ·rfl
 case cE sz bytes zs l c=>
  generalize dy (l.ev az)=l;generalize dy (c.ev az)=c;cases l<;>cases c<;>try rfl
  simp only;split
  ·split<;>rfl
  ·rfl
 case range x=>
  generalize x.ev az=v;cases v<;>try rfl
  rename_i x;cases x<;>try rfl
  rename_i x;cases x<;>rfl
 case extract x i=>
  generalize x.ev az=v;cases v<;>try rfl
  simp only [ET]
 case len x=>
  generalize x.ev az=v;cases v<;>try rfl
  rw [mW];simp only;rename_i y;cases bE H y<;>rfl
 case lens x=>
  generalize x.ev az=v;cases v<;>try rfl
  rename_i x;cases x<;>try rfl
  rename_i x;cases x<;>rfl
 case clear sz zs x=>rw [←Dq];simp only [iO,arS];rfl
 case vm f d=>simp only [iO,arS];rfl
 case cap x=>
  generalize x.ev az=v;cases v<;>try rfl
  rw [KZ];simp only;rename_i y;cases lz H y<;>rfl
section
set_option linter.unusedVariables false
inductive BT(α:Type) where
 | e
 | n (l:BT α) (x:α) (r:BT α)
def BT.get{d:Type}:BT d→Nat→Option d
 | .e,_=>ab
 | .n l x r,b=>match b with
  | 0=>aa x| m+1=>if m % 2=0 then l.get (m / 2)else r.get (m / 2)
abbrev HT:=BT cS
def fQ{j:Type}(b:Nat)(t:BT j)(k:j→Prop):Prop:=
 BT.rec (motive:=fun _=>Nat→Prop) (fun _=>False)
  (fun _ x _ d g b=>Nat.rec (motive:=fun _=>Prop) (k x) (fun m _=>Nat.rec (motive:=fun _=>Prop) (d (Nat.div m 2)) (fun _ _=>g (Nat.div m 2)) (Nat.mod m 2)) b) t b
def fR{d:Type}(x:d)(t:BT d):Nat→(BT d→Prop)→Prop:=
 BT.rec (motive:=fun _=>Nat→(BT d→Prop)→Prop) (fun _ _=>False)
  (fun l y r g j b k=>Nat.rec (motive:=fun _=>Prop) (k (.n l x r))
   (fun m _=>Nat.rec (motive:=fun _=>Prop) (g (Nat.div m 2) fun q=>k (.n q y r)) (fun _ _=>j (Nat.div m 2) fun r'=>k (.n l y r')) (Nat.mod m 2)) b) t
def yc{d:Type}(x:d)(t:BT d):Nat→(BT d→Prop)→Prop:=
 BT.rec (motive:=fun _=>Nat→(BT d→Prop)→Prop) (fun b k=>Nat.rec (motive:=fun _=>Prop) (k (.n .e x .e)) (fun _ _=>False) b)
  (fun l y r g j b k=>Nat.rec (motive:=fun _=>Prop) False
   (fun m _=>Nat.rec (motive:=fun _=>Prop) (g (Nat.div m 2) fun q=>k (.n q y r)) (fun _ _=>j (Nat.div m 2) fun r'=>k (.n l y r')) (Nat.mod m 2)) b) t
theorem VV(m:Nat):m % 2=0∨m % 2=1:=by omega
theorem dd{u:Type}{t:BT u}:∀ {b:Nat} {k:u→Prop},fQ b t k→∃ x,t.get b=aa x∧k x:=by
 induction t with
 | e=>intro b k h;exact h.elim
 | n l x r q s=>
  intro b k h;cases b with
  | zero=>exact⟨x,rfl,h⟩
  | succ m=>
   have j:Nat.rec (motive:=fun _=>Prop) (fQ (m / 2) l k) (fun _ _=>fQ (m / 2) r k) (m % 2):=h;rcases VV m with e | e<;>rw [e]at j
   ·obtain⟨y,d,g⟩:=q j;exact⟨y,by simp [BT.get,e,d],g⟩
   ·obtain⟨y,d,g⟩:=s j;exact⟨y,by simp [BT.get,e,d],g⟩
def nm{d:Type}(t g:BT d)(b:Nat)(x:d):Prop:=∀ i,g.get i=if i=b then aa x else t.get i
theorem nm.left{g:Type}{l d r:BT g}{y x:g}{m:Nat}(e:m % 2=0)(h:nm l d (m / 2) x):nm (.n l y r) (.n d y r) (m+1) x:=by
 intro i;cases i with
 | zero=>simp [BT.get]
 | succ j=>
  simp only [BT.get,h (j / 2)];rcases VV j with b | b
  ·have:(j / 2=m / 2)↔(j=m):=by omega
   simp [b,this]
  ·have:j≠m:=by omega
   simp [b,this]
theorem nm.right{d:Type}{l r' r:BT d}{y x:d}{m:Nat}(e:m % 2=1)(h:nm r r' (m / 2) x):nm (.n l y r) (.n l y r') (m+1) x:=by
 intro i;cases i with
 | zero=>simp [BT.get]
 | succ j=>
  simp only [BT.get,h (j / 2)];rcases VV j with b | b
  ·have:j≠m:=by omega
   simp [b,this]
  ·have:(j / 2=m / 2)↔(j=m):=by omega
   simp [b,this]
theorem U3{A:Type}{x:A}{t:BT A}:∀ {b:Nat} {k:BT A→Prop},fR x t b k→∃ B,nm t B b x∧(∃ y,t.get b=aa y)∧k B:=by
 induction t with
 | e=>intro b k h;exact h.elim
 | n l y r s u=>
  intro b k h;cases b with
  | zero=>
   refine⟨.n l x r,fun i=>?_,⟨y,rfl⟩,h⟩;cases i<;>simp [BT.get]
  | succ m=>
   have q:Nat.rec (motive:=fun _=>Prop) (fR x l (m / 2) fun v=>k (.n v y r)) (fun _ _=>fR x r (m / 2) fun r'=>k (.n l y r')) (m % 2):=h;rcases VV m with e | e<;>rw [e]at q
   ·obtain⟨v,d,⟨z,g⟩,j⟩:=s q;exact⟨_,d.left e,⟨z,by simp [BT.get,e,g]⟩,j⟩
   ·obtain⟨v,d,⟨z,g⟩,j⟩:=u q;exact⟨_,d.right e,⟨z,by simp [BT.get,e,g]⟩,j⟩
theorem JG{v:Type}{x:v}{t:BT v}:∀ {b:Nat} {k:BT v→Prop},yc x t b k→∃ z,nm t z b x∧k z:=by
 induction t with
 | e=>
  intro b k h;cases b with
  | zero=>
   refine⟨.n .e x .e,fun i=>?_,h⟩;cases i<;>simp [BT.get]
  | succ m=>exact h.elim
 | n l y r q s=>
  intro b k h;cases b with
  | zero=>exact h.elim
  | succ m=>
   have j:Nat.rec (motive:=fun _=>Prop) (yc x l (m / 2) fun u=>k (.n u y r)) (fun _ _=>yc x r (m / 2) fun r'=>k (.n l y r')) (m % 2):=h;rcases VV m with e | e<;>rw [e]at j
   ·obtain⟨u,d,g⟩:=q j;exact⟨_,d.left e,g⟩
   ·obtain⟨u,d,g⟩:=s j;exact⟨_,d.right e,g⟩
def cH(H:aj)(t:HT):Prop:=t.get=gt H
theorem cH.nil:cH [] .e:=by funext b;simp [BT.get,gt]
theorem cH.set{H:aj}{t g:HT}(h:cH H t){b:Nat}{x:cS}(l:nm t g b x)(j:∃ y,t.get b=aa y):cH (H.set b x) g:=by
 funext i;obtain⟨y,hy⟩:=j;rw [h]at hy;have d:b<H.length:=(By.1 hy).1;rw [l i,h];simp only [gt];by_cases e:i=b
 ·subst e;simp [d]
 ·simp [e,AT (Ne.symm e)]
theorem cH.push{H:aj}{t b:HT}(h:cH H t){x:cS}(d:nm t b H.length x):cH (H++[x]) b:=by
 funext i;rw [d i,h];simp only [gt];by_cases e:i=H.length
 ·subst e;simp
 ·by_cases hi:i<H.length
  ·simp [e,List.getElem?_append_left hi]
  ·rw [aqJ (by omega)];have:i-H.length≠0:=by omega
   simp [e,arD (l:=H) (i:=i) (by omega),this]
def bS(n:Nat)(k:Nat→Prop):Prop:=Nat.rec (motive:=fun _=>Prop) (k 0) (fun m _=>k (Nat.succ m)) n
def qm(n:Int)(k:Int→Prop):Prop:=Int.rec (motive:=fun _=>Prop) (fun n=>bS n fun n=>k (.ofNat n)) (fun n=>bS n fun n=>k (.negSucc n)) n
def lY(b:Bool)(k:Bool→Prop):Prop:=Bool.rec (motive:=fun _=>Prop) (k ag) (k ae) b
theorem bU(n:Nat)(k:Nat→Prop):bS n k=k n:=by cases n<;>rfl
theorem wM(n:Int)(k:Int→Prop):qm n k=k n:=by cases n<;>simp only [qm,bU]
theorem gr(b:Bool)(k:Bool→Prop):lY b k=k b:=by cases b<;>rfl
def Dy(x:FC)(k:FC→Prop):Prop:=match x with
 | .bool b=>lY b fun b=>k (.bool b)
 | .int j n=>qm n fun n=>k (.int j n)
 | .fp cs o=>bS o fun o=>k (.fp cs o)
 | .fs cs l=>bS l fun l=>k (.fs cs l)
 | x=>k x
theorem JV(x:FC)(k:FC→Prop):Dy x k=k x:=by cases x<;>simp only [Dy,bU,wM,gr]
def qj(x:C)(k:C→Prop):Prop:=match x with
 | .f x=>Dy x fun x=>k (.f x)
 | .ptr b o e=>bS b fun b=>bS o fun o=>bS e fun e=>k (.ptr b o e)
 | .sl b o l c e s=>bS b fun b=>bS o fun o=>bS l fun l=>bS c fun c=>bS e fun e=>bS s fun s=>k (.sl b o l c e s)
 | x=>k x
theorem qk(x:C)(k:C→Prop):qj x k=k x:=by cases x<;>simp only [qj,bU,JV]
def lZ(xs:List C):(List C→Prop)→Prop:=
 List.rec (motive:=fun _=>(List C→Prop)→Prop) (fun k=>k []) (fun x _ b k=>qj x fun x=>b fun xs=>k (x::xs)) xs
theorem jV:∀(xs:List C) (k:List C→Prop),lZ xs k=k xs
 | [],k=>rfl
 | x::xs,k=>by
  show qj x (fun x=>lZ xs fun xs=>k (x::xs))=_;rw [qk,jV xs]
def sm(v:V)(k:V→Prop):Prop:=match v with
 | .c x=>qj x fun x=>k (.c x)
 | .a xs=>lZ xs fun xs=>k (.a xs)
 | v=>k v
theorem Dz(v:V)(k:V→Prop):sm v k=k v:=by cases v<;>simp only [sm,qk,jV]
def yA(xs:List V):(List V→Prop)→Prop:=
 List.rec (motive:=fun _=>(List V→Prop)→Prop) (fun k=>k []) (fun x _ b k=>sm x fun x=>b fun xs=>k (x::xs)) xs
theorem tH:∀(xs:List V) (k:List V→Prop),yA xs k=k xs
 | [],k=>rfl
 | x::xs,k=>by
  show sm x (fun x=>yA xs fun xs=>k (x::xs))=_;rw [Dz,tH xs]
def kF(v:V)(k:V→Prop):Prop:=match v with
 | .c x=>qj x fun x=>k (.c x)
 | .a xs=>lZ xs fun xs=>k (.a xs)
 | .t b=>yA b fun b=>k (.t b)
 | .top=>k .top
theorem qn(v:V)(k:V→Prop):kF v k=k v:=by cases v<;>simp only [kF,qk,jV,tH]
def qo(x:cS)(k:cS→Prop):Prop:=match x with
 | .box cs b=>lZ cs fun cs=>bS b fun b=>k (.box cs b)
 | .bG sz cs b e st=>lZ cs fun cs=>bS b fun b=>bS e fun e=>k (.bG sz cs b e st)
 | .it s p=>bS p fun p=>k (.it s p)
 | x=>k x
theorem wN(x:cS)(k:cS→Prop):qo x k=k x:=by cases x<;>simp only [qo,bU,jV]
def Bg(p:P):T→(V→Prop)→Prop:=
 P.rec (motive:=fun _=>T→(V→Prop)→Prop)
  (fun t k=>T.rec (motive:=fun _=>Prop) (k .top) (fun _ v _ _ _=>k v) t)
  (fun _ b t k=>T.rec (motive:=fun _=>Prop) (k .top) (fun l _ _ _ _=>b l k) t)
  (fun _ b t k=>T.rec (motive:=fun _=>Prop) (k .top) (fun _ _ r _ _=>b r k) t) p
theorem mN:∀(p:P) (t:T) (k:V→Prop),Bg p t k=k (t.get p)
 | .h,.e,k=>rfl| .h,.n _ _ _,k=>rfl| .o p,.e,k=>rfl| .o p,.n l _ _,k=>mN p l k| .i p,.e,k=>rfl| .i p,.n _ _ r,k=>mN p r k
def acS(p:P)(w:V):T→(T→Prop)→Prop:=
 P.rec (motive:=fun _=>T→(T→Prop)→Prop)
  (fun t k=>T.rec (motive:=fun _=>Prop) (k (.n .e w .e)) (fun l _ r _ _=>k (.n l w r)) t)
  (fun _ b t k=>T.rec (motive:=fun _=>Prop) (b .e fun l=>k (.n l .top .e)) (fun l v r _ _=>b l fun l=>k (.n l v r)) t)
  (fun _ b t k=>T.rec (motive:=fun _=>Prop) (b .e fun r=>k (.n .e .top r)) (fun l v r _ _=>b r fun r=>k (.n l v r)) t) p
theorem mU(w:V):∀(p:P) (t:T) (k:T→Prop),acS p w t k=k (t.set p w)
 | .h,.e,k=>rfl| .h,.n _ _ _,k=>rfl| .o p,.e,k=>mU w p .e _| .o p,.n l _ _,k=>mU w p l _| .i p,.e,k=>mU w p .e _| .i p,.n _ _ r,k=>mU w p r _
def oy(x:Arg)(r:T)(k:V→Prop):Prop:=Arg.rec (motive:=fun _=>Prop) (fun p=>Bg p r k) (fun v=>k v) x
theorem cX(x:Arg)(r:T)(k:V→Prop):oy x r k=k (x.ev r):=by cases x;exact mN _ _ _;rfl
def A1(xs:List Arg)(r:T):(List V→Prop)→Prop:=
 List.rec (motive:=fun _=>(List V→Prop)→Prop) (fun k=>k []) (fun x _ b k=>oy x r fun v=>b fun d=>k (v::d)) xs
theorem oq(r:T):∀(xs:List Arg) (k:List V→Prop),A1 xs r k=k (c8 r xs)
 | [],k=>rfl
 | x::xs,k=>by
  show oy x r (fun v=>A1 xs r fun b=>k (v::b))=_;rw [cX,oq r xs];rfl
def agY(d:Option P)(r:T)(v:V)(k:T→Prop):Prop:=Option.rec (motive:=fun _=>Prop) (k r) (fun d=>acS d v r k) d
theorem FM(d:Option P)(r:T)(v:V)(k:T→Prop):agY d r v k=k (jb r d v):=by cases d;rfl;exact mU _ _ _ _
def sI(ps:List P):List V→T→(T→Prop)→Prop:=
 List.rec (motive:=fun _=>List V→T→(T→Prop)→Prop) (fun _ r k=>k r)
  (fun p _ d b r k=>List.rec (motive:=fun _=>Prop) (k r) (fun v b _=>acS p v r fun r=>d b r k) b) ps
theorem nN:∀(ps:List P) (b:List V) (r:T) (k:T→Prop),sI ps b r k=k (cu ps b r)
 | [],b,r,k=>by cases b<;>rfl
 | p::ps,[],r,k=>rfl
 | p::ps,v::b,r,k=>by
  show acS p v r (fun r=>sI ps b r k)=_;rw [mU,nN ps];rfl
def abQ{b:Type}(n:Nat):List b→(b→Prop)→Prop:=
 Nat.rec (motive:=fun _=>List b→(b→Prop)→Prop) (fun xs k=>List.rec (motive:=fun _=>Prop) False (fun x _ _=>k x) xs)
  (fun _ d xs k=>List.rec (motive:=fun _=>Prop) False (fun _ xs _=>d xs k) xs) n
theorem sw{b:Type}:∀ {n:Nat} {xs:List b} {k:b→Prop},abQ n xs k→∃ x,xs[n]?=aa x∧k x
 | 0,[],_,h=>h.elim| 0,x::_,_,h=>⟨x,rfl,h⟩| n+1,[],_,h=>h.elim| n+1,_::xs,k,h=>sw (n:=n) (xs:=xs) (k:=k) h
def tz{b:Type}(n:Nat):List b→(List b→Prop)→Prop:=
 Nat.rec (motive:=fun _=>List b→(List b→Prop)→Prop) (fun xs k=>k xs)
  (fun _ d xs k=>List.rec (motive:=fun _=>Prop) (k []) (fun _ xs _=>d xs k) xs) n
theorem lT{b:Type}:∀(n:Nat) (xs:List b) (k:List b→Prop),tz n xs k=k (xs.drop n)
 | 0,xs,k=>rfl| n+1,[],k=>rfl| n+1,_::xs,k=>lT n xs k
def qh{b:Type}(n:Nat):List b→(List b→Prop)→Prop:=
 Nat.rec (motive:=fun _=>List b→(List b→Prop)→Prop) (fun xs k=>k xs)
  (fun _ d xs k=>List.rec (motive:=fun _=>Prop) False (fun _ xs _=>d xs k) xs) n
theorem iH{b:Type}:∀ {n:Nat} {xs:List b} {k:List b→Prop},qh n xs k→n≤xs.length∧k (xs.drop n)
 | 0,xs,k,h=>⟨by simp,h⟩
 | n+1,[],k,h=>h.elim
 | n+1,x::xs,k,h=>by
  obtain⟨g,d⟩:=iH (n:=n) (xs:=xs) (k:=k) h;exact⟨by simp;omega,d⟩
def lD{b:Type}(n:Nat):List b→(List b→Prop)→Prop:=
 Nat.rec (motive:=fun _=>List b→(List b→Prop)→Prop) (fun _ k=>k [])
  (fun _ d xs k=>List.rec (motive:=fun _=>Prop) False (fun x xs _=>d xs fun ys=>k (x::ys)) xs) n
theorem fA{b:Type}:∀ {n:Nat} {xs:List b} {k:List b→Prop},lD n xs k→n≤xs.length∧k (xs.take n)
 | 0,xs,k,h=>⟨by simp,by have d:k []:=h;simpa using d⟩
 | n+1,[],k,h=>h.elim
 | n+1,x::xs,k,h=>by
  obtain⟨j,g⟩:=fA (n:=n) (xs:=xs) (k:=fun ys=>k (x::ys)) h;exact⟨by simp;omega,by simpa using g⟩
def ajc{b:Type}(xs:List b):List b→(List b→Prop)→Prop:=
 List.rec (motive:=fun _=>List b→(List b→Prop)→Prop) (fun cs k=>k cs)
  (fun x _ d cs k=>List.rec (motive:=fun _=>Prop) False (fun _ cs _=>d cs fun ys=>k (x::ys)) cs) xs
theorem Fk{b:Type}:∀ {xs cs:List b} {k:List b→Prop},ajc xs cs k→xs.length≤cs.length∧k (xs++cs.drop xs.length)
 | [],cs,k,h=>⟨by simp,by have d:k cs:=h;simpa using d⟩
 | x::xs,[],k,h=>h.elim
 | x::xs,c::cs,k,h=>by
  obtain⟨j,g⟩:=Fk (xs:=xs) (cs:=cs) (k:=fun ys=>k (x::ys)) h;exact⟨by simp;omega,by simpa using g⟩
def ue{b:Type}(xs:List b)(off:Nat):List b→(List b→Prop)→Prop:=
 Nat.rec (motive:=fun _=>List b→(List b→Prop)→Prop) (fun cs k=>ajc xs cs k)
  (fun _ d cs k=>List.rec (motive:=fun _=>Prop) False (fun c cs _=>d cs fun ys=>k (c::ys)) cs) off
theorem kd{d:Type}{xs:List d}:∀ {off:Nat} {cs:List d} {k:List d→Prop},ue xs off cs k→off+xs.length≤cs.length∧k (over cs off xs)
 | 0,cs,k,h=>by
  obtain⟨g,b⟩:=Fk (xs:=xs) (cs:=cs) (k:=k) h;exact⟨by omega,by simpa [over]using b⟩
 | n+1,[],k,h=>h.elim
 | n+1,c::cs,k,h=>by
  obtain⟨g,b⟩:=kd (off:=n) (cs:=cs) (k:=fun ys=>k (c::ys)) h;refine⟨by simp;omega,?_⟩;have:n+1+xs.length=(n+xs.length)+1:=by omega
  simpa [over,this]using b
def ae7{b:Type}(xs ys:List b):(List b→Prop)→Prop:=
 List.rec (motive:=fun _=>(List b→Prop)→Prop) (fun k=>k ys) (fun x _ d k=>d fun zs=>k (x::zs)) xs
theorem yh{b:Type}(ys:List b):∀(xs:List b) (k:List b→Prop),ae7 xs ys k=k (xs++ys)
 | [],k=>rfl| x::xs,k=>yh ys xs fun zs=>k (x::zs)
def fzK(zs:List FC):(List C→Prop)→Prop:=
 List.rec (motive:=fun _=>(List C→Prop)→Prop) (fun k=>k []) (fun z _ b k=>b fun cs=>k (.f z::cs)) zs
theorem qp:∀(zs:List FC) (k:List C→Prop),fzK zs k=k (zs.map .f)
 | [],k=>rfl| z::zs,k=>qp zs fun cs=>k (.f z::cs)
def ltB:Int→Int→Bool
 | .ofNat a,.ofNat b=>Nat.ble (Nat.succ a) b| .ofNat _,.negSucc _=>ag| .negSucc _,.ofNat _=>ae| .negSucc a,.negSucc b=>Nat.ble (Nat.succ b) a
theorem yK(x y:Int):ltB x y=decide (x<y):=by
 have e:∀ n:Nat,Int.ofNat n=(n:Int):=fun _=>rfl;cases x<;>cases y<;>simp only [ltB]<;>rw [Bool.eq_iff_iff]<;>simp only [Nat.ble_eq,decide_eq_true_eq,anc,false_iff,true_iff,e,Nat.succ_eq_add_one]<;>omega
def eqB:Int→Int→Bool
 | .ofNat a,.ofNat b=>Nat.beq a b| .negSucc a,.negSucc b=>Nat.beq a b| _,_=>ag
theorem Vg(x y:Int):eqB x y=(x == y):=by
 have e:∀ n:Nat,Int.ofNat n=(n:Int):=fun _=>rfl;cases x<;>cases y<;>simp only [eqB]<;>rw [Bool.eq_iff_iff]<;>simp only [Nat.beq_eq,beq_iff_eq,anc,false_iff,e]<;>omega
def xD(j:IntKind)(n:Int)(k:Int→Prop):Prop:=match j with
 | .i64=>Int.rec (motive:=fun _=>Prop)
   (fun n=>bS n fun n=>Bool.rec (motive:=fun _=>Prop) (qm (IntKind.i64.wrap (.ofNat n)) k) (k (.ofNat n)) (Nat.ble n 9223372036854775807))
   (fun n=>bS n fun n=>Bool.rec (motive:=fun _=>Prop) (qm (IntKind.i64.wrap (.negSucc n)) k) (k (.negSucc n)) (Nat.ble n 9223372036854775807)) n
 | j=>qm (j.wrap n) k
theorem wrap64_in{n:Int}(g:-9223372036854775808≤n)(j:n≤9223372036854775807):IntKind.i64.wrap n=n:=by
 simp only [IntKind.wrap,IntKind.bits,IntKind.signed];have b:(2 ^ 64:Int)=18446744073709551616:=by decide
 have d:(2 ^ (64-1):Int)=9223372036854775808:=by decide
 simp only [b,d,Bool.true_and,decide_eq_true_eq];split<;>omega
theorem pR(j:IntKind)(n:Int)(k:Int→Prop):xD j n k=k (j.wrap n):=by
 cases j<;>simp only [xD,wM];cases n with
 | ofNat n=>
  simp only [bU];cases h:Nat.ble n 9223372036854775807 with
  | false=>rfl
  | true=>
   have:=ary h;have e:Int.ofNat n=(n:Int):=rfl;rw [wrap64_in (by rw [e];omega) (by rw [e];omega)]
 | negSucc n=>
  simp only [bU];cases h:Nat.ble n 9223372036854775807 with
  | false=>rfl
  | true=>
   have:=ary h;rw [wrap64_in (by omega) (by omega)]
end
section
set_option linter.unusedVariables false
def gQ(a b:Nat)(p:Prop):Prop:=Bool.rec (motive:=fun _=>Prop) False p (Nat.beq a b)
def rR(a b:Nat)(p:Prop):Prop:=Bool.rec (motive:=fun _=>Prop) False p (Nat.ble a b)
def lS(b:Bool)(p:Prop):Prop:=Bool.rec (motive:=fun _=>Prop) False p b
def qD{b:Type}(o:Option b)(k:b→Prop):Prop:=Option.rec (motive:=fun _=>Prop) False k o
theorem cL{a b:Nat}{p:Prop}(h:gQ a b p):a=b∧p:=by
 unfold gQ at h;cases e:Nat.beq a b with
 | false=>rw [e]at h;exact h.elim| true=>rw [e]at h;exact⟨arp e,h⟩
theorem gH{a b:Nat}{p:Prop}(h:rR a b p):a≤b∧p:=by
 unfold rR at h;cases e:Nat.ble a b with
 | false=>rw [e]at h;exact h.elim| true=>rw [e]at h;exact⟨ary e,h⟩
theorem iP{b:Bool}{p:Prop}(h:lS b p):b=ae∧p:=by cases b;exact h.elim;exact⟨rfl,h⟩
theorem jw{b:Type}{o:Option b}{k:b→Prop}(h:qD o k):∃ x,o=aa x∧k x:=by cases o;exact h.elim;exact⟨_,rfl,h⟩
def nu(x:cS)(t:HT)(n:Nat)(k:HT→Nat→Prop):Prop:=yc x t n fun t=>bS (Nat.succ n) fun n=>k t n
theorem gU{H:aj}{t:HT}(h:cH H t){x:cS}{k:HT→Nat→Prop}(j:nu x t H.length k):∃ b,cH (H++[x]) b∧k b (H++[x]).length:=by
 obtain⟨b,g,d⟩:=JG j;rw [bU]at d;exact⟨b,h.push g,by simpa using d⟩
theorem dL{H:aj}{t:HT}(h:cH H t){b:Nat}{x:cS}{k:HT→Prop}(m:fR x t b k):∃ d,cH (H.set b x) d∧k d:=by
 obtain⟨d,g,j,l⟩:=U3 m;exact⟨d,h.set g j,l⟩
def afa(e:AR)(t:HT)(n:Nat)(k:HT→Nat→Prop):Prop:=
 AR.rec (motive:=fun _=>Prop) (k t n) (fun b x=>qo x fun x=>fR x t b fun t=>k t n) (fun x=>qo x fun x=>nu x t n k) e
theorem aa1{H:aj}{t:HT}(h:cH H t){e:AR}{k:HT→Nat→Prop}(d:afa e t H.length k):∃ g,cH (e.app H) g∧k g (e.app H).length:=by
 cases e with
 | no=>exact⟨t,h,d⟩
 | set b x=>
  have d:qo x fun x=>fR x t b fun t=>k t H.length:=d;rw [wN]at d;obtain⟨g,j,l⟩:=dL h d;exact⟨g,j,by simpa [AR.app]using l⟩
 | push x=>
  have d:qo x fun x=>nu x t H.length k:=d;rw [wN]at d;exact gU h d
def aiZ(op:cG)(r:T)(t:HT)(n:Nat)(k:V→HT→Nat→Prop):Prop:=
 qD (Xx r t.get n op) fun r=>Prod.rec (motive:=fun _=>Prop) (fun v e=>kF v fun v=>afa e t n (k v)) r
def OpS(op:cG)(r:T)(m:HT→Nat→(V→HT→Nat→Prop)→Prop):Prop:=
 ∀(H:aj) (t:HT) (k:V→HT→Nat→Prop),cH H t→m t H.length k→∃ v H' b,bs r H op=aa (v,H')∧cH H' b∧k v b H'.length
theorem abc(op:cG)(r:T):OpS op r (aiZ op r):=by
 intro H t k h l;obtain⟨⟨v,e⟩,d,b⟩:=jw l;have b:kF v fun v=>afa e t H.length (k v):=b;rw [qn]at b;obtain⟨m,g,j⟩:=aa1 h b;refine⟨v,e.app H,m,?_,g,j⟩;rw [h]at d;rw [←zA,d];rfl
def tp(v:V)(k:List C→Prop):Prop:=match v with
 | .c x=>k [x]| .a xs=>k xs| _=>False
theorem qg{v:V}{k:List C→Prop}(h:tp v k):∃ xs,v.cells?=aa xs∧k xs:=by
 cases v with
 | c x=>exact⟨_,rfl,h⟩| a xs=>exact⟨_,rfl,h⟩| _=>exact h.elim
def FG(n:Option Nat)(off:Nat)(cs:List C)(k:V→Prop):Prop:=
 Option.rec (motive:=fun _=>Prop) (abQ off cs fun c=>k (.c c)) (fun m=>tz off cs fun cs=>lD m cs fun cs=>k (.a cs)) n
theorem uo{n:Option Nat}{off:Nat}{cs:List C}{k:V→Prop}(h:FG n off cs k):∃ v,aI n (cs.drop off)=aa v∧k v:=by
 cases n with
 | none=>
  obtain⟨c,b,d⟩:=sw h;refine⟨.c c,?_,d⟩;rw [←Nat.add_zero off,←aqF]at b;cases e:cs.drop off with
  | nil=>rw [e]at b;simp at b| cons y ys=>rw [e]at b;simp at b;subst b;rfl
 | some m=>
  have h:tz off cs fun cs=>lD m cs fun cs=>k (.a cs):=h;rw [lT]at h;obtain⟨b,d⟩:=fA h;exact⟨_,bh b,d⟩
def WE(n:Option Nat)(off:Nat)(cs:List FC)(k:V→Prop):Prop:=
 Option.rec (motive:=fun _=>Prop) (abQ off cs fun c=>k (.c (.f c))) (fun m=>tz off cs fun cs=>lD m cs fun cs=>fzK cs fun cs=>k (.a cs)) n
theorem KL{n:Option Nat}{off:Nat}{cs:List FC}{k:V→Prop}(h:WE n off cs k):∃ v,aI n ((cs.drop off).map .f)=aa v∧k v:=by
 cases n with
 | none=>
  obtain⟨c,b,d⟩:=sw h;refine⟨.c (.f c),?_,d⟩;rw [←Nat.add_zero off,←aqF]at b;cases e:cs.drop off with
  | nil=>rw [e]at b;simp at b| cons y ys=>rw [e]at b;simp at b;subst b;rfl
 | some m=>
  have h:tz off cs fun cs=>lD m cs fun cs=>fzK cs fun cs=>k (.a cs):=h;rw [lT]at h;obtain⟨b,d⟩:=fA h;rw [qp]at d;refine⟨_,bh (by simpa using b),?_⟩;rw [←List.map_take];exact d
def ldK(t:HT)(n:Option Nat)(x:V)(k:V→Prop):Prop:=match x with
 | .c (.ptr b off d)=>fQ b t fun bq=>match bq with
  | .box cs _=>FG n off cs k| .bG _ cs _ e .loc=>gQ d e (FG n off cs k)| _=>False
 | .c (.f (.fp cs off))=>WE n off cs k| _=>False
theorem VE{H:aj}{t:HT}(h:cH H t){n:Option Nat}{x:V}{k:V→Prop}(m:ldK t n x k):∃ v,aX H n x=aa v∧k v:=by
 unfold ldK at m;split at m
 ·rename_i b off s;obtain⟨bq,g,d⟩:=dd m;rw [h]at g;have g:H[b]?=aa bq:=g;split at d
  ·obtain⟨v,j,l⟩:=uo d;exact⟨v,by simp [aX,aF,g,j],l⟩
  ·obtain⟨q,d⟩:=cL d;obtain⟨v,j,l⟩:=uo d;exact⟨v,by simp [aX,aF,g,j,q],l⟩
  ·exact d.elim
 ·obtain⟨v,j,l⟩:=KL m;exact⟨v,by simp only [aX,aF,Option.bind_some,j],l⟩
 ·exact m.elim
def stK(t:HT)(x:C)(xs:List C)(k:HT→Prop):Prop:=match x with
 | .ptr b off g=>fQ b t fun bq=>match bq with
  | .box cs d=>rR d off (ue xs off cs fun cs=>fR (.box cs d) t b k)
  | .bG sz cs d e .loc=>gQ g e (rR d off (ue xs off cs fun cs=>fR (.bG sz cs d e .loc) t b k))
  | _=>False
 | _=>False
theorem aha{H:aj}{t:HT}(h:cH H t){x:C}{xs:List C}{k:HT→Prop}(l:stK t x xs k):∃ H' g,df H x xs=aa H'∧cH H' g∧H'.length=H.length∧k g:=by
 unfold stK at l;split at l
 ·rename_i b off y;obtain⟨bq,j,d⟩:=dd l;rw [h]at j;have j:H[b]?=aa bq:=j;split at d
  ·obtain⟨m,d⟩:=gH d;obtain⟨q,d⟩:=kd d;obtain⟨g,s,u⟩:=dL h d;exact⟨_,g,by simp [df,j,m,q],s,by simp,u⟩
  ·obtain⟨v,d⟩:=cL d;obtain⟨m,d⟩:=gH d;obtain⟨q,d⟩:=kd d;obtain⟨g,s,u⟩:=dL h d;exact⟨_,g,by simp [df,j,v,m,q],s,by simp,u⟩
  ·exact d.elim
 ·exact l.elim
def ld(op:BinOp)(j:IntKind)(x y:Int)(k:V→Prop):Prop:=match op with
 | .add=>xD j (Int.add x y) fun n=>k (.c (.f (.int j n)))
 | .sub=>xD j (Int.sub x y) fun n=>k (.c (.f (.int j n)))
 | .mul=>xD j (Int.mul x y) fun n=>k (.c (.f (.int j n)))
 | .eql=>lY (eqB x y) fun b=>k (.c (.f (.bool b)))
 | .neq=>lY (!eqB x y) fun b=>k (.c (.f (.bool b)))
 | .lss=>lY (ltB x y) fun b=>k (.c (.f (.bool b)))
 | .leq=>lY (!ltB y x) fun b=>k (.c (.f (.bool b)))
 | .gtr=>lY (ltB y x) fun b=>k (.c (.f (.bool b)))
 | .geq=>lY (!ltB x y) fun b=>k (.c (.f (.bool b)))
 | op=>qD (jR op j x y) fun v=>kF v k
theorem tZ(x y:Int):(!decide (x<y))=decide (y≤x):=by
 rw [Bool.eq_iff_iff];simp
theorem UX{op:BinOp}{j:IntKind}{x y:Int}{k:V→Prop}(h:ld op j x y k):∃ v,jR op j x y=aa v∧k v:=by
 cases op
 case add=>simp only [ld,pR]at h;exact⟨_,rfl,h⟩
 case sub=>simp only [ld,pR]at h;exact⟨_,rfl,h⟩
 case mul=>simp only [ld,pR]at h;exact⟨_,rfl,h⟩
 case eql=>simp only [ld,gr,Vg]at h;exact⟨_,rfl,h⟩
 case neq=>simp only [ld,gr,Vg]at h;exact⟨_,rfl,h⟩
 case lss=>simp only [ld,gr,yK]at h;exact⟨_,rfl,h⟩
 case leq=>simp only [ld,gr,yK,tZ]at h;exact⟨_,rfl,h⟩
 case gtr=>simp only [ld,gr,yK]at h;exact⟨_,rfl,h⟩
 case geq=>simp only [ld,gr,yK,tZ]at h;exact⟨_,rfl,h⟩
 all_goals
  simp only [ld]at h;obtain⟨v,d,b⟩:=jw h;rw [qn]at b;exact⟨v,d,b⟩
def VA(j b:IntKind)(p:Prop):Prop:=match j,b with
 | .i64,.i64=>p| j,b=>lS (decide (j=b)) p
theorem VB{j b:IntKind}{p:Prop}(h:VA j b p):j=b∧p:=by
 unfold VA at h;split at h
 ·exact⟨rfl,h⟩
 ·obtain⟨d,g⟩:=iP h;exact⟨of_decide_eq_true d,g⟩
def UY(op:BinOp)(x y:V)(k:V→Prop):Prop:=match x,y with
 | .c (.f (.int j a)),.c (.f (.int d b))=>match op with
  | .shl=>qD (bM .shl x y) fun v=>kF v k
  | .shr=>qD (bM .shr x y) fun v=>kF v k
  | op=>VA j d (ld op j a b k)
 | x,y=>qD (bM op x y) fun v=>kF v k
theorem aaS{op:BinOp}{x y:V}{k:V→Prop}(h:UY op x y k):∃ v,bM op x y=aa v∧k v:=by
 have gen:(qD (bM op x y) fun v=>kF v k)→∃ v,bM op x y=aa v∧k v:=by
  intro h;obtain⟨v,g,d⟩:=jw h;rw [qn]at d;exact⟨v,g,d⟩
 unfold UY at h;split at h
 ·rename_i j a s b;split at h
  ·exact gen h
  ·exact gen h
  ·rename_i g d;obtain⟨e,l⟩:=VB h;subst e;obtain⟨v,m,q⟩:=UX l;refine⟨v,?_,q⟩;cases op<;>first | exact absurd rfl g | exact absurd rfl d | (simp only [bM,if_true];exact m)
 ·exact gen h
def afK(v:V)(k:Nat→Prop):Prop:=match v with
 | .c (.f (.int _ (.ofNat m)))=>k m| _=>False
theorem abM{v:V}{k:Nat→Prop}(h:afK v k):∃ m,dy v=aa (Int.ofNat m)∧k m:=by
 unfold afK at h;split at h
 ·exact⟨_,rfl,h⟩
 ·exact h.elim
def Vw(t:HT)(sz:Nat)(g:Option Nat)(x i:V)(k:V→Prop):Prop:=afK i fun m=>match g with
 | none=>match x with
  | .c (.sl b o l _ d s)=>rR (Nat.succ m) l (fQ b t fun bq=>match bq with
   | .box _ _=>bS (Nat.add o (Nat.mul m sz)) fun o=>k (.c (.ptr b o d))
   | .bG s' _ _ e .loc=>gQ d e (gQ s s' (bS (Nat.add o (Nat.mul m sz)) fun o=>k (.c (.ptr b o d))))
   | _=>False)
  | .c (.f (.fs cs l))=>rR (Nat.succ m) l (bS (Nat.mul m sz) fun o=>k (.c (.f (.fp cs o))))
  | _=>False
 | some n=>match x with
  | .c (.ptr b o d)=>rR (Nat.succ m) n (bS (Nat.add o (Nat.mul m sz)) fun o=>k (.c (.ptr b o d)))
  | .c (.f (.fp cs o))=>rR (Nat.succ m) n (bS (Nat.add o (Nat.mul m sz)) fun o=>k (.c (.f (.fp cs o))))
  | _=>False
theorem J6{H:aj}{t:HT}(h:cH H t){sz:Nat}{y:Option Nat}{x i:V}{k:V→Prop}(d:Vw t sz y x i k):∃ v,aL H sz y x i=aa v∧k v:=by
 obtain⟨m,hi,d⟩:=abM d;have z:(0:Int)≤Int.ofNat m:=Int.natCast_nonneg m;have g:∀ l:Nat,Nat.succ m≤l→Int.ofNat m<(l:Int):=fun l F=>Int.ofNat_lt.2 F;have j:(Int.ofNat m).toNat=m:=rfl;simp only at d;split at d
 ·split at d
  ·rename_i b o l cap I s _;obtain⟨u,d⟩:=gH d;obtain⟨bq,A,q⟩:=dd d;rw [h]at A;have A:H[b]?=aa bq:=A;split at q
   ·rw [bU]at q;exact⟨_,by simp only [aL,hi,bh z,bh (g _ u),A,j];rfl,q⟩
   ·obtain⟨B,q⟩:=cL q;obtain⟨E,q⟩:=cL q;rw [bU]at q;exact⟨_,by simp only [aL,hi,bh z,bh (g _ u),A,j,B,E,and_self,if_true];rfl,B▸q⟩
   ·exact q.elim
  ·obtain⟨u,d⟩:=gH d;rw [bU]at d;exact⟨_,by simp only [aL,hi,bh z,bh (g _ u),j];rfl,d⟩
  ·exact d.elim
 ·split at d
  ·obtain⟨u,d⟩:=gH d;rw [bU]at d;exact⟨_,by simp only [aL,hi,bh z,bh (g _ u),j];rfl,d⟩
  ·obtain⟨u,d⟩:=gH d;rw [bU]at d;exact⟨_,by simp only [aL,hi,bh z,bh (g _ u),j];rfl,d⟩
  ·exact d.elim
def afE(t:HT)(x:V)(k:Nat→Prop):Prop:=match x with
 | .c (.sl b _ l _ d sz)=>fQ b t fun bq=>match bq with
  | .box _ _=>k l| .bG s _ _ e _=>gQ d e (gQ sz s (k l))| _=>False
 | .c (.f .aE)=>k 0| .c (.f .es)=>k 0| .c (.f (.fs _ l))=>k l| _=>False
theorem abF{H:aj}{t:HT}(h:cH H t){x:V}{k:Nat→Prop}(g:afE t x k):∃ y n,x=.c y∧bE H y=aa n∧k n:=by
 unfold afE at g;split at g
 ·rename_i b o l cap s sz;obtain⟨bq,j,d⟩:=dd g;rw [h]at j;have j:H[b]?=aa bq:=j;split at d
  ·exact⟨_,l,rfl,by simp [bE,j],d⟩
  ·obtain⟨m,d⟩:=cL d;obtain⟨q,d⟩:=cL d;exact⟨_,l,rfl,by simp [bE,j,m,q],d⟩
  ·exact d.elim
 ·exact⟨_,0,rfl,rfl,g⟩
 ·exact⟨_,0,rfl,rfl,g⟩
 ·exact⟨_,_,rfl,rfl,g⟩
 ·exact g.elim
def Eb(r:T)(ps:List (Nat × Nat × Arg)):List C→(List C→Prop)→Prop:=
 List.rec (motive:=fun _=>List C→(List C→Prop)→Prop) (fun cs k=>k cs)
  (fun p _ b cs k=>Prod.rec (motive:=fun _=>Prop) (fun off q=>Prod.rec (motive:=fun _=>Prop) (fun n x=>oy x r fun v=>tp v fun xs=>gQ xs.length n (ue xs off cs fun cs=>b cs k)) q) p) ps
theorem xv(r:T):∀ {ps:List (Nat × Nat × Arg)} {cs:List C} {k:List C→Prop},Eb r ps cs k→∃ cs',dh r cs ps=aa cs'∧k cs'
 | [],cs,k,h=>⟨cs,rfl,h⟩
 | (off,n,x)::ps,cs,k,h=>by
  have h:oy x r fun v=>tp v fun xs=>gQ xs.length n (ue xs off cs fun cs=>Eb r ps cs k):=h;rw [cX]at h;obtain⟨xs,b,h⟩:=qg h;obtain⟨d,h⟩:=cL h;obtain⟨g,h⟩:=kd h;obtain⟨cs',j,l⟩:=xv r h;exact⟨cs',by simp [dh,b,d,j]at g ⊢;omega,l⟩
def te(t:HT)(sz:Nat)(y:V)(k:Nat→List C→Prop):Prop:=match y with
 | .c (.f .aE)=>k 0 []| .c (.f .es)=>k 0 []| .c (.f (.fs cs l))=>gQ cs.length (Nat.mul l sz) (fzK cs fun cs=>k l cs)
 | .c (.sl b o l _ d s)=>fQ b t fun bq=>match bq with
  | .box cs _=>qh o cs fun cs=>lD (Nat.mul l sz) cs fun cs=>k l cs
  | .bG s' cs _ e _=>gQ d e (gQ s s' (gQ s' sz (qh o cs fun cs=>lD (Nat.mul l sz) cs fun cs=>k l cs)))
  | _=>False
 | y=>qD (oh t.get sz y) fun r=>Prod.rec (motive:=fun _=>Prop) (fun n cs=>lZ cs fun cs=>k n cs) r
theorem wj{H:aj}{t:HT}(h:cH H t){sz:Nat}{y:V}{k:Nat→List C→Prop}(j:te t sz y k) :
  ∃ n cs,cT H sz y=aa (n,cs)∧k n cs:=by
 unfold te at j;split at j
 ·exact⟨0,[],rfl,j⟩
 ·exact⟨0,[],rfl,j⟩
 ·rename_i cs l;obtain⟨m,j⟩:=cL j;rw [qp]at j;have m:cs.length=l*sz:=m;exact⟨l,_,by simp only [cT,bE,cF,m,if_true],j⟩
 ·rename_i b o l cap B s;obtain⟨bq,g,d⟩:=dd j;rw [h]at g;have g:H[b]?=aa bq:=g;split at d
  ·obtain⟨A,d⟩:=iH d;obtain⟨q,u⟩:=fA d;have q:l*sz≤_:=q;rw [aqG]at q;refine⟨l,_,?_,u⟩;simp only [cT,bE,cF,g];rw [bh (by omega)];rfl
  ·obtain⟨q,d⟩:=cL d;obtain⟨u,d⟩:=cL d;obtain⟨x,d⟩:=cL d;obtain⟨A,d⟩:=iH d;obtain⟨v,z⟩:=fA d;have v:l*sz≤_:=v;rw [aqG]at v;subst q u x;refine⟨l,_,?_,z⟩;simp only [cT,bE,cF,g,and_self,if_true];rw [bh ⟨trivial,trivial,by omega⟩];rfl
  ·exact d.elim
 ·obtain⟨⟨n,cs⟩,m,g⟩:=jw j;have g:lZ cs fun cs=>k n cs:=g;rw [jV]at g;rw [h,nA]at m;exact⟨n,cs,m,g⟩
def B7(need bytes:Nat)(p:Prop):Prop:=rR (Nat.mul (Nat.add (Nat.mul 2 need) 768) bytes) 281474976710656 (rR (Nat.succ need) 281474976710656 p)
theorem oW{need bytes:Nat}{p:Prop}(h:B7 need bytes p):bN need bytes=ae∧p:=by
 obtain⟨b,h⟩:=gH h;obtain⟨d,h⟩:=gH h;refine⟨?_,h⟩;have e:(2:Nat) ^ 48=281474976710656:=by decide
 simp only [bN,BY,decide_eq_true_eq,e];exact⟨b,d⟩
def aaO(t:HT)(n:Nat)(sz bytes:Nat)(x y:V)(k:V→HT→Nat→Prop):Prop:=
 te t sz y fun m ys=>Nat.rec (motive:=fun _=>Prop) False (fun _ _=>match x with
  | .c (.f .aE)=>Nat.rec (motive:=fun _=>Prop) (k (.c (.f .aE)) t n) (fun _ _=>B7 m bytes (bS m fun m=>nu (.bG sz ys 0 0 .loc) t n fun t n'=>k (.c (.sl n 0 m 0 0 sz)) t n')) m
  | .c (.f .es)=>Nat.rec (motive:=fun _=>Prop) (k (.c (.f .es)) t n) (fun _ _=>B7 m bytes (bS m fun m=>nu (.bG sz ys 0 0 .loc) t n fun t n'=>k (.c (.sl n 0 m 0 0 sz)) t n')) m
  | .c (.sl b o l cap j s)=>fQ b t fun bq=>match bq with
   | .box cs g=>Bool.rec (motive:=fun _=>Prop)
     (bS (Nat.add l m) fun d=>B7 d bytes (qh o cs fun cs=>lD (Nat.mul l sz) cs fun cs=>ae7 cs ys fun cs=>nu (.bG sz cs 0 0 .loc) t n fun t n'=>k (.c (.sl n 0 d 0 0 sz)) t n'))
     (bS (Nat.add l m) fun d=>rR g (Nat.add o (Nat.mul l sz)) (ue ys (Nat.add o (Nat.mul l sz)) cs fun cs=>fR (.box cs g) t b fun t=>k (.c (.sl b o d cap j s)) t n))
     (Nat.ble (Nat.add l m) cap)
   | .bG s' cs g e st=>gQ j e (gQ s' sz (gQ s sz (Nat.rec (motive:=fun _=>Prop) (k x t n) (fun _ _=>
     bS (Nat.add l m) fun d=>Bool.rec (motive:=fun _=>Prop)
      (match st with
       | .loc=>rR g (Nat.add o (Nat.mul l sz)) (ue ys (Nat.add o (Nat.mul l sz)) cs fun cs=>fR (.bG sz cs g e .loc) t b fun t=>k (.c (.sl b o d 0 j sz)) t n)
       | _=>False)
      (B7 d bytes (bS (Nat.succ e) fun q=>ae7 cs ys fun cs=>fR (.bG sz cs g q .loc) t b fun t=>k (.c (.sl b 0 d 0 q sz)) t n))
      (and (and (Nat.beq o 0) (Nat.beq (Nat.mul l sz) cs.length)) (Nat.ble g cs.length))) m)))
   | _=>False
  | _=>False) sz
theorem EU{H:aj}{t:HT}(h:cH H t){sz bytes:Nat}{x y:V}{k:V→HT→Nat→Prop}(d:aaO t H.length sz bytes x y k) :
  ∃ v H' g,bX H sz bytes x y=aa (v,H')∧cH H' g∧k v g H'.length:=by
 obtain⟨m,ys,O,d⟩:=wj h d;unfold bX;rw [O];cases sz with
 | zero=>exact d.elim
 | succ u=>
  simp only at d ⊢;rw [aY (by omega)];split at d
  ·cases m with
   | zero=>exact⟨_,H,t,rfl,h,d⟩
   | succ M=>
    simp only at d;obtain⟨K,d⟩:=oW d;rw [bU]at d;obtain⟨g,z,j⟩:=gU h d;exact⟨_,_,g,by simp only [Nat.add_one_ne_zero,if_false,K,if_true],z,j⟩
  ·cases m with
   | zero=>exact⟨_,H,t,rfl,h,d⟩
   | succ M=>
    simp only at d;obtain⟨K,d⟩:=oW d;rw [bU]at d;obtain⟨g,z,j⟩:=gU h d;exact⟨_,_,g,by simp only [Nat.add_one_ne_zero,if_false,K,if_true],z,j⟩
  ·rename_i b o l cap S s _;obtain⟨bq,z,d⟩:=dd d;rw [h]at z;have z:H[b]?=aa bq:=z;simp only [z];split at d
   ·rename_i cs J _;simp only;cases hc:Nat.ble (Nat.add l m) cap with
    | false=>
     rw [hc]at d;have B:¬ (l+m≤cap):=fun e=>by have:=Nat.ble_eq_true_of_le e;rw [show Nat.ble (Nat.add l m) cap=Nat.ble (l+m) cap from rfl,this]at hc;cases hc
     simp only [bU]at d;obtain⟨j,d⟩:=oW d;obtain⟨F,d⟩:=iH d;obtain⟨E,d⟩:=fA d;rw [yh]at d;obtain⟨g,q,A⟩:=gU h d;rw [aqG]at E;have E:l*(u+1)≤_:=E;rw [aY B,bh ⟨j,by omega⟩];exact⟨_,_,g,rfl,q,A⟩
    | true=>
     rw [hc]at d;have B:l+m≤cap:=ary hc;simp only [bU]at d;obtain⟨j,d⟩:=gH d;obtain⟨F,d⟩:=kd d;obtain⟨g,q,A⟩:=dL h d;rw [bh B,bh ⟨j,F⟩];exact⟨_,_,g,rfl,q,by simpa using A⟩
   ·rename_i s' cs J e st _;simp only;obtain⟨j,d⟩:=cL d;obtain⟨F,d⟩:=cL d;obtain⟨E,d⟩:=cL d;rw [bh ⟨j,F,E⟩];cases m with
    | zero=>rw [bh rfl];exact⟨_,H,t,rfl,h,d⟩
    | succ M=>
     rw [aY (by omega)];simp only [bU]at d;cases hc:and (and (Nat.beq o 0) (Nat.beq (Nat.mul l (u+1)) cs.length)) (Nat.ble J cs.length)with
     | true=>
      rw [hc]at d;simp only [BY]at hc;have c1:=arp hc.1.1;have c2:=arp hc.1.2;have I:=ary hc.2;simp only at d;obtain⟨q,d⟩:=oW d;rw [yh]at d;obtain⟨g,A,L⟩:=dL h d;have q:bN (l+(M+1)) bytes=ae:=q;rw [bh ⟨c1,c2,I⟩,bh q];subst j;exact⟨_,_,g,rfl,A,by simpa using L⟩
     | false=>
      rw [hc]at d;have Q:¬ (o=0∧l*(u+1)=cs.length∧J≤cs.length):=by
       rintro⟨c1,c2,I⟩;rw [c1,show Nat.mul l (u+1)=cs.length from c2,Nat.ble_eq_true_of_le I]at hc;simp at hc
      rw [aY Q];simp only at d;split at d
      ·obtain⟨q,d⟩:=gH d;obtain⟨A,d⟩:=kd d;obtain⟨g,L,N⟩:=dL h d;rw [bh ⟨rfl,q,A⟩];exact⟨_,_,g,rfl,L,by simpa using N⟩
      ·exact d.elim
   ·exact d.elim
  ·exact d.elim
end
section
set_option linter.unusedVariables false
abbrev ff:=Callee→List V→HT→Nat→(V→HT→Nat→Prop)→Prop
def nX(call:cC)(bz:ff):Prop:=
 ∀(c:Callee) (args:List V) (H:aj) (t:HT) (k:V→HT→Nat→Prop),cH H t→bz c args t H.length k→∃ v H' b,call c args H=aa (v,H')∧cH H' b∧k v b H'.length
def yx{d b:Type}(g:d→(b→Prop)→Prop)(xs:List d):(List b→Prop)→Prop:=
 List.rec (motive:=fun _=>(List b→Prop)→Prop) (fun k=>k []) (fun x _ j k=>g x fun y=>j fun ys=>k (y::ys)) xs
theorem ik{b d:Type}{g:b→(d→Prop)→Prop}{f:b→Option d}(j:∀ x k,g x k→∃ y,f x=aa y∧k y):∀ {xs:List b} {k:List d→Prop},yx g xs k→∃ ys,bj f xs=aa ys∧k ys
 | [],k,h=>⟨[],rfl,h⟩
 | x::xs,k,h=>by
  obtain⟨y,l,h⟩:=j x _ h;obtain⟨ys,m,q⟩:=ik j (xs:=xs) h;exact⟨y::ys,by simp [bj,l,m],q⟩
def exK(t:HT)(m:Nat):C→(FC→Prop)→Prop:=
 Nat.rec (motive:=fun _=>C→(FC→Prop)→Prop) (fun x k=>match x with
   | .f y=>k y
   | _=>False)
  (fun _ j x k=>match x with
   | .f y=>k y
   | .ptr b off _=>fQ b t fun bq=>match bq with
    | .box cs _=>yx j cs fun d=>k (.fp d off)
    | _=>False
   | .sl b o l _ q sz=>fQ b t fun bq=>match bq with
    | .box cs _=>qh o cs fun cs=>lD (Nat.mul l sz) cs fun cs=>yx j cs fun d=>k (.fs d l)
    | .bG s cs _ e .loc=>gQ q e (gQ sz s (qh o cs fun cs=>lD (Nat.mul l sz) cs fun cs=>yx j cs fun d=>k (.fs d l)))
    | .bG s cs _ e .nil=>gQ q e (gQ sz s (k .aE))| .bG s cs _ e .es=>gQ q e (gQ sz s (k .es))| _=>False
   | .cl f g=>yx j g fun d=>k (.fn f d)
   | _=>False) m
theorem Vk{H:aj}{t:HT}(h:cH H t):∀(m:Nat) (x:C) (k:FC→Prop),exK t m x k→∃ y,da m H x=aa y∧k y:=by
 intro m;induction m with
 | zero=>
  intro x k q;cases x with
  | f y=>exact⟨y,rfl,q⟩| _=>exact q.elim
 | succ m E=>
  intro x k q;cases x with
  | f y=>exact⟨y,rfl,q⟩
  | ptr b off J=>
   obtain⟨bq,g,d⟩:=dd q;rw [h]at g;have g:H[b]?=aa bq:=g;cases bq with
   | box cs I=>
    obtain⟨z,j,u⟩:=ik E d;exact⟨_,by simp only [da,g,j];rfl,u⟩
   | _=>exact d.elim
  | sl b o l cap J sz=>
   obtain⟨bq,g,d⟩:=dd q;rw [h]at g;have g:H[b]?=aa bq:=g;cases bq with
   | box cs I=>
    obtain⟨K,d⟩:=iH d;obtain⟨v,d⟩:=fA d;obtain⟨z,j,u⟩:=ik E d;rw [aqG]at v;have v:l*sz≤_:=v;have j:bj (da m H) ((cs.drop o).take (l*sz))=aa z:=j;exact⟨_,by simp only [da,g];rw [bh (by omega),j];rfl,u⟩
   | bG s cs I e st=>
    cases st with
    | loc=>
     obtain⟨A,d⟩:=cL d;obtain⟨B,d⟩:=cL d;obtain⟨K,d⟩:=iH d;obtain⟨v,d⟩:=fA d;obtain⟨z,j,u⟩:=ik E d;rw [aqG]at v;have v:l*sz≤_:=v;have j:bj (da m H) ((cs.drop o).take (l*sz))=aa z:=j;exact⟨_,by simp only [da,g];rw [bh ⟨A,B,by omega⟩,j];rfl,u⟩
    | nil=>
     obtain⟨A,d⟩:=cL d;obtain⟨B,d⟩:=cL d;exact⟨_,by simp only [da,g];rw [bh ⟨A,B⟩],d⟩
    | es=>
     obtain⟨A,d⟩:=cL d;obtain⟨B,d⟩:=cL d;exact⟨_,by simp only [da,g];rw [bh ⟨A,B⟩],d⟩
   | _=>exact d.elim
  | cl f F=>
   obtain⟨z,j,u⟩:=ik E q;exact⟨_,by simp only [da,j];rfl,u⟩
  | _=>exact q.elim
def E4(t:HT)(v:V)(k:V→Prop):Prop:=match v with
 | .c x=>exK t deep x fun y=>k (.c (.f y))
 | .a xs=>yx (exK t deep) xs fun ys=>fzK ys fun cs=>k (.a cs)
 | _=>False
theorem oz{H:aj}{t:HT}(h:cH H t)(v:V)(k:V→Prop)(g:E4 t v k):∃ y,cg deep H v=aa y∧k y:=by
 cases v with
 | c x=>
  obtain⟨y,d,b⟩:=Vk h deep x _ g;exact⟨_,by simp only [cg,d];rfl,b⟩
 | a xs=>
  obtain⟨ys,d,b⟩:=ik (Vk h deep) g;rw [qp]at b;exact⟨_,by simp only [cg,d];rfl,b⟩
 | _=>exact g.elim
def aiW(t:HT)(v:V)(k:V→Prop):Prop:=match v with
 | .t b=>yx (E4 t) b fun b=>k (.t b)
 | v=>E4 t v k
theorem aa'{H:aj}{t:HT}(h:cH H t)(v:V)(k:V→Prop)(b:aiW t v k):∃ y,iI deep H v=aa y∧k y:=by
 cases v with
 | t j=>
  obtain⟨ys,d,g⟩:=ik (oz h) b;exact⟨_,by simp only [iI,d];rfl,g⟩
 | c x=>exact oz h (.c x) k b| a xs=>exact oz h (.a xs) k b| top=>exact b.elim
def DY{b:Type}(g:b→HT→(HT→Prop)→Prop)(xs:List b):HT→(HT→Prop)→Prop:=
 List.rec (motive:=fun _=>HT→(HT→Prop)→Prop) (fun t k=>k t) (fun x _ d t k=>g x t fun t=>d t k) xs
def MkS{b:Type}(g:b→HT→(HT→Prop)→Prop)(f:aj→b→aj):Prop:=∀(x:b) (H:aj) (t:HT) (k:HT→Prop),cH H t→g x t k→∃ d,cH (f H x) d∧k d
theorem kK{d:Type}{g:d→HT→(HT→Prop)→Prop}{f:aj→d→aj}(j:MkS g f):∀(xs:List d) (H:aj) (t:HT) (k:HT→Prop),cH H t→DY g xs t k→∃ l,cH (xs.foldl f H) l∧k l
 | [],H,t,k,h,b=>⟨t,h,b⟩
 | x::xs,H,t,k,h,b=>by
  obtain⟨t1,m,q⟩:=j x H t _ h b;exact kK j xs _ t1 k m q
def mkK(m:Nat):C→HT→(HT→Prop)→Prop:=
 Nat.rec (motive:=fun _=>C→HT→(HT→Prop)→Prop) (fun _ t k=>k t)
  (fun _ j x t k=>match x with
   | .f _=>k t
   | .ptr b _ _=>fQ b t fun bq=>match bq with
    | .box cs d=>bS (Nat.max d cs.length) fun d=>fR (.box cs d) t b fun t=>DY j cs t k
    | _=>k t
   | .sl b o l _ _ sz=>fQ b t fun bq=>match bq with
    | .box cs d=>bS (Nat.max d (Nat.add o (Nat.mul l sz))) fun d=>fR (.box cs d) t b fun t=>tz o cs fun cs=>lD (Nat.mul l sz) cs fun cs=>DY j cs t k
    | .bG s cs d e st=>bS (Nat.max d (Nat.add o (Nat.mul l sz))) fun d=>fR (.bG s cs d e st) t b fun t=>tz o cs fun cs=>lD (Nat.mul l sz) cs fun cs=>DY j cs t k
    | _=>k t
   | .cl _ g=>DY j g t k
   | _=>k t) m
theorem VS:∀(m:Nat),MkS (mkK m) (fun H x=>iX m x H):=by
 intro m;induction m with
 | zero=>intro x H t k h q;exact⟨t,by cases x<;>exact h,q⟩
 | succ m v=>
  intro x H t k h q;cases x with
  | f y=>exact⟨t,h,q⟩
  | ptr b off B=>
   obtain⟨bq,d,g⟩:=dd q;rw [h]at d;have d:H[b]?=aa bq:=d;cases bq with
   | box cs A=>
    change bS _ _ at g;rw [bU]at g;obtain⟨t1,u,j⟩:=dL h g;simp only [iX,d];exact kK v cs _ t1 k u j
   | _=>simp only [iX,d];exact⟨t,h,g⟩
  | sl b o l cap B sz=>
   obtain⟨bq,d,g⟩:=dd q;rw [h]at d;have d:H[b]?=aa bq:=d;cases bq with
   | box cs A=>
    change bS _ _ at g;rw [bU]at g;obtain⟨t1,u,j⟩:=dL h g;rw [lT]at j;obtain⟨_,j⟩:=fA j;simp only [iX,d];exact kK v _ _ t1 k u j
   | bG s cs A e st=>
    change bS _ _ at g;rw [bU]at g;obtain⟨t1,u,j⟩:=dL h g;rw [lT]at j;obtain⟨_,j⟩:=fA j;simp only [iX,d];exact kK v _ _ t1 k u j
   | _=>simp only [iX,d];exact⟨t,h,g⟩
  | cl f z=>
   simp only [iX];exact kK v _ _ t k h q
  | _=>exact⟨t,h,q⟩
def ajs(v:V)(t:HT)(k:HT→Prop):Prop:=match v with
 | .c x=>mkK deep x t k| .a xs=>DY (mkK deep) xs t k| _=>k t
theorem abK:MkS ajs (XH deep):=by
 intro v H t k h b;cases v with
 | c x=>exact VS deep x H t k h b| a xs=>exact kK (VS deep) xs H t k h b| _=>exact⟨t,h,b⟩
def ad4(call:ff)(f:Nat)(d:List V)(t:HT)(n:Nat)(k:V→HT→Nat→Prop):Prop:=
 yx (E4 t) d fun g=>call (.fn f) g .e 0 fun b j _=>aiW j b fun b=>DY ajs d t fun t=>k b t n
theorem WM{call:cC}{bz:ff}(hc:nX call bz){f:Nat}{g:List V}{H:aj}{t:HT}{k:V→HT→Nat→Prop}(h:cH H t)(b:ad4 bz f g t H.length k) :
  ∃ v H' d,dV call f g H=aa (v,H')∧cH H' d∧k v d H'.length:=by
 obtain⟨l,m,b⟩:=ik (oz h) b;obtain⟨y,z,t1,q,s,b⟩:=hc (.fn f) l [] .e _ cH.nil b;obtain⟨j,u,b⟩:=aa' s y _ b;obtain⟨d,x,b⟩:=kK abK g H t _ h b;refine⟨j,_,d,by simp only [dV,m,q,u],x,?_⟩;rw [←(mQ deep g H).1];exact b
abbrev sd:=ff→T→List dw→HT→Nat→(V→List dw→HT→Nat→Prop)→Prop
def fo(op:cG):sd:=fun _ r d t n k=>aiZ op r t n fun v t n=>k v d t n
def aeL(x:Arg):sd:=fun _ r d t n k=>oy x r fun v=>k v d t n
def UN(c a b:Arg):sd:=fun _ r d t n k=>oy c r fun v=>match v with
 | .c (.f (.bool v))=>Bool.rec (motive:=fun _=>Prop) (oy b r fun v=>k v d t n) (oy a r fun v=>k v d t n) v
 | _=>False
def Db(zs:List FC):sd:=fun _ r d t n k=>fzK zs fun cs=>nu (.box cs 0) t n fun t n'=>k (.c (.ptr n 0 0)) d t n'
def aeI(x:Arg):sd:=fun _ r d t n k=>oy x r fun v=>tp v fun xs=>nu (.box xs 0) t n fun t n'=>k (.c (.ptr n 0 0)) d t n'
def Dc(zs:List FC)(ps:List (Nat × Nat × Arg)):sd:=fun _ r d t n k=>fzK zs fun cs=>Eb r ps cs fun cs=>k (.a cs) d t n
def UM(m:Option Nat)(x:Arg):sd:=fun _ r d t n k=>oy x r fun v=>ldK t m v fun v=>k v d t n
def Dg(m:Nat)(x y:Arg):sd:=fun _ r d t n k=>oy x r fun v=>oy y r fun y=>tp y fun xs=>gQ xs.length m (match v with
 | .c p=>stK t p xs fun t=>k .top d t n
 | _=>False)
def xW(x:Arg):sd:=fun _ r d t n k=>oy x r fun v=>match v with
 | .c (.ptr b o e)=>k (.c (.ptr b o e)) d t n| .c (.f (.fp cs o))=>k (.c (.f (.fp cs o))) d t n| _=>False
def aeH(op:BinOp)(x y:Arg):sd:=fun _ r d t n k=>oy x r fun x=>oy y r fun y=>UY op x y fun v=>k v d t n
def aeJ(j:IntKind)(x:Arg):sd:=fun _ r d t n k=>oy x r fun v=>match v with
 | .c (.f (.int _ m))=>xD j m fun m=>k (.c (.f (.int j m))) d t n
 | _=>False
def xU(off:Nat)(x:Arg):sd:=fun _ r d t n k=>oy x r fun v=>match v with
 | .c (.ptr b o e)=>bS (Nat.add o off) fun o=>k (.c (.ptr b o e)) d t n
 | .c (.f (.fp cs o))=>bS (Nat.add o off) fun o=>k (.c (.f (.fp cs o))) d t n
 | _=>False
def Df(off:Nat)(m:Option Nat)(x:Arg):sd:=fun _ r d t n k=>oy x r fun v=>match v with
 | .a xs=>FG m off xs fun v=>k v d t n
 | _=>False
def xV(sz:Nat)(b:Option Nat)(x i:Arg):sd:=fun _ r d t n k=>oy x r fun x=>oy i r fun i=>Vw t sz b x i fun v=>k v d t n
def td(x:Arg)(i:Nat):sd:=fun _ r d t n k=>oy x r fun v=>match v with
 | .t b=>abQ i b fun v=>k v d t n
 | _=>False
def UL(f:Nat)(args:List Arg)(h:Bool):sd:=fun call r d t n k=>A1 args r fun b=>
 Bool.rec (motive:=fun _=>Prop) (ad4 call f b t n fun v t n=>k v d t n) (call (.fn f) b t n fun v t n=>k v d t n) h
def Dd(x:Arg)(args:List Arg)(_:Bool):sd:=fun call r d t n k=>oy x r fun x=>A1 args r fun b=>
 qD (bQ x b) fun g=>Prod.rec (motive:=fun _=>Prop) (fun c b=>call c b t n fun v t n=>k v d t n) g
def adT(m:Nat):sd:=fun _ r d t n k=>k (.c (.f (.int .i64 (.ofNat m)))) d t n
def aeK(x:Arg):sd:=fun _ r d t n k=>oy x r fun v=>afE t v fun m=>k (.c (.f (.int .i64 (.ofNat m)))) d t n
def xT(sz bytes:Nat)(x y:Arg):sd:=fun _ r d t n k=>oy x r fun x=>oy y r fun y=>aaO t n sz bytes x y fun v t n=>k v d t n
def AV:sd:=fun _ r d t n k=>k (.c (.f .lG)) d t n
def De(x:Arg)(args:List Arg):sd:=fun _ r d t n k=>oy x r fun x=>A1 args r fun b=>
 qD (bQ x b) fun g=>Prod.rec (motive:=fun _=>Prop) (fun c b=>Callee.rec (motive:=fun _=>Prop) (fun f=>k .top (.fn f b::d) t n) (fun _=>False) c) g
def ajE(op:cG):sd:=
 cG.rec (motive:=fun _=>sd)
  aeL (fun o s=>fo (.pre o s)) UN Db aeI Dc (fun a b c e=>fo (.aU a b c e)) UM Dg xW aeH
  (fun a b c e=>fo (.eq a b c e)) (fun a b=>fo (.un a b)) aeJ (fun a=>fo (.yo a)) (fun a=>fo (.vk a)) (fun a=>fo (.Du a)) (fun a b=>fo (.jZ a b)) (fo .jt)
  (fun a b c e=>fo (.lookup a b c e)) (fun a b c e=>fo (.jr a b c e)) (fun a b c e f=>fo (.cE a b c e f)) (fun a b c e f=>fo (.slice a b c e f)) (fun a b c e f g=>fo (.nw a b c e f g)) (fun a b c=>fo (.pM a b c))
  xU Df xV (fun a b=>fo (.idxs a b)) (fun a b c e f=>fo (.oE a b c e f)) (fun a=>fo (.range a)) (fun a=>fo (.next a)) td UL Dd aeK adT (fun a=>fo (.lens a)) (fun a=>fo (.cap a))
  xT (fun a b c=>fo (.copy a b c)) (fun a b=>fo (.mh a b)) (fun a b c e f=>fo (.rQ a b c e f)) (fun a b c=>fo (.clear a b c)) (fun a=>fo (.kS a)) (fun a=>fo (.oO a)) (fun a=>fo (.entry a)) (fun a b=>fo (.vm a b)) (fun a b c e=>fo (.vG a b c e)) (fun a b c e=>fo (.gu a b c e)) AV De (fo .bad) op
theorem abS{call:cC}{bz:ff}(hc:nX call bz)(op:cG){r:T}{d:List dw}{H:aj}{t:HT}{k:V→List dw→HT→Nat→Prop}(h:cH H t)(g:ajE op bz r d t H.length k) :
  ∃ v A H' q,ei call ⟨r,d,H⟩ op=aa (v,⟨r,A,H'⟩)∧cH H' q∧k v A q H'.length:=by
 have go:∀ {v H' q},ei call ⟨r,d,H⟩ op=(bs r H op).map (fun r'=>(r'.1,⟨r,d,r'.2⟩))→bs r H op=aa (v,H')→cH H' q→k v d q H'.length →
   ∃ v A H' q,ei call ⟨r,d,H⟩ op=aa (v,⟨r,A,H'⟩)∧cH H' q∧k v A q H'.length:=
  fun s u l B=>⟨_,d,_,_,by rw [s,u];rfl,l,B⟩
 have gen:ei call ⟨r,d,H⟩ op=(bs r H op).map (fun r'=>(r'.1,⟨r,d,r'.2⟩))→fo op bz r d t H.length k →
   ∃ v A H' q,ei call ⟨r,d,H⟩ op=aa (v,⟨r,A,H'⟩)∧cH H' q∧k v A q H'.length:=fun s u=>by
  obtain⟨v,H',q,l,B,I⟩:=abc op r H t _ h u;exact go s l B I
 cases op
 case bB x=>
  have g:aeL x bz r d t H.length k:=g;unfold aeL at g;rw [cX]at g;exact go rfl rfl h g
 case pick c a b=>
  have g:UN c a b bz r d t H.length k:=g;unfold UN at g;rw [cX]at g;split at g
  ·rename_i v z;cases v with
   | true=>
    simp only [cX]at g;exact go rfl (by simp only [bs,z];rfl) h g
   | false=>
    simp only [cX]at g;exact go rfl (by simp only [bs,z];rfl) h g
  ·exact g.elim
 case alloc zs=>
  have g:Db zs bz r d t H.length k:=g;unfold Db at g;rw [qp]at g;obtain⟨q,s,u⟩:=gU h g;exact go rfl rfl s u
 case box x=>
  have g:aeI x bz r d t H.length k:=g;unfold aeI at g;rw [cX]at g;obtain⟨xs,l,g⟩:=qg g;obtain⟨q,s,u⟩:=gU h g;exact go rfl (by simp only [bs,l]) s u
 case build zs ps=>
  have g:Dc zs ps bz r d t H.length k:=g;unfold Dc at g;rw [qp]at g;obtain⟨cs,l,g⟩:=xv r g;exact go rfl (by simp only [bs,l];rfl) h g
 case load m x=>
  have g:UM m x bz r d t H.length k:=g;unfold UM at g;rw [cX]at g;obtain⟨v,l,g⟩:=VE h g;exact go rfl (by simp only [bs,l];rfl) h g
 case store m x y=>
  have g:Dg m x y bz r d t H.length k:=g;unfold Dg at g;rw [cX,cX]at g;obtain⟨xs,l,g⟩:=qg g;obtain⟨B,g⟩:=cL g;split at g
  ·rename_i p M;obtain⟨H',q,I,K,L,g⟩:=aha h g;exact go rfl (by simp only [bs,M,l,B,if_true,I];rfl) K (by rw [L];exact g)
  ·exact g.elim
 case bw x=>
  have g:xW x bz r d t H.length k:=g;unfold xW at g;rw [cX]at g;split at g
  ·rename_i z;exact go rfl (by simp only [bs,z]) h g
  ·rename_i z;exact go rfl (by simp only [bs,z]) h g
  ·exact g.elim
 case bin op x y=>
  have g:aeH op x y bz r d t H.length k:=g;unfold aeH at g;rw [cX,cX]at g;obtain⟨v,l,g⟩:=aaS g;exact go rfl (by simp only [bs,l];rfl) h g
 case eM j x=>
  have g:aeJ j x bz r d t H.length k:=g;unfold aeJ at g;rw [cX]at g;split at g
  ·rename_i z;simp only [pR]at g;exact go rfl (by simp only [bs,z];rfl) h g
  ·exact g.elim
 case aB off x=>
  have g:xU off x bz r d t H.length k:=g;unfold xU at g;rw [cX]at g;split at g
  ·rename_i z;rw [bU]at g;exact go rfl (by simp only [bs,z,im];rfl) h g
  ·rename_i z;rw [bU]at g;exact go rfl (by simp only [bs,z,im];rfl) h g
  ·exact g.elim
 case field off m x=>
  have g:Df off m x bz r d t H.length k:=g;unfold Df at g;rw [cX]at g;split at g
  ·rename_i z;obtain⟨v,l,g⟩:=uo g;exact go rfl (by simp only [bs,z,lX,l];rfl) h g
  ·exact g.elim
 case aV sz F x i=>
  have g:xV sz F x i bz r d t H.length k:=g;unfold xV at g;rw [cX,cX]at g;obtain⟨v,l,g⟩:=J6 h g;exact go rfl (by simp only [bs,l];rfl) h g
 case extract x i=>
  have g:td x i bz r d t H.length k:=g;unfold td at g;rw [cX]at g;split at g
  ·rename_i z;obtain⟨v,l,g⟩:=sw g;exact go rfl (by simp only [bs,z,l];rfl) h g
  ·exact g.elim
 case call f args E=>
  have g:UL f args E bz r d t H.length k:=g;unfold UL at g;rw [oq]at g;cases E with
  | false=>
   obtain⟨v,H',q,s,u,l⟩:=WM hc h g;exact⟨v,d,H',q,by simp only [ei,gd,anc,if_false,s];rfl,u,l⟩
  | true=>
   obtain⟨v,H',q,s,u,l⟩:=hc _ _ H t _ h g;exact⟨v,d,H',q,by simp only [ei,gd,if_true,s];rfl,u,l⟩
 case bP x args E=>
  have g:Dd x args E bz r d t H.length k:=g;unfold Dd at g;rw [cX,oq]at g;obtain⟨⟨c,J⟩,s,g⟩:=jw g;obtain⟨v,H',q,u,l,B⟩:=hc c J H t _ h g;exact⟨v,d,H',q,by simp only [ei,s,u];rfl,l,B⟩
 case len x=>
  have g:aeK x bz r d t H.length k:=g;unfold aeK at g;rw [cX]at g;obtain⟨y,m,s,u,g⟩:=abF h g;exact go rfl (by simp only [bs,s,u];rfl) h g
 case tP m=>
  have g:adT m bz r d t H.length k:=g;exact go rfl rfl h g
 case append sz bytes x y=>
  have g:xT sz bytes x y bz r d t H.length k:=g;unfold xT at g;rw [cX,cX]at g;obtain⟨v,H',q,s,u,l⟩:=EU h g;exact go rfl (by simp only [bs,s]) u l
 case recover=>
  have g:AV bz r d t H.length k:=g;exact⟨_,d,H,t,rfl,h,g⟩
 case defer x args=>
  have g:De x args bz r d t H.length k:=g;unfold De at g;rw [cX,oq]at g;obtain⟨⟨c,J⟩,s,g⟩:=jw g;cases c with
  | fn f=>exact⟨_,.fn f J::d,H,t,by simp only [ei,s],h,g⟩
  | yield b=>exact g.elim
 all_goals exact gen rfl g
end
section
set_option linter.unusedVariables false
def zk(H:aj):C→Int→C→Option (V × aj)
 | .sl b o l _ g s,i,.sl vb m 1 _ _ _=>match H[b]?,H[vb]? with
  | some (.bG s' cs j e .loc),aa (.box d _)=>
   if o=0∧m=0∧g=e∧s=5∧s'=5∧cs.length=l*5∧j=0∧0≤i∧i<l∧l≤1000000∧d.length=5 then
    aa (.c (.sl b 0 (l+1) 0 (e+1) 5),H.set b (.bG 5 (cs.take (i.toNat*5)++d++cs.drop (i.toNat*5)) 0 (e+1) .loc))
   else ab
  | _,_=>ab
 | _,_,_=>ab
def J8(args:List V)(H:aj):Option (V × aj):=
 match args with
 | [.c x,.c (.f (.int .i64 i)),.c y]=>match bE H x,cT H 5 (.c y)with
  | some n,aa (1,_)=>if i=n then bX H 5 40 (.c x) (.c y)else zk H x i y| _,_=>ab
 | _=>ab
def prm(f:Nat)(args:List V)(H:aj):Option (Option (V × aj)):=if f=lF then aa (J8 args H)else ab
def abu(args:List V)(t:HT)(n:Nat)(k:V→HT→Nat→Prop):Prop:=match args with
 | [.c (.f .aE),.c (.f (.int .i64 (.ofNat i))),.c y]=>lS (Nat.beq i 0) (te t 5 (.c y) fun m _=>lS (Nat.beq m 1) (aaO t n 5 40 (.c (.f .aE)) (.c y) k))
 | _=>False
theorem abv{H:aj}{t:HT}(h:cH H t){args:List V}{k:V→HT→Nat→Prop}(b:abu args t H.length k):∃ v H' g,prm lF args H=aa (aa (v,H'))∧cH H' g∧k v g H'.length:=by
 unfold abu at b;split at b
 ·obtain⟨j,l⟩:=iP b;have j:=arp j;subst j;clear b;rename_i y;have b:te t 5 (.c y) fun m _=>lS (Nat.beq m 1) (aaO t H.length 5 40 (.c (.f .aE)) (.c y) k):=l;obtain⟨m,ys,x,b⟩:=wj h b;obtain⟨d,q⟩:=iP b;have d:=arp d;clear b;subst d;obtain⟨v,H',g,s,d,u⟩:=EU h q;exact⟨v,H',g,by simp [prm,J8,bE,x,s],d,u⟩
 ·exact b.elim
def nJ(tab:Nat→Option aD)(f:Nat)(args:List V)(H:aj):Option (Option (V × aj)):=match tab f with
 | some _=>ab| none=>prm f args H
theorem xx{tab:Nat→Option aD}{f:Nat}{a:aD}(h:tab f=aa a)(args:List V)(H:aj):nJ tab f args H=ab:=by simp [nJ,h]
end
section
set_option linter.unusedVariables false
def aea(g:Option (P × Bool))(r:T)(d j:Prop):Prop:=
 Option.rec (motive:=fun _=>Prop) d (fun pw=>Prod.rec (motive:=fun _=>Prop) (fun p w=>Bg p r fun v=>match v with
  | .c (.f (.bool b))=>Bool.rec (motive:=fun _=>Prop) (Bool.rec (motive:=fun _=>Prop) d j w) (Bool.rec (motive:=fun _=>Prop) j d w) b
  | .t []=>j
  | _=>False) pw) g
theorem Xt{g:Option (P × Bool)}{r:T}{d l:Prop}(h:aea g r d l):(wanted r g=aa ae∧d)∨(wanted r g=aa ag∧l):=by
 cases g with
 | none=>exact .inl ⟨rfl,h⟩
 | some pw=>
  obtain⟨p,w⟩:=pw;change Bg p r _ at h;rw [mN]at h;simp only [wanted];split at h
  ·rename_i b j;rw [j];cases b<;>cases w
   ·exact .inl ⟨rfl,h⟩
   ·exact .inr ⟨rfl,h⟩
   ·exact .inr ⟨rfl,h⟩
   ·exact .inl ⟨rfl,h⟩
  ·rename_i j;rw [j];exact .inr ⟨rfl,h⟩
  ·exact h.elim
abbrev Jy:=T→List dw→HT→Nat→Prop
def Xk(o:aP)(call:ff)(r:T)(d:List dw)(t:HT)(n:Nat)(k:Jy):Prop:=
 aP.rec (motive:=fun _=>Prop) (fun dst op g=>aea g r (ajE op call r d t n fun v d t n=>agY dst r v fun r=>k r d t n) (agY dst r (.t []) fun r=>k r d t n)) o
theorem Ck{call:cC}{bz:ff}(hc:nX call bz){o:aP}{r:T}{d:List dw}{H:aj}{t:HT}{k:Jy}(h:cH H t)(b:Xk o bz r d t H.length k) :
  ∃ s' j,fj call ⟨r,d,H⟩ o=aa s'∧cH s'.heap j∧k s'.az s'.defs j s'.heap.length:=by
 obtain⟨dst,op,g⟩:=o;rcases Xt b with⟨l,b⟩ | ⟨l,b⟩
 ·obtain⟨v,q,H',j,s,u,m⟩:=abS hc op h b;rw [FM]at m;exact⟨⟨jb r dst v,q,H'⟩,j,by simp only [fj,l,s],u,m⟩
 ·rw [FM]at b;exact⟨⟨jb r dst (.t []),d,H⟩,t,by simp only [fj,l],h,b⟩
def ajM(ops:List aP)(call:ff):T→List dw→HT→Nat→Jy→Prop:=
 List.rec (motive:=fun _=>T→List dw→HT→Nat→Jy→Prop) (fun r d t n k=>k r d t n) (fun o _ b r d t n k=>Xk o call r d t n fun r d t n=>b r d t n k) ops
theorem Fx{call:cC}{bz:ff}(hc:nX call bz):∀ {ops:List aP} {r:T} {d:List dw} {H:aj} {t:HT} {k:Jy},cH H t→ajM ops bz r d t H.length k →
  ∃ s' j,fe call ops ⟨r,d,H⟩=aa s'∧cH s'.heap j∧k s'.az s'.defs j s'.heap.length
 | [],r,d,H,t,k,h,b=>⟨⟨r,d,H⟩,t,rfl,h,b⟩
 | o::ops,r,d,H,t,k,h,b=>by
  obtain⟨g,t1,l,m,q⟩:=Ck hc h b;obtain⟨x,t2,s,u,v⟩:=Fx hc (r:=g.az) (d:=g.defs) (H:=g.heap) m q;exact⟨x,t2,by simp only [fe,l];exact s,u,v⟩
structure ta where
 r:T
 d:List dw
 t:HT
 n:Nat
def zt(ops:List aP)(call:ff):T→List dw→HT→Nat→(List ta→Jy)→Prop:=
 List.rec (motive:=fun _=>T→List dw→HT→Nat→(List ta→Jy)→Prop) (fun r d t n k=>k [⟨r,d,t,n⟩] r d t n)
  (fun o _ q r d t n k=>Xk o call r d t n fun r' m u n'=>q r' m u n' fun s j b l g=>k (⟨r,d,t,n⟩::s) j b l g) ops
def adS(s:St)(x:ta):Prop:=x.r=s.az∧x.d=s.defs∧cH s.heap x.t∧x.n=s.heap.length
inductive tc:List St→List ta→Prop
 | nil:tc [] []
 | cons {s:St} {x:ta} {ss:List St} {xs:List ta} (h:adS s x) (hs:tc ss xs):tc (s::ss) (x::xs)
theorem tc.get{d:List St}{xs:List ta}(h:tc d xs):∀(i:Nat) (x:ta),xs[i]?=aa x→∃ s,d[i]?=aa s∧adS s x:=by
 induction h with
 | nil=>intro i x b;simp at b
 | cons h j g=>
  intro i x b;cases i with
  | zero=>simp at b;subst b;exact⟨_,rfl,h⟩| succ i=>simpa using g i x (by simpa using b)
theorem uH{call:cC}{bz:ff}(hc:nX call bz):∀ {ops:List aP} {r:T} {d:List dw} {H:aj} {t:HT} {k:List ta→Jy},cH H t→zt ops bz r d t H.length k →
  ∃ b xs s' m,dv call ops ⟨r,d,H⟩=aa b∧tc b xs∧b.getLast?=aa s'∧cH s'.heap m∧k xs s'.az s'.defs m s'.heap.length
 | [],r,d,H,t,k,h,g=>⟨[⟨r,d,H⟩],[⟨r,d,t,H.length⟩],⟨r,d,H⟩,t,rfl,.cons ⟨rfl,rfl,h,rfl⟩ .nil,rfl,h,g⟩
 | o::ops,r,d,H,t,k,h,g=>by
  obtain⟨j,t1,q,s,u⟩:=Ck hc h g;obtain⟨b,xs,A,t2,v,x,l,y,z⟩:=uH hc (r:=j.az) (d:=j.defs) (H:=j.heap) s u;refine⟨⟨r,d,H⟩::b,⟨r,d,t,H.length⟩::xs,A,t2,by simp only [dv,q];rw [v],.cons ⟨rfl,rfl,h,rfl⟩ x,?_,y,z⟩;cases b with
  | nil=>simp at l| cons a as=>simpa using l
def FX(ops:List aP)(xs:List ta)(c:Nat × Nat):Bool:=
 match ops[c.1]?,xs[c.1]?,xs[c.2]? with
 | some o,aa s,aa s'=>match wanted s.r o.g with
  | some ag=>ae
  | _=>match Xx s.r s.t.get s.n o.op,Xx s.r s'.t.get s'.n o.op with
   | some (v,_),aa (b,_)=>v.beq b| _,_=>ag
 | _,_,_=>ag
theorem W6{ops:List aP}{l:List St}{xs:List ta}(h:tc l xs){c:Nat × Nat}(hc:FX ops xs c=ae):sameAt ops l c=ae:=by
 unfold FX at hc;split at hc
 ·rename_i o x O z A B;obtain⟨s,m,q,K,u,y⟩:=h.get _ _ A;obtain⟨s',F,L,M,H,I⟩:=h.get _ _ B;unfold sameAt;rw [z,m,F];simp only;rw [←q];split at hc
  ·rename_i E;rw [E]
  ·split at hc
   ·rename_i v e N J g j;rw [u,y]at g;rw [H,I]at j;have b:=zA x.r s.heap o.op;rw [g]at b;have d:=zA x.r s'.heap o.op;rw [j]at d;rw [←b,←d];split
    ·rfl
    ·exact hc
   ·simp at hc
 ·simp at hc
def oV(ops:List aP)(gJ:List (Nat × Nat))(call:ff)(r:T)(d:List dw)(t:HT)(n:Nat)(k:Jy):Prop:=
 List.rec (motive:=fun _=>Prop) (ajM ops call r d t n k) (fun _ _ _=>zt ops call r d t n fun xs r d t n=>lS (gJ.all (FX ops xs)) (k r d t n)) gJ
theorem Ek{call:cC}{bz:ff}(hc:nX call bz){ops:List aP}{gJ:List (Nat × Nat)}{r:T}{d:List dw}{H:aj}{t:HT}{k:Jy}(h:cH H t)(b:oV ops gJ bz r d t H.length k) :
  ∃ s' g,fE call ops gJ ⟨r,d,H⟩=aa s'∧cH s'.heap g∧k s'.az s'.defs g s'.heap.length:=by
 cases gJ with
 | nil=>exact Fx hc h b
 | cons c cs=>
  have b:zt ops bz r d t H.length (fun xs r d t n=>lS ((c::cs).all (FX ops xs)) (k r d t n)):=b;obtain⟨x,xs,s',g,l,m,q,s,u⟩:=uH hc h b;obtain⟨j,v⟩:=iP u;refine⟨s',g,?_,s,v⟩;simp only [fE,l];rw [bh,q];rw [aqH]at j ⊢;exact fun c hc=>W6 m (j c hc)
abbrev Go1:=Option Nat→List cd→Jy
abbrev aaJ:=Option av→Jy
abbrev bZ:=ff→Nat→aaJ→Go1→Option Nat→List cd→Jy
def EX:bZ:=fun _ _ _ go ro rest r d t n=>go ro rest r d t n
def aaV(ops:List aP)(gJ:List (Nat × Nat)):bZ:=fun call _ _ go ro rest r d t n=>
 Option.rec (motive:=fun _=>Prop) (oV ops gJ call r d t n fun r d t n=>go ro rest r d t n)
  (fun _=>lS (ops.all (·.op.dP)) (oV ops gJ call r d t n fun r d t n=>go ro rest r d t n)) ro
def amc(a b:av)(_ _:bZ):bZ:=fun _ _ _ go ro rest r d t n=>go ro (.code a::.code b::rest) r d t n
def U4(c:Arg)(a b:av)(_ _:bZ):bZ:=fun _ _ _ go ro rest r d t n=>oy c r fun v=>match v with
 | .c (.f (.bool v))=>Bool.rec (motive:=fun _=>Prop) (go ro (.code b::rest) r d t n) (go ro (.code a::rest) r d t n) v
 | _=>False
def ae4(id:Nat)(a:av)(_:bZ):bZ:=fun _ _ _ go ro rest r d t n=>go ro (.code a::.inBlock id::rest) r d t n
def aiN(a:av)(_:bZ):bZ:=fun _ _ _ go ro rest r d t n=>go ro (.code a::.inLoop a::rest) r d t n
def yd(f:Arg)(ps:List P)(as bd:av)(_ _:bZ):bZ:=fun call fn _ go ro rest r d t n=>
 Option.rec (motive:=fun _=>Prop)
  (nu (.jF ae) t n fun t b=>nu (.lp fn r ps as bd .ready ab n) t b fun t l=>oy f r fun x=>
   qD (bQ x [.c (.yl b)]) fun j=>Prod.rec (motive:=fun _=>Prop) (fun c m=>Callee.rec (motive:=fun _=>Prop)
    (fun g=>call (.fn g) m t l fun _ t n'=>go ab (.ib b::rest) r (.ov n::d) t n') (fun _=>False) c) j)
  (fun _=>False) ro
def U5(id:Nat):bZ:=fun _ _ b go ro rest r d t n=>
 Option.rec (motive:=fun _=>Prop) (Option.rec (motive:=fun _=>Prop) False (fun _=>b (aa (.exit id)) r d t n) ro) (fun k=>go ro k r d t n) (exitTo id rest)
def amb:bZ:=fun _ _ b _ _ _ r d t n=>b (aa .ret) r d t n
def ama:bZ:=fun _ _ _ _ _ _ _ _ _ _=>False
def ae6(a:av)(_:bZ):bZ:=fun _ _ _ go ro rest r d t n=>go ro (.code a::.inScope a::rest) r d t n
def ae5(_:Nat):bZ:=EX
def aiM(l:Nat):bZ:=fun _ _ _ go ro rest r d t n=>qD (gotoIn l rest) fun k=>go ro k r d t n
def A'(c:av):bZ:=av.rec (motive:=fun _=>bZ) EX aaV amc U4 ae4 aiN yd U5 amb ama ae6 ae5 aiM c
def afl(_:Nat):bZ:=EX
def ai7(c:av):bZ:=fun _ _ _ go ro rest r d t n=>go ro (.code c::.inLoop c::rest) r d t n
def DF(b:Nat):bZ:=fun _ _ _ go ro rest r d t n=>fQ b t fun bq=>match bq with
 | .lp f tmps ps as bd st pending g=>lS (match st with | .busy=>ag | _=>ae) (fR (.lp f tmps ps as bd .exhausted pending g) t b fun t=>match pending with
  | none=>go ro rest r d t n| some .ret=>go ro (.code .ret::rest) r d t n| some (.exit id)=>go ro (.code (.exit id)::rest) r d t n
  | some _=>False)
 | _=>False
def adY:bZ:=fun _ _ _ go ro rest r d t n=>Option.rec (motive:=fun _=>Prop) False (fun b=>fQ b t fun bq=>match bq with
 | .lp f tmps ps as bd .ready pending g=>fR (.lp f tmps ps as bd .busy pending g) t b fun t=>go ro rest r d t n
 | _=>False) ro
def afm(_:av):bZ:=EX
def adZ(x:cd):bZ:=cd.rec (motive:=fun _=>bZ) A' afl ai7 DF adY afm x
def runK(call:ff)(fn:Nat)(b:aaJ)(m:Nat):Go1:=
 Nat.rec (motive:=fun _=>Go1) (fun _ _ _ _ _ _=>False)
  (fun _ j ro g r d t n=>List.rec (motive:=fun _=>Prop) (b ab r d t n) (fun x rest _=>adZ x call fn b j ro rest r d t n) g) m
def ahM(call:cC)(fn m:Nat)(ro:Option Nat)(g:List cd)(s:St)(d:aaJ):Prop:=
 ∃ b s' j,run call fn m ro g s=aa (b,s')∧cH s'.heap j∧d b s'.az s'.defs j s'.heap.length
theorem FR{call:cC}{bz:ff}(hc:nX call bz)(fn:Nat)(j:aaJ):∀(m:Nat) (ro:Option Nat) (s:List cd) (r:T) (d:List dw) (H:aj) (t:HT),
  cH H t→runK bz fn j m ro s r d t H.length→ahM call fn m ro s ⟨r,d,H⟩ j:=by
 intro m;induction m with
 | zero=>intro ro s r d H t h q;exact q.elim
 | succ m ih=>
  intro ro s r d H t h q;have go:∀ {y} {s':St} {E:HT},run call fn (m+1) ro s ⟨r,d,H⟩=run call fn m ro y s'→cH s'.heap E→runK bz fn j m ro y s'.az s'.defs E s'.heap.length→ahM call fn (m+1) ro s ⟨r,d,H⟩ j:=by
   intro y s' E u z B;obtain⟨L,N,O,W,X,Y⟩:=ih ro y s'.az s'.defs s'.heap E z B;exact⟨L,N,O,by rw [u];exact W,X,Y⟩
  cases s with
  | nil=>exact⟨ab,⟨r,d,H⟩,t,rfl,h,q⟩
  | cons x rest=>
   have q:adZ x bz fn j (runK bz fn j m) ro rest r d t H.length:=q;cases x with
   | inBlock id=>exact go (s':=⟨r,d,H⟩) (by simp only [run]) h q
   | inLoop c=>exact go (s':=⟨r,d,H⟩) (by simp only [run]) h q
   | inScope c=>exact go (s':=⟨r,d,H⟩) (by simp only [run]) h q
   | ib b=>
    have q:DF b bz fn j (runK bz fn j m) ro rest r d t H.length:=q;unfold DF at q;obtain⟨bq,u,z⟩:=dd q;rw [h]at u;have u:H[b]?=aa bq:=u;split at z
    ·rename_i f tmps ps as bd st pending F _;obtain⟨B,z⟩:=iP z;obtain⟨E,I,A⟩:=dL h z;have J:st≠.busy:=by rintro rfl;simp at B
     have M:H.length=(H.set b (.lp f tmps ps as bd .exhausted pending F)).length:=by simp
     rw [M]at A;split at A
     ·exact go (s':=⟨r,d,H.set b (.lp f tmps ps as bd .exhausted ab F)⟩) (by simp only [run,u,aY J]) I A
     ·exact go (s':=⟨r,d,H.set b (.lp f tmps ps as bd .exhausted (aa .ret) F)⟩) (by simp only [run,u,aY J]) I A
     ·exact go (s':=⟨r,d,H.set b (.lp f tmps ps as bd .exhausted (aa (.exit _)) F)⟩) (by simp only [run,u,aY J]) I A
     ·exact A.elim
    ·exact z.elim
   | lQ=>
    have q:adY bz fn j (runK bz fn j m) ro rest r d t H.length:=q;cases ro with
    | none=>exact q.elim
    | some b=>
     obtain⟨bq,u,z⟩:=dd q;rw [h]at u;have u:H[b]?=aa bq:=u;split at z
     ·rename_i f tmps ps as bd pending F _;obtain⟨E,I,A⟩:=dL h z;have M:H.length=(H.set b (.lp f tmps ps as bd .busy pending F)).length:=by simp
      rw [M]at A;exact go (s':=⟨r,d,H.set b (.lp f tmps ps as bd .busy pending F)⟩) (by simp only [run,u]) I A
     ·exact z.elim
   | code c=>
    cases c with
    | skip=>exact go (s':=⟨r,d,H⟩) (by simp only [run]) h q
    | label l=>exact go (s':=⟨r,d,H⟩) (by simp only [run]) h q
    | scope a=>exact go (s':=⟨r,d,H⟩) (by simp only [run]) h q
    | goto l=>
     obtain⟨k',K,q⟩:=jw (show qD (gotoIn l rest) (fun k'=>runK bz fn j m ro k' r d t H.length) from q);exact go (s':=⟨r,d,H⟩) (by simp only [run,K]) h q
    | bad=>exact q.elim| ret=>exact⟨aa .ret,⟨r,d,H⟩,t,rfl,h,q⟩| seq a b=>exact go (s':=⟨r,d,H⟩) (by simp only [run]) h q
    | block id a=>exact go (s':=⟨r,d,H⟩) (by simp only [run]) h q
    | loop a=>exact go (s':=⟨r,d,H⟩) (by simp only [run]) h q
    | exit id=>
     have q:U5 id bz fn j (runK bz fn j m) ro rest r d t H.length:=q;unfold U5 at q;cases K:exitTo id rest with
     | some k'=>
      rw [K]at q;exact go (s':=⟨r,d,H⟩) (by simp only [run,K]) h q
     | none=>
      rw [K]at q;cases ro with
      | none=>exact q.elim| some b=>exact⟨aa (.exit id),⟨r,d,H⟩,t,by simp only [run,K,Option.isSome_some,if_true],h,q⟩
    | cond c a b=>
     have q:U4 c a b (A' a) (A' b) bz fn j (runK bz fn j m) ro rest r d t H.length:=q;unfold U4 at q;rw [cX]at q;split at q
     ·rename_i v U;cases v with
      | true=>exact go (s':=⟨r,d,H⟩) (by simp only [run,U,if_true]) h q
      | false=>exact go (s':=⟨r,d,H⟩) (by simp only [run,U,anc,if_false]) h q
     ·exact q.elim
    | region ops gJ=>
     have key:(ro.isSome&&!ops.all (·.op.dP))=ag∧oV ops gJ bz r d t H.length (fun r d t n=>runK bz fn j m ro rest r d t n):=by
      cases ro with
      | none=>exact⟨rfl,q⟩
      | some b=>
       obtain⟨u,z⟩:=iP (show lS (ops.all (·.op.dP)) (oV ops gJ bz r d t H.length (fun r d t n=>runK bz fn j m (aa b) rest r d t n)) from q);exact⟨by rw [u];rfl,z⟩
     obtain⟨s',E,u,z,B⟩:=Ek hc h key.2;exact go (s':=s') (by simp only [run,key.1,anc,if_false,u]) z B
    | jI f ps as bd=>
     have q:yd f ps as bd (A' as) (A' bd) bz fn j (runK bz fn j m) ro rest r d t H.length:=q;cases ro with
     | some b=>exact q.elim
     | none=>
      unfold yd at q;obtain⟨t1,u,q⟩:=gU h q;obtain⟨t2,z,q⟩:=gU u q;rw [cX]at q;obtain⟨⟨c,vs⟩,B,q⟩:=jw q;have Q:(H++[cS.jF ae]).length=H.length+1:=by simp
      have S:H++[cS.jF ae]++[cS.lp fn r ps as bd .ready ab H.length]=H++[.jF ae,.lp fn r ps as bd .ready ab H.length]:=by simp
      rw [Q]at B;rw [S]at z;cases c with
      | yield b=>exact q.elim
      | fn g=>
       have q:bz (.fn g) vs t2 (H++[cS.jF ae]++[cS.lp fn r ps as bd .ready ab H.length]).length (fun _ t n'=>runK bz fn j m ab (.ib (H++[cS.jF ae]).length::rest) r (.ov H.length::d) t n'):=q;rw [S,Q]at q;obtain⟨v,H',E,I,A,Z⟩:=hc _ _ _ _ _ z q;exact go (s':=⟨r,.ov H.length::d,H'⟩) (by simp only [run,Option.isSome_none,anc,if_false,B,I]) A Z
def E0(call:ff)(ds:List dw):HT→Nat→(HT→Nat→Prop)→Prop:=
 List.rec (motive:=fun _=>HT→Nat→(HT→Nat→Prop)→Prop) (fun t n k=>k t n)
  (fun x _ d t n k=>dw.rec (motive:=fun _=>Prop)
   (fun b=>fQ b t fun bq=>match bq with
    | .jF ae=>fR (.jF ag) t b fun t=>d t n k
    | _=>False)
   (fun f args=>Bool.rec (motive:=fun _=>Prop) (call (.fn f) args t n fun _ t n=>d t n k) False (Nat.beq f lF)) x) ds
theorem tw{call:cC}{bz:ff}(hc:nX call bz):∀ {ds:List dw} {H:aj} {t:HT} {k:HT→Nat→Prop},cH H t→E0 bz ds t H.length k→∃ H' j,dJ call ds H=aa H'∧cH H' j∧k j H'.length
 | [],H,t,k,h,d=>⟨H,t,rfl,h,d⟩
 | .ov b::ds,H,t,k,h,d=>by
  obtain⟨bq,g,l⟩:=dd d;rw [h]at g;have g:H[b]?=aa bq:=g;split at l
  ·obtain⟨t1,q,m⟩:=dL h l;have z:H.length=(H.set b (.jF ag)).length:=by simp
   have m:E0 bz ds t1 H.length k:=m;rw [z]at m;obtain⟨H',j,s,u,x⟩:=tw hc q m;exact⟨H',j,by simp only [dJ,g];exact s,u,x⟩
  ·exact l.elim
 | .fn f args::ds,H,t,k,h,d=>by
  have d:Bool.rec (motive:=fun _=>Prop) (bz (.fn f) args t H.length fun _ t n=>E0 bz ds t n k) False (Nat.beq f lF):=d;cases y:Nat.beq f lF with
  | true=>rw [y]at d;exact d.elim
  | false=>
   rw [y]at d;obtain⟨v,A,t1,g,l,q⟩:=hc _ _ H t _ h d;obtain⟨H',j,s,u,x⟩:=tw hc (ds:=ds) l q;exact⟨H',j,by simp only [dJ,aY (Nat.ne_of_beq_eq_false y),g];exact s,u,x⟩
def ak1(r:T)(t:HT)(a:ie)(k:V→Prop):Prop:=ie.rec (motive:=fun _=>Prop)
 (fun p=>Bg p r fun v=>match v with
  | .t _=>False
  | v=>k v)
 (fun p m=>Bg p r fun v=>ldK t m v k) a
theorem acQ{H:aj}{t:HT}(h:cH H t){r:T}(a:ie)(k:V→Prop)(b:ak1 r t a k):∃ v,bJ r H a=aa v∧k v:=by
 cases a with
 | tmp p=>
  change Bg p r _ at b;rw [mN]at b;simp only [bJ];cases d:r.get p with
  | t g=>rw [d]at b;exact b.elim| _=>rw [d]at b;exact⟨_,rfl,b⟩
 | cell p m=>
  change Bg p r _ at b;rw [mN]at b;exact VE h b
def B5(r:T)(t:HT)(b:List ie)(k:V→Prop):Prop:=yx (ak1 r t) b fun vs=>match vs with
 | [v]=>k v| vs=>k (.t vs)
theorem B6{H:aj}{t:HT}(h:cH H t){r:T}{g:List ie}{k:V→Prop}(m:B5 r t g k):∃ v,Km.results r H g=aa v∧k v:=by
 obtain⟨j,l,d⟩:=ik (acQ h) m;unfold Km.results;rw [l];split at d
 ·exact⟨_,rfl,d⟩
 ·rename_i b;refine⟨.t j,?_,d⟩
  match j,b with
  | [v],b=>exact absurd rfl (b v)| [],_=>rfl| _::_::_,_=>rfl
def fnK(tab:BT aD)(m:Nat)(call:ff)(f:Nat)(args:List V)(t:HT)(n:Nat)(k:V→HT→Nat→Prop):Prop:=
 fQ f tab fun b=>aD.rec (motive:=fun _=>Prop) (fun ps g body=>gQ args.length ps.length (sI ps args .e fun r=>
  runK call f (fun _ r d t n=>E0 call d t n fun t n=>B5 r t g fun v=>k v t n) m ab [.code body] r [] t n)) b
def XA(m:Nat)(call:ff)(b:Nat)(args:List V)(t:HT)(n:Nat)(k:V→HT→Nat→Prop):Prop:=
 fQ b t fun bq=>match bq with
  | .lp f tmps ps as bd _ _ _=>gQ args.length ps.length (sI ps args tmps fun r=>
    runK call f (fun q _ d t n=>lS d.isEmpty (fQ b t fun bq=>match bq with
     | .lp v g s as' l _ _ u=>match q with
      | none=>fR (.lp v g s as' l .ready ab u) t b fun t=>k (.c (.f (.bool ae))) t n
      | some j=>fR (.lp v g s as' l .done (aa j) u) t b fun t=>k (.c (.f (.bool ag))) t n
     | _=>False)) m (aa b) [.code as,.lQ,.code bd] r [] t n)
  | _=>False
def bz(tab:BT aD)(m:Nat)(d:Nat):ff:=
 Nat.rec (motive:=fun _=>ff) (fun _ _ _ _ _=>False)
  (fun _ g c args t n k=>Callee.rec (motive:=fun _=>Prop) (fun f=>Bool.rec (motive:=fun _=>Prop) (fnK tab m g f args t n k) (Option.rec (motive:=fun _=>Prop) (abu args t n k) (fun _=>False) (tab.get lF)) (Nat.beq f lF)) (fun b=>XA m g b args t n k) c) d
theorem U7(tab:BT aD)(m:Nat):∀ g,nX (dG tab.get (nJ tab.get) m g) (bz tab m g):=by
 intro g;induction g with
 | zero=>intro c args H t k h d;exact d.elim
 | succ g J=>
  intro c args H t k h d;cases c with
  | fn f=>
   have d:Bool.rec (motive:=fun _=>Prop) (fnK tab m (bz tab m g) f args t H.length k) (Option.rec (motive:=fun _=>Prop) (abu args t H.length k) (fun _=>False) (tab.get lF)) (Nat.beq f lF):=d;cases E:Nat.beq f lF with
   | true=>
    rw [E]at d;have M:=arp E;subst M;cases I:tab.get lF with
    | some _=>rw [I]at d;exact d.elim
    | none=>
     rw [I]at d;obtain⟨v,H',K,q,x,y⟩:=abv h d;exact⟨v,H',K,by simp only [dG,nJ,I,q],x,y⟩
   | false=>
   rw [E]at d;have N:=Nat.ne_of_beq_eq_false E;obtain⟨L,q,d⟩:=dd (show fnK tab m (bz tab m g) f args t H.length k from d);obtain⟨ps,O,body⟩:=L;obtain⟨x,d⟩:=cL d;rw [nN]at d;obtain⟨u,s',K,y,z,d⟩:=FR J f _ m ab [.code body] _ [] H t h d;obtain⟨H',l,B,s,d⟩:=tw J z d;obtain⟨v,A,d⟩:=B6 s d;exact⟨v,H',l,by simp only [dG,xx q,q,x,if_true,y,B,A];rfl,s,d⟩
  | yield b=>
   obtain⟨bq,q,d⟩:=dd (show XA m (bz tab m g) b args t H.length k from d);rw [h]at q;have q:H[b]?=aa bq:=q;split at d
   ·obtain⟨x,d⟩:=cL d;rw [nN]at d;obtain⟨u,s',K,y,z,d⟩:=FR J _ _ m (aa b) _ _ [] H t h d;obtain⟨B,d⟩:=iP d;obtain⟨blk',s,d⟩:=dd d;rw [z]at s;have s:s'.heap[b]?=aa blk':=s;split at d
    ·cases u with
     | none=>
      obtain⟨l,A,F⟩:=dL z d;exact⟨_,_,l,by simp only [dG,q,x,if_true,y,B,s];rfl,A,by rw [List.length_set];exact F⟩
     | some j=>
      obtain⟨l,A,F⟩:=dL z d;exact⟨_,_,l,by simp only [dG,q,x,if_true,y,B,s];rfl,A,by rw [List.length_set];exact F⟩
    ·exact d.elim
   ·exact d.elim
def isTrue(v:V)(_:HT)(_:Nat):Prop:=match v with
 | .c (.f (.bool b))=>Bool.rec (motive:=fun _=>Prop) False True b
 | _=>False
theorem Dp{tab:BT aD}{m d f:Nat}(h:bz tab m d (.fn f) [] .e 0 isTrue):∃ H',dG tab.get (nJ tab.get) m d (.fn f) [] []=aa (.c (.f (.bool ae)),H'):=by
 obtain⟨v,H',q,j,l,g⟩:=U7 tab m d (.fn f) [] [] .e isTrue cH.nil h;refine⟨H',?_⟩;rw [j];unfold isTrue at g;split at g
 ·rename_i b;cases b with
  | true=>rfl| false=>exact g.elim
 ·exact g.elim
end
theorem aJ{P:Nat→aD→Prop}:∀ i a,(BT.e:BT aD).get i=aa a→P i a:=fun i a h=>by cases i<;>cases h
theorem aK{P:Nat→aD→Prop}{l r:BT aD}{x:aD}(d:∀ i a,l.get i=aa a→P (2*i+1) a)(g:P 0 x)
  (hr:∀ i a,r.get i=aa a→P (2*i+2) a):∀ i a,(BT.n l x r).get i=aa a→P i a:=by
 intro i a h;cases i with
 | zero=>cases h;exact g
 | succ m=>
  have b:(if m % 2=0 then l.get (m / 2)else r.get (m / 2))=aa a:=h;split at b
  ·have:=d _ _ b;rwa [show 2*(m / 2)+1=m+1 by omega]at this
  ·have:=hr _ _ b;rwa [show 2*(m / 2)+2=m+1 by omega]at this
theorem acM{Q:Program}{σ:Nat→FuncId}(h:xR Q σ prm)(tab:Nat→Option aD):xR Q σ (nJ tab):=fun f args H r H' b=>by
 unfold nJ at b;split at b
 ·cases b
 ·exact h f args H r H' b
theorem B3{tab:BT aD}{f:Nat}(h:∃ m b,bz tab m b (.fn f) [] .e 0 isTrue=True):∃ m b H',dG tab.get (nJ tab.get) m b (.fn f) [] []=aa (.c (.f (.bool ae)),H'):=by
 obtain⟨m,b,h⟩:=h;obtain⟨H',d⟩:=Dp (of_eq_true h);exact⟨m,b,H',d⟩
section
def xM(c1 c2:cC):Prop:=∀ c args H r,c1 c args H=aa r→c2 c args H=aa r
section
variable{c1 c2:cC}(hc:xM c1 c2)
include hc
theorem vC{c:Nat}{args:List V}{H:aj}{r:V × aj}(h:dV c1 c args H=aa r):dV c2 c args H=aa r:=by
 unfold dV at h ⊢;split at h
 ·simp at h
 ·rename_i g d;split at h
  ·simp at h
  ·rename_i r0 H0 b;simp only [hc _ _ _ _ b];exact h
theorem yW{b:Bool}{c:Nat}{args:List V}{H:aj}{r:V × aj}(h:gd c1 b c args H=aa r):gd c2 b c args H=aa r:=by
 unfold gd at h ⊢;split at h
 ·rename_i d;simp only [d,if_true];exact hc _ _ _ _ h
 ·rename_i d;simp only [d];exact vC hc h
theorem xG{s:St}{op:cG}{r:V × St}(h:ei c1 s op=aa r):ei c2 s op=aa r:=by
 cases op with
 | call f args b=>
  simp only [ei,If]at h ⊢;obtain⟨a,d,rfl⟩:=h;exact⟨a,yW hc d,rfl⟩
 | bP x args b=>
  simp only [ei]at h ⊢;split at h
  ·simp only [If]at h ⊢;obtain⟨a,d,rfl⟩:=h;exact⟨a,hc _ _ _ _ d,rfl⟩
  ·simp at h
 | _=>exact h
theorem uS{s s':St}{o:aP}(h:fj c1 s o=aa s'):fj c2 s o=aa s':=by
 unfold fj at h ⊢;cases g:wanted s.az o.g with
 | none=>simp [g]at h
 | some b=>
  cases b with
  | false=>simpa [g]using h
  | true=>
   simp only [g]at h ⊢;cases d:ei c1 s o.op with
   | none=>simp [d]at h
   | some x=>
    obtain⟨v,j⟩:=x;rw [xG hc d];rw [d]at h;exact h
theorem dn:∀(os:List aP) (s:St) {s':St},fe c1 os s=aa s'→fe c2 os s=aa s'
 | [],s,s',h=>h
 | o::os,s,s',h=>by
  simp only [fe]at h ⊢;split at h
  ·rename_i d b;simp only [uS hc b];exact dn os d h
  ·simp at h
theorem pS:∀(os:List aP) (s:St) {b:List St},dv c1 os s=aa b→dv c2 os s=aa b
 | [],s,b,h=>h
 | o::os,s,b,h=>by
  simp only [dv]at h ⊢;split at h
  ·rename_i j d;simp only [uS hc d];split at h
   ·rename_i l g;simp only [pS os j g];exact h
   ·simp at h
  ·simp at h
theorem zB{ops:List aP}{gJ:List (Nat × Nat)}{s s':St}(h:fE c1 ops gJ s=aa s'):fE c2 ops gJ s=aa s':=by
 unfold fE at h ⊢;split at h
 ·exact dn hc _ _ h
 ·split at h
  ·rename_i d b;simp only [pS hc _ _ b];exact h
  ·simp at h
theorem oY{fn:Nat}:∀(n n':Nat) (ro:Option Nat) (j:List cd) (s:St) {r:Option av × St},n≤n' →
  run c1 fn n ro j s=aa r→run c2 fn n' ro j s=aa r
 | 0,_,_,_,_,_,_,h=>by simp [run]at h
 | n+1,0,_,_,_,_,B,_=>by omega
 | n+1,n'+1,ro,j,s,r,B,h=>by
  have m:=fun ro j s r h=>oY (fn:=fn) n n' ro j s (r:=r) (by omega) h
  match j,h with
  | [],h=>exact h| .inBlock _::k,h=>exact m _ _ _ _ h| .inLoop c::k,h=>exact m _ _ _ _ h
  | .ib b::k,h=>
   simp only [run]at h ⊢;split at h
   ·rename_i f tmps ps as bd st pending d y
    try simp only [y]
    split at h
    ·simp at h
    ·rename_i z
     try simp only [z,if_false]
     split at h
     ·exact m _ _ _ _ h
     ·exact m _ _ _ _ h
     ·exact m _ _ _ _ h
     ·simp at h
   ·simp at h
  | .lQ::k,h=>
   simp only [run]at h ⊢;split at h
   ·simp at h
   ·rename_i b;split at h
    ·rename_i y
     try simp only [y]
     exact m _ _ _ _ h
    ·simp at h
  | .code .skip::k,h=>exact m _ _ _ _ h| .inScope _::k,h=>exact m _ _ _ _ h| .code (.label _)::k,h=>exact m _ _ _ _ h| .code (.scope a)::k,h=>exact m _ _ _ _ h
  | .code (.goto l)::k,h=>
   simp only [run]at h ⊢;split at h
   ·rename_i u;(try simp only [u]);exact m _ _ _ _ h
   ·simp at h
  | .code .bad::_,h=>simp [run]at h| .code .ret::_,h=>exact h
  | .code (.exit id)::k,h=>
   simp only [run]at h ⊢;split at h
   ·rename_i u;(try simp only [u]);exact m _ _ _ _ h
   ·rename_i u;(try simp only [u]);exact h
  | .code (.seq a b)::k,h=>exact m _ _ _ _ h| .code (.block id a)::k,h=>exact m _ _ _ _ h| .code (.loop a)::k,h=>exact m _ _ _ _ h
  | .code (.cond c a b)::k,h=>
   simp only [run]at h ⊢;split at h
   ·rename_i v E;(try simp only [E]);exact m _ _ _ _ h
   ·simp at h
  | .code (.region ops gJ)::k,h=>
   simp only [run]at h ⊢;split at h
   ·simp at h
   ·rename_i q
    try simp only [q]
    split at h
    ·rename_i H x
     try simp only [zB hc x]
     exact m _ _ _ _ h
    ·simp at h
  | .code (.jI f ps as bd)::k,h=>
   simp only [run]at h ⊢;split at h
   ·simp at h
   ·rename_i q
    try simp only [q]
    split at h
    ·rename_i g args A
     try simp only [A]
     split at h
     ·rename_i v F x
      try simp only [hc _ _ _ _ x]
      exact m _ _ _ _ h
     ·simp at h
    ·simp at h
theorem iC:∀(ds:List dw) (H:aj) {H':aj},dJ c1 ds H=aa H'→dJ c2 ds H=aa H'
 | [],H,H',h=>h
 | .ov b::ds,H,H',h=>by
  simp only [dJ]at h ⊢;split at h
  ·rename_i l;exact iC ds _ h
  ·simp at h
 | .fn f args::ds,H,H',h=>by
  simp only [dJ]at h ⊢;split at h
  ·simp at h
  rename_i d;rw [aY d];split at h
  ·rename_i v j g
   try simp only [hc _ _ _ _ g]
   exact iC ds _ h
  ·simp at h
end
variable{tab:Nat→Option aD}{m3:Nat→List V→aj→Option (Option (V × aj))}
theorem tj{m l:Nat}(v:m≤l):∀(d g:Nat),d≤g→xM (dG tab m3 m d) (dG tab m3 l g)
 | 0,_,_,_,_,_,_,h=>by simp [dG]at h
 | d+1,0,E,_,_,_,_,_=>by omega
 | d+1,g+1,E,c,args,H,r,h=>by
  have z:xM (dG tab m3 m d) (dG tab m3 l g):=tj v d g (by omega)
  match c,h with
  | .fn f,h=>
   simp only [dG]at h ⊢;split at h
   ·rename_i r' x;(try simp only [x]);exact h
   ·rename_i x
    try simp only [x]
    split at h
    ·simp at h
    ·rename_i I q
     try simp only [q]
     split at h
     ·rename_i u
      try simp only [u,if_true]
      split at h
      ·rename_i j s y
       try simp only [oY z m l _ _ _ v y]
       split at h
       ·rename_i F A
        try simp only [iC z _ _ A]
        exact h
       ·simp at h
      ·simp at h
     ·simp at h
  | .yield b,h=>
   simp only [dG]at h ⊢;split at h
   ·rename_i f tmps ps as bd J K L B
    try simp only [B]
    split at h
    ·rename_i u
     try simp only [u,if_true]
     split at h
     ·rename_i j s y
      try simp only [oY z m l _ _ _ v y]
      exact h
     ·simp at h
    ·simp at h
   ·simp at h
end
section
variable(tab:Nat→Option aD)
abbrev CF(m d:Nat):cC:=dG tab (nJ tab) m d
def Ev(c:Callee)(args:List V)(H:aj)(r:V)(H':aj):Prop:=∃ m d,CF tab m d c args H=aa (r,H')
def bF(f:Nat)(args:List V)(r:V):Prop:=∃ r0 H',Ev tab (.fn f) args [] r0 H'∧iI deep H' r0=aa r
def WP(fn:Nat)(ro:Option Nat)(b:List cd)(s:St)(Q:Option av→St→Prop):Prop:=
 ∃ n m d j s',run (CF tab m d) fn n ro b s=aa (j,s')∧Q j s'
def jL(s:St)(op:cG)(K:V→St→Prop):Prop:=
 match op with
 | .call f args h=>
  if h then ∃ r H',Ev tab (.fn f) (c8 s.az args) s.heap r H'∧K r { s with heap:=H' }
  else ∃ b r,bj (cg deep s.heap) (c8 s.az args)=aa b∧bF tab f b r∧K r { s with heap:=(c8 s.az args).foldl (XH deep) s.heap }
 | .bP x args _=>∃ c as r H',bQ (x.ev s.az) (c8 s.az args)=aa (c,as)∧Ev tab c as s.heap r H'∧K r { s with heap:=H' }
 | .recover=>K (.c (.f .lG)) s| .defer x args=>∃ f as,bQ (x.ev s.az) (c8 s.az args)=aa (.fn f,as)∧K .top { s with defs:=.fn f as::s.defs }
 | op=>∃ v H',bs s.az s.heap op=aa (v,H')∧K v { s with heap:=H' }
def vd:List aP→St→(St→Prop)→Prop
 | [],s,K=>K s
 | o::os,s,K=>match wanted s.az o.g with
  | some ae=>jL tab s o.op fun v s'=>vd os { s' with az:=jb s'.az o.dst v } K
  | some ag=>vd os { s with az:=jb s.az o.dst (.t []) } K
  | none=>False
variable{tab}
variable{c:Callee}{args:List V}{H H':aj}{r:V}
theorem jn{m g d b:Nat}(l:m≤g)(j:d≤b):xM (CF tab m d) (CF tab g b):=tj l d b j
theorem Ev.det{r2:V}{j:aj}(b:Ev tab c args H r H')(g:Ev tab c args H r2 j):r=r2∧H'=j:=by
 obtain⟨m,d,b⟩:=b;obtain⟨s,l,g⟩:=g;have u:=jn (tab:=tab) (aqS m s) (aqS d l) _ _ _ _ b;have q:=jn (tab:=tab) (aqN m s) (aqN d l) _ _ _ _ g;rw [u]at q;simpa using q
theorem bF.det{f:Nat}{r2:V}(g:bF tab f args r)(d:bF tab f args r2):r=r2:=by
 obtain⟨a,m,j,g⟩:=g;obtain⟨b,q,l,d⟩:=d;obtain⟨rfl,rfl⟩:=j.det l;rw [g]at d;simpa using d
theorem Jz{s:St}{op:cG}{K:V→St→Prop}(h:jL tab s op K):∃ m d v s',ei (CF tab m d) s op=aa (v,s')∧K v s':=by
 cases op with
 | call f args b=>
  simp only [jL]at h;split at h
  ·rename_i q;obtain⟨r,H',⟨m,d,g⟩,l⟩:=h;exact⟨m,d,r,_,by simp [ei,gd,q,g],l⟩
  ·rename_i q;obtain⟨y,r,j,⟨r0,H0,⟨m,d,g⟩,l⟩,u⟩:=h;exact⟨m,d,r,_,by simp [ei,gd,q,dV,j,g,l],u⟩
 | bP x args b=>
  obtain⟨c,as,r,H',j,⟨m,d,g⟩,l⟩:=h;exact⟨m,d,r,_,by simp [ei,j,g],l⟩
 | recover=>exact⟨0,0,_,_,rfl,h⟩
 | «defer» x args=>
  obtain⟨f,as,j,g⟩:=h;exact⟨0,0,.top,_,by simp [ei,j],g⟩
 | _=>
  obtain⟨v,H',j,g⟩:=h;exact⟨0,0,v,_,by simp [ei,j],g⟩
theorem iE:∀(os:List aP) (s:St) {K:St→Prop},vd tab os s K→∃ m d s',fe (CF tab m d) os s=aa s'∧K s'
 | [],s,K,h=>⟨0,0,s,rfl,h⟩
 | o::os,s,K,h=>by
  simp only [vd]at h;split at h
  ·rename_i q;obtain⟨m,d,v,A,y,z⟩:=Jz h;obtain⟨g,b,s',j,l⟩:=iE os _ z;refine⟨max m g,max d b,s',?_,l⟩;have u:=xG (jn (tab:=tab) (aqS m g) (aqS d b)) y;have x:=dn (jn (tab:=tab) (aqN m g) (aqN d b)) os _ j;simp only [fe,fj,q,u,x]
  ·rename_i q;obtain⟨g,b,s',j,l⟩:=iE os _ h;exact⟨g,b,s',by simp only [fe,fj,q,j],l⟩
  ·exact h.elim
variable{fn:Nat}{ro:Option Nat}{k:List cd}{s:St}{Q:Option av→St→Prop}{a b:av}
theorem lj{g:List cd}{b:List cd}{s':St}(h:WP tab fn ro b s' Q)
  (u:∀ m d n,run (CF tab m d) fn (n+1) ro g s=run (CF tab m d) fn n ro b s'):WP tab fn ro g s Q:=by
 obtain⟨n,m,d,j,v,l,q⟩:=h;exact⟨n+1,m,d,j,v,by rw [u,l],q⟩
theorem iV(h:Q ab s):WP tab fn ro [] s Q:=⟨1,0,0,ab,s,rfl,h⟩
theorem aA{i:Nat}(h:WP tab fn ro k s Q):WP tab fn ro (.inBlock i::k) s Q:=lj h fun _ _ _=>rfl
theorem qy(h:WP tab fn ro (.code a::.inLoop a::k) s Q):WP tab fn ro (.inLoop a::k) s Q:=lj h fun _ _ _=>rfl
theorem aM(h:WP tab fn ro k s Q):WP tab fn ro (.code .skip::k) s Q:=lj h fun _ _ _=>rfl
theorem an(h:WP tab fn ro (.code a::.code b::k) s Q):WP tab fn ro (.code (.seq a b)::k) s Q:=lj h fun _ _ _=>rfl
theorem aC{i:Nat}(h:WP tab fn ro (.code a::.inBlock i::k) s Q):WP tab fn ro (.code (.block i a)::k) s Q:=lj h fun _ _ _=>rfl
theorem aH(h:Q (aa .ret) s):WP tab fn ro (.code .ret::k) s Q:=⟨1,0,0,aa .ret,s,rfl,h⟩
theorem bp{i:Nat}{k':List cd}(b:exitTo i k=aa k')(h:WP tab fn ro k' s Q):WP tab fn ro (.code (.exit i)::k) s Q:=
 lj h fun _ _ _=>by simp only [run,b]
theorem Fj{c:Arg}{v:Bool}(hc:c.ev s.az=.c (.f (.bool v)))(h:WP tab fn ro (.code (if v then a else b)::k) s Q) :
  WP tab fn ro (.code (.cond c a b)::k) s Q:=lj h fun _ _ _=>by simp only [run,hc]
theorem al{c:Arg}(hc:c.ev s.az=.c (.f (.bool ae)))(h:WP tab fn ro (.code a::k) s Q) :
  WP tab fn ro (.code (.cond c a b)::k) s Q:=Fj hc h
theorem ak{c:Arg}(hc:c.ev s.az=.c (.f (.bool ag)))(h:WP tab fn ro (.code b::k) s Q) :
  WP tab fn ro (.code (.cond c a b)::k) s Q:=Fj hc h
theorem uA{m j d g n n':Nat}{b:List cd}{x:Option av × St}(q:m≤j)(l:d≤g)(u:n≤n')
  (h:run (CF tab m d) fn n ro b s=aa x):run (CF tab j g) fn n' ro b s=aa x:=
 oY (jn q l) n n' ro b s u h
theorem aq{ops:List aP}(hr:ro=ab∨ops.all (·.op.dP)=ae)(h:vd tab ops s fun s'=>WP tab fn ro k s' Q) :
  WP tab fn ro (.code (.region ops [])::k) s Q:=by
 obtain⟨m,d,s',v,n,l,b,j,z,x,y⟩:=iE ops s h;refine⟨n+1,max m l,max d b,j,z,?_,y⟩;have q:=dn (jn (tab:=tab) (aqS m l) (aqS d b)) ops _ v;have u:=uA (aqN m l) (aqN d b) (IT n) x;have g:(ro.isSome&&!ops.all (·.op.dP))=ag:=by
  rcases hr with rfl | hr
  ·rfl
  ·rw [hr];simp
 simp only [run,g,fE,q,u];simp
theorem bD(I:Nat→St→Prop)(n:Nat)(d:I n s)
  (step:∀ n s,I n s→(∀ n' s',n'<n→I n' s'→WP tab fn ro (.inLoop a::k) s' Q)→WP tab fn ro (.code a::.inLoop a::k) s Q) :
  WP tab fn ro (.code (.loop a)::k) s Q:=by
 have key:∀ n s,I n s→WP tab fn ro (.code a::.inLoop a::k) s Q:=by
  intro n;induction n using Nat.strongRecOn with
  | _ n l=>
   intro s j;exact step n s j fun n' s' g b=>qy (l n' g s' b)
 exact lj (key n s d) fun _ _ _=>rfl
def Fin(tab:Nat→Option aD)(g:aD)(r:V)(H':aj)(s:St):Prop:=
 ∃ m d b,dJ (CF tab m d) s.defs s.heap=aa b∧results s.az b g.results=aa r∧b=H'
theorem wK{f:Nat}{b:aD}(A:tab f=aa b)(K:args.length=b.ps.length)
  (h:WP tab f ab [.code b.body] ⟨cu b.ps args .e,[],H⟩ fun _ s=>Fin tab b r H' s):Ev tab (.fn f) args H r H':=by
 obtain⟨n,m,d,j,s,F,B,x,N,I,J,rfl⟩:=h;obtain⟨M,q,u,v⟩:∃ M,m≤M∧B≤M∧n≤M:=⟨max (max m B) n,by omega,by omega,by omega⟩
 obtain⟨E,g,l⟩:∃ E,d≤E∧x≤E:=⟨max d x,by omega,by omega⟩
 refine⟨M,E+1,?_⟩;have y:run (CF tab M E) f M ab [.code b.body] ⟨cu b.ps args .e,[],H⟩=aa (j,s):=uA q g v F;have z:=iC (jn (tab:=tab) u l) _ _ I;have L:=xx A args H;simp only [CF]at y z ⊢;simp only [dG,L,A,K,if_true,y,z,J,aq2]
def n8(b:List ie)(r:V)(s:St):Prop:=s.defs=[]∧∃ r0,results s.az s.heap b=aa r0∧iI deep s.heap r0=aa r
theorem bK{f:Nat}{ps:List P}{b:List ie}{body:av}(y:tab f=aa ⟨ps,b,body⟩)(x:args.length=ps.length)
  (h:∀ Q:Option av→St→Prop,(∀ j s,n8 b r s→Q j s)→WP tab f ab [.code body] ⟨cu ps args .e,[],[]⟩ Q):bF tab f args r:=by
 have g:=h (fun _ s=>n8 b r s) fun _ _ h=>h;obtain⟨n,m,d,j,s,l,v,r0,q,u⟩:=g;exact⟨r0,s.heap,wK y x ⟨n,m,d,j,s,l,0,0,s.heap,by rw [v];rfl,q,rfl⟩,u⟩
end
theorem ai{tab:Nat→Option aD}{fn:Nat}{ops:List aP}{b:av}{k:List cd}{s:St}{Q:Option av→St→Prop}(h:vd tab ops s fun s'=>WP tab fn ab (.code b::k) s' Q):WP tab fn ab (.code (.seq (.region ops []) b)::k) s Q:=an (aq (.inl rfl) h)
theorem a5{tab:Nat→Option aD}{fn:Nat}{ro:Option Nat}{a:av}{c:Arg}{k:List cd}{s:St}{Q:Option av→St→Prop}(hc:c.ev s.az=.c (.f (.bool ag)))(h:WP tab fn ro k s Q):WP tab fn ro (.code (.cond c a .skip)::k) s Q:=ak hc (aM h)
end Km
