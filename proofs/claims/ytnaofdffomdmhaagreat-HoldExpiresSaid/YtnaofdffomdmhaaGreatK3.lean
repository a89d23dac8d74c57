/-
  Our own small machine for Go code by value, held rI the model: part 3. No program in Ej.
-/
import Derived.Test.YtnaofdffomdmhaaGreatK2
import Derived.Orders
import Derived.Test.YtnaofdffomdmhaaGreatK1
open Option renaming some → aa,none → ab
open Bool renaming true → ae,false → ag
open List renaming mem_range → arX, all_eq_true → aqG, eq_nil_of_length_eq_zero → aqu, mem_of_getElem? → aqx, getElem?_eq_getElem → By, getElem?_eq_some_iff → BY, getElem?_set_ne → AI, getElem?_append_right → IS, getElem?_eq_none → arp, getElem?_drop → aqB, length_drop → aqy, length_set → aqE
open Bool renaming and_eq_true → If, not_eq_true' → arf, false_eq_true → aqw, true_and → arb, eq_iff_iff → ary
open Option renaming map_some → aq4, map_eq_some_iff → IT, map_map → arY
open Nat renaming le_refl → aft, zero_le → arC, le_of_ble_eq_true → arT, eq_of_beq_eq_true → arq, add_zero → arU, le_max_left → aqU, le_max_right → aqL
open Option.some renaming injEq → At
open Prod.mk renaming injEq → OF
set_option linter.unusedVariables false
set_option linter.constructorNameAsVariable false
set_option linter.unusedSimpArgs false
set_option linter.unusedSectionVars false
set_option maxRecDepth 100000
namespace Km
open Go
section
variable{Q:Program}{σ:Nat→FuncId}{X:Wd}{call:cL}
variable{n:Nat}{ops:Array Oper}{aos:List aP}{gK:List (Nat × Nat)}{st:Nat→St}
def LD(b:Array Bool)(j:Nat):Prop:=b.getD j ag=ae
theorem XZ{b:Array Bool}{i:Nat}(hi:i<b.size):LD (b.setIfInBounds i ae)=fun j=>LD b j∨j=i:=by
 funext j;apply propext;unfold LD;by_cases h:i=j
 ·subst h;simp [hi]
 ·have:j≠i:=fun e=>h e.symm;simp [Array.getD_eq_getD_getElem?,Array.getElem?_setIfInBounds_ne h,this]
theorem Cm{b:Array Bool}{i:Nat}(h:i ∈ Region.ready .any ops b):i<ops.size∧¬ LD b i∧∃ o,ops[i]?=aa o∧∀ e ∈ o.after.toList,Region.binds .any e=ae→LD b e.on:=by
 unfold Region.ready at h;simp only [List.mem_filter,arX,If,arf]at h;obtain⟨l,d,j⟩:=h;refine⟨l,fun g=>?_,?_⟩
 ·unfold LD at g;simp only [Array.getD_eq_getD_getElem?]at d g;cases m:b[i]? with
  | none=>rw [m]at d;simp at d| some bb=>rw [m]at d g;simp at d g;rw [d]at g;simp at g
 ·have q:=Array.getElem?_eq_getElem l;rw [q]at j;simp only [aq4,Option.getD_some]at j;refine⟨ops[i],q,fun e u s=>?_⟩;rw [←Array.all_toList,aqG]at j;have:=j e u;simpa [s,LD]using this
theorem Z0(l:Ord ops.toList aos gK)(F:aos.length=ops.size){b:Array Bool}(B:b.size=ops.size){j:Nat}(z:j<ops.size)(y:¬ LD b j):Region.ready .any ops b≠[]:=by
 have key:∀ m,m<ops.size→¬ LD b m→∃ i,i ∈ Region.ready .any ops b:=by
  intro m;induction m using Nat.strongRecOn with
  | ind m E=>
   intro v g;have A:=Array.getElem?_eq_getElem v;by_cases d:∀ e ∈ ops[m].after.toList,Region.binds .any e=ae→LD b e.on
   ·refine⟨m,?_⟩;unfold Region.ready;simp only [List.mem_filter,arX,If,arf,A,aq4,Option.getD_some];refine⟨v,?_,?_⟩
    ·unfold LD at g;have u:m<b.size:=by omega
     simp [u]at g ⊢;exact g
    ·rw [←Array.all_toList,aqG];intro e s;by_cases q:Region.binds .any e=ae
     ·have:=d e s q;unfold LD at this;simp [this]
     ·simp [q]
   ·simp only [Classical.not_forall]at d;obtain⟨e,s,q,x⟩:=d;have:=l.back m ops[m] (by omega) (by simp [v]) e s q;exact E e.on this (by omega) x
 obtain⟨i,hi⟩:=key j z y;intro h;rw [h]at hi;simp at hi
theorem YH(hC:eR Q σ call)(R:jk Q σ call n ops aos gK st){b:Frame}{k:List Item}{cs:List Frame}(hk:iG b cs)(H:∀ y ∈ aos,gd y.op b) :
  ∀(X0:Wd) (fuel t:Nat) (d:Array Bool) (U:List Nat) (E:Nat) (X:Wd) (a:Act),d.size=ops.size→U.Nodup→(∀ j,j<ops.size→(¬ LD d j↔j ∈ U))→U.length≤fuel→Inv Q σ X0 n ops aos st (LD d) E X a →
  ∃ q z X' a',Steps Q (lone (b.atR a (.inRegion ops (Region.linearise.go .any ops fuel t d [])::k)) cs X.w) (lone (b.atR a' k) cs X'.w)∧Inv Q σ X0 n ops aos st q z X' a'∧(∀ j,j<ops.size→q j)∧a'.tmps.size=a.tmps.size:=by
 have u:aos.length=ops.size:=by have:=(ek R.akA).len;simpa using this.symm
 intro X0 fuel;induction fuel with
 | zero=>
  intro t d U E X a m B l F A;refine⟨LD d,E,X,a,?_,A,fun j s=>?_,rfl⟩
  ·simp only [Region.linearise.go,List.reverse_nil];exact .one stepR_region_end
  ·have g:U=[]:=aqu (by omega);refine Classical.byContradiction fun h=>?_;have:=(l j s).1 h;rw [g]at this;simp at this
 | succ fuel ih=>
  intro t d U E X a m B l F A;simp only [Region.linearise.go];change ∃ q z X' a',Steps Q (lone (b.atR a (.inRegion ops (match (Region.ready .any ops d)[t % (Region.ready .any ops d).length]? with
   | some i=>Region.linearise.go .any ops fuel (t / (Region.ready .any ops d).length) (d.setIfInBounds i ae) [i]
   | none=>[].reverse)::k)) cs X.w) _∧_
  cases hi:(Region.ready .any ops d)[t % (Region.ready .any ops d).length]? with
  | none=>
   have g:Region.ready .any ops d=[]:=by
    cases I:Region.ready .any ops d with
    | nil=>rfl
    | cons x xs=>
     rw [I]at hi;have a7:t % (x::xs).length<(x::xs).length:=Nat.mod_lt _ (by simp);rw [List.getElem?_eq_none_iff]at hi;omega
   refine⟨LD d,E,X,a,?_,A,fun j s=>?_,rfl⟩
   ·exact .one stepR_region_end
   ·exact Classical.byContradiction fun h=>Z0 R.ord u m s h g
  | some i=>
   simp only [];rw [linearise_go_acc,List.reverse_singleton,List.singleton_append];obtain⟨r1,K,o,r3,r4⟩:=Cm (aqx hi);have hy:=By (show i<aos.length by omega);have I:jj ops aos (LD d) i o aos[i]:=⟨r3,hy,K,r4⟩
   obtain⟨z,L,a1,O,J,S⟩:=R.ahf hC A I (b:=b) (rest:=Region.linearise.go .any ops fuel (t / (Region.ready .any ops d).length) (d.setIfInBounds i ae) []) (k:=k) (cs:=cs) hk (H _ (List.getElem_mem _));rw [←XZ (by omega)]at J;have v:i ∈ U:=(l i r1).1 K;obtain⟨q,E2,M,N,k1,k2,k3,k5⟩:=ih (t / (Region.ready .any ops d).length) (d.setIfInBounds i ae) (U.erase i) z L a1 (by simpa using m) (B.erase i)
    (fun j s=>by
     rw [B.mem_erase_iff,←l j s,XZ (by omega)];constructor
     ·intro h;exact⟨fun e=>h (.inr e),fun W=>h (.inl W)⟩
     ·rintro⟨Y,Z⟩ (h | h)
      ·exact Z h
      ·exact Y h)
    (by rw [List.length_erase_of_mem v];omega) J
   exact⟨q,E2,M,N,O.trans k1,k2,k3,k5.trans S⟩
theorem YI(hC:eR Q σ call)(u:Q.follows .mixedOrders=ae)(R:jk Q σ call n ops aos gK st){b:Frame}{k:List Item}{cs:List Frame}(hk:iG b cs)(M:∀ y ∈ aos,gd y.op b){X:Wd}{a:Act}(g:Fr Q σ n X (st 0) a)(id:Nat) :
  ∃ X' a',Steps Q (lone (b.atR a (.code (.region id ops ae)::k)) cs X.w) (lone (b.atR a' k) cs X'.w)∧Fr Q σ n X' (st aos.length) a'∧Ext X.H.length X X'∧a'.tmps.size=a.tmps.size:=by
 have a7:aos.length=ops.size:=by have:=(ek R.akA).len;simpa using this.symm
 let X0:Wd:={ X with w:={ X.w with drawn:=X.w.drawn+1 } }
 have A:Ext X.H.length X X0:=
  {B:=rfl,F:=fun _ _ h=>h,nO:=fun _ _ h=>.inl h,fw:=fun _ _ _=>rfl,cG:=fun b _ bj J=>⟨bj,J,by cases bj<;>simp [X0]⟩
   wm:=fun b L h=>.inl ⟨b,L,h,rfl⟩,size:=aft _,os:=rfl,tape:=rfl,output:=rfl,frame:=fun _ _ _=>rfl }
 have I:SR Q σ X0:=by
  refine⟨fun b L J=>?_,g.sr.inj,g.sr.fb⟩;obtain⟨q,s,bj,W,Y⟩:=g.sr.br b L J;exact⟨q,s,bj,W,BR.ext Q σ A rfl (fun _ h=>h) Y⟩
 obtain⟨p1,p2,p3,O⟩:=nB (aos:=aos) (i:=0) (by omega);obtain⟨q1,q2⟩:=R.cX _ p1 p2 O;have E:X0.H=(st 0).heap:=g.heap;rw [←E]at q1;obtain⟨k1,k2⟩:=SR.ahead I q1;have m:Ext X.H.length X { X0 with H:=(st (phase aos 0)).heap }:=A.trans k2;have d:∀ j,¬ LD (Array.replicate ops.size ag) j:=fun j h=>by
  unfold LD at h;simp only [Array.getD_eq_getD_getElem?,Array.getElem?_replicate]at h;split at h<;>simp at h
 have hI:Inv Q σ { X0 with H:=(st (phase aos 0)).heap } n ops aos st (LD (Array.replicate ops.size ag)) (phase aos 0) { X0 with H:=(st (phase aos 0)).heap } a:=by
  refine⟨fun j o h=>absurd h (d j),fun j h=>absurd h (d j),p2,p3,d _,fun j q s=>absurd q (O j (arC _) s),rfl,Ext.refl _ _,k1,g.b,by rw [q2];exact g.defs.ext' m,g.size,
   fun p=>⟨0,arC _,.inl (VR.ext' σ m (g.aw p)),fun j y _ _=>⟨fun h=>by omega,fun h=>absurd h (d j)⟩⟩,fun j y q _ W Y h5=>?_⟩
  show X.cr _=ab;have a8:=(R.cX j (arC _) (by omega) fun k q s=>O k q (by omega)).1.len;cases v:X.cr (st j).heap.length with
  | none=>rfl| some L=>have:=SR.lt g.sr v;rw [g.heap]at this;omega
 obtain⟨D',S,X',a',g1,l,U,g5⟩:=YH hC R hk M (k:=k) { X0 with H:=(st (phase aos 0)).heap } ops.size (X.w.tape X.w.drawn (.order b.fn id)) (Array.replicate ops.size ag) (List.range ops.size) (phase aos 0) { X0 with H:=(st (phase aos 0)).heap } a (by simp) List.nodup_range
  (fun j hj=>⟨fun _=>by simpa using hj,fun _=>d j⟩) (by simp) hI
 have Z:S=aos.length:=by
  rcases l.eW with h | ⟨z,N,_⟩
  ·exact h
  ·exact absurd (U S (by have:=(BY.1 N).1;omega)) l.eD
 subst Z;refine⟨X',a',.head stepR_region_draw ?_,⟨l.heap,l.sr,l.b,fun p=>?_,l.defs,l.size⟩,m.trans (l.ext.mono (m.len)),g5⟩
 ·simp only [Region.schedule,u,Bool.true_or,if_true];exact g1
 ·obtain⟨K,hK,x,hw⟩:=l.aak p;have x:VR σ X' ((st K).aw.get p) (a'.tmps.getD p.toNat undef):=by
   rcases x with x | ⟨z,zs,c,_,Z,N,_⟩
   ·exact x
   ·have:=(BY.1 N).1;omega
  rw [←R.kr aos.length hK (aft _) fun j y q s hy hd=>?_]
  ·exact x
  ·have:=(hw j y hy hd).2 (U j (by omega));omega
end
section
variable{Q:Program}{σ:Nat→FuncId}{X:Wd}{call:cL}
theorem zi{b:Type}{f:b→b→Bool}(d:∀ x y,f x y=ae→x=y):∀ {xs ys:List b},gQ f xs ys=ae→xs=ys
 | [],[],_=>rfl
 | x::xs,y::ys,h=>by
  simp only [gQ,If]at h;rw [d x y h.1,zi d h.2]
 | [],_::_,h=>by simp [gQ]at h
 | _::_,[],h=>by simp [gQ]at h
theorem FC.beq_eq:∀(n:Nat) (a b:FC),FC.beq n a b=ae→a=b:=by
 intro n;induction n with
 | zero=>
  intro a b h;cases a<;>cases b<;>simp_all [FC.beq]
 | succ n d=>
  intro a b h;cases a<;>cases b<;>simp_all [FC.beq]
  all_goals exact zi d h.2
theorem C.beq_eq{a b:C}(h:a.beq b=ae):a=b:=by
 cases a<;>cases b<;>simp_all [C.beq];exact FC.beq_eq _ _ _ h
theorem V.beq_eq{a b:V}(h:a.beq b=ae):a=b:=by
 cases a<;>cases b<;>simp only [V.beq,aqw]at h
 ·rw [C.beq_eq h]
 ·rename_i xs ys;simp only [If,beq_iff_eq,aqG]at h
  congr 1
  refine List.ext_getElem h.1 fun i h1 h2=>C.beq_eq (h.2 (xs[i],ys[i]) ?_);exact aqx (i:=i) (by rw [List.getElem?_zip_eq_some];exact⟨By h1,By h2⟩)
theorem wR:∀ {aos:List aP} {s s':St},fh call aos s=aa s'→∃ ss:List St,dK call aos s=aa ss∧ss.getLast?=aa s'
 | [],s,s',h=>by simp only [fh,At]at h;subst h;exact⟨[s],rfl,rfl⟩
 | o::os,s,s',h=>by
  simp only [fh]at h;split at h
  ·rename_i j d;obtain⟨ss,g,b⟩:=wR h;refine⟨s::ss,by simp [dK,d,g],?_⟩;cases ss with
   | nil=>simp at b| cons x xs=>simpa using b
  ·simp at h
theorem ma:∀ {aos:List aP} {s:St} {ss:List St},dK call aos s=aa ss→ss.length=aos.length+1∧ss[0]?=aa s ∧
  ∀ i y,aos[i]?=aa y→∃ u v,ss[i]?=aa u∧ss[i+1]?=aa v∧fm call u y=aa v
 | [],s,ss,h=>by
  simp only [dK,At]at h;subst h;exact⟨rfl,rfl,fun i y h=>by simp at h⟩
 | o::os,s,ss,h=>by
  simp only [dK]at h;split at h
  ·rename_i q l;split at h
   ·rename_i x m;simp only [At]at h;subst h;obtain⟨d,g,j⟩:=ma m;refine⟨by simp [d],rfl,fun i y b=>?_⟩;cases i with
    | zero=>
     simp only [List.getElem?_cons_zero,At]at b;subst b;exact⟨s,q,rfl,by simpa using g,l⟩
    | succ i=>simpa using j i y (by simpa using b)
   ·simp at h
  ·simp at h
theorem uq:∀ {aos:List aP} {s:St} {ss:List St} {s':St},dK call aos s=aa ss→ss.getLast?=aa s'→fh call aos s=aa s'
 | [],s,ss,s',h,b=>by simp only [dK,At]at h;subst h;simpa [fh]using b
 | o::os,s,ss,s',h,b=>by
  simp only [dK]at h;split at h
  ·rename_i l j;split at h
   ·rename_i d g;simp only [At]at h;subst h;have:=(ma g).1;simp only [fh,j];refine uq g ?_;cases d with
    | nil=>simp at this| cons x xs=>simpa using b
   ·simp at h
  ·simp at h
theorem NR(O:eR Q σ call)(z:Q.follows .mixedOrders=ae){n:Nat}{id:Nat}{ops:Array Oper}{g:Bool}{aos:List aP}{gK:List (Nat × Nat)}(U:bL Q σ n (.region id ops g) (.region aos gK)=ae)
  {b:Frame} {k:List Item} {cs:List Frame} (S:iG b cs) (A:∀ y ∈ aos,gd y.op b) {X:Wd} {a:Act} {s s':St} (J:Fr Q σ n X s a) (h:fK call aos gK s=aa s') :
  ∃ X' a',Steps Q (lone (b.atR a (.code (.region id ops g)::k)) cs X.w) (lone (b.atR a' k) cs X'.w)∧Fr Q σ n X' s' a'∧Ext X.H.length X X'∧a'.tmps.size=a.tmps.size:=by
 simp only [bL,If,Bool.or_eq_true,arf]at U;obtain⟨j,B⟩:=U;obtain⟨ss,N,I,h3⟩:∃ ss:List St,dK call aos s=aa ss∧ss.getLast?=aa s'∧∀ c ∈ gK,sameAt aos ss c=ae:=by
  unfold fK at h;split at h
  ·obtain⟨ss,m,q⟩:=wR h;exact⟨ss,m,q,by simp⟩
  ·split at h
   ·rename_i ss K;split at h
    ·rename_i x;exact⟨ss,K,h,aqG.1 x⟩
    ·simp at h
   ·simp at h
 cases g with
 | false=>
  obtain⟨X',a',m,q⟩:=EC O S (k:=k) aos 0 X s s' a J (by simpa using j) A (uq N I);exact⟨X',a',.head stepR_region (by simpa using m),q⟩
 | true=>
  obtain⟨m,q,Z⟩:=ma N
  let st:Nat→St:=fun i=>ss.getD i s
  have d:∀ i u,ss[i]?=aa u→st i=u:=fun i u hu=>by simp [st,List.getD_eq_getElem?_getD,hu]
  have R:jk Q σ call n ops aos gK st:=by
   refine⟨j,NG (B.resolve_left (by simp)),fun i y L=>?_,fun i e y hc L W=>?_⟩
   ·obtain⟨u,v,E,F,H⟩:=Z i y L;rw [d _ _ E,d _ _ F];exact H
   ·have l:=h3 _ hc;simp only [sameAt,L]at l;split at l
    ·rename_i o s1 s2 E F H;cases E;rw [d _ _ F]at W ⊢;rw [d _ _ H];rw [W]at l;simp only at l;split at l
     ·rename_i v x1 v' x2 Y M;rw [←V.beq_eq l]at M;exact⟨v,x1,x2,Y,M⟩
     ·simp at l
    ·simp at l
  have h0:st 0=s:=d 0 s q;have hN:st aos.length=s':=d _ _ (by rw [List.getLast?_eq_getElem?,m]at I;simpa using I);rw [←h0]at J;rw [←hN];exact YI O z R S A J id
end
section
variable{Q:Program}{σ:Nat→FuncId}{X:Wd}{call:cL}
def Ca(X:Wd)(b:Nat):Prop:=∃ f t p a c s q d,X.H[b]?=aa (.lp f t p a c s q d)
theorem Ca.ext{X X':Wd}(m:Ext X.H.length X X'){b:Nat}(h:Ca X b):Ca X' b∧∀ L,X.cr b=aa L→X'.cr b=aa L:=by
 obtain⟨f,t,p,a,c,s,q,d,j⟩:=h;obtain⟨blk',g,l⟩:=m.cG b (BY.1 j).1 _ j;cases blk'<;>simp only at l;exact⟨⟨_,_,_,_,_,_,_,_,g⟩,l.2⟩
inductive gn(Q:Program)(σ:Nat→FuncId)(n:Nat)(X:Wd):cU→Item→Prop
 | code {a:aE} {c:Code} (h:bL Q σ n c a=ae):gn Q σ n X (.code a) (.code c)
 | inBlock (id:Nat):gn Q σ n X (.inBlock id) (.inBlock id)
 | inLoop {a:aE} {c:Code} (h:bL Q σ n c a=ae):gn Q σ n X (.inLoop a) (.inLoop c)
 | ir {b:Nat} {L:Loc} (h:X.cr b=aa L) (hl:Ca X b):gn Q σ n X (.ir b) (.endRangeFunc L.c)
 | lj:gn Q σ n X .lj .beginRound
 | inScope {a:aE} {c:Code} (h:bL Q σ n c a=ae) (hs:jt a=ae):gn Q σ n X (.inScope a) (.inScope c)
theorem gn.ext{n:Nat}{X X':Wd}(d:Ext X.H.length X X'){x:cU}{y:Item}(h:gn Q σ n X x y):gn Q σ n X' x y:=by
 cases h with
 | code h=>exact .code h| inBlock id=>exact .inBlock id| inLoop h=>exact .inLoop h| ir h b=>exact .ir ((b.ext d).2 _ h) (b.ext d).1| lj=>exact .lj| inScope h g=>exact .inScope h g
def RoR(X:Wd):Option Nat→Option Nat→Prop
 | none,ab=>True| some b,aa l=>∃ L,X.cr b=aa L∧L.c=l∧Ca X b| _,_=>False
theorem RoR.ext{X X':Wd}(d:Ext X.H.length X X'){ro b:Option Nat}(h:RoR X ro b):RoR X' ro b:=by
 cases ro<;>cases b<;>simp only [RoR]at h ⊢;obtain⟨L,h1,h2,h3⟩:=h;exact⟨L,(h3.ext d).2 _ h1,h2,(h3.ext d).1⟩
theorem vU{n:Nat}(id:Nat):∀(k:List cU) (b:List Item),A2 (gn Q σ n X) k b →
  match Km.exitTo id k with
  | some k'=>∃ d,Go.exitTo id b=aa d∧A2 (gn Q σ n X) k' d| none=>Go.exitTo id b=ab
 | [],b,h=>by
  have:b=[]:=aqu h.len.symm;subst this;rfl
 | x::k,[],h=>by have:=h.len;simp at this
 | x::k,y::b,h=>by
  obtain⟨q,j⟩:=h.of_cons;have m:=vU id k b j;cases q with
  | inBlock g=>
   simp only [Km.exitTo,Go.exitTo];by_cases l:(g == id)=ae
   ·simp only [l,if_true];exact⟨b,rfl,j⟩
   ·simp only [l,aqw,if_false];exact m
  | _=>exact m
theorem xC{n:Nat}(l:Nat):∀(a:aE) (c:Code),bL Q σ n c a=ae→jt a=ae →
  match Km.findLabel a l with
  | some r=>∃ r',Go.findLabel c l=aa r'∧bL Q σ n r' r=ae| none=>Go.findLabel c l=ab:=by
 intro a;induction a with
 | seq a b m q=>
  intro c h g;simp only [jt,If]at g;cases c with
  | seq c d=>
   simp only [bL,If]at h;have j:=m c h.1 g.1;simp only [Km.findLabel,Go.findLabel];cases u:Km.findLabel a l with
   | some r=>
    rw [u]at j;obtain⟨r',v,x⟩:=j;simp only [v];exact⟨_,rfl,by simp [bL,x,h.2]⟩
   | none=>
    rw [u]at j;simp only [j];exact q d h.2 g.2
  | _=>simp [bL]at h
 | label l'=>
  intro c h _;cases c with
  | label y=>
   simp only [bL,beq_iff_eq]at h;subst h;simp only [Km.findLabel,Go.findLabel];by_cases s:(y == l)=ae
   ·simp only [s,if_true];exact⟨_,rfl,by simp [bL]⟩
   ·simp only [s,aqw,if_false]
  | _=>simp [bL]at h
 | bad=>intro c h g;simp [jt]at g| _=>intro c h _;cases c<;>simp_all [bL,Km.findLabel,Go.findLabel]
theorem wg{n:Nat}(l:Nat):∀(k:List cU) (b:List Item),A2 (gn Q σ n X) k b →
  match Km.gotoIn l k with
  | some k'=>∃ d,Go.gotoIn l b=aa d∧A2 (gn Q σ n X) k' d| none=>Go.gotoIn l b=ab
 | [],b,h=>by
  have:b=[]:=aqu h.len.symm;subst this;rfl
 | x::k,[],h=>by have:=h.len;simp at this
 | x::k,y::b,h=>by
  obtain⟨v,j⟩:=h.of_cons;have u:=wg l k b j;cases v with
  | inScope q s=>
   rename_i a c;have g:=xC (Q:=Q) (σ:=σ) l a c q s;simp only [Km.gotoIn,Go.gotoIn];cases m:Km.findLabel a l with
   | some r=>
    rw [m]at g;obtain⟨r',z,A⟩:=g;simp only [z];exact⟨_,rfl,A2.cons (.code A) (A2.cons (.inScope q s) j)⟩
   | none=>
    rw [m]at g;simp only [g];exact u
  | _=>exact u
def ajb:Option aE→List Item→Prop
 | none,b=>b=[]| some .ret,b=>∃ k,b=.code .ret::k| some (.exit id),b=>∃ k,b=.code (.exit id)::k∧Go.exitTo id k=ab| _,_=>False
end
section
variable{Q:Program}{σ:Nat→FuncId}{X:Wd}{call:cL}
theorem oV{b:Nat}{L:Loc}(x:SR Q σ X)(v:X.cr b=aa L){f:Nat}{t:T}{ps:List P}{as bd:aE}{q:ej}{g:Option aE}{d:Nat}(y:X.H[b]?=aa (.lp f t ps as bd q g d)) :
  ∃(n:Nat) (us:Array Value) (m:Array Tmp) (as' j:Code) (pend':Option Code) (u:Loc),
   X.w.heap[L.c]?=aa (.loop { state:=q.of,pending:=pend',fn:=σ f,tmps:=us,params:=m,assign:=as',body:=j,defers:=u.c }) ∧
   n≤us.size∧RR σ X t us∧eY (fun p (q:P)=>q.toNat == p&&decide (p<n)) m.toList ps=ae∧bL Q σ n as' as=ae∧bL Q σ n j bd=ae∧wv Q σ n g pend'∧X.cr d=aa u∧∃ o,X.H[d]?=aa (.eO o):=by
 obtain⟨_,_,bj,l,s⟩:=x.br b L v;rw [y]at l;cases l;exact s
theorem yu(J:SR Q σ X){b:Nat}{L:Loc}(I:X.cr b=aa L){f:Nat}{t:T}{ps:List P}{as bd:aE}{q q':ej}{y pend1:Option aE}{d:Nat}(s:X.H[b]?=aa (.lp f t ps as bd q y d))
  {n:Nat} {us:Array Value} {j:Array Tmp} {as' g:Code} {pend':Option Code} {u:Loc}
  (O:n≤us.size) (S:RR σ X t us) (U:eY (fun p (q:P)=>q.toNat == p&&decide (p<n)) j.toList ps=ae) (W:bL Q σ n as' as=ae) (Y:bL Q σ n g bd=ae) (Z:wv Q σ n pend1 pend') (a:X.cr d=aa u) (z:∃ o,X.H[d]?=aa (.eO o)) :
  SR Q σ { X with H:=X.H.set b (.lp f t ps as bd q' pend1 d),w:=X.w.putObj L.c (.loop { state:=q'.of,pending:=pend',fn:=σ f,tmps:=us,params:=j,assign:=as',body:=g,defers:=u.c }) } ∧
  Ext X.H.length X { X with H:=X.H.set b (.lp f t ps as bd q' pend1 d),w:=X.w.putObj L.c (.loop { state:=q'.of,pending:=pend',fn:=σ f,tmps:=us,params:=j,assign:=as',body:=g,defers:=u.c }) }:=by
 obtain⟨m,r,k,M,N,i,K,v,_⟩:=oV J I s;have A:b<X.H.length:=(BY.1 s).1;refine SR.pD (o':=.loop { state:=q'.of,pending:=pend',fn:=σ f,tmps:=us,params:=j,assign:=as',body:=g,defers:=u.c }) (blk':=.lp f t ps as bd q' pend1 d) J s I v (by simp) (by simp)
  (fun bj l=>⟨.lp f t ps as bd q' pend1 d,by simp [A],by rw [s]at l;cases l;exact⟨⟨rfl,rfl,rfl,rfl,rfl,rfl⟩,fun L h=>h⟩⟩)
  (fun X' F E _ x c=>?_)
 obtain⟨o,z⟩:=z;refine⟨n,us,j,as',g,pend',u,E,O,RR.ext' σ F S,U,W,Y,Z,by rw [x];exact a,o,?_⟩;have B:b≠d:=fun e=>by rw [e,z]at s;cases s
 rw [c,AI B];exact z
end
section
variable{Q:Program}{σ:Nat→FuncId}{call:cL}
structure Way(Q:Program)(σ:Nat→FuncId)(fn:Nat)(n:Nat)(b:Frame)(cs:List Frame)(ro:Option Nat)(todo:List cU)(items:List Item)(s:St)(X:Wd)(a:Act):Prop where
 fr:Fr Q σ n X s a
 items:A2 (gn Q σ n X) todo items
 ro:RoR X ro b.roundOf
 kind:iG b cs
 fn:b.fn=σ fn
theorem Way.ext{fn n:Nat}{b:Frame}{cs:List Frame}{ro:Option Nat}{j:List cU}{items:List Item}{s s':St}{X X':Wd}{a a':Act}(h:Way Q σ fn n b cs ro j items s X a){g:List cU}{d:List Item}(l:Ext X.H.length X X')(m:Fr Q σ n X' s' a')
  (hi:A2 (gn Q σ n X) g d):Way Q σ fn n b cs ro g d s' X' a':=
 ⟨m,hi.jX fun _ _ h=>h.ext l,h.ro.ext l,h.kind,h.fn⟩
theorem Way.to{fn n:Nat}{b:Frame}{cs:List Frame}{ro:Option Nat}{j:List cU}{items:List Item}{s:St}{X:Wd}{a:Act}(h:Way Q σ fn n b cs ro j items s X a){g:List cU}{d:List Item}
  (hi:A2 (gn Q σ n X) g d):Way Q σ fn n b cs ro g d s X a:=⟨h.fr,hi,h.ro,h.kind,h.fn⟩
def amN(Q:Program)(σ:Nat→FuncId)(call:cL)(fn m:Nat):Prop:=
 ∀(n:Nat) (b:Frame) (cs:List Frame) ro l g s X a j s',run call fn m ro l s=aa (j,s')→Way Q σ fn n b cs ro l g s X a →
  ∃ X' a' d,Steps Q (lone (b.atR a g) cs X.w) (lone (b.atR a' d) cs X'.w)∧Fr Q σ n X' s' a'∧Ext X.H.length X X'∧a'.tmps.size=a.tmps.size∧ajb j d
theorem vf{b:Frame}{a:Act}{k:List Item}{cs:List Frame}{w:World}{body:Code}:step Q (lone (b.atR a (.inScope body::k)) cs w)=.next (lone (b.atR a k) cs w):=
 step_lone_go (by simp [stepG,stepG.exec,Frame.atR])
theorem A1{b:Frame}{a:Act}{k:List Item}{cs:List Frame}{w:World}{body:Code}:step Q (lone (b.atR a (.code (.scope body)::k)) cs w)=.next (lone (b.atR a (.code body::.inScope body::k)) cs w):=
 step_lone_go (by simp [stepG,stepG.exec,Frame.atR])
theorem Z_(hC:eR Q σ call)(i6:Q.follows .mixedOrders=ae)(fn:Nat):∀ m,amN Q σ call fn m:=by
 intro m;induction m with
 | zero=>intro n b cs ro d_ I s X a F s' h;simp [run]at h
 | succ m ih=>
  intro n b cs ro d_ I s X a F s' h z;have go:∀ {B j},run call fn m ro B s=aa (F,s')→A2 (gn Q σ n X) B j→step Q (lone (b.atR a I) cs X.w)=.next (lone (b.atR a j) cs X.w) →
    ∃ X' a' j,Steps Q (lone (b.atR a I) cs X.w) (lone (b.atR a' j) cs X'.w)∧Fr Q σ n X' s' a'∧Ext X.H.length X X'∧a'.tmps.size=a.tmps.size∧ajb F j:=by
   intro B j hr hi U;obtain⟨X',a',it,g1,N⟩:=ih n b cs ro B j s X a F s' hr (z.to hi);exact⟨X',a',it,.head U g1,N⟩
  cases d_ with
  | nil=>
   have:I=[]:=aqu z.items.len.symm;subst this;simp only [run,At,OF]at h;obtain⟨rfl,rfl⟩:=h;exact⟨X,a,[],Steps.refl _ _,z.fr,Ext.refl _ _,rfl,rfl⟩
  | cons x k=>
   cases I with
   | nil=>have:=z.items.len;simp at this
   | cons it M=>
    obtain⟨hx,A⟩:=z.items.of_cons;cases hx with
    | inBlock id=>exact go (by simpa [run]using h) A stepR_inBlock
    | inLoop E=>exact go (by simpa [run]using h) (A2.cons (.code E) (A2.cons (.inLoop E) A)) stepR_inLoop
    | inScope E hs=>exact go (by simpa [run]using h) A vf
    | ir hb hl=>
     rename_i bb L;simp only [run]at h;split at h
     ·rename_i f t ps as bd q d9 d J;split at h
      ·simp at h
      ·rename_i hq;rw [←z.fr.heap]at J;obtain⟨m0,us,a7,as',W,pend',Ld,b9,h2,h3,h4,h5,h6,Y,h8,h9⟩:=oV z.fr.sr hb J;obtain⟨g1,N⟩:=yu z.fr.sr hb J (q':=.exhausted) h2 h3 h4 h5 h6 Y h8 h9;have j_:(q.of)≠LoopState.busy:=by cases q<;>simp [ej.of]at hq ⊢
       have U:=stepR_endRangeFunc (P:=Q) (b:=b) (a:=a) (k:=M) (cs:=cs) (run_endLoop (P:=Q) b9 j_);have key:∀ {B j},run call fn m ro B { s with heap:=s.heap.set bb (.lp f t ps as bd .exhausted d9 d) }=aa (F,s')→A2 (gn Q σ n X) B j→j=(pend'.map Item.code).toList++M →
         ∃ X' a' j,Steps Q (lone (b.atR a (.endRangeFunc L.c::M)) cs X.w) (lone (b.atR a' j) cs X'.w)∧Fr Q σ n X' s' a'∧Ext X.H.length X X'∧a'.tmps.size=a.tmps.size∧ajb F j:=by
        intro B j hr hi he;obtain⟨X',a',it,k1,k2,k3,k4,k5⟩:=ih n b cs ro B j _ _ a F s' hr (z.ext (a':=a) N ⟨by rw [←z.fr.heap],g1,by simpa [World.putObj]using z.fr.b,z.fr.aw.ext' σ N,z.fr.defs.ext' N,z.fr.size⟩ hi);rw [he]at k1;exact⟨X',a',it,.head U k1,k2,N.trans (k3.mono N.len),k4,k5⟩
       split at h
       ·cases pend' with
        | none=>exact key h A rfl| some c=>exact Y.elim
       ·cases pend' with
        | none=>exact Y.elim
        | some c=>
         have Y:bL Q σ m0 c .ret=ae:=Y;cases c<;>simp [bL]at Y;exact key h (A2.cons (.code (by simp [bL])) A) rfl
       ·rename_i id;cases pend' with
        | none=>exact Y.elim
        | some c=>
         have Y:bL Q σ m0 c (.exit id)=ae:=Y;cases c<;>simp [bL]at Y;subst Y;exact key h (A2.cons (.code (by simp [bL])) A) rfl
       ·simp at h
     ·simp at h
    | lj=>
     simp only [run]at h;split at h
     ·simp at h
     ·rename_i bb;split at h
      ·rename_i f t ps as bd d9 d J;have K:=z.ro;cases f7:b.roundOf with
       | none=>rw [f7]at K;exact K.elim
       | some l=>
        rw [f7]at K;obtain⟨L,hL,rfl,_⟩:=K;rw [←z.fr.heap]at J;obtain⟨m0,us,a7,as',W,pend',Ld,b9,h2,h3,h4,h5,h6,Y,h8,h9⟩:=oV z.fr.sr hL J;obtain⟨g1,N⟩:=yu z.fr.sr hL J (q':=.busy) h2 h3 h4 h5 h6 Y h8 h9;have U:=stepR_beginRound (P:=Q) (b:=b) (a:=a) (k:=M) (cs:=cs) f7 (run_beginRound (P:=Q) b9 rfl);obtain⟨X',a',it,k1,k2,k3,k4,k5⟩:=ih n b cs _ k M _ _ a F s' h (z.ext (a':=a) N ⟨by rw [←z.fr.heap],g1,by simpa [World.putObj]using z.fr.b,z.fr.aw.ext' σ N,z.fr.defs.ext' N,z.fr.size⟩ A);exact⟨X',a',it,.head U k1,k2,N.trans (k3.mono N.len),k4,k5⟩
      ·simp at h
    | code E=>
     rename_i ac c;cases ac with
     | bad=>simp [run]at h| skip=>cases c<;>simp [bL]at E;exact go (by simpa [run]using h) A stepR_skip
     | label l=>cases c<;>simp [bL]at E;exact go (by simpa [run]using h) A stepR_label
     | scope p=>
      cases c<;>simp [bL]at E;exact go (by simpa [run]using h) (A2.cons (.code E.1) (A2.cons (.inScope E.1 E.2) A)) A1
     | goto l=>
      cases c<;>simp [bL]at E;subst E;rename_i l';have S:=wg (Q:=Q) (σ:=σ) (n:=n) (X:=X) l' k M A;simp only [run]at h;split at h
      ·rename_i k' H;rw [H]at S;obtain⟨n9,he,a_⟩:=S;exact go h a_ (stepR_goto he)
      ·simp at h
     | ret=>
      cases c<;>simp [bL]at E;simp only [run,At,OF]at h;obtain⟨rfl,rfl⟩:=h;exact⟨X,a,_,Steps.refl _ _,z.fr,Ext.refl _ _,rfl,M,rfl⟩
     | seq p q=>
      cases c<;>simp [bL]at E;exact go (by simpa [run]using h) (A2.cons (.code E.1) (A2.cons (.code E.2) A)) stepR_seq
     | block id p=>
      cases c<;>simp [bL]at E;obtain⟨rfl,E⟩:=E;exact go (by simpa [run]using h) (A2.cons (.code E) (A2.cons (.inBlock _) A)) stepR_block
     | loop p=>
      cases c<;>simp [bL]at E;exact go (by simpa [run]using h) (A2.cons (.code E) (A2.cons (.inLoop E) A)) stepR_loop
     | exit id=>
      cases c<;>simp [bL]at E;subst E;rename_i n8;have S:=vU (Q:=Q) (σ:=σ) (n:=n) (X:=X) n8 k M A;simp only [run]at h;split at h
      ·rename_i k' H;rw [H]at S;obtain⟨n9,he,a_⟩:=S;exact go h a_ (stepR_exit he)
      ·rename_i H;rw [H]at S;split at h
       ·simp only [At,OF]at h;obtain⟨rfl,rfl⟩:=h;exact⟨X,a,_,Steps.refl _ _,z.fr,Ext.refl _ _,rfl,M,rfl,S⟩
       ·simp at h
     | cond x p q=>
      cases c<;>simp [bL]at E;simp only [run]at h;split at h
      ·rename_i v hv;have hx:=bO z.fr.aw E.1.1;rw [hv]at hx;have m_:cM σ X.F X.w (.bool v) _:=hx;have he:∀ u,cM σ X.F X.w (.bool v) u→u=.bool v:=fun u hu=>by cases hu;rfl
       refine go h ?_ (stepR_cond (he _ m_));cases v
       ·exact A2.cons (.code E.2) A
       ·exact A2.cons (.code E.1.2) A
      ·simp at h
     | region aos gK=>
      cases c with
      | region id ops n_=>
       simp only [run]at h;split at h
       ·simp at h
       ·rename_i K;split at h
        ·rename_i s1 h1;have k_:∀ y ∈ aos,gd y.op b:=by
          intro y hy;unfold gd;cases ro with
          | none=>
           refine .inl ?_;have:=z.ro;cases hb:b.roundOf with
           | none=>rfl| some l=>rw [hb]at this;exact this.elim
          | some r=>
           simp only [Option.isSome_some,arb,arf,Bool.not_eq_false]at K;exact .inr (aqG.1 K y hy)
         obtain⟨X1,a1,g1,N,g3,g4⟩:=NR hC i6 E z.kind k_ (k:=M) z.fr h1;obtain⟨X',a',it,k1,k2,k3,k4,k5⟩:=ih n b cs ro k M s1 X1 a1 F s' h (z.ext g3 N A);exact⟨X',a',it,g1.trans k1,k2,g3.trans (k3.mono g3.len),k4.trans g4,k5⟩
        ·simp at h
      | _=>simp [bL]at E
     | fu f ps as bd=>
      cases c with
      | rangeFunc f' a7 as' W=>
       simp only [bL,If]at E;obtain⟨⟨⟨j6,j7⟩,j8⟩,j9⟩:=E;simp only [run]at h;split at h
       ·simp at h
       ·rename_i K;have l_:b.roundOf=ab:=by
         have:=z.ro;cases ro with
         | some r=>simp at K
         | none=>
          cases hb:b.roundOf with
          | none=>rfl| some l=>rw [hb]at this;exact this.elim
        split at h
        ·rename_i g args i4;split at h
         ·rename_i r2 H2 O;obtain⟨X1,w1,H1,S1,E1,r1,B1⟩:=SR.new z.fr.sr z.fr.b (.eO ae) (dL.alloc X.w (.deferred (aa []))) 0 (fun X' hx hw hF hH=>by
           show X'.w.heap[X.w.heap.size]?=_;rw [hw];exact(dL.alloc X.w (.deferred (aa []))).new)
          have i5:X1.H[X.H.length]?=aa (.eO ae):=by rw [H1];simp
          have b_:X.H.length<X1.H.length:=by rw [H1];simp
          have i7:X1.w.heap.size=X.w.heap.size+1:=by rw [w1];simp
          obtain⟨X2,w2,i8,S2,E2,f_,B2⟩:=SR.new S1 B1 (.lp fn s.aw ps as bd .ready ab s.heap.length)
           (dL.alloc X1.w (.loop { state:=.ready,pending:=ab,fn:=b.fn,tmps:=a.tmps,params:=a7,assign:=as',body:=W,defers:=X.w.heap.size })) 0 (fun X' hx hw hF hH=>by
            obtain⟨blk',e_,H⟩:=hx.cG X.H.length b_ _ i5;cases blk'<;>simp only at H;refine⟨n,a.tmps,a7,as',W,ab,⟨X.w.heap.size,0⟩,?_,z.fr.size,RR.ext' σ hx (RR.ext' σ E1 z.fr.aw),j7,j8,j9,trivial,?_,?_⟩
            ·show X'.w.heap[X1.w.heap.size]?=_;rw [hw,(dL.alloc X1.w (.loop { state:=.ready,pending:=ab,fn:=b.fn,tmps:=a.tmps,params:=a7,assign:=as',body:=W,defers:=X.w.heap.size })).new,z.fn];rfl
            ·rw [←z.fr.heap];exact H _ r1
            ·rw [←z.fr.heap];exact⟨_,e_⟩)
          have f8:Ext X.H.length X X2:=E1.trans (E2.mono E1.len);have g_:X2.H=s.heap++[.eO ae,.lp fn s.aw ps as bd .ready ab s.heap.length]:=by rw [i8,H1,←z.fr.heap];simp
          have j5:X1.H.length=s.heap.length+1:=by rw [H1,←z.fr.heap];simp
          have J:Ca X2 (s.heap.length+1):=⟨fn,s.aw,ps,as,bd,.ready,ab,s.heap.length,by rw [g_,IS (by omega)];simp⟩
          rw [j5,i7]at f_;have h_:A2 (VR σ X2) [.c (.yl (s.heap.length+1))] [.func (.yield (X.w.heap.size+1)) #[] #[]]:=A2.cons ⟨⟨X.w.heap.size+1,0⟩,f_,J,rfl⟩ A2.nil;obtain⟨fst,cap,m4,m9⟩:=nh i4 (VR.ext' σ f8 (bO z.fr.aw j6)) h_;rw [←g_]at O;have j4:=hC.enters _ _ _ _ O
          let a1:Act:={ a with defers:={ target:=.collected X.w.heap.size,args:=#[] }::a.defers }
          obtain⟨fr,X3,u,q1,⟨l1,l2,l3,l4,i9,l5,l6⟩,q3,q4,q5,q6,q7⟩:=hC.fn g args _ r2 H2 O X2 _ .normal (b.atR a1 (.inRangeFunc (X.w.heap.size+1)::M)::cs) rfl S2 B2 m9 (.inl rfl) (.inl rfl);have U:step Q (lone (b.atR a (.code (.rangeFunc f' a7 as' W)::M)) cs X.w)=.next (lone (Frame.enter Q (σ g) (fst.toArray++#[.func (.yield (X.w.heap.size+1)) #[] #[]]++cap.toArray) .normal) (b.atR a1 (.inRangeFunc (X.w.heap.size+1)::M)::cs) X2.w):=by
           refine stepR_rangeFunc (P:=Q) (b:=b) (a:=a) (k:=M) (cs:=cs) (l:=X.w.heap.size+1) (mark:=[{ target:=.collected X.w.heap.size,args:=#[] }]) (w₁:=X2.w) (w₁':=X2.w) (d:={ target:=.fn (.func (σ g)) cap.toArray,args:=fst.toArray++#[.func (.yield (X.w.heap.size+1)) #[] #[]] }) ?_ ?_ ?_
           ·rw [l_,run_enterLoop_outer,w2,w1]
           ·simp only [resolve,m4,Deferred.ofValue,Sem.run_bind,Sem.run_pure,Result.andThen_ok];simp [Act.eval]
           ·exact eF j4
          have Z:Ext X.H.length X X3:=f8.trans (q6.mono f8.len);have a8:=step_leave_returned (P:=Q) (c:=b.atR a1 (.inRangeFunc (X.w.heap.size+1)::M)) (cs:=cs) (show fr.leaving Q X3.w (.returned u) from⟨l1,l2,l3,i9,by rw [l4];exact l5,l6⟩);rw [finish_atR_inRangeFunc]at a8;have c_:=J.ext q6;have i_:su σ X3 (.gm s.heap.length) { target:=.collected X.w.heap.size,args:=#[] }:=by
           obtain⟨blk',e_,H⟩:=(E2.trans (q6.mono E2.len)).cG X.H.length b_ _ i5;cases blk'<;>simp only at H;rw [←z.fr.heap];exact⟨⟨X.w.heap.size,0⟩,_,H _ r1,e_,rfl⟩
          obtain⟨X',a',it,k1,k2,k3,k4,k5⟩:=ih n b cs ro (.ir (s.heap.length+1)::k) (.endRangeFunc (X.w.heap.size+1)::M) _ X3 a1 F s' h
           ⟨⟨q3,q4,q7,RR.ext' σ Z z.fr.aw,A2.cons i_ (z.fr.defs.ext' Z),z.fr.size⟩,A2.cons (.ir (c_.2 _ f_) c_.1) (A.jX fun _ _ h=>h.ext Z),z.ro.ext Z,z.kind,z.fn⟩
          refine⟨X',a',it,.head U (Steps.trans ?_ (.head a8 k1)),k2,Z.trans (k3.mono Z.len),k4,k5⟩;simpa using q1
         ·simp at h
        ·simp at h
      | _=>simp [bL]at E
end
section
variable{Q:Program}{σ:Nat→FuncId}{X:Wd}{call:cL}
def Bt(Q:Program)(σ:Nat→FuncId)(mQ:Nat→List V→aj→Option (Option (V × aj))):Prop:=
 ∀ f args H r H',mQ f args H=aa (aa (r,H')) →
  (∀ as w,(callFunc (σ f) as).run Q w=.ok (.enter (σ f) as) w) ∧
  ∀(X:Wd) us b cs,X.H=H→SR Q σ X→X.B≤X.w.heap.size→A2 (VR σ X) args us→nA b cs→b=.normal∨f≠e9 →
   ∃ d X' u,Steps Q (lone (Frame.enter Q (σ f) us.toArray b) cs X.w) (lone d cs X'.w)∧Leaves Q (σ f) b d u X'.w∧eM Q σ X r H' X' u
structure Env(Q:Program)(σ:Nat→FuncId)(tab:Nat→Option aJ)(mQ:Nat→List V→aj→Option (Option (V × aj))):Prop where
 mix:Q.follows .mixedOrders=ae
 fn:∀ f af,tab f=aa af→∃ fn,Q.funcs[σ f]?=aa fn∧wu Q σ fn af=ae
 mQ:Bt Q σ mQ
theorem uc:∀(ps:List P) (args:List V) (t:T) (s:Nat),ps.map P.toNat=List.range' s ps.length→args.length=ps.length→∀ q:P,
  (cE ps args t).get q=if s≤q.toNat then(args[q.toNat-s]?).getD (t.get q)else t.get q
 | [],args,t,s,_,b,q=>by
  have:args=[]:=aqu b;subst this;simp [cE]
 | p::ps,[],t,s,_,b,q=>by simp at b
 | p::ps,v::y,t,s,d,b,q=>by
  simp only [List.map_cons,List.length_cons,List.range'_succ,List.cons.injEq]at d;have x:=uc ps y (t.set p v) (s+1) d.2 (by simpa using b) q;simp only [cE,x];by_cases j:p=q
  ·subst j;rw [aW (by omega),T.oi];simp [d.1]
  ·have u:q.toNat≠s:=fun e=>j (P.toNat_inj (d.1.trans e.symm));simp only [T.oi,j,if_false];by_cases l:s≤q.toNat
   ·have g:s+1≤q.toNat:=by omega
    have m:q.toNat-s=(q.toNat-(s+1))+1:=by omega
    simp [g,l,m]
   ·have g:¬ (s+1≤q.toNat):=by omega
    simp [g,l]
theorem RR.cE:∀(ps:List P) (b:List Tmp) (args:List V) (us:List Value) (aw:T) (tmps:Array Value) (n:Nat),n≤tmps.size→RR σ X aw tmps→A2 (VR σ X) args us→args.length=ps.length →
  eY (fun p (q:P)=>q.toNat == p&&decide (p<n)) b ps=ae→RR σ X (Km.cE ps args aw) ((b.zip us).foldl (fun tmps (t,a)=>tmps.setIfInBounds t a) tmps)
 | [],b,args,us,aw,tmps,n,l,j,d,g,h=>by
  have:args=[]:=aqu g;subst this;have:us=[]:=aqu d.len.symm;subst this;simpa [Km.cE]using j
 | p::ps,[],args,us,aw,tmps,n,l,j,d,g,h=>by simp [eY]at h
 | p::ps,s::b,[],us,aw,tmps,n,l,j,d,g,h=>by simp at g
 | p::ps,s::b,v::x,[],aw,tmps,n,l,j,d,g,h=>by have:=d.len;simp at this
 | p::ps,s::b,v::x,u::us,aw,tmps,n,l,j,d,g,h=>by
  simp only [eY,If,beq_iff_eq,decide_eq_true_eq]at h;obtain⟨⟨h1,h2⟩,h3⟩:=h;obtain⟨m,d⟩:=d.of_cons;subst h1;refine RR.cE ps b x us _ _ n (by simpa using l) (RR.set σ j (by omega) m) d (by simpa using g) h3
theorem rq:∀(l:List (Tmp × Value)) (tmps:Array Value),(l.foldl (fun tmps (t,a)=>tmps.setIfInBounds t a) tmps).size=tmps.size
 | [],_=>rfl| x::l,tmps=>by rw [List.foldl_cons,rq l];simp
theorem Z'(fn:Nat):∀ m d s b s',run call fn m ab d s=aa (b,s')→b=ab∨b=aa .ret:=by
 intro m;induction m with
 | zero=>intro d s b s' h;simp [run]at h
 | succ m g=>
  intro d s b s' h;unfold run at h;split at h
  all_goals first
   | exact g _ _ _ _ h
   | (simp at h;done)
   | skip
  ·simp only [At,OF]at h;exact .inl h.1.symm
  ·split at h
   ·split at h
    ·simp at h
    ·split at h
     ·exact g _ _ _ _ h
     ·exact g _ _ _ _ h
     ·exact g _ _ _ _ h
     ·simp at h
   ·simp at h
  ·split at h
   ·exact g _ _ _ _ h
   ·simp at h
  ·simp only [At,OF]at h;exact .inr h.1.symm
  ·split at h
   ·exact g _ _ _ _ h
   ·simp at h
  ·split at h
   ·exact g _ _ _ _ h
   ·simp at h
  ·split at h
   ·simp at h
   ·split at h
    ·exact g _ _ _ _ h
    ·simp at h
  ·split at h
   ·simp at h
   ·simp only at h;split at h
    ·split at h
     ·exact g _ _ _ _ h
     ·simp at h
    ·simp at h
theorem rh{fn:Func}{af:aJ}(h:wu Q σ fn af=ae):∃ c,fn.name≠ "runtime.NumGoroutine"∧fn.body=aa c∧bL Q σ fn.ntmps c af.body=ae ∧
  eY (uW Q fn.ntmps) fn.results.toList af.results=ae∧af.ps.map P.toNat=List.range af.ps.length:=by
 simp only [wu,If,bne_iff_ne,ne_eq,decide_eq_true_eq]at h;obtain⟨⟨⟨h1,h2⟩,h3⟩,h4⟩:=h;cases hb:fn.body with
 | none=>rw [hb]at h2;simp at h2| some c=>rw [hb]at h2;exact⟨c,h1,rfl,h2,h3,h4⟩
theorem py{f:FuncId}{fn:Func}{c:Code}(hf:Q.funcs[f]?=aa fn)(hn:fn.name≠ "runtime.NumGoroutine")(hb:fn.body=aa c)(as:Array Value)(w:World):(callFunc f as).run Q w=.ok (.enter f as) w:=by
 simp [callFunc,hf,hn,hb]
def iN(g:FuncId)(d:CallKind)(tmps:Array Value)(ds:List Deferred)(b:Frame):Prop:=
 b.mode=.returning∧b.defers=ds∧b.kind=d∧b.fn=g∧b.tmps=tmps
theorem step_collected{d:Frame}{cs:List Frame}{w w':World}{b:Nat}{as:Array Value}{ds:List Deferred}(j:d.mode=.returning)(g:d.defers = { target:=.collected b,args:=as }::ds)
  (l:(Instr.takeDeferred b).run Q w=.ok [] w'):step Q (lone d cs w)=.next (lone { d with defers:=ds } cs w'):=
 step_lone_go (by simp [stepG,unwind,j,g,Sem.runT_eq,l])
theorem vg{b:Frame}{cs:List Frame}{w:World}{f:FuncId}{cap as as':Array Value}{ds:List Deferred}(g:b.mode=.returning)(d:b.defers = { target:=.fn (.func f) cap,args:=as }::ds)
  (j:(invoke (.fn (.func f) cap) as).run Q w=.ok (.enter f as') w):step Q (lone b cs w)=.next (lone (Frame.enter Q f as' .deferred) ({ b with defers:=ds }::cs) w):=
 step_lone_go (by simp [stepG,unwind,g,d,callDeferred,Sem.runT_eq,j])
theorem mR{b c:Frame}{cs:List Frame}{w:World}{v:Value}{f:FuncId}(h:Leaves Q f .deferred b v w)(hc:c.mode=.returning) :
  step Q (lone b (c::cs) w)=.next (lone c cs w):=by
 obtain⟨q,j,m,l,fn,d,g⟩:=h;rw [←l]at d;exact step_lone_go (by simp [stepG,unwind,doReturn,q,j,m,d,Sem.runT_eq,g,hc])
theorem iN.pop{g:FuncId}{kind:CallKind}{tmps:Array Value}{d:Deferred}{ds:List Deferred}{fr:Frame}(h:iN g kind tmps (d::ds) fr):iN g kind tmps ds { fr with defers:=ds }:=
 ⟨h.1,rfl,h.2.2.1,h.2.2.2.1,h.2.2.2.2⟩
theorem xw(H:eR Q σ call){g:FuncId}{y:CallKind}{tmps:Array Value}{cs:List Frame}:∀(ds:List dA) (X:Wd) (l:List Deferred) (q:Frame) (H':aj),
  dx call ds X.H=aa H'→SR Q σ X→X.B≤X.w.heap.size→fv σ X ds l→iN g y tmps l q →
  ∃ fr' X',Steps Q (lone q cs X.w) (lone fr' cs X'.w)∧iN g y tmps [] fr'∧X'.H=H'∧SR Q σ X'∧X'.B≤X'.w.heap.size∧Ext X.H.length X X'
 | [],X,l,q,H',h,B,E,z,j=>by
  have:l=[]:=aqu z.len.symm;subst this;simp only [dx,At]at h;exact⟨q,X,Steps.refl _ _,j,h,B,E,Ext.refl _ _⟩
 | d::ds,X,[],q,H',h,B,E,z,j=>by have:=z.len;simp at this
 | .gm b::ds,X,m::l,q,H',h,B,E,z,j=>by
  obtain⟨⟨L,o,h1,h2,rfl⟩,A⟩:=A2.of_cons z;simp only [dx]at h;split at h
  ·rename_i I;obtain⟨_,_,bj,F,K⟩:=B.br b L h1;rw [I]at F;cases F;have x:X.w.heap[L.c]?=aa (.deferred (aa [])):=K;obtain⟨g1,J⟩:=SR.pD (o':=.deferred ab) (blk':=.eO ag) B I h1 x (by simp) (by simp)
    (fun bj v=>⟨.eO ag,by simp [(BY.1 I).1],by rw [I]at v;cases v;exact fun L h=>h⟩)
    (fun X' a_ O _ a7 hH=>O)
   obtain⟨fr',X',S,U,W,Y,Z,k6⟩:=xw H ds _ l { q with defers:=l } H' h g1 (by simpa using E) (fv.ext' J A) j.pop;exact⟨fr',X',.head (step_collected j.1 j.2.1 (run_takeDeferred x)) S,U,W,Y,Z,J.trans (k6.mono J.len)⟩
  ·simp at h
 | .fn f args::ds,X,m::l,q,H',h,B,E,z,j=>by
  obtain⟨⟨us,cap,rfl,hA⟩,A⟩:=A2.of_cons z;simp only [dx]at h;split at h
  ·simp at h
  rename_i N;split at h
  ·rename_i r H1 s;have M:=H.enters f args _ _ s;obtain⟨a8,X1,u,q1,q2,q3,q4,q5,q6,q7⟩:=H.fn f args _ r H1 s X _ .deferred ({ q with defers:=l }::cs) rfl B E hA (.inr ⟨rfl,_,_,rfl,j.1⟩) (.inr N);rw [←q3]at h;obtain⟨fr',X',S,U,W,Y,Z,k6⟩:=xw H ds X1 l { q with defers:=l } H' h q4 q7 (fv.ext' q6 A) j.pop;refine⟨fr',X',.head (vg (as':=us++cap) j.1 j.2.1 (eF M)) (Steps.trans ?_ (.head (mR (c:={ q with defers:=l }) q2 j.1) S)),U,W,Y,Z,q6.trans (k6.mono q6.len)⟩;have e:(us.toList++cap.toList).toArray=us++cap:=by apply Array.ext';simp
   rw [e]at q1;exact q1
  ·simp at h
theorem akV(E:SR Q σ X){n:Nat}{aw:T}{tmps:Array Value}(m:RR σ X aw tmps){r:ResultVar}{a:fV}(g:uW Q n r a=ae){v:V}
  (h:cI aw X.H a=aa v):∃ u,(match r with | .tmp t=>pure (tmps.getD t undef) | .cell a t=>do loadVar t (←asAddr (tmps.getD a undef)):Sem Value).run Q X.w=.ok u X.w∧gq σ X v u:=by
 cases r with
 | tmp t=>
  cases a with
  | tmp p=>
   simp only [uW,If,beq_iff_eq,decide_eq_true_eq]at g;have d:=m p;rw [g.1]at d;simp only [cI]at h;refine⟨_,rfl,?_⟩;split at h
   ·simp at h
   ·rename_i j;simp only [At]at h;rw [h]at d;cases v with
    | t H=>exact absurd h (j H)| top=>trivial| c x=>exact d| a xs=>exact d
  | cell p k=>simp [uW]at g
 | cell t I=>
  cases a with
  | tmp p=>simp [uW]at g
  | cell p k=>
   simp only [uW,If,beq_iff_eq,decide_eq_true_eq]at g;have d:=m p;rw [g.1.1]at d;simp only [cI]at h;cases q:aw.get p with
   | c x=>
    rw [q]at h d;simp only [aU,Option.bind_eq_some_iff]at h;obtain⟨cs,s,b⟩:=h;obtain⟨c,o,us,F,z,A⟩:=sM E d s;obtain⟨u,B,l⟩:=A4 g.2 z A b;refine⟨u,by simp [F,asAddr,B],?_⟩;cases k with
    | none=>cases cs with
     | nil=>simp [aT]at b| cons y ys=>simp only [aT,At]at b;subst b;exact l
    | some k=>
     simp only [aT]at b;split at b
     ·simp only [At]at b;subst b;exact l
     ·simp at b
   | _=>rw [q]at h;simp [aU]at h
theorem CO(K:SR Q σ X){fn:Func}{m:List fV}(L:eY (uW Q fn.ntmps) fn.results.toList m=ae){aw:T}{tmps:Array Value}(J:RR σ X aw tmps){v:V}
  (h:Km.results aw X.H m=aa v):∃ u,(Go.results fn tmps).run Q X.w=.ok u X.w∧VR σ X v u:=by
 have key:∀(m:List fV) (qs:List ResultVar) (j:List V),eY (uW Q fn.ntmps) qs m=ae→bg (cI aw X.H) m=aa j →
   ∃ us:List Value,(qs.mapM (fun r=>match r with | .tmp t=>pure (tmps.getD t undef) | .cell a t=>do loadVar t (←asAddr (tmps.getD a undef)):ResultVar→Sem Value)).run Q X.w=.ok us X.w∧A2 (gq σ X) j us:=by
  intro m;induction m with
  | nil=>
   intro qs j x l;cases qs with
   | nil=>simp only [bg,At]at l;subst l;exact⟨[],rfl,A2.nil⟩| cons q qs=>simp [eY]at x
  | cons a m M=>
   intro qs j x l;cases qs with
   | nil=>simp [eY]at x
   | cons q qs=>
    simp only [eY,If]at x;simp only [bg]at l;split at l
    ·simp at l
    ·rename_i A E;split at l
     ·simp at l
     ·rename_i B F;simp only [At]at l;subst l;obtain⟨u,s,b⟩:=akV K J x.1 E;obtain⟨us,H,I⟩:=M qs B x.2 F;refine⟨u::us,?_,A2.cons b I⟩;rw [List.mapM_cons,Sem.run_bind,s];simp only [Result.andThen_ok,Sem.run_bind,H,Sem.run_pure]
 unfold Km.results at h;have y:∀ j,bg (cI aw X.H) m=aa j→∃ us:List Value,(Go.results fn tmps).run Q X.w=.ok (if h:us.toArray.size=1 then us.toArray[0]else .tuple us.toArray) X.w∧A2 (gq σ X) j us:=by
  intro j g;obtain⟨us,s,b⟩:=key m fn.results.toList j L g;refine⟨us,?_,b⟩;unfold Go.results;rw [Array.mapM_eq_mapM_toList,Sem.run_bind,Sem.run_map];exact(congrArg (fun r:Result (List Value)=>(r.andThen fun a w'=>Result.ok a.toArray w').andThen fun a w'=>Sem.run Q (pure (if h:a.size=1 then a[0]else Value.tuple a)) w') s).trans rfl
 split at h
 ·rename_i A g;simp only [At]at h;subst h;obtain⟨us,s,b⟩:=y _ g
  match us,b with
  | [u],b=>exact⟨u,s,VR.of1 σ b.of_cons.1⟩| [],b=>have:=b.len;simp at this| _::_::_,b=>have:=b.len;simp at this
 ·rename_i j z g;simp only [At]at h;subst h;obtain⟨us,s,b⟩:=y _ g;refine⟨.tuple us.toArray,?_,us,rfl,b⟩;rw [s,dif_neg];intro d
  match us,d with
  | [u],_=>
   match j,b with
   | [A],_=>exact z A rfl| [],b=>have:=b.len;simp at this| _::_::_,b=>have:=b.len;simp at this
  | [],d=>simp at d| _::_::_,d=>simp at d
 ·simp at h
end
section
variable{Q:Program}{σ:Nat→FuncId}{tab:Nat→Option aJ}{mQ:Nat→List V→aj→Option (Option (V × aj))}
theorem ana(i:Env Q σ tab mQ){m:Nat}{call:cL}(h:eR Q σ call){f:Nat}{af:aJ}(I:tab f=aa af){args:List V}(E:args.length=af.ps.length){x:Option aE}{s':St}{X:Wd}
  (v:run call f m ab [.code af.body] ⟨cE af.ps args .e,[],X.H⟩=aa (x,s')) {H':aj} (j:dx call s'.defs s'.heap=aa H') {r:V} (s:Km.results s'.aw H' af.results=aa r)
  {us:List Value} {d:CallKind} {cs:List Frame} (hS:SR Q σ X) (hB:X.B≤X.w.heap.size) (e:A2 (VR σ X) args us) (hk:nA d cs) :
  ∃ W X' u,Steps Q (lone (Frame.enter Q (σ f) us.toArray d) cs X.w) (lone W cs X'.w)∧Leaves Q (σ f) d W u X'.w∧eM Q σ X r H' X' u:=by
 obtain⟨fn,n,hm⟩:=i.fn f af I;obtain⟨c,M,y,z,O,N⟩:=rh hm
 let b:Frame:=Frame.enter Q (σ f) us.toArray d
 let l:Act:={ tmps:=us.toArray++Array.replicate (fn.ntmps-us.toArray.size) undef,defers:=[] }
 have hb:b=b.atR l [.code c]:=by
  simp [b,l,Frame.enter,Frame.atR,n,y]
 have S:fn.ntmps≤l.tmps.size:=by simp [l];omega
 have L:RR σ X (cE af.ps args .e) l.tmps:=by
  intro p;rw [uc af.ps args .e 0 (by rw [N,List.range_eq_range']) E p];simp only [arC,if_true,Nat.sub_zero];by_cases o:p.toNat<args.length
  ·have t:=By o;have F:p.toNat<us.length:=e.len▸o;have hy:=By F;have hv:=e.2 _ _ _ t hy;rw [t];have:l.tmps.getD p.toNat undef=us[p.toNat]:=by
    simp [l,Array.getD_eq_getD_getElem?,Array.getElem?_append,F]
   rw [this];exact hv
  ·rw [arp (by omega)];cases p<;>trivial
 have hF:Fr Q σ fn.ntmps X ⟨cE af.ps args .e,[],X.H⟩ l:=⟨rfl,hS,hB,L,A2.nil,S⟩
 have hW:Way Q σ f fn.ntmps b cs ab [.code af.body] [.code c] ⟨cE af.ps args .e,[],X.H⟩ X l:=⟨hF,A2.cons (.code z) A2.nil,trivial,hk,rfl⟩
 obtain⟨J,a1,g,s1,A,E1,_,U⟩:=Z_ h i.mix f m fn.ntmps b cs ab _ _ _ X l x s' v hW;have H:∃ q,Steps Q (lone (b.atR a1 g) cs J.w) (lone q cs J.w)∧iN (σ f) d a1.tmps a1.defers q:=by
  rcases Z' f m _ _ _ _ v with rfl | rfl
  ·have:g=[]:=U;subst this;exact⟨_,.one (stepR_end rfl),rfl,rfl,rfl,rfl,rfl⟩
  ·obtain⟨k,rfl⟩:=U;exact⟨_,.one (stepR_ret rfl),rfl,rfl,rfl,rfl,rfl⟩
 obtain⟨q,s2,w⟩:=H;rw [←A.heap]at j;obtain⟨K,X2,s3,B,Y,Z,h3,a⟩:=xw h (cs:=cs) s'.defs J a1.defers q H' j A.sr A.b A.defs w;rw [←Y]at s;obtain⟨u,g1,g2⟩:=CO Z O (RR.ext' σ a A.aw) s;refine⟨K,X2,u,?_,⟨B.1,B.2.1,B.2.2.1,B.2.2.2.1,fn,n,by rw [B.2.2.2.2];exact g1⟩,Y,Z,g2,E1.trans (a.mono E1.len),h3⟩;show Steps Q (lone b cs X.w) _;rw [hb];exact s1.trans (s2.trans s3)
theorem aaZ(hE:Env Q σ tab mQ){m:Nat}{call:cL}(hC:eR Q σ call){b:Nat}{f:Nat}{tmps:T}{ps:List P}{as bd:aE}{q:ej}{pd:Option aE}{d:Nat}{X:Wd}(U:X.H[b]?=aa (.lp f tmps ps as bd q pd d))
  {args:List V} (S:args.length=ps.length) {g:Option aE} {s':St} (Y:run call f m (aa b) [.code as,.lj,.code bd] ⟨cE ps args tmps,[],X.H⟩=aa (g,s')) (c_:s'.defs.isEmpty=ae)
  {f':Nat} {v:T} {J:List P} {as' H:aE} {q':ej} {e_:Option aE} {d':Nat} (y:s'.heap[b]?=aa (.lp f' v J as' H q' e_ d'))
  {us:List Value} {c:Frame} {cs:List Frame} {L:Loc} (hS:SR Q σ X) (hB:X.B≤X.w.heap.size) (hA:A2 (VR σ X) args us) (hL:X.cr b=aa L) :
  ∃ f tmps as bd X' u,(Instr.yield L.c us.toArray).run Q X.w=.ok (.round L.c f tmps as bd) X.w ∧
   Steps Q (lone (Frame.round L.c f tmps as bd .normal) (c::cs) X.w) (lone (c.finish u) cs X'.w)∧eM Q σ X (.bool g.isNone) (s'.heap.set b (.lp f' v J as' H (if g.isNone then .ready else .done) g d')) X' u:=by
 obtain⟨n,ts,qs,z,A,f7,Ld,W,h2,h3,h4,h5,h6,h7,h8,h9⟩:=oV hS hL U;have hq:=(ek h4).len;have d_:us.toArray.size=qs.size:=by
  have:=hA.len;simp only [Array.length_toList]at hq;simp;omega
 have hy:=run_yield (P:=Q) (args:=us.toArray) W d_
 let F:Array Value:=(qs.zip us.toArray).foldl (fun tmps (t,a)=>tmps.setIfInBounds t a) ts
 have O:F=(qs.toList.zip us).foldl (fun tmps (t,a)=>tmps.setIfInBounds t a) ts:=by
  simp only [F];rw [←Array.foldl_toList];simp
 let M:Act:={ tmps:=F,defers:=[] }
 let B:Frame:=Frame.round L.c (σ f) F z A .normal
 have b9:B=B.atR M [.code z,.beginRound,.code A]:=by simp [B,M,Frame.round,Frame.atR]
 have b_:RR σ X (cE ps args tmps) F:=by
  rw [O];exact RR.cE ps qs.toList args us tmps ts n h2 h3 hA S h4
 have hn:n≤F.size:=by rw [O,rq];exact h2
 have hF:Fr Q σ n X ⟨cE ps args tmps,[],X.H⟩ M:=⟨rfl,hS,hB,b_,A2.nil,hn⟩
 have E:Ca X b:=⟨_,_,_,_,_,_,_,_,U⟩
 have hW:Way Q σ f n B (c::cs) (aa b) [.code as,.lj,.code bd] [.code z,.beginRound,.code A] ⟨cE ps args tmps,[],X.H⟩ X M:=
  ⟨hF,A2.cons (.code h5) (A2.cons .lj (A2.cons (.code h6) A2.nil)),⟨L,hL,rfl,E⟩,.inl rfl,rfl⟩
 obtain⟨X1,a1,x,s1,K,E1,_,Z⟩:=Z_ hC hE.mix f m n B (c::cs) (aa b) _ _ _ X M g s' Y hW;have N:=(E.ext E1).2 _ hL;rw [←K.heap]at y;obtain⟨n1,f_,f8,a8,a_,pend1,a7,s,k2,k3,k4,k5,k6,k7,k8,k9⟩:=oV K.sr N y;have I:∀(l:Option Code),wv Q σ n1 g l→l.isNone=g.isNone→step Q (lone (B.atR a1 x) (c::cs) X1.w)=.next (lone (c.finish (.bool l.isNone)) cs (X1.w.putObj L.c (.loop { state:=if l.isNone then .ready else .done,pending:=l,fn:=σ f',tmps:=f_,params:=f8,assign:=a8,body:=a_,defers:=a7.c }))) →
   ∃ f tmps as bd X' u,(Instr.yield L.c us.toArray).run Q X.w=.ok (.round L.c f tmps as bd) X.w ∧
   Steps Q (lone (Frame.round L.c f tmps as bd .normal) (c::cs) X.w) (lone (c.finish u) cs X'.w)∧eM Q σ X (.bool g.isNone) (s'.heap.set b (.lp f' v J as' H (if g.isNone then .ready else .done) g d')) X' u:=by
  intro l hj hn d9;obtain⟨g1,g2⟩:=yu K.sr N y (q':=if g.isNone then .ready else .done) (pend1:=g) (pend':=l) k2 k3 k4 k5 k6 hj k8 k9;have hq:(if g.isNone then ej.ready else ej.done).of=(if l.isNone then LoopState.ready else LoopState.done):=by
   rw [hn];cases g<;>rfl
  rw [hq]at g1 g2;refine⟨σ f,F,z,A,_,.bool l.isNone,hy,?_,?_,g1,?_,E1.trans (g2.mono E1.len),?_⟩
  ·show Steps Q (lone B (c::cs) X.w) _;rw [b9];exact s1.trans (.one d9)
  ·rw [←K.heap]
  ·rw [hn];exact VR.tv _
  ·have:=K.b;simpa [World.putObj]using this
 cases g with
 | none=>
  have:x=[]:=Z;subst this;exact I ab trivial rfl (stepR_round_end rfl rfl (run_endRound (P:=Q) ab s))
 | some j=>
  cases j with
  | ret=>
   obtain⟨k,rfl⟩:=Z;exact I (aa .ret) (by simp [wv,bL]) rfl (stepR_round_ret rfl rfl (run_endRound (P:=Q) (aa .ret) s))
  | exit id=>
   obtain⟨k,rfl,hx⟩:=Z;exact I (aa (.exit id)) (by simp [wv,bL]) rfl (stepR_round_exit rfl rfl hx (run_endRound (P:=Q) (aa (.exit id)) s))
  | _=>exact Z.elim
theorem Yp(x:Env Q σ tab mQ)(m:Nat):∀ d,eR Q σ (eh tab mQ m d):=by
 intro d;induction d with
 | zero=>exact⟨fun f args H r h=>by simp [eh]at h,fun f args H r H' h=>by simp [eh]at h,fun b args H r H' h=>by simp [eh]at h⟩
 | succ d S=>
  refine⟨fun f args H r h=>?_,fun f args H r H' h X us B cs J I F E U K=>?_,fun b args H r H' h X us c cs L J I F E hL=>?_⟩
  ·simp only [eh]at h;split at h
   ·rename_i r' N;obtain⟨r0,W⟩:=r;exact(x.mQ f args H r0 W (by rw [N,h])).1
   ·split at h
    ·simp at h
    ·rename_i af l;obtain⟨fn,hf,hm⟩:=x.fn f af l;obtain⟨c,v,s,_⟩:=rh hm;exact py hf v s
  ·simp only [eh]at h;split at h
   ·rename_i r' N;exact(x.mQ f args H r H' (by rw [N,h])).2 X us B cs J I F E U K
   ·split at h
    ·simp at h
    ·rename_i af l;split at h
     ·rename_i g;split at h
      ·rename_i A s' j;split at h
       ·rename_i H1 u;simp only [IT,OF]at h;obtain⟨r1,z,rfl,rfl⟩:=h;subst J;exact ana x S l g j u z I F E U
       ·simp at h
      ·simp at h
     ·simp at h
  ·simp only [eh]at h;split at h
   ·rename_i f tmps ps as bd q pd d' M;split at h
    ·rename_i g;split at h
     ·rename_i A s' j;split at h
      ·rename_i hd;split at h
       ·rename_i f' O a8 as' Y q' a7 Z y;simp only [At,OF]at h;obtain⟨rfl,rfl⟩:=h;subst J;exact aaZ x S M g j hd y I F E hL
       ·simp at h
      ·simp at h
     ·simp at h
    ·simp at h
   ·simp at h
end
inductive zf where
 | no
 | set (b:Nat) (x:bo)
 | push (x:bo)
def zf.app(H:aj):zf→aj
 | .no=>H| .set b x=>H.set b x| .push x=>H++[x]
def sL(g:Nat→Option bo):C→Option (List C)
 | .ptr b off ep=>match g b with
  | some (.box cs _)=>aa (cs.drop off)| some (.bT _ cs _ e .loc)=>if ep=e then aa (cs.drop off)else ab| _=>ab
 | .f (.fp cs off)=>aa ((cs.drop off).map .f)| _=>ab
def akr(g:Nat→Option bo)(n:Option Nat):V→Option V
 | .c x=>(sL g x).bind (aT n)| _=>ab
def qN(g:Nat→Option bo):C→Option Nat
 | .sl b _ l _ ep sz=>match g b with
  | some (.box _ _)=>aa l| some (.bT s _ _ e _)=>if ep=e∧sz=s then aa l else ab| _=>ab
 | .f .au=>aa 0| .f .es=>aa 0| .f (.fs _ l)=>aa l| _=>ab
def pA(g:Nat→Option bo)(sz:Nat):C→Option (List C)
 | .sl b o l _ ep s=>match g b with
  | some (.box cs _)=>if o+l*sz≤cs.length then aa ((cs.drop o).take (l*sz))else ab| some (.bT s' cs _ e _)=>if ep=e∧s=s'∧o+l*sz≤cs.length then aa ((cs.drop o).take (l*sz))else ab| _=>ab
 | .f .au=>aa []| .f .es=>aa []| .f (.fs cs l)=>if cs.length=l*sz then aa (cs.map .f)else ab| _=>ab
def qD(g:Nat→Option bo):Dn→C→Option Bool
 | .ptr,.f .mP=>aa ae| .ptr,.f (.fp _ _)=>aa ag| .ptr,.ptr _ _ _=>aa ag| .sl,.f .au=>aa ae| .sl,.f .es=>aa ag| .sl,.f (.fs _ _)=>aa ag
 | .sl,.sl b _ _ _ ep sz=>match g b with
  | some (.box _ _)=>aa ag| some (.bT s _ _ e st)=>if ep=e∧sz=s then aa (st == .nil)else ab| _=>ab
 | .fn,.f .ik=>aa ae| .fn,.f (.fn _ _)=>aa ag| .fn,.cl _ _=>aa ag| .fn,.bm _ _=>aa ag| .ifc,.f .kU=>aa ae| _,_=>ab
def aj3(g:Nat→Option bo):Dn→V→V→Option Bool
 | .bool,.c x,.c y=>MY .bool x y| .st b,.a xs,.a ys=>pJ b xs ys| .ptr,.c x,.c (.f .mP)=>qD g .ptr x| .sl,.c x,.c (.f .au)=>qD g .sl x| .fn,.c x,.c (.f .ik)=>qD g .fn x| .ifc,.c x,.c (.f .kU)=>qD g .ifc x| _,_,_=>ab
def sa(g:Nat→Option bo)(sz:Nat)(x:V)(lo hi mx:Option V):Option V:=
 match x with
 | .c (.f .au)=>match bU 0 0 lo hi mx with
  | some _=>aa (.c (.f .au))| none=>ab
 | .c (.f .es)=>match bU 0 0 lo hi mx with
  | some _=>aa (.c (.f .es))| none=>ab
 | .c (.f (.fs cs n))=>match bU n n lo hi mx with
  | some (l,h,m)=>
   if mx.isSome∧m=l then aa (.c (.f .es))else
   aa (.c (.f (.fs ((cs.drop (l*sz)).take ((h-l)*sz)) (h-l))))
  | none=>ab
 | .c (.sl b o n cap ep s)=>match g b with
  | some (.box _ _)=>match bU n cap lo hi mx with
   | some (l,h,m)=>if m=l then aa (.c (.f .es))else aa (.c (.sl b (o+l*sz) (h-l) (m-l) ep s))| none=>ab
  | some (.bT s' cs _ e st)=>
   if ep=e∧s=sz∧s'=sz then
    match st with
    | .loc=>match bU n n lo hi mx with
     | some (l,h,m)=>
      if mx.isSome∧m=l then aa (.c (.f .es))
      else if l=h∧0<l then aa (.c (.f (.fs [] 0)))
      else if mx.isSome then(if 0<l then aa (.c (.sl b 0 0 0 ep (s'+1)))else ab)
      else aa (.c (.sl b (o+l*sz) (h-l) 0 ep s))
     | none=>match mx with
      | some _=>ab
      | none=>match bU n ((cs.length-o) / sz) lo hi ab with
       | some (l,h,_)=>if n≤(cs.length-o) / sz∧l<h then aa (.c (.sl b (o+l*sz) (h-l) 0 ep s))else ab| none=>ab
    | .nil=>match bU 0 0 lo hi mx with
     | some _=>aa (.c (.f .au))| none=>ab
    | .es=>match bU 0 0 lo hi mx with
     | some _=>aa (.c (.f .es))| none=>ab
   else ab
  | _=>ab
 | _=>ab
def yg(g:Nat→Option bo)(n sz:Nat)(x:V)(lo hi mx:Option V):Option V:=
 match x with
 | .c (.ptr b off _)=>match g b with
  | some (.box cs _)=>match bU n n lo hi mx with
   | some (l,h,m)=>if off+n*sz≤cs.length then(if m=l then aa (.c (.f .es))else aa (.c (.sl b (off+l*sz) (h-l) (m-l) 0 sz)))else ab| none=>ab
  | _=>ab
 | .c (.f (.fp cs off))=>match bU n n lo hi mx with
   | some (l,h,m)=>if off+n*sz≤cs.length then(if m=l then aa (.c (.f .es))else aa (.c (.f (.fs ((cs.drop (off+l*sz)).take ((h-l)*sz)) (h-l)))))else ab| none=>ab
 | _=>ab
def tp(g:Nat→Option bo)(sz:Nat)(d:Option Nat)(x i:V):Option V:=
 match gD i with
 | none=>ab
 | some i=>
  if 0≤i then
   match d,x with
   | none,.c (.sl b o l _ ep s)=>if i<l then
     (match g b with
      | some (.box _ _)=>aa (.c (.ptr b (o+i.toNat*sz) ep))| some (.bT s' _ _ e .loc)=>if ep=e∧s=s' then aa (.c (.ptr b (o+i.toNat*sz) ep))else ab
      | _=>ab)else ab
   | none,.c (.f (.fs cs l))=>if i<l then aa (.c (.f (.fp cs (i.toNat*sz))))else ab| some n,.c (.ptr b o ep)=>if i<n then aa (.c (.ptr b (o+i.toNat*sz) ep))else ab| some n,.c (.f (.fp cs o))=>if i<n then aa (.c (.f (.fp cs (o+i.toNat*sz))))else ab| _,_=>ab
  else ab
def tt(g:Nat→Option bo)(d:CK)(z:FC):V→V→Option V
 | .c (.f .uZ),.c (.f k)=>if isKey d k then aa (lkR z ab)else ab
 | .c (.mp b),.c (.f k)=>match g b with
  | some (.map j)=>if isKey d k then(lL d k j).map (lkR z)else ab| _=>ab
 | _,_=>ab
def BN(g:Nat→Option bo):V→Option V
 | .c x=>match qN g x with
  | some _=>match pA g 1 x with
   | some cs=>(bg (fun c=>match c with | C.f (.int .u8 n)=>aa (UInt8.ofNat n.toNat) | _=>ab) cs).map fun l=>.c (.f (.str ⟨l.toArray⟩))
   | none=>ab
  | none=>ab
 | _=>ab
def nT(g:Nat→Option bo)(sz:Nat):V→Option (Nat × List C)
 | .c (.f (.str s))=>if sz=1 then aa (s.size,s.toList.map fun b=>.f (.int .u8 b.toNat))else ab
 | .c x=>match qN g x,pA g sz x with
  | some l,aa cs=>aa (l,cs)| _,_=>ab
 | _=>ab
def CT(g:Nat→Option bo):C→Option Nat
 | .sl b _ _ c ep sz=>match g b with
  | some (.box _ _)=>aa c| some (.bT s _ _ e .nil)=>if ep=e∧sz=s then aa 0 else ab| some (.bT s _ _ e .es)=>if ep=e∧sz=s then aa 0 else ab| _=>ab
 | .f .au=>aa 0| .f .es=>aa 0| _=>ab
def xz(g:Nat→Option bo):V→Option V
 | .c (.mi b)=>match g b with
  | some (.uL m _ ae)=>match g m with
   | some (.map [e])=>aa (.t [.c (.f e.1),mV e.2])| _=>ab
  | _=>ab
 | _=>ab
def aaw(g:Nat→Option bo)(x:C)(xs:List C):Option zf:=
 match x with
 | .ptr b off ep=>match g b with
  | some (.box cs fl)=>if fl≤off∧off+xs.length≤cs.length then aa (.set b (.box (over cs off xs) fl))else ab| some (.bT sz cs fl e .loc)=>if ep=e∧fl≤off∧off+xs.length≤cs.length then aa (.set b (.bT sz (over cs off xs) fl e .loc))else ab| _=>ab
 | _=>ab
def Cu(g:Nat→Option bo):V→Option (V × zf)
 | .c (.it b)=>match g b with
  | some (.it s pos)=>
   if pos<s.size then
    let r:=Utf8.decode s pos
    aa (.t [.bool ae,.int .i64 pos,.int .i32 r.1],.set b (.it s (pos+r.2)))
   else aa (.t [.bool ag],.no)
  | _=>ab
 | _=>ab
def sH(g:Nat→Option bo)(d:Nat)(sz bytes:Nat)(x y:V):Option (V × zf):=
 match nT g sz y with
 | none=>ab
 | some (m,ys)=>
  if sz=0 then ab else
  match x with
  | .c (.f .au)=>if m=0 then aa (.c (.f .au),.no)else
    if bP m bytes then aa (.c (.sl d 0 m 0 0 sz),.push (.bT sz ys 0 0 .loc))else ab
  | .c (.f .es)=>if m=0 then aa (.c (.f .es),.no)else
    if bP m bytes then aa (.c (.sl d 0 m 0 0 sz),.push (.bT sz ys 0 0 .loc))else ab
  | .c (.sl b o l cap ep s)=>match g b with
   | some (.box cs fl)=>
    if l+m≤cap then
     if fl≤o+l*sz∧o+l*sz+ys.length≤cs.length then aa (.c (.sl b o (l+m) cap ep s),.set b (.box (over cs (o+l*sz) ys) fl))else ab
    else if bP (l+m) bytes∧o+l*sz≤cs.length then aa (.c (.sl d 0 (l+m) 0 0 sz),.push (.bT sz ((cs.drop o).take (l*sz)++ys) 0 0 .loc))else ab
   | some (.bT s' cs fl e st)=>
    if ep=e∧s'=sz∧s=sz then
     if m=0 then aa (x,.no)
     else if o=0∧l*sz=cs.length∧fl≤cs.length then
      if bP (l+m) bytes then aa (.c (.sl b 0 (l+m) 0 (ep+1) sz),.set b (.bT sz (cs++ys) fl (e+1) .loc))else ab
     else if st=.loc∧fl≤o+l*sz∧o+l*sz+ys.length≤cs.length then
      aa (.c (.sl b o (l+m) 0 ep sz),.set b (.bT sz (over cs (o+l*sz) ys) fl e .loc))
     else ab
    else ab
   | _=>ab
  | _=>ab
def BM(g:Nat→Option bo)(sz:Nat)(x y:V):Option (V × zf):=
 match nT g sz y,x with
 | some _,.c (.f .au)=>aa (.int .i64 0,.no)| some _,.c (.f .es)=>aa (.int .i64 0,.no)
 | some (m,ys),.c (.sl b o l _ ep s')=>
  let n:=Nat.min m l
  match g b with
  | some (.box cs fl)=>if fl≤o∧o+n*sz≤cs.length then aa (.int .i64 n,.set b (.box (over cs o (ys.take (n*sz))) fl))else ab| some (.bT s cs fl e .loc)=>if ep=e∧s'=s∧s=sz∧fl≤o∧o+n*sz≤cs.length then aa (.int .i64 n,.set b (.bT s (over cs o (ys.take (n*sz))) fl e .loc))else ab| _=>ab
 | _,_=>ab
def xv(g:Nat→Option bo)(sz:Nat)(zs:List FC)(x:V):Option zf:=
 match x with
 | .c y=>match qN g y with
  | some 0=>aa .no
  | some l=>
   if zs.length=sz then
    match y with
    | .sl b o _ _ ep s=>match g b with
     | some (.box _ _)=>aaw g (.ptr b o ep) ((cu l zs).map .f)| some (.bT s' _ _ e .loc)=>if ep=e∧s=s' then aaw g (.ptr b o ep) ((cu l zs).map .f)else ab| _=>ab
    | _=>ab
   else ab
  | none=>ab
 | _=>ab
def CW(g:Nat→Option bo)(sz:Nat)(x hi mx:V):Option (V × zf):=
 match sa g sz x ab (aa hi) (aa mx)with
 | some v=>aa (v,.no)
 | none=>match x with
  | .c (.sl b o n _ ep s)=>match g b with
   | some (.bT s' cs fl e .loc)=>
    if ep=e∧s=sz∧s'=sz∧o=0 then
     match Be hi n,Be mx n with
     | some i,aa j=>
      if i=j∧0<i∧i*sz≤cs.length then
       match bg fcC (cs.take (i*sz))with
       | some ys=>aa (.c (.f (.fs ys i)),.set b (.bT s' cs (Nat.max fl (i*sz)) e .loc))| none=>ab
      else ab
     | _,_=>ab
    else ab
   | _=>ab
  | _=>ab
def BF(g:Nat→Option bo)(b:Nat)(sz bytes:Nat)(zs:List FC)(x n:V):Option (V × zf):=
 match gD n with
 | some n=>
  if 0≤n∧zs.length=sz then
   match x with
   | .c (.f .au)=>if n.toNat=0 then aa (.c (.f .au),.no)else
     if bP n.toNat bytes then aa (.c (.sl b 0 n.toNat 0 0 sz),.push (.bT sz ((cu n.toNat zs).map .f) 0 0 .loc))else ab
   | .c (.f .es)=>if n.toNat=0 then aa (.c (.f .es),.no)else
     if bP n.toNat bytes then aa (.c (.sl b 0 n.toNat 0 0 sz),.push (.bT sz ((cu n.toNat zs).map .f) 0 0 .loc))else ab
   | _=>ab
  else ab
 | none=>ab
def xT(g:Nat→Option bo):V→Option (V × zf)
 | .c (.mi b)=>match g b with
  | some (.uL m d done)=>match g m with
   | some (.map [])=>if done then ab else aa (.t [.bool ag],.no)| some (.map [e])=>if done then aa (.t [.bool ag],.no)else if d=1 then aa (.t [.bool ae,.c (.f e.1),mV e.2],.set b (.uL m 1 ae))else ab| _=>ab
  | _=>ab
 | _=>ab
def tT(g:Nat→Option bo)(j:Nat):V→Option (V × zf)
 | .c (.mp b)=>match g b with
  | some (.map d)=>if d.length≤1 then aa (.c (.mi j),.push (.uL b d.length ag))else ab| _=>ab
 | _=>ab
def aaW(aw:T)(g:Nat→Option bo)(d:Nat):cQ→Option (V × zf)
 | .aZ x=>aa (x.ev aw,.no)| .pre o sz=>if o=.loc∨sz=0 then ab else aa (.c (.sl d 0 0 0 0 sz),.push (.bT sz [] 0 0 o))
 | .pick c a b=>match c.ev aw with
  | .c (.f (.bool v))=>aa ((if v then a else b).ev aw,.no)| _=>ab
 | .alloc zs=>aa (.c (.ptr d 0 0),.push (.box (zs.map .f) 0))
 | .box x=>match (x.ev aw).cells? with
  | some xs=>aa (.c (.ptr d 0 0),.push (.box xs 0))| none=>ab
 | .build zs ps=>(dw aw (zs.map .f) ps).map fun cs=>(.a cs,.no)
 | .bE sz zs n ps=>
  if n=0 then(if ps.isEmpty then aa (.c (.f .es),.no)else ab)else
  (dw aw ((cu n zs).map .f) (ps.map fun p=>(p.1*sz,sz,p.2))).map fun cs=>(.c (.sl d 0 n n 0 sz),.push (.box cs 0))
 | .load n x=>(akr g n (x.ev aw)).map (·,.no)
 | .store n x y=>match x.ev aw,(y.ev aw).cells? with
  | .c p,aa xs=>if xs.length=n then(aaw g p xs).map (.top,·)else ab| _,_=>ab
 | .bV x=>match x.ev aw with
  | .c (.ptr b o e)=>aa (.c (.ptr b o e),.no)| .c (.f (.fp cs o))=>aa (.c (.f (.fp cs o)),.no)| _=>ab
 | .bin op x y=>(de op (x.ev aw) (y.ev aw)).map (·,.no)| .eq neg k x y=>(aj3 g k (x.ev aw) (y.ev aw)).map fun b=>(.bool (if neg then !b else b),.no)
 | .un op x=>(unV op (x.ev aw)).map (·,.no)
 | .eS k x=>match x.ev aw with
  | .c (.f (.int _ n))=>aa (.int k (k.wrap n),.no)| _=>ab
 | .uR x=>match x.ev aw with
  | .c (.f (.str s))=>aa (.c (.f (.str s)),.no)| _=>ab
 | .uQ x=>(BN g (x.ev aw)).map (·,.no)
 | .BO x=>match x.ev aw with
  | .c (.f (.str s))=>if s.size<2 ^ 48 then aa (.c (.sl d 0 s.size 0 0 1),.push (.bT 1 (s.toList.map fun b=>.f (.int .u8 b.toNat)) 0 0 .loc))else ab
  | _=>ab
 | .fB f j=>(bg lk (dm aw j)).map fun xs=>(.c (.cl f xs),.no)
 | .i'=>aa (.c (.mp d),.push (.map []))| .lookup q z m k=>(tt g q z (m.ev aw) (k.ev aw)).map (·,.no)
 | .iu q m k v=>match m.ev aw,k.ev aw,nX (v.ev aw)with
  | .c (.mp b),.c (.f k),aa v=>match g b with
   | some (.map A)=>if isKey q k then(oZ q k v A).map fun A=>(.top,.set b (.map A))else ab
   | _=>ab
  | _,_,_=>ab
 | .dI sz bytes zs l c=>match gD (l.ev aw),gD (c.ev aw)with
  | some l,aa c=>
   if 0≤l∧l≤c∧bP c.toNat bytes=ae∧zs.length=sz then
    (if c=0 then aa (.c (.f .es),.no)else
    aa (.c (.sl d 0 l.toNat c.toNat 0 sz),.push (.box ((cu c.toNat zs).map .f) 0)))
   else ab
  | _,_=>ab
 | .slice sz x lo hi mx=>(sa g sz (x.ev aw) (lo.map (·.ev aw)) (hi.map (·.ev aw)) (mx.map (·.ev aw))).map (·,.no)| .lY n sz x lo hi mx=>(yg g n sz (x.ev aw) (lo.map (·.ev aw)) (hi.map (·.ev aw)) (mx.map (·.ev aw))).map (·,.no)| .mZ x lo hi=>(uh (x.ev aw) (lo.map (·.ev aw)) (hi.map (·.ev aw))).map (·,.no)| .aQ off x=>(iD off (x.ev aw)).map (·,.no)| .field off n x=>(jx off n (x.ev aw)).map (·,.no)| .bC sz u x i=>(tp g sz u (x.ev aw) (i.ev aw)).map (·,.no)| .idxs x i=>(zS (x.ev aw) (i.ev aw)).map (·,.no)| .uT len sz n x i=>(zR len sz n (x.ev aw) (i.ev aw)).map (·,.no)
 | .range x=>match x.ev aw with
  | .c (.f (.str s))=>aa (.c (.it d),.push (.it s 0))| _=>ab
 | .next x=>Cu g (x.ev aw)
 | .extract x i=>match x.ev aw with
  | .t E=>(E[i]?).map (·,.no)| _=>ab
 | .mM n=>aa (.int .i64 n,.no)
 | .lens x=>match x.ev aw with
  | .c (.f (.str s))=>aa (.int .i64 (s.size:Nat),.no)| _=>ab
 | .len x=>match x.ev aw with
  | .c y=>match qN g y with
   | some n=>aa (.int .i64 (n:Nat),.no)| none=>ab
  | _=>ab
 | .append sz bytes x y=>sH g d sz bytes (x.ev aw) (y.ev aw)| .copy sz x y=>BM g sz (x.ev aw) (y.ev aw)| .gb lo xs=>(uX lo (dm aw xs)).map (·,.no)| .clear sz zs x=>(xv g sz zs (x.ev aw)).map (.t [],·)| .fq sz zs n ps=>((dw aw ((cu n zs).map .f) (ps.map fun p=>(p.1*sz,sz,p.2))).bind fun cs=>if n=0 then ab else fcL cs).map fun B=>(.c (.f (.fs B n)),.no)
 | .ue sz x hi mx=>CW g sz (x.ev aw) (hi.ev aw) (mx.ev aw)| .ka sz bytes zs x n=>BF g d sz bytes zs (x.ev aw) (n.ev aw)| .jB x=>tT g d (x.ev aw)| .mX x=>xT g (x.ev aw)| .entry x=>(xz g (x.ev aw)).map (·,.no)| .lJ f xs=>(bg lk (dm aw xs)).map fun xs=>(.c (.bm f xs),.no)
 | .cap x=>match x.ev aw with
  | .c y=>match CT g y with
   | some n=>aa (.int .i64 (n:Nat),.no)| none=>ab
  | _=>ab
 | _=>ab
def gt(H:aj):Nat→Option bo:=fun b=>H[b]?
theorem zx(H:aj):sL (gt H)=aF H:=by funext x;unfold sL aF gt;rfl
theorem af6(H:aj):akr (gt H)=aU H:=by funext n x;unfold akr aU;rw [zx];rfl
theorem mD(H:aj):qN (gt H)=bu H:=by funext x;unfold qN bu gt;rfl
theorem rr(H:aj):pA (gt H)=cK H:=by funext n x;unfold pA cK gt;rfl
theorem Nj(H:aj):qD (gt H)=isNil H:=by funext k x;unfold qD isNil gt;rfl
theorem afE(H:aj):aj3 (gt H)=BS H:=by funext k x y;unfold aj3 BS;rw [Nj];rfl
theorem uf(H:aj):sa (gt H)=eo H:=by funext n x a b c;unfold sa eo gt;rfl
theorem CU(H:aj):yg (gt H)=jD H:=by funext m n x a b c;unfold yg jD gt;rfl
theorem zU(H:aj):tp (gt H)=bA H:=by funext n a x i;unfold tp bA gt;rfl
theorem Ad(H:aj):tt (gt H)=fG H:=by funext k z x y;unfold tt fG gt;rfl
theorem MT(H:aj):BN (gt H)=mU H:=by funext x;unfold BN mU;rw [mD,rr];rfl
theorem nb(H:aj):nT (gt H)=cO H:=by funext n x;unfold nT cO;rw [mD,rr];rfl
theorem NX(H:aj):CT (gt H)=iv H:=by funext x;unfold CT iv gt;rfl
theorem BP(H:aj):xz (gt H)=kd H:=by funext x;unfold xz kd gt;rfl
def iS(H:aj)(r:Option (V × zf)):Option (V × aj):=r.map fun r=>(r.1,r.2.app H)
theorem yh(H:aj)(x:C)(xs:List C):(aaw (gt H) x xs).map (·.app H)=cZ H x xs:=by
 cases x with
 | ptr b off ep=>
  simp only [aaw,cZ,gt];cases h:H[b]? with
  | none=>rfl
  | some bj=>
   cases bj with
   | box cs fl=>simp only;split<;>rfl
   | bT sz cs fl e st=>cases st<;>simp only<;>first | rfl | (split<;>rfl)
   | _=>rfl
 | _=>rfl
theorem NA(H:aj)(x:V):iS H (Cu (gt H) x)=D5 H x:=by
 cases x with
 | c x=>
  cases x with
  | it b=>
   simp only [Cu,D5,gt,iS];cases h:H[b]? with
   | none=>rfl
   | some bj=>
    cases bj with
    | it s pos=>simp only;split<;>rfl
    | _=>rfl
  | _=>rfl
 | _=>rfl
theorem MS(H:aj)(sz:Nat)(x y:V):iS H (BM (gt H) sz x y)=copyV H sz x y:=by
 unfold BM copyV iS;rw [nb];cases d:cO H sz y with
 | none=>rfl
 | some r=>
  obtain⟨m,ys⟩:=r;cases x with
  | c x=>
   cases x with
   | f x=>cases x<;>rfl
   | sl b o l cap ep s=>
    simp only [gt];cases h:H[b]? with
    | none=>rfl
    | some bj=>
     cases bj with
     | box cs fl=>simp only;split<;>rfl
     | bT sz cs fl e st=>cases st<;>simp only<;>first | rfl | (split<;>rfl)
     | _=>rfl
   | _=>rfl
  | _=>rfl
theorem zo(H:aj)(sz bytes:Nat)(x y:V):iS H (sH (gt H) H.length sz bytes x y)=cz H sz bytes x y:=by
 unfold sH cz iS;rw [nb];cases d:cO H sz y with
 | none=>rfl
 | some r=>
  obtain⟨m,ys⟩:=r;simp only;by_cases h0:sz=0
  ·simp [h0]
  ·simp only [h0,if_false];cases x with
   | c x=>
    cases x with
    | f x=>cases x<;>first | rfl | (simp only;repeat' (first | rfl | split))
    | sl b o l cap ep s=>
     simp only [gt];cases h:H[b]? with
     | none=>rfl
     | some bj=>
      cases bj with
      | box cs fl=>simp only;repeat' (first | rfl | split)
      | bT sz cs fl e st=>simp only;repeat' (first | rfl | split)
      | _=>rfl
    | _=>rfl
   | _=>rfl
theorem BI(H:aj)(sz:Nat)(zs:List FC)(x:V):(xv (gt H) sz zs x).map (·.app H)=nk H sz zs x:=by
 unfold xv nk;cases x with
 | c y=>
  simp only [mD];cases bu H y with
  | none=>rfl
  | some l=>
   cases l with
   | zero=>rfl
   | succ l=>
    simp only;split
    ·cases y with
     | sl b o l' c ep s=>
      simp only [gt];cases h:H[b]? with
      | none=>rfl
      | some bj=>
       cases bj with
       | box cs fl=>exact yh H _ _
       | bT s' cs fl e st=>
        cases st<;>simp only<;>first | rfl | skip
        split
        ·exact yh H _ _
        ·rfl
       | _=>rfl
     | _=>rfl
    ·rfl
 | _=>rfl
theorem Mq(H:aj)(sz bytes:Nat)(zs:List FC)(x n:V):iS H (BF (gt H) H.length sz bytes zs x n)=sI H sz bytes zs x n:=by
 unfold BF sI iS;cases gD n with
 | none=>rfl
 | some n=>
  simp only;split
  ·cases x with
   | c x=>
    cases x with
    | f x=>cases x<;>first | rfl | (simp only;repeat' (first | rfl | split))
    | _=>rfl
   | _=>rfl
  ·rfl
theorem N0(H:aj)(sz:Nat)(x hi mx:V):iS H (CW (gt H) sz x hi mx)=AS H sz x hi mx:=by
 unfold CW AS iS;rw [uf];cases eo H sz x ab (aa hi) (aa mx)with
 | some v=>rfl
 | none=>
  simp only;cases x with
  | c x=>
   cases x with
   | sl b o n c ep s=>
    simp only [gt];cases H[b]? with
    | none=>rfl
    | some bj=>
     cases bj with
     | bT s' cs fl e st=>
      cases st<;>simp only<;>first | rfl | skip
      split
      ·cases Be hi n<;>cases Be mx n<;>simp only<;>first | rfl | skip
       split
       ·cases bg fcC (List.take _ cs)<;>rfl
       ·rfl
      ·rfl
     | _=>rfl
   | _=>rfl
  | _=>rfl
theorem Cw(H:aj)(x:V):iS H (xT (gt H) x)=xS H x:=by
 cases x with
 | c x=>
  cases x with
  | mi b=>
   simp only [xT,xS,gt,iS];cases h:H[b]? with
   | none=>rfl
   | some bj=>
    cases bj with
    | uL m g done=>
     simp only;cases l:H[m]? with
     | none=>rfl
     | some d=>
      cases d with
      | map j=>
       match j with
       | []=>simp only;split<;>rfl
       | [e]=>simp only;repeat' (first | rfl | split)
       | _::_::_=>rfl
      | _=>rfl
    | _=>rfl
  | _=>rfl
 | _=>rfl
theorem AE(H:aj)(x:V):iS H (tT (gt H) H.length x)=rW H x:=by
 cases x with
 | c x=>
  cases x with
  | mp b=>
   simp only [tT,rW,gt,iS];cases h:H[b]? with
   | none=>rfl
   | some bj=>
    cases bj with
    | map d=>simp only;split<;>rfl
    | _=>rfl
  | _=>rfl
 | _=>rfl
theorem Dr{H:aj}(o:Option V):iS H (o.map (·,.no))=o.map (·,H):=by cases o<;>rfl
theorem yv(aw:T)(H:aj)(op:cQ):iS H (aaW aw (gt H) H.length op)=bl aw H op:=by
 cases op<;>simp only [aaW,bl,Dr,af6,uf,CU,zU,Ad,MT,zo,MS,NA,Mq,N0,Cw,AE,BP]
 all_goals first | rfl | skip
 case pre o sz=>split<;>rfl
 case pick c a b=>
  generalize c.ev aw=v;cases v<;>try rfl
  rename_i x;cases x<;>try rfl
  rename_i x;cases x<;>rfl
 case box x=>generalize (x.ev aw).cells?=o;cases o<;>rfl
 case build zs ps=>cases dw aw (zs.map .f) ps<;>rfl
 case bE sz zs n ps=>
  split
  ·split<;>rfl
  ·simp only [iS,arY];rfl
 case fq sz zs n ps=>
  generalize (dw aw ((cu n zs).map .f) (ps.map fun p=>(p.1*sz,sz,p.2))).bind (fun cs=>if n=0 then ab else fcL cs)=o;cases o<;>rfl
 case store n x y=>
  generalize x.ev aw=v;generalize (y.ev aw).cells?=o;cases v<;>cases o<;>try rfl
  simp only;split
  ·rw [←yh];simp only [iS,arY];rfl
  ·rfl
 case bV x=>
  generalize x.ev aw=v;cases v<;>try rfl
  rename_i x;cases x<;>try rfl
  rename_i x;cases x<;>rfl
 case eq neg k x y=>rw [afE];simp only [iS,arY];rfl
 case eS k x=>
  generalize x.ev aw=v;cases v<;>try rfl
  rename_i x;cases x<;>try rfl
  rename_i x;cases x<;>rfl
 case uR x=>
  generalize x.ev aw=v;cases v<;>try rfl
  rename_i x;cases x<;>try rfl
  rename_i x;cases x<;>rfl
 case BO x=>
  generalize x.ev aw=v;cases v<;>try rfl
  rename_i x;cases x<;>try rfl
  rename_i x;cases x<;>try rfl
  simp only;split<;>rfl
 case fB f d=>simp only [iS,arY];rfl
 case iu g m k v=>
  generalize m.ev aw=m;generalize k.ev aw=k;generalize nX (v.ev aw)=v;cases m<;>try rfl
  rename_i m;cases m<;>try rfl
  cases k<;>try rfl
  rename_i k;cases k<;>try rfl
  cases v<;>try rfl
  simp only [gt];rename_i b k v;cases H[b]? with
  | none=>rfl
  | some bj=>
   cases bj<;>try rfl
   simp only;split
   ·simp only [iS,arY];rfl
   ·rfl
 case dI sz bytes zs l c=>
  generalize gD (l.ev aw)=l;generalize gD (c.ev aw)=c;cases l<;>cases c<;>try rfl
  simp only;split
  ·split<;>rfl
  ·rfl
 case range x=>
  generalize x.ev aw=v;cases v<;>try rfl
  rename_i x;cases x<;>try rfl
  rename_i x;cases x<;>rfl
 case extract x i=>
  generalize x.ev aw=v;cases v<;>try rfl
  simp only [Dr]
 case len x=>
  generalize x.ev aw=v;cases v<;>try rfl
  rw [mD];simp only;rename_i y;cases bu H y<;>rfl
 case lens x=>
  generalize x.ev aw=v;cases v<;>try rfl
  rename_i x;cases x<;>try rfl
  rename_i x;cases x<;>rfl
 case clear sz zs x=>rw [←BI];simp only [iS,arY];rfl
 case lJ f d=>simp only [iS,arY];rfl
 case cap x=>
  generalize x.ev aw=v;cases v<;>try rfl
  rw [NX];simp only;rename_i y;cases iv H y<;>rfl
section
set_option linter.unusedVariables false
inductive BT(α:Type) where
 | e
 | n (l:BT α) (x:α) (r:BT α)
def BT.get{d:Type}:BT d→Nat→Option d
 | .e,_=>ab
 | .n l x r,b=>match b with
  | 0=>aa x| m+1=>if m % 2=0 then l.get (m / 2)else r.get (m / 2)
abbrev HT:=BT bo
def gu{j:Type}(b:Nat)(t:BT j)(k:j→Prop):Prop:=
 BT.rec (motive:=fun _=>Nat→Prop) (fun _=>False)
  (fun _ x _ d g b=>Nat.rec (motive:=fun _=>Prop) (k x) (fun m _=>Nat.rec (motive:=fun _=>Prop) (d (Nat.div m 2)) (fun _ _=>g (Nat.div m 2)) (Nat.mod m 2)) b) t b
def fZ{d:Type}(x:d)(t:BT d):Nat→(BT d→Prop)→Prop:=
 BT.rec (motive:=fun _=>Nat→(BT d→Prop)→Prop) (fun _ _=>False)
  (fun l y r g j b k=>Nat.rec (motive:=fun _=>Prop) (k (.n l x r))
   (fun m _=>Nat.rec (motive:=fun _=>Prop) (g (Nat.div m 2) fun l'=>k (.n l' y r)) (fun _ _=>j (Nat.div m 2) fun r'=>k (.n l y r')) (Nat.mod m 2)) b) t
def xp{d:Type}(x:d)(t:BT d):Nat→(BT d→Prop)→Prop:=
 BT.rec (motive:=fun _=>Nat→(BT d→Prop)→Prop) (fun b k=>Nat.rec (motive:=fun _=>Prop) (k (.n .e x .e)) (fun _ _=>False) b)
  (fun l y r g j b k=>Nat.rec (motive:=fun _=>Prop) False
   (fun m _=>Nat.rec (motive:=fun _=>Prop) (g (Nat.div m 2) fun l'=>k (.n l' y r)) (fun _ _=>j (Nat.div m 2) fun r'=>k (.n l y r')) (Nat.mod m 2)) b) t
theorem ZC(m:Nat):m % 2=0∨m % 2=1:=by omega
theorem dD{u:Type}{t:BT u}:∀ {b:Nat} {k:u→Prop},gu b t k→∃ x,t.get b=aa x∧k x:=by
 induction t with
 | e=>intro b k h;exact h.elim
 | n l x r q s=>
  intro b k h;cases b with
  | zero=>exact⟨x,rfl,h⟩
  | succ m=>
   have j:Nat.rec (motive:=fun _=>Prop) (gu (m / 2) l k) (fun _ _=>gu (m / 2) r k) (m % 2):=h;rcases ZC m with e | e<;>rw [e]at j
   ·obtain⟨y,d,g⟩:=q j;exact⟨y,by simp [BT.get,e,d],g⟩
   ·obtain⟨y,d,g⟩:=s j;exact⟨y,by simp [BT.get,e,d],g⟩
def mS{d:Type}(t g:BT d)(b:Nat)(x:d):Prop:=∀ i,g.get i=if i=b then aa x else t.get i
theorem mS.left{d:Type}{l l' r:BT d}{y x:d}{m:Nat}(e:m % 2=0)(h:mS l l' (m / 2) x):mS (.n l y r) (.n l' y r) (m+1) x:=by
 intro i;cases i with
 | zero=>simp [BT.get]
 | succ j=>
  simp only [BT.get,h (j / 2)];rcases ZC j with b | b
  ·have:(j / 2=m / 2)↔(j=m):=by omega
   simp [b,this]
  ·have:j≠m:=by omega
   simp [b,this]
theorem mS.right{d:Type}{l r' r:BT d}{y x:d}{m:Nat}(e:m % 2=1)(h:mS r r' (m / 2) x):mS (.n l y r) (.n l y r') (m+1) x:=by
 intro i;cases i with
 | zero=>simp [BT.get]
 | succ j=>
  simp only [BT.get,h (j / 2)];rcases ZC j with b | b
  ·have:j≠m:=by omega
   simp [b,this]
  ·have:(j / 2=m / 2)↔(j=m):=by omega
   simp [b,this]
theorem Ym{v:Type}{x:v}{t:BT v}:∀ {b:Nat} {k:BT v→Prop},fZ x t b k→∃ A,mS t A b x∧(∃ y,t.get b=aa y)∧k A:=by
 induction t with
 | e=>intro b k h;exact h.elim
 | n l y r s u=>
  intro b k h;cases b with
  | zero=>
   refine⟨.n l x r,fun i=>?_,⟨y,rfl⟩,h⟩;cases i<;>simp [BT.get]
  | succ m=>
   have q:Nat.rec (motive:=fun _=>Prop) (fZ x l (m / 2) fun l'=>k (.n l' y r)) (fun _ _=>fZ x r (m / 2) fun r'=>k (.n l y r')) (m % 2):=h;rcases ZC m with e | e<;>rw [e]at q
   ·obtain⟨l',d,⟨z,g⟩,j⟩:=s q;exact⟨_,d.left e,⟨z,by simp [BT.get,e,g]⟩,j⟩
   ·obtain⟨l',d,⟨z,g⟩,j⟩:=u q;exact⟨_,d.right e,⟨z,by simp [BT.get,e,g]⟩,j⟩
theorem Ms{u:Type}{x:u}{t:BT u}:∀ {b:Nat} {k:BT u→Prop},xp x t b k→∃ v,mS t v b x∧k v:=by
 induction t with
 | e=>
  intro b k h;cases b with
  | zero=>
   refine⟨.n .e x .e,fun i=>?_,h⟩;cases i<;>simp [BT.get]
  | succ m=>exact h.elim
 | n l y r q s=>
  intro b k h;cases b with
  | zero=>exact h.elim
  | succ m=>
   have j:Nat.rec (motive:=fun _=>Prop) (xp x l (m / 2) fun l'=>k (.n l' y r)) (fun _ _=>xp x r (m / 2) fun r'=>k (.n l y r')) (m % 2):=h;rcases ZC m with e | e<;>rw [e]at j
   ·obtain⟨l',d,g⟩:=q j;exact⟨_,d.left e,g⟩
   ·obtain⟨l',d,g⟩:=s j;exact⟨_,d.right e,g⟩
def cT(H:aj)(t:HT):Prop:=t.get=gt H
theorem cT.nil:cT [] .e:=by funext b;simp [BT.get,gt]
theorem cT.set{H:aj}{t g:HT}(h:cT H t){b:Nat}{x:bo}(l:mS t g b x)(j:∃ y,t.get b=aa y):cT (H.set b x) g:=by
 funext i;obtain⟨y,hy⟩:=j;rw [h]at hy;have d:b<H.length:=(BY.1 hy).1;rw [l i,h];simp only [gt];by_cases e:i=b
 ·subst e;simp [d]
 ·simp [e,AI (Ne.symm e)]
theorem cT.push{H:aj}{t b:HT}(h:cT H t){x:bo}(d:mS t b H.length x):cT (H++[x]) b:=by
 funext i;rw [d i,h];simp only [gt];by_cases e:i=H.length
 ·subst e;simp
 ·by_cases hi:i<H.length
  ·simp [e,List.getElem?_append_left hi]
  ·rw [IS (by omega)];have:i-H.length≠0:=by omega
   simp [e,arp (l:=H) (i:=i) (by omega),this]
def bZ(n:Nat)(k:Nat→Prop):Prop:=Nat.rec (motive:=fun _=>Prop) (k 0) (fun m _=>k (Nat.succ m)) n
def qd(n:Int)(k:Int→Prop):Prop:=Int.rec (motive:=fun _=>Prop) (fun n=>bZ n fun n=>k (.ofNat n)) (fun n=>bZ n fun n=>k (.negSucc n)) n
def lB(b:Bool)(k:Bool→Prop):Prop:=Bool.rec (motive:=fun _=>Prop) (k ag) (k ae) b
theorem cj(n:Nat)(k:Nat→Prop):bZ n k=k n:=by cases n<;>rfl
theorem vZ(n:Int)(k:Int→Prop):qd n k=k n:=by cases n<;>simp only [qd,cj]
theorem gB(b:Bool)(k:Bool→Prop):lB b k=k b:=by cases b<;>rfl
def BZ(x:FC)(k:FC→Prop):Prop:=match x with
 | .bool b=>lB b fun b=>k (.bool b)
 | .int j n=>qd n fun n=>k (.int j n)
 | .fp cs o=>bZ o fun o=>k (.fp cs o)
 | .fs cs l=>bZ l fun l=>k (.fs cs l)
 | x=>k x
theorem M6(x:FC)(k:FC→Prop):BZ x k=k x:=by cases x<;>simp only [BZ,cj,vZ,gB]
def qa(x:C)(k:C→Prop):Prop:=match x with
 | .f x=>BZ x fun x=>k (.f x)
 | .ptr b o e=>bZ b fun b=>bZ o fun o=>bZ e fun e=>k (.ptr b o e)
 | .sl b o l c e s=>bZ b fun b=>bZ o fun o=>bZ l fun l=>bZ c fun c=>bZ e fun e=>bZ s fun s=>k (.sl b o l c e s)
 | x=>k x
theorem qc(x:C)(k:C→Prop):qa x k=k x:=by cases x<;>simp only [qa,cj,M6]
def lD(xs:List C):(List C→Prop)→Prop:=
 List.rec (motive:=fun _=>(List C→Prop)→Prop) (fun k=>k []) (fun x _ b k=>qa x fun x=>b fun xs=>k (x::xs)) xs
theorem jI:∀(xs:List C) (k:List C→Prop),lD xs k=k xs
 | [],k=>rfl
 | x::xs,k=>by
  show qa x (fun x=>lD xs fun xs=>k (x::xs))=_;rw [qc,jI xs]
def rR(v:V)(k:V→Prop):Prop:=match v with
 | .c x=>qa x fun x=>k (.c x)
 | .a xs=>lD xs fun xs=>k (.a xs)
 | v=>k v
theorem B0(v:V)(k:V→Prop):rR v k=k v:=by cases v<;>simp only [rR,qc,jI]
def xF(xs:List V):(List V→Prop)→Prop:=
 List.rec (motive:=fun _=>(List V→Prop)→Prop) (fun k=>k []) (fun x _ b k=>rR x fun x=>b fun xs=>k (x::xs)) xs
theorem ti:∀(xs:List V) (k:List V→Prop),xF xs k=k xs
 | [],k=>rfl
 | x::xs,k=>by
  show rR x (fun x=>xF xs fun xs=>k (x::xs))=_;rw [B0,ti xs]
def kg(v:V)(k:V→Prop):Prop:=match v with
 | .c x=>qa x fun x=>k (.c x)
 | .a xs=>lD xs fun xs=>k (.a xs)
 | .t b=>xF b fun b=>k (.t b)
 | .top=>k .top
theorem qe(v:V)(k:V→Prop):kg v k=k v:=by cases v<;>simp only [kg,qc,jI,ti]
def qf(x:bo)(k:bo→Prop):Prop:=match x with
 | .box cs fl=>lD cs fun cs=>bZ fl fun fl=>k (.box cs fl)
 | .bT sz cs fl e st=>lD cs fun cs=>bZ fl fun fl=>bZ e fun e=>k (.bT sz cs fl e st)
 | .it s p=>bZ p fun p=>k (.it s p)
 | x=>k x
theorem wc(x:bo)(k:bo→Prop):qf x k=k x:=by cases x<;>simp only [qf,cj,jI]
def zO(p:P):T→(V→Prop)→Prop:=
 P.rec (motive:=fun _=>T→(V→Prop)→Prop)
  (fun t k=>T.rec (motive:=fun _=>Prop) (k .top) (fun _ v _ _ _=>k v) t)
  (fun _ b t k=>T.rec (motive:=fun _=>Prop) (k .top) (fun l _ _ _ _=>b l k) t)
  (fun _ b t k=>T.rec (motive:=fun _=>Prop) (k .top) (fun _ _ r _ _=>b r k) t) p
theorem mu:∀(p:P) (t:T) (k:V→Prop),zO p t k=k (t.get p)
 | .h,.e,k=>rfl| .h,.n _ _ _,k=>rfl| .o p,.e,k=>rfl| .o p,.n l _ _,k=>mu p l k| .i p,.e,k=>rfl| .i p,.n _ _ r,k=>mu p r k
def ags(p:P)(w:V):T→(T→Prop)→Prop:=
 P.rec (motive:=fun _=>T→(T→Prop)→Prop)
  (fun t k=>T.rec (motive:=fun _=>Prop) (k (.n .e w .e)) (fun l _ r _ _=>k (.n l w r)) t)
  (fun _ b t k=>T.rec (motive:=fun _=>Prop) (b .e fun l=>k (.n l .top .e)) (fun l v r _ _=>b l fun l=>k (.n l v r)) t)
  (fun _ b t k=>T.rec (motive:=fun _=>Prop) (b .e fun r=>k (.n .e .top r)) (fun l v r _ _=>b r fun r=>k (.n l v r)) t) p
theorem mC(w:V):∀(p:P) (t:T) (k:T→Prop),ags p w t k=k (t.set p w)
 | .h,.e,k=>rfl| .h,.n _ _ _,k=>rfl| .o p,.e,k=>mC w p .e _| .o p,.n l _ _,k=>mC w p l _| .i p,.e,k=>mC w p .e _| .i p,.n _ _ r,k=>mC w p r _
def ob(x:Arg)(r:T)(k:V→Prop):Prop:=Arg.rec (motive:=fun _=>Prop) (fun p=>zO p r k) (fun v=>k v) x
theorem di(x:Arg)(r:T)(k:V→Prop):ob x r k=k (x.ev r):=by cases x;exact mu _ _ _;rfl
def zq(xs:List Arg)(r:T):(List V→Prop)→Prop:=
 List.rec (motive:=fun _=>(List V→Prop)→Prop) (fun k=>k []) (fun x _ b k=>ob x r fun v=>b fun d=>k (v::d)) xs
theorem nV(r:T):∀(xs:List Arg) (k:List V→Prop),zq xs r k=k (dm r xs)
 | [],k=>rfl
 | x::xs,k=>by
  show ob x r (fun v=>zq xs r fun b=>k (v::b))=_;rw [di,nV r xs];rfl
def akS(d:Option P)(r:T)(v:V)(k:T→Prop):Prop:=Option.rec (motive:=fun _=>Prop) (k r) (fun d=>ags d v r k) d
theorem Ea(d:Option P)(r:T)(v:V)(k:T→Prop):akS d r v k=k (ja r d v):=by cases d;rfl;exact mC _ _ _ _
def rZ(ps:List P):List V→T→(T→Prop)→Prop:=
 List.rec (motive:=fun _=>List V→T→(T→Prop)→Prop) (fun _ r k=>k r)
  (fun p _ d b r k=>List.rec (motive:=fun _=>Prop) (k r) (fun v b _=>ags p v r fun r=>d b r k) b) ps
theorem nC:∀(ps:List P) (b:List V) (r:T) (k:T→Prop),rZ ps b r k=k (cE ps b r)
 | [],b,r,k=>by cases b<;>rfl
 | p::ps,[],r,k=>rfl
 | p::ps,v::b,r,k=>by
  show ags p v r (fun r=>rZ ps b r k)=_;rw [mC,nC ps];rfl
def agl{b:Type}(n:Nat):List b→(b→Prop)→Prop:=
 Nat.rec (motive:=fun _=>List b→(b→Prop)→Prop) (fun xs k=>List.rec (motive:=fun _=>Prop) False (fun x _ _=>k x) xs)
  (fun _ d xs k=>List.rec (motive:=fun _=>Prop) False (fun _ xs _=>d xs k) xs) n
theorem rV{b:Type}:∀ {n:Nat} {xs:List b} {k:b→Prop},agl n xs k→∃ x,xs[n]?=aa x∧k x
 | 0,[],_,h=>h.elim| 0,x::_,_,h=>⟨x,rfl,h⟩| n+1,[],_,h=>h.elim| n+1,_::xs,k,h=>rV (n:=n) (xs:=xs) (k:=k) h
def sV{b:Type}(n:Nat):List b→(List b→Prop)→Prop:=
 Nat.rec (motive:=fun _=>List b→(List b→Prop)→Prop) (fun xs k=>k xs)
  (fun _ d xs k=>List.rec (motive:=fun _=>Prop) (k []) (fun _ xs _=>d xs k) xs) n
theorem lq{b:Type}:∀(n:Nat) (xs:List b) (k:List b→Prop),sV n xs k=k (xs.drop n)
 | 0,xs,k=>rfl| n+1,[],k=>rfl| n+1,_::xs,k=>lq n xs k
def pZ{b:Type}(n:Nat):List b→(List b→Prop)→Prop:=
 Nat.rec (motive:=fun _=>List b→(List b→Prop)→Prop) (fun xs k=>k xs)
  (fun _ d xs k=>List.rec (motive:=fun _=>Prop) False (fun _ xs _=>d xs k) xs) n
theorem iO{b:Type}:∀ {n:Nat} {xs:List b} {k:List b→Prop},pZ n xs k→n≤xs.length∧k (xs.drop n)
 | 0,xs,k,h=>⟨by simp,h⟩
 | n+1,[],k,h=>h.elim
 | n+1,x::xs,k,h=>by
  obtain⟨g,d⟩:=iO (n:=n) (xs:=xs) (k:=k) h;exact⟨by simp;omega,d⟩
def kM{b:Type}(n:Nat):List b→(List b→Prop)→Prop:=
 Nat.rec (motive:=fun _=>List b→(List b→Prop)→Prop) (fun _ k=>k [])
  (fun _ d xs k=>List.rec (motive:=fun _=>Prop) False (fun x xs _=>d xs fun ys=>k (x::ys)) xs) n
theorem fD{b:Type}:∀ {n:Nat} {xs:List b} {k:List b→Prop},kM n xs k→n≤xs.length∧k (xs.take n)
 | 0,xs,k,h=>⟨by simp,by have d:k []:=h;simpa using d⟩
 | n+1,[],k,h=>h.elim
 | n+1,x::xs,k,h=>by
  obtain⟨j,g⟩:=fD (n:=n) (xs:=xs) (k:=fun ys=>k (x::ys)) h;exact⟨by simp;omega,by simpa using g⟩
def ant{b:Type}(xs:List b):List b→(List b→Prop)→Prop:=
 List.rec (motive:=fun _=>List b→(List b→Prop)→Prop) (fun cs k=>k cs)
  (fun x _ d cs k=>List.rec (motive:=fun _=>Prop) False (fun _ cs _=>d cs fun ys=>k (x::ys)) cs) xs
theorem DY{b:Type}:∀ {xs cs:List b} {k:List b→Prop},ant xs cs k→xs.length≤cs.length∧k (xs++cs.drop xs.length)
 | [],cs,k,h=>⟨by simp,by have d:k cs:=h;simpa using d⟩
 | x::xs,[],k,h=>h.elim
 | x::xs,c::cs,k,h=>by
  obtain⟨j,g⟩:=DY (xs:=xs) (cs:=cs) (k:=fun ys=>k (x::ys)) h;exact⟨by simp;omega,by simpa using g⟩
def tM{b:Type}(xs:List b)(off:Nat):List b→(List b→Prop)→Prop:=
 Nat.rec (motive:=fun _=>List b→(List b→Prop)→Prop) (fun cs k=>ant xs cs k)
  (fun _ d cs k=>List.rec (motive:=fun _=>Prop) False (fun c cs _=>d cs fun ys=>k (c::ys)) cs) off
theorem jR{d:Type}{xs:List d}:∀ {off:Nat} {cs:List d} {k:List d→Prop},tM xs off cs k→off+xs.length≤cs.length∧k (over cs off xs)
 | 0,cs,k,h=>by
  obtain⟨g,b⟩:=DY (xs:=xs) (cs:=cs) (k:=k) h;exact⟨by omega,by simpa [over]using b⟩
 | n+1,[],k,h=>h.elim
 | n+1,c::cs,k,h=>by
  obtain⟨g,b⟩:=jR (off:=n) (cs:=cs) (k:=fun ys=>k (c::ys)) h;refine⟨by simp;omega,?_⟩;have:n+1+xs.length=(n+xs.length)+1:=by omega
  simpa [over,this]using b
def ajX{b:Type}(xs ys:List b):(List b→Prop)→Prop:=
 List.rec (motive:=fun _=>(List b→Prop)→Prop) (fun k=>k ys) (fun x _ d k=>d fun zs=>k (x::zs)) xs
theorem xu{b:Type}(ys:List b):∀(xs:List b) (k:List b→Prop),ajX xs ys k=k (xs++ys)
 | [],k=>rfl| x::xs,k=>xu ys xs fun zs=>k (x::zs)
def fzK(zs:List FC):(List C→Prop)→Prop:=
 List.rec (motive:=fun _=>(List C→Prop)→Prop) (fun k=>k []) (fun z _ b k=>b fun cs=>k (.f z::cs)) zs
theorem qh:∀(zs:List FC) (k:List C→Prop),fzK zs k=k (zs.map .f)
 | [],k=>rfl| z::zs,k=>qh zs fun cs=>k (.f z::cs)
def ltB:Int→Int→Bool
 | .ofNat a,.ofNat b=>Nat.ble (Nat.succ a) b| .ofNat _,.negSucc _=>ag| .negSucc _,.ofNat _=>ae| .negSucc a,.negSucc b=>Nat.ble (Nat.succ b) a
theorem xP(x y:Int):ltB x y=decide (x<y):=by
 have e:∀ n:Nat,Int.ofNat n=(n:Int):=fun _=>rfl;cases x<;>cases y<;>simp only [ltB]<;>rw [ary]<;>simp only [Nat.ble_eq,decide_eq_true_eq,aqw,false_iff,true_iff,e,Nat.succ_eq_add_one]<;>omega
def YN:Int→Int→Bool
 | .ofNat a,.ofNat b=>Nat.beq a b| .negSucc a,.negSucc b=>Nat.beq a b| _,_=>ag
theorem YO(x y:Int):YN x y=(x == y):=by
 have e:∀ n:Nat,Int.ofNat n=(n:Int):=fun _=>rfl;cases x<;>cases y<;>simp only [YN]<;>rw [ary]<;>simp only [Nat.beq_eq,beq_iff_eq,aqw,false_iff,e]<;>omega
def wV(j:IntKind)(n:Int)(k:Int→Prop):Prop:=match j with
 | .i64=>Int.rec (motive:=fun _=>Prop)
   (fun n=>bZ n fun n=>Bool.rec (motive:=fun _=>Prop) (qd (IntKind.i64.wrap (.ofNat n)) k) (k (.ofNat n)) (Nat.ble n 9223372036854775807))
   (fun n=>bZ n fun n=>Bool.rec (motive:=fun _=>Prop) (qd (IntKind.i64.wrap (.negSucc n)) k) (k (.negSucc n)) (Nat.ble n 9223372036854775807)) n
 | j=>qd (j.wrap n) k
theorem wrap64_in{n:Int}(g:-9223372036854775808≤n)(j:n≤9223372036854775807):IntKind.i64.wrap n=n:=by
 simp only [IntKind.wrap,IntKind.bits,IntKind.signed];have b:(2 ^ 64:Int)=18446744073709551616:=by decide
 have d:(2 ^ (64-1):Int)=9223372036854775808:=by decide
 simp only [b,d,arb,decide_eq_true_eq];split<;>omega
theorem pG(j:IntKind)(n:Int)(k:Int→Prop):wV j n k=k (j.wrap n):=by
 cases j<;>simp only [wV,vZ];cases n with
 | ofNat n=>
  simp only [cj];cases h:Nat.ble n 9223372036854775807 with
  | false=>rfl
  | true=>
   have:=arT h;have e:Int.ofNat n=(n:Int):=rfl;rw [wrap64_in (by rw [e];omega) (by rw [e];omega)]
 | negSucc n=>
  simp only [cj];cases h:Nat.ble n 9223372036854775807 with
  | false=>rfl
  | true=>
   have:=arT h;rw [wrap64_in (by omega) (by omega)]
end
section
set_option linter.unusedVariables false
def gR(a b:Nat)(p:Prop):Prop:=Bool.rec (motive:=fun _=>Prop) False p (Nat.beq a b)
def rC(a b:Nat)(p:Prop):Prop:=Bool.rec (motive:=fun _=>Prop) False p (Nat.ble a b)
def mT(b:Bool)(p:Prop):Prop:=Bool.rec (motive:=fun _=>Prop) False p b
def pc{b:Type}(o:Option b)(k:b→Prop):Prop:=Option.rec (motive:=fun _=>Prop) False k o
theorem cW{a b:Nat}{p:Prop}(h:gR a b p):a=b∧p:=by
 unfold gR at h;cases e:Nat.beq a b with
 | false=>rw [e]at h;exact h.elim| true=>rw [e]at h;exact⟨arq e,h⟩
theorem gJ{a b:Nat}{p:Prop}(h:rC a b p):a≤b∧p:=by
 unfold rC at h;cases e:Nat.ble a b with
 | false=>rw [e]at h;exact h.elim| true=>rw [e]at h;exact⟨arT e,h⟩
theorem iU{b:Bool}{p:Prop}(h:mT b p):b=ae∧p:=by cases b;exact h.elim;exact⟨rfl,h⟩
theorem iH{b:Type}{o:Option b}{k:b→Prop}(h:pc o k):∃ x,o=aa x∧k x:=by cases o;exact h.elim;exact⟨_,rfl,h⟩
def mY(x:bo)(t:HT)(n:Nat)(k:HT→Nat→Prop):Prop:=xp x t n fun t=>bZ (Nat.succ n) fun n=>k t n
theorem gV{H:aj}{t:HT}(h:cT H t){x:bo}{k:HT→Nat→Prop}(j:mY x t H.length k):∃ b,cT (H++[x]) b∧k b (H++[x]).length:=by
 obtain⟨b,g,d⟩:=Ms j;rw [cj]at d;exact⟨b,h.push g,by simpa using d⟩
theorem dV{H:aj}{t:HT}(h:cT H t){b:Nat}{x:bo}{k:HT→Prop}(m:fZ x t b k):∃ d,cT (H.set b x) d∧k d:=by
 obtain⟨d,g,j,l⟩:=Ym m;exact⟨d,h.set g j,l⟩
def aj0(e:zf)(t:HT)(n:Nat)(k:HT→Nat→Prop):Prop:=
 zf.rec (motive:=fun _=>Prop) (k t n) (fun b x=>qf x fun x=>fZ x t b fun t=>k t n) (fun x=>qf x fun x=>mY x t n k) e
theorem afz{H:aj}{t:HT}(h:cT H t){e:zf}{k:HT→Nat→Prop}(d:aj0 e t H.length k):∃ g,cT (e.app H) g∧k g (e.app H).length:=by
 cases e with
 | no=>exact⟨t,h,d⟩
 | set b x=>
  have d:qf x fun x=>fZ x t b fun t=>k t H.length:=d;rw [wc]at d;obtain⟨g,j,l⟩:=dV h d;exact⟨g,j,by simpa [zf.app]using l⟩
 | push x=>
  have d:qf x fun x=>mY x t H.length k:=d;rw [wc]at d;exact gV h d
def anb(op:cQ)(r:T)(t:HT)(n:Nat)(k:V→HT→Nat→Prop):Prop:=
 pc (aaW r t.get n op) fun r=>Prod.rec (motive:=fun _=>Prop) (fun v e=>kg v fun v=>aj0 e t n (k v)) r
def OpS(op:cQ)(r:T)(m:HT→Nat→(V→HT→Nat→Prop)→Prop):Prop:=
 ∀(H:aj) (t:HT) (k:V→HT→Nat→Prop),cT H t→m t H.length k→∃ v H' b,bl r H op=aa (v,H')∧cT H' b∧k v b H'.length
theorem afN(op:cQ)(r:T):OpS op r (anb op r):=by
 intro H t k h l;obtain⟨⟨v,e⟩,d,b⟩:=iH l;have b:kg v fun v=>aj0 e t H.length (k v):=b;rw [qe]at b;obtain⟨m,g,j⟩:=afz h b;refine⟨v,e.app H,m,?_,g,j⟩;rw [h]at d;rw [←yv,d];rfl
def sN(v:V)(k:List C→Prop):Prop:=match v with
 | .c x=>k [x]| .a xs=>k xs| _=>False
theorem pY{v:V}{k:List C→Prop}(h:sN v k):∃ xs,v.cells?=aa xs∧k xs:=by
 cases v with
 | c x=>exact⟨_,rfl,h⟩| a xs=>exact⟨_,rfl,h⟩| _=>exact h.elim
def D9(n:Option Nat)(off:Nat)(cs:List C)(k:V→Prop):Prop:=
 Option.rec (motive:=fun _=>Prop) (agl off cs fun c=>k (.c c)) (fun m=>sV off cs fun cs=>kM m cs fun cs=>k (.a cs)) n
theorem tQ{n:Option Nat}{off:Nat}{cs:List C}{k:V→Prop}(h:D9 n off cs k):∃ v,aT n (cs.drop off)=aa v∧k v:=by
 cases n with
 | none=>
  obtain⟨c,b,d⟩:=rV h;refine⟨.c c,?_,d⟩;rw [←arU off,←aqB]at b;cases e:cs.drop off with
  | nil=>rw [e]at b;simp at b| cons y ys=>rw [e]at b;simp at b;subst b;rfl
 | some m=>
  have h:sV off cs fun cs=>kM m cs fun cs=>k (.a cs):=h;rw [lq]at h;obtain⟨b,d⟩:=fD h;exact⟨_,ba b,d⟩
def ZR(n:Option Nat)(off:Nat)(cs:List FC)(k:V→Prop):Prop:=
 Option.rec (motive:=fun _=>Prop) (agl off cs fun c=>k (.c (.f c))) (fun m=>sV off cs fun cs=>kM m cs fun cs=>fzK cs fun cs=>k (.a cs)) n
theorem NJ{n:Option Nat}{off:Nat}{cs:List FC}{k:V→Prop}(h:ZR n off cs k):∃ v,aT n ((cs.drop off).map .f)=aa v∧k v:=by
 cases n with
 | none=>
  obtain⟨c,b,d⟩:=rV h;refine⟨.c (.f c),?_,d⟩;rw [←arU off,←aqB]at b;cases e:cs.drop off with
  | nil=>rw [e]at b;simp at b| cons y ys=>rw [e]at b;simp at b;subst b;rfl
 | some m=>
  have h:sV off cs fun cs=>kM m cs fun cs=>fzK cs fun cs=>k (.a cs):=h;rw [lq]at h;obtain⟨b,d⟩:=fD h;rw [qh]at d;refine⟨_,ba (by simpa using b),?_⟩;rw [←List.map_take];exact d
def ldK(t:HT)(n:Option Nat)(x:V)(k:V→Prop):Prop:=match x with
 | .c (.ptr b off ep)=>gu b t fun bj=>match bj with
  | .box cs _=>D9 n off cs k| .bT _ cs _ e .loc=>gR ep e (D9 n off cs k)| _=>False
 | .c (.f (.fp cs off))=>ZR n off cs k| _=>False
theorem Zi{H:aj}{t:HT}(h:cT H t){n:Option Nat}{x:V}{k:V→Prop}(m:ldK t n x k):∃ v,aU H n x=aa v∧k v:=by
 unfold ldK at m;split at m
 ·rename_i b off ep;obtain⟨bj,g,d⟩:=dD m;rw [h]at g;have g:H[b]?=aa bj:=g;split at d
  ·obtain⟨v,j,l⟩:=tQ d;exact⟨v,by simp [aU,aF,g,j],l⟩
  ·obtain⟨q,d⟩:=cW d;obtain⟨v,j,l⟩:=tQ d;exact⟨v,by simp [aU,aF,g,j,q],l⟩
  ·exact d.elim
 ·obtain⟨v,j,l⟩:=NJ m;exact⟨v,by simp only [aU,aF,Option.bind_some,j],l⟩
 ·exact m.elim
def stK(t:HT)(x:C)(xs:List C)(k:HT→Prop):Prop:=match x with
 | .ptr b off ep=>gu b t fun bj=>match bj with
  | .box cs fl=>rC fl off (tM xs off cs fun cs=>fZ (.box cs fl) t b k)
  | .bT sz cs fl e .loc=>gR ep e (rC fl off (tM xs off cs fun cs=>fZ (.bT sz cs fl e .loc) t b k))
  | _=>False
 | _=>False
theorem ak9{H:aj}{t:HT}(h:cT H t){x:C}{xs:List C}{k:HT→Prop}(l:stK t x xs k):∃ H' g,cZ H x xs=aa H'∧cT H' g∧H'.length=H.length∧k g:=by
 unfold stK at l;split at l
 ·rename_i b off ep;obtain⟨bj,j,d⟩:=dD l;rw [h]at j;have j:H[b]?=aa bj:=j;split at d
  ·obtain⟨m,d⟩:=gJ d;obtain⟨q,d⟩:=jR d;obtain⟨g,s,u⟩:=dV h d;exact⟨_,g,by simp [cZ,j,m,q],s,by simp,u⟩
  ·obtain⟨h0,d⟩:=cW d;obtain⟨m,d⟩:=gJ d;obtain⟨q,d⟩:=jR d;obtain⟨g,s,u⟩:=dV h d;exact⟨_,g,by simp [cZ,j,h0,m,q],s,by simp,u⟩
  ·exact d.elim
 ·exact l.elim
def kH(op:BinOp)(j:IntKind)(x y:Int)(k:V→Prop):Prop:=match op with
 | .add=>wV j (Int.add x y) fun n=>k (.c (.f (.int j n)))
 | .sub=>wV j (Int.sub x y) fun n=>k (.c (.f (.int j n)))
 | .mul=>wV j (Int.mul x y) fun n=>k (.c (.f (.int j n)))
 | .eql=>lB (YN x y) fun b=>k (.c (.f (.bool b)))
 | .neq=>lB (!YN x y) fun b=>k (.c (.f (.bool b)))
 | .lss=>lB (ltB x y) fun b=>k (.c (.f (.bool b)))
 | .leq=>lB (!ltB y x) fun b=>k (.c (.f (.bool b)))
 | .gtr=>lB (ltB y x) fun b=>k (.c (.f (.bool b)))
 | .geq=>lB (!ltB x y) fun b=>k (.c (.f (.bool b)))
 | op=>pc (mI op j x y) fun v=>kg v k
theorem tH(x y:Int):(!decide (x<y))=decide (y≤x):=by
 rw [ary];simp
theorem Yl{op:BinOp}{j:IntKind}{x y:Int}{k:V→Prop}(h:kH op j x y k):∃ v,mI op j x y=aa v∧k v:=by
 cases op
 case add=>simp only [kH,pG]at h;exact⟨_,rfl,h⟩
 case sub=>simp only [kH,pG]at h;exact⟨_,rfl,h⟩
 case mul=>simp only [kH,pG]at h;exact⟨_,rfl,h⟩
 case eql=>simp only [kH,gB,YO]at h;exact⟨_,rfl,h⟩
 case neq=>simp only [kH,gB,YO]at h;exact⟨_,rfl,h⟩
 case lss=>simp only [kH,gB,xP]at h;exact⟨_,rfl,h⟩
 case leq=>simp only [kH,gB,xP,tH]at h;exact⟨_,rfl,h⟩
 case gtr=>simp only [kH,gB,xP]at h;exact⟨_,rfl,h⟩
 case geq=>simp only [kH,gB,xP,tH]at h;exact⟨_,rfl,h⟩
 all_goals
  simp only [kH]at h;obtain⟨v,d,b⟩:=iH h;rw [qe]at b;exact⟨v,d,b⟩
def Zc(j b:IntKind)(p:Prop):Prop:=match j,b with
 | .i64,.i64=>p| j,b=>mT (decide (j=b)) p
theorem Zd{j b:IntKind}{p:Prop}(h:Zc j b p):j=b∧p:=by
 unfold Zc at h;split at h
 ·exact⟨rfl,h⟩
 ·obtain⟨d,g⟩:=iU h;exact⟨of_decide_eq_true d,g⟩
def ajQ(op:BinOp)(x y:V)(k:V→Prop):Prop:=match x,y with
 | .c (.f (.int j a)),.c (.f (.int d b))=>match op with
  | .shl=>pc (de .shl x y) fun v=>kg v k
  | .shr=>pc (de .shr x y) fun v=>kg v k
  | op=>Zc j d (kH op j a b k)
 | x,y=>pc (de op x y) fun v=>kg v k
theorem afm{op:BinOp}{x y:V}{k:V→Prop}(h:ajQ op x y k):∃ v,de op x y=aa v∧k v:=by
 have gen:(pc (de op x y) fun v=>kg v k)→∃ v,de op x y=aa v∧k v:=by
  intro h;obtain⟨v,g,d⟩:=iH h;rw [qe]at d;exact⟨v,g,d⟩
 unfold ajQ at h;split at h
 ·rename_i j a s b;split at h
  ·exact gen h
  ·exact gen h
  ·rename_i g d;obtain⟨e,l⟩:=Zd h;subst e;obtain⟨v,m,q⟩:=Yl l;refine⟨v,?_,q⟩;cases op<;>first | exact absurd rfl g | exact absurd rfl d | (simp only [de,if_true];exact m)
 ·exact gen h
def akB(v:V)(k:Nat→Prop):Prop:=match v with
 | .c (.f (.int _ (.ofNat m)))=>k m| _=>False
theorem agi{v:V}{k:Nat→Prop}(h:akB v k):∃ m,gD v=aa (Int.ofNat m)∧k m:=by
 unfold akB at h;split at h
 ·exact⟨_,rfl,h⟩
 ·exact h.elim
def Y9(t:HT)(sz:Nat)(d:Option Nat)(x i:V)(k:V→Prop):Prop:=akB i fun m=>match d with
 | none=>match x with
  | .c (.sl b o l _ ep s)=>rC (Nat.succ m) l (gu b t fun bj=>match bj with
   | .box _ _=>bZ (Nat.add o (Nat.mul m sz)) fun o=>k (.c (.ptr b o ep))
   | .bT s' _ _ e .loc=>gR ep e (gR s s' (bZ (Nat.add o (Nat.mul m sz)) fun o=>k (.c (.ptr b o ep))))
   | _=>False)
  | .c (.f (.fs cs l))=>rC (Nat.succ m) l (bZ (Nat.mul m sz) fun o=>k (.c (.f (.fp cs o))))
  | _=>False
 | some n=>match x with
  | .c (.ptr b o ep)=>rC (Nat.succ m) n (bZ (Nat.add o (Nat.mul m sz)) fun o=>k (.c (.ptr b o ep)))
  | .c (.f (.fp cs o))=>rC (Nat.succ m) n (bZ (Nat.add o (Nat.mul m sz)) fun o=>k (.c (.f (.fp cs o))))
  | _=>False
theorem Nc{H:aj}{t:HT}(h:cT H t){sz:Nat}{y:Option Nat}{x i:V}{k:V→Prop}(d:Y9 t sz y x i k):∃ v,bA H sz y x i=aa v∧k v:=by
 obtain⟨m,hi,d⟩:=agi d;have h0:(0:Int)≤Int.ofNat m:=Int.natCast_nonneg m;have g:∀ l:Nat,Nat.succ m≤l→Int.ofNat m<(l:Int):=fun l E=>Int.ofNat_lt.2 E;have j:(Int.ofNat m).toNat=m:=rfl;simp only at d;split at d
 ·split at d
  ·rename_i b o l cap ep s _;obtain⟨u,d⟩:=gJ d;obtain⟨bj,z,q⟩:=dD d;rw [h]at z;have z:H[b]?=aa bj:=z;split at q
   ·rw [cj]at q;exact⟨_,by simp only [bA,hi,ba h0,ba (g _ u),z,j];rfl,q⟩
   ·obtain⟨A,q⟩:=cW q;obtain⟨B,q⟩:=cW q;rw [cj]at q;exact⟨_,by simp only [bA,hi,ba h0,ba (g _ u),z,j,A,B,and_self,if_true];rfl,A▸q⟩
   ·exact q.elim
  ·obtain⟨u,d⟩:=gJ d;rw [cj]at d;exact⟨_,by simp only [bA,hi,ba h0,ba (g _ u),j];rfl,d⟩
  ·exact d.elim
 ·split at d
  ·obtain⟨u,d⟩:=gJ d;rw [cj]at d;exact⟨_,by simp only [bA,hi,ba h0,ba (g _ u),j];rfl,d⟩
  ·obtain⟨u,d⟩:=gJ d;rw [cj]at d;exact⟨_,by simp only [bA,hi,ba h0,ba (g _ u),j];rfl,d⟩
  ·exact d.elim
def af9(t:HT)(x:V)(k:Nat→Prop):Prop:=match x with
 | .c (.sl b _ l _ ep sz)=>gu b t fun bj=>match bj with
  | .box _ _=>k l| .bT s _ _ e _=>gR ep e (gR sz s (k l))| _=>False
 | .c (.f .au)=>k 0| .c (.f .es)=>k 0| .c (.f (.fs _ l))=>k l| _=>False
theorem D1{H:aj}{t:HT}(h:cT H t){x:V}{k:Nat→Prop}(g:af9 t x k):∃ y n,x=.c y∧bu H y=aa n∧k n:=by
 unfold af9 at g;split at g
 ·rename_i b o l cap ep sz;obtain⟨bj,j,d⟩:=dD g;rw [h]at j;have j:H[b]?=aa bj:=j;split at d
  ·exact⟨_,l,rfl,by simp [bu,j],d⟩
  ·obtain⟨m,d⟩:=cW d;obtain⟨q,d⟩:=cW d;exact⟨_,l,rfl,by simp [bu,j,m,q],d⟩
  ·exact d.elim
 ·exact⟨_,0,rfl,rfl,g⟩
 ·exact⟨_,0,rfl,rfl,g⟩
 ·exact⟨_,_,rfl,rfl,g⟩
 ·exact g.elim
def CE(r:T)(ps:List (Nat × Nat × Arg)):List C→(List C→Prop)→Prop:=
 List.rec (motive:=fun _=>List C→(List C→Prop)→Prop) (fun cs k=>k cs)
  (fun p _ b cs k=>Prod.rec (motive:=fun _=>Prop) (fun off q=>Prod.rec (motive:=fun _=>Prop) (fun n x=>ob x r fun v=>sN v fun xs=>gR xs.length n (tM xs off cs fun cs=>b cs k)) q) p) ps
theorem wI(r:T):∀ {ps:List (Nat × Nat × Arg)} {cs:List C} {k:List C→Prop},CE r ps cs k→∃ cs',dw r cs ps=aa cs'∧k cs'
 | [],cs,k,h=>⟨cs,rfl,h⟩
 | (off,n,x)::ps,cs,k,h=>by
  have h:ob x r fun v=>sN v fun xs=>gR xs.length n (tM xs off cs fun cs=>CE r ps cs k):=h;rw [di]at h;obtain⟨xs,b,h⟩:=pY h;obtain⟨d,h⟩:=cW h;obtain⟨g,h⟩:=jR h;obtain⟨cs',j,l⟩:=wI r h;exact⟨cs',by simp [dw,b,d,j]at g ⊢;omega,l⟩
def xj(t:HT)(sz:Nat)(y:V)(k:Nat→List C→Prop):Prop:=match y with
 | .c (.f .au)=>k 0 []| .c (.f .es)=>k 0 []| .c (.f (.fs cs l))=>gR cs.length (Nat.mul l sz) (fzK cs fun cs=>k l cs)
 | .c (.sl b o l _ ep s)=>gu b t fun bj=>match bj with
  | .box cs _=>pZ o cs fun cs=>kM (Nat.mul l sz) cs fun cs=>k l cs
  | .bT s' cs _ e _=>gR ep e (gR s s' (gR s' sz (pZ o cs fun cs=>kM (Nat.mul l sz) cs fun cs=>k l cs)))
  | _=>False
 | y=>pc (nT t.get sz y) fun r=>Prod.rec (motive:=fun _=>Prop) (fun n cs=>lD cs fun cs=>k n cs) r
theorem vE{H:aj}{t:HT}(h:cT H t){sz:Nat}{y:V}{k:Nat→List C→Prop}(j:xj t sz y k) :
  ∃ n cs,cO H sz y=aa (n,cs)∧k n cs:=by
 unfold xj at j;split at j
 ·exact⟨0,[],rfl,j⟩
 ·exact⟨0,[],rfl,j⟩
 ·rename_i cs l;obtain⟨m,j⟩:=cW j;rw [qh]at j;have m:cs.length=l*sz:=m;exact⟨l,_,by simp only [cO,bu,cK,m,if_true],j⟩
 ·rename_i b o l cap ep s;obtain⟨bj,g,d⟩:=dD j;rw [h]at g;have g:H[b]?=aa bj:=g;split at d
  ·obtain⟨A,d⟩:=iO d;obtain⟨q,u⟩:=fD d;have q:l*sz≤_:=q;rw [aqy]at q;refine⟨l,_,?_,u⟩;simp only [cO,bu,cK,g];rw [ba (by omega)];rfl
  ·obtain⟨q,d⟩:=cW d;obtain⟨u,d⟩:=cW d;obtain⟨x,d⟩:=cW d;obtain⟨A,d⟩:=iO d;obtain⟨v,z⟩:=fD d;have v:l*sz≤_:=v;rw [aqy]at v;subst q u x;refine⟨l,_,?_,z⟩;simp only [cO,bu,cK,g,and_self,if_true];rw [ba ⟨trivial,trivial,by omega⟩];rfl
  ·exact d.elim
 ·obtain⟨⟨n,cs⟩,m,g⟩:=iH j;have g:lD cs fun cs=>k n cs:=g;rw [jI]at g;rw [h,nb]at m;exact⟨n,cs,m,g⟩
def AK(need bytes:Nat)(p:Prop):Prop:=rC (Nat.mul (Nat.add (Nat.mul 2 need) 768) bytes) 281474976710656 (rC (Nat.succ need) 281474976710656 p)
theorem pk{need bytes:Nat}{p:Prop}(h:AK need bytes p):bP need bytes=ae∧p:=by
 obtain⟨b,h⟩:=gJ h;obtain⟨d,h⟩:=gJ h;refine⟨?_,h⟩;have e:(2:Nat) ^ 48=281474976710656:=by decide
 simp only [bP,If,decide_eq_true_eq,e];exact⟨b,d⟩
def ajM(t:HT)(n:Nat)(sz bytes:Nat)(x y:V)(k:V→HT→Nat→Prop):Prop:=
 xj t sz y fun m ys=>Nat.rec (motive:=fun _=>Prop) False (fun _ _=>match x with
  | .c (.f .au)=>Nat.rec (motive:=fun _=>Prop) (k (.c (.f .au)) t n) (fun _ _=>AK m bytes (bZ m fun m=>mY (.bT sz ys 0 0 .loc) t n fun t g=>k (.c (.sl n 0 m 0 0 sz)) t g)) m
  | .c (.f .es)=>Nat.rec (motive:=fun _=>Prop) (k (.c (.f .es)) t n) (fun _ _=>AK m bytes (bZ m fun m=>mY (.bT sz ys 0 0 .loc) t n fun t g=>k (.c (.sl n 0 m 0 0 sz)) t g)) m
  | .c (.sl b o l cap ep s)=>gu b t fun bj=>match bj with
   | .box cs fl=>Bool.rec (motive:=fun _=>Prop)
     (bZ (Nat.add l m) fun d=>AK d bytes (pZ o cs fun cs=>kM (Nat.mul l sz) cs fun cs=>ajX cs ys fun cs=>mY (.bT sz cs 0 0 .loc) t n fun t g=>k (.c (.sl n 0 d 0 0 sz)) t g))
     (bZ (Nat.add l m) fun d=>rC fl (Nat.add o (Nat.mul l sz)) (tM ys (Nat.add o (Nat.mul l sz)) cs fun cs=>fZ (.box cs fl) t b fun t=>k (.c (.sl b o d cap ep s)) t n))
     (Nat.ble (Nat.add l m) cap)
   | .bT s' cs fl e st=>gR ep e (gR s' sz (gR s sz (Nat.rec (motive:=fun _=>Prop) (k x t n) (fun _ _=>
     bZ (Nat.add l m) fun d=>Bool.rec (motive:=fun _=>Prop)
      (match st with
       | .loc=>rC fl (Nat.add o (Nat.mul l sz)) (tM ys (Nat.add o (Nat.mul l sz)) cs fun cs=>fZ (.bT sz cs fl e .loc) t b fun t=>k (.c (.sl b o d 0 ep sz)) t n)
       | _=>False)
      (AK d bytes (bZ (Nat.succ e) fun j=>ajX cs ys fun cs=>fZ (.bT sz cs fl j .loc) t b fun t=>k (.c (.sl b 0 d 0 j sz)) t n))
      (and (and (Nat.beq o 0) (Nat.beq (Nat.mul l sz) cs.length)) (Nat.ble fl cs.length))) m)))
   | _=>False
  | _=>False) sz
theorem Ds{H:aj}{t:HT}(h:cT H t){sz bytes:Nat}{x y:V}{k:V→HT→Nat→Prop}(d:ajM t H.length sz bytes x y k) :
  ∃ v H' g,cz H sz bytes x y=aa (v,H')∧cT H' g∧k v g H'.length:=by
 obtain⟨m,ys,N,d⟩:=vE h d;unfold cz;rw [N];cases sz with
 | zero=>exact d.elim
 | succ u=>
  simp only at d ⊢;rw [aW (by omega)];split at d
  ·cases m with
   | zero=>exact⟨_,H,t,rfl,h,d⟩
   | succ L=>
    simp only at d;obtain⟨J,d⟩:=pk d;rw [cj]at d;obtain⟨g,z,j⟩:=gV h d;exact⟨_,_,g,by simp only [Nat.add_one_ne_zero,if_false,J,if_true],z,j⟩
  ·cases m with
   | zero=>exact⟨_,H,t,rfl,h,d⟩
   | succ L=>
    simp only at d;obtain⟨J,d⟩:=pk d;rw [cj]at d;obtain⟨g,z,j⟩:=gV h d;exact⟨_,_,g,by simp only [Nat.add_one_ne_zero,if_false,J,if_true],z,j⟩
  ·rename_i b o l cap ep s _;obtain⟨bj,z,d⟩:=dD d;rw [h]at z;have z:H[b]?=aa bj:=z;simp only [z];split at d
   ·rename_i cs fl _;simp only;cases hc:Nat.ble (Nat.add l m) cap with
    | false=>
     rw [hc]at d;have B:¬ (l+m≤cap):=fun e=>by have:=Nat.ble_eq_true_of_le e;rw [show Nat.ble (Nat.add l m) cap=Nat.ble (l+m) cap from rfl,this]at hc;cases hc
     simp only [cj]at d;obtain⟨j,d⟩:=pk d;obtain⟨F,d⟩:=iO d;obtain⟨E,d⟩:=fD d;rw [xu]at d;obtain⟨g,q,A⟩:=gV h d;rw [aqy]at E;have E:l*(u+1)≤_:=E;rw [aW B,ba ⟨j,by omega⟩];exact⟨_,_,g,rfl,q,A⟩
    | true=>
     rw [hc]at d;have B:l+m≤cap:=arT hc;simp only [cj]at d;obtain⟨j,d⟩:=gJ d;obtain⟨F,d⟩:=jR d;obtain⟨g,q,A⟩:=dV h d;rw [ba B,ba ⟨j,F⟩];exact⟨_,_,g,rfl,q,by simpa using A⟩
   ·rename_i s' cs fl e st _;simp only;obtain⟨j,d⟩:=cW d;obtain⟨F,d⟩:=cW d;obtain⟨E,d⟩:=cW d;rw [ba ⟨j,F,E⟩];cases m with
    | zero=>rw [ba rfl];exact⟨_,H,t,rfl,h,d⟩
    | succ L=>
     rw [aW (by omega)];simp only [cj]at d;cases hc:and (and (Nat.beq o 0) (Nat.beq (Nat.mul l (u+1)) cs.length)) (Nat.ble fl cs.length)with
     | true=>
      rw [hc]at d;simp only [If]at hc;have c1:=arq hc.1.1;have c2:=arq hc.1.2;have I:=arT hc.2;simp only at d;obtain⟨q,d⟩:=pk d;rw [xu]at d;obtain⟨g,A,K⟩:=dV h d;have q:bP (l+(L+1)) bytes=ae:=q;rw [ba ⟨c1,c2,I⟩,ba q];subst j;exact⟨_,_,g,rfl,A,by simpa using K⟩
     | false=>
      rw [hc]at d;have O:¬ (o=0∧l*(u+1)=cs.length∧fl≤cs.length):=by
       rintro⟨c1,c2,I⟩;rw [c1,show Nat.mul l (u+1)=cs.length from c2,Nat.ble_eq_true_of_le I]at hc;simp at hc
      rw [aW O];simp only at d;split at d
      ·obtain⟨q,d⟩:=gJ d;obtain⟨A,d⟩:=jR d;obtain⟨g,K,M⟩:=dV h d;rw [ba ⟨rfl,q,A⟩];exact⟨_,_,g,rfl,K,by simpa using M⟩
      ·exact d.elim
   ·exact d.elim
  ·exact d.elim
end
section
set_option linter.unusedVariables false
abbrev fj:=Callee→List V→HT→Nat→(V→HT→Nat→Prop)→Prop
def nM(call:cL)(bq:fj):Prop:=
 ∀(c:Callee) (args:List V) (H:aj) (t:HT) (k:V→HT→Nat→Prop),cT H t→bq c args t H.length k→∃ v H' b,call c args H=aa (v,H')∧cT H' b∧k v b H'.length
def xB{d b:Type}(g:d→(b→Prop)→Prop)(xs:List d):(List b→Prop)→Prop:=
 List.rec (motive:=fun _=>(List b→Prop)→Prop) (fun k=>k []) (fun x _ j k=>g x fun y=>j fun ys=>k (y::ys)) xs
theorem iB{b d:Type}{g:b→(d→Prop)→Prop}{f:b→Option d}(j:∀ x k,g x k→∃ y,f x=aa y∧k y):∀ {xs:List b} {k:List d→Prop},xB g xs k→∃ ys,bg f xs=aa ys∧k ys
 | [],k,h=>⟨[],rfl,h⟩
 | x::xs,k,h=>by
  obtain⟨y,l,h⟩:=j x _ h;obtain⟨ys,m,q⟩:=iB j (xs:=xs) h;exact⟨y::ys,by simp [bg,l,m],q⟩
def exK(t:HT)(m:Nat):C→(FC→Prop)→Prop:=
 Nat.rec (motive:=fun _=>C→(FC→Prop)→Prop) (fun x k=>match x with
   | .f y=>k y
   | _=>False)
  (fun _ j x k=>match x with
   | .f y=>k y
   | .ptr b off _=>gu b t fun bj=>match bj with
    | .box cs _=>xB j cs fun d=>k (.fp d off)
    | _=>False
   | .sl b o l _ ep sz=>gu b t fun bj=>match bj with
    | .box cs _=>pZ o cs fun cs=>kM (Nat.mul l sz) cs fun cs=>xB j cs fun d=>k (.fs d l)
    | .bT s cs _ e .loc=>gR ep e (gR sz s (pZ o cs fun cs=>kM (Nat.mul l sz) cs fun cs=>xB j cs fun d=>k (.fs d l)))
    | .bT s cs _ e .nil=>gR ep e (gR sz s (k .au))| .bT s cs _ e .es=>gR ep e (gR sz s (k .es))| _=>False
   | .cl f g=>xB j g fun d=>k (.fn f d)
   | _=>False) m
theorem YS{H:aj}{t:HT}(h:cT H t):∀(m:Nat) (x:C) (k:FC→Prop),exK t m x k→∃ y,ef m H x=aa y∧k y:=by
 intro m;induction m with
 | zero=>
  intro x k q;cases x with
  | f y=>exact⟨y,rfl,q⟩| _=>exact q.elim
 | succ m E=>
  intro x k q;cases x with
  | f y=>exact⟨y,rfl,q⟩
  | ptr b off ep=>
   obtain⟨bj,g,d⟩:=dD q;rw [h]at g;have g:H[b]?=aa bj:=g;cases bj with
   | box cs fl=>
    obtain⟨z,j,u⟩:=iB E d;exact⟨_,by simp only [ef,g,j];rfl,u⟩
   | _=>exact d.elim
  | sl b o l cap ep sz=>
   obtain⟨bj,g,d⟩:=dD q;rw [h]at g;have g:H[b]?=aa bj:=g;cases bj with
   | box cs fl=>
    obtain⟨I,d⟩:=iO d;obtain⟨v,d⟩:=fD d;obtain⟨z,j,u⟩:=iB E d;rw [aqy]at v;have v:l*sz≤_:=v;have j:bg (ef m H) ((cs.drop o).take (l*sz))=aa z:=j;exact⟨_,by simp only [ef,g];rw [ba (by omega),j];rfl,u⟩
   | bT s cs fl e st=>
    cases st with
    | loc=>
     obtain⟨A,d⟩:=cW d;obtain⟨B,d⟩:=cW d;obtain⟨I,d⟩:=iO d;obtain⟨v,d⟩:=fD d;obtain⟨z,j,u⟩:=iB E d;rw [aqy]at v;have v:l*sz≤_:=v;have j:bg (ef m H) ((cs.drop o).take (l*sz))=aa z:=j;exact⟨_,by simp only [ef,g];rw [ba ⟨A,B,by omega⟩,j];rfl,u⟩
    | nil=>
     obtain⟨A,d⟩:=cW d;obtain⟨B,d⟩:=cW d;exact⟨_,by simp only [ef,g];rw [ba ⟨A,B⟩],d⟩
    | es=>
     obtain⟨A,d⟩:=cW d;obtain⟨B,d⟩:=cW d;exact⟨_,by simp only [ef,g];rw [ba ⟨A,B⟩],d⟩
   | _=>exact d.elim
  | cl f F=>
   obtain⟨z,j,u⟩:=iB E q;exact⟨_,by simp only [ef,j];rfl,u⟩
  | _=>exact q.elim
def DE(t:HT)(v:V)(k:V→Prop):Prop:=match v with
 | .c x=>exK t deep x fun y=>k (.c (.f y))
 | .a xs=>xB (exK t deep) xs fun ys=>fzK ys fun cs=>k (.a cs)
 | _=>False
theorem oc{H:aj}{t:HT}(h:cT H t)(v:V)(k:V→Prop)(g:DE t v k):∃ y,cC deep H v=aa y∧k y:=by
 cases v with
 | c x=>
  obtain⟨y,d,b⟩:=YS h deep x _ g;exact⟨_,by simp only [cC,d];rfl,b⟩
 | a xs=>
  obtain⟨ys,d,b⟩:=iB (YS h deep) g;rw [qh]at b;exact⟨_,by simp only [cC,d];rfl,b⟩
 | _=>exact g.elim
def aj6(t:HT)(v:V)(k:V→Prop):Prop:=match v with
 | .t b=>xB (DE t) b fun b=>k (.t b)
 | v=>DE t v k
theorem DF{H:aj}{t:HT}(h:cT H t)(v:V)(k:V→Prop)(b:aj6 t v k):∃ y,iA deep H v=aa y∧k y:=by
 cases v with
 | t j=>
  obtain⟨ys,d,g⟩:=iB (oc h) b;exact⟨_,by simp only [iA,d];rfl,g⟩
 | c x=>exact oc h (.c x) k b| a xs=>exact oc h (.a xs) k b| top=>exact b.elim
def Cr{b:Type}(g:b→HT→(HT→Prop)→Prop)(xs:List b):HT→(HT→Prop)→Prop:=
 List.rec (motive:=fun _=>HT→(HT→Prop)→Prop) (fun t k=>k t) (fun x _ d t k=>g x t fun t=>d t k) xs
def MkS{b:Type}(g:b→HT→(HT→Prop)→Prop)(f:aj→b→aj):Prop:=∀(x:b) (H:aj) (t:HT) (k:HT→Prop),cT H t→g x t k→∃ d,cT (f H x) d∧k d
theorem ko{d:Type}{g:d→HT→(HT→Prop)→Prop}{f:aj→d→aj}(j:MkS g f):∀(xs:List d) (H:aj) (t:HT) (k:HT→Prop),cT H t→Cr g xs t k→∃ l,cT (xs.foldl f H) l∧k l
 | [],H,t,k,h,b=>⟨t,h,b⟩
 | x::xs,H,t,k,h,b=>by
  obtain⟨s,m,q⟩:=j x H t _ h b;exact ko j xs _ s k m q
def mkK(m:Nat):C→HT→(HT→Prop)→Prop:=
 Nat.rec (motive:=fun _=>C→HT→(HT→Prop)→Prop) (fun _ t k=>k t)
  (fun _ g x t k=>match x with
   | .f _=>k t
   | .ptr b _ _=>gu b t fun bj=>match bj with
    | .box cs fl=>bZ (Nat.max fl cs.length) fun fl=>fZ (.box cs fl) t b fun t=>Cr g cs t k
    | _=>k t
   | .sl b o l _ _ sz=>gu b t fun bj=>match bj with
    | .box cs fl=>bZ (Nat.max fl (Nat.add o (Nat.mul l sz))) fun fl=>fZ (.box cs fl) t b fun t=>sV o cs fun cs=>kM (Nat.mul l sz) cs fun cs=>Cr g cs t k
    | .bT s cs fl e st=>bZ (Nat.max fl (Nat.add o (Nat.mul l sz))) fun fl=>fZ (.bT s cs fl e st) t b fun t=>sV o cs fun cs=>kM (Nat.mul l sz) cs fun cs=>Cr g cs t k
    | _=>k t
   | .cl _ d=>Cr g d t k
   | _=>k t) m
theorem Zz:∀(m:Nat),MkS (mkK m) (fun H x=>fT m x H):=by
 intro m;induction m with
 | zero=>intro x H t k h q;exact⟨t,by cases x<;>exact h,q⟩
 | succ m z=>
  intro x H t k h q;cases x with
  | f y=>exact⟨t,h,q⟩
  | ptr b off ep=>
   obtain⟨bj,d,g⟩:=dD q;rw [h]at d;have d:H[b]?=aa bj:=d;cases bj with
   | box cs fl=>
    change bZ _ _ at g;rw [cj]at g;obtain⟨v,u,j⟩:=dV h g;simp only [fT,d];exact ko z cs _ v k u j
   | _=>simp only [fT,d];exact⟨t,h,g⟩
  | sl b o l cap ep sz=>
   obtain⟨bj,d,g⟩:=dD q;rw [h]at d;have d:H[b]?=aa bj:=d;cases bj with
   | box cs fl=>
    change bZ _ _ at g;rw [cj]at g;obtain⟨v,u,j⟩:=dV h g;rw [lq]at j;obtain⟨_,j⟩:=fD j;simp only [fT,d];exact ko z _ _ v k u j
   | bT s cs fl e st=>
    change bZ _ _ at g;rw [cj]at g;obtain⟨v,u,j⟩:=dV h g;rw [lq]at j;obtain⟨_,j⟩:=fD j;simp only [fT,d];exact ko z _ _ v k u j
   | _=>simp only [fT,d];exact⟨t,h,g⟩
  | cl f A=>
   simp only [fT];exact ko z _ _ t k h q
  | _=>exact⟨t,h,q⟩
def anz(v:V)(t:HT)(k:HT→Prop):Prop:=match v with
 | .c x=>mkK deep x t k| .a xs=>Cr (mkK deep) xs t k| _=>k t
theorem agh:MkS anz (mkV deep):=by
 intro v H t k h b;cases v with
 | c x=>exact Zz deep x H t k h b| a xs=>exact ko (Zz deep) xs H t k h b| _=>exact⟨t,h,b⟩
def ahV(call:fj)(f:Nat)(d:List V)(t:HT)(n:Nat)(k:V→HT→Nat→Prop):Prop:=
 xB (DE t) d fun g=>call (.fn f) g .e 0 fun b j _=>aj6 j b fun b=>Cr anz d t fun t=>k b t n
theorem ZV{call:cL}{bq:fj}(hc:nM call bq){f:Nat}{g:List V}{H:aj}{t:HT}{k:V→HT→Nat→Prop}(h:cT H t)(b:ahV bq f g t H.length k) :
  ∃ v H' d,eb call f g H=aa (v,H')∧cT H' d∧k v d H'.length:=by
 obtain⟨l,m,b⟩:=iB (oc h) b;obtain⟨y,z,A,q,s,b⟩:=hc (.fn f) l [] .e _ cT.nil b;obtain⟨j,u,b⟩:=DF s y _ b;obtain⟨d,x,b⟩:=ko agh g H t _ h b;refine⟨j,_,d,by simp only [eb,m,q,u],x,?_⟩;rw [←(my deep g H).1];exact b
abbrev rH:=fj→T→List dA→HT→Nat→(V→List dA→HT→Nat→Prop)→Prop
def fo(op:cQ):rH:=fun _ r d t n k=>anb op r t n fun v t n=>k v d t n
def ajJ(x:Arg):rH:=fun _ r d t n k=>ob x r fun v=>k v d t n
def X9(c a b:Arg):rH:=fun _ r d t n k=>ob c r fun v=>match v with
 | .c (.f (.bool v))=>Bool.rec (motive:=fun _=>Prop) (ob b r fun v=>k v d t n) (ob a r fun v=>k v d t n) v
 | _=>False
def Bw(zs:List FC):rH:=fun _ r d t n k=>fzK zs fun cs=>mY (.box cs 0) t n fun t b=>k (.c (.ptr n 0 0)) d t b
def ajG(x:Arg):rH:=fun _ r d t n k=>ob x r fun v=>sN v fun xs=>mY (.box xs 0) t n fun t b=>k (.c (.ptr n 0 0)) d t b
def Bx(zs:List FC)(ps:List (Nat × Nat × Arg)):rH:=fun _ r d t n k=>fzK zs fun cs=>CE r ps cs fun cs=>k (.a cs) d t n
def X8(m:Option Nat)(x:Arg):rH:=fun _ r d t n k=>ob x r fun v=>ldK t m v fun v=>k v d t n
def BC(m:Nat)(x y:Arg):rH:=fun _ r d t n k=>ob x r fun v=>ob y r fun y=>sN y fun xs=>gR xs.length m (match v with
 | .c p=>stK t p xs fun t=>k .top d t n
 | _=>False)
def xi(x:Arg):rH:=fun _ r d t n k=>ob x r fun v=>match v with
 | .c (.ptr b o e)=>k (.c (.ptr b o e)) d t n| .c (.f (.fp cs o))=>k (.c (.f (.fp cs o))) d t n| _=>False
def ajF(op:BinOp)(x y:Arg):rH:=fun _ r d t n k=>ob x r fun x=>ob y r fun y=>ajQ op x y fun v=>k v d t n
def ajH(j:IntKind)(x:Arg):rH:=fun _ r d t n k=>ob x r fun v=>match v with
 | .c (.f (.int _ m))=>wV j m fun m=>k (.c (.f (.int j m))) d t n
 | _=>False
def xf(off:Nat)(x:Arg):rH:=fun _ r d t n k=>ob x r fun v=>match v with
 | .c (.ptr b o e)=>bZ (Nat.add o off) fun o=>k (.c (.ptr b o e)) d t n
 | .c (.f (.fp cs o))=>bZ (Nat.add o off) fun o=>k (.c (.f (.fp cs o))) d t n
 | _=>False
def BB(off:Nat)(m:Option Nat)(x:Arg):rH:=fun _ r d t n k=>ob x r fun v=>match v with
 | .a xs=>D9 m off xs fun v=>k v d t n
 | _=>False
def xh(sz:Nat)(b:Option Nat)(x i:Arg):rH:=fun _ r d t n k=>ob x r fun x=>ob i r fun i=>Y9 t sz b x i fun v=>k v d t n
def sD(x:Arg)(i:Nat):rH:=fun _ r d t n k=>ob x r fun v=>match v with
 | .t b=>agl i b fun v=>k v d t n
 | _=>False
def X7(f:Nat)(args:List Arg)(h:Bool):rH:=fun call r d t n k=>zq args r fun b=>
 Bool.rec (motive:=fun _=>Prop) (ahV call f b t n fun v t n=>k v d t n) (call (.fn f) b t n fun v t n=>k v d t n) h
def Bz(x:Arg)(args:List Arg)(_:Bool):rH:=fun call r d t n k=>ob x r fun x=>zq args r fun b=>
 pc (bQ x b) fun g=>Prod.rec (motive:=fun _=>Prop) (fun c b=>call c b t n fun v t n=>k v d t n) g
def ahC(m:Nat):rH:=fun _ r d t n k=>k (.c (.f (.int .i64 (.ofNat m)))) d t n
def ajI(x:Arg):rH:=fun _ r d t n k=>ob x r fun v=>af9 t v fun m=>k (.c (.f (.int .i64 (.ofNat m)))) d t n
def xe(sz bytes:Nat)(x y:Arg):rH:=fun _ r d t n k=>ob x r fun x=>ob y r fun y=>ajM t n sz bytes x y fun v t n=>k v d t n
def zg:rH:=fun _ r d t n k=>k (.c (.f .kU)) d t n
def BA(x:Arg)(args:List Arg):rH:=fun _ r d t n k=>ob x r fun x=>zq args r fun b=>
 pc (bQ x b) fun g=>Prod.rec (motive:=fun _=>Prop) (fun c b=>Callee.rec (motive:=fun _=>Prop) (fun f=>k .top (.fn f b::d) t n) (fun _=>False) c) g
def anD(op:cQ):rH:=
 cQ.rec (motive:=fun _=>rH)
  ajJ (fun o s=>fo (.pre o s)) X9 Bw ajG Bx (fun a b c e=>fo (.bE a b c e)) X8 BC xi ajF
  (fun a b c e=>fo (.eq a b c e)) (fun a b=>fo (.un a b)) ajH (fun a=>fo (.uR a)) (fun a=>fo (.uQ a)) (fun a=>fo (.BO a)) (fun a b=>fo (.fB a b)) (fo .i')
  (fun a b c e=>fo (.lookup a b c e)) (fun a b c e=>fo (.iu a b c e)) (fun a b c e f=>fo (.dI a b c e f)) (fun a b c e f=>fo (.slice a b c e f)) (fun a b c e f g=>fo (.lY a b c e f g)) (fun a b c=>fo (.mZ a b c))
  xf BB xh (fun a b=>fo (.idxs a b)) (fun a b c e f=>fo (.uT a b c e f)) (fun a=>fo (.range a)) (fun a=>fo (.next a)) sD X7 Bz ajI ahC (fun a=>fo (.lens a)) (fun a=>fo (.cap a))
  xe (fun a b c=>fo (.copy a b c)) (fun a b=>fo (.gb a b)) (fun a b c e f=>fo (.ka a b c e f)) (fun a b c=>fo (.clear a b c)) (fun a=>fo (.jB a)) (fun a=>fo (.mX a)) (fun a=>fo (.entry a)) (fun a b=>fo (.lJ a b)) (fun a b c e=>fo (.ue a b c e)) (fun a b c e=>fo (.fq a b c e)) zg BA (fo .bad) op
theorem agm{call:cL}{bq:fj}(hc:nM call bq)(op:cQ){r:T}{d:List dA}{H:aj}{t:HT}{k:V→List dA→HT→Nat→Prop}(h:cT H t)(g:anD op bq r d t H.length k) :
  ∃ v A H' q,eE call ⟨r,d,H⟩ op=aa (v,⟨r,A,H'⟩)∧cT H' q∧k v A q H'.length:=by
 have go:∀ {v H' q},eE call ⟨r,d,H⟩ op=(bl r H op).map (fun r'=>(r'.1,⟨r,d,r'.2⟩))→bl r H op=aa (v,H')→cT H' q→k v d q H'.length →
   ∃ v A H' q,eE call ⟨r,d,H⟩ op=aa (v,⟨r,A,H'⟩)∧cT H' q∧k v A q H'.length:=
  fun s u l B=>⟨_,d,_,_,by rw [s,u];rfl,l,B⟩
 have gen:eE call ⟨r,d,H⟩ op=(bl r H op).map (fun r'=>(r'.1,⟨r,d,r'.2⟩))→fo op bq r d t H.length k →
   ∃ v A H' q,eE call ⟨r,d,H⟩ op=aa (v,⟨r,A,H'⟩)∧cT H' q∧k v A q H'.length:=fun s u=>by
  obtain⟨v,H',q,l,B,I⟩:=afN op r H t _ h u;exact go s l B I
 cases op
 case aZ x=>
  have g:ajJ x bq r d t H.length k:=g;unfold ajJ at g;rw [di]at g;exact go rfl rfl h g
 case pick c a b=>
  have g:X9 c a b bq r d t H.length k:=g;unfold X9 at g;rw [di]at g;split at g
  ·rename_i v z;cases v with
   | true=>
    simp only [di]at g;exact go rfl (by simp only [bl,z];rfl) h g
   | false=>
    simp only [di]at g;exact go rfl (by simp only [bl,z];rfl) h g
  ·exact g.elim
 case alloc zs=>
  have g:Bw zs bq r d t H.length k:=g;unfold Bw at g;rw [qh]at g;obtain⟨q,s,u⟩:=gV h g;exact go rfl rfl s u
 case box x=>
  have g:ajG x bq r d t H.length k:=g;unfold ajG at g;rw [di]at g;obtain⟨xs,l,g⟩:=pY g;obtain⟨q,s,u⟩:=gV h g;exact go rfl (by simp only [bl,l]) s u
 case build zs ps=>
  have g:Bx zs ps bq r d t H.length k:=g;unfold Bx at g;rw [qh]at g;obtain⟨cs,l,g⟩:=wI r g;exact go rfl (by simp only [bl,l];rfl) h g
 case load m x=>
  have g:X8 m x bq r d t H.length k:=g;unfold X8 at g;rw [di]at g;obtain⟨v,l,g⟩:=Zi h g;exact go rfl (by simp only [bl,l];rfl) h g
 case store m x y=>
  have g:BC m x y bq r d t H.length k:=g;unfold BC at g;rw [di,di]at g;obtain⟨xs,l,g⟩:=pY g;obtain⟨B,g⟩:=cW g;split at g
  ·rename_i p M;obtain⟨H',q,I,K,L,g⟩:=ak9 h g;exact go rfl (by simp only [bl,M,l,B,if_true,I];rfl) K (by rw [L];exact g)
  ·exact g.elim
 case bV x=>
  have g:xi x bq r d t H.length k:=g;unfold xi at g;rw [di]at g;split at g
  ·rename_i z;exact go rfl (by simp only [bl,z]) h g
  ·rename_i z;exact go rfl (by simp only [bl,z]) h g
  ·exact g.elim
 case bin op x y=>
  have g:ajF op x y bq r d t H.length k:=g;unfold ajF at g;rw [di,di]at g;obtain⟨v,l,g⟩:=afm g;exact go rfl (by simp only [bl,l];rfl) h g
 case eS j x=>
  have g:ajH j x bq r d t H.length k:=g;unfold ajH at g;rw [di]at g;split at g
  ·rename_i z;simp only [pG]at g;exact go rfl (by simp only [bl,z];rfl) h g
  ·exact g.elim
 case aQ off x=>
  have g:xf off x bq r d t H.length k:=g;unfold xf at g;rw [di]at g;split at g
  ·rename_i z;rw [cj]at g;exact go rfl (by simp only [bl,z,iD];rfl) h g
  ·rename_i z;rw [cj]at g;exact go rfl (by simp only [bl,z,iD];rfl) h g
  ·exact g.elim
 case field off m x=>
  have g:BB off m x bq r d t H.length k:=g;unfold BB at g;rw [di]at g;split at g
  ·rename_i z;obtain⟨v,l,g⟩:=tQ g;exact go rfl (by simp only [bl,z,jx,l];rfl) h g
  ·exact g.elim
 case bC sz F x i=>
  have g:xh sz F x i bq r d t H.length k:=g;unfold xh at g;rw [di,di]at g;obtain⟨v,l,g⟩:=Nc h g;exact go rfl (by simp only [bl,l];rfl) h g
 case extract x i=>
  have g:sD x i bq r d t H.length k:=g;unfold sD at g;rw [di]at g;split at g
  ·rename_i z;obtain⟨v,l,g⟩:=rV g;exact go rfl (by simp only [bl,z,l];rfl) h g
  ·exact g.elim
 case call f args E=>
  have g:X7 f args E bq r d t H.length k:=g;unfold X7 at g;rw [nV]at g;cases E with
  | false=>
   obtain⟨v,H',q,s,u,l⟩:=ZV hc h g;exact⟨v,d,H',q,by simp only [eE,gh,aqw,if_false,s];rfl,u,l⟩
  | true=>
   obtain⟨v,H',q,s,u,l⟩:=hc _ _ H t _ h g;exact⟨v,d,H',q,by simp only [eE,gh,if_true,s];rfl,u,l⟩
 case bW x args E=>
  have g:Bz x args E bq r d t H.length k:=g;unfold Bz at g;rw [di,nV]at g;obtain⟨⟨c,J⟩,s,g⟩:=iH g;obtain⟨v,H',q,u,l,B⟩:=hc c J H t _ h g;exact⟨v,d,H',q,by simp only [eE,s,u];rfl,l,B⟩
 case len x=>
  have g:ajI x bq r d t H.length k:=g;unfold ajI at g;rw [di]at g;obtain⟨y,m,s,u,g⟩:=D1 h g;exact go rfl (by simp only [bl,s,u];rfl) h g
 case mM m=>
  have g:ahC m bq r d t H.length k:=g;exact go rfl rfl h g
 case append sz bytes x y=>
  have g:xe sz bytes x y bq r d t H.length k:=g;unfold xe at g;rw [di,di]at g;obtain⟨v,H',q,s,u,l⟩:=Ds h g;exact go rfl (by simp only [bl,s]) u l
 case recover=>
  have g:zg bq r d t H.length k:=g;exact⟨_,d,H,t,rfl,h,g⟩
 case defer x args=>
  have g:BA x args bq r d t H.length k:=g;unfold BA at g;rw [di,nV]at g;obtain⟨⟨c,J⟩,s,g⟩:=iH g;cases c with
  | fn f=>exact⟨_,.fn f J::d,H,t,by simp only [eE,s],h,g⟩
  | yield b=>exact g.elim
 all_goals exact gen rfl g
end
section
set_option linter.unusedVariables false
def ye(H:aj):C→Int→C→Option (V × aj)
 | .sl b o l _ ep s,i,.sl vb g 1 _ _ _=>match H[b]?,H[vb]? with
  | some (.bT s' cs fl e .loc),aa (.box d _)=>
   if o=0∧g=0∧ep=e∧s=10∧s'=10∧cs.length=l*10∧fl=0∧0≤i∧i<l∧l≤1000000∧d.length=10 then
    aa (.c (.sl b 0 (l+1) 0 (e+1) 10),H.set b (.bT 10 (cs.take (i.toNat*10)++d++cs.drop (i.toNat*10)) 0 (e+1) .loc))
   else ab
  | _,_=>ab
 | _,_,_=>ab
def Nf(args:List V)(H:aj):Option (V × aj):=
 match args with
 | [.c x,.c (.f (.int .i64 i)),.c y]=>match bu H x,cO H 10 (.c y)with
  | some n,aa (1,_)=>if i=n then cz H 10 112 (.c x) (.c y)else ye H x i y| _,_=>ab
 | _=>ab
def rn(f:Nat)(args:List V)(H:aj):Option (Option (V × aj)):=if f=e9 then aa (Nf args H)else ab
end
section
set_option linter.unusedVariables false
def afW(args:List V)(t:HT)(n:Nat)(k:V→HT→Nat→Prop):Prop:=match args with
 | [.c x,.c (.f (.int .i64 (.ofNat i))),.c y]=>af9 t (.c x) fun l=>mT (Nat.beq i l) (xj t 10 (.c y) fun m _=>mT (Nat.beq m 1) (ajM t n 10 112 (.c x) (.c y) k))
 | _=>False
theorem afX{H:aj}{t:HT}(h:cT H t){args:List V}{k:V→HT→Nat→Prop}(g:afW args t H.length k):∃ v H' q,rn e9 args H=aa (aa (v,H'))∧cT H' q∧k v q H'.length:=by
 unfold afW at g;split at g
 ·rename_i x i y;obtain⟨F,l,e,E,j⟩:=D1 h g;cases e;obtain⟨s,b⟩:=iU j;have s:=arq s;subst s;clear g j;obtain⟨m,ys,B,u⟩:=vE h b;clear b;obtain⟨d,b⟩:=iU u;have d:=arq d;subst d;obtain⟨v,H',q,z,d,A⟩:=Ds h b;exact⟨v,H',q,by simp [rn,Nf,E,B,z],d,A⟩
 ·exact g.elim
end
section
def xa(c1 c2:cL):Prop:=∀ c args H r,c1 c args H=aa r→c2 c args H=aa r
section
variable{c1 c2:cL}(hc:xa c1 c2)
include hc
theorem vd{c:Nat}{args:List V}{H:aj}{r:V × aj}(h:eb c1 c args H=aa r):eb c2 c args H=aa r:=by
 unfold eb at h ⊢;split at h
 ·simp at h
 ·rename_i g b;split at h
  ·simp at h
  ·rename_i j d h0;simp only [hc _ _ _ _ h0];exact h
theorem xU{b:Bool}{c:Nat}{args:List V}{H:aj}{r:V × aj}(h:gh c1 b c args H=aa r):gh c2 b c args H=aa r:=by
 unfold gh at h ⊢;split at h
 ·rename_i d;simp only [d,if_true];exact hc _ _ _ _ h
 ·rename_i d;simp only [d];exact vd hc h
theorem wW{s:St}{op:cQ}{r:V × St}(h:eE c1 s op=aa r):eE c2 s op=aa r:=by
 cases op with
 | call f args b=>
  simp only [eE,IT]at h ⊢;obtain⟨a,d,rfl⟩:=h;exact⟨a,xU hc d,rfl⟩
 | bW x args b=>
  simp only [eE]at h ⊢;split at h
  ·simp only [IT]at h ⊢;obtain⟨a,d,rfl⟩:=h;exact⟨a,hc _ _ _ _ d,rfl⟩
  ·simp at h
 | _=>exact h
theorem uI{s s':St}{o:aP}(h:fm c1 s o=aa s'):fm c2 s o=aa s':=by
 unfold fm at h ⊢;cases g:wanted s.aw o.g with
 | none=>simp [g]at h
 | some b=>
  cases b with
  | false=>simpa [g]using h
  | true=>
   simp only [g]at h ⊢;cases d:eE c1 s o.op with
   | none=>simp [d]at h
   | some x=>
    obtain⟨v,j⟩:=x;rw [wW hc d];rw [d]at h;exact h
theorem dz:∀(os:List aP) (s:St) {s':St},fh c1 os s=aa s'→fh c2 os s=aa s'
 | [],s,s',h=>h
 | o::os,s,s',h=>by
  simp only [fh]at h ⊢;split at h
  ·rename_i d b;simp only [uI hc b];exact dz os d h
  ·simp at h
theorem pH:∀(os:List aP) (s:St) {ss:List St},dK c1 os s=aa ss→dK c2 os s=aa ss
 | [],s,ss,h=>h
 | o::os,s,ss,h=>by
  simp only [dK]at h ⊢;split at h
  ·rename_i g b;simp only [uI hc b];split at h
   ·rename_i j d;simp only [pH os g d];exact h
   ·simp at h
  ·simp at h
theorem yw{ops:List aP}{gK:List (Nat × Nat)}{s s':St}(h:fK c1 ops gK s=aa s'):fK c2 ops gK s=aa s':=by
 unfold fK at h ⊢;split at h
 ·exact dz hc _ _ h
 ·split at h
  ·rename_i ss b;simp only [pH hc _ _ b];exact h
  ·simp at h
theorem pz{fn:Nat}:∀(n x:Nat) (ro:Option Nat) (j:List cU) (s:St) {r:Option aE × St},n≤x →
  run c1 fn n ro j s=aa r→run c2 fn x ro j s=aa r
 | 0,_,_,_,_,_,_,h=>by simp [run]at h
 | n+1,0,_,_,_,_,E,_=>by omega
 | n+1,x+1,ro,j,s,r,E,h=>by
  have m:=fun ro j s r h=>pz (fn:=fn) n x ro j s (r:=r) (by omega) h
  match j,h with
  | [],h=>exact h| .inBlock _::k,h=>exact m _ _ _ _ h| .inLoop c::k,h=>exact m _ _ _ _ h
  | .ir b::k,h=>
   simp only [run]at h ⊢;split at h
   ·rename_i f tmps ps as bd st pending d z
    try simp only [z]
    split at h
    ·simp at h
    ·rename_i A
     try simp only [A,if_false]
     split at h
     ·exact m _ _ _ _ h
     ·exact m _ _ _ _ h
     ·exact m _ _ _ _ h
     ·simp at h
   ·simp at h
  | .lj::k,h=>
   simp only [run]at h ⊢;split at h
   ·simp at h
   ·rename_i b;split at h
    ·rename_i z
     try simp only [z]
     exact m _ _ _ _ h
    ·simp at h
  | .code .skip::k,h=>exact m _ _ _ _ h| .inScope _::k,h=>exact m _ _ _ _ h| .code (.label _)::k,h=>exact m _ _ _ _ h| .code (.scope a)::k,h=>exact m _ _ _ _ h
  | .code (.goto l)::k,h=>
   simp only [run]at h ⊢;split at h
   ·rename_i u;(try simp only [u]);exact m _ _ _ _ h
   ·simp at h
  | .code .bad::_,h=>simp [run]at h| .code .ret::_,h=>exact h
  | .code (.exit id)::k,h=>
   simp only [run]at h ⊢;split at h
   ·rename_i u;(try simp only [u]);exact m _ _ _ _ h
   ·rename_i u;(try simp only [u]);exact h
  | .code (.seq a b)::k,h=>exact m _ _ _ _ h| .code (.block id a)::k,h=>exact m _ _ _ _ h| .code (.loop a)::k,h=>exact m _ _ _ _ h
  | .code (.cond c a b)::k,h=>
   simp only [run]at h ⊢;split at h
   ·rename_i v F;(try simp only [F]);exact m _ _ _ _ h
   ·simp at h
  | .code (.region ops gK)::k,h=>
   simp only [run]at h ⊢;split at h
   ·simp at h
   ·rename_i q
    try simp only [q]
    split at h
    ·rename_i I y
     try simp only [yw hc y]
     exact m _ _ _ _ h
    ·simp at h
  | .code (.fu f ps as bd)::k,h=>
   simp only [run]at h ⊢;split at h
   ·simp at h
   ·rename_i q
    try simp only [q]
    split at h
    ·rename_i g args B
     try simp only [B]
     split at h
     ·rename_i v H y
      try simp only [hc _ _ _ _ y]
      exact m _ _ _ _ h
     ·simp at h
    ·simp at h
theorem iK:∀(ds:List dA) (H:aj) {H':aj},dx c1 ds H=aa H'→dx c2 ds H=aa H'
 | [],H,H',h=>h
 | .gm b::ds,H,H',h=>by
  simp only [dx]at h ⊢;split at h
  ·rename_i l;exact iK ds _ h
  ·simp at h
 | .fn f args::ds,H,H',h=>by
  simp only [dx]at h ⊢;split at h
  ·simp at h
  rename_i d;rw [aW d];split at h
  ·rename_i v j g
   try simp only [hc _ _ _ _ g]
   exact iK ds _ h
  ·simp at h
end
variable{tab:Nat→Option aJ}{mQ:Nat→List V→aj→Option (Option (V × aj))}
theorem sK{m l:Nat}(v:m≤l):∀(d g:Nat),d≤g→xa (eh tab mQ m d) (eh tab mQ l g)
 | 0,_,_,_,_,_,_,h=>by simp [eh]at h
 | d+1,0,E,_,_,_,_,_=>by omega
 | d+1,g+1,E,c,args,H,r,h=>by
  have z:xa (eh tab mQ m d) (eh tab mQ l g):=sK v d g (by omega)
  match c,h with
  | .fn f,h=>
   simp only [eh]at h ⊢;split at h
   ·rename_i r' x;(try simp only [x]);exact h
   ·rename_i x
    try simp only [x]
    split at h
    ·simp at h
    ·rename_i af q
     try simp only [q]
     split at h
     ·rename_i u
      try simp only [u,if_true]
      split at h
      ·rename_i j s y
       try simp only [pz z m l _ _ _ v y]
       split at h
       ·rename_i F A
        try simp only [iK z _ _ A]
        exact h
       ·simp at h
      ·simp at h
     ·simp at h
  | .yield b,h=>
   simp only [eh]at h ⊢;split at h
   ·rename_i f tmps ps as bd I J K B
    try simp only [B]
    split at h
    ·rename_i u
     try simp only [u,if_true]
     split at h
     ·rename_i j s y
      try simp only [pz z m l _ _ _ v y]
      exact h
     ·simp at h
    ·simp at h
   ·simp at h
end
structure TB where
 get:Nat→Option aJ
 rn:Nat→List V→aj→Option (Option (V × aj))
 ok:∀ f a,get f=aa a→∀ args H,rn f args H=ab
instance:CoeFun TB fun _=>Nat→Option aJ:=⟨TB.get⟩
section
variable(tab:TB)
abbrev CF(m d:Nat):cL:=eh tab.get tab.rn m d
def Ev(c:Callee)(args:List V)(H:aj)(r:V)(H':aj):Prop:=∃ m d,CF tab m d c args H=aa (r,H')
def bh(f:Nat)(args:List V)(r:V):Prop:=∃ b H',Ev tab (.fn f) args [] b H'∧iA deep H' b=aa r
def WP(fn:Nat)(ro:Option Nat)(b:List cU)(s:St)(Q:Option aE→St→Prop):Prop:=
 ∃ n m d j s',run (CF tab m d) fn n ro b s=aa (j,s')∧Q j s'
def jf(s:St)(op:cQ)(K:V→St→Prop):Prop:=
 match op with
 | .call f args h=>
  if h then ∃ r H',Ev tab (.fn f) (dm s.aw args) s.heap r H'∧K r { s with heap:=H' }
  else ∃ b r,bg (cC deep s.heap) (dm s.aw args)=aa b∧bh tab f b r∧K r { s with heap:=(dm s.aw args).foldl (mkV deep) s.heap }
 | .bW x args _=>∃ c as r H',bQ (x.ev s.aw) (dm s.aw args)=aa (c,as)∧Ev tab c as s.heap r H'∧K r { s with heap:=H' }
 | .recover=>K (.c (.f .kU)) s| .defer x args=>∃ f as,bQ (x.ev s.aw) (dm s.aw args)=aa (.fn f,as)∧K .top { s with defs:=.fn f as::s.defs }
 | op=>∃ v H',bl s.aw s.heap op=aa (v,H')∧K v { s with heap:=H' }
def uM:List aP→St→(St→Prop)→Prop
 | [],s,K=>K s
 | o::os,s,K=>match wanted s.aw o.g with
  | some ae=>jf tab s o.op fun v s'=>uM os { s' with aw:=ja s'.aw o.dst v } K
  | some ag=>uM os { s with aw:=ja s.aw o.dst (.t []) } K
  | none=>False
variable{tab}
variable{c:Callee}{args:List V}{H H':aj}{r:V}
theorem jl{m g d b:Nat}(l:m≤g)(j:d≤b):xa (CF tab m d) (CF tab g b):=sK l d b j
theorem Ev.det{q:V}{b:aj}(h1:Ev tab c args H r H')(h2:Ev tab c args H q b):r=q∧H'=b:=by
 obtain⟨m,d,h1⟩:=h1;obtain⟨l,g,h2⟩:=h2;have s:=jl (tab:=tab) (aqU m l) (aqU d g) _ _ _ _ h1;have j:=jl (tab:=tab) (aqL m l) (aqL d g) _ _ _ _ h2;rw [s]at j;simpa using j
theorem bh.det{f:Nat}{d:V}(h1:bh tab f args r)(h2:bh tab f args d):r=d:=by
 obtain⟨a,l,g,h1⟩:=h1;obtain⟨b,m,j,h2⟩:=h2;obtain⟨rfl,rfl⟩:=g.det j;rw [h1]at h2;simpa using h2
theorem Mk{s:St}{op:cQ}{K:V→St→Prop}(h:jf tab s op K):∃ m d v s',eE (CF tab m d) s op=aa (v,s')∧K v s':=by
 cases op with
 | call f args b=>
  simp only [jf]at h;split at h
  ·rename_i l;obtain⟨r,H',⟨m,d,g⟩,j⟩:=h;exact⟨m,d,r,_,by simp [eE,gh,l,g],j⟩
  ·rename_i l;obtain⟨y,r,h0,⟨z,u,⟨m,d,g⟩,j⟩,q⟩:=h;exact⟨m,d,r,_,by simp [eE,gh,l,eb,h0,g,j],q⟩
 | bW x args b=>
  obtain⟨c,as,r,H',h0,⟨m,d,g⟩,j⟩:=h;exact⟨m,d,r,_,by simp [eE,h0,g],j⟩
 | recover=>exact⟨0,0,_,_,rfl,h⟩
 | «defer» x args=>
  obtain⟨f,as,h0,g⟩:=h;exact⟨0,0,.top,_,by simp [eE,h0],g⟩
 | _=>
  obtain⟨v,H',h0,g⟩:=h;exact⟨0,0,v,_,by simp [eE,h0],g⟩
theorem iM:∀(os:List aP) (s:St) {K:St→Prop},uM tab os s K→∃ m d s',fh (CF tab m d) os s=aa s'∧K s'
 | [],s,K,h=>⟨0,0,s,rfl,h⟩
 | o::os,s,K,h=>by
  simp only [uM]at h;split at h
  ·rename_i q;obtain⟨m,d,v,A,y,z⟩:=Mk h;obtain⟨g,b,s',j,l⟩:=iM os _ z;refine⟨max m g,max d b,s',?_,l⟩;have u:=wW (jl (tab:=tab) (aqU m g) (aqU d b)) y;have x:=dz (jl (tab:=tab) (aqL m g) (aqL d b)) os _ j;simp only [fh,fm,q,u,x]
  ·rename_i q;obtain⟨g,b,s',j,l⟩:=iM os _ h;exact⟨g,b,s',by simp only [fh,fm,q,j],l⟩
  ·exact h.elim
variable{fn:Nat}{ro:Option Nat}{k:List cU}{s:St}{Q:Option aE→St→Prop}{a b:aE}
theorem jn{g:List cU}{b:List cU}{s':St}(h:WP tab fn ro b s' Q)
  (u:∀ m d n,run (CF tab m d) fn (n+1) ro g s=run (CF tab m d) fn n ro b s'):WP tab fn ro g s Q:=by
 obtain⟨n,m,d,j,v,l,q⟩:=h;exact⟨n+1,m,d,j,v,by rw [u,l],q⟩
theorem cD(h:Q ab s):WP tab fn ro [] s Q:=⟨1,0,0,ab,s,rfl,h⟩
theorem av{i:Nat}(h:WP tab fn ro k s Q):WP tab fn ro (.inBlock i::k) s Q:=jn h fun _ _ _=>rfl
theorem qE(h:WP tab fn ro (.code a::.inLoop a::k) s Q):WP tab fn ro (.inLoop a::k) s Q:=jn h fun _ _ _=>rfl
theorem aO(h:WP tab fn ro k s Q):WP tab fn ro (.code .skip::k) s Q:=jn h fun _ _ _=>rfl
theorem Ze{l:Nat}(h:WP tab fn ro k s Q):WP tab fn ro (.code (.label l)::k) s Q:=jn h fun _ _ _=>rfl
theorem zY(h:WP tab fn ro (.code a::.inScope a::k) s Q):WP tab fn ro (.code (.scope a)::k) s Q:=jn h fun _ _ _=>rfl
theorem ak(h:WP tab fn ro (.code a::.code b::k) s Q):WP tab fn ro (.code (.seq a b)::k) s Q:=jn h fun _ _ _=>rfl
theorem aG{i:Nat}(h:WP tab fn ro (.code a::.inBlock i::k) s Q):WP tab fn ro (.code (.block i a)::k) s Q:=jn h fun _ _ _=>rfl
theorem aB(h:Q (aa .ret) s):WP tab fn ro (.code .ret::k) s Q:=⟨1,0,0,aa .ret,s,rfl,h⟩
theorem bH{i:Nat}{k':List cU}(b:exitTo i k=aa k')(h:WP tab fn ro k' s Q):WP tab fn ro (.code (.exit i)::k) s Q:=
 jn h fun _ _ _=>by simp only [run,b]
theorem DX{c:Arg}{v:Bool}(hc:c.ev s.aw=.c (.f (.bool v)))(h:WP tab fn ro (.code (if v then a else b)::k) s Q) :
  WP tab fn ro (.code (.cond c a b)::k) s Q:=jn h fun _ _ _=>by simp only [run,hc]
theorem aq{c:Arg}(hc:c.ev s.aw=.c (.f (.bool ae)))(h:WP tab fn ro (.code a::k) s Q) :
  WP tab fn ro (.code (.cond c a b)::k) s Q:=DX hc h
theorem aC{c:Arg}(hc:c.ev s.aw=.c (.f (.bool ag)))(h:WP tab fn ro (.code b::k) s Q) :
  WP tab fn ro (.code (.cond c a b)::k) s Q:=DX hc h
theorem ub{m l d j n g:Nat}{b:List cU}{x:Option aE × St}(u:m≤l)(q:d≤j)(v:n≤g)
  (h:run (CF tab m d) fn n ro b s=aa x):run (CF tab l j) fn g ro b s=aa x:=
 pz (jl u q) n g ro b s v h
theorem al{ops:List aP}(g:ro=ab∨ops.all (·.op.dJ)=ae)(h:uM tab ops s fun s'=>WP tab fn ro k s' Q) :
  WP tab fn ro (.code (.region ops [])::k) s Q:=by
 obtain⟨m,d,s',x,n,q,b,j,A,y,z⟩:=iM ops s h;refine⟨n+1,max m q,max d b,j,A,?_,z⟩;have u:=dz (jl (tab:=tab) (aqU m q) (aqU d b)) ops _ x;have v:=ub (aqL m q) (aqL d b) (aft n) y;have l:(ro.isSome&&!ops.all (·.op.dJ))=ag:=by
  rcases g with rfl | g
  ·rfl
  ·rw [g];simp
 simp only [run,l,fK,u,v];simp
theorem cH(I:Nat→St→Prop)(n:Nat)(h0:I n s)
  (step:∀ n s,I n s→(∀ b s',b<n→I b s'→WP tab fn ro (.inLoop a::k) s' Q)→WP tab fn ro (.code a::.inLoop a::k) s Q) :
  WP tab fn ro (.code (.loop a)::k) s Q:=by
 have key:∀ n s,I n s→WP tab fn ro (.code a::.inLoop a::k) s Q:=by
  intro n;induction n using Nat.strongRecOn with
  | _ n l=>
   intro s j;exact step n s j fun b s' g d=>qE (l b g s' d)
 exact jn (key n s h0) fun _ _ _=>rfl
def Fin(tab:TB)(af:aJ)(r:V)(H':aj)(s:St):Prop:=
 ∃ m d b,dx (CF tab m d) s.defs s.heap=aa b∧results s.aw b af.results=aa r∧b=H'
theorem qX{f:Nat}{af:aJ}(z:tab f=aa af)(J:args.length=af.ps.length)
  (h:WP tab f ab [.code af.body] ⟨cE af.ps args .e,[],H⟩ fun _ s=>Fin tab af r H' s):Ev tab (.fn f) args H r H':=by
 obtain⟨n,m,d,j,s,B,A,v,L,F,I,rfl⟩:=h;obtain⟨M,l,q,u⟩:∃ M,m≤M∧A≤M∧n≤M:=⟨max (max m A) n,by omega,by omega,by omega⟩
 obtain⟨E,b,g⟩:∃ E,d≤E∧v≤E:=⟨max d v,by omega,by omega⟩
 refine⟨M,E+1,?_⟩;have x:run (CF tab M E) f M ab [.code af.body] ⟨cE af.ps args .e,[],H⟩=aa (j,s):=ub l b u B;have y:=iK (jl (tab:=tab) q g) _ _ F;have K:=tab.ok _ _ z args H;simp only [CF]at x y ⊢;simp only [eh,K,z,J,if_true,x,y,I,aq4]
def ry(res:List fV)(r:V)(s:St):Prop:=s.defs=[]∧∃ b,results s.aw s.heap res=aa b∧iA deep s.heap b=aa r
theorem bS{f:Nat}{ps:List P}{res:List fV}{body:aE}(x:tab f=aa ⟨ps,res,body⟩)(v:args.length=ps.length)
  (h:∀ Q:Option aE→St→Prop,(∀ j s,ry res r s→Q j s)→WP tab f ab [.code body] ⟨cE ps args .e,[],[]⟩ Q):bh tab f args r:=by
 have b:=h (fun _ s=>ry res r s) fun _ _ h=>h;obtain⟨n,m,d,j,s,g,u,y,l,q⟩:=b;exact⟨y,s.heap,qX x v ⟨n,m,d,j,s,g,0,0,s.heap,by rw [u];rfl,l,rfl⟩,q⟩
end
theorem ai{tab:TB}{fn:Nat}{ops:List aP}{b:aE}{k:List cU}{s:St}{Q:Option aE→St→Prop}(h:uM tab ops s fun s'=>WP tab fn ab (.code b::k) s' Q):WP tab fn ab (.code (.seq (.region ops []) b)::k) s Q:=ak (al (.inl rfl) h)
theorem bp{tab:TB}{fn:Nat}{ro:Option Nat}{a:aE}{c:Arg}{k:List cU}{s:St}{Q:Option aE→St→Prop}(hc:c.ev s.aw=.c (.f (.bool ag)))(h:WP tab fn ro k s Q):WP tab fn ro (.code (.cond c a .skip)::k) s Q:=aC hc (aO h)
section
set_option linter.unusedVariables false
def ahZ(g:Option (P × Bool))(r:T)(d j:Prop):Prop:=
 Option.rec (motive:=fun _=>Prop) d (fun l=>Prod.rec (motive:=fun _=>Prop) (fun p w=>zO p r fun v=>match v with
  | .c (.f (.bool b))=>Bool.rec (motive:=fun _=>Prop) (Bool.rec (motive:=fun _=>Prop) d j w) (Bool.rec (motive:=fun _=>Prop) j d w) b
  | .t []=>j
  | _=>False) l) g
theorem aaT{g:Option (P × Bool)}{r:T}{d l:Prop}(h:ahZ g r d l):(wanted r g=aa ae∧d)∨(wanted r g=aa ag∧l):=by
 cases g with
 | none=>exact .inl ⟨rfl,h⟩
 | some m=>
  obtain⟨p,w⟩:=m;change zO p r _ at h;rw [mu]at h;simp only [wanted];split at h
  ·rename_i b j;rw [j];cases b<;>cases w
   ·exact .inl ⟨rfl,h⟩
   ·exact .inr ⟨rfl,h⟩
   ·exact .inr ⟨rfl,h⟩
   ·exact .inl ⟨rfl,h⟩
  ·rename_i j;rw [j];exact .inr ⟨rfl,h⟩
  ·exact h.elim
abbrev Mj:=T→List dA→HT→Nat→Prop
def aaC(o:aP)(call:fj)(r:T)(d:List dA)(t:HT)(n:Nat)(k:Mj):Prop:=
 aP.rec (motive:=fun _=>Prop) (fun dst op g=>ahZ g r (anD op call r d t n fun v d t n=>akS dst r v fun r=>k r d t n) (akS dst r (.t []) fun r=>k r d t n)) o
theorem A0{call:cL}{bq:fj}(hc:nM call bq){o:aP}{r:T}{d:List dA}{H:aj}{t:HT}{k:Mj}(h:cT H t)(b:aaC o bq r d t H.length k) :
  ∃ s' j,fm call ⟨r,d,H⟩ o=aa s'∧cT s'.heap j∧k s'.aw s'.defs j s'.heap.length:=by
 obtain⟨dst,op,g⟩:=o;rcases aaT b with⟨l,b⟩ | ⟨l,b⟩
 ·obtain⟨v,q,H',j,s,u,m⟩:=agm hc op h b;rw [Ea]at m;exact⟨⟨ja r dst v,q,H'⟩,j,by simp only [fm,l,s],u,m⟩
 ·rw [Ea]at b;exact⟨⟨ja r dst (.t []),d,H⟩,t,by simp only [fm,l],h,b⟩
def anM(ops:List aP)(call:fj):T→List dA→HT→Nat→Mj→Prop:=
 List.rec (motive:=fun _=>T→List dA→HT→Nat→Mj→Prop) (fun r d t n k=>k r d t n) (fun o _ b r d t n k=>aaC o call r d t n fun r d t n=>b r d t n k) ops
theorem D7{call:cL}{bq:fj}(hc:nM call bq):∀ {ops:List aP} {r:T} {d:List dA} {H:aj} {t:HT} {k:Mj},cT H t→anM ops bq r d t H.length k →
  ∃ s' j,fh call ops ⟨r,d,H⟩=aa s'∧cT s'.heap j∧k s'.aw s'.defs j s'.heap.length
 | [],r,d,H,t,k,h,b=>⟨⟨r,d,H⟩,t,rfl,h,b⟩
 | o::ops,r,d,H,t,k,h,b=>by
  obtain⟨g,z,l,m,q⟩:=A0 hc h b;obtain⟨x,y,s,u,v⟩:=D7 hc (r:=g.aw) (d:=g.defs) (H:=g.heap) m q;exact⟨x,y,by simp only [fh,l];exact s,u,v⟩
structure sB where
 r:T
 d:List dA
 t:HT
 n:Nat
def yp(ops:List aP)(call:fj):T→List dA→HT→Nat→(List sB→Mj)→Prop:=
 List.rec (motive:=fun _=>T→List dA→HT→Nat→(List sB→Mj)→Prop) (fun r d t n k=>k [⟨r,d,t,n⟩] r d t n)
  (fun o _ q r d t n k=>aaC o call r d t n fun r' m u s=>q r' m u s fun ss j b l g=>k (⟨r,d,t,n⟩::ss) j b l g) ops
def ahB(s:St)(x:sB):Prop:=x.r=s.aw∧x.d=s.defs∧cT s.heap x.t∧x.n=s.heap.length
inductive sC:List St→List sB→Prop
 | nil:sC [] []
 | cons {s:St} {x:sB} {ss:List St} {xs:List sB} (h:ahB s x) (hs:sC ss xs):sC (s::ss) (x::xs)
theorem sC.get{ss:List St}{xs:List sB}(h:sC ss xs):∀(i:Nat) (x:sB),xs[i]?=aa x→∃ s,ss[i]?=aa s∧ahB s x:=by
 induction h with
 | nil=>intro i x b;simp at b
 | cons h g d=>
  intro i x b;cases i with
  | zero=>simp at b;subst b;exact⟨_,rfl,h⟩| succ i=>simpa using d i x (by simpa using b)
theorem uo{call:cL}{bq:fj}(hc:nM call bq):∀ {ops:List aP} {r:T} {d:List dA} {H:aj} {t:HT} {k:List sB→Mj},cT H t→yp ops bq r d t H.length k →
  ∃ ss xs s' l,dK call ops ⟨r,d,H⟩=aa ss∧sC ss xs∧ss.getLast?=aa s'∧cT s'.heap l∧k xs s'.aw s'.defs l s'.heap.length
 | [],r,d,H,t,k,h,b=>⟨[⟨r,d,H⟩],[⟨r,d,t,H.length⟩],⟨r,d,H⟩,t,rfl,.cons ⟨rfl,rfl,h,rfl⟩ .nil,rfl,h,b⟩
 | o::ops,r,d,H,t,k,h,b=>by
  obtain⟨g,B,m,q,s⟩:=A0 hc h b;obtain⟨ss,xs,z,A,u,v,j,x,y⟩:=uo hc (r:=g.aw) (d:=g.defs) (H:=g.heap) q s;refine⟨⟨r,d,H⟩::ss,⟨r,d,t,H.length⟩::xs,z,A,by simp only [dK,m];rw [u],.cons ⟨rfl,rfl,h,rfl⟩ v,?_,x,y⟩;cases ss with
  | nil=>simp at j| cons a as=>simpa using j
def Ef(ops:List aP)(xs:List sB)(c:Nat × Nat):Bool:=
 match ops[c.1]?,xs[c.1]?,xs[c.2]? with
 | some o,aa s,aa s'=>match wanted s.r o.g with
  | some ag=>ae
  | _=>match aaW s.r s.t.get s.n o.op,aaW s.r s'.t.get s'.n o.op with
   | some (v,_),aa (b,_)=>v.beq b| _,_=>ag
 | _,_,_=>ag
theorem aaa{ops:List aP}{ss:List St}{xs:List sB}(h:sC ss xs){c:Nat × Nat}(hc:Ef ops xs c=ae):sameAt ops ss c=ae:=by
 unfold Ef at hc;split at hc
 ·rename_i o x N y z A;obtain⟨s,l,m,J,q,u⟩:=h.get _ _ z;obtain⟨s',E,K,L,F,H⟩:=h.get _ _ A;unfold sameAt;rw [y,l,E];simp only;rw [←m];split at hc
  ·rename_i B;rw [B]
  ·split at hc
   ·rename_i v e M I g j;rw [q,u]at g;rw [F,H]at j;have b:=yv x.r s.heap o.op;rw [g]at b;have d:=yv x.r s'.heap o.op;rw [j]at d;rw [←b,←d];split
    ·rfl
    ·exact hc
   ·simp at hc
 ·simp at hc
def ph(ops:List aP)(gK:List (Nat × Nat))(call:fj)(r:T)(d:List dA)(t:HT)(n:Nat)(k:Mj):Prop:=
 List.rec (motive:=fun _=>Prop) (anM ops call r d t n k) (fun _ _ _=>yp ops call r d t n fun xs r d t n=>mT (gK.all (Ef ops xs)) (k r d t n)) gK
theorem CM{call:cL}{bq:fj}(hc:nM call bq){ops:List aP}{gK:List (Nat × Nat)}{r:T}{d:List dA}{H:aj}{t:HT}{k:Mj}(h:cT H t)(b:ph ops gK bq r d t H.length k) :
  ∃ s' g,fK call ops gK ⟨r,d,H⟩=aa s'∧cT s'.heap g∧k s'.aw s'.defs g s'.heap.length:=by
 cases gK with
 | nil=>exact D7 hc h b
 | cons c cs=>
  have b:yp ops bq r d t H.length (fun xs r d t n=>mT ((c::cs).all (Ef ops xs)) (k r d t n)):=b;obtain⟨ss,xs,s',g,l,m,q,s,u⟩:=uo hc h b;obtain⟨j,v⟩:=iU u;refine⟨s',g,?_,s,v⟩;simp only [fK,l];rw [ba,q];rw [aqG]at j ⊢;exact fun c hc=>aaa m (j c hc)
abbrev Go1:=Option Nat→List cU→Mj
abbrev afe:=Option aE→Mj
abbrev cw:=fj→Nat→afe→Go1→Option Nat→List cU→Mj
def Dt:cw:=fun _ _ _ go ro rest r d t n=>go ro rest r d t n
def afo(ops:List aP)(gK:List (Nat × Nat)):cw:=fun call _ _ go ro rest r d t n=>
 Option.rec (motive:=fun _=>Prop) (ph ops gK call r d t n fun r d t n=>go ro rest r d t n)
  (fun _=>mT (ops.all (·.op.dJ)) (ph ops gK call r d t n fun r d t n=>go ro rest r d t n)) ro
def ao_(a b:aE)(_ _:cw):cw:=fun _ _ _ go ro rest r d t n=>go ro (.code a::.code b::rest) r d t n
def Yn(c:Arg)(a b:aE)(_ _:cw):cw:=fun _ _ _ go ro rest r d t n=>ob c r fun v=>match v with
 | .c (.f (.bool v))=>Bool.rec (motive:=fun _=>Prop) (go ro (.code b::rest) r d t n) (go ro (.code a::rest) r d t n) v
 | _=>False
def ajU(id:Nat)(a:aE)(_:cw):cw:=fun _ _ _ go ro rest r d t n=>go ro (.code a::.inBlock id::rest) r d t n
def am2(a:aE)(_:cw):cw:=fun _ _ _ go ro rest r d t n=>go ro (.code a::.inLoop a::rest) r d t n
def xq(f:Arg)(ps:List P)(as bd:aE)(_ _:cw):cw:=fun call fn _ go ro rest r d t n=>
 Option.rec (motive:=fun _=>Prop)
  (mY (.eO ae) t n fun t b=>mY (.lp fn r ps as bd .ready ab n) t b fun t m=>ob f r fun x=>
   pc (bQ x [.c (.yl b)]) fun j=>Prod.rec (motive:=fun _=>Prop) (fun c q=>Callee.rec (motive:=fun _=>Prop)
    (fun g=>call (.fn g) q t m fun _ t l=>go ab (.ir b::rest) r (.gm n::d) t l) (fun _=>False) c) j)
  (fun _=>False) ro
def Yo(id:Nat):cw:=fun _ _ b go ro rest r d t n=>
 Option.rec (motive:=fun _=>Prop) (Option.rec (motive:=fun _=>Prop) False (fun _=>b (aa (.exit id)) r d t n) ro) (fun k=>go ro k r d t n) (exitTo id rest)
def ao':cw:=fun _ _ b _ _ _ r d t n=>b (aa .ret) r d t n
def ao9:cw:=fun _ _ _ _ _ _ _ _ _ _=>False
def ajW(a:aE)(_:cw):cw:=fun _ _ _ go ro rest r d t n=>go ro (.code a::.inScope a::rest) r d t n
def ajV(_:Nat):cw:=Dt
def am1(l:Nat):cw:=fun _ _ _ go ro rest r d t n=>pc (gotoIn l rest) fun k=>go ro k r d t n
def zE(c:aE):cw:=aE.rec (motive:=fun _=>cw) Dt afo ao_ Yn ajU am2 xq Yo ao' ao9 ajW ajV am1 c
def ake(_:Nat):cw:=Dt
def ank(c:aE):cw:=fun _ _ _ go ro rest r d t n=>go ro (.code c::.inLoop c::rest) r d t n
def B8(b:Nat):cw:=fun _ _ _ go ro rest r d t n=>gu b t fun bj=>match bj with
 | .lp f tmps ps as bd st pending g=>mT (match st with | .busy=>ag | _=>ae) (fZ (.lp f tmps ps as bd .exhausted pending g) t b fun t=>match pending with
  | none=>go ro rest r d t n| some .ret=>go ro (.code .ret::rest) r d t n| some (.exit id)=>go ro (.code (.exit id)::rest) r d t n
  | some _=>False)
 | _=>False
def ahL:cw:=fun _ _ _ go ro rest r d t n=>Option.rec (motive:=fun _=>Prop) False (fun b=>gu b t fun bj=>match bj with
 | .lp f tmps ps as bd .ready pending g=>fZ (.lp f tmps ps as bd .busy pending g) t b fun t=>go ro rest r d t n
 | _=>False) ro
def akf(_:aE):cw:=Dt
def ahO(x:cU):cw:=cU.rec (motive:=fun _=>cw) zE ake ank B8 ahL akf x
def runK(call:fj)(fn:Nat)(b:afe)(m:Nat):Go1:=
 Nat.rec (motive:=fun _=>Go1) (fun _ _ _ _ _ _=>False)
  (fun _ j ro g r d t n=>List.rec (motive:=fun _=>Prop) (b ab r d t n) (fun x rest _=>ahO x call fn b j ro rest r d t n) g) m
def amH(call:cL)(fn m:Nat)(ro:Option Nat)(g:List cU)(s:St)(d:afe):Prop:=
 ∃ b s' j,run call fn m ro g s=aa (b,s')∧cT s'.heap j∧d b s'.aw s'.defs j s'.heap.length
theorem Ed{call:cL}{bq:fj}(hc:nM call bq)(fn:Nat)(j:afe):∀(m:Nat) (ro:Option Nat) (s:List cU) (r:T) (d:List dA) (H:aj) (t:HT),
  cT H t→runK bq fn j m ro s r d t H.length→amH call fn m ro s ⟨r,d,H⟩ j:=by
 intro m;induction m with
 | zero=>intro ro s r d H t h q;exact q.elim
 | succ m ih=>
  intro ro s r d H t h q;have go:∀ {y} {s':St} {E:HT},run call fn (m+1) ro s ⟨r,d,H⟩=run call fn m ro y s'→cT s'.heap E→runK bq fn j m ro y s'.aw s'.defs E s'.heap.length→amH call fn (m+1) ro s ⟨r,d,H⟩ j:=by
   intro y s' E u z B;obtain⟨L,N,O,W,X,Y⟩:=ih ro y s'.aw s'.defs s'.heap E z B;exact⟨L,N,O,by rw [u];exact W,X,Y⟩
  cases s with
  | nil=>exact⟨ab,⟨r,d,H⟩,t,rfl,h,q⟩
  | cons x rest=>
   have q:ahO x bq fn j (runK bq fn j m) ro rest r d t H.length:=q;cases x with
   | inBlock id=>exact go (s':=⟨r,d,H⟩) (by simp only [run]) h q
   | inLoop c=>exact go (s':=⟨r,d,H⟩) (by simp only [run]) h q
   | inScope c=>exact go (s':=⟨r,d,H⟩) (by simp only [run]) h q
   | ir b=>
    have q:B8 b bq fn j (runK bq fn j m) ro rest r d t H.length:=q;unfold B8 at q;obtain⟨bj,u,z⟩:=dD q;rw [h]at u;have u:H[b]?=aa bj:=u;split at z
    ·rename_i f tmps ps as bd st pending F _;obtain⟨B,z⟩:=iU z;obtain⟨E,I,A⟩:=dV h z;have J:st≠.busy:=by rintro rfl;simp at B
     have M:H.length=(H.set b (.lp f tmps ps as bd .exhausted pending F)).length:=by simp
     rw [M]at A;split at A
     ·exact go (s':=⟨r,d,H.set b (.lp f tmps ps as bd .exhausted ab F)⟩) (by simp only [run,u,aW J]) I A
     ·exact go (s':=⟨r,d,H.set b (.lp f tmps ps as bd .exhausted (aa .ret) F)⟩) (by simp only [run,u,aW J]) I A
     ·exact go (s':=⟨r,d,H.set b (.lp f tmps ps as bd .exhausted (aa (.exit _)) F)⟩) (by simp only [run,u,aW J]) I A
     ·exact A.elim
    ·exact z.elim
   | lj=>
    have q:ahL bq fn j (runK bq fn j m) ro rest r d t H.length:=q;cases ro with
    | none=>exact q.elim
    | some b=>
     obtain⟨bj,u,z⟩:=dD q;rw [h]at u;have u:H[b]?=aa bj:=u;split at z
     ·rename_i f tmps ps as bd pending F _;obtain⟨E,I,A⟩:=dV h z;have M:H.length=(H.set b (.lp f tmps ps as bd .busy pending F)).length:=by simp
      rw [M]at A;exact go (s':=⟨r,d,H.set b (.lp f tmps ps as bd .busy pending F)⟩) (by simp only [run,u]) I A
     ·exact z.elim
   | code c=>
    cases c with
    | skip=>exact go (s':=⟨r,d,H⟩) (by simp only [run]) h q
    | label l=>exact go (s':=⟨r,d,H⟩) (by simp only [run]) h q
    | scope a=>exact go (s':=⟨r,d,H⟩) (by simp only [run]) h q
    | goto l=>
     obtain⟨k',K,q⟩:=iH (show pc (gotoIn l rest) (fun k'=>runK bq fn j m ro k' r d t H.length) from q);exact go (s':=⟨r,d,H⟩) (by simp only [run,K]) h q
    | bad=>exact q.elim| ret=>exact⟨aa .ret,⟨r,d,H⟩,t,rfl,h,q⟩| seq a b=>exact go (s':=⟨r,d,H⟩) (by simp only [run]) h q
    | block id a=>exact go (s':=⟨r,d,H⟩) (by simp only [run]) h q
    | loop a=>exact go (s':=⟨r,d,H⟩) (by simp only [run]) h q
    | exit id=>
     have q:Yo id bq fn j (runK bq fn j m) ro rest r d t H.length:=q;unfold Yo at q;cases K:exitTo id rest with
     | some k'=>
      rw [K]at q;exact go (s':=⟨r,d,H⟩) (by simp only [run,K]) h q
     | none=>
      rw [K]at q;cases ro with
      | none=>exact q.elim| some b=>exact⟨aa (.exit id),⟨r,d,H⟩,t,by simp only [run,K,Option.isSome_some,if_true],h,q⟩
    | cond c a b=>
     have q:Yn c a b (zE a) (zE b) bq fn j (runK bq fn j m) ro rest r d t H.length:=q;unfold Yn at q;rw [di]at q;split at q
     ·rename_i v U;cases v with
      | true=>exact go (s':=⟨r,d,H⟩) (by simp only [run,U,if_true]) h q
      | false=>exact go (s':=⟨r,d,H⟩) (by simp only [run,U,aqw,if_false]) h q
     ·exact q.elim
    | region ops gK=>
     have key:(ro.isSome&&!ops.all (·.op.dJ))=ag∧ph ops gK bq r d t H.length (fun r d t n=>runK bq fn j m ro rest r d t n):=by
      cases ro with
      | none=>exact⟨rfl,q⟩
      | some b=>
       obtain⟨u,z⟩:=iU (show mT (ops.all (·.op.dJ)) (ph ops gK bq r d t H.length (fun r d t n=>runK bq fn j m (aa b) rest r d t n)) from q);exact⟨by rw [u];rfl,z⟩
     obtain⟨s',E,u,z,B⟩:=CM hc h key.2;exact go (s':=s') (by simp only [run,key.1,aqw,if_false,u]) z B
    | fu f ps as bd=>
     have q:xq f ps as bd (zE as) (zE bd) bq fn j (runK bq fn j m) ro rest r d t H.length:=q;cases ro with
     | some b=>exact q.elim
     | none=>
      unfold xq at q;obtain⟨t1,u,q⟩:=gV h q;obtain⟨t2,z,q⟩:=gV u q;rw [di]at q;obtain⟨⟨c,vs⟩,B,q⟩:=iH q;have Q:(H++[bo.eO ae]).length=H.length+1:=by simp
      have S:H++[bo.eO ae]++[bo.lp fn r ps as bd .ready ab H.length]=H++[.eO ae,.lp fn r ps as bd .ready ab H.length]:=by simp
      rw [Q]at B;rw [S]at z;cases c with
      | yield b=>exact q.elim
      | fn g=>
       have q:bq (.fn g) vs t2 (H++[bo.eO ae]++[bo.lp fn r ps as bd .ready ab H.length]).length (fun _ t n'=>runK bq fn j m ab (.ir (H++[bo.eO ae]).length::rest) r (.gm H.length::d) t n'):=q;rw [S,Q]at q;obtain⟨v,H',E,I,A,Z⟩:=hc _ _ _ _ _ z q;exact go (s':=⟨r,.gm H.length::d,H'⟩) (by simp only [run,Option.isSome_none,aqw,if_false,B,I]) A Z
def DB(call:fj)(ds:List dA):HT→Nat→(HT→Nat→Prop)→Prop:=
 List.rec (motive:=fun _=>HT→Nat→(HT→Nat→Prop)→Prop) (fun t n k=>k t n)
  (fun x _ d t n k=>dA.rec (motive:=fun _=>Prop)
   (fun b=>gu b t fun bj=>match bj with
    | .eO ae=>fZ (.eO ag) t b fun t=>d t n k
    | _=>False)
   (fun f args=>Bool.rec (motive:=fun _=>Prop) (call (.fn f) args t n fun _ t n=>d t n k) False (Nat.beq f e9)) x) ds
theorem sR{call:cL}{bq:fj}(hc:nM call bq):∀ {ds:List dA} {H:aj} {t:HT} {k:HT→Nat→Prop},cT H t→DB bq ds t H.length k→∃ H' j,dx call ds H=aa H'∧cT H' j∧k j H'.length
 | [],H,t,k,h,d=>⟨H,t,rfl,h,d⟩
 | .gm b::ds,H,t,k,h,d=>by
  obtain⟨bj,g,l⟩:=dD d;rw [h]at g;have g:H[b]?=aa bj:=g;split at l
  ·obtain⟨z,q,m⟩:=dV h l;have A:H.length=(H.set b (.eO ag)).length:=by simp
   have m:DB bq ds z H.length k:=m;rw [A]at m;obtain⟨H',j,s,u,x⟩:=sR hc q m;exact⟨H',j,by simp only [dx,g];exact s,u,x⟩
  ·exact l.elim
 | .fn f args::ds,H,t,k,h,d=>by
  have d:Bool.rec (motive:=fun _=>Prop) (bq (.fn f) args t H.length fun _ t n=>DB bq ds t n k) False (Nat.beq f e9):=d;cases y:Nat.beq f e9 with
  | true=>rw [y]at d;exact d.elim
  | false=>
   rw [y]at d;obtain⟨v,B,z,g,l,q⟩:=hc _ _ H t _ h d;obtain⟨H',j,s,u,x⟩:=sR hc (ds:=ds) l q;exact⟨H',j,by simp only [dx,aW (Nat.ne_of_beq_eq_false y),g];exact s,u,x⟩
def anP(r:T)(t:HT)(a:fV)(k:V→Prop):Prop:=fV.rec (motive:=fun _=>Prop)
 (fun p=>zO p r fun v=>match v with
  | .t _=>False
  | v=>k v)
 (fun p m=>zO p r fun v=>ldK t m v k) a
theorem agr{H:aj}{t:HT}(h:cT H t){r:T}(a:fV)(k:V→Prop)(b:anP r t a k):∃ v,cI r H a=aa v∧k v:=by
 cases a with
 | tmp p=>
  change zO p r _ at b;rw [mu]at b;simp only [cI];cases d:r.get p with
  | t g=>rw [d]at b;exact b.elim| _=>rw [d]at b;exact⟨_,rfl,b⟩
 | cell p m=>
  change zO p r _ at b;rw [mu]at b;exact Zi h b
def AG(r:T)(t:HT)(b:List fV)(k:V→Prop):Prop:=xB (anP r t) b fun vs=>match vs with
 | [v]=>k v| vs=>k (.t vs)
theorem AH{H:aj}{t:HT}(h:cT H t){r:T}{g:List fV}{k:V→Prop}(m:AG r t g k):∃ v,Km.results r H g=aa v∧k v:=by
 obtain⟨j,l,d⟩:=iB (agr h) m;unfold Km.results;rw [l];split at d
 ·exact⟨_,rfl,d⟩
 ·rename_i b;refine⟨.t j,?_,d⟩
  match j,b with
  | [v],b=>exact absurd rfl (b v)| [],_=>rfl| _::_::_,_=>rfl
def fnK(tab:TB)(m:Nat)(call:fj)(f:Nat)(args:List V)(t:HT)(n:Nat)(k:V→HT→Nat→Prop):Prop:=
 pc (tab.get f) fun af=>aJ.rec (motive:=fun _=>Prop) (fun ps b body=>gR args.length ps.length (rZ ps args .e fun r=>
  runK call f (fun _ r d t n=>DB call d t n fun t n=>AG r t b fun v=>k v t n) m ab [.code body] r [] t n)) af
def aaY(m:Nat)(call:fj)(b:Nat)(args:List V)(t:HT)(n:Nat)(k:V→HT→Nat→Prop):Prop:=
 gu b t fun bj=>match bj with
  | .lp f tmps ps as bd _ _ _=>gR args.length ps.length (rZ ps args tmps fun r=>
    runK call f (fun q _ d t n=>mT d.isEmpty (gu b t fun bj=>match bj with
     | .lp v g s as' l _ _ u=>match q with
      | none=>fZ (.lp v g s as' l .ready ab u) t b fun t=>k (.c (.f (.bool ae))) t n
      | some j=>fZ (.lp v g s as' l .done (aa j) u) t b fun t=>k (.c (.f (.bool ag))) t n
     | _=>False)) m (aa b) [.code as,.lj,.code bd] r [] t n)
  | _=>False
def bq(tab:TB)(m:Nat)(d:Nat):fj:=
 Nat.rec (motive:=fun _=>fj) (fun _ _ _ _ _=>False)
  (fun _ g c args t n k=>Callee.rec (motive:=fun _=>Prop) (fun f=>Bool.rec (motive:=fun _=>Prop) (fnK tab m g f args t n k) (Option.rec (motive:=fun _=>Prop) (afW args t n k) (fun _=>False) (tab.get e9)) (Nat.beq f e9)) (fun b=>aaY m g b args t n k) c) d
theorem Yq(tab:TB)(N:∀ args H,tab.get e9=ab→tab.rn e9 args H=rn e9 args H)(m:Nat):∀ g,nM (eh tab.get tab.rn m g) (bq tab m g):=by
 intro g;induction g with
 | zero=>intro c args H t k h d;exact d.elim
 | succ g J=>
  intro c args H t k h d;cases c with
  | fn f=>
   have d:Bool.rec (motive:=fun _=>Prop) (fnK tab m (bq tab m g) f args t H.length k) (Option.rec (motive:=fun _=>Prop) (afW args t H.length k) (fun _=>False) (tab.get e9)) (Nat.beq f e9):=d;cases E:Nat.beq f e9 with
   | true=>
    rw [E]at d;have L:=arq E;subst L;cases I:tab.get e9 with
    | some _=>rw [I]at d;exact d.elim
    | none=>
     rw [I]at d;obtain⟨v,H',K,q,x,y⟩:=afX h d;exact⟨v,H',K,by simp only [eh,N _ _ I,q],x,y⟩
   | false=>
   rw [E]at d;have M:=Nat.ne_of_beq_eq_false E;obtain⟨af,q,d⟩:=iH (show fnK tab m (bq tab m g) f args t H.length k from d);obtain⟨ps,O,body⟩:=af;obtain⟨x,d⟩:=cW d;rw [nC]at d;obtain⟨u,s',K,y,z,d⟩:=Ed J f _ m ab [.code body] _ [] H t h d;obtain⟨H',l,B,s,d⟩:=sR J z d;obtain⟨v,A,d⟩:=AH s d;exact⟨v,H',l,by simp only [eh,tab.ok _ _ q,q,x,if_true,y,B,A];rfl,s,d⟩
  | yield b=>
   obtain⟨bj,q,d⟩:=dD (show aaY m (bq tab m g) b args t H.length k from d);rw [h]at q;have q:H[b]?=aa bj:=q;split at d
   ·obtain⟨x,d⟩:=cW d;rw [nC]at d;obtain⟨u,s',K,y,z,d⟩:=Ed J _ _ m (aa b) _ _ [] H t h d;obtain⟨B,d⟩:=iU d;obtain⟨blk',s,d⟩:=dD d;rw [z]at s;have s:s'.heap[b]?=aa blk':=s;split at d
    ·cases u with
     | none=>
      obtain⟨l,A,F⟩:=dV z d;exact⟨_,_,l,by simp only [eh,q,x,if_true,y,B,s];rfl,A,by rw [aqE];exact F⟩
     | some j=>
      obtain⟨l,A,F⟩:=dV z d;exact⟨_,_,l,by simp only [eh,q,x,if_true,y,B,s];rfl,A,by rw [aqE];exact F⟩
    ·exact d.elim
   ·exact d.elim
def isR(r:V)(v:V)(t:HT)(_:Nat):Prop:=aj6 t v fun y=>y=r
theorem Z1{tab:TB}(s:∀ args H,tab.get e9=ab→tab.rn e9 args H=rn e9 args H){m d f:Nat}{args:List V}{r:V}(h:bq tab m d (.fn f) args .e 0 (isR r)=(r=r)):bh tab f args r:=by
 have h:bq tab m d (.fn f) args .e ([]:aj).length (isR r):=by rw [List.length_nil,h]
 obtain⟨v,H',u,b,g,j⟩:=Yq tab s m d (.fn f) args [] .e (isR r) cT.nil h;obtain⟨y,l,q⟩:=DF g v _ j;exact⟨v,H',⟨m,d,b⟩,by rw [l,q]⟩
end
end Km
