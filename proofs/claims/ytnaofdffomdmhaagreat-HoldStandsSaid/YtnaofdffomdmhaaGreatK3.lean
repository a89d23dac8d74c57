/-
  Our own small machine for Go code by value, held ub ta model: part 3. No program in GK.
-/
import Derived.Test.YtnaofdffomdmhaaGreatK2
import Derived.Orders
import Derived.Test.YtnaofdffomdmhaaGreatK1
open Option renaming some → aa,none → ab
open Bool renaming true → ae,false → ag
open List renaming mem_filter → auS, mem_range → avb, all_eq_true → aun, eq_nil_of_length_eq_zero → aud, mem_of_getElem? → aue, getElem?_eq_getElem → asZ, getElem?_eq_some_iff → atu, getElem?_set_ne → aft, getElem?_append_right → atZ, getElem?_eq_none → avc, getElem?_drop → auj, length_drop → auf, length_set → aul
open Bool renaming and_eq_true → atI, not_eq_true' → auZ, false_eq_true → aub, true_and → auU, eq_iff_iff → au6
open Option renaming map_some → auP, map_eq_some_iff → at0, map_map → avG
open Nat renaming le_refl → at3, zero_le → avp, le_of_ble_eq_true → avC, eq_of_beq_eq_true → avd, add_zero → avD, le_max_left → auG, le_max_right → aut
open Option.some renaming injEq → At
open Prod.mk renaming injEq → at1
set_option linter.unusedVariables false
set_option linter.constructorNameAsVariable false
set_option linter.unusedSimpArgs false
set_option linter.unusedSectionVars false
set_option maxRecDepth 100000
namespace Km
open Go
section
variable{Q:Program}{σ:Nat→FuncId}{X:Wd}{call:cR}
variable{n:Nat}{ops:Array Oper}{aos:List aP}{iA:List (Nat × Nat)}{st:Nat→St}
def LD(b:Array Bool)(j:Nat):Prop:=b.getD j ag=ae
theorem aa3{b:Array Bool}{i:Nat}(hi:i<b.size):LD (b.setIfInBounds i ae)=fun j=>LD b j∨j=i:=by
 funext j;apply propext;unfold LD;by_cases h:i=j
 ·subst h;simp [hi]
 ·have:j≠i:=fun e=>h e.symm;simp [Array.getD_eq_getD_getElem?,Array.getElem?_setIfInBounds_ne h,this]
theorem Ep{b:Array Bool}{i:Nat}(h:i ∈ Region.ready .any ops b):i<ops.size∧¬ LD b i∧∃ o,ops[i]?=aa o∧∀ e ∈ o.after.toList,Region.binds .any e=ae→LD b e.on:=by
 unfold Region.ready at h;simp only [auS,avb,atI,auZ]at h;obtain⟨l,d,j⟩:=h;refine⟨l,fun g=>?_,?_⟩
 ·unfold LD at g;simp only [Array.getD_eq_getD_getElem?]at d g;cases m:b[i]? with
  | none=>rw [m]at d;simp at d| some bb=>rw [m]at d g;simp at d g;rw [d]at g;simp at g
 ·have q:=Array.getElem?_eq_getElem l;rw [q]at j;simp only [auP,Option.getD_some]at j;refine⟨ops[i],q,fun e u s=>?_⟩;rw [←Array.all_toList,aun]at j;have:=j e u;simpa [s,LD]using this
theorem acW(l:Ord ops.toList aos iA)(F:aos.length=ops.size){b:Array Bool}(B:b.size=ops.size){j:Nat}(z:j<ops.size)(y:¬ LD b j):Region.ready .any ops b≠[]:=by
 have key:∀ m,m<ops.size→¬ LD b m→∃ i,i ∈ Region.ready .any ops b:=by
  intro m;induction m using Nat.strongRecOn with
  | ind m E=>
   intro v g;have A:=Array.getElem?_eq_getElem v;by_cases d:∀ e ∈ ops[m].after.toList,Region.binds .any e=ae→LD b e.on
   ·refine⟨m,?_⟩;unfold Region.ready;simp only [auS,avb,atI,auZ,A,auP,Option.getD_some];refine⟨v,?_,?_⟩
    ·unfold LD at g;have u:m<b.size:=by omega
     simp [u]at g ⊢;exact g
    ·rw [←Array.all_toList,aun];intro e s;by_cases q:Region.binds .any e=ae
     ·have:=d e s q;unfold LD at this;simp [this]
     ·simp [q]
   ·simp only [Classical.not_forall]at d;obtain⟨e,s,q,x⟩:=d;have:=l.back m ops[m] (by omega) (by simp [v]) e s q;exact E e.on this (by omega) x
 obtain⟨i,hi⟩:=key j z y;intro h;rw [h]at hi;simp at hi
theorem abG(hC:e9 Q σ call)(R:jW Q σ call n ops aos iA st){b:Frame}{k:List Item}{cs:List Frame}(hk:jj b cs)(H:∀ y ∈ aos,gS y.op b) :
  ∀(X0:Wd) (fuel t:Nat) (d:Array Bool) (U:List Nat) (E:Nat) (X:Wd) (a:Act),d.size=ops.size→U.Nodup→(∀ j,j<ops.size→(¬ LD d j↔j ∈ U))→U.length≤fuel→Inv Q σ X0 n ops aos st (LD d) E X a →
  ∃ q z X' a',Steps Q (lone (b.atR a (.inRegion ops (Region.linearise.go .any ops fuel t d [])::k)) cs X.w) (lone (b.atR a' k) cs X'.w)∧Inv Q σ X0 n ops aos st q z X' a'∧(∀ j,j<ops.size→q j)∧a'.tmps.size=a.tmps.size:=by
 have u:aos.length=ops.size:=by have:=(eC R.anY).len;simpa using this.symm
 intro X0 fuel;induction fuel with
 | zero=>
  intro t d U E X a m B l F A;refine⟨LD d,E,X,a,?_,A,fun j s=>?_,rfl⟩
  ·simp only [Region.linearise.go,List.reverse_nil];exact .one stepR_region_end
  ·have g:U=[]:=aud (by omega);refine Classical.byContradiction fun h=>?_;have:=(l j s).1 h;rw [g]at this;simp at this
 | succ fuel ih=>
  intro t d U E X a m B l F A;simp only [Region.linearise.go];change ∃ q z X' a',Steps Q (lone (b.atR a (.inRegion ops (match (Region.ready .any ops d)[t % (Region.ready .any ops d).length]? with
   | some i=>Region.linearise.go .any ops fuel (t / (Region.ready .any ops d).length) (d.setIfInBounds i ae) [i]
   | none=>[].reverse)::k)) cs X.w) _∧_
  cases hi:(Region.ready .any ops d)[t % (Region.ready .any ops d).length]? with
  | none=>
   have g:Region.ready .any ops d=[]:=by
    cases I:Region.ready .any ops d with
    | nil=>rfl
    | cons x xs=>
     rw [I]at hi;have a7:t % (x::xs).length<(x::xs).length:=Nat.mod_lt _ (by simp);rw [List.getElem?_eq_none_iff]at hi;omega
   refine⟨LD d,E,X,a,?_,A,fun j s=>?_,rfl⟩
   ·exact .one stepR_region_end
   ·exact Classical.byContradiction fun h=>acW R.ord u m s h g
  | some i=>
   simp only [];rw [linearise_go_acc,List.reverse_singleton,List.singleton_append];obtain⟨r1,K,o,r3,r4⟩:=Ep (aue hi);have hy:=asZ (show i<aos.length by omega);have I:jV ops aos (LD d) i o aos[i]:=⟨r3,hy,K,r4⟩
   obtain⟨z,L,a1,O,J,S⟩:=R.akt hC A I (b:=b) (rest:=Region.linearise.go .any ops fuel (t / (Region.ready .any ops d).length) (d.setIfInBounds i ae) []) (k:=k) (cs:=cs) hk (H _ (List.getElem_mem _));rw [←aa3 (by omega)]at J;have v:i ∈ U:=(l i r1).1 K;obtain⟨q,E2,M,N,k1,k2,k3,k5⟩:=ih (t / (Region.ready .any ops d).length) (d.setIfInBounds i ae) (U.erase i) z L a1 (by simpa using m) (B.erase i)
    (fun j s=>by
     rw [B.mem_erase_iff,←l j s,aa3 (by omega)];constructor
     ·intro h;exact⟨fun e=>h (.inr e),fun W=>h (.inl W)⟩
     ·rintro⟨Y,Z⟩ (h | h)
      ·exact Z h
      ·exact Y h)
    (by rw [List.length_erase_of_mem v];omega) J
   exact⟨q,E2,M,N,O.trans k1,k2,k3,k5.trans S⟩
theorem abH(hC:e9 Q σ call)(u:Q.follows .mixedOrders=ae)(R:jW Q σ call n ops aos iA st){b:Frame}{k:List Item}{cs:List Frame}(hk:jj b cs)(M:∀ y ∈ aos,gS y.op b){X:Wd}{a:Act}(g:Fr Q σ n X (st 0) a)(id:Nat) :
  ∃ X' a',Steps Q (lone (b.atR a (.code (.region id ops ae)::k)) cs X.w) (lone (b.atR a' k) cs X'.w)∧Fr Q σ n X' (st aos.length) a'∧Ext X.H.length X X'∧a'.tmps.size=a.tmps.size:=by
 have a7:aos.length=ops.size:=by have:=(eC R.anY).len;simpa using this.symm
 let X0:Wd:={ X with w:={ X.w with drawn:=X.w.drawn+1 } }
 have A:Ext X.H.length X X0:=
  {B:=rfl,F:=fun _ _ h=>h,pz:=fun _ _ h=>.inl h,fw:=fun _ _ _=>rfl,cM:=fun b _ bq J=>⟨bq,J,by cases bq<;>simp [X0]⟩
   yT:=fun b L h=>.inl ⟨b,L,h,rfl⟩,size:=at3 _,os:=rfl,tape:=rfl,output:=rfl,frame:=fun _ _ _=>rfl }
 have I:SR Q σ X0:=by
  refine⟨fun b L J=>?_,g.sr.inj,g.sr.fb⟩;obtain⟨q,s,bq,W,Y⟩:=g.sr.br b L J;exact⟨q,s,bq,W,BR.ext Q σ A rfl (fun _ h=>h) Y⟩
 obtain⟨p1,p2,p3,O⟩:=oY (aos:=aos) (i:=0) (by omega);obtain⟨q1,q2⟩:=R.df _ p1 p2 O;have E:X0.H=(st 0).heap:=g.heap;rw [←E]at q1;obtain⟨k1,k2⟩:=SR.ahead I q1;have m:Ext X.H.length X { X0 with H:=(st (phase aos 0)).heap }:=A.trans k2;have d:∀ j,¬ LD (Array.replicate ops.size ag) j:=fun j h=>by
  unfold LD at h;simp only [Array.getD_eq_getD_getElem?,Array.getElem?_replicate]at h;split at h<;>simp at h
 have hI:Inv Q σ { X0 with H:=(st (phase aos 0)).heap } n ops aos st (LD (Array.replicate ops.size ag)) (phase aos 0) { X0 with H:=(st (phase aos 0)).heap } a:=by
  refine⟨fun j o h=>absurd h (d j),fun j h=>absurd h (d j),p2,p3,d _,fun j q s=>absurd q (O j (avp _) s),rfl,Ext.refl _ _,k1,g.b,by rw [q2];exact g.defs.ext' m,g.size,
   fun p=>⟨0,avp _,.inl (VR.ext' σ m (g.aB p)),fun j y _ _=>⟨fun h=>by omega,fun h=>absurd h (d j)⟩⟩,fun j y q _ W Y h5=>?_⟩
  show X.cB _=ab;have a8:=(R.df j (avp _) (by omega) fun k q s=>O k q (by omega)).1.len;cases v:X.cB (st j).heap.length with
  | none=>rfl| some L=>have:=SR.lt g.sr v;rw [g.heap]at this;omega
 obtain⟨D',S,X',a',g1,l,U,g5⟩:=abG hC R hk M (k:=k) { X0 with H:=(st (phase aos 0)).heap } ops.size (X.w.tape X.w.drawn (.order b.fn id)) (Array.replicate ops.size ag) (List.range ops.size) (phase aos 0) { X0 with H:=(st (phase aos 0)).heap } a (by simp) List.nodup_range
  (fun j hj=>⟨fun _=>by simpa using hj,fun _=>d j⟩) (by simp) hI
 have Z:S=aos.length:=by
  rcases l.eW with h | ⟨z,N,_⟩
  ·exact h
  ·exact absurd (U S (by have:=(atu.1 N).1;omega)) l.eD
 subst Z;refine⟨X',a',.head stepR_region_draw ?_,⟨l.heap,l.sr,l.b,fun p=>?_,l.defs,l.size⟩,m.trans (l.ext.mono (m.len)),g5⟩
 ·simp only [Region.schedule,u,Bool.true_or,if_true];exact g1
 ·obtain⟨K,hK,x,hw⟩:=l.ado p;have x:VR σ X' ((st K).aB.get p) (a'.tmps.getD p.toNat undef):=by
   rcases x with x | ⟨z,zs,c,_,Z,N,_⟩
   ·exact x
   ·have:=(atu.1 N).1;omega
  rw [←R.ma aos.length hK (at3 _) fun j y q s hy hd=>?_]
  ·exact x
  ·have:=(hw j y hy hd).2 (U j (by omega));omega
end
section
variable{Q:Program}{σ:Nat→FuncId}{X:Wd}{call:cR}
theorem Br{b:Type}{f:b→b→Bool}(d:∀ x y,f x y=ae→x=y):∀ {xs ys:List b},iG f xs ys=ae→xs=ys
 | [],[],_=>rfl
 | x::xs,y::ys,h=>by
  simp only [iG,atI]at h;rw [d x y h.1,Br d h.2]
 | [],_::_,h=>by simp [iG]at h
 | _::_,[],h=>by simp [iG]at h
theorem FC.beq_eq:∀(n:Nat) (a b:FC),FC.beq n a b=ae→a=b:=by
 intro n;induction n with
 | zero=>
  intro a b h;cases a<;>cases b<;>simp_all [FC.beq]
 | succ n d=>
  intro a b h;cases a<;>cases b<;>simp_all [FC.beq]
  all_goals exact Br d h.2
theorem C.beq_eq{a b:C}(h:a.beq b=ae):a=b:=by
 cases a<;>cases b<;>simp_all [C.beq];exact FC.beq_eq _ _ _ h
theorem V.beq_eq{a b:V}(h:a.beq b=ae):a=b:=by
 cases a<;>cases b<;>simp only [V.beq,aub]at h
 ·rw [C.beq_eq h]
 ·rename_i xs ys;simp only [atI,beq_iff_eq,aun]at h
  congr 1
  refine List.ext_getElem h.1 fun i h1 h2=>C.beq_eq (h.2 (xs[i],ys[i]) ?_);exact aue (i:=i) (by rw [List.getElem?_zip_eq_some];exact⟨asZ h1,asZ h2⟩)
theorem zy:∀ {aos:List aP} {s s':St},fB call aos s=aa s'→∃ ss:List St,dV call aos s=aa ss∧ss.getLast?=aa s'
 | [],s,s',h=>by simp only [fB,At]at h;subst h;exact⟨[s],rfl,rfl⟩
 | o::os,s,s',h=>by
  simp only [fB]at h;split at h
  ·rename_i j d;obtain⟨ss,g,b⟩:=zy h;refine⟨s::ss,by simp [dV,d,g],?_⟩;cases ss with
   | nil=>simp at b| cons x xs=>simpa using b
  ·simp at h
theorem nq:∀ {aos:List aP} {s:St} {ss:List St},dV call aos s=aa ss→ss.length=aos.length+1∧ss[0]?=aa s ∧
  ∀ i y,aos[i]?=aa y→∃ u v,ss[i]?=aa u∧ss[i+1]?=aa v∧fG call u y=aa v
 | [],s,ss,h=>by
  simp only [dV,At]at h;subst h;exact⟨rfl,rfl,fun i y h=>by simp at h⟩
 | o::os,s,ss,h=>by
  simp only [dV]at h;split at h
  ·rename_i q l;split at h
   ·rename_i x m;simp only [At]at h;subst h;obtain⟨d,g,j⟩:=nq m;refine⟨by simp [d],rfl,fun i y b=>?_⟩;cases i with
    | zero=>
     simp only [List.getElem?_cons_zero,At]at b;subst b;exact⟨s,q,rfl,by simpa using g,l⟩
    | succ i=>simpa using j i y (by simpa using b)
   ·simp at h
  ·simp at h
theorem wV:∀ {aos:List aP} {s:St} {ss:List St} {s':St},dV call aos s=aa ss→ss.getLast?=aa s'→fB call aos s=aa s'
 | [],s,ss,s',h,b=>by simp only [dV,At]at h;subst h;simpa [fB]using b
 | o::os,s,ss,s',h,b=>by
  simp only [dV]at h;split at h
  ·rename_i l j;split at h
   ·rename_i d g;simp only [At]at h;subst h;have:=(nq g).1;simp only [fB,j];refine wV g ?_;cases d with
    | nil=>simp at this| cons x xs=>simpa using b
   ·simp at h
  ·simp at h
theorem QB(O:e9 Q σ call)(z:Q.follows .mixedOrders=ae){n:Nat}{id:Nat}{ops:Array Oper}{g:Bool}{aos:List aP}{iA:List (Nat × Nat)}(U:bS Q σ n (.region id ops g) (.region aos iA)=ae)
  {b:Frame} {k:List Item} {cs:List Frame} (S:jj b cs) (A:∀ y ∈ aos,gS y.op b) {X:Wd} {a:Act} {s s':St} (J:Fr Q σ n X s a) (h:gd call aos iA s=aa s') :
  ∃ X' a',Steps Q (lone (b.atR a (.code (.region id ops g)::k)) cs X.w) (lone (b.atR a' k) cs X'.w)∧Fr Q σ n X' s' a'∧Ext X.H.length X X'∧a'.tmps.size=a.tmps.size:=by
 simp only [bS,atI,Bool.or_eq_true,auZ]at U;obtain⟨j,B⟩:=U;obtain⟨ss,N,I,h3⟩:∃ ss:List St,dV call aos s=aa ss∧ss.getLast?=aa s'∧∀ c ∈ iA,sameAt aos ss c=ae:=by
  unfold gd at h;split at h
  ·obtain⟨ss,m,q⟩:=zy h;exact⟨ss,m,q,by simp⟩
  ·split at h
   ·rename_i ss K;split at h
    ·rename_i x;exact⟨ss,K,h,aun.1 x⟩
    ·simp at h
   ·simp at h
 cases g with
 | false=>
  obtain⟨X',a',m,q⟩:=G6 O S (k:=k) aos 0 X s s' a J (by simpa using j) A (wV N I);exact⟨X',a',.head stepR_region (by simpa using m),q⟩
 | true=>
  obtain⟨m,q,Z⟩:=nq N
  let st:Nat→St:=fun i=>ss.getD i s
  have d:∀ i u,ss[i]?=aa u→st i=u:=fun i u hu=>by simp [st,List.getD_eq_getElem?_getD,hu]
  have R:jW Q σ call n ops aos iA st:=by
   refine⟨j,Qq (B.resolve_left (by simp)),fun i y L=>?_,fun i e y hc L W=>?_⟩
   ·obtain⟨u,v,E,F,H⟩:=Z i y L;rw [d _ _ E,d _ _ F];exact H
   ·have l:=h3 _ hc;simp only [sameAt,L]at l;split at l
    ·rename_i o s1 s2 E F H;cases E;rw [d _ _ F]at W ⊢;rw [d _ _ H];rw [W]at l;simp only at l;split at l
     ·rename_i v x1 v' x2 Y M;rw [←V.beq_eq l]at M;exact⟨v,x1,x2,Y,M⟩
     ·simp at l
    ·simp at l
  have h0:st 0=s:=d 0 s q;have hN:st aos.length=s':=d _ _ (by rw [List.getLast?_eq_getElem?,m]at I;simpa using I);rw [←h0]at J;rw [←hN];exact abH O z R S A J id
end
section
variable{Q:Program}{σ:Nat→FuncId}{X:Wd}{call:cR}
def Ec(X:Wd)(b:Nat):Prop:=∃ f t p a c s q d,X.H[b]?=aa (.lp f t p a c s q d)
theorem Ec.ext{X X':Wd}(m:Ext X.H.length X X'){b:Nat}(h:Ec X b):Ec X' b∧∀ L,X.cB b=aa L→X'.cB b=aa L:=by
 obtain⟨f,t,p,a,c,s,q,d,j⟩:=h;obtain⟨blk',g,l⟩:=m.cM b (atu.1 j).1 _ j;cases blk'<;>simp only at l;exact⟨⟨_,_,_,_,_,_,_,_,g⟩,l.2⟩
inductive gY(Q:Program)(σ:Nat→FuncId)(n:Nat)(X:Wd):cZ→Item→Prop
 | code {a:aE} {c:Code} (h:bS Q σ n c a=ae):gY Q σ n X (.code a) (.code c)
 | inBlock (id:Nat):gY Q σ n X (.inBlock id) (.inBlock id)
 | inLoop {a:aE} {c:Code} (h:bS Q σ n c a=ae):gY Q σ n X (.inLoop a) (.inLoop c)
 | iY {b:Nat} {L:Loc} (h:X.cB b=aa L) (hl:Ec X b):gY Q σ n X (.iY b) (.endRangeFunc L.c)
 | mJ:gY Q σ n X .mJ .beginRound
 | inScope {a:aE} {c:Code} (h:bS Q σ n c a=ae) (hs:kg a=ae):gY Q σ n X (.inScope a) (.inScope c)
theorem gY.ext{n:Nat}{X X':Wd}(d:Ext X.H.length X X'){x:cZ}{y:Item}(h:gY Q σ n X x y):gY Q σ n X' x y:=by
 cases h with
 | code h=>exact .code h| inBlock id=>exact .inBlock id| inLoop h=>exact .inLoop h| iY h b=>exact .iY ((b.ext d).2 _ h) (b.ext d).1| mJ=>exact .mJ| inScope h g=>exact .inScope h g
def RoR(X:Wd):Option Nat→Option Nat→Prop
 | none,ab=>True| some b,aa l=>∃ L,X.cB b=aa L∧L.c=l∧Ec X b| _,_=>False
theorem RoR.ext{X X':Wd}(d:Ext X.H.length X X'){ro b:Option Nat}(h:RoR X ro b):RoR X' ro b:=by
 cases ro<;>cases b<;>simp only [RoR]at h ⊢;obtain⟨L,h1,h2,h3⟩:=h;exact⟨L,(h3.ext d).2 _ h1,h2,(h3.ext d).1⟩
theorem yI{n:Nat}(id:Nat):∀(k:List cZ) (b:List Item),A2 (gY Q σ n X) k b →
  match Km.exitTo id k with
  | some k'=>∃ d,Go.exitTo id b=aa d∧A2 (gY Q σ n X) k' d| none=>Go.exitTo id b=ab
 | [],b,h=>by
  have:b=[]:=aud h.len.symm;subst this;rfl
 | x::k,[],h=>by have:=h.len;simp at this
 | x::k,y::b,h=>by
  obtain⟨q,j⟩:=h.of_cons;have m:=yI id k b j;cases q with
  | inBlock g=>
   simp only [Km.exitTo,Go.exitTo];by_cases l:(g == id)=ae
   ·simp only [l,if_true];exact⟨b,rfl,j⟩
   ·simp only [l,aub,if_false];exact m
  | _=>exact m
theorem Ac{n:Nat}(l:Nat):∀(a:aE) (c:Code),bS Q σ n c a=ae→kg a=ae →
  match Km.findLabel a l with
  | some r=>∃ r',Go.findLabel c l=aa r'∧bS Q σ n r' r=ae| none=>Go.findLabel c l=ab:=by
 intro a;induction a with
 | seq a b m q=>
  intro c h g;simp only [kg,atI]at g;cases c with
  | seq c d=>
   simp only [bS,atI]at h;have j:=m c h.1 g.1;simp only [Km.findLabel,Go.findLabel];cases u:Km.findLabel a l with
   | some r=>
    rw [u]at j;obtain⟨r',v,x⟩:=j;simp only [v];exact⟨_,rfl,by simp [bS,x,h.2]⟩
   | none=>
    rw [u]at j;simp only [j];exact q d h.2 g.2
  | _=>simp [bS]at h
 | label l'=>
  intro c h _;cases c with
  | label y=>
   simp only [bS,beq_iff_eq]at h;subst h;simp only [Km.findLabel,Go.findLabel];by_cases s:(y == l)=ae
   ·simp only [s,if_true];exact⟨_,rfl,by simp [bS]⟩
   ·simp only [s,aub,if_false]
  | _=>simp [bS]at h
 | bad=>intro c h g;simp [kg]at g| _=>intro c h _;cases c<;>simp_all [bS,Km.findLabel,Go.findLabel]
theorem yP{n:Nat}(l:Nat):∀(k:List cZ) (b:List Item),A2 (gY Q σ n X) k b →
  match Km.gotoIn l k with
  | some k'=>∃ d,Go.gotoIn l b=aa d∧A2 (gY Q σ n X) k' d| none=>Go.gotoIn l b=ab
 | [],b,h=>by
  have:b=[]:=aud h.len.symm;subst this;rfl
 | x::k,[],h=>by have:=h.len;simp at this
 | x::k,y::b,h=>by
  obtain⟨v,j⟩:=h.of_cons;have u:=yP l k b j;cases v with
  | inScope q s=>
   rename_i a c;have g:=Ac (Q:=Q) (σ:=σ) l a c q s;simp only [Km.gotoIn,Go.gotoIn];cases m:Km.findLabel a l with
   | some r=>
    rw [m]at g;obtain⟨r',z,A⟩:=g;simp only [z];exact⟨_,rfl,A2.cons (.code A) (A2.cons (.inScope q s) j)⟩
   | none=>
    rw [m]at g;simp only [g];exact u
  | _=>exact u
def amy:Option aE→List Item→Prop
 | none,b=>b=[]| some .ret,b=>∃ k,b=.code .ret::k| some (.exit id),b=>∃ k,b=.code (.exit id)::k∧Go.exitTo id k=ab| _,_=>False
end
section
variable{Q:Program}{σ:Nat→FuncId}{X:Wd}{call:cR}
theorem qc{b:Nat}{L:Loc}(x:SR Q σ X)(v:X.cB b=aa L){f:Nat}{t:T}{ps:List P}{as bd:aE}{q:ez}{g:Option aE}{d:Nat}(y:X.H[b]?=aa (.lp f t ps as bd q g d)) :
  ∃(n:Nat) (us:Array Value) (m:Array Tmp) (as' j:Code) (pend':Option Code) (u:Loc),
   X.w.heap[L.c]?=aa (.loop { state:=q.of,pending:=pend',fn:=σ f,tmps:=us,params:=m,assign:=as',body:=j,defers:=u.c }) ∧
   n≤us.size∧RR σ X t us∧fk (fun p (q:P)=>q.toNat == p&&decide (p<n)) m.toList ps=ae∧bS Q σ n as' as=ae∧bS Q σ n j bd=ae∧yX Q σ n g pend'∧X.cB d=aa u∧∃ o,X.H[d]?=aa (.eZ o):=by
 obtain⟨_,_,bq,l,s⟩:=x.br b L v;rw [y]at l;cases l;exact s
theorem AP(J:SR Q σ X){b:Nat}{L:Loc}(I:X.cB b=aa L){f:Nat}{t:T}{ps:List P}{as bd:aE}{q q':ez}{y pend1:Option aE}{d:Nat}(s:X.H[b]?=aa (.lp f t ps as bd q y d))
  {n:Nat} {us:Array Value} {j:Array Tmp} {as' g:Code} {pend':Option Code} {u:Loc}
  (O:n≤us.size) (S:RR σ X t us) (U:fk (fun p (q:P)=>q.toNat == p&&decide (p<n)) j.toList ps=ae) (W:bS Q σ n as' as=ae) (Y:bS Q σ n g bd=ae) (Z:yX Q σ n pend1 pend') (a:X.cB d=aa u) (z:∃ o,X.H[d]?=aa (.eZ o)) :
  SR Q σ { X with H:=X.H.set b (.lp f t ps as bd q' pend1 d),w:=X.w.putObj L.c (.loop { state:=q'.of,pending:=pend',fn:=σ f,tmps:=us,params:=j,assign:=as',body:=g,defers:=u.c }) } ∧
  Ext X.H.length X { X with H:=X.H.set b (.lp f t ps as bd q' pend1 d),w:=X.w.putObj L.c (.loop { state:=q'.of,pending:=pend',fn:=σ f,tmps:=us,params:=j,assign:=as',body:=g,defers:=u.c }) }:=by
 obtain⟨m,r,k,M,N,i,K,v,_⟩:=qc J I s;have A:b<X.H.length:=(atu.1 s).1;refine SR.qG (o':=.loop { state:=q'.of,pending:=pend',fn:=σ f,tmps:=us,params:=j,assign:=as',body:=g,defers:=u.c }) (blk':=.lp f t ps as bd q' pend1 d) J s I v (by simp) (by simp)
  (fun bq l=>⟨.lp f t ps as bd q' pend1 d,by simp [A],by rw [s]at l;cases l;exact⟨⟨rfl,rfl,rfl,rfl,rfl,rfl⟩,fun L h=>h⟩⟩)
  (fun X' F E _ x c=>?_)
 obtain⟨o,z⟩:=z;refine⟨n,us,j,as',g,pend',u,E,O,RR.ext' σ F S,U,W,Y,Z,by rw [x];exact a,o,?_⟩;have B:b≠d:=fun e=>by rw [e,z]at s;cases s
 rw [c,aft B];exact z
end
section
variable{Q:Program}{σ:Nat→FuncId}{call:cR}
structure Way(Q:Program)(σ:Nat→FuncId)(fn:Nat)(n:Nat)(b:Frame)(cs:List Frame)(ro:Option Nat)(todo:List cZ)(items:List Item)(s:St)(X:Wd)(a:Act):Prop where
 fr:Fr Q σ n X s a
 items:A2 (gY Q σ n X) todo items
 ro:RoR X ro b.roundOf
 kind:jj b cs
 fn:b.fn=σ fn
theorem Way.ext{fn n:Nat}{b:Frame}{cs:List Frame}{ro:Option Nat}{j:List cZ}{items:List Item}{s s':St}{X X':Wd}{a a':Act}(h:Way Q σ fn n b cs ro j items s X a){g:List cZ}{d:List Item}(l:Ext X.H.length X X')(m:Fr Q σ n X' s' a')
  (hi:A2 (gY Q σ n X) g d):Way Q σ fn n b cs ro g d s' X' a':=
 ⟨m,hi.kI fun _ _ h=>h.ext l,h.ro.ext l,h.kind,h.fn⟩
theorem Way.to{fn n:Nat}{b:Frame}{cs:List Frame}{ro:Option Nat}{j:List cZ}{items:List Item}{s:St}{X:Wd}{a:Act}(h:Way Q σ fn n b cs ro j items s X a){g:List cZ}{d:List Item}
  (hi:A2 (gY Q σ n X) g d):Way Q σ fn n b cs ro g d s X a:=⟨h.fr,hi,h.ro,h.kind,h.fn⟩
def aqb(Q:Program)(σ:Nat→FuncId)(call:cR)(fn m:Nat):Prop:=
 ∀(n:Nat) (b:Frame) (cs:List Frame) ro l g s X a j s',run call fn m ro l s=aa (j,s')→Way Q σ fn n b cs ro l g s X a →
  ∃ X' a' d,Steps Q (lone (b.atR a g) cs X.w) (lone (b.atR a' d) cs X'.w)∧Fr Q σ n X' s' a'∧Ext X.H.length X X'∧a'.tmps.size=a.tmps.size∧amy j d
theorem xL{b:Frame}{a:Act}{k:List Item}{cs:List Frame}{w:World}{body:Code}:step Q (lone (b.atR a (.inScope body::k)) cs w)=.next (lone (b.atR a k) cs w):=
 step_lone_go (by simp [stepG,stepG.exec,Frame.atR])
theorem C8{b:Frame}{a:Act}{k:List Item}{cs:List Frame}{w:World}{body:Code}:step Q (lone (b.atR a (.code (.scope body)::k)) cs w)=.next (lone (b.atR a (.code body::.inScope body::k)) cs w):=
 step_lone_go (by simp [stepG,stepG.exec,Frame.atR])
theorem ac'(hC:e9 Q σ call)(i8:Q.follows .mixedOrders=ae)(fn:Nat):∀ m,aqb Q σ call fn m:=by
 intro m;induction m with
 | zero=>intro n b cs ro d_ I s X a F s' h;simp [run]at h
 | succ m ih=>
  intro n b cs ro d_ I s X a F s' h z;have go:∀ {B j},run call fn m ro B s=aa (F,s')→A2 (gY Q σ n X) B j→step Q (lone (b.atR a I) cs X.w)=.next (lone (b.atR a j) cs X.w) →
    ∃ X' a' j,Steps Q (lone (b.atR a I) cs X.w) (lone (b.atR a' j) cs X'.w)∧Fr Q σ n X' s' a'∧Ext X.H.length X X'∧a'.tmps.size=a.tmps.size∧amy F j:=by
   intro B j hr hi U;obtain⟨X',a',it,g1,N⟩:=ih n b cs ro B j s X a F s' hr (z.to hi);exact⟨X',a',it,.head U g1,N⟩
  cases d_ with
  | nil=>
   have:I=[]:=aud z.items.len.symm;subst this;simp only [run,At,at1]at h;obtain⟨rfl,rfl⟩:=h;exact⟨X,a,[],Steps.refl _ _,z.fr,Ext.refl _ _,rfl,rfl⟩
  | cons x k=>
   cases I with
   | nil=>have:=z.items.len;simp at this
   | cons it M=>
    obtain⟨hx,A⟩:=z.items.of_cons;cases hx with
    | inBlock id=>exact go (by simpa [run]using h) A stepR_inBlock
    | inLoop E=>exact go (by simpa [run]using h) (A2.cons (.code E) (A2.cons (.inLoop E) A)) stepR_inLoop
    | inScope E hs=>exact go (by simpa [run]using h) A xL
    | iY hb hl=>
     rename_i bb L;simp only [run]at h;split at h
     ·rename_i f t ps as bd q d9 d J;split at h
      ·simp at h
      ·rename_i hq;rw [←z.fr.heap]at J;obtain⟨m0,us,a7,as',W,pend',Ld,b9,h2,h3,h4,h5,h6,Y,h8,h9⟩:=qc z.fr.sr hb J;obtain⟨g1,N⟩:=AP z.fr.sr hb J (q':=.exhausted) h2 h3 h4 h5 h6 Y h8 h9;have l_:(q.of)≠LoopState.busy:=by cases q<;>simp [ez.of]at hq ⊢
       have U:=stepR_endRangeFunc (P:=Q) (b:=b) (a:=a) (k:=M) (cs:=cs) (run_endLoop (P:=Q) b9 l_);have key:∀ {B j},run call fn m ro B { s with heap:=s.heap.set bb (.lp f t ps as bd .exhausted d9 d) }=aa (F,s')→A2 (gY Q σ n X) B j→j=(pend'.map Item.code).toList++M →
         ∃ X' a' j,Steps Q (lone (b.atR a (.endRangeFunc L.c::M)) cs X.w) (lone (b.atR a' j) cs X'.w)∧Fr Q σ n X' s' a'∧Ext X.H.length X X'∧a'.tmps.size=a.tmps.size∧amy F j:=by
        intro B j hr hi he;obtain⟨X',a',it,k1,k2,k3,k4,k5⟩:=ih n b cs ro B j _ _ a F s' hr (z.ext (a':=a) N ⟨by rw [←z.fr.heap],g1,by simpa [World.putObj]using z.fr.b,z.fr.aB.ext' σ N,z.fr.defs.ext' N,z.fr.size⟩ hi);rw [he]at k1;exact⟨X',a',it,.head U k1,k2,N.trans (k3.mono N.len),k4,k5⟩
       split at h
       ·cases pend' with
        | none=>exact key h A rfl| some c=>exact Y.elim
       ·cases pend' with
        | none=>exact Y.elim
        | some c=>
         have Y:bS Q σ m0 c .ret=ae:=Y;cases c<;>simp [bS]at Y;exact key h (A2.cons (.code (by simp [bS])) A) rfl
       ·rename_i id;cases pend' with
        | none=>exact Y.elim
        | some c=>
         have Y:bS Q σ m0 c (.exit id)=ae:=Y;cases c<;>simp [bS]at Y;subst Y;exact key h (A2.cons (.code (by simp [bS])) A) rfl
       ·simp at h
     ·simp at h
    | mJ=>
     simp only [run]at h;split at h
     ·simp at h
     ·rename_i bb;split at h
      ·rename_i f t ps as bd d9 d J;have K:=z.ro;cases f_:b.roundOf with
       | none=>rw [f_]at K;exact K.elim
       | some l=>
        rw [f_]at K;obtain⟨L,hL,rfl,_⟩:=K;rw [←z.fr.heap]at J;obtain⟨m0,us,a7,as',W,pend',Ld,b9,h2,h3,h4,h5,h6,Y,h8,h9⟩:=qc z.fr.sr hL J;obtain⟨g1,N⟩:=AP z.fr.sr hL J (q':=.busy) h2 h3 h4 h5 h6 Y h8 h9;have U:=stepR_beginRound (P:=Q) (b:=b) (a:=a) (k:=M) (cs:=cs) f_ (run_beginRound (P:=Q) b9 rfl);obtain⟨X',a',it,k1,k2,k3,k4,k5⟩:=ih n b cs _ k M _ _ a F s' h (z.ext (a':=a) N ⟨by rw [←z.fr.heap],g1,by simpa [World.putObj]using z.fr.b,z.fr.aB.ext' σ N,z.fr.defs.ext' N,z.fr.size⟩ A);exact⟨X',a',it,.head U k1,k2,N.trans (k3.mono N.len),k4,k5⟩
      ·simp at h
    | code E=>
     rename_i ac c;cases ac with
     | bad=>simp [run]at h| skip=>cases c<;>simp [bS]at E;exact go (by simpa [run]using h) A stepR_skip
     | label l=>cases c<;>simp [bS]at E;exact go (by simpa [run]using h) A stepR_label
     | scope p=>
      cases c<;>simp [bS]at E;exact go (by simpa [run]using h) (A2.cons (.code E.1) (A2.cons (.inScope E.1 E.2) A)) C8
     | goto l=>
      cases c<;>simp [bS]at E;subst E;rename_i l';have S:=yP (Q:=Q) (σ:=σ) (n:=n) (X:=X) l' k M A;simp only [run]at h;split at h
      ·rename_i k' H;rw [H]at S;obtain⟨o_,he,a_⟩:=S;exact go h a_ (stepR_goto he)
      ·simp at h
     | ret=>
      cases c<;>simp [bS]at E;simp only [run,At,at1]at h;obtain⟨rfl,rfl⟩:=h;exact⟨X,a,_,Steps.refl _ _,z.fr,Ext.refl _ _,rfl,M,rfl⟩
     | seq p q=>
      cases c<;>simp [bS]at E;exact go (by simpa [run]using h) (A2.cons (.code E.1) (A2.cons (.code E.2) A)) stepR_seq
     | block id p=>
      cases c<;>simp [bS]at E;obtain⟨rfl,E⟩:=E;exact go (by simpa [run]using h) (A2.cons (.code E) (A2.cons (.inBlock _) A)) stepR_block
     | loop p=>
      cases c<;>simp [bS]at E;exact go (by simpa [run]using h) (A2.cons (.code E) (A2.cons (.inLoop E) A)) stepR_loop
     | exit id=>
      cases c<;>simp [bS]at E;subst E;rename_i n_;have S:=yI (Q:=Q) (σ:=σ) (n:=n) (X:=X) n_ k M A;simp only [run]at h;split at h
      ·rename_i k' H;rw [H]at S;obtain⟨o_,he,a_⟩:=S;exact go h a_ (stepR_exit he)
      ·rename_i H;rw [H]at S;split at h
       ·simp only [At,at1]at h;obtain⟨rfl,rfl⟩:=h;exact⟨X,a,_,Steps.refl _ _,z.fr,Ext.refl _ _,rfl,M,rfl,S⟩
       ·simp at h
     | cond x p q=>
      cases c<;>simp [bS]at E;simp only [run]at h;split at h
      ·rename_i v hv;have hx:=bT z.fr.aB E.1.1;rw [hv]at hx;have n9:cT σ X.F X.w (.bool v) _:=hx;have he:∀ u,cT σ X.F X.w (.bool v) u→u=.bool v:=fun u hu=>by cases hu;rfl
       refine go h ?_ (stepR_cond (he _ n9));cases v
       ·exact A2.cons (.code E.2) A
       ·exact A2.cons (.code E.1.2) A
      ·simp at h
     | region aos iA=>
      cases c with
      | region id ops p_=>
       simp only [run]at h;split at h
       ·simp at h
       ·rename_i K;split at h
        ·rename_i s1 h1;have m4:∀ y ∈ aos,gS y.op b:=by
          intro y hy;unfold gS;cases ro with
          | none=>
           refine .inl ?_;have:=z.ro;cases hb:b.roundOf with
           | none=>rfl| some l=>rw [hb]at this;exact this.elim
          | some r=>
           simp only [Option.isSome_some,auU,auZ,Bool.not_eq_false]at K;exact .inr (aun.1 K y hy)
         obtain⟨X1,a1,g1,N,g3,g4⟩:=QB hC i8 E z.kind m4 (k:=M) z.fr h1;obtain⟨X',a',it,k1,k2,k3,k4,k5⟩:=ih n b cs ro k M s1 X1 a1 F s' h (z.ext g3 N A);exact⟨X',a',it,g1.trans k1,k2,g3.trans (k3.mono g3.len),k4.trans g4,k5⟩
        ·simp at h
      | _=>simp [bS]at E
     | fL f ps as bd=>
      cases c with
      | rangeFunc f' a7 as' W=>
       simp only [bS,atI]at E;obtain⟨⟨⟨j8,j9⟩,j_⟩,k_⟩:=E;simp only [run]at h;split at h
       ·simp at h
       ·rename_i K;have m9:b.roundOf=ab:=by
         have:=z.ro;cases ro with
         | some r=>simp at K
         | none=>
          cases hb:b.roundOf with
          | none=>rfl| some l=>rw [hb]at this;exact this.elim
        split at h
        ·rename_i g args i6;split at h
         ·rename_i r2 H2 O;obtain⟨X1,w1,H1,S1,E1,r1,B1⟩:=SR.new z.fr.sr z.fr.b (.eZ ae) (dW.alloc X.w (.deferred (aa []))) 0 (fun X' hx hw hF hH=>by
           show X'.w.heap[X.w.heap.size]?=_;rw [hw];exact(dW.alloc X.w (.deferred (aa []))).new)
          have i7:X1.H[X.H.length]?=aa (.eZ ae):=by rw [H1];simp
          have b_:X.H.length<X1.H.length:=by rw [H1];simp
          have i9:X1.w.heap.size=X.w.heap.size+1:=by rw [w1];simp
          obtain⟨X2,w2,i_,S2,E2,h_,B2⟩:=SR.new S1 B1 (.lp fn s.aB ps as bd .ready ab s.heap.length)
           (dW.alloc X1.w (.loop { state:=.ready,pending:=ab,fn:=b.fn,tmps:=a.tmps,params:=a7,assign:=as',body:=W,defers:=X.w.heap.size })) 0 (fun X' hx hw hF hH=>by
            obtain⟨blk',e_,H⟩:=hx.cM X.H.length b_ _ i7;cases blk'<;>simp only at H;refine⟨n,a.tmps,a7,as',W,ab,⟨X.w.heap.size,0⟩,?_,z.fr.size,RR.ext' σ hx (RR.ext' σ E1 z.fr.aB),j9,j_,k_,trivial,?_,?_⟩
            ·show X'.w.heap[X1.w.heap.size]?=_;rw [hw,(dW.alloc X1.w (.loop { state:=.ready,pending:=ab,fn:=b.fn,tmps:=a.tmps,params:=a7,assign:=as',body:=W,defers:=X.w.heap.size })).new,z.fn];rfl
            ·rw [←z.fr.heap];exact H _ r1
            ·rw [←z.fr.heap];exact⟨_,e_⟩)
          have g_:Ext X.H.length X X2:=E1.trans (E2.mono E1.len);have i4:X2.H=s.heap++[.eZ ae,.lp fn s.aB ps as bd .ready ab s.heap.length]:=by rw [i_,H1,←z.fr.heap];simp
          have j7:X1.H.length=s.heap.length+1:=by rw [H1,←z.fr.heap];simp
          have J:Ec X2 (s.heap.length+1):=⟨fn,s.aB,ps,as,bd,.ready,ab,s.heap.length,by rw [i4,atZ (by omega)];simp⟩
          rw [j7,i9]at h_;have i5:A2 (VR σ X2) [.c (.yl (s.heap.length+1))] [.func (.yield (X.w.heap.size+1)) #[] #[]]:=A2.cons ⟨⟨X.w.heap.size+1,0⟩,h_,J,rfl⟩ A2.nil;obtain⟨fst,cap,m_,n8⟩:=oI i6 (VR.ext' σ g_ (bT z.fr.aB j8)) i5;rw [←i4]at O;have j6:=hC.enters _ _ _ _ O
          let a1:Act:={ a with defers:={ target:=.collected X.w.heap.size,args:=#[] }::a.defers }
          obtain⟨fr,X3,u,q1,⟨l1,l2,l3,l4,j4,l5,l6⟩,q3,q4,q5,q6,q7⟩:=hC.fn g args _ r2 H2 O X2 _ .normal (b.atR a1 (.inRangeFunc (X.w.heap.size+1)::M)::cs) rfl S2 B2 n8 (.inl rfl) (.inl rfl);have U:step Q (lone (b.atR a (.code (.rangeFunc f' a7 as' W)::M)) cs X.w)=.next (lone (Frame.enter Q (σ g) (fst.toArray++#[.func (.yield (X.w.heap.size+1)) #[] #[]]++cap.toArray) .normal) (b.atR a1 (.inRangeFunc (X.w.heap.size+1)::M)::cs) X2.w):=by
           refine stepR_rangeFunc (P:=Q) (b:=b) (a:=a) (k:=M) (cs:=cs) (l:=X.w.heap.size+1) (mark:=[{ target:=.collected X.w.heap.size,args:=#[] }]) (w₁:=X2.w) (w₁':=X2.w) (d:={ target:=.fn (.func (σ g)) cap.toArray,args:=fst.toArray++#[.func (.yield (X.w.heap.size+1)) #[] #[]] }) ?_ ?_ ?_
           ·rw [m9,run_enterLoop_outer,w2,w1]
           ·simp only [resolve,m_,Deferred.ofValue,Sem.run_bind,Sem.run_pure,Result.andThen_ok];simp [Act.eval]
           ·exact eT j6
          have Z:Ext X.H.length X X3:=g_.trans (q6.mono g_.len);have a8:=step_leave_returned (P:=Q) (c:=b.atR a1 (.inRangeFunc (X.w.heap.size+1)::M)) (cs:=cs) (show fr.leaving Q X3.w (.returned u) from⟨l1,l2,l3,j4,by rw [l4];exact l5,l6⟩);rw [finish_atR_inRangeFunc]at a8;have c_:=J.ext q6;have j5:uO σ X3 (.gX s.heap.length) { target:=.collected X.w.heap.size,args:=#[] }:=by
           obtain⟨blk',e_,H⟩:=(E2.trans (q6.mono E2.len)).cM X.H.length b_ _ i7;cases blk'<;>simp only at H;rw [←z.fr.heap];exact⟨⟨X.w.heap.size,0⟩,_,H _ r1,e_,rfl⟩
          obtain⟨X',a',it,k1,k2,k3,k4,k5⟩:=ih n b cs ro (.iY (s.heap.length+1)::k) (.endRangeFunc (X.w.heap.size+1)::M) _ X3 a1 F s' h
           ⟨⟨q3,q4,q7,RR.ext' σ Z z.fr.aB,A2.cons j5 (z.fr.defs.ext' Z),z.fr.size⟩,A2.cons (.iY (c_.2 _ h_) c_.1) (A.kI fun _ _ h=>h.ext Z),z.ro.ext Z,z.kind,z.fn⟩
          refine⟨X',a',it,.head U (Steps.trans ?_ (.head a8 k1)),k2,Z.trans (k3.mono Z.len),k4,k5⟩;simpa using q1
         ·simp at h
        ·simp at h
      | _=>simp [bS]at E
end
section
variable{Q:Program}{σ:Nat→FuncId}{X:Wd}{call:cR}
def DE(Q:Program)(σ:Nat→FuncId)(oc:Nat→List V→aj→Option (Option (V × aj))):Prop:=
 ∀ f args H r H',oc f args H=aa (aa (r,H')) →
  (∀ as w,(callFunc (σ f) as).run Q w=.ok (.enter (σ f) as) w) ∧
  ∀(X:Wd) us b cs,X.H=H→SR Q σ X→X.B≤X.w.heap.size→A2 (VR σ X) args us→oX b cs→b=.normal∨f≠fo →
   ∃ d X' u,Steps Q (lone (Frame.enter Q (σ f) us.toArray b) cs X.w) (lone d cs X'.w)∧Leaves Q (σ f) b d u X'.w∧eY Q σ X r H' X' u
structure Env(Q:Program)(σ:Nat→FuncId)(tab:Nat→Option aL)(oc:Nat→List V→aj→Option (Option (V × aj))):Prop where
 mix:Q.follows .mixedOrders=ae
 fn:∀ f af,tab f=aa af→∃ fn,Q.funcs[σ f]?=aa fn∧yW Q σ fn af=ae
 oc:DE Q σ oc
theorem wN:∀(ps:List P) (args:List V) (t:T) (s:Nat),ps.map P.toNat=List.range' s ps.length→args.length=ps.length→∀ q:P,
  (cK ps args t).get q=if s≤q.toNat then(args[q.toNat-s]?).getD (t.get q)else t.get q
 | [],args,t,s,_,b,q=>by
  have:args=[]:=aud b;subst this;simp [cK]
 | p::ps,[],t,s,_,b,q=>by simp at b
 | p::ps,v::y,t,s,d,b,q=>by
  simp only [List.map_cons,List.length_cons,List.range'_succ,List.cons.injEq]at d;have x:=wN ps y (t.set p v) (s+1) d.2 (by simpa using b) q;simp only [cK,x];by_cases j:p=q
  ·subst j;rw [aY (by omega),T.pO];simp [d.1]
  ·have u:q.toNat≠s:=fun e=>j (P.toNat_inj (d.1.trans e.symm));simp only [T.pO,j,if_false];by_cases l:s≤q.toNat
   ·have g:s+1≤q.toNat:=by omega
    have m:q.toNat-s=(q.toNat-(s+1))+1:=by omega
    simp [g,l,m]
   ·have g:¬ (s+1≤q.toNat):=by omega
    simp [g,l]
theorem RR.cK:∀(ps:List P) (b:List Tmp) (args:List V) (us:List Value) (aB:T) (tmps:Array Value) (n:Nat),n≤tmps.size→RR σ X aB tmps→A2 (VR σ X) args us→args.length=ps.length →
  fk (fun p (q:P)=>q.toNat == p&&decide (p<n)) b ps=ae→RR σ X (Km.cK ps args aB) ((b.zip us).foldl (fun tmps (t,a)=>tmps.setIfInBounds t a) tmps)
 | [],b,args,us,aB,tmps,n,l,j,d,g,h=>by
  have:args=[]:=aud g;subst this;have:us=[]:=aud d.len.symm;subst this;simpa [Km.cK]using j
 | p::ps,[],args,us,aB,tmps,n,l,j,d,g,h=>by simp [fk]at h
 | p::ps,s::b,[],us,aB,tmps,n,l,j,d,g,h=>by simp at g
 | p::ps,s::b,v::x,[],aB,tmps,n,l,j,d,g,h=>by have:=d.len;simp at this
 | p::ps,s::b,v::x,u::us,aB,tmps,n,l,j,d,g,h=>by
  simp only [fk,atI,beq_iff_eq,decide_eq_true_eq]at h;obtain⟨⟨h1,h2⟩,h3⟩:=h;obtain⟨m,d⟩:=d.of_cons;subst h1;refine RR.cK ps b x us _ _ n (by simpa using l) (RR.set σ j (by omega) m) d (by simpa using g) h3
theorem sY:∀(l:List (Tmp × Value)) (tmps:Array Value),(l.foldl (fun tmps (t,a)=>tmps.setIfInBounds t a) tmps).size=tmps.size
 | [],_=>rfl| x::l,tmps=>by rw [List.foldl_cons,sY l];simp
theorem ac8(fn:Nat):∀ m d s b s',run call fn m ab d s=aa (b,s')→b=ab∨b=aa .ret:=by
 intro m;induction m with
 | zero=>intro d s b s' h;simp [run]at h
 | succ m g=>
  intro d s b s' h;unfold run at h;split at h
  all_goals first
   | exact g _ _ _ _ h
   | (simp at h;done)
   | skip
  ·simp only [At,at1]at h;exact .inl h.1.symm
  ·split at h
   ·split at h
    ·simp at h
    ·split at h
     ·exact g _ _ _ _ h
     ·exact g _ _ _ _ h
     ·exact g _ _ _ _ h
     ·simp at h
   ·simp at h
  ·split at h
   ·exact g _ _ _ _ h
   ·simp at h
  ·simp only [At,at1]at h;exact .inr h.1.symm
  ·split at h
   ·exact g _ _ _ _ h
   ·simp at h
  ·split at h
   ·exact g _ _ _ _ h
   ·simp at h
  ·split at h
   ·simp at h
   ·split at h
    ·exact g _ _ _ _ h
    ·simp at h
  ·split at h
   ·simp at h
   ·simp only at h;split at h
    ·split at h
     ·exact g _ _ _ _ h
     ·simp at h
    ·simp at h
theorem sR{fn:Func}{af:aL}(h:yW Q σ fn af=ae):∃ c,fn.name≠ "runtime.NumGoroutine"∧fn.body=aa c∧bS Q σ fn.ntmps c af.body=ae ∧
  fk (xF Q fn.ntmps) fn.results.toList af.results=ae∧af.ps.map P.toNat=List.range af.ps.length:=by
 simp only [yW,atI,bne_iff_ne,ne_eq,decide_eq_true_eq]at h;obtain⟨⟨⟨h1,h2⟩,h3⟩,h4⟩:=h;cases hb:fn.body with
 | none=>rw [hb]at h2;simp at h2| some c=>rw [hb]at h2;exact⟨c,h1,rfl,h2,h3,h4⟩
theorem qB{f:FuncId}{fn:Func}{c:Code}(hf:Q.funcs[f]?=aa fn)(hn:fn.name≠ "runtime.NumGoroutine")(hb:fn.body=aa c)(as:Array Value)(w:World):(callFunc f as).run Q w=.ok (.enter f as) w:=by
 simp [callFunc,hf,hn,hb]
def jr(g:FuncId)(d:CallKind)(tmps:Array Value)(ds:List Deferred)(b:Frame):Prop:=
 b.mode=.returning∧b.defers=ds∧b.kind=d∧b.fn=g∧b.tmps=tmps
theorem step_collected{d:Frame}{cs:List Frame}{w w':World}{b:Nat}{as:Array Value}{ds:List Deferred}(j:d.mode=.returning)(g:d.defers = { target:=.collected b,args:=as }::ds)
  (l:(Instr.takeDeferred b).run Q w=.ok [] w'):step Q (lone d cs w)=.next (lone { d with defers:=ds } cs w'):=
 step_lone_go (by simp [stepG,unwind,j,g,Sem.runT_eq,l])
theorem xM{b:Frame}{cs:List Frame}{w:World}{f:FuncId}{cap as as':Array Value}{ds:List Deferred}(g:b.mode=.returning)(d:b.defers = { target:=.fn (.func f) cap,args:=as }::ds)
  (j:(invoke (.fn (.func f) cap) as).run Q w=.ok (.enter f as') w):step Q (lone b cs w)=.next (lone (Frame.enter Q f as' .deferred) ({ b with defers:=ds }::cs) w):=
 step_lone_go (by simp [stepG,unwind,g,d,callDeferred,Sem.runT_eq,j])
theorem oe{b c:Frame}{cs:List Frame}{w:World}{v:Value}{f:FuncId}(h:Leaves Q f .deferred b v w)(hc:c.mode=.returning) :
  step Q (lone b (c::cs) w)=.next (lone c cs w):=by
 obtain⟨q,j,m,l,fn,d,g⟩:=h;rw [←l]at d;exact step_lone_go (by simp [stepG,unwind,doReturn,q,j,m,d,Sem.runT_eq,g,hc])
theorem jr.pop{g:FuncId}{kind:CallKind}{tmps:Array Value}{d:Deferred}{ds:List Deferred}{fr:Frame}(h:jr g kind tmps (d::ds) fr):jr g kind tmps ds { fr with defers:=ds }:=
 ⟨h.1,rfl,h.2.2.1,h.2.2.2.1,h.2.2.2.2⟩
theorem zW(H:e9 Q σ call){g:FuncId}{y:CallKind}{tmps:Array Value}{cs:List Frame}:∀(ds:List dK) (X:Wd) (l:List Deferred) (q:Frame) (H':aj),
  dH call ds X.H=aa H'→SR Q σ X→X.B≤X.w.heap.size→fN σ X ds l→jr g y tmps l q →
  ∃ fr' X',Steps Q (lone q cs X.w) (lone fr' cs X'.w)∧jr g y tmps [] fr'∧X'.H=H'∧SR Q σ X'∧X'.B≤X'.w.heap.size∧Ext X.H.length X X'
 | [],X,l,q,H',h,B,E,z,j=>by
  have:l=[]:=aud z.len.symm;subst this;simp only [dH,At]at h;exact⟨q,X,Steps.refl _ _,j,h,B,E,Ext.refl _ _⟩
 | d::ds,X,[],q,H',h,B,E,z,j=>by have:=z.len;simp at this
 | .gX b::ds,X,m::l,q,H',h,B,E,z,j=>by
  obtain⟨⟨L,o,h1,h2,rfl⟩,A⟩:=A2.of_cons z;simp only [dH]at h;split at h
  ·rename_i I;obtain⟨_,_,bq,F,K⟩:=B.br b L h1;rw [I]at F;cases F;have x:X.w.heap[L.c]?=aa (.deferred (aa [])):=K;obtain⟨g1,J⟩:=SR.qG (o':=.deferred ab) (blk':=.eZ ag) B I h1 x (by simp) (by simp)
    (fun bq v=>⟨.eZ ag,by simp [(atu.1 I).1],by rw [I]at v;cases v;exact fun L h=>h⟩)
    (fun X' a_ O _ a7 hH=>O)
   obtain⟨fr',X',S,U,W,Y,Z,k6⟩:=zW H ds _ l { q with defers:=l } H' h g1 (by simpa using E) (fN.ext' J A) j.pop;exact⟨fr',X',.head (step_collected j.1 j.2.1 (run_takeDeferred x)) S,U,W,Y,Z,J.trans (k6.mono J.len)⟩
  ·simp at h
 | .fn f args::ds,X,m::l,q,H',h,B,E,z,j=>by
  obtain⟨⟨us,cap,rfl,hA⟩,A⟩:=A2.of_cons z;simp only [dH]at h;split at h
  ·simp at h
  rename_i N;split at h
  ·rename_i r H1 s;have M:=H.enters f args _ _ s;obtain⟨a8,X1,u,q1,q2,q3,q4,q5,q6,q7⟩:=H.fn f args _ r H1 s X _ .deferred ({ q with defers:=l }::cs) rfl B E hA (.inr ⟨rfl,_,_,rfl,j.1⟩) (.inr N);rw [←q3]at h;obtain⟨fr',X',S,U,W,Y,Z,k6⟩:=zW H ds X1 l { q with defers:=l } H' h q4 q7 (fN.ext' q6 A) j.pop;refine⟨fr',X',.head (xM (as':=us++cap) j.1 j.2.1 (eT M)) (Steps.trans ?_ (.head (oe (c:={ q with defers:=l }) q2 j.1) S)),U,W,Y,Z,q6.trans (k6.mono q6.len)⟩;have e:(us.toList++cap.toList).toArray=us++cap:=by apply Array.ext';simp
   rw [e]at q1;exact q1
  ·simp at h
theorem aoi(E:SR Q σ X){n:Nat}{aB:T}{tmps:Array Value}(m:RR σ X aB tmps){r:ResultVar}{a:gG}(g:xF Q n r a=ae){v:V}
  (h:cN aB X.H a=aa v):∃ u,(match r with | .tmp t=>pure (tmps.getD t undef) | .cell a t=>do loadVar t (←asAddr (tmps.getD a undef)):Sem Value).run Q X.w=.ok u X.w∧hZ σ X v u:=by
 cases r with
 | tmp t=>
  cases a with
  | tmp p=>
   simp only [xF,atI,beq_iff_eq,decide_eq_true_eq]at g;have d:=m p;rw [g.1]at d;simp only [cN]at h;refine⟨_,rfl,?_⟩;split at h
   ·simp at h
   ·rename_i j;simp only [At]at h;rw [h]at d;cases v with
    | t H=>exact absurd h (j H)| top=>trivial| c x=>exact d| a xs=>exact d
  | cell p k=>simp [xF]at g
 | cell t I=>
  cases a with
  | tmp p=>simp [xF]at g
  | cell p k=>
   simp only [xF,atI,beq_iff_eq,decide_eq_true_eq]at g;have d:=m p;rw [g.1.1]at d;simp only [cN]at h;cases q:aB.get p with
   | c x=>
    rw [q]at h d;simp only [aV,Option.bind_eq_some_iff]at h;obtain⟨cs,s,b⟩:=h;obtain⟨c,o,us,F,z,A⟩:=vg E d s;obtain⟨u,B,l⟩:=Da g.2 z A b;refine⟨u,by simp [F,asAddr,B],?_⟩;cases k with
    | none=>cases cs with
     | nil=>simp [aT]at b| cons y ys=>simp only [aT,At]at b;subst b;exact l
    | some k=>
     simp only [aT]at b;split at b
     ·simp only [At]at b;subst b;exact l
     ·simp at b
   | _=>rw [q]at h;simp [aV]at h
theorem EW(K:SR Q σ X){fn:Func}{m:List gG}(L:fk (xF Q fn.ntmps) fn.results.toList m=ae){aB:T}{tmps:Array Value}(J:RR σ X aB tmps){v:V}
  (h:Km.results aB X.H m=aa v):∃ u,(Go.results fn tmps).run Q X.w=.ok u X.w∧VR σ X v u:=by
 have key:∀(m:List gG) (qs:List ResultVar) (j:List V),fk (xF Q fn.ntmps) qs m=ae→bj (cN aB X.H) m=aa j →
   ∃ us:List Value,(qs.mapM (fun r=>match r with | .tmp t=>pure (tmps.getD t undef) | .cell a t=>do loadVar t (←asAddr (tmps.getD a undef)):ResultVar→Sem Value)).run Q X.w=.ok us X.w∧A2 (hZ σ X) j us:=by
  intro m;induction m with
  | nil=>
   intro qs j x l;cases qs with
   | nil=>simp only [bj,At]at l;subst l;exact⟨[],rfl,A2.nil⟩| cons q qs=>simp [fk]at x
  | cons a m M=>
   intro qs j x l;cases qs with
   | nil=>simp [fk]at x
   | cons q qs=>
    simp only [fk,atI]at x;simp only [bj]at l;split at l
    ·simp at l
    ·rename_i A E;split at l
     ·simp at l
     ·rename_i B F;simp only [At]at l;subst l;obtain⟨u,s,b⟩:=aoi K J x.1 E;obtain⟨us,H,I⟩:=M qs B x.2 F;refine⟨u::us,?_,A2.cons b I⟩;rw [List.mapM_cons,Sem.run_bind,s];simp only [Result.andThen_ok,Sem.run_bind,H,Sem.run_pure]
 unfold Km.results at h;have y:∀ j,bj (cN aB X.H) m=aa j→∃ us:List Value,(Go.results fn tmps).run Q X.w=.ok (if h:us.toArray.size=1 then us.toArray[0]else .tuple us.toArray) X.w∧A2 (hZ σ X) j us:=by
  intro j g;obtain⟨us,s,b⟩:=key m fn.results.toList j L g;refine⟨us,?_,b⟩;unfold Go.results;rw [Array.mapM_eq_mapM_toList,Sem.run_bind,Sem.run_map];exact(congrArg (fun r:Result (List Value)=>(r.andThen fun a w'=>Result.ok a.toArray w').andThen fun a w'=>Sem.run Q (pure (if h:a.size=1 then a[0]else Value.tuple a)) w') s).trans rfl
 split at h
 ·rename_i A g;simp only [At]at h;subst h;obtain⟨us,s,b⟩:=y _ g
  match us,b with
  | [u],b=>exact⟨u,s,VR.of1 σ b.of_cons.1⟩| [],b=>have:=b.len;simp at this| _::_::_,b=>have:=b.len;simp at this
 ·rename_i j z g;simp only [At]at h;subst h;obtain⟨us,s,b⟩:=y _ g;refine⟨.tuple us.toArray,?_,us,rfl,b⟩;rw [s,dif_neg];intro d
  match us,d with
  | [u],_=>
   match j,b with
   | [A],_=>exact z A rfl| [],b=>have:=b.len;simp at this| _::_::_,b=>have:=b.len;simp at this
  | [],d=>simp at d| _::_::_,d=>simp at d
 ·simp at h
end
section
variable{Q:Program}{σ:Nat→FuncId}{tab:Nat→Option aL}{oc:Nat→List V→aj→Option (Option (V × aj))}
theorem aqB(i:Env Q σ tab oc){m:Nat}{call:cR}(h:e9 Q σ call){f:Nat}{af:aL}(I:tab f=aa af){args:List V}(E:args.length=af.ps.length){x:Option aE}{s':St}{X:Wd}
  (v:run call f m ab [.code af.body] ⟨cK af.ps args .e,[],X.H⟩=aa (x,s')) {H':aj} (j:dH call s'.defs s'.heap=aa H') {r:V} (s:Km.results s'.aB H' af.results=aa r)
  {us:List Value} {d:CallKind} {cs:List Frame} (hS:SR Q σ X) (hB:X.B≤X.w.heap.size) (e:A2 (VR σ X) args us) (hk:oX d cs) :
  ∃ W X' u,Steps Q (lone (Frame.enter Q (σ f) us.toArray d) cs X.w) (lone W cs X'.w)∧Leaves Q (σ f) d W u X'.w∧eY Q σ X r H' X' u:=by
 obtain⟨fn,n,hm⟩:=i.fn f af I;obtain⟨c,M,y,z,O,N⟩:=sR hm
 let b:Frame:=Frame.enter Q (σ f) us.toArray d
 let l:Act:={ tmps:=us.toArray++Array.replicate (fn.ntmps-us.toArray.size) undef,defers:=[] }
 have hb:b=b.atR l [.code c]:=by
  simp [b,l,Frame.enter,Frame.atR,n,y]
 have S:fn.ntmps≤l.tmps.size:=by simp [l];omega
 have L:RR σ X (cK af.ps args .e) l.tmps:=by
  intro p;rw [wN af.ps args .e 0 (by rw [N,List.range_eq_range']) E p];simp only [avp,if_true,Nat.sub_zero];by_cases o:p.toNat<args.length
  ·have t:=asZ o;have F:p.toNat<us.length:=e.len▸o;have hy:=asZ F;have hv:=e.2 _ _ _ t hy;rw [t];have:l.tmps.getD p.toNat undef=us[p.toNat]:=by
    simp [l,Array.getD_eq_getD_getElem?,Array.getElem?_append,F]
   rw [this];exact hv
  ·rw [avc (by omega)];cases p<;>trivial
 have hF:Fr Q σ fn.ntmps X ⟨cK af.ps args .e,[],X.H⟩ l:=⟨rfl,hS,hB,L,A2.nil,S⟩
 have hW:Way Q σ f fn.ntmps b cs ab [.code af.body] [.code c] ⟨cK af.ps args .e,[],X.H⟩ X l:=⟨hF,A2.cons (.code z) A2.nil,trivial,hk,rfl⟩
 obtain⟨J,a1,g,s1,A,E1,_,U⟩:=ac' h i.mix f m fn.ntmps b cs ab _ _ _ X l x s' v hW;have H:∃ q,Steps Q (lone (b.atR a1 g) cs J.w) (lone q cs J.w)∧jr (σ f) d a1.tmps a1.defers q:=by
  rcases ac8 f m _ _ _ _ v with rfl | rfl
  ·have:g=[]:=U;subst this;exact⟨_,.one (stepR_end rfl),rfl,rfl,rfl,rfl,rfl⟩
  ·obtain⟨k,rfl⟩:=U;exact⟨_,.one (stepR_ret rfl),rfl,rfl,rfl,rfl,rfl⟩
 obtain⟨q,s2,w⟩:=H;rw [←A.heap]at j;obtain⟨K,X2,s3,B,Y,Z,h3,a⟩:=zW h (cs:=cs) s'.defs J a1.defers q H' j A.sr A.b A.defs w;rw [←Y]at s;obtain⟨u,g1,g2⟩:=EW Z O (RR.ext' σ a A.aB) s;refine⟨K,X2,u,?_,⟨B.1,B.2.1,B.2.2.1,B.2.2.2.1,fn,n,by rw [B.2.2.2.2];exact g1⟩,Y,Z,g2,E1.trans (a.mono E1.len),h3⟩;show Steps Q (lone b cs X.w) _;rw [hb];exact s1.trans (s2.trans s3)
theorem ad5(hE:Env Q σ tab oc){m:Nat}{call:cR}(hC:e9 Q σ call){b:Nat}{f:Nat}{tmps:T}{ps:List P}{as bd:aE}{q:ez}{pd:Option aE}{d:Nat}{X:Wd}(U:X.H[b]?=aa (.lp f tmps ps as bd q pd d))
  {args:List V} (S:args.length=ps.length) {g:Option aE} {s':St} (Y:run call f m (aa b) [.code as,.mJ,.code bd] ⟨cK ps args tmps,[],X.H⟩=aa (g,s')) (c_:s'.defs.isEmpty=ae)
  {f':Nat} {v:T} {J:List P} {as' H:aE} {q':ez} {e_:Option aE} {d':Nat} (y:s'.heap[b]?=aa (.lp f' v J as' H q' e_ d'))
  {us:List Value} {c:Frame} {cs:List Frame} {L:Loc} (hS:SR Q σ X) (hB:X.B≤X.w.heap.size) (hA:A2 (VR σ X) args us) (hL:X.cB b=aa L) :
  ∃ f tmps as bd X' u,(Instr.yield L.c us.toArray).run Q X.w=.ok (.round L.c f tmps as bd) X.w ∧
   Steps Q (lone (Frame.round L.c f tmps as bd .normal) (c::cs) X.w) (lone (c.finish u) cs X'.w)∧eY Q σ X (.bool g.isNone) (s'.heap.set b (.lp f' v J as' H (if g.isNone then .ready else .done) g d')) X' u:=by
 obtain⟨n,ts,qs,z,A,f_,Ld,W,h2,h3,h4,h5,h6,h7,h8,h9⟩:=qc hS hL U;have hq:=(eC h4).len;have d_:us.toArray.size=qs.size:=by
  have:=hA.len;simp only [Array.length_toList]at hq;simp;omega
 have hy:=run_yield (P:=Q) (args:=us.toArray) W d_
 let F:Array Value:=(qs.zip us.toArray).foldl (fun tmps (t,a)=>tmps.setIfInBounds t a) ts
 have O:F=(qs.toList.zip us).foldl (fun tmps (t,a)=>tmps.setIfInBounds t a) ts:=by
  simp only [F];rw [←Array.foldl_toList];simp
 let M:Act:={ tmps:=F,defers:=[] }
 let B:Frame:=Frame.round L.c (σ f) F z A .normal
 have b9:B=B.atR M [.code z,.beginRound,.code A]:=by simp [B,M,Frame.round,Frame.atR]
 have b_:RR σ X (cK ps args tmps) F:=by
  rw [O];exact RR.cK ps qs.toList args us tmps ts n h2 h3 hA S h4
 have hn:n≤F.size:=by rw [O,sY];exact h2
 have hF:Fr Q σ n X ⟨cK ps args tmps,[],X.H⟩ M:=⟨rfl,hS,hB,b_,A2.nil,hn⟩
 have E:Ec X b:=⟨_,_,_,_,_,_,_,_,U⟩
 have hW:Way Q σ f n B (c::cs) (aa b) [.code as,.mJ,.code bd] [.code z,.beginRound,.code A] ⟨cK ps args tmps,[],X.H⟩ X M:=
  ⟨hF,A2.cons (.code h5) (A2.cons .mJ (A2.cons (.code h6) A2.nil)),⟨L,hL,rfl,E⟩,.inl rfl,rfl⟩
 obtain⟨X1,a1,x,s1,K,E1,_,Z⟩:=ac' hC hE.mix f m n B (c::cs) (aa b) _ _ _ X M g s' Y hW;have N:=(E.ext E1).2 _ hL;rw [←K.heap]at y;obtain⟨n1,h_,g_,a8,a_,pend1,a7,s,k2,k3,k4,k5,k6,k7,k8,k9⟩:=qc K.sr N y;have I:∀(l:Option Code),yX Q σ n1 g l→l.isNone=g.isNone→step Q (lone (B.atR a1 x) (c::cs) X1.w)=.next (lone (c.finish (.bool l.isNone)) cs (X1.w.putObj L.c (.loop { state:=if l.isNone then .ready else .done,pending:=l,fn:=σ f',tmps:=h_,params:=g_,assign:=a8,body:=a_,defers:=a7.c }))) →
   ∃ f tmps as bd X' u,(Instr.yield L.c us.toArray).run Q X.w=.ok (.round L.c f tmps as bd) X.w ∧
   Steps Q (lone (Frame.round L.c f tmps as bd .normal) (c::cs) X.w) (lone (c.finish u) cs X'.w)∧eY Q σ X (.bool g.isNone) (s'.heap.set b (.lp f' v J as' H (if g.isNone then .ready else .done) g d')) X' u:=by
  intro l hj hn d9;obtain⟨g1,g2⟩:=AP K.sr N y (q':=if g.isNone then .ready else .done) (pend1:=g) (pend':=l) k2 k3 k4 k5 k6 hj k8 k9;have hq:(if g.isNone then ez.ready else ez.done).of=(if l.isNone then LoopState.ready else LoopState.done):=by
   rw [hn];cases g<;>rfl
  rw [hq]at g1 g2;refine⟨σ f,F,z,A,_,.bool l.isNone,hy,?_,?_,g1,?_,E1.trans (g2.mono E1.len),?_⟩
  ·show Steps Q (lone B (c::cs) X.w) _;rw [b9];exact s1.trans (.one d9)
  ·rw [←K.heap]
  ·rw [hn];exact VR.vY _
  ·have:=K.b;simpa [World.putObj]using this
 cases g with
 | none=>
  have:x=[]:=Z;subst this;exact I ab trivial rfl (stepR_round_end rfl rfl (run_endRound (P:=Q) ab s))
 | some j=>
  cases j with
  | ret=>
   obtain⟨k,rfl⟩:=Z;exact I (aa .ret) (by simp [yX,bS]) rfl (stepR_round_ret rfl rfl (run_endRound (P:=Q) (aa .ret) s))
  | exit id=>
   obtain⟨k,rfl,hx⟩:=Z;exact I (aa (.exit id)) (by simp [yX,bS]) rfl (stepR_round_exit rfl rfl hx (run_endRound (P:=Q) (aa (.exit id)) s))
  | _=>exact Z.elim
theorem abq(x:Env Q σ tab oc)(m:Nat):∀ d,e9 Q σ (ey tab oc m d):=by
 intro d;induction d with
 | zero=>exact⟨fun f args H r h=>by simp [ey]at h,fun f args H r H' h=>by simp [ey]at h,fun b args H r H' h=>by simp [ey]at h⟩
 | succ d S=>
  refine⟨fun f args H r h=>?_,fun f args H r H' h X us B cs J I F E U K=>?_,fun b args H r H' h X us c cs L J I F E hL=>?_⟩
  ·simp only [ey]at h;split at h
   ·rename_i r' N;obtain⟨r0,W⟩:=r;exact(x.oc f args H r0 W (by rw [N,h])).1
   ·split at h
    ·simp at h
    ·rename_i af l;obtain⟨fn,hf,hm⟩:=x.fn f af l;obtain⟨c,v,s,_⟩:=sR hm;exact qB hf v s
  ·simp only [ey]at h;split at h
   ·rename_i r' N;exact(x.oc f args H r H' (by rw [N,h])).2 X us B cs J I F E U K
   ·split at h
    ·simp at h
    ·rename_i af l;split at h
     ·rename_i g;split at h
      ·rename_i A s' j;split at h
       ·rename_i H1 u;simp only [at0,at1]at h;obtain⟨r1,z,rfl,rfl⟩:=h;subst J;exact aqB x S l g j u z I F E U
       ·simp at h
      ·simp at h
     ·simp at h
  ·simp only [ey]at h;split at h
   ·rename_i f tmps ps as bd q pd d' M;split at h
    ·rename_i g;split at h
     ·rename_i A s' j;split at h
      ·rename_i hd;split at h
       ·rename_i f' O a8 as' Y q' a7 Z y;simp only [At,at1]at h;obtain⟨rfl,rfl⟩:=h;subst J;exact ad5 x S M g j hd y I F E hL
       ·simp at h
      ·simp at h
     ·simp at h
    ·simp at h
   ·simp at h
end
inductive Bm where
 | no
 | set (b:Nat) (x:bz)
 | push (x:bz)
def Bm.app(H:aj):Bm→aj
 | .no=>H| .set b x=>H.set b x| .push x=>H++[x]
def vf(g:Nat→Option bz):C→Option (List C)
 | .ptr b off ep=>match g b with
  | some (.box cs _)=>aa (cs.drop off)| some (.b5 _ cs _ e .loc)=>if ep=e then aa (cs.drop off)else ab| _=>ab
 | .f (.fp cs off)=>aa ((cs.drop off).map .f)| _=>ab
def anP(g:Nat→Option bz)(n:Option Nat):V→Option V
 | .c x=>(vf g x).bind (aT n)| _=>ab
def sC(g:Nat→Option bz):C→Option Nat
 | .sl b _ l _ ep sz=>match g b with
  | some (.box _ _)=>aa l| some (.b5 s _ _ e _)=>if ep=e∧sz=s then aa l else ab| _=>ab
 | .f .aw=>aa 0| .f .es=>aa 0| .f (.fs _ l)=>aa l| _=>ab
def qD(g:Nat→Option bz)(sz:Nat):C→Option (List C)
 | .sl b o l _ ep s=>match g b with
  | some (.box cs _)=>if o+l*sz≤cs.length then aa ((cs.drop o).take (l*sz))else ab| some (.b5 s' cs _ e _)=>if ep=e∧s=s'∧o+l*sz≤cs.length then aa ((cs.drop o).take (l*sz))else ab| _=>ab
 | .f .aw=>aa []| .f .es=>aa []| .f (.fs cs l)=>if cs.length=l*sz then aa (cs.map .f)else ab| _=>ab
def se(g:Nat→Option bz):FE→C→Option Bool
 | .ptr,.f .ob=>aa ae| .ptr,.f (.fp _ _)=>aa ag| .ptr,.ptr _ _ _=>aa ag| .sl,.f .aw=>aa ae| .sl,.f .es=>aa ag| .sl,.f (.fs _ _)=>aa ag
 | .sl,.sl b _ _ _ ep sz=>match g b with
  | some (.box _ _)=>aa ag| some (.b5 s _ _ e st)=>if ep=e∧sz=s then aa (st == .nil)else ab| _=>ab
 | .fn,.f .iX=>aa ae| .fn,.f (.fn _ _)=>aa ag| .fn,.cl _ _=>aa ag| .fn,.bm _ _=>aa ag| .ifc,.f .mF=>aa ae| _,_=>ab
def ano(g:Nat→Option bz):FE→V→V→Option Bool
 | .bool,.c x,.c y=>PK .bool x y| .st b,.a xs,.a ys=>qM b xs ys| .ptr,.c x,.c (.f .ob)=>se g .ptr x| .sl,.c x,.c (.f .aw)=>se g .sl x| .fn,.c x,.c (.f .iX)=>se g .fn x| .ifc,.c x,.c (.f .mF)=>se g .ifc x| _,_,_=>ab
def uH(g:Nat→Option bz)(sz:Nat)(x:V)(lo hi mx:Option V):Option V:=
 match x with
 | .c (.f .aw)=>match bO 0 0 lo hi mx with
  | some _=>aa (.c (.f .aw))| none=>ab
 | .c (.f .es)=>match bO 0 0 lo hi mx with
  | some _=>aa (.c (.f .es))| none=>ab
 | .c (.f (.fs cs n))=>match bO n n lo hi mx with
  | some (l,h,m)=>
   if mx.isSome∧m=l then aa (.c (.f .es))else
   aa (.c (.f (.fs ((cs.drop (l*sz)).take ((h-l)*sz)) (h-l))))
  | none=>ab
 | .c (.sl b o n cap ep s)=>match g b with
  | some (.box _ _)=>match bO n cap lo hi mx with
   | some (l,h,m)=>if m=l then aa (.c (.f .es))else aa (.c (.sl b (o+l*sz) (h-l) (m-l) ep s))| none=>ab
  | some (.b5 s' cs _ e st)=>
   if ep=e∧s=sz∧s'=sz then
    match st with
    | .loc=>match bO n n lo hi mx with
     | some (l,h,m)=>
      if mx.isSome∧m=l then aa (.c (.f .es))
      else if l=h∧0<l then aa (.c (.f (.fs [] 0)))
      else if mx.isSome then(if 0<l then aa (.c (.sl b 0 0 0 ep (s'+1)))else ab)
      else aa (.c (.sl b (o+l*sz) (h-l) 0 ep s))
     | none=>match mx with
      | some _=>ab
      | none=>match bO n ((cs.length-o) / sz) lo hi ab with
       | some (l,h,_)=>if n≤(cs.length-o) / sz∧l<h then aa (.c (.sl b (o+l*sz) (h-l) 0 ep s))else ab| none=>ab
    | .nil=>match bO 0 0 lo hi mx with
     | some _=>aa (.c (.f .aw))| none=>ab
    | .es=>match bO 0 0 lo hi mx with
     | some _=>aa (.c (.f .es))| none=>ab
   else ab
  | _=>ab
 | _=>ab
def AJ(g:Nat→Option bz)(n sz:Nat)(x:V)(lo hi mx:Option V):Option V:=
 match x with
 | .c (.ptr b off _)=>match g b with
  | some (.box cs _)=>match bO n n lo hi mx with
   | some (l,h,m)=>if off+n*sz≤cs.length then(if m=l then aa (.c (.f .es))else aa (.c (.sl b (off+l*sz) (h-l) (m-l) 0 sz)))else ab| none=>ab
  | _=>ab
 | .c (.f (.fp cs off))=>match bO n n lo hi mx with
   | some (l,h,m)=>if off+n*sz≤cs.length then(if m=l then aa (.c (.f .es))else aa (.c (.f (.fs ((cs.drop (off+l*sz)).take ((h-l)*sz)) (h-l)))))else ab| none=>ab
 | _=>ab
def vO(g:Nat→Option bz)(sz:Nat)(d:Option Nat)(x i:V):Option V:=
 match ik i with
 | none=>ab
 | some i=>
  if 0≤i then
   match d,x with
   | none,.c (.sl b o l _ ep s)=>if i<l then
     (match g b with
      | some (.box _ _)=>aa (.c (.ptr b (o+i.toNat*sz) ep))| some (.b5 s' _ _ e .loc)=>if ep=e∧s=s' then aa (.c (.ptr b (o+i.toNat*sz) ep))else ab
      | _=>ab)else ab
   | none,.c (.f (.fs cs l))=>if i<l then aa (.c (.f (.fp cs (i.toNat*sz))))else ab| some n,.c (.ptr b o ep)=>if i<n then aa (.c (.ptr b (o+i.toNat*sz) ep))else ab| some n,.c (.f (.fp cs o))=>if i<n then aa (.c (.f (.fp cs (o+i.toNat*sz))))else ab| _,_=>ab
  else ab
def vV(g:Nat→Option bz)(d:CK)(z:FC):V→V→Option V
 | .c (.f .xI),.c (.f k)=>if isKey d k then aa (lkR z ab)else ab
 | .c (.mp b),.c (.f k)=>match g b with
  | some (.map j)=>if isKey d k then(m6 d k j).map (lkR z)else ab| _=>ab
 | _,_=>ab
def DW(g:Nat→Option bz):V→Option V
 | .c x=>match sC g x with
  | some _=>match qD g 1 x with
   | some cs=>(bj (fun c=>match c with | C.f (.int .u8 n)=>aa (UInt8.ofNat n.toNat) | _=>ab) cs).map fun l=>.c (.f (.str ⟨l.toArray⟩))
   | none=>ab
  | none=>ab
 | _=>ab
def pC(g:Nat→Option bz)(sz:Nat):V→Option (Nat × List C)
 | .c (.f (.str s))=>if sz=1 then aa (s.size,s.toList.map fun b=>.f (.int .u8 b.toNat))else ab
 | .c x=>match sC g x,qD g sz x with
  | some l,aa cs=>aa (l,cs)| _,_=>ab
 | _=>ab
def EZ(g:Nat→Option bz):C→Option Nat
 | .sl b _ _ c ep sz=>match g b with
  | some (.box _ _)=>aa c| some (.b5 s _ _ e .nil)=>if ep=e∧sz=s then aa 0 else ab| some (.b5 s _ _ e .es)=>if ep=e∧sz=s then aa 0 else ab| _=>ab
 | .f .aw=>aa 0| .f .es=>aa 0| _=>ab
def zX(g:Nat→Option bz):V→Option V
 | .c (.mi b)=>match g b with
  | some (.xn m _ ae)=>match g m with
   | some (.map [e])=>aa (.t [.c (.f e.1),mV e.2])| _=>ab
  | _=>ab
 | _=>ab
def adB(g:Nat→Option bz)(x:C)(xs:List C):Option Bm:=
 match x with
 | .ptr b off ep=>match g b with
  | some (.box cs fl)=>if fl≤off∧off+xs.length≤cs.length then aa (.set b (.box (bp cs off xs) fl))else ab| some (.b5 sz cs fl e .loc)=>if ep=e∧fl≤off∧off+xs.length≤cs.length then aa (.set b (.b5 sz (bp cs off xs) fl e .loc))else ab| _=>ab
 | _=>ab
def EA(g:Nat→Option bz):V→Option (V × Bm)
 | .c (.it b)=>match g b with
  | some (.it s pos)=>
   if pos<s.size then
    let r:=Utf8.decode s pos
    aa (.t [.bool ae,.int .i64 pos,.int .i32 r.1],.set b (.it s (pos+r.2)))
   else aa (.t [.bool ag],.no)
  | _=>ab
 | _=>ab
def uZ(g:Nat→Option bz)(d:Nat)(sz bytes:Nat)(x y:V):Option (V × Bm):=
 match pC g sz y with
 | none=>ab
 | some (m,ys)=>
  if sz=0 then ab else
  match x with
  | .c (.f .aw)=>if m=0 then aa (.c (.f .aw),.no)else
    if bU m bytes then aa (.c (.sl d 0 m 0 0 sz),.push (.b5 sz ys 0 0 .loc))else ab
  | .c (.f .es)=>if m=0 then aa (.c (.f .es),.no)else
    if bU m bytes then aa (.c (.sl d 0 m 0 0 sz),.push (.b5 sz ys 0 0 .loc))else ab
  | .c (.sl b o l cap ep s)=>match g b with
   | some (.box cs fl)=>
    if l+m≤cap then
     if fl≤o+l*sz∧o+l*sz+ys.length≤cs.length then aa (.c (.sl b o (l+m) cap ep s),.set b (.box (bp cs (o+l*sz) ys) fl))else ab
    else if bU (l+m) bytes∧o+l*sz≤cs.length then aa (.c (.sl d 0 (l+m) 0 0 sz),.push (.b5 sz ((cs.drop o).take (l*sz)++ys) 0 0 .loc))else ab
   | some (.b5 s' cs fl e st)=>
    if ep=e∧s'=sz∧s=sz then
     if m=0 then aa (x,.no)
     else if o=0∧l*sz=cs.length∧fl≤cs.length then
      if bU (l+m) bytes then aa (.c (.sl b 0 (l+m) 0 (ep+1) sz),.set b (.b5 sz (cs++ys) fl (e+1) .loc))else ab
     else if st=.loc∧fl≤o+l*sz∧o+l*sz+ys.length≤cs.length then
      aa (.c (.sl b o (l+m) 0 ep sz),.set b (.b5 sz (bp cs (o+l*sz) ys) fl e .loc))
     else ab
    else ab
   | _=>ab
  | _=>ab
def DV(g:Nat→Option bz)(sz:Nat)(x y:V):Option (V × Bm):=
 match pC g sz y,x with
 | some _,.c (.f .aw)=>aa (.int .i64 0,.no)| some _,.c (.f .es)=>aa (.int .i64 0,.no)
 | some (m,ys),.c (.sl b o l _ ep s')=>
  let n:=Nat.min m l
  match g b with
  | some (.box cs fl)=>if fl≤o∧o+n*sz≤cs.length then aa (.int .i64 n,.set b (.box (bp cs o (ys.take (n*sz))) fl))else ab| some (.b5 s cs fl e .loc)=>if ep=e∧s'=s∧s=sz∧fl≤o∧o+n*sz≤cs.length then aa (.int .i64 n,.set b (.b5 s (bp cs o (ys.take (n*sz))) fl e .loc))else ab| _=>ab
 | _,_=>ab
def zU(g:Nat→Option bz)(sz:Nat)(zs:List FC)(x:V):Option Bm:=
 match x with
 | .c y=>match sC g y with
  | some 0=>aa .no
  | some l=>
   if zs.length=sz then
    match y with
    | .sl b o _ _ ep s=>match g b with
     | some (.box _ _)=>adB g (.ptr b o ep) ((cE l zs).map .f)| some (.b5 s' _ _ e .loc)=>if ep=e∧s=s' then adB g (.ptr b o ep) ((cE l zs).map .f)else ab| _=>ab
    | _=>ab
   else ab
  | none=>ab
 | _=>ab
def E4(g:Nat→Option bz)(sz:Nat)(x hi mx:V):Option (V × Bm):=
 match uH g sz x ab (aa hi) (aa mx)with
 | some v=>aa (v,.no)
 | none=>match x with
  | .c (.sl b o n _ ep s)=>match g b with
   | some (.b5 s' cs fl e .loc)=>
    if ep=e∧s=sz∧s'=sz∧o=0 then
     match AU hi n,AU mx n with
     | some i,aa j=>
      if i=j∧0<i∧i*sz≤cs.length then
       match bj fcC (cs.take (i*sz))with
       | some ys=>aa (.c (.f (.fs ys i)),.set b (.b5 s' cs (Nat.max fl (i*sz)) e .loc))| none=>ab
      else ab
     | _,_=>ab
    else ab
   | _=>ab
  | _=>ab
def DO(g:Nat→Option bz)(b:Nat)(sz bytes:Nat)(zs:List FC)(x n:V):Option (V × Bm):=
 match ik n with
 | some n=>
  if 0≤n∧zs.length=sz then
   match x with
   | .c (.f .aw)=>if n.toNat=0 then aa (.c (.f .aw),.no)else
     if bU n.toNat bytes then aa (.c (.sl b 0 n.toNat 0 0 sz),.push (.b5 sz ((cE n.toNat zs).map .f) 0 0 .loc))else ab
   | .c (.f .es)=>if n.toNat=0 then aa (.c (.f .es),.no)else
     if bU n.toNat bytes then aa (.c (.sl b 0 n.toNat 0 0 sz),.push (.b5 sz ((cE n.toNat zs).map .f) 0 0 .loc))else ab
   | _=>ab
  else ab
 | none=>ab
def Au(g:Nat→Option bz):V→Option (V × Bm)
 | .c (.mi b)=>match g b with
  | some (.xn m d done)=>match g m with
   | some (.map [])=>if done then ab else aa (.t [.bool ag],.no)| some (.map [e])=>if done then aa (.t [.bool ag],.no)else if d=1 then aa (.t [.bool ae,.c (.f e.1),mV e.2],.set b (.xn m 1 ae))else ab| _=>ab
  | _=>ab
 | _=>ab
def wF(g:Nat→Option bz)(j:Nat):V→Option (V × Bm)
 | .c (.mp b)=>match g b with
  | some (.map d)=>if d.length≤1 then aa (.c (.mi j),.push (.xn b d.length ag))else ab| _=>ab
 | _=>ab
def ad2(aB:T)(g:Nat→Option bz)(d:Nat):cX→Option (V × Bm)
 | .bc x=>aa (x.ev aB,.no)| .pre o sz=>if o=.loc∨sz=0 then ab else aa (.c (.sl d 0 0 0 0 sz),.push (.b5 sz [] 0 0 o))
 | .pick c a b=>match c.ev aB with
  | .c (.f (.bool v))=>aa ((if v then a else b).ev aB,.no)| _=>ab
 | .alloc zs=>aa (.c (.ptr d 0 0),.push (.box (zs.map .f) 0))
 | .box x=>match (x.ev aB).cells? with
  | some xs=>aa (.c (.ptr d 0 0),.push (.box xs 0))| none=>ab
 | .build zs ps=>(dE aB (zs.map .f) ps).map fun cs=>(.a cs,.no)
 | .bH sz zs n ps=>
  if n=0 then(if ps.isEmpty then aa (.c (.f .es),.no)else ab)else
  (dE aB ((cE n zs).map .f) (ps.map fun p=>(p.1*sz,sz,p.2))).map fun cs=>(.c (.sl d 0 n n 0 sz),.push (.box cs 0))
 | .load n x=>(anP g n (x.ev aB)).map (·,.no)
 | .store n x y=>match x.ev aB,(y.ev aB).cells? with
  | .c p,aa xs=>if xs.length=n then(adB g p xs).map (.top,·)else ab| _,_=>ab
 | .cj x=>match x.ev aB with
  | .c (.ptr b o e)=>aa (.c (.ptr b o e),.no)| .c (.f (.fp cs o))=>aa (.c (.f (.fp cs o)),.no)| _=>ab
 | .bin op x y=>(dp op (x.ev aB) (y.ev aB)).map (·,.no)| .eq neg k x y=>(ano g k (x.ev aB) (y.ev aB)).map fun b=>(.bool (if neg then !b else b),.no)
 | .un op x=>(unV op (x.ev aB)).map (·,.no)
 | .fO k x=>match x.ev aB with
  | .c (.f (.int _ n))=>aa (.int k (k.wrap n),.no)| _=>ab
 | .xz x=>match x.ev aB with
  | .c (.f (.str s))=>aa (.c (.f (.str s)),.no)| _=>ab
 | .xy x=>(DW g (x.ev aB)).map (·,.no)
 | .DX x=>match x.ev aB with
  | .c (.f (.str s))=>if s.size<2 ^ 48 then aa (.c (.sl d 0 s.size 0 0 1),.push (.b5 1 (s.toList.map fun b=>.f (.int .u8 b.toNat)) 0 0 .loc))else ab
  | _=>ab
 | .fP f j=>(bj mL (dy aB j)).map fun xs=>(.c (.cl f xs),.no)
 | .jH=>aa (.c (.mp d),.push (.map []))| .lookup q z m k=>(vV g q z (m.ev aB) (k.ev aB)).map (·,.no)
 | .ja q m k v=>match m.ev aB,k.ev aB,pG (v.ev aB)with
  | .c (.mp b),.c (.f k),aa v=>match g b with
   | some (.map A)=>if isKey q k then(qh q k v A).map fun A=>(.top,.set b (.map A))else ab
   | _=>ab
  | _,_,_=>ab
 | .dR sz bytes zs l c=>match ik (l.ev aB),ik (c.ev aB)with
  | some l,aa c=>
   if 0≤l∧l≤c∧bU c.toNat bytes=ae∧zs.length=sz then
    (if c=0 then aa (.c (.f .es),.no)else
    aa (.c (.sl d 0 l.toNat c.toNat 0 sz),.push (.box ((cE c.toNat zs).map .f) 0)))
   else ab
  | _,_=>ab
 | .slice sz x lo hi mx=>(uH g sz (x.ev aB) (lo.map (·.ev aB)) (hi.map (·.ev aB)) (mx.map (·.ev aB))).map (·,.no)| .nm n sz x lo hi mx=>(AJ g n sz (x.ev aB) (lo.map (·.ev aB)) (hi.map (·.ev aB)) (mx.map (·.ev aB))).map (·,.no)| .oB x lo hi=>(wS (x.ev aB) (lo.map (·.ev aB)) (hi.map (·.ev aB))).map (·,.no)| .aU off x=>(jf off (x.ev aB)).map (·,.no)| .field off n x=>(ku off n (x.ev aB)).map (·,.no)| .bI sz u x i=>(vO g sz u (x.ev aB) (i.ev aB)).map (·,.no)| .idxs x i=>(B6 (x.ev aB) (i.ev aB)).map (·,.no)| .xB len sz n x i=>(B5 len sz n (x.ev aB) (i.ev aB)).map (·,.no)
 | .range x=>match x.ev aB with
  | .c (.f (.str s))=>aa (.c (.it d),.push (.it s 0))| _=>ab
 | .next x=>EA g (x.ev aB)
 | .extract x i=>match x.ev aB with
  | .t E=>(E[i]?).map (·,.no)| _=>ab
 | .nZ n=>aa (.int .i64 n,.no)
 | .lens x=>match x.ev aB with
  | .c (.f (.str s))=>aa (.int .i64 (s.size:Nat),.no)| _=>ab
 | .len x=>match x.ev aB with
  | .c y=>match sC g y with
   | some n=>aa (.int .i64 (n:Nat),.no)| none=>ab
  | _=>ab
 | .append sz bytes x y=>uZ g d sz bytes (x.ev aB) (y.ev aB)| .copy sz x y=>DV g sz (x.ev aB) (y.ev aB)| .gR lo xs=>(xG lo (dy aB xs)).map (·,.no)| .clear sz zs x=>(zU g sz zs (x.ev aB)).map (.t [],·)| .fJ sz zs n ps=>((dE aB ((cE n zs).map .f) (ps.map fun p=>(p.1*sz,sz,p.2))).bind fun cs=>if n=0 then ab else fcL cs).map fun B=>(.c (.f (.fs B n)),.no)
 | .wP sz x hi mx=>E4 g sz (x.ev aB) (hi.ev aB) (mx.ev aB)| .lK sz bytes zs x n=>DO g d sz bytes zs (x.ev aB) (n.ev aB)| .kE x=>wF g d (x.ev aB)| .oz x=>Au g (x.ev aB)| .entry x=>(zX g (x.ev aB)).map (·,.no)| .mZ f xs=>(bj mL (dy aB xs)).map fun xs=>(.c (.bm f xs),.no)
 | .cap x=>match x.ev aB with
  | .c y=>match EZ g y with
   | some n=>aa (.int .i64 (n:Nat),.no)| none=>ab
  | _=>ab
 | _=>ab
def gt(H:aj):Nat→Option bz:=fun b=>H[b]?
theorem BE(H:aj):vf (gt H)=aG H:=by funext x;unfold vf aG gt;rfl
theorem ajc(H:aj):anP (gt H)=aV H:=by funext n x;unfold anP aV;rw [BE];rfl
theorem nQ(H:aj):sC (gt H)=bA H:=by funext x;unfold sC bA gt;rfl
theorem sZ(H:aj):qD (gt H)=cO H:=by funext n x;unfold qD cO gt;rfl
theorem P5(H:aj):se (gt H)=isNil H:=by funext k x;unfold se isNil gt;rfl
theorem aiM(H:aj):ano (gt H)=D0 H:=by funext k x y;unfold ano D0;rw [P5];rfl
theorem wQ(H:aj):uH (gt H)=dk H:=by funext n x a b c;unfold uH dk gt;rfl
theorem E0(H:aj):AJ (gt H)=kH H:=by funext m n x a b c;unfold AJ kH gt;rfl
theorem B8(H:aj):vO (gt H)=bG H:=by funext n a x i;unfold vO bG gt;rfl
theorem Ce(H:aj):vV (gt H)=fX H:=by funext k z x y;unfold vV fX gt;rfl
theorem PF(H:aj):DW (gt H)=ot H:=by funext x;unfold DW ot;rw [nQ,sZ];rfl
theorem oF(H:aj):pC (gt H)=cV H:=by funext n x;unfold pC cV;rw [nQ,sZ];rfl
theorem QJ(H:aj):EZ (gt H)=jb H:=by funext x;unfold EZ jb gt;rfl
theorem DY(H:aj):zX (gt H)=lM H:=by funext x;unfold zX lM gt;rfl
def jz(H:aj)(r:Option (V × Bm)):Option (V × aj):=r.map fun r=>(r.1,r.2.app H)
theorem AK(H:aj)(x:C)(xs:List C):(adB (gt H) x xs).map (·.app H)=dh H x xs:=by
 cases x with
 | ptr b off ep=>
  simp only [adB,dh,gt];cases h:H[b]? with
  | none=>rfl
  | some bq=>
   cases bq with
   | box cs fl=>simp only;split<;>rfl
   | b5 sz cs fl e st=>cases st<;>simp only<;>first | rfl | (split<;>rfl)
   | _=>rfl
 | _=>rfl
theorem Ql(H:aj)(x:V):jz H (EA (gt H) x)=Gt H x:=by
 cases x with
 | c x=>
  cases x with
  | it b=>
   simp only [EA,Gt,gt,jz];cases h:H[b]? with
   | none=>rfl
   | some bq=>
    cases bq with
    | it s pos=>simp only;split<;>rfl
    | _=>rfl
  | _=>rfl
 | _=>rfl
theorem PE(H:aj)(sz:Nat)(x y:V):jz H (DV (gt H) sz x y)=copyV H sz x y:=by
 unfold DV copyV jz;rw [oF];cases d:cV H sz y with
 | none=>rfl
 | some r=>
  obtain⟨m,ys⟩:=r;cases x with
  | c x=>
   cases x with
   | f x=>cases x<;>rfl
   | sl b o l cap ep s=>
    simp only [gt];cases h:H[b]? with
    | none=>rfl
    | some bq=>
     cases bq with
     | box cs fl=>simp only;split<;>rfl
     | b5 sz cs fl e st=>cases st<;>simp only<;>first | rfl | (split<;>rfl)
     | _=>rfl
   | _=>rfl
  | _=>rfl
theorem Bw(H:aj)(sz bytes:Nat)(x y:V):jz H (uZ (gt H) H.length sz bytes x y)=cG H sz bytes x y:=by
 unfold uZ cG jz;rw [oF];cases d:cV H sz y with
 | none=>rfl
 | some r=>
  obtain⟨m,ys⟩:=r;simp only;by_cases h0:sz=0
  ·simp [h0]
  ·simp only [h0,if_false];cases x with
   | c x=>
    cases x with
    | f x=>cases x<;>first | rfl | (simp only;repeat' (first | rfl | split))
    | sl b o l cap ep s=>
     simp only [gt];cases h:H[b]? with
     | none=>rfl
     | some bq=>
      cases bq with
      | box cs fl=>simp only;repeat' (first | rfl | split)
      | b5 sz cs fl e st=>simp only;repeat' (first | rfl | split)
      | _=>rfl
    | _=>rfl
   | _=>rfl
theorem DR(H:aj)(sz:Nat)(zs:List FC)(x:V):(zU (gt H) sz zs x).map (·.app H)=oL H sz zs x:=by
 unfold zU oL;cases x with
 | c y=>
  simp only [nQ];cases bA H y with
  | none=>rfl
  | some l=>
   cases l with
   | zero=>rfl
   | succ l=>
    simp only;split
    ·cases y with
     | sl b o l' c ep s=>
      simp only [gt];cases h:H[b]? with
      | none=>rfl
      | some bq=>
       cases bq with
       | box cs fl=>exact AK H _ _
       | b5 s' cs fl e st=>
        cases st<;>simp only<;>first | rfl | skip
        split
        ·exact AK H _ _
        ·rfl
       | _=>rfl
     | _=>rfl
    ·rfl
 | _=>rfl
theorem O'(H:aj)(sz bytes:Nat)(zs:List FC)(x n:V):jz H (DO (gt H) H.length sz bytes zs x n)=va H sz bytes zs x n:=by
 unfold DO va jz;cases ik n with
 | none=>rfl
 | some n=>
  simp only;split
  ·cases x with
   | c x=>
    cases x with
    | f x=>cases x<;>first | rfl | (simp only;repeat' (first | rfl | split))
    | _=>rfl
   | _=>rfl
  ·rfl
theorem QM(H:aj)(sz:Nat)(x hi mx:V):jz H (E4 (gt H) sz x hi mx)=CW H sz x hi mx:=by
 unfold E4 CW jz;rw [wQ];cases dk H sz x ab (aa hi) (aa mx)with
 | some v=>rfl
 | none=>
  simp only;cases x with
  | c x=>
   cases x with
   | sl b o n c ep s=>
    simp only [gt];cases H[b]? with
    | none=>rfl
    | some bq=>
     cases bq with
     | b5 s' cs fl e st=>
      cases st<;>simp only<;>first | rfl | skip
      split
      ·cases AU hi n<;>cases AU mx n<;>simp only<;>first | rfl | skip
       split
       ·cases bj fcC (List.take _ cs)<;>rfl
       ·rfl
      ·rfl
     | _=>rfl
   | _=>rfl
  | _=>rfl
theorem EB(H:aj)(x:V):jz H (Au (gt H) x)=As H x:=by
 cases x with
 | c x=>
  cases x with
  | mi b=>
   simp only [Au,As,gt,jz];cases h:H[b]? with
   | none=>rfl
   | some bq=>
    cases bq with
    | xn m g done=>
     simp only;cases l:H[m]? with
     | none=>rfl
     | some d=>
      cases d with
      | map j=>
       match j with
       | []=>simp only;split<;>rfl
       | [e]=>simp only;repeat' (first | rfl | split)
       | _::_::_=>rfl
      | _=>rfl
    | _=>rfl
  | _=>rfl
 | _=>rfl
theorem CJ(H:aj)(x:V):jz H (wF (gt H) H.length x)=uE H x:=by
 cases x with
 | c x=>
  cases x with
  | mp b=>
   simp only [wF,uE,gt,jz];cases h:H[b]? with
   | none=>rfl
   | some bq=>
    cases bq with
    | map d=>simp only;split<;>rfl
    | _=>rfl
  | _=>rfl
 | _=>rfl
theorem FM{H:aj}(o:Option V):jz H (o.map (·,.no))=o.map (·,H):=by cases o<;>rfl
theorem AQ(aB:T)(H:aj)(op:cX):jz H (ad2 aB (gt H) H.length op)=bu aB H op:=by
 cases op<;>simp only [ad2,bu,FM,ajc,wQ,E0,B8,Ce,PF,Bw,PE,Ql,O',QM,EB,CJ,DY]
 all_goals first | rfl | skip
 case pre o sz=>split<;>rfl
 case pick c a b=>
  generalize c.ev aB=v;cases v<;>try rfl
  rename_i x;cases x<;>try rfl
  rename_i x;cases x<;>rfl
 case box x=>generalize (x.ev aB).cells?=o;cases o<;>rfl
 case build zs ps=>cases dE aB (zs.map .f) ps<;>rfl
 case bH sz zs n ps=>
  split
  ·split<;>rfl
  ·simp only [jz,avG];rfl
 case fJ sz zs n ps=>
  generalize (dE aB ((cE n zs).map .f) (ps.map fun p=>(p.1*sz,sz,p.2))).bind (fun cs=>if n=0 then ab else fcL cs)=o;cases o<;>rfl
 case store n x y=>
  generalize x.ev aB=v;generalize (y.ev aB).cells?=o;cases v<;>cases o<;>try rfl
  simp only;split
  ·rw [←AK];simp only [jz,avG];rfl
  ·rfl
 case cj x=>
  generalize x.ev aB=v;cases v<;>try rfl
  rename_i x;cases x<;>try rfl
  rename_i x;cases x<;>rfl
 case eq neg k x y=>rw [aiM];simp only [jz,avG];rfl
 case fO k x=>
  generalize x.ev aB=v;cases v<;>try rfl
  rename_i x;cases x<;>try rfl
  rename_i x;cases x<;>rfl
 case xz x=>
  generalize x.ev aB=v;cases v<;>try rfl
  rename_i x;cases x<;>try rfl
  rename_i x;cases x<;>rfl
 case DX x=>
  generalize x.ev aB=v;cases v<;>try rfl
  rename_i x;cases x<;>try rfl
  rename_i x;cases x<;>try rfl
  simp only;split<;>rfl
 case fP f d=>simp only [jz,avG];rfl
 case ja g m k v=>
  generalize m.ev aB=m;generalize k.ev aB=k;generalize pG (v.ev aB)=v;cases m<;>try rfl
  rename_i m;cases m<;>try rfl
  cases k<;>try rfl
  rename_i k;cases k<;>try rfl
  cases v<;>try rfl
  simp only [gt];rename_i b k v;cases H[b]? with
  | none=>rfl
  | some bq=>
   cases bq<;>try rfl
   simp only;split
   ·simp only [jz,avG];rfl
   ·rfl
 case dR sz bytes zs l c=>
  generalize ik (l.ev aB)=l;generalize ik (c.ev aB)=c;cases l<;>cases c<;>try rfl
  simp only;split
  ·split<;>rfl
  ·rfl
 case range x=>
  generalize x.ev aB=v;cases v<;>try rfl
  rename_i x;cases x<;>try rfl
  rename_i x;cases x<;>rfl
 case extract x i=>
  generalize x.ev aB=v;cases v<;>try rfl
  simp only [FM]
 case len x=>
  generalize x.ev aB=v;cases v<;>try rfl
  rw [nQ];simp only;rename_i y;cases bA H y<;>rfl
 case lens x=>
  generalize x.ev aB=v;cases v<;>try rfl
  rename_i x;cases x<;>try rfl
  rename_i x;cases x<;>rfl
 case clear sz zs x=>rw [←DR];simp only [jz,avG];rfl
 case mZ f d=>simp only [jz,avG];rfl
 case cap x=>
  generalize x.ev aB=v;cases v<;>try rfl
  rw [QJ];simp only;rename_i y;cases jb H y<;>rfl
section
set_option linter.unusedVariables false
inductive BT(α:Type) where
 | e
 | n (l:BT α) (x:α) (r:BT α)
def BT.get{d:Type}:BT d→Nat→Option d
 | .e,_=>ab
 | .n l x r,b=>match b with
  | 0=>aa x| m+1=>if m % 2=0 then l.get (m / 2)else r.get (m / 2)
abbrev HT:=BT bz
def ib{j:Type}(b:Nat)(t:BT j)(k:j→Prop):Prop:=
 BT.rec (motive:=fun _=>Nat→Prop) (fun _=>False)
  (fun _ x _ d g b=>Nat.rec (motive:=fun _=>Prop) (k x) (fun m _=>Nat.rec (motive:=fun _=>Prop) (d (Nat.div m 2)) (fun _ _=>g (Nat.div m 2)) (Nat.mod m 2)) b) t b
def gL{d:Type}(x:d)(t:BT d):Nat→(BT d→Prop)→Prop:=
 BT.rec (motive:=fun _=>Nat→(BT d→Prop)→Prop) (fun _ _=>False)
  (fun l y r g j b k=>Nat.rec (motive:=fun _=>Prop) (k (.n l x r))
   (fun m _=>Nat.rec (motive:=fun _=>Prop) (g (Nat.div m 2) fun l'=>k (.n l' y r)) (fun _ _=>j (Nat.div m 2) fun r'=>k (.n l y r')) (Nat.mod m 2)) b) t
def zQ{d:Type}(x:d)(t:BT d):Nat→(BT d→Prop)→Prop:=
 BT.rec (motive:=fun _=>Nat→(BT d→Prop)→Prop) (fun b k=>Nat.rec (motive:=fun _=>Prop) (k (.n .e x .e)) (fun _ _=>False) b)
  (fun l y r g j b k=>Nat.rec (motive:=fun _=>Prop) False
   (fun m _=>Nat.rec (motive:=fun _=>Prop) (g (Nat.div m 2) fun l'=>k (.n l' y r)) (fun _ _=>j (Nat.div m 2) fun r'=>k (.n l y r')) (Nat.mod m 2)) b) t
theorem acB(m:Nat):m % 2=0∨m % 2=1:=by omega
theorem dN{u:Type}{t:BT u}:∀ {b:Nat} {k:u→Prop},ib b t k→∃ x,t.get b=aa x∧k x:=by
 induction t with
 | e=>intro b k h;exact h.elim
 | n l x r q s=>
  intro b k h;cases b with
  | zero=>exact⟨x,rfl,h⟩
  | succ m=>
   have j:Nat.rec (motive:=fun _=>Prop) (ib (m / 2) l k) (fun _ _=>ib (m / 2) r k) (m % 2):=h;rcases acB m with e | e<;>rw [e]at j
   ·obtain⟨y,d,g⟩:=q j;exact⟨y,by simp [BT.get,e,d],g⟩
   ·obtain⟨y,d,g⟩:=s j;exact⟨y,by simp [BT.get,e,d],g⟩
def oi{d:Type}(t g:BT d)(b:Nat)(x:d):Prop:=∀ i,g.get i=if i=b then aa x else t.get i
theorem oi.left{d:Type}{l l' r:BT d}{y x:d}{m:Nat}(e:m % 2=0)(h:oi l l' (m / 2) x):oi (.n l y r) (.n l' y r) (m+1) x:=by
 intro i;cases i with
 | zero=>simp [BT.get]
 | succ j=>
  simp only [BT.get,h (j / 2)];rcases acB j with b | b
  ·have:(j / 2=m / 2)↔(j=m):=by omega
   simp [b,this]
  ·have:j≠m:=by omega
   simp [b,this]
theorem oi.right{d:Type}{l r' r:BT d}{y x:d}{m:Nat}(e:m % 2=1)(h:oi r r' (m / 2) x):oi (.n l y r) (.n l y r') (m+1) x:=by
 intro i;cases i with
 | zero=>simp [BT.get]
 | succ j=>
  simp only [BT.get,h (j / 2)];rcases acB j with b | b
  ·have:j≠m:=by omega
   simp [b,this]
  ·have:(j / 2=m / 2)↔(j=m):=by omega
   simp [b,this]
theorem abn{v:Type}{x:v}{t:BT v}:∀ {b:Nat} {k:BT v→Prop},gL x t b k→∃ A,oi t A b x∧(∃ y,t.get b=aa y)∧k A:=by
 induction t with
 | e=>intro b k h;exact h.elim
 | n l y r s u=>
  intro b k h;cases b with
  | zero=>
   refine⟨.n l x r,fun i=>?_,⟨y,rfl⟩,h⟩;cases i<;>simp [BT.get]
  | succ m=>
   have q:Nat.rec (motive:=fun _=>Prop) (gL x l (m / 2) fun l'=>k (.n l' y r)) (fun _ _=>gL x r (m / 2) fun r'=>k (.n l y r')) (m % 2):=h;rcases acB m with e | e<;>rw [e]at q
   ·obtain⟨l',d,⟨z,g⟩,j⟩:=s q;exact⟨_,d.left e,⟨z,by simp [BT.get,e,g]⟩,j⟩
   ·obtain⟨l',d,⟨z,g⟩,j⟩:=u q;exact⟨_,d.right e,⟨z,by simp [BT.get,e,g]⟩,j⟩
theorem Pc{u:Type}{x:u}{t:BT u}:∀ {b:Nat} {k:BT u→Prop},zQ x t b k→∃ v,oi t v b x∧k v:=by
 induction t with
 | e=>
  intro b k h;cases b with
  | zero=>
   refine⟨.n .e x .e,fun i=>?_,h⟩;cases i<;>simp [BT.get]
  | succ m=>exact h.elim
 | n l y r q s=>
  intro b k h;cases b with
  | zero=>exact h.elim
  | succ m=>
   have j:Nat.rec (motive:=fun _=>Prop) (zQ x l (m / 2) fun l'=>k (.n l' y r)) (fun _ _=>zQ x r (m / 2) fun r'=>k (.n l y r')) (m % 2):=h;rcases acB m with e | e<;>rw [e]at j
   ·obtain⟨l',d,g⟩:=q j;exact⟨_,d.left e,g⟩
   ·obtain⟨l',d,g⟩:=s j;exact⟨_,d.right e,g⟩
def cY(H:aj)(t:HT):Prop:=t.get=gt H
theorem cY.nil:cY [] .e:=by funext b;simp [BT.get,gt]
theorem cY.set{H:aj}{t g:HT}(h:cY H t){b:Nat}{x:bz}(l:oi t g b x)(j:∃ y,t.get b=aa y):cY (H.set b x) g:=by
 funext i;obtain⟨y,hy⟩:=j;rw [h]at hy;have d:b<H.length:=(atu.1 hy).1;rw [l i,h];simp only [gt];by_cases e:i=b
 ·subst e;simp [d]
 ·simp [e,aft (Ne.symm e)]
theorem cY.push{H:aj}{t b:HT}(h:cY H t){x:bz}(d:oi t b H.length x):cY (H++[x]) b:=by
 funext i;rw [d i,h];simp only [gt];by_cases e:i=H.length
 ·subst e;simp
 ·by_cases hi:i<H.length
  ·simp [e,List.getElem?_append_left hi]
  ·rw [atZ (by omega)];have:i-H.length≠0:=by omega
   simp [e,avc (l:=H) (i:=i) (by omega),this]
def cu(n:Nat)(k:Nat→Prop):Prop:=Nat.rec (motive:=fun _=>Prop) (k 0) (fun m _=>k (Nat.succ m)) n
def ry(n:Int)(k:Int→Prop):Prop:=Int.rec (motive:=fun _=>Prop) (fun n=>cu n fun n=>k (.ofNat n)) (fun n=>cu n fun n=>k (.negSucc n)) n
def mR(b:Bool)(k:Bool→Prop):Prop:=Bool.rec (motive:=fun _=>Prop) (k ag) (k ae) b
theorem cw(n:Nat)(k:Nat→Prop):cu n k=k n:=by cases n<;>rfl
theorem yM(n:Int)(k:Int→Prop):ry n k=k n:=by cases n<;>simp only [ry,cw]
theorem ij(b:Bool)(k:Bool→Prop):mR b k=k b:=by cases b<;>rfl
def D2(x:FC)(k:FC→Prop):Prop:=match x with
 | .bool b=>mR b fun b=>k (.bool b)
 | .int j n=>ry n fun n=>k (.int j n)
 | .fp cs o=>cu o fun o=>k (.fp cs o)
 | .fs cs l=>cu l fun l=>k (.fs cs l)
 | x=>k x
theorem PT(x:FC)(k:FC→Prop):D2 x k=k x:=by cases x<;>simp only [D2,cw,yM,ij]
def ru(x:C)(k:C→Prop):Prop:=match x with
 | .f x=>D2 x fun x=>k (.f x)
 | .ptr b o e=>cu b fun b=>cu o fun o=>cu e fun e=>k (.ptr b o e)
 | .sl b o l c e s=>cu b fun b=>cu o fun o=>cu l fun l=>cu c fun c=>cu e fun e=>cu s fun s=>k (.sl b o l c e s)
 | x=>k x
theorem rv(x:C)(k:C→Prop):ru x k=k x:=by cases x<;>simp only [ru,cw,PT]
def mS(xs:List C):(List C→Prop)→Prop:=
 List.rec (motive:=fun _=>(List C→Prop)→Prop) (fun k=>k []) (fun x _ b k=>ru x fun x=>b fun xs=>k (x::xs)) xs
theorem kP:∀(xs:List C) (k:List C→Prop),mS xs k=k xs
 | [],k=>rfl
 | x::xs,k=>by
  show ru x (fun x=>mS xs fun xs=>k (x::xs))=_;rw [rv,kP xs]
def uq(v:V)(k:V→Prop):Prop:=match v with
 | .c x=>ru x fun x=>k (.c x)
 | .a xs=>mS xs fun xs=>k (.a xs)
 | v=>k v
theorem D3(v:V)(k:V→Prop):uq v k=k v:=by cases v<;>simp only [uq,rv,kP]
def Af(xs:List V):(List V→Prop)→Prop:=
 List.rec (motive:=fun _=>(List V→Prop)→Prop) (fun k=>k []) (fun x _ b k=>uq x fun x=>b fun xs=>k (x::xs)) xs
theorem vB:∀(xs:List V) (k:List V→Prop),Af xs k=k xs
 | [],k=>rfl
 | x::xs,k=>by
  show uq x (fun x=>Af xs fun xs=>k (x::xs))=_;rw [D3,vB xs]
def lQ(v:V)(k:V→Prop):Prop:=match v with
 | .c x=>ru x fun x=>k (.c x)
 | .a xs=>mS xs fun xs=>k (.a xs)
 | .t b=>Af b fun b=>k (.t b)
 | .top=>k .top
theorem rz(v:V)(k:V→Prop):lQ v k=k v:=by cases v<;>simp only [lQ,rv,kP,vB]
def rA(x:bz)(k:bz→Prop):Prop:=match x with
 | .box cs fl=>mS cs fun cs=>cu fl fun fl=>k (.box cs fl)
 | .b5 sz cs fl e st=>mS cs fun cs=>cu fl fun fl=>cu e fun e=>k (.b5 sz cs fl e st)
 | .it s p=>cu p fun p=>k (.it s p)
 | x=>k x
theorem yN(x:bz)(k:bz→Prop):rA x k=k x:=by cases x<;>simp only [rA,cw,kP]
def B4(p:P):T→(V→Prop)→Prop:=
 P.rec (motive:=fun _=>T→(V→Prop)→Prop)
  (fun t k=>T.rec (motive:=fun _=>Prop) (k .top) (fun _ v _ _ _=>k v) t)
  (fun _ b t k=>T.rec (motive:=fun _=>Prop) (k .top) (fun l _ _ _ _=>b l k) t)
  (fun _ b t k=>T.rec (motive:=fun _=>Prop) (k .top) (fun _ _ r _ _=>b r k) t) p
theorem nH:∀(p:P) (t:T) (k:V→Prop),B4 p t k=k (t.get p)
 | .h,.e,k=>rfl| .h,.n _ _ _,k=>rfl| .o p,.e,k=>rfl| .o p,.n l _ _,k=>nH p l k| .i p,.e,k=>rfl| .i p,.n _ _ r,k=>nH p r k
def ajF(p:P)(w:V):T→(T→Prop)→Prop:=
 P.rec (motive:=fun _=>T→(T→Prop)→Prop)
  (fun t k=>T.rec (motive:=fun _=>Prop) (k (.n .e w .e)) (fun l _ r _ _=>k (.n l w r)) t)
  (fun _ b t k=>T.rec (motive:=fun _=>Prop) (b .e fun l=>k (.n l .top .e)) (fun l v r _ _=>b l fun l=>k (.n l v r)) t)
  (fun _ b t k=>T.rec (motive:=fun _=>Prop) (b .e fun r=>k (.n .e .top r)) (fun l v r _ _=>b r fun r=>k (.n l v r)) t) p
theorem nO(w:V):∀(p:P) (t:T) (k:T→Prop),ajF p w t k=k (t.set p w)
 | .h,.e,k=>rfl| .h,.n _ _ _,k=>rfl| .o p,.e,k=>nO w p .e _| .o p,.n l _ _,k=>nO w p l _| .i p,.e,k=>nO w p .e _| .i p,.n _ _ r,k=>nO w p r _
def pJ(x:Arg)(r:T)(k:V→Prop):Prop:=Arg.rec (motive:=fun _=>Prop) (fun p=>B4 p r k) (fun v=>k v) x
theorem du(x:Arg)(r:T)(k:V→Prop):pJ x r k=k (x.ev r):=by cases x;exact nH _ _ _;rfl
def By(xs:List Arg)(r:T):(List V→Prop)→Prop:=
 List.rec (motive:=fun _=>(List V→Prop)→Prop) (fun k=>k []) (fun x _ b k=>pJ x r fun v=>b fun d=>k (v::d)) xs
theorem pF(r:T):∀(xs:List Arg) (k:List V→Prop),By xs r k=k (dy r xs)
 | [],k=>rfl
 | x::xs,k=>by
  show pJ x r (fun v=>By xs r fun b=>k (v::b))=_;rw [du,pF r xs];rfl
def aof(d:Option P)(r:T)(v:V)(k:T→Prop):Prop:=Option.rec (motive:=fun _=>Prop) (k r) (fun d=>ajF d v r k) d
theorem GA(d:Option P)(r:T)(v:V)(k:T→Prop):aof d r v k=k (jJ r d v):=by cases d;rfl;exact nO _ _ _ _
def uG(ps:List P):List V→T→(T→Prop)→Prop:=
 List.rec (motive:=fun _=>List V→T→(T→Prop)→Prop) (fun _ r k=>k r)
  (fun p _ d b r k=>List.rec (motive:=fun _=>Prop) (k r) (fun v b _=>ajF p v r fun r=>d b r k) b) ps
theorem oZ:∀(ps:List P) (b:List V) (r:T) (k:T→Prop),uG ps b r k=k (cK ps b r)
 | [],b,r,k=>by cases b<;>rfl
 | p::ps,[],r,k=>rfl
 | p::ps,v::b,r,k=>by
  show ajF p v r (fun r=>uG ps b r k)=_;rw [nO,oZ ps];rfl
def aju{b:Type}(n:Nat):List b→(b→Prop)→Prop:=
 Nat.rec (motive:=fun _=>List b→(b→Prop)→Prop) (fun xs k=>List.rec (motive:=fun _=>Prop) False (fun x _ _=>k x) xs)
  (fun _ d xs k=>List.rec (motive:=fun _=>Prop) False (fun _ xs _=>d xs k) xs) n
theorem uD{b:Type}:∀ {n:Nat} {xs:List b} {k:b→Prop},aju n xs k→∃ x,xs[n]?=aa x∧k x
 | 0,[],_,h=>h.elim| 0,x::_,_,h=>⟨x,rfl,h⟩| n+1,[],_,h=>h.elim| n+1,_::xs,k,h=>uD (n:=n) (xs:=xs) (k:=k) h
def vp{b:Type}(n:Nat):List b→(List b→Prop)→Prop:=
 Nat.rec (motive:=fun _=>List b→(List b→Prop)→Prop) (fun xs k=>k xs)
  (fun _ d xs k=>List.rec (motive:=fun _=>Prop) (k []) (fun _ xs _=>d xs k) xs) n
theorem mN{b:Type}:∀(n:Nat) (xs:List b) (k:List b→Prop),vp n xs k=k (xs.drop n)
 | 0,xs,k=>rfl| n+1,[],k=>rfl| n+1,_::xs,k=>mN n xs k
def rp{b:Type}(n:Nat):List b→(List b→Prop)→Prop:=
 Nat.rec (motive:=fun _=>List b→(List b→Prop)→Prop) (fun xs k=>k xs)
  (fun _ d xs k=>List.rec (motive:=fun _=>Prop) False (fun _ xs _=>d xs k) xs) n
theorem js{b:Type}:∀ {n:Nat} {xs:List b} {k:List b→Prop},rp n xs k→n≤xs.length∧k (xs.drop n)
 | 0,xs,k,h=>⟨by simp,h⟩
 | n+1,[],k,h=>h.elim
 | n+1,x::xs,k,h=>by
  obtain⟨g,d⟩:=js (n:=n) (xs:=xs) (k:=k) h;exact⟨by simp;omega,d⟩
def my{b:Type}(n:Nat):List b→(List b→Prop)→Prop:=
 Nat.rec (motive:=fun _=>List b→(List b→Prop)→Prop) (fun _ k=>k [])
  (fun _ d xs k=>List.rec (motive:=fun _=>Prop) False (fun x xs _=>d xs fun ys=>k (x::ys)) xs) n
theorem fT{b:Type}:∀ {n:Nat} {xs:List b} {k:List b→Prop},my n xs k→n≤xs.length∧k (xs.take n)
 | 0,xs,k,h=>⟨by simp,by have d:k []:=h;simpa using d⟩
 | n+1,[],k,h=>h.elim
 | n+1,x::xs,k,h=>by
  obtain⟨j,g⟩:=fT (n:=n) (xs:=xs) (k:=fun ys=>k (x::ys)) h;exact⟨by simp;omega,by simpa using g⟩
def aqS{b:Type}(xs:List b):List b→(List b→Prop)→Prop:=
 List.rec (motive:=fun _=>List b→(List b→Prop)→Prop) (fun cs k=>k cs)
  (fun x _ d cs k=>List.rec (motive:=fun _=>Prop) False (fun _ cs _=>d cs fun ys=>k (x::ys)) cs) xs
theorem Gl{b:Type}:∀ {xs cs:List b} {k:List b→Prop},aqS xs cs k→xs.length≤cs.length∧k (xs++cs.drop xs.length)
 | [],cs,k,h=>⟨by simp,by have d:k cs:=h;simpa using d⟩
 | x::xs,[],k,h=>h.elim
 | x::xs,c::cs,k,h=>by
  obtain⟨j,g⟩:=Gl (xs:=xs) (cs:=cs) (k:=fun ys=>k (x::ys)) h;exact⟨by simp;omega,by simpa using g⟩
def wq{b:Type}(xs:List b)(off:Nat):List b→(List b→Prop)→Prop:=
 Nat.rec (motive:=fun _=>List b→(List b→Prop)→Prop) (fun cs k=>aqS xs cs k)
  (fun _ d cs k=>List.rec (motive:=fun _=>Prop) False (fun c cs _=>d cs fun ys=>k (c::ys)) cs) off
theorem lB{d:Type}{xs:List d}:∀ {off:Nat} {cs:List d} {k:List d→Prop},wq xs off cs k→off+xs.length≤cs.length∧k (bp cs off xs)
 | 0,cs,k,h=>by
  obtain⟨g,b⟩:=Gl (xs:=xs) (cs:=cs) (k:=k) h;exact⟨by omega,by simpa [bp]using b⟩
 | n+1,[],k,h=>h.elim
 | n+1,c::cs,k,h=>by
  obtain⟨g,b⟩:=lB (off:=n) (cs:=cs) (k:=fun ys=>k (c::ys)) h;refine⟨by simp;omega,?_⟩;have:n+1+xs.length=(n+xs.length)+1:=by omega
  simpa [bp,this]using b
def anj{b:Type}(xs ys:List b):(List b→Prop)→Prop:=
 List.rec (motive:=fun _=>(List b→Prop)→Prop) (fun k=>k ys) (fun x _ d k=>d fun zs=>k (x::zs)) xs
theorem zT{b:Type}(ys:List b):∀(xs:List b) (k:List b→Prop),anj xs ys k=k (xs++ys)
 | [],k=>rfl| x::xs,k=>zT ys xs fun zs=>k (x::zs)
def fzK(zs:List FC):(List C→Prop)→Prop:=
 List.rec (motive:=fun _=>(List C→Prop)→Prop) (fun k=>k []) (fun z _ b k=>b fun cs=>k (.f z::cs)) zs
theorem rB:∀(zs:List FC) (k:List C→Prop),fzK zs k=k (zs.map .f)
 | [],k=>rfl| z::zs,k=>rB zs fun cs=>k (.f z::cs)
def Eh:Int→Int→Bool
 | .ofNat a,.ofNat b=>Nat.ble (Nat.succ a) b| .ofNat _,.negSucc _=>ag| .negSucc _,.ofNat _=>ae| .negSucc a,.negSucc b=>Nat.ble (Nat.succ b) a
theorem Ap(x y:Int):Eh x y=decide (x<y):=by
 have e:∀ n:Nat,Int.ofNat n=(n:Int):=fun _=>rfl;cases x<;>cases y<;>simp only [Eh]<;>rw [au6]<;>simp only [Nat.ble_eq,decide_eq_true_eq,aub,false_iff,true_iff,e,Nat.succ_eq_add_one]<;>omega
def eqB:Int→Int→Bool
 | .ofNat a,.ofNat b=>Nat.beq a b| .negSucc a,.negSucc b=>Nat.beq a b| _,_=>ag
theorem abM(x y:Int):eqB x y=(x == y):=by
 have e:∀ n:Nat,Int.ofNat n=(n:Int):=fun _=>rfl;cases x<;>cases y<;>simp only [eqB]<;>rw [au6]<;>simp only [Nat.beq_eq,beq_iff_eq,aub,false_iff,e]<;>omega
def zB(j:IntKind)(n:Int)(k:Int→Prop):Prop:=match j with
 | .i64=>Int.rec (motive:=fun _=>Prop)
   (fun n=>cu n fun n=>Bool.rec (motive:=fun _=>Prop) (ry (IntKind.i64.wrap (.ofNat n)) k) (k (.ofNat n)) (Nat.ble n 9223372036854775807))
   (fun n=>cu n fun n=>Bool.rec (motive:=fun _=>Prop) (ry (IntKind.i64.wrap (.negSucc n)) k) (k (.negSucc n)) (Nat.ble n 9223372036854775807)) n
 | j=>ry (j.wrap n) k
theorem wrap64_in{n:Int}(g:-9223372036854775808≤n)(j:n≤9223372036854775807):IntKind.i64.wrap n=n:=by
 simp only [IntKind.wrap,IntKind.bits,IntKind.signed];have b:(2 ^ 64:Int)=18446744073709551616:=by decide
 have d:(2 ^ (64-1):Int)=9223372036854775808:=by decide
 simp only [b,d,auU,decide_eq_true_eq];split<;>omega
theorem qI(j:IntKind)(n:Int)(k:Int→Prop):zB j n k=k (j.wrap n):=by
 cases j<;>simp only [zB,yM];cases n with
 | ofNat n=>
  simp only [cw];cases h:Nat.ble n 9223372036854775807 with
  | false=>rfl
  | true=>
   have:=avC h;have e:Int.ofNat n=(n:Int):=rfl;rw [wrap64_in (by rw [e];omega) (by rw [e];omega)]
 | negSucc n=>
  simp only [cw];cases h:Nat.ble n 9223372036854775807 with
  | false=>rfl
  | true=>
   have:=avC h;rw [wrap64_in (by omega) (by omega)]
end
section
set_option linter.unusedVariables false
def iH(a b:Nat)(p:Prop):Prop:=Bool.rec (motive:=fun _=>Prop) False p (Nat.beq a b)
def ti(a b:Nat)(p:Prop):Prop:=Bool.rec (motive:=fun _=>Prop) False p (Nat.ble a b)
def oq(b:Bool)(p:Prop):Prop:=Bool.rec (motive:=fun _=>Prop) False p b
def qj{b:Type}(o:Option b)(k:b→Prop):Prop:=Option.rec (motive:=fun _=>Prop) False k o
theorem dd{a b:Nat}{p:Prop}(h:iH a b p):a=b∧p:=by
 unfold iH at h;cases e:Nat.beq a b with
 | false=>rw [e]at h;exact h.elim| true=>rw [e]at h;exact⟨avd e,h⟩
theorem iz{a b:Nat}{p:Prop}(h:ti a b p):a≤b∧p:=by
 unfold ti at h;cases e:Nat.ble a b with
 | false=>rw [e]at h;exact h.elim| true=>rw [e]at h;exact⟨avC e,h⟩
theorem jB{b:Bool}{p:Prop}(h:oq b p):b=ae∧p:=by cases b;exact h.elim;exact⟨rfl,h⟩
theorem jk{b:Type}{o:Option b}{k:b→Prop}(h:qj o k):∃ x,o=aa x∧k x:=by cases o;exact h.elim;exact⟨_,rfl,h⟩
def oA(x:bz)(t:HT)(n:Nat)(k:HT→Nat→Prop):Prop:=zQ x t n fun t=>cu (Nat.succ n) fun n=>k t n
theorem iO{H:aj}{t:HT}(h:cY H t){x:bz}{k:HT→Nat→Prop}(j:oA x t H.length k):∃ b,cY (H++[x]) b∧k b (H++[x]).length:=by
 obtain⟨b,g,d⟩:=Pc j;rw [cw]at d;exact⟨b,h.push g,by simpa using d⟩
theorem ed{H:aj}{t:HT}(h:cY H t){b:Nat}{x:bz}{k:HT→Prop}(m:gL x t b k):∃ d,cY (H.set b x) d∧k d:=by
 obtain⟨d,g,j,l⟩:=abn m;exact⟨d,h.set g j,l⟩
def anm(e:Bm)(t:HT)(n:Nat)(k:HT→Nat→Prop):Prop:=
 Bm.rec (motive:=fun _=>Prop) (k t n) (fun b x=>rA x fun x=>gL x t b fun t=>k t n) (fun x=>rA x fun x=>oA x t n k) e
theorem aiH{H:aj}{t:HT}(h:cY H t){e:Bm}{k:HT→Nat→Prop}(d:anm e t H.length k):∃ g,cY (e.app H) g∧k g (e.app H).length:=by
 cases e with
 | no=>exact⟨t,h,d⟩
 | set b x=>
  have d:rA x fun x=>gL x t b fun t=>k t H.length:=d;rw [yN]at d;obtain⟨g,j,l⟩:=ed h d;exact⟨g,j,by simpa [Bm.app]using l⟩
 | push x=>
  have d:rA x fun x=>oA x t H.length k:=d;rw [yN]at d;exact iO h d
def aqC(op:cX)(r:T)(t:HT)(n:Nat)(k:V→HT→Nat→Prop):Prop:=
 qj (ad2 r t.get n op) fun r=>Prod.rec (motive:=fun _=>Prop) (fun v e=>lQ v fun v=>anm e t n (k v)) r
def OpS(op:cX)(r:T)(m:HT→Nat→(V→HT→Nat→Prop)→Prop):Prop:=
 ∀(H:aj) (t:HT) (k:V→HT→Nat→Prop),cY H t→m t H.length k→∃ v H' b,bu r H op=aa (v,H')∧cY H' b∧k v b H'.length
theorem aiU(op:cX)(r:T):OpS op r (aqC op r):=by
 intro H t k h l;obtain⟨⟨v,e⟩,d,b⟩:=jk l;have b:lQ v fun v=>anm e t H.length (k v):=b;rw [rz]at b;obtain⟨m,g,j⟩:=aiH h b;refine⟨v,e.app H,m,?_,g,j⟩;rw [h]at d;rw [←AQ,d];rfl
def vh(v:V)(k:List C→Prop):Prop:=match v with
 | .c x=>k [x]| .a xs=>k xs| _=>False
theorem rn{v:V}{k:List C→Prop}(h:vh v k):∃ xs,v.cells?=aa xs∧k xs:=by
 cases v with
 | c x=>exact⟨_,rfl,h⟩| a xs=>exact⟨_,rfl,h⟩| _=>exact h.elim
def Gy(n:Option Nat)(off:Nat)(cs:List C)(k:V→Prop):Prop:=
 Option.rec (motive:=fun _=>Prop) (aju off cs fun c=>k (.c c)) (fun m=>vp off cs fun cs=>my m cs fun cs=>k (.a cs)) n
theorem wA{n:Option Nat}{off:Nat}{cs:List C}{k:V→Prop}(h:Gy n off cs k):∃ v,aT n (cs.drop off)=aa v∧k v:=by
 cases n with
 | none=>
  obtain⟨c,b,d⟩:=uD h;refine⟨.c c,?_,d⟩;rw [←avD off,←auj]at b;cases e:cs.drop off with
  | nil=>rw [e]at b;simp at b| cons y ys=>rw [e]at b;simp at b;subst b;rfl
 | some m=>
  have h:vp off cs fun cs=>my m cs fun cs=>k (.a cs):=h;rw [mN]at h;obtain⟨b,d⟩:=fT h;exact⟨_,bg b,d⟩
def acQ(n:Option Nat)(off:Nat)(cs:List FC)(k:V→Prop):Prop:=
 Option.rec (motive:=fun _=>Prop) (aju off cs fun c=>k (.c (.f c))) (fun m=>vp off cs fun cs=>my m cs fun cs=>fzK cs fun cs=>k (.a cs)) n
theorem Qu{n:Option Nat}{off:Nat}{cs:List FC}{k:V→Prop}(h:acQ n off cs k):∃ v,aT n ((cs.drop off).map .f)=aa v∧k v:=by
 cases n with
 | none=>
  obtain⟨c,b,d⟩:=uD h;refine⟨.c (.f c),?_,d⟩;rw [←avD off,←auj]at b;cases e:cs.drop off with
  | nil=>rw [e]at b;simp at b| cons y ys=>rw [e]at b;simp at b;subst b;rfl
 | some m=>
  have h:vp off cs fun cs=>my m cs fun cs=>fzK cs fun cs=>k (.a cs):=h;rw [mN]at h;obtain⟨b,d⟩:=fT h;rw [rB]at d;refine⟨_,bg (by simpa using b),?_⟩;rw [←List.map_take];exact d
def ldK(t:HT)(n:Option Nat)(x:V)(k:V→Prop):Prop:=match x with
 | .c (.ptr b off ep)=>ib b t fun bq=>match bq with
  | .box cs _=>Gy n off cs k| .b5 _ cs _ e .loc=>iH ep e (Gy n off cs k)| _=>False
 | .c (.f (.fp cs off))=>acQ n off cs k| _=>False
theorem acf{H:aj}{t:HT}(h:cY H t){n:Option Nat}{x:V}{k:V→Prop}(m:ldK t n x k):∃ v,aV H n x=aa v∧k v:=by
 unfold ldK at m;split at m
 ·rename_i b off ep;obtain⟨bq,g,d⟩:=dN m;rw [h]at g;have g:H[b]?=aa bq:=g;split at d
  ·obtain⟨v,j,l⟩:=wA d;exact⟨v,by simp [aV,aG,g,j],l⟩
  ·obtain⟨q,d⟩:=dd d;obtain⟨v,j,l⟩:=wA d;exact⟨v,by simp [aV,aG,g,j,q],l⟩
  ·exact d.elim
 ·obtain⟨v,j,l⟩:=Qu m;exact⟨v,by simp only [aV,aG,Option.bind_some,j],l⟩
 ·exact m.elim
def stK(t:HT)(x:C)(xs:List C)(k:HT→Prop):Prop:=match x with
 | .ptr b off ep=>ib b t fun bq=>match bq with
  | .box cs fl=>ti fl off (wq xs off cs fun cs=>gL (.box cs fl) t b k)
  | .b5 sz cs fl e .loc=>iH ep e (ti fl off (wq xs off cs fun cs=>gL (.b5 sz cs fl e .loc) t b k))
  | _=>False
 | _=>False
theorem aow{H:aj}{t:HT}(h:cY H t){x:C}{xs:List C}{k:HT→Prop}(l:stK t x xs k):∃ H' g,dh H x xs=aa H'∧cY H' g∧H'.length=H.length∧k g:=by
 unfold stK at l;split at l
 ·rename_i b off ep;obtain⟨bq,j,d⟩:=dN l;rw [h]at j;have j:H[b]?=aa bq:=j;split at d
  ·obtain⟨m,d⟩:=iz d;obtain⟨q,d⟩:=lB d;obtain⟨g,s,u⟩:=ed h d;exact⟨_,g,by simp [dh,j,m,q],s,by simp,u⟩
  ·obtain⟨h0,d⟩:=dd d;obtain⟨m,d⟩:=iz d;obtain⟨q,d⟩:=lB d;obtain⟨g,s,u⟩:=ed h d;exact⟨_,g,by simp [dh,j,h0,m,q],s,by simp,u⟩
  ·exact d.elim
 ·exact l.elim
def mo(op:BinOp)(j:IntKind)(x y:Int)(k:V→Prop):Prop:=match op with
 | .add=>zB j (Int.add x y) fun n=>k (.c (.f (.int j n)))
 | .sub=>zB j (Int.sub x y) fun n=>k (.c (.f (.int j n)))
 | .mul=>zB j (Int.mul x y) fun n=>k (.c (.f (.int j n)))
 | .eql=>mR (eqB x y) fun b=>k (.c (.f (.bool b)))
 | .neq=>mR (!eqB x y) fun b=>k (.c (.f (.bool b)))
 | .lss=>mR (Eh x y) fun b=>k (.c (.f (.bool b)))
 | .leq=>mR (!Eh y x) fun b=>k (.c (.f (.bool b)))
 | .gtr=>mR (Eh y x) fun b=>k (.c (.f (.bool b)))
 | .geq=>mR (!Eh x y) fun b=>k (.c (.f (.bool b)))
 | op=>qj (nX op j x y) fun v=>lQ v k
theorem wi(x y:Int):(!decide (x<y))=decide (y≤x):=by
 rw [au6];simp
theorem abm{op:BinOp}{j:IntKind}{x y:Int}{k:V→Prop}(h:mo op j x y k):∃ v,nX op j x y=aa v∧k v:=by
 cases op
 case add=>simp only [mo,qI]at h;exact⟨_,rfl,h⟩
 case sub=>simp only [mo,qI]at h;exact⟨_,rfl,h⟩
 case mul=>simp only [mo,qI]at h;exact⟨_,rfl,h⟩
 case eql=>simp only [mo,ij,abM]at h;exact⟨_,rfl,h⟩
 case neq=>simp only [mo,ij,abM]at h;exact⟨_,rfl,h⟩
 case lss=>simp only [mo,ij,Ap]at h;exact⟨_,rfl,h⟩
 case leq=>simp only [mo,ij,Ap,wi]at h;exact⟨_,rfl,h⟩
 case gtr=>simp only [mo,ij,Ap]at h;exact⟨_,rfl,h⟩
 case geq=>simp only [mo,ij,Ap,wi]at h;exact⟨_,rfl,h⟩
 all_goals
  simp only [mo]at h;obtain⟨v,d,b⟩:=jk h;rw [rz]at b;exact⟨v,d,b⟩
def ab_(j b:IntKind)(p:Prop):Prop:=match j,b with
 | .i64,.i64=>p| j,b=>oq (decide (j=b)) p
theorem aca{j b:IntKind}{p:Prop}(h:ab_ j b p):j=b∧p:=by
 unfold ab_ at h;split at h
 ·exact⟨rfl,h⟩
 ·obtain⟨d,g⟩:=jB h;exact⟨of_decide_eq_true d,g⟩
def ana(op:BinOp)(x y:V)(k:V→Prop):Prop:=match x,y with
 | .c (.f (.int j a)),.c (.f (.int d b))=>match op with
  | .shl=>qj (dp .shl x y) fun v=>lQ v k
  | .shr=>qj (dp .shr x y) fun v=>lQ v k
  | op=>ab_ j d (mo op j a b k)
 | x,y=>qj (dp op x y) fun v=>lQ v k
theorem aiu{op:BinOp}{x y:V}{k:V→Prop}(h:ana op x y k):∃ v,dp op x y=aa v∧k v:=by
 have gen:(qj (dp op x y) fun v=>lQ v k)→∃ v,dp op x y=aa v∧k v:=by
  intro h;obtain⟨v,g,d⟩:=jk h;rw [rz]at d;exact⟨v,g,d⟩
 unfold ana at h;split at h
 ·rename_i j a s b;split at h
  ·exact gen h
  ·exact gen h
  ·rename_i g d;obtain⟨e,l⟩:=aca h;subst e;obtain⟨v,m,q⟩:=abm l;refine⟨v,?_,q⟩;cases op<;>first | exact absurd rfl g | exact absurd rfl d | (simp only [dp,if_true];exact m)
 ·exact gen h
def anZ(v:V)(k:Nat→Prop):Prop:=match v with
 | .c (.f (.int _ (.ofNat m)))=>k m| _=>False
theorem ajr{v:V}{k:Nat→Prop}(h:anZ v k):∃ m,ik v=aa (Int.ofNat m)∧k m:=by
 unfold anZ at h;split at h
 ·exact⟨_,rfl,h⟩
 ·exact h.elim
def ab7(t:HT)(sz:Nat)(d:Option Nat)(x i:V)(k:V→Prop):Prop:=anZ i fun m=>match d with
 | none=>match x with
  | .c (.sl b o l _ ep s)=>ti (Nat.succ m) l (ib b t fun bq=>match bq with
   | .box _ _=>cu (Nat.add o (Nat.mul m sz)) fun o=>k (.c (.ptr b o ep))
   | .b5 s' _ _ e .loc=>iH ep e (iH s s' (cu (Nat.add o (Nat.mul m sz)) fun o=>k (.c (.ptr b o ep))))
   | _=>False)
  | .c (.f (.fs cs l))=>ti (Nat.succ m) l (cu (Nat.mul m sz) fun o=>k (.c (.f (.fp cs o))))
  | _=>False
 | some n=>match x with
  | .c (.ptr b o ep)=>ti (Nat.succ m) n (cu (Nat.add o (Nat.mul m sz)) fun o=>k (.c (.ptr b o ep)))
  | .c (.f (.fp cs o))=>ti (Nat.succ m) n (cu (Nat.add o (Nat.mul m sz)) fun o=>k (.c (.f (.fp cs o))))
  | _=>False
theorem P0{H:aj}{t:HT}(h:cY H t){sz:Nat}{y:Option Nat}{x i:V}{k:V→Prop}(d:ab7 t sz y x i k):∃ v,bG H sz y x i=aa v∧k v:=by
 obtain⟨m,hi,d⟩:=ajr d;have h0:(0:Int)≤Int.ofNat m:=Int.natCast_nonneg m;have g:∀ l:Nat,Nat.succ m≤l→Int.ofNat m<(l:Int):=fun l E=>Int.ofNat_lt.2 E;have j:(Int.ofNat m).toNat=m:=rfl;simp only at d;split at d
 ·split at d
  ·rename_i b o l cap ep s _;obtain⟨u,d⟩:=iz d;obtain⟨bq,z,q⟩:=dN d;rw [h]at z;have z:H[b]?=aa bq:=z;split at q
   ·rw [cw]at q;exact⟨_,by simp only [bG,hi,bg h0,bg (g _ u),z,j];rfl,q⟩
   ·obtain⟨A,q⟩:=dd q;obtain⟨B,q⟩:=dd q;rw [cw]at q;exact⟨_,by simp only [bG,hi,bg h0,bg (g _ u),z,j,A,B,and_self,if_true];rfl,A▸q⟩
   ·exact q.elim
  ·obtain⟨u,d⟩:=iz d;rw [cw]at d;exact⟨_,by simp only [bG,hi,bg h0,bg (g _ u),j];rfl,d⟩
  ·exact d.elim
 ·split at d
  ·obtain⟨u,d⟩:=iz d;rw [cw]at d;exact⟨_,by simp only [bG,hi,bg h0,bg (g _ u),j];rfl,d⟩
  ·obtain⟨u,d⟩:=iz d;rw [cw]at d;exact⟨_,by simp only [bG,hi,bg h0,bg (g _ u),j];rfl,d⟩
  ·exact d.elim
def ajg(t:HT)(x:V)(k:Nat→Prop):Prop:=match x with
 | .c (.sl b _ l _ ep sz)=>ib b t fun bq=>match bq with
  | .box _ _=>k l| .b5 s _ _ e _=>iH ep e (iH sz s (k l))| _=>False
 | .c (.f .aw)=>k 0| .c (.f .es)=>k 0| .c (.f (.fs _ l))=>k l| _=>False
theorem Gn{H:aj}{t:HT}(h:cY H t){x:V}{k:Nat→Prop}(g:ajg t x k):∃ y n,x=.c y∧bA H y=aa n∧k n:=by
 unfold ajg at g;split at g
 ·rename_i b o l cap ep sz;obtain⟨bq,j,d⟩:=dN g;rw [h]at j;have j:H[b]?=aa bq:=j;split at d
  ·exact⟨_,l,rfl,by simp [bA,j],d⟩
  ·obtain⟨m,d⟩:=dd d;obtain⟨q,d⟩:=dd d;exact⟨_,l,rfl,by simp [bA,j,m,q],d⟩
  ·exact d.elim
 ·exact⟨_,0,rfl,rfl,g⟩
 ·exact⟨_,0,rfl,rfl,g⟩
 ·exact⟨_,_,rfl,rfl,g⟩
 ·exact g.elim
def EM(r:T)(ps:List (Nat × Nat × Arg)):List C→(List C→Prop)→Prop:=
 List.rec (motive:=fun _=>List C→(List C→Prop)→Prop) (fun cs k=>k cs)
  (fun p _ b cs k=>Prod.rec (motive:=fun _=>Prop) (fun off q=>Prod.rec (motive:=fun _=>Prop) (fun n x=>pJ x r fun v=>vh v fun xs=>iH xs.length n (wq xs off cs fun cs=>b cs k)) q) p) ps
theorem zj(r:T):∀ {ps:List (Nat × Nat × Arg)} {cs:List C} {k:List C→Prop},EM r ps cs k→∃ cs',dE r cs ps=aa cs'∧k cs'
 | [],cs,k,h=>⟨cs,rfl,h⟩
 | (off,n,x)::ps,cs,k,h=>by
  have h:pJ x r fun v=>vh v fun xs=>iH xs.length n (wq xs off cs fun cs=>EM r ps cs k):=h;rw [du]at h;obtain⟨xs,b,h⟩:=rn h;obtain⟨d,h⟩:=dd h;obtain⟨g,h⟩:=lB h;obtain⟨cs',j,l⟩:=zj r h;exact⟨cs',by simp [dE,b,d,j]at g ⊢;omega,l⟩
def zN(t:HT)(sz:Nat)(y:V)(k:Nat→List C→Prop):Prop:=match y with
 | .c (.f .aw)=>k 0 []| .c (.f .es)=>k 0 []| .c (.f (.fs cs l))=>iH cs.length (Nat.mul l sz) (fzK cs fun cs=>k l cs)
 | .c (.sl b o l _ ep s)=>ib b t fun bq=>match bq with
  | .box cs _=>rp o cs fun cs=>my (Nat.mul l sz) cs fun cs=>k l cs
  | .b5 s' cs _ e _=>iH ep e (iH s s' (iH s' sz (rp o cs fun cs=>my (Nat.mul l sz) cs fun cs=>k l cs)))
  | _=>False
 | y=>qj (pC t.get sz y) fun r=>Prod.rec (motive:=fun _=>Prop) (fun n cs=>mS cs fun cs=>k n cs) r
theorem yq{H:aj}{t:HT}(h:cY H t){sz:Nat}{y:V}{k:Nat→List C→Prop}(j:zN t sz y k) :
  ∃ n cs,cV H sz y=aa (n,cs)∧k n cs:=by
 unfold zN at j;split at j
 ·exact⟨0,[],rfl,j⟩
 ·exact⟨0,[],rfl,j⟩
 ·rename_i cs l;obtain⟨m,j⟩:=dd j;rw [rB]at j;have m:cs.length=l*sz:=m;exact⟨l,_,by simp only [cV,bA,cO,m,if_true],j⟩
 ·rename_i b o l cap ep s;obtain⟨bq,g,d⟩:=dN j;rw [h]at g;have g:H[b]?=aa bq:=g;split at d
  ·obtain⟨A,d⟩:=js d;obtain⟨q,u⟩:=fT d;have q:l*sz≤_:=q;rw [auf]at q;refine⟨l,_,?_,u⟩;simp only [cV,bA,cO,g];rw [bg (by omega)];rfl
  ·obtain⟨q,d⟩:=dd d;obtain⟨u,d⟩:=dd d;obtain⟨x,d⟩:=dd d;obtain⟨A,d⟩:=js d;obtain⟨v,z⟩:=fT d;have v:l*sz≤_:=v;rw [auf]at v;subst q u x;refine⟨l,_,?_,z⟩;simp only [cV,bA,cO,g,and_self,if_true];rw [bg ⟨trivial,trivial,by omega⟩];rfl
  ·exact d.elim
 ·obtain⟨⟨n,cs⟩,m,g⟩:=jk j;have g:mS cs fun cs=>k n cs:=g;rw [kP]at g;rw [h,oF]at m;exact⟨n,cs,m,g⟩
def CP(need bytes:Nat)(p:Prop):Prop:=ti (Nat.mul (Nat.add (Nat.mul 2 need) 768) bytes) 281474976710656 (ti (Nat.succ need) 281474976710656 p)
theorem qy{need bytes:Nat}{p:Prop}(h:CP need bytes p):bU need bytes=ae∧p:=by
 obtain⟨b,h⟩:=iz h;obtain⟨d,h⟩:=iz h;refine⟨?_,h⟩;have e:(2:Nat) ^ 48=281474976710656:=by decide
 simp only [bU,atI,decide_eq_true_eq,e];exact⟨b,d⟩
def am9(t:HT)(n:Nat)(sz bytes:Nat)(x y:V)(k:V→HT→Nat→Prop):Prop:=
 zN t sz y fun m ys=>Nat.rec (motive:=fun _=>Prop) False (fun _ _=>match x with
  | .c (.f .aw)=>Nat.rec (motive:=fun _=>Prop) (k (.c (.f .aw)) t n) (fun _ _=>CP m bytes (cu m fun m=>oA (.b5 sz ys 0 0 .loc) t n fun t g=>k (.c (.sl n 0 m 0 0 sz)) t g)) m
  | .c (.f .es)=>Nat.rec (motive:=fun _=>Prop) (k (.c (.f .es)) t n) (fun _ _=>CP m bytes (cu m fun m=>oA (.b5 sz ys 0 0 .loc) t n fun t g=>k (.c (.sl n 0 m 0 0 sz)) t g)) m
  | .c (.sl b o l cap ep s)=>ib b t fun bq=>match bq with
   | .box cs fl=>Bool.rec (motive:=fun _=>Prop)
     (cu (Nat.add l m) fun d=>CP d bytes (rp o cs fun cs=>my (Nat.mul l sz) cs fun cs=>anj cs ys fun cs=>oA (.b5 sz cs 0 0 .loc) t n fun t g=>k (.c (.sl n 0 d 0 0 sz)) t g))
     (cu (Nat.add l m) fun d=>ti fl (Nat.add o (Nat.mul l sz)) (wq ys (Nat.add o (Nat.mul l sz)) cs fun cs=>gL (.box cs fl) t b fun t=>k (.c (.sl b o d cap ep s)) t n))
     (Nat.ble (Nat.add l m) cap)
   | .b5 s' cs fl e st=>iH ep e (iH s' sz (iH s sz (Nat.rec (motive:=fun _=>Prop) (k x t n) (fun _ _=>
     cu (Nat.add l m) fun d=>Bool.rec (motive:=fun _=>Prop)
      (match st with
       | .loc=>ti fl (Nat.add o (Nat.mul l sz)) (wq ys (Nat.add o (Nat.mul l sz)) cs fun cs=>gL (.b5 sz cs fl e .loc) t b fun t=>k (.c (.sl b o d 0 ep sz)) t n)
       | _=>False)
      (CP d bytes (cu (Nat.succ e) fun j=>anj cs ys fun cs=>gL (.b5 sz cs fl j .loc) t b fun t=>k (.c (.sl b 0 d 0 j sz)) t n))
      (and (and (Nat.beq o 0) (Nat.beq (Nat.mul l sz) cs.length)) (Nat.ble fl cs.length))) m)))
   | _=>False
  | _=>False) sz
theorem FN{H:aj}{t:HT}(h:cY H t){sz bytes:Nat}{x y:V}{k:V→HT→Nat→Prop}(d:am9 t H.length sz bytes x y k) :
  ∃ v H' g,cG H sz bytes x y=aa (v,H')∧cY H' g∧k v g H'.length:=by
 obtain⟨m,ys,N,d⟩:=yq h d;unfold cG;rw [N];cases sz with
 | zero=>exact d.elim
 | succ u=>
  simp only at d ⊢;rw [aY (by omega)];split at d
  ·cases m with
   | zero=>exact⟨_,H,t,rfl,h,d⟩
   | succ L=>
    simp only at d;obtain⟨J,d⟩:=qy d;rw [cw]at d;obtain⟨g,z,j⟩:=iO h d;exact⟨_,_,g,by simp only [Nat.add_one_ne_zero,if_false,J,if_true],z,j⟩
  ·cases m with
   | zero=>exact⟨_,H,t,rfl,h,d⟩
   | succ L=>
    simp only at d;obtain⟨J,d⟩:=qy d;rw [cw]at d;obtain⟨g,z,j⟩:=iO h d;exact⟨_,_,g,by simp only [Nat.add_one_ne_zero,if_false,J,if_true],z,j⟩
  ·rename_i b o l cap ep s _;obtain⟨bq,z,d⟩:=dN d;rw [h]at z;have z:H[b]?=aa bq:=z;simp only [z];split at d
   ·rename_i cs fl _;simp only;cases hc:Nat.ble (Nat.add l m) cap with
    | false=>
     rw [hc]at d;have B:¬ (l+m≤cap):=fun e=>by have:=Nat.ble_eq_true_of_le e;rw [show Nat.ble (Nat.add l m) cap=Nat.ble (l+m) cap from rfl,this]at hc;cases hc
     simp only [cw]at d;obtain⟨j,d⟩:=qy d;obtain⟨F,d⟩:=js d;obtain⟨E,d⟩:=fT d;rw [zT]at d;obtain⟨g,q,A⟩:=iO h d;rw [auf]at E;have E:l*(u+1)≤_:=E;rw [aY B,bg ⟨j,by omega⟩];exact⟨_,_,g,rfl,q,A⟩
    | true=>
     rw [hc]at d;have B:l+m≤cap:=avC hc;simp only [cw]at d;obtain⟨j,d⟩:=iz d;obtain⟨F,d⟩:=lB d;obtain⟨g,q,A⟩:=ed h d;rw [bg B,bg ⟨j,F⟩];exact⟨_,_,g,rfl,q,by simpa using A⟩
   ·rename_i s' cs fl e st _;simp only;obtain⟨j,d⟩:=dd d;obtain⟨F,d⟩:=dd d;obtain⟨E,d⟩:=dd d;rw [bg ⟨j,F,E⟩];cases m with
    | zero=>rw [bg rfl];exact⟨_,H,t,rfl,h,d⟩
    | succ L=>
     rw [aY (by omega)];simp only [cw]at d;cases hc:and (and (Nat.beq o 0) (Nat.beq (Nat.mul l (u+1)) cs.length)) (Nat.ble fl cs.length)with
     | true=>
      rw [hc]at d;simp only [atI]at hc;have c1:=avd hc.1.1;have c2:=avd hc.1.2;have I:=avC hc.2;simp only at d;obtain⟨q,d⟩:=qy d;rw [zT]at d;obtain⟨g,A,K⟩:=ed h d;have q:bU (l+(L+1)) bytes=ae:=q;rw [bg ⟨c1,c2,I⟩,bg q];subst j;exact⟨_,_,g,rfl,A,by simpa using K⟩
     | false=>
      rw [hc]at d;have O:¬ (o=0∧l*(u+1)=cs.length∧fl≤cs.length):=by
       rintro⟨c1,c2,I⟩;rw [c1,show Nat.mul l (u+1)=cs.length from c2,Nat.ble_eq_true_of_le I]at hc;simp at hc
      rw [aY O];simp only at d;split at d
      ·obtain⟨q,d⟩:=iz d;obtain⟨A,d⟩:=lB d;obtain⟨g,K,M⟩:=ed h d;rw [bg ⟨rfl,q,A⟩];exact⟨_,_,g,rfl,K,by simpa using M⟩
      ·exact d.elim
   ·exact d.elim
  ·exact d.elim
end
section
set_option linter.unusedVariables false
abbrev fC:=Callee→List V→HT→Nat→(V→HT→Nat→Prop)→Prop
def pw(call:cR)(bB:fC):Prop:=
 ∀(c:Callee) (args:List V) (H:aj) (t:HT) (k:V→HT→Nat→Prop),cY H t→bB c args t H.length k→∃ v H' b,call c args H=aa (v,H')∧cY H' b∧k v b H'.length
def zY{d b:Type}(g:d→(b→Prop)→Prop)(xs:List d):(List b→Prop)→Prop:=
 List.rec (motive:=fun _=>(List b→Prop)→Prop) (fun k=>k []) (fun x _ j k=>g x fun y=>j fun ys=>k (y::ys)) xs
theorem je{b d:Type}{g:b→(d→Prop)→Prop}{f:b→Option d}(j:∀ x k,g x k→∃ y,f x=aa y∧k y):∀ {xs:List b} {k:List d→Prop},zY g xs k→∃ ys,bj f xs=aa ys∧k ys
 | [],k,h=>⟨[],rfl,h⟩
 | x::xs,k,h=>by
  obtain⟨y,l,h⟩:=j x _ h;obtain⟨ys,m,q⟩:=je j (xs:=xs) h;exact⟨y::ys,by simp [bj,l,m],q⟩
def exK(t:HT)(m:Nat):C→(FC→Prop)→Prop:=
 Nat.rec (motive:=fun _=>C→(FC→Prop)→Prop) (fun x k=>match x with
   | .f y=>k y
   | _=>False)
  (fun _ j x k=>match x with
   | .f y=>k y
   | .ptr b off _=>ib b t fun bq=>match bq with
    | .box cs _=>zY j cs fun d=>k (.fp d off)
    | _=>False
   | .sl b o l _ ep sz=>ib b t fun bq=>match bq with
    | .box cs _=>rp o cs fun cs=>my (Nat.mul l sz) cs fun cs=>zY j cs fun d=>k (.fs d l)
    | .b5 s cs _ e .loc=>iH ep e (iH sz s (rp o cs fun cs=>my (Nat.mul l sz) cs fun cs=>zY j cs fun d=>k (.fs d l)))
    | .b5 s cs _ e .nil=>iH ep e (iH sz s (k .aw))| .b5 s cs _ e .es=>iH ep e (iH sz s (k .es))| _=>False
   | .cl f g=>zY j g fun d=>k (.fn f d)
   | _=>False) m
theorem abQ{H:aj}{t:HT}(h:cY H t):∀(m:Nat) (x:C) (k:FC→Prop),exK t m x k→∃ y,ek m H x=aa y∧k y:=by
 intro m;induction m with
 | zero=>
  intro x k q;cases x with
  | f y=>exact⟨y,rfl,q⟩| _=>exact q.elim
 | succ m E=>
  intro x k q;cases x with
  | f y=>exact⟨y,rfl,q⟩
  | ptr b off ep=>
   obtain⟨bq,g,d⟩:=dN q;rw [h]at g;have g:H[b]?=aa bq:=g;cases bq with
   | box cs fl=>
    obtain⟨z,j,u⟩:=je E d;exact⟨_,by simp only [ek,g,j];rfl,u⟩
   | _=>exact d.elim
  | sl b o l cap ep sz=>
   obtain⟨bq,g,d⟩:=dN q;rw [h]at g;have g:H[b]?=aa bq:=g;cases bq with
   | box cs fl=>
    obtain⟨I,d⟩:=js d;obtain⟨v,d⟩:=fT d;obtain⟨z,j,u⟩:=je E d;rw [auf]at v;have v:l*sz≤_:=v;have j:bj (ek m H) ((cs.drop o).take (l*sz))=aa z:=j;exact⟨_,by simp only [ek,g];rw [bg (by omega),j];rfl,u⟩
   | b5 s cs fl e st=>
    cases st with
    | loc=>
     obtain⟨A,d⟩:=dd d;obtain⟨B,d⟩:=dd d;obtain⟨I,d⟩:=js d;obtain⟨v,d⟩:=fT d;obtain⟨z,j,u⟩:=je E d;rw [auf]at v;have v:l*sz≤_:=v;have j:bj (ek m H) ((cs.drop o).take (l*sz))=aa z:=j;exact⟨_,by simp only [ek,g];rw [bg ⟨A,B,by omega⟩,j];rfl,u⟩
    | nil=>
     obtain⟨A,d⟩:=dd d;obtain⟨B,d⟩:=dd d;exact⟨_,by simp only [ek,g];rw [bg ⟨A,B⟩],d⟩
    | es=>
     obtain⟨A,d⟩:=dd d;obtain⟨B,d⟩:=dd d;exact⟨_,by simp only [ek,g];rw [bg ⟨A,B⟩],d⟩
   | _=>exact d.elim
  | cl f F=>
   obtain⟨z,j,u⟩:=je E q;exact⟨_,by simp only [ek,j];rfl,u⟩
  | _=>exact q.elim
def F4(t:HT)(v:V)(k:V→Prop):Prop:=match v with
 | .c x=>exK t deep x fun y=>k (.c (.f y))
 | .a xs=>zY (exK t deep) xs fun ys=>fzK ys fun cs=>k (.a cs)
 | _=>False
theorem pK{H:aj}{t:HT}(h:cY H t)(v:V)(k:V→Prop)(g:F4 t v k):∃ y,cD deep H v=aa y∧k y:=by
 cases v with
 | c x=>
  obtain⟨y,d,b⟩:=abQ h deep x _ g;exact⟨_,by simp only [cD,d];rfl,b⟩
 | a xs=>
  obtain⟨ys,d,b⟩:=je (abQ h deep) g;rw [rB]at b;exact⟨_,by simp only [cD,d];rfl,b⟩
 | _=>exact g.elim
def anr(t:HT)(v:V)(k:V→Prop):Prop:=match v with
 | .t b=>zY (F4 t) b fun b=>k (.t b)
 | v=>F4 t v k
theorem F5{H:aj}{t:HT}(h:cY H t)(v:V)(k:V→Prop)(b:anr t v k):∃ y,iZ deep H v=aa y∧k y:=by
 cases v with
 | t j=>
  obtain⟨ys,d,g⟩:=je (pK h) b;exact⟨_,by simp only [iZ,d];rfl,g⟩
 | c x=>exact pK h (.c x) k b| a xs=>exact pK h (.a xs) k b| top=>exact b.elim
def Ex{b:Type}(g:b→HT→(HT→Prop)→Prop)(xs:List b):HT→(HT→Prop)→Prop:=
 List.rec (motive:=fun _=>HT→(HT→Prop)→Prop) (fun t k=>k t) (fun x _ d t k=>g x t fun t=>d t k) xs
def MkS{b:Type}(g:b→HT→(HT→Prop)→Prop)(f:aj→b→aj):Prop:=∀(x:b) (H:aj) (t:HT) (k:HT→Prop),cY H t→g x t k→∃ d,cY (f H x) d∧k d
theorem lY{d:Type}{g:d→HT→(HT→Prop)→Prop}{f:aj→d→aj}(j:MkS g f):∀(xs:List d) (H:aj) (t:HT) (k:HT→Prop),cY H t→Ex g xs t k→∃ l,cY (xs.foldl f H) l∧k l
 | [],H,t,k,h,b=>⟨t,h,b⟩
 | x::xs,H,t,k,h,b=>by
  obtain⟨s,m,q⟩:=j x H t _ h b;exact lY j xs _ s k m q
def mkK(m:Nat):C→HT→(HT→Prop)→Prop:=
 Nat.rec (motive:=fun _=>C→HT→(HT→Prop)→Prop) (fun _ t k=>k t)
  (fun _ g x t k=>match x with
   | .f _=>k t
   | .ptr b _ _=>ib b t fun bq=>match bq with
    | .box cs fl=>cu (Nat.max fl cs.length) fun fl=>gL (.box cs fl) t b fun t=>Ex g cs t k
    | _=>k t
   | .sl b o l _ _ sz=>ib b t fun bq=>match bq with
    | .box cs fl=>cu (Nat.max fl (Nat.add o (Nat.mul l sz))) fun fl=>gL (.box cs fl) t b fun t=>vp o cs fun cs=>my (Nat.mul l sz) cs fun cs=>Ex g cs t k
    | .b5 s cs fl e st=>cu (Nat.max fl (Nat.add o (Nat.mul l sz))) fun fl=>gL (.b5 s cs fl e st) t b fun t=>vp o cs fun cs=>my (Nat.mul l sz) cs fun cs=>Ex g cs t k
    | _=>k t
   | .cl _ d=>Ex g d t k
   | _=>k t) m
theorem acy:∀(m:Nat),MkS (mkK m) (fun H x=>gD m x H):=by
 intro m;induction m with
 | zero=>intro x H t k h q;exact⟨t,by cases x<;>exact h,q⟩
 | succ m z=>
  intro x H t k h q;cases x with
  | f y=>exact⟨t,h,q⟩
  | ptr b off ep=>
   obtain⟨bq,d,g⟩:=dN q;rw [h]at d;have d:H[b]?=aa bq:=d;cases bq with
   | box cs fl=>
    change cu _ _ at g;rw [cw]at g;obtain⟨v,u,j⟩:=ed h g;simp only [gD,d];exact lY z cs _ v k u j
   | _=>simp only [gD,d];exact⟨t,h,g⟩
  | sl b o l cap ep sz=>
   obtain⟨bq,d,g⟩:=dN q;rw [h]at d;have d:H[b]?=aa bq:=d;cases bq with
   | box cs fl=>
    change cu _ _ at g;rw [cw]at g;obtain⟨v,u,j⟩:=ed h g;rw [mN]at j;obtain⟨_,j⟩:=fT j;simp only [gD,d];exact lY z _ _ v k u j
   | b5 s cs fl e st=>
    change cu _ _ at g;rw [cw]at g;obtain⟨v,u,j⟩:=ed h g;rw [mN]at j;obtain⟨_,j⟩:=fT j;simp only [gD,d];exact lY z _ _ v k u j
   | _=>simp only [gD,d];exact⟨t,h,g⟩
  | cl f A=>
   simp only [gD];exact lY z _ _ t k h q
  | _=>exact⟨t,h,q⟩
def aqY(v:V)(t:HT)(k:HT→Prop):Prop:=match v with
 | .c x=>mkK deep x t k| .a xs=>Ex (mkK deep) xs t k| _=>k t
theorem ajq:MkS aqY (mkV deep):=by
 intro v H t k h b;cases v with
 | c x=>exact acy deep x H t k h b| a xs=>exact lY (acy deep) xs H t k h b| _=>exact⟨t,h,b⟩
def ala(call:fC)(f:Nat)(d:List V)(t:HT)(n:Nat)(k:V→HT→Nat→Prop):Prop:=
 zY (F4 t) d fun g=>call (.fn f) g .e 0 fun b j _=>anr j b fun b=>Ex aqY d t fun t=>k b t n
theorem acR{call:cR}{bB:fC}(hc:pw call bB){f:Nat}{g:List V}{H:aj}{t:HT}{k:V→HT→Nat→Prop}(h:cY H t)(b:ala bB f g t H.length k) :
  ∃ v H' d,et call f g H=aa (v,H')∧cY H' d∧k v d H'.length:=by
 obtain⟨l,m,b⟩:=je (pK h) b;obtain⟨y,z,A,q,s,b⟩:=hc (.fn f) l [] .e _ cY.nil b;obtain⟨j,u,b⟩:=F5 s y _ b;obtain⟨d,x,b⟩:=lY ajq g H t _ h b;refine⟨j,_,d,by simp only [et,m,q,u],x,?_⟩;rw [←(nL deep g H).1];exact b
abbrev ua:=fC→T→List dK→HT→Nat→(V→List dK→HT→Nat→Prop)→Prop
def fH(op:cX):ua:=fun _ r d t n k=>aqC op r t n fun v t n=>k v d t n
def am6(x:Arg):ua:=fun _ r d t n k=>pJ x r fun v=>k v d t n
def aa9(c a b:Arg):ua:=fun _ r d t n k=>pJ c r fun v=>match v with
 | .c (.f (.bool v))=>Bool.rec (motive:=fun _=>Prop) (pJ b r fun v=>k v d t n) (pJ a r fun v=>k v d t n) v
 | _=>False
def DG(zs:List FC):ua:=fun _ r d t n k=>fzK zs fun cs=>oA (.box cs 0) t n fun t b=>k (.c (.ptr n 0 0)) d t b
def am3(x:Arg):ua:=fun _ r d t n k=>pJ x r fun v=>vh v fun xs=>oA (.box xs 0) t n fun t b=>k (.c (.ptr n 0 0)) d t b
def DH(zs:List FC)(ps:List (Nat × Nat × Arg)):ua:=fun _ r d t n k=>fzK zs fun cs=>EM r ps cs fun cs=>k (.a cs) d t n
def aa8(m:Option Nat)(x:Arg):ua:=fun _ r d t n k=>pJ x r fun v=>ldK t m v fun v=>k v d t n
def DL(m:Nat)(x y:Arg):ua:=fun _ r d t n k=>pJ x r fun v=>pJ y r fun y=>vh y fun xs=>iH xs.length m (match v with
 | .c p=>stK t p xs fun t=>k .top d t n
 | _=>False)
def zM(x:Arg):ua:=fun _ r d t n k=>pJ x r fun v=>match v with
 | .c (.ptr b o e)=>k (.c (.ptr b o e)) d t n| .c (.f (.fp cs o))=>k (.c (.f (.fp cs o))) d t n| _=>False
def am2(op:BinOp)(x y:Arg):ua:=fun _ r d t n k=>pJ x r fun x=>pJ y r fun y=>ana op x y fun v=>k v d t n
def am4(j:IntKind)(x:Arg):ua:=fun _ r d t n k=>pJ x r fun v=>match v with
 | .c (.f (.int _ m))=>zB j m fun m=>k (.c (.f (.int j m))) d t n
 | _=>False
def zK(off:Nat)(x:Arg):ua:=fun _ r d t n k=>pJ x r fun v=>match v with
 | .c (.ptr b o e)=>cu (Nat.add o off) fun o=>k (.c (.ptr b o e)) d t n
 | .c (.f (.fp cs o))=>cu (Nat.add o off) fun o=>k (.c (.f (.fp cs o))) d t n
 | _=>False
def DK(off:Nat)(m:Option Nat)(x:Arg):ua:=fun _ r d t n k=>pJ x r fun v=>match v with
 | .a xs=>Gy m off xs fun v=>k v d t n
 | _=>False
def zL(sz:Nat)(b:Option Nat)(x i:Arg):ua:=fun _ r d t n k=>pJ x r fun x=>pJ i r fun i=>ab7 t sz b x i fun v=>k v d t n
def uV(x:Arg)(i:Nat):ua:=fun _ r d t n k=>pJ x r fun v=>match v with
 | .t b=>aju i b fun v=>k v d t n
 | _=>False
def aa7(f:Nat)(args:List Arg)(h:Bool):ua:=fun call r d t n k=>By args r fun b=>
 Bool.rec (motive:=fun _=>Prop) (ala call f b t n fun v t n=>k v d t n) (call (.fn f) b t n fun v t n=>k v d t n) h
def DI(x:Arg)(args:List Arg)(_:Bool):ua:=fun call r d t n k=>pJ x r fun x=>By args r fun b=>
 qj (bZ x b) fun g=>Prod.rec (motive:=fun _=>Prop) (fun c b=>call c b t n fun v t n=>k v d t n) g
def akT(m:Nat):ua:=fun _ r d t n k=>k (.c (.f (.int .i64 (.ofNat m)))) d t n
def am5(x:Arg):ua:=fun _ r d t n k=>pJ x r fun v=>ajg t v fun m=>k (.c (.f (.int .i64 (.ofNat m)))) d t n
def zJ(sz bytes:Nat)(x y:Arg):ua:=fun _ r d t n k=>pJ x r fun x=>pJ y r fun y=>am9 t n sz bytes x y fun v t n=>k v d t n
def Bn:ua:=fun _ r d t n k=>k (.c (.f .mF)) d t n
def DJ(x:Arg)(args:List Arg):ua:=fun _ r d t n k=>pJ x r fun x=>By args r fun b=>
 qj (bZ x b) fun g=>Prod.rec (motive:=fun _=>Prop) (fun c b=>Callee.rec (motive:=fun _=>Prop) (fun f=>k .top (.fn f b::d) t n) (fun _=>False) c) g
def aq2(op:cX):ua:=
 cX.rec (motive:=fun _=>ua)
  am6 (fun o s=>fH (.pre o s)) aa9 DG am3 DH (fun a b c e=>fH (.bH a b c e)) aa8 DL zM am2
  (fun a b c e=>fH (.eq a b c e)) (fun a b=>fH (.un a b)) am4 (fun a=>fH (.xz a)) (fun a=>fH (.xy a)) (fun a=>fH (.DX a)) (fun a b=>fH (.fP a b)) (fH .jH)
  (fun a b c e=>fH (.lookup a b c e)) (fun a b c e=>fH (.ja a b c e)) (fun a b c e f=>fH (.dR a b c e f)) (fun a b c e f=>fH (.slice a b c e f)) (fun a b c e f g=>fH (.nm a b c e f g)) (fun a b c=>fH (.oB a b c))
  zK DK zL (fun a b=>fH (.idxs a b)) (fun a b c e f=>fH (.xB a b c e f)) (fun a=>fH (.range a)) (fun a=>fH (.next a)) uV aa7 DI am5 akT (fun a=>fH (.lens a)) (fun a=>fH (.cap a))
  zJ (fun a b c=>fH (.copy a b c)) (fun a b=>fH (.gR a b)) (fun a b c e f=>fH (.lK a b c e f)) (fun a b c=>fH (.clear a b c)) (fun a=>fH (.kE a)) (fun a=>fH (.oz a)) (fun a=>fH (.entry a)) (fun a b=>fH (.mZ a b)) (fun a b c e=>fH (.wP a b c e)) (fun a b c e=>fH (.fJ a b c e)) Bn DJ (fH .bad) op
theorem ajv{call:cR}{bB:fC}(hc:pw call bB)(op:cX){r:T}{d:List dK}{H:aj}{t:HT}{k:V→List dK→HT→Nat→Prop}(h:cY H t)(g:aq2 op bB r d t H.length k) :
  ∃ v A H' q,eQ call ⟨r,d,H⟩ op=aa (v,⟨r,A,H'⟩)∧cY H' q∧k v A q H'.length:=by
 have go:∀ {v H' q},eQ call ⟨r,d,H⟩ op=(bu r H op).map (fun r'=>(r'.1,⟨r,d,r'.2⟩))→bu r H op=aa (v,H')→cY H' q→k v d q H'.length →
   ∃ v A H' q,eQ call ⟨r,d,H⟩ op=aa (v,⟨r,A,H'⟩)∧cY H' q∧k v A q H'.length:=
  fun s u l B=>⟨_,d,_,_,by rw [s,u];rfl,l,B⟩
 have gen:eQ call ⟨r,d,H⟩ op=(bu r H op).map (fun r'=>(r'.1,⟨r,d,r'.2⟩))→fH op bB r d t H.length k →
   ∃ v A H' q,eQ call ⟨r,d,H⟩ op=aa (v,⟨r,A,H'⟩)∧cY H' q∧k v A q H'.length:=fun s u=>by
  obtain⟨v,H',q,l,B,I⟩:=aiU op r H t _ h u;exact go s l B I
 cases op
 case bc x=>
  have g:am6 x bB r d t H.length k:=g;unfold am6 at g;rw [du]at g;exact go rfl rfl h g
 case pick c a b=>
  have g:aa9 c a b bB r d t H.length k:=g;unfold aa9 at g;rw [du]at g;split at g
  ·rename_i v z;cases v with
   | true=>
    simp only [du]at g;exact go rfl (by simp only [bu,z];rfl) h g
   | false=>
    simp only [du]at g;exact go rfl (by simp only [bu,z];rfl) h g
  ·exact g.elim
 case alloc zs=>
  have g:DG zs bB r d t H.length k:=g;unfold DG at g;rw [rB]at g;obtain⟨q,s,u⟩:=iO h g;exact go rfl rfl s u
 case box x=>
  have g:am3 x bB r d t H.length k:=g;unfold am3 at g;rw [du]at g;obtain⟨xs,l,g⟩:=rn g;obtain⟨q,s,u⟩:=iO h g;exact go rfl (by simp only [bu,l]) s u
 case build zs ps=>
  have g:DH zs ps bB r d t H.length k:=g;unfold DH at g;rw [rB]at g;obtain⟨cs,l,g⟩:=zj r g;exact go rfl (by simp only [bu,l];rfl) h g
 case load m x=>
  have g:aa8 m x bB r d t H.length k:=g;unfold aa8 at g;rw [du]at g;obtain⟨v,l,g⟩:=acf h g;exact go rfl (by simp only [bu,l];rfl) h g
 case store m x y=>
  have g:DL m x y bB r d t H.length k:=g;unfold DL at g;rw [du,du]at g;obtain⟨xs,l,g⟩:=rn g;obtain⟨B,g⟩:=dd g;split at g
  ·rename_i p M;obtain⟨H',q,I,K,L,g⟩:=aow h g;exact go rfl (by simp only [bu,M,l,B,if_true,I];rfl) K (by rw [L];exact g)
  ·exact g.elim
 case cj x=>
  have g:zM x bB r d t H.length k:=g;unfold zM at g;rw [du]at g;split at g
  ·rename_i z;exact go rfl (by simp only [bu,z]) h g
  ·rename_i z;exact go rfl (by simp only [bu,z]) h g
  ·exact g.elim
 case bin op x y=>
  have g:am2 op x y bB r d t H.length k:=g;unfold am2 at g;rw [du,du]at g;obtain⟨v,l,g⟩:=aiu g;exact go rfl (by simp only [bu,l];rfl) h g
 case fO j x=>
  have g:am4 j x bB r d t H.length k:=g;unfold am4 at g;rw [du]at g;split at g
  ·rename_i z;simp only [qI]at g;exact go rfl (by simp only [bu,z];rfl) h g
  ·exact g.elim
 case aU off x=>
  have g:zK off x bB r d t H.length k:=g;unfold zK at g;rw [du]at g;split at g
  ·rename_i z;rw [cw]at g;exact go rfl (by simp only [bu,z,jf];rfl) h g
  ·rename_i z;rw [cw]at g;exact go rfl (by simp only [bu,z,jf];rfl) h g
  ·exact g.elim
 case field off m x=>
  have g:DK off m x bB r d t H.length k:=g;unfold DK at g;rw [du]at g;split at g
  ·rename_i z;obtain⟨v,l,g⟩:=wA g;exact go rfl (by simp only [bu,z,ku,l];rfl) h g
  ·exact g.elim
 case bI sz F x i=>
  have g:zL sz F x i bB r d t H.length k:=g;unfold zL at g;rw [du,du]at g;obtain⟨v,l,g⟩:=P0 h g;exact go rfl (by simp only [bu,l];rfl) h g
 case extract x i=>
  have g:uV x i bB r d t H.length k:=g;unfold uV at g;rw [du]at g;split at g
  ·rename_i z;obtain⟨v,l,g⟩:=uD g;exact go rfl (by simp only [bu,z,l];rfl) h g
  ·exact g.elim
 case call f args E=>
  have g:aa7 f args E bB r d t H.length k:=g;unfold aa7 at g;rw [pF]at g;cases E with
  | false=>
   obtain⟨v,H',q,s,u,l⟩:=acR hc h g;exact⟨v,d,H',q,by simp only [eQ,gT,aub,if_false,s];rfl,u,l⟩
  | true=>
   obtain⟨v,H',q,s,u,l⟩:=hc _ _ H t _ h g;exact⟨v,d,H',q,by simp only [eQ,gT,if_true,s];rfl,u,l⟩
 case cm x args E=>
  have g:DI x args E bB r d t H.length k:=g;unfold DI at g;rw [du,pF]at g;obtain⟨⟨c,J⟩,s,g⟩:=jk g;obtain⟨v,H',q,u,l,B⟩:=hc c J H t _ h g;exact⟨v,d,H',q,by simp only [eQ,s,u];rfl,l,B⟩
 case len x=>
  have g:am5 x bB r d t H.length k:=g;unfold am5 at g;rw [du]at g;obtain⟨y,m,s,u,g⟩:=Gn h g;exact go rfl (by simp only [bu,s,u];rfl) h g
 case nZ m=>
  have g:akT m bB r d t H.length k:=g;exact go rfl rfl h g
 case append sz bytes x y=>
  have g:zJ sz bytes x y bB r d t H.length k:=g;unfold zJ at g;rw [du,du]at g;obtain⟨v,H',q,s,u,l⟩:=FN h g;exact go rfl (by simp only [bu,s]) u l
 case recover=>
  have g:Bn bB r d t H.length k:=g;exact⟨_,d,H,t,rfl,h,g⟩
 case defer x args=>
  have g:DJ x args bB r d t H.length k:=g;unfold DJ at g;rw [du,pF]at g;obtain⟨⟨c,J⟩,s,g⟩:=jk g;cases c with
  | fn f=>exact⟨_,.fn f J::d,H,t,by simp only [eQ,s],h,g⟩
  | yield b=>exact g.elim
 all_goals exact gen rfl g
end
section
set_option linter.unusedVariables false
def AI(H:aj):C→Int→C→Option (V × aj)
 | .sl b o l _ ep s,i,.sl vb g 1 _ _ _=>match H[b]?,H[vb]? with
  | some (.b5 s' cs fl e .loc),aa (.box d _)=>
   if o=0∧g=0∧ep=e∧s=10∧s'=10∧cs.length=l*10∧fl=0∧0≤i∧i<l∧l≤1000000∧d.length=10 then
    aa (.c (.sl b 0 (l+1) 0 (e+1) 10),H.set b (.b5 10 (cs.take (i.toNat*10)++d++cs.drop (i.toNat*10)) 0 (e+1) .loc))
   else ab
  | _,_=>ab
 | _,_,_=>ab
def P1(args:List V)(H:aj):Option (V × aj):=
 match args with
 | [.c x,.c (.f (.int .i64 i)),.c y]=>match bA H x,cV H 10 (.c y)with
  | some n,aa (1,_)=>if i=n then cG H 10 112 (.c x) (.c y)else AI H x i y| _,_=>ab
 | _=>ab
def sX(f:Nat)(args:List V)(H:aj):Option (Option (V × aj)):=if f=fo then aa (P1 args H)else ab
end
section
set_option linter.unusedVariables false
def ai4(args:List V)(t:HT)(n:Nat)(k:V→HT→Nat→Prop):Prop:=match args with
 | [.c x,.c (.f (.int .i64 (.ofNat i))),.c y]=>ajg t (.c x) fun l=>oq (Nat.beq i l) (zN t 10 (.c y) fun m _=>oq (Nat.beq m 1) (am9 t n 10 112 (.c x) (.c y) k))
 | _=>False
theorem ai5{H:aj}{t:HT}(h:cY H t){args:List V}{k:V→HT→Nat→Prop}(g:ai4 args t H.length k):∃ v H' q,sX fo args H=aa (aa (v,H'))∧cY H' q∧k v q H'.length:=by
 unfold ai4 at g;split at g
 ·rename_i x i y;obtain⟨F,l,e,E,j⟩:=Gn h g;cases e;obtain⟨s,b⟩:=jB j;have s:=avd s;subst s;clear g j;obtain⟨m,ys,B,u⟩:=yq h b;clear b;obtain⟨d,b⟩:=jB u;have d:=avd d;subst d;obtain⟨v,H',q,z,d,A⟩:=FN h b;exact⟨v,H',q,by simp [sX,P1,E,B,z],d,A⟩
 ·exact g.elim
end
section
def zH(c1 c2:cR):Prop:=∀ c args H r,c1 c args H=aa r→c2 c args H=aa r
section
variable{c1 c2:cR}(hc:zH c1 c2)
include hc
theorem xK{c:Nat}{args:List V}{H:aj}{r:V × aj}(h:et c1 c args H=aa r):et c2 c args H=aa r:=by
 unfold et at h ⊢;split at h
 ·simp at h
 ·rename_i g b;split at h
  ·simp at h
  ·rename_i j d h0;simp only [hc _ _ _ _ h0];exact h
theorem Av{b:Bool}{c:Nat}{args:List V}{H:aj}{r:V × aj}(h:gT c1 b c args H=aa r):gT c2 b c args H=aa r:=by
 unfold gT at h ⊢;split at h
 ·rename_i d;simp only [d,if_true];exact hc _ _ _ _ h
 ·rename_i d;simp only [d];exact xK hc h
theorem zC{s:St}{op:cX}{r:V × St}(h:eQ c1 s op=aa r):eQ c2 s op=aa r:=by
 cases op with
 | call f args b=>
  simp only [eQ,at0]at h ⊢;obtain⟨a,d,rfl⟩:=h;exact⟨a,Av hc d,rfl⟩
 | cm x args b=>
  simp only [eQ]at h ⊢;split at h
  ·simp only [at0]at h ⊢;obtain⟨a,d,rfl⟩:=h;exact⟨a,hc _ _ _ _ d,rfl⟩
  ·simp at h
 | _=>exact h
theorem xj{s s':St}{o:aP}(h:fG c1 s o=aa s'):fG c2 s o=aa s':=by
 unfold fG at h ⊢;cases g:wanted s.aB o.g with
 | none=>simp [g]at h
 | some b=>
  cases b with
  | false=>simpa [g]using h
  | true=>
   simp only [g]at h ⊢;cases d:eQ c1 s o.op with
   | none=>simp [d]at h
   | some x=>
    obtain⟨v,j⟩:=x;rw [zC hc d];rw [d]at h;exact h
theorem dJ:∀(os:List aP) (s:St) {s':St},fB c1 os s=aa s'→fB c2 os s=aa s'
 | [],s,s',h=>h
 | o::os,s,s',h=>by
  simp only [fB]at h ⊢;split at h
  ·rename_i d b;simp only [xj hc b];exact dJ os d h
  ·simp at h
theorem qJ:∀(os:List aP) (s:St) {ss:List St},dV c1 os s=aa ss→dV c2 os s=aa ss
 | [],s,ss,h=>h
 | o::os,s,ss,h=>by
  simp only [dV]at h ⊢;split at h
  ·rename_i g b;simp only [xj hc b];split at h
   ·rename_i j d;simp only [qJ os g d];exact h
   ·simp at h
  ·simp at h
theorem AR{ops:List aP}{iA:List (Nat × Nat)}{s s':St}(h:gd c1 ops iA s=aa s'):gd c2 ops iA s=aa s':=by
 unfold gd at h ⊢;split at h
 ·exact dJ hc _ _ h
 ·split at h
  ·rename_i ss b;simp only [qJ hc _ _ b];exact h
  ·simp at h
theorem qC{fn:Nat}:∀(n x:Nat) (ro:Option Nat) (j:List cZ) (s:St) {r:Option aE × St},n≤x →
  run c1 fn n ro j s=aa r→run c2 fn x ro j s=aa r
 | 0,_,_,_,_,_,_,h=>by simp [run]at h
 | n+1,0,_,_,_,_,E,_=>by omega
 | n+1,x+1,ro,j,s,r,E,h=>by
  have m:=fun ro j s r h=>qC (fn:=fn) n x ro j s (r:=r) (by omega) h
  match j,h with
  | [],h=>exact h| .inBlock _::k,h=>exact m _ _ _ _ h| .inLoop c::k,h=>exact m _ _ _ _ h
  | .iY b::k,h=>
   simp only [run]at h ⊢;split at h
   ·rename_i f tmps ps as bd st pending d z
    try simp only [z]
    split at h
    ·simp at h
    ·rename_i A
     try simp only [A,if_false]
     split at h
     ·exact m _ _ _ _ h
     ·exact m _ _ _ _ h
     ·exact m _ _ _ _ h
     ·simp at h
   ·simp at h
  | .mJ::k,h=>
   simp only [run]at h ⊢;split at h
   ·simp at h
   ·rename_i b;split at h
    ·rename_i z
     try simp only [z]
     exact m _ _ _ _ h
    ·simp at h
  | .code .skip::k,h=>exact m _ _ _ _ h| .inScope _::k,h=>exact m _ _ _ _ h| .code (.label _)::k,h=>exact m _ _ _ _ h| .code (.scope a)::k,h=>exact m _ _ _ _ h
  | .code (.goto l)::k,h=>
   simp only [run]at h ⊢;split at h
   ·rename_i u;(try simp only [u]);exact m _ _ _ _ h
   ·simp at h
  | .code .bad::_,h=>simp [run]at h| .code .ret::_,h=>exact h
  | .code (.exit id)::k,h=>
   simp only [run]at h ⊢;split at h
   ·rename_i u;(try simp only [u]);exact m _ _ _ _ h
   ·rename_i u;(try simp only [u]);exact h
  | .code (.seq a b)::k,h=>exact m _ _ _ _ h| .code (.block id a)::k,h=>exact m _ _ _ _ h| .code (.loop a)::k,h=>exact m _ _ _ _ h
  | .code (.cond c a b)::k,h=>
   simp only [run]at h ⊢;split at h
   ·rename_i v F;(try simp only [F]);exact m _ _ _ _ h
   ·simp at h
  | .code (.region ops iA)::k,h=>
   simp only [run]at h ⊢;split at h
   ·simp at h
   ·rename_i q
    try simp only [q]
    split at h
    ·rename_i I y
     try simp only [AR hc y]
     exact m _ _ _ _ h
    ·simp at h
  | .code (.fL f ps as bd)::k,h=>
   simp only [run]at h ⊢;split at h
   ·simp at h
   ·rename_i q
    try simp only [q]
    split at h
    ·rename_i g args B
     try simp only [B]
     split at h
     ·rename_i v H y
      try simp only [hc _ _ _ _ y]
      exact m _ _ _ _ h
     ·simp at h
    ·simp at h
theorem jn:∀(ds:List dK) (H:aj) {H':aj},dH c1 ds H=aa H'→dH c2 ds H=aa H'
 | [],H,H',h=>h
 | .gX b::ds,H,H',h=>by
  simp only [dH]at h ⊢;split at h
  ·rename_i l;exact jn ds _ h
  ·simp at h
 | .fn f args::ds,H,H',h=>by
  simp only [dH]at h ⊢;split at h
  ·simp at h
  rename_i d;rw [aY d];split at h
  ·rename_i v j g
   try simp only [hc _ _ _ _ g]
   exact jn ds _ h
  ·simp at h
end
variable{tab:Nat→Option aL}{oc:Nat→List V→aj→Option (Option (V × aj))}
theorem vd{m l:Nat}(v:m≤l):∀(d g:Nat),d≤g→zH (ey tab oc m d) (ey tab oc l g)
 | 0,_,_,_,_,_,_,h=>by simp [ey]at h
 | d+1,0,E,_,_,_,_,_=>by omega
 | d+1,g+1,E,c,args,H,r,h=>by
  have z:zH (ey tab oc m d) (ey tab oc l g):=vd v d g (by omega)
  match c,h with
  | .fn f,h=>
   simp only [ey]at h ⊢;split at h
   ·rename_i r' x;(try simp only [x]);exact h
   ·rename_i x
    try simp only [x]
    split at h
    ·simp at h
    ·rename_i af q
     try simp only [q]
     split at h
     ·rename_i u
      try simp only [u,if_true]
      split at h
      ·rename_i j s y
       try simp only [qC z m l _ _ _ v y]
       split at h
       ·rename_i F A
        try simp only [jn z _ _ A]
        exact h
       ·simp at h
      ·simp at h
     ·simp at h
  | .yield b,h=>
   simp only [ey]at h ⊢;split at h
   ·rename_i f tmps ps as bd I J K B
    try simp only [B]
    split at h
    ·rename_i u
     try simp only [u,if_true]
     split at h
     ·rename_i j s y
      try simp only [qC z m l _ _ _ v y]
      exact h
     ·simp at h
    ·simp at h
   ·simp at h
end
structure TB where
 get:Nat→Option aL
 sX:Nat→List V→aj→Option (Option (V × aj))
 ok:∀ f a,get f=aa a→∀ args H,sX f args H=ab
instance:CoeFun TB fun _=>Nat→Option aL:=⟨TB.get⟩
section
variable(tab:TB)
abbrev CF(m d:Nat):cR:=ey tab.get tab.sX m d
def Ev(c:Callee)(args:List V)(H:aj)(r:V)(H':aj):Prop:=∃ m d,CF tab m d c args H=aa (r,H')
def bo(f:Nat)(args:List V)(r:V):Prop:=∃ b H',Ev tab (.fn f) args [] b H'∧iZ deep H' b=aa r
def WP(fn:Nat)(ro:Option Nat)(b:List cZ)(s:St)(Q:Option aE→St→Prop):Prop:=
 ∃ n m d j s',run (CF tab m d) fn n ro b s=aa (j,s')∧Q j s'
def jP(s:St)(op:cX)(K:V→St→Prop):Prop:=
 match op with
 | .call f args h=>
  if h then ∃ r H',Ev tab (.fn f) (dy s.aB args) s.heap r H'∧K r { s with heap:=H' }
  else ∃ b r,bj (cD deep s.heap) (dy s.aB args)=aa b∧bo tab f b r∧K r { s with heap:=(dy s.aB args).foldl (mkV deep) s.heap }
 | .cm x args _=>∃ c as r H',bZ (x.ev s.aB) (dy s.aB args)=aa (c,as)∧Ev tab c as s.heap r H'∧K r { s with heap:=H' }
 | .recover=>K (.c (.f .mF)) s| .defer x args=>∃ f as,bZ (x.ev s.aB) (dy s.aB args)=aa (.fn f,as)∧K .top { s with defs:=.fn f as::s.defs }
 | op=>∃ v H',bu s.aB s.heap op=aa (v,H')∧K v { s with heap:=H' }
def xq:List aP→St→(St→Prop)→Prop
 | [],s,K=>K s
 | o::os,s,K=>match wanted s.aB o.g with
  | some ae=>jP tab s o.op fun v s'=>xq os { s' with aB:=jJ s'.aB o.dst v } K
  | some ag=>xq os { s with aB:=jJ s.aB o.dst (.t []) } K
  | none=>False
variable{tab}
variable{c:Callee}{args:List V}{H H':aj}{r:V}
theorem jY{m g d b:Nat}(l:m≤g)(j:d≤b):zH (CF tab m d) (CF tab g b):=vd l d b j
theorem Ev.det{q:V}{b:aj}(h1:Ev tab c args H r H')(h2:Ev tab c args H q b):r=q∧H'=b:=by
 obtain⟨m,d,h1⟩:=h1;obtain⟨l,g,h2⟩:=h2;have s:=jY (tab:=tab) (auG m l) (auG d g) _ _ _ _ h1;have j:=jY (tab:=tab) (aut m l) (aut d g) _ _ _ _ h2;rw [s]at j;simpa using j
theorem bo.det{f:Nat}{d:V}(h1:bo tab f args r)(h2:bo tab f args d):r=d:=by
 obtain⟨a,l,g,h1⟩:=h1;obtain⟨b,m,j,h2⟩:=h2;obtain⟨rfl,rfl⟩:=g.det j;rw [h1]at h2;simpa using h2
theorem O4{s:St}{op:cX}{K:V→St→Prop}(h:jP tab s op K):∃ m d v s',eQ (CF tab m d) s op=aa (v,s')∧K v s':=by
 cases op with
 | call f args b=>
  simp only [jP]at h;split at h
  ·rename_i l;obtain⟨r,H',⟨m,d,g⟩,j⟩:=h;exact⟨m,d,r,_,by simp [eQ,gT,l,g],j⟩
  ·rename_i l;obtain⟨y,r,h0,⟨z,u,⟨m,d,g⟩,j⟩,q⟩:=h;exact⟨m,d,r,_,by simp [eQ,gT,l,et,h0,g,j],q⟩
 | cm x args b=>
  obtain⟨c,as,r,H',h0,⟨m,d,g⟩,j⟩:=h;exact⟨m,d,r,_,by simp [eQ,h0,g],j⟩
 | recover=>exact⟨0,0,_,_,rfl,h⟩
 | «defer» x args=>
  obtain⟨f,as,h0,g⟩:=h;exact⟨0,0,.top,_,by simp [eQ,h0],g⟩
 | _=>
  obtain⟨v,H',h0,g⟩:=h;exact⟨0,0,v,_,by simp [eQ,h0],g⟩
theorem jq:∀(os:List aP) (s:St) {K:St→Prop},xq tab os s K→∃ m d s',fB (CF tab m d) os s=aa s'∧K s'
 | [],s,K,h=>⟨0,0,s,rfl,h⟩
 | o::os,s,K,h=>by
  simp only [xq]at h;split at h
  ·rename_i q;obtain⟨m,d,v,A,y,z⟩:=O4 h;obtain⟨g,b,s',j,l⟩:=jq os _ z;refine⟨max m g,max d b,s',?_,l⟩;have u:=zC (jY (tab:=tab) (auG m g) (auG d b)) y;have x:=dJ (jY (tab:=tab) (aut m g) (aut d b)) os _ j;simp only [fB,fG,q,u,x]
  ·rename_i q;obtain⟨g,b,s',j,l⟩:=jq os _ h;exact⟨g,b,s',by simp only [fB,fG,q,j],l⟩
  ·exact h.elim
variable{fn:Nat}{ro:Option Nat}{k:List cZ}{s:St}{Q:Option aE→St→Prop}{a b:aE}
theorem j3{g:List cZ}{b:List cZ}{s':St}(h:WP tab fn ro b s' Q)
  (u:∀ m d n,run (CF tab m d) fn (n+1) ro g s=run (CF tab m d) fn n ro b s'):WP tab fn ro g s Q:=by
 obtain⟨n,m,d,j,v,l,q⟩:=h;exact⟨n+1,m,d,j,v,by rw [u,l],q⟩
theorem cJ(h:Q ab s):WP tab fn ro [] s Q:=⟨1,0,0,ab,s,rfl,h⟩
theorem az{i:Nat}(h:WP tab fn ro k s Q):WP tab fn ro (.inBlock i::k) s Q:=j3 h fun _ _ _=>rfl
theorem si(h:WP tab fn ro (.code a::.inLoop a::k) s Q):WP tab fn ro (.inLoop a::k) s Q:=j3 h fun _ _ _=>rfl
theorem aO(h:WP tab fn ro k s Q):WP tab fn ro (.code .skip::k) s Q:=j3 h fun _ _ _=>rfl
theorem acb{l:Nat}(h:WP tab fn ro k s Q):WP tab fn ro (.code (.label l)::k) s Q:=j3 h fun _ _ _=>rfl
theorem B_(h:WP tab fn ro (.code a::.inScope a::k) s Q):WP tab fn ro (.code (.scope a)::k) s Q:=j3 h fun _ _ _=>rfl
theorem al(h:WP tab fn ro (.code a::.code b::k) s Q):WP tab fn ro (.code (.seq a b)::k) s Q:=j3 h fun _ _ _=>rfl
theorem aF{i:Nat}(h:WP tab fn ro (.code a::.inBlock i::k) s Q):WP tab fn ro (.code (.block i a)::k) s Q:=j3 h fun _ _ _=>rfl
theorem aC(h:Q (aa .ret) s):WP tab fn ro (.code .ret::k) s Q:=⟨1,0,0,aa .ret,s,rfl,h⟩
theorem bJ{i:Nat}{k':List cZ}(b:exitTo i k=aa k')(h:WP tab fn ro k' s Q):WP tab fn ro (.code (.exit i)::k) s Q:=
 j3 h fun _ _ _=>by simp only [run,b]
theorem Gk{c:Arg}{v:Bool}(hc:c.ev s.aB=.c (.f (.bool v)))(h:WP tab fn ro (.code (if v then a else b)::k) s Q) :
  WP tab fn ro (.code (.cond c a b)::k) s Q:=j3 h fun _ _ _=>by simp only [run,hc]
theorem aq{c:Arg}(hc:c.ev s.aB=.c (.f (.bool ae)))(h:WP tab fn ro (.code a::k) s Q) :
  WP tab fn ro (.code (.cond c a b)::k) s Q:=Gk hc h
theorem aD{c:Arg}(hc:c.ev s.aB=.c (.f (.bool ag)))(h:WP tab fn ro (.code b::k) s Q) :
  WP tab fn ro (.code (.cond c a b)::k) s Q:=Gk hc h
theorem wM{m l d j n g:Nat}{b:List cZ}{x:Option aE × St}(u:m≤l)(q:d≤j)(v:n≤g)
  (h:run (CF tab m d) fn n ro b s=aa x):run (CF tab l j) fn g ro b s=aa x:=
 qC (jY u q) n g ro b s v h
theorem an{ops:List aP}(g:ro=ab∨ops.all (·.op.dS)=ae)(h:xq tab ops s fun s'=>WP tab fn ro k s' Q) :
  WP tab fn ro (.code (.region ops [])::k) s Q:=by
 obtain⟨m,d,s',x,n,q,b,j,A,y,z⟩:=jq ops s h;refine⟨n+1,max m q,max d b,j,A,?_,z⟩;have u:=dJ (jY (tab:=tab) (auG m q) (auG d b)) ops _ x;have v:=wM (aut m q) (aut d b) (at3 n) y;have l:(ro.isSome&&!ops.all (·.op.dS))=ag:=by
  rcases g with rfl | g
  ·rfl
  ·rw [g];simp
 simp only [run,l,gd,u,v];simp
theorem cH(I:Nat→St→Prop)(n:Nat)(h0:I n s)
  (step:∀ n s,I n s→(∀ b s',b<n→I b s'→WP tab fn ro (.inLoop a::k) s' Q)→WP tab fn ro (.code a::.inLoop a::k) s Q) :
  WP tab fn ro (.code (.loop a)::k) s Q:=by
 have key:∀ n s,I n s→WP tab fn ro (.code a::.inLoop a::k) s Q:=by
  intro n;induction n using Nat.strongRecOn with
  | _ n l=>
   intro s j;exact step n s j fun b s' g d=>si (l b g s' d)
 exact j3 (key n s h0) fun _ _ _=>rfl
def Fin(tab:TB)(af:aL)(r:V)(H':aj)(s:St):Prop:=
 ∃ m d b,dH (CF tab m d) s.defs s.heap=aa b∧results s.aB b af.results=aa r∧b=H'
theorem sM{f:Nat}{af:aL}(z:tab f=aa af)(J:args.length=af.ps.length)
  (h:WP tab f ab [.code af.body] ⟨cK af.ps args .e,[],H⟩ fun _ s=>Fin tab af r H' s):Ev tab (.fn f) args H r H':=by
 obtain⟨n,m,d,j,s,B,A,v,L,F,I,rfl⟩:=h;obtain⟨M,l,q,u⟩:∃ M,m≤M∧A≤M∧n≤M:=⟨max (max m A) n,by omega,by omega,by omega⟩
 obtain⟨E,b,g⟩:∃ E,d≤E∧v≤E:=⟨max d v,by omega,by omega⟩
 refine⟨M,E+1,?_⟩;have x:run (CF tab M E) f M ab [.code af.body] ⟨cK af.ps args .e,[],H⟩=aa (j,s):=wM l b u B;have y:=jn (jY (tab:=tab) q g) _ _ F;have K:=tab.ok _ _ z args H;simp only [CF]at x y ⊢;simp only [ey,K,z,J,if_true,x,y,I,auP]
def tf(b:List gG)(r:V)(s:St):Prop:=s.defs=[]∧∃ d,results s.aB s.heap b=aa d∧iZ deep s.heap d=aa r
theorem bV{f:Nat}{ps:List P}{b:List gG}{body:aE}(y:tab f=aa ⟨ps,b,body⟩)(x:args.length=ps.length)
  (h:∀ Q:Option aE→St→Prop,(∀ j s,tf b r s→Q j s)→WP tab f ab [.code body] ⟨cK ps args .e,[],[]⟩ Q):bo tab f args r:=by
 have g:=h (fun _ s=>tf b r s) fun _ _ h=>h;obtain⟨n,m,d,j,s,l,v,z,q,u⟩:=g;exact⟨z,s.heap,sM y x ⟨n,m,d,j,s,l,0,0,s.heap,by rw [v];rfl,q,rfl⟩,u⟩
end
theorem ai{tab:TB}{fn:Nat}{ops:List aP}{b:aE}{k:List cZ}{s:St}{Q:Option aE→St→Prop}(h:xq tab ops s fun s'=>WP tab fn ab (.code b::k) s' Q):WP tab fn ab (.code (.seq (.region ops []) b)::k) s Q:=al (an (.inl rfl) h)
theorem bw{tab:TB}{fn:Nat}{ro:Option Nat}{a:aE}{c:Arg}{k:List cZ}{s:St}{Q:Option aE→St→Prop}(hc:c.ev s.aB=.c (.f (.bool ag)))(h:WP tab fn ro k s Q):WP tab fn ro (.code (.cond c a .skip)::k) s Q:=aD hc (aO h)
section
set_option linter.unusedVariables false
def ale(g:Option (P × Bool))(r:T)(d j:Prop):Prop:=
 Option.rec (motive:=fun _=>Prop) d (fun l=>Prod.rec (motive:=fun _=>Prop) (fun p w=>B4 p r fun v=>match v with
  | .c (.f (.bool b))=>Bool.rec (motive:=fun _=>Prop) (Bool.rec (motive:=fun _=>Prop) d j w) (Bool.rec (motive:=fun _=>Prop) j d w) b
  | .t []=>j
  | _=>False) l) g
theorem adZ{g:Option (P × Bool)}{r:T}{d l:Prop}(h:ale g r d l):(wanted r g=aa ae∧d)∨(wanted r g=aa ag∧l):=by
 cases g with
 | none=>exact .inl ⟨rfl,h⟩
 | some m=>
  obtain⟨p,w⟩:=m;change B4 p r _ at h;rw [nH]at h;simp only [wanted];split at h
  ·rename_i b j;rw [j];cases b<;>cases w
   ·exact .inl ⟨rfl,h⟩
   ·exact .inr ⟨rfl,h⟩
   ·exact .inr ⟨rfl,h⟩
   ·exact .inl ⟨rfl,h⟩
  ·rename_i j;rw [j];exact .inr ⟨rfl,h⟩
  ·exact h.elim
abbrev O3:=T→List dK→HT→Nat→Prop
def adH(o:aP)(call:fC)(r:T)(d:List dK)(t:HT)(n:Nat)(k:O3):Prop:=
 aP.rec (motive:=fun _=>Prop) (fun dst op g=>ale g r (aq2 op call r d t n fun v d t n=>aof dst r v fun r=>k r d t n) (aof dst r (.t []) fun r=>k r d t n)) o
theorem C7{call:cR}{bB:fC}(hc:pw call bB){o:aP}{r:T}{d:List dK}{H:aj}{t:HT}{k:O3}(h:cY H t)(b:adH o bB r d t H.length k) :
  ∃ s' j,fG call ⟨r,d,H⟩ o=aa s'∧cY s'.heap j∧k s'.aB s'.defs j s'.heap.length:=by
 obtain⟨dst,op,g⟩:=o;rcases adZ b with⟨l,b⟩ | ⟨l,b⟩
 ·obtain⟨v,q,H',j,s,u,m⟩:=ajv hc op h b;rw [GA]at m;exact⟨⟨jJ r dst v,q,H'⟩,j,by simp only [fG,l,s],u,m⟩
 ·rw [GA]at b;exact⟨⟨jJ r dst (.t []),d,H⟩,t,by simp only [fG,l],h,b⟩
def aq_(ops:List aP)(call:fC):T→List dK→HT→Nat→O3→Prop:=
 List.rec (motive:=fun _=>T→List dK→HT→Nat→O3→Prop) (fun r d t n k=>k r d t n) (fun o _ b r d t n k=>adH o call r d t n fun r d t n=>b r d t n k) ops
theorem Gw{call:cR}{bB:fC}(hc:pw call bB):∀ {ops:List aP} {r:T} {d:List dK} {H:aj} {t:HT} {k:O3},cY H t→aq_ ops bB r d t H.length k →
  ∃ s' j,fB call ops ⟨r,d,H⟩=aa s'∧cY s'.heap j∧k s'.aB s'.defs j s'.heap.length
 | [],r,d,H,t,k,h,b=>⟨⟨r,d,H⟩,t,rfl,h,b⟩
 | o::ops,r,d,H,t,k,h,b=>by
  obtain⟨g,z,l,m,q⟩:=C7 hc h b;obtain⟨x,y,s,u,v⟩:=Gw hc (r:=g.aB) (d:=g.defs) (H:=g.heap) m q;exact⟨x,y,by simp only [fB,l];exact s,u,v⟩
structure uT where
 r:T
 d:List dK
 t:HT
 n:Nat
def AN(ops:List aP)(call:fC):T→List dK→HT→Nat→(List uT→O3)→Prop:=
 List.rec (motive:=fun _=>T→List dK→HT→Nat→(List uT→O3)→Prop) (fun r d t n k=>k [⟨r,d,t,n⟩] r d t n)
  (fun o _ q r d t n k=>adH o call r d t n fun r' m u s=>q r' m u s fun ss j b l g=>k (⟨r,d,t,n⟩::ss) j b l g) ops
def akS(s:St)(x:uT):Prop:=x.r=s.aB∧x.d=s.defs∧cY s.heap x.t∧x.n=s.heap.length
inductive uU:List St→List uT→Prop
 | nil:uU [] []
 | cons {s:St} {x:uT} {ss:List St} {xs:List uT} (h:akS s x) (hs:uU ss xs):uU (s::ss) (x::xs)
theorem uU.get{ss:List St}{xs:List uT}(h:uU ss xs):∀(i:Nat) (x:uT),xs[i]?=aa x→∃ s,ss[i]?=aa s∧akS s x:=by
 induction h with
 | nil=>intro i x b;simp at b
 | cons h g d=>
  intro i x b;cases i with
  | zero=>simp at b;subst b;exact⟨_,rfl,h⟩| succ i=>simpa using d i x (by simpa using b)
theorem wU{call:cR}{bB:fC}(hc:pw call bB):∀ {ops:List aP} {r:T} {d:List dK} {H:aj} {t:HT} {k:List uT→O3},cY H t→AN ops bB r d t H.length k →
  ∃ ss xs s' l,dV call ops ⟨r,d,H⟩=aa ss∧uU ss xs∧ss.getLast?=aa s'∧cY s'.heap l∧k xs s'.aB s'.defs l s'.heap.length
 | [],r,d,H,t,k,h,b=>⟨[⟨r,d,H⟩],[⟨r,d,t,H.length⟩],⟨r,d,H⟩,t,rfl,.cons ⟨rfl,rfl,h,rfl⟩ .nil,rfl,h,b⟩
 | o::ops,r,d,H,t,k,h,b=>by
  obtain⟨g,B,m,q,s⟩:=C7 hc h b;obtain⟨ss,xs,z,A,u,v,j,x,y⟩:=wU hc (r:=g.aB) (d:=g.defs) (H:=g.heap) q s;refine⟨⟨r,d,H⟩::ss,⟨r,d,t,H.length⟩::xs,z,A,by simp only [dV,m];rw [u],.cons ⟨rfl,rfl,h,rfl⟩ v,?_,x,y⟩;cases ss with
  | nil=>simp at j| cons a as=>simpa using j
def GG(ops:List aP)(xs:List uT)(c:Nat × Nat):Bool:=
 match ops[c.1]?,xs[c.1]?,xs[c.2]? with
 | some o,aa s,aa s'=>match wanted s.r o.g with
  | some ag=>ae
  | _=>match ad2 s.r s.t.get s.n o.op,ad2 s.r s'.t.get s'.n o.op with
   | some (v,_),aa (b,_)=>v.beq b| _,_=>ag
 | _,_,_=>ag
theorem ac_{ops:List aP}{ss:List St}{xs:List uT}(h:uU ss xs){c:Nat × Nat}(hc:GG ops xs c=ae):sameAt ops ss c=ae:=by
 unfold GG at hc;split at hc
 ·rename_i o x N y z A;obtain⟨s,l,m,J,q,u⟩:=h.get _ _ z;obtain⟨s',E,K,L,F,H⟩:=h.get _ _ A;unfold sameAt;rw [y,l,E];simp only;rw [←m];split at hc
  ·rename_i B;rw [B]
  ·split at hc
   ·rename_i v e M I g j;rw [q,u]at g;rw [F,H]at j;have b:=AQ x.r s.heap o.op;rw [g]at b;have d:=AQ x.r s'.heap o.op;rw [j]at d;rw [←b,←d];split
    ·rfl
    ·exact hc
   ·simp at hc
 ·simp at hc
def qv(ops:List aP)(iA:List (Nat × Nat))(call:fC)(r:T)(d:List dK)(t:HT)(n:Nat)(k:O3):Prop:=
 List.rec (motive:=fun _=>Prop) (aq_ ops call r d t n k) (fun _ _ _=>AN ops call r d t n fun xs r d t n=>oq (iA.all (GG ops xs)) (k r d t n)) iA
theorem EU{call:cR}{bB:fC}(hc:pw call bB){ops:List aP}{iA:List (Nat × Nat)}{r:T}{d:List dK}{H:aj}{t:HT}{k:O3}(h:cY H t)(b:qv ops iA bB r d t H.length k) :
  ∃ s' g,gd call ops iA ⟨r,d,H⟩=aa s'∧cY s'.heap g∧k s'.aB s'.defs g s'.heap.length:=by
 cases iA with
 | nil=>exact Gw hc h b
 | cons c cs=>
  have b:AN ops bB r d t H.length (fun xs r d t n=>oq ((c::cs).all (GG ops xs)) (k r d t n)):=b;obtain⟨ss,xs,s',g,l,m,q,s,u⟩:=wU hc h b;obtain⟨j,v⟩:=jB u;refine⟨s',g,?_,s,v⟩;simp only [gd,l];rw [bg,q];rw [aun]at j ⊢;exact fun c hc=>ac_ m (j c hc)
abbrev Go1:=Option Nat→List cZ→O3
abbrev ain:=Option aE→O3
abbrev cF:=fC→Nat→ain→Go1→Option Nat→List cZ→O3
def FO:cF:=fun _ _ _ go ro rest r d t n=>go ro rest r d t n
def aiw(ops:List aP)(iA:List (Nat × Nat)):cF:=fun call _ _ go ro rest r d t n=>
 Option.rec (motive:=fun _=>Prop) (qv ops iA call r d t n fun r d t n=>go ro rest r d t n)
  (fun _=>oq (ops.all (·.op.dS)) (qv ops iA call r d t n fun r d t n=>go ro rest r d t n)) ro
def asD(a b:aE)(_ _:cF):cF:=fun _ _ _ go ro rest r d t n=>go ro (.code a::.code b::rest) r d t n
def abo(c:Arg)(a b:aE)(_ _:cF):cF:=fun _ _ _ go ro rest r d t n=>pJ c r fun v=>match v with
 | .c (.f (.bool v))=>Bool.rec (motive:=fun _=>Prop) (go ro (.code b::rest) r d t n) (go ro (.code a::rest) r d t n) v
 | _=>False
def ang(id:Nat)(a:aE)(_:cF):cF:=fun _ _ _ go ro rest r d t n=>go ro (.code a::.inBlock id::rest) r d t n
def aqr(a:aE)(_:cF):cF:=fun _ _ _ go ro rest r d t n=>go ro (.code a::.inLoop a::rest) r d t n
def zR(f:Arg)(ps:List P)(as bd:aE)(_ _:cF):cF:=fun call fn _ go ro rest r d t n=>
 Option.rec (motive:=fun _=>Prop)
  (oA (.eZ ae) t n fun t b=>oA (.lp fn r ps as bd .ready ab n) t b fun t m=>pJ f r fun x=>
   qj (bZ x [.c (.yl b)]) fun j=>Prod.rec (motive:=fun _=>Prop) (fun c q=>Callee.rec (motive:=fun _=>Prop)
    (fun g=>call (.fn g) q t m fun _ t l=>go ab (.iY b::rest) r (.gX n::d) t l) (fun _=>False) c) j)
  (fun _=>False) ro
def abp(id:Nat):cF:=fun _ _ b go ro rest r d t n=>
 Option.rec (motive:=fun _=>Prop) (Option.rec (motive:=fun _=>Prop) False (fun _=>b (aa (.exit id)) r d t n) ro) (fun k=>go ro k r d t n) (exitTo id rest)
def asC:cF:=fun _ _ b _ _ _ r d t n=>b (aa .ret) r d t n
def asB:cF:=fun _ _ _ _ _ _ _ _ _ _=>False
def ani(a:aE)(_:cF):cF:=fun _ _ _ go ro rest r d t n=>go ro (.code a::.inScope a::rest) r d t n
def anh(_:Nat):cF:=FO
def aqq(l:Nat):cF:=fun _ _ _ go ro rest r d t n=>qj (gotoIn l rest) fun k=>go ro k r d t n
def BL(c:aE):cF:=aE.rec (motive:=fun _=>cF) FO aiw asD abo ang aqr zR abp asC asB ani anh aqq c
def anC(_:Nat):cF:=FO
def aqJ(c:aE):cF:=fun _ _ _ go ro rest r d t n=>go ro (.code c::.inLoop c::rest) r d t n
def D9(b:Nat):cF:=fun _ _ _ go ro rest r d t n=>ib b t fun bq=>match bq with
 | .lp f tmps ps as bd st pending g=>oq (match st with | .busy=>ag | _=>ae) (gL (.lp f tmps ps as bd .exhausted pending g) t b fun t=>match pending with
  | none=>go ro rest r d t n| some .ret=>go ro (.code .ret::rest) r d t n| some (.exit id)=>go ro (.code (.exit id)::rest) r d t n
  | some _=>False)
 | _=>False
def ak2:cF:=fun _ _ _ go ro rest r d t n=>Option.rec (motive:=fun _=>Prop) False (fun b=>ib b t fun bq=>match bq with
 | .lp f tmps ps as bd .ready pending g=>gL (.lp f tmps ps as bd .busy pending g) t b fun t=>go ro rest r d t n
 | _=>False) ro
def anD(_:aE):cF:=FO
def ak5(x:cZ):cF:=cZ.rec (motive:=fun _=>cF) BL anC aqJ D9 ak2 anD x
def runK(call:fC)(fn:Nat)(b:ain)(m:Nat):Go1:=
 Nat.rec (motive:=fun _=>Go1) (fun _ _ _ _ _ _=>False)
  (fun _ j ro g r d t n=>List.rec (motive:=fun _=>Prop) (b ab r d t n) (fun x rest _=>ak5 x call fn b j ro rest r d t n) g) m
def ap7(call:cR)(fn m:Nat)(ro:Option Nat)(g:List cZ)(s:St)(d:ain):Prop:=
 ∃ b s' j,run call fn m ro g s=aa (b,s')∧cY s'.heap j∧d b s'.aB s'.defs j s'.heap.length
theorem GD{call:cR}{bB:fC}(hc:pw call bB)(fn:Nat)(j:ain):∀(m:Nat) (ro:Option Nat) (s:List cZ) (r:T) (d:List dK) (H:aj) (t:HT),
  cY H t→runK bB fn j m ro s r d t H.length→ap7 call fn m ro s ⟨r,d,H⟩ j:=by
 intro m;induction m with
 | zero=>intro ro s r d H t h q;exact q.elim
 | succ m ih=>
  intro ro s r d H t h q;have go:∀ {y} {s':St} {E:HT},run call fn (m+1) ro s ⟨r,d,H⟩=run call fn m ro y s'→cY s'.heap E→runK bB fn j m ro y s'.aB s'.defs E s'.heap.length→ap7 call fn (m+1) ro s ⟨r,d,H⟩ j:=by
   intro y s' E u z B;obtain⟨L,N,O,W,X,Y⟩:=ih ro y s'.aB s'.defs s'.heap E z B;exact⟨L,N,O,by rw [u];exact W,X,Y⟩
  cases s with
  | nil=>exact⟨ab,⟨r,d,H⟩,t,rfl,h,q⟩
  | cons x rest=>
   have q:ak5 x bB fn j (runK bB fn j m) ro rest r d t H.length:=q;cases x with
   | inBlock id=>exact go (s':=⟨r,d,H⟩) (by simp only [run]) h q
   | inLoop c=>exact go (s':=⟨r,d,H⟩) (by simp only [run]) h q
   | inScope c=>exact go (s':=⟨r,d,H⟩) (by simp only [run]) h q
   | iY b=>
    have q:D9 b bB fn j (runK bB fn j m) ro rest r d t H.length:=q;unfold D9 at q;obtain⟨bq,u,z⟩:=dN q;rw [h]at u;have u:H[b]?=aa bq:=u;split at z
    ·rename_i f tmps ps as bd st pending F _;obtain⟨B,z⟩:=jB z;obtain⟨E,I,A⟩:=ed h z;have J:st≠.busy:=by rintro rfl;simp at B
     have M:H.length=(H.set b (.lp f tmps ps as bd .exhausted pending F)).length:=by simp
     rw [M]at A;split at A
     ·exact go (s':=⟨r,d,H.set b (.lp f tmps ps as bd .exhausted ab F)⟩) (by simp only [run,u,aY J]) I A
     ·exact go (s':=⟨r,d,H.set b (.lp f tmps ps as bd .exhausted (aa .ret) F)⟩) (by simp only [run,u,aY J]) I A
     ·exact go (s':=⟨r,d,H.set b (.lp f tmps ps as bd .exhausted (aa (.exit _)) F)⟩) (by simp only [run,u,aY J]) I A
     ·exact A.elim
    ·exact z.elim
   | mJ=>
    have q:ak2 bB fn j (runK bB fn j m) ro rest r d t H.length:=q;cases ro with
    | none=>exact q.elim
    | some b=>
     obtain⟨bq,u,z⟩:=dN q;rw [h]at u;have u:H[b]?=aa bq:=u;split at z
     ·rename_i f tmps ps as bd pending F _;obtain⟨E,I,A⟩:=ed h z;have M:H.length=(H.set b (.lp f tmps ps as bd .busy pending F)).length:=by simp
      rw [M]at A;exact go (s':=⟨r,d,H.set b (.lp f tmps ps as bd .busy pending F)⟩) (by simp only [run,u]) I A
     ·exact z.elim
   | code c=>
    cases c with
    | skip=>exact go (s':=⟨r,d,H⟩) (by simp only [run]) h q
    | label l=>exact go (s':=⟨r,d,H⟩) (by simp only [run]) h q
    | scope a=>exact go (s':=⟨r,d,H⟩) (by simp only [run]) h q
    | goto l=>
     obtain⟨k',K,q⟩:=jk (show qj (gotoIn l rest) (fun k'=>runK bB fn j m ro k' r d t H.length) from q);exact go (s':=⟨r,d,H⟩) (by simp only [run,K]) h q
    | bad=>exact q.elim| ret=>exact⟨aa .ret,⟨r,d,H⟩,t,rfl,h,q⟩| seq a b=>exact go (s':=⟨r,d,H⟩) (by simp only [run]) h q
    | block id a=>exact go (s':=⟨r,d,H⟩) (by simp only [run]) h q
    | loop a=>exact go (s':=⟨r,d,H⟩) (by simp only [run]) h q
    | exit id=>
     have q:abp id bB fn j (runK bB fn j m) ro rest r d t H.length:=q;unfold abp at q;cases K:exitTo id rest with
     | some k'=>
      rw [K]at q;exact go (s':=⟨r,d,H⟩) (by simp only [run,K]) h q
     | none=>
      rw [K]at q;cases ro with
      | none=>exact q.elim| some b=>exact⟨aa (.exit id),⟨r,d,H⟩,t,by simp only [run,K,Option.isSome_some,if_true],h,q⟩
    | cond c a b=>
     have q:abo c a b (BL a) (BL b) bB fn j (runK bB fn j m) ro rest r d t H.length:=q;unfold abo at q;rw [du]at q;split at q
     ·rename_i v U;cases v with
      | true=>exact go (s':=⟨r,d,H⟩) (by simp only [run,U,if_true]) h q
      | false=>exact go (s':=⟨r,d,H⟩) (by simp only [run,U,aub,if_false]) h q
     ·exact q.elim
    | region ops iA=>
     have key:(ro.isSome&&!ops.all (·.op.dS))=ag∧qv ops iA bB r d t H.length (fun r d t n=>runK bB fn j m ro rest r d t n):=by
      cases ro with
      | none=>exact⟨rfl,q⟩
      | some b=>
       obtain⟨u,z⟩:=jB (show oq (ops.all (·.op.dS)) (qv ops iA bB r d t H.length (fun r d t n=>runK bB fn j m (aa b) rest r d t n)) from q);exact⟨by rw [u];rfl,z⟩
     obtain⟨s',E,u,z,B⟩:=EU hc h key.2;exact go (s':=s') (by simp only [run,key.1,aub,if_false,u]) z B
    | fL f ps as bd=>
     have q:zR f ps as bd (BL as) (BL bd) bB fn j (runK bB fn j m) ro rest r d t H.length:=q;cases ro with
     | some b=>exact q.elim
     | none=>
      unfold zR at q;obtain⟨t1,u,q⟩:=iO h q;obtain⟨t2,z,q⟩:=iO u q;rw [du]at q;obtain⟨⟨c,vs⟩,B,q⟩:=jk q;have Q:(H++[bz.eZ ae]).length=H.length+1:=by simp
      have S:H++[bz.eZ ae]++[bz.lp fn r ps as bd .ready ab H.length]=H++[.eZ ae,.lp fn r ps as bd .ready ab H.length]:=by simp
      rw [Q]at B;rw [S]at z;cases c with
      | yield b=>exact q.elim
      | fn g=>
       have q:bB (.fn g) vs t2 (H++[bz.eZ ae]++[bz.lp fn r ps as bd .ready ab H.length]).length (fun _ t n'=>runK bB fn j m ab (.iY (H++[bz.eZ ae]).length::rest) r (.gX H.length::d) t n'):=q;rw [S,Q]at q;obtain⟨v,H',E,I,A,Z⟩:=hc _ _ _ _ _ z q;exact go (s':=⟨r,.gX H.length::d,H'⟩) (by simp only [run,Option.isSome_none,aub,if_false,B,I]) A Z
def F1(call:fC)(ds:List dK):HT→Nat→(HT→Nat→Prop)→Prop:=
 List.rec (motive:=fun _=>HT→Nat→(HT→Nat→Prop)→Prop) (fun t n k=>k t n)
  (fun x _ d t n k=>dK.rec (motive:=fun _=>Prop)
   (fun b=>ib b t fun bq=>match bq with
    | .eZ ae=>gL (.eZ ag) t b fun t=>d t n k
    | _=>False)
   (fun f args=>Bool.rec (motive:=fun _=>Prop) (call (.fn f) args t n fun _ t n=>d t n k) False (Nat.beq f fo)) x) ds
theorem vm{call:cR}{bB:fC}(hc:pw call bB):∀ {ds:List dK} {H:aj} {t:HT} {k:HT→Nat→Prop},cY H t→F1 bB ds t H.length k→∃ H' j,dH call ds H=aa H'∧cY H' j∧k j H'.length
 | [],H,t,k,h,d=>⟨H,t,rfl,h,d⟩
 | .gX b::ds,H,t,k,h,d=>by
  obtain⟨bq,g,l⟩:=dN d;rw [h]at g;have g:H[b]?=aa bq:=g;split at l
  ·obtain⟨z,q,m⟩:=ed h l;have A:H.length=(H.set b (.eZ ag)).length:=by simp
   have m:F1 bB ds z H.length k:=m;rw [A]at m;obtain⟨H',j,s,u,x⟩:=vm hc q m;exact⟨H',j,by simp only [dH,g];exact s,u,x⟩
  ·exact l.elim
 | .fn f args::ds,H,t,k,h,d=>by
  have d:Bool.rec (motive:=fun _=>Prop) (bB (.fn f) args t H.length fun _ t n=>F1 bB ds t n k) False (Nat.beq f fo):=d;cases y:Nat.beq f fo with
  | true=>rw [y]at d;exact d.elim
  | false=>
   rw [y]at d;obtain⟨v,B,z,g,l,q⟩:=hc _ _ H t _ h d;obtain⟨H',j,s,u,x⟩:=vm hc (ds:=ds) l q;exact⟨H',j,by simp only [dH,aY (Nat.ne_of_beq_eq_false y),g];exact s,u,x⟩
def arc(r:T)(t:HT)(a:gG)(k:V→Prop):Prop:=gG.rec (motive:=fun _=>Prop)
 (fun p=>B4 p r fun v=>match v with
  | .t _=>False
  | v=>k v)
 (fun p m=>B4 p r fun v=>ldK t m v k) a
theorem ajD{H:aj}{t:HT}(h:cY H t){r:T}(a:gG)(k:V→Prop)(b:arc r t a k):∃ v,cN r H a=aa v∧k v:=by
 cases a with
 | tmp p=>
  change B4 p r _ at b;rw [nH]at b;simp only [cN];cases d:r.get p with
  | t g=>rw [d]at b;exact b.elim| _=>rw [d]at b;exact⟨_,rfl,b⟩
 | cell p m=>
  change B4 p r _ at b;rw [nH]at b;exact acf h b
def CM(r:T)(t:HT)(b:List gG)(k:V→Prop):Prop:=zY (arc r t) b fun vs=>match vs with
 | [v]=>k v| vs=>k (.t vs)
theorem CN{H:aj}{t:HT}(h:cY H t){r:T}{g:List gG}{k:V→Prop}(m:CM r t g k):∃ v,Km.results r H g=aa v∧k v:=by
 obtain⟨j,l,d⟩:=je (ajD h) m;unfold Km.results;rw [l];split at d
 ·exact⟨_,rfl,d⟩
 ·rename_i b;refine⟨.t j,?_,d⟩
  match j,b with
  | [v],b=>exact absurd rfl (b v)| [],_=>rfl| _::_::_,_=>rfl
def fnK(tab:TB)(m:Nat)(call:fC)(f:Nat)(args:List V)(t:HT)(n:Nat)(k:V→HT→Nat→Prop):Prop:=
 qj (tab.get f) fun af=>aL.rec (motive:=fun _=>Prop) (fun ps b body=>iH args.length ps.length (uG ps args .e fun r=>
  runK call f (fun _ r d t n=>F1 call d t n fun t n=>CM r t b fun v=>k v t n) m ab [.code body] r [] t n)) af
def ad4(m:Nat)(call:fC)(b:Nat)(args:List V)(t:HT)(n:Nat)(k:V→HT→Nat→Prop):Prop:=
 ib b t fun bq=>match bq with
  | .lp f tmps ps as bd _ _ _=>iH args.length ps.length (uG ps args tmps fun r=>
    runK call f (fun q _ d t n=>oq d.isEmpty (ib b t fun bq=>match bq with
     | .lp v g s as' l _ _ u=>match q with
      | none=>gL (.lp v g s as' l .ready ab u) t b fun t=>k (.c (.f (.bool ae))) t n
      | some j=>gL (.lp v g s as' l .done (aa j) u) t b fun t=>k (.c (.f (.bool ag))) t n
     | _=>False)) m (aa b) [.code as,.mJ,.code bd] r [] t n)
  | _=>False
def bB(tab:TB)(m:Nat)(d:Nat):fC:=
 Nat.rec (motive:=fun _=>fC) (fun _ _ _ _ _=>False)
  (fun _ g c args t n k=>Callee.rec (motive:=fun _=>Prop) (fun f=>Bool.rec (motive:=fun _=>Prop) (fnK tab m g f args t n k) (Option.rec (motive:=fun _=>Prop) (ai4 args t n k) (fun _=>False) (tab.get fo)) (Nat.beq f fo)) (fun b=>ad4 m g b args t n k) c) d
theorem abr(tab:TB)(N:∀ args H,tab.get fo=ab→tab.sX fo args H=sX fo args H)(m:Nat):∀ g,pw (ey tab.get tab.sX m g) (bB tab m g):=by
 intro g;induction g with
 | zero=>intro c args H t k h d;exact d.elim
 | succ g J=>
  intro c args H t k h d;cases c with
  | fn f=>
   have d:Bool.rec (motive:=fun _=>Prop) (fnK tab m (bB tab m g) f args t H.length k) (Option.rec (motive:=fun _=>Prop) (ai4 args t H.length k) (fun _=>False) (tab.get fo)) (Nat.beq f fo):=d;cases E:Nat.beq f fo with
   | true=>
    rw [E]at d;have L:=avd E;subst L;cases I:tab.get fo with
    | some _=>rw [I]at d;exact d.elim
    | none=>
     rw [I]at d;obtain⟨v,H',K,q,x,y⟩:=ai5 h d;exact⟨v,H',K,by simp only [ey,N _ _ I,q],x,y⟩
   | false=>
   rw [E]at d;have M:=Nat.ne_of_beq_eq_false E;obtain⟨af,q,d⟩:=jk (show fnK tab m (bB tab m g) f args t H.length k from d);obtain⟨ps,O,body⟩:=af;obtain⟨x,d⟩:=dd d;rw [oZ]at d;obtain⟨u,s',K,y,z,d⟩:=GD J f _ m ab [.code body] _ [] H t h d;obtain⟨H',l,B,s,d⟩:=vm J z d;obtain⟨v,A,d⟩:=CN s d;exact⟨v,H',l,by simp only [ey,tab.ok _ _ q,q,x,if_true,y,B,A];rfl,s,d⟩
  | yield b=>
   obtain⟨bq,q,d⟩:=dN (show ad4 m (bB tab m g) b args t H.length k from d);rw [h]at q;have q:H[b]?=aa bq:=q;split at d
   ·obtain⟨x,d⟩:=dd d;rw [oZ]at d;obtain⟨u,s',K,y,z,d⟩:=GD J _ _ m (aa b) _ _ [] H t h d;obtain⟨B,d⟩:=jB d;obtain⟨blk',s,d⟩:=dN d;rw [z]at s;have s:s'.heap[b]?=aa blk':=s;split at d
    ·cases u with
     | none=>
      obtain⟨l,A,F⟩:=ed z d;exact⟨_,_,l,by simp only [ey,q,x,if_true,y,B,s];rfl,A,by rw [aul];exact F⟩
     | some j=>
      obtain⟨l,A,F⟩:=ed z d;exact⟨_,_,l,by simp only [ey,q,x,if_true,y,B,s];rfl,A,by rw [aul];exact F⟩
    ·exact d.elim
   ·exact d.elim
def isR(r:V)(v:V)(t:HT)(_:Nat):Prop:=anr t v fun y=>y=r
theorem acX{tab:TB}(s:∀ args H,tab.get fo=ab→tab.sX fo args H=sX fo args H){m d f:Nat}{args:List V}{r:V}(h:bB tab m d (.fn f) args .e 0 (isR r)=(r=r)):bo tab f args r:=by
 have h:bB tab m d (.fn f) args .e ([]:aj).length (isR r):=by rw [List.length_nil,h]
 obtain⟨v,H',u,b,g,j⟩:=abr tab s m d (.fn f) args [] .e (isR r) cY.nil h;obtain⟨y,l,q⟩:=F5 g v _ j;exact⟨v,H',⟨m,d,b⟩,by rw [l,q]⟩
end
end Km
