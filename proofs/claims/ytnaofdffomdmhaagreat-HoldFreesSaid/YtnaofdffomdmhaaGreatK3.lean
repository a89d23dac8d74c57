/-
  Our own small machine for Go code by value, held sZ the model: part 3. No program in FR.
-/
import Derived.Test.YtnaofdffomdmhaaGreatK2
import Derived.Orders
import Derived.Test.YtnaofdffomdmhaaGreatK1
open Option renaming some → aa,none → ab
open Bool renaming true → ae,false → ag
open List renaming mem_range → atN, all_eq_true → asC, eq_nil_of_length_eq_zero → asl, mem_of_getElem? → asp, getElem?_eq_getElem → By, getElem?_eq_some_iff → BY, getElem?_set_ne → AI, getElem?_append_right → IS, getElem?_eq_none → atg, getElem?_drop → asu, length_drop → asr, length_set → ass
open Bool renaming and_eq_true → If, not_eq_true' → as6, false_eq_true → aso, true_and → as3, eq_iff_iff → atn
open Option renaming map_some → asY, map_eq_some_iff → IT, map_map → atO
open Nat renaming le_refl → aft, zero_le → atr, le_of_ble_eq_true → atH, eq_of_beq_eq_true → ath, add_zero → atJ, le_max_left → asM, le_max_right → asD
open Option.some renaming injEq → At
open Prod.mk renaming injEq → OF
set_option linter.unusedVariables false
set_option linter.constructorNameAsVariable false
set_option linter.unusedSimpArgs false
set_option linter.unusedSectionVars false
set_option maxRecDepth 100000
namespace Km
open Go
section
variable{Q:Program}{σ:Nat→FuncId}{X:Wd}{call:cU}
variable{n:Nat}{ops:Array Oper}{aos:List aP}{im:List (Nat × Nat)}{st:Nat→St}
def LD(b:Array Bool)(j:Nat):Prop:=b.getD j ag=ae
theorem ZH{b:Array Bool}{i:Nat}(hi:i<b.size):LD (b.setIfInBounds i ae)=fun j=>LD b j∨j=i:=by
 funext j;apply propext;unfold LD;by_cases h:i=j
 ·subst h;simp [hi]
 ·have:j≠i:=fun e=>h e.symm;simp [Array.getD_eq_getD_getElem?,Array.getElem?_setIfInBounds_ne h,this]
theorem DJ{b:Array Bool}{i:Nat}(h:i ∈ Region.ready .any ops b):i<ops.size∧¬ LD b i∧∃ o,ops[i]?=aa o∧∀ e ∈ o.after.toList,Region.binds .any e=ae→LD b e.on:=by
 unfold Region.ready at h;simp only [List.mem_filter,atN,If,as6]at h;obtain⟨l,d,j⟩:=h;refine⟨l,fun g=>?_,?_⟩
 ·unfold LD at g;simp only [Array.getD_eq_getD_getElem?]at d g;cases m:b[i]? with
  | none=>rw [m]at d;simp at d| some bb=>rw [m]at d g;simp at d g;rw [d]at g;simp at g
 ·have q:=Array.getElem?_eq_getElem l;rw [q]at j;simp only [asY,Option.getD_some]at j;refine⟨ops[i],q,fun e u s=>?_⟩;rw [←Array.all_toList,asC]at j;have:=j e u;simpa [s,LD]using this
theorem abz(l:Ord ops.toList aos im)(F:aos.length=ops.size){b:Array Bool}(B:b.size=ops.size){j:Nat}(z:j<ops.size)(y:¬ LD b j):Region.ready .any ops b≠[]:=by
 have key:∀ m,m<ops.size→¬ LD b m→∃ i,i ∈ Region.ready .any ops b:=by
  intro m;induction m using Nat.strongRecOn with
  | ind m E=>
   intro v g;have A:=Array.getElem?_eq_getElem v;by_cases d:∀ e ∈ ops[m].after.toList,Region.binds .any e=ae→LD b e.on
   ·refine⟨m,?_⟩;unfold Region.ready;simp only [List.mem_filter,atN,If,as6,A,asY,Option.getD_some];refine⟨v,?_,?_⟩
    ·unfold LD at g;have u:m<b.size:=by omega
     simp [u]at g ⊢;exact g
    ·rw [←Array.all_toList,asC];intro e s;by_cases q:Region.binds .any e=ae
     ·have:=d e s q;unfold LD at this;simp [this]
     ·simp [q]
   ·simp only [Classical.not_forall]at d;obtain⟨e,s,q,x⟩:=d;have:=l.back m ops[m] (by omega) (by simp [v]) e s q;exact E e.on this (by omega) x
 obtain⟨i,hi⟩:=key j z y;intro h;rw [h]at hi;simp at hi
theorem aak(hC:fm Q σ call)(R:jH Q σ call n ops aos im st){b:Frame}{k:List Item}{cs:List Frame}(hk:ja b cs)(H:∀ y ∈ aos,gH y.op b) :
  ∀(X0:Wd) (fuel t:Nat) (d:Array Bool) (U:List Nat) (E:Nat) (X:Wd) (a:Act),d.size=ops.size→U.Nodup→(∀ j,j<ops.size→(¬ LD d j↔j ∈ U))→U.length≤fuel→Inv Q σ X0 n ops aos st (LD d) E X a →
  ∃ q z X' a',Steps Q (lone (b.atR a (.inRegion ops (Region.linearise.go .any ops fuel t d [])::k)) cs X.w) (lone (b.atR a' k) cs X'.w)∧Inv Q σ X0 n ops aos st q z X' a'∧(∀ j,j<ops.size→q j)∧a'.tmps.size=a.tmps.size:=by
 have u:aos.length=ops.size:=by have:=(eM R.ame).len;simpa using this.symm
 intro X0 fuel;induction fuel with
 | zero=>
  intro t d U E X a m B l F A;refine⟨LD d,E,X,a,?_,A,fun j s=>?_,rfl⟩
  ·simp only [Region.linearise.go,List.reverse_nil];exact .one stepR_region_end
  ·have g:U=[]:=asl (by omega);refine Classical.byContradiction fun h=>?_;have:=(l j s).1 h;rw [g]at this;simp at this
 | succ fuel ih=>
  intro t d U E X a m B l F A;simp only [Region.linearise.go];change ∃ q z X' a',Steps Q (lone (b.atR a (.inRegion ops (match (Region.ready .any ops d)[t % (Region.ready .any ops d).length]? with
   | some i=>Region.linearise.go .any ops fuel (t / (Region.ready .any ops d).length) (d.setIfInBounds i ae) [i]
   | none=>[].reverse)::k)) cs X.w) _∧_
  cases hi:(Region.ready .any ops d)[t % (Region.ready .any ops d).length]? with
  | none=>
   have g:Region.ready .any ops d=[]:=by
    cases I:Region.ready .any ops d with
    | nil=>rfl
    | cons x xs=>
     rw [I]at hi;have a8:t % (x::xs).length<(x::xs).length:=Nat.mod_lt _ (by simp);rw [List.getElem?_eq_none_iff]at hi;omega
   refine⟨LD d,E,X,a,?_,A,fun j s=>?_,rfl⟩
   ·exact .one stepR_region_end
   ·exact Classical.byContradiction fun h=>abz R.ord u m s h g
  | some i=>
   simp only [];rw [linearise_go_acc,List.reverse_singleton,List.singleton_append];obtain⟨r1,K,o,r3,r4⟩:=DJ (asp hi);have hy:=By (show i<aos.length by omega);have I:jG ops aos (LD d) i o aos[i]:=⟨r3,hy,K,r4⟩
   obtain⟨z,L,a1,O,J,S⟩:=R.aiW hC A I (b:=b) (rest:=Region.linearise.go .any ops fuel (t / (Region.ready .any ops d).length) (d.setIfInBounds i ae) []) (k:=k) (cs:=cs) hk (H _ (List.getElem_mem _));rw [←ZH (by omega)]at J;have v:i ∈ U:=(l i r1).1 K;obtain⟨q,E2,M,N,k1,k2,k3,k5⟩:=ih (t / (Region.ready .any ops d).length) (d.setIfInBounds i ae) (U.erase i) z L a1 (by simpa using m) (B.erase i)
    (fun j s=>by
     rw [B.mem_erase_iff,←l j s,ZH (by omega)];constructor
     ·intro h;exact⟨fun e=>h (.inr e),fun W=>h (.inl W)⟩
     ·rintro⟨Y,Z⟩ (h | h)
      ·exact Z h
      ·exact Y h)
    (by rw [List.length_erase_of_mem v];omega) J
   exact⟨q,E2,M,N,O.trans k1,k2,k3,k5.trans S⟩
theorem aal(hC:fm Q σ call)(u:Q.follows .mixedOrders=ae)(R:jH Q σ call n ops aos im st){b:Frame}{k:List Item}{cs:List Frame}(hk:ja b cs)(M:∀ y ∈ aos,gH y.op b){X:Wd}{a:Act}(g:Fr Q σ n X (st 0) a)(id:Nat) :
  ∃ X' a',Steps Q (lone (b.atR a (.code (.region id ops ae)::k)) cs X.w) (lone (b.atR a' k) cs X'.w)∧Fr Q σ n X' (st aos.length) a'∧Ext X.H.length X X'∧a'.tmps.size=a.tmps.size:=by
 have a8:aos.length=ops.size:=by have:=(eM R.ame).len;simpa using this.symm
 let X0:Wd:={ X with w:={ X.w with drawn:=X.w.drawn+1 } }
 have A:Ext X.H.length X X0:=
  {B:=rfl,F:=fun _ _ h=>h,oK:=fun _ _ h=>.inl h,fw:=fun _ _ _=>rfl,cO:=fun b _ bj J=>⟨bj,J,by cases bj<;>simp [X0]⟩
   xR:=fun b L h=>.inl ⟨b,L,h,rfl⟩,size:=aft _,os:=rfl,tape:=rfl,output:=rfl,frame:=fun _ _ _=>rfl }
 have I:SR Q σ X0:=by
  refine⟨fun b L J=>?_,g.sr.inj,g.sr.fb⟩;obtain⟨q,s,bj,W,Y⟩:=g.sr.br b L J;exact⟨q,s,bj,W,BR.ext Q σ A rfl (fun _ h=>h) Y⟩
 obtain⟨p1,p2,p3,O⟩:=oy (aos:=aos) (i:=0) (by omega);obtain⟨q1,q2⟩:=R.dj _ p1 p2 O;have E:X0.H=(st 0).heap:=g.heap;rw [←E]at q1;obtain⟨k1,k2⟩:=SR.ahead I q1;have m:Ext X.H.length X { X0 with H:=(st (phase aos 0)).heap }:=A.trans k2;have d:∀ j,¬ LD (Array.replicate ops.size ag) j:=fun j h=>by
  unfold LD at h;simp only [Array.getD_eq_getD_getElem?,Array.getElem?_replicate]at h;split at h<;>simp at h
 have hI:Inv Q σ { X0 with H:=(st (phase aos 0)).heap } n ops aos st (LD (Array.replicate ops.size ag)) (phase aos 0) { X0 with H:=(st (phase aos 0)).heap } a:=by
  refine⟨fun j o h=>absurd h (d j),fun j h=>absurd h (d j),p2,p3,d _,fun j q s=>absurd q (O j (atr _) s),rfl,Ext.refl _ _,k1,g.b,by rw [q2];exact g.defs.ext' m,g.size,
   fun p=>⟨0,atr _,.inl (VR.ext' σ m (g.az p)),fun j y _ _=>⟨fun h=>by omega,fun h=>absurd h (d j)⟩⟩,fun j y q _ W Y h5=>?_⟩
  show X.cD _=ab;have a_:=(R.dj j (atr _) (by omega) fun k q s=>O k q (by omega)).1.len;cases v:X.cD (st j).heap.length with
  | none=>rfl| some L=>have:=SR.lt g.sr v;rw [g.heap]at this;omega
 obtain⟨D',S,X',a',g1,l,U,g5⟩:=aak hC R hk M (k:=k) { X0 with H:=(st (phase aos 0)).heap } ops.size (X.w.tape X.w.drawn (.order b.fn id)) (Array.replicate ops.size ag) (List.range ops.size) (phase aos 0) { X0 with H:=(st (phase aos 0)).heap } a (by simp) List.nodup_range
  (fun j hj=>⟨fun _=>by simpa using hj,fun _=>d j⟩) (by simp) hI
 have Z:S=aos.length:=by
  rcases l.eW with h | ⟨z,N,_⟩
  ·exact h
  ·exact absurd (U S (by have:=(BY.1 N).1;omega)) l.eD
 subst Z;refine⟨X',a',.head stepR_region_draw ?_,⟨l.heap,l.sr,l.b,fun p=>?_,l.defs,l.size⟩,m.trans (l.ext.mono (m.len)),g5⟩
 ·simp only [Region.schedule,u,Bool.true_or,if_true];exact g1
 ·obtain⟨K,hK,x,hw⟩:=l.abX p;have x:VR σ X' ((st K).az.get p) (a'.tmps.getD p.toNat undef):=by
   rcases x with x | ⟨z,zs,c,_,Z,N,_⟩
   ·exact x
   ·have:=(BY.1 N).1;omega
  rw [←R.lq aos.length hK (aft _) fun j y q s hy hd=>?_]
  ·exact x
  ·have:=(hw j y hy hd).2 (U j (by omega));omega
end
section
variable{Q:Program}{σ:Nat→FuncId}{X:Wd}{call:cU}
theorem AP{b:Type}{f:b→b→Bool}(d:∀ x y,f x y=ae→x=y):∀ {xs ys:List b},jl f xs ys=ae→xs=ys
 | [],[],_=>rfl
 | x::xs,y::ys,h=>by
  simp only [jl,If]at h;rw [d x y h.1,AP d h.2]
 | [],_::_,h=>by simp [jl]at h
 | _::_,[],h=>by simp [jl]at h
theorem FC.beq_eq:∀(n:Nat) (a b:FC),FC.beq n a b=ae→a=b:=by
 intro n;induction n with
 | zero=>
  intro a b h;cases a<;>cases b<;>simp_all [FC.beq]
 | succ n d=>
  intro a b h;cases a<;>cases b<;>simp_all [FC.beq]
  all_goals exact AP d h.2
theorem C.beq_eq{a b:C}(h:a.beq b=ae):a=b:=by
 cases a<;>cases b<;>simp_all [C.beq];exact FC.beq_eq _ _ _ h
theorem V.beq_eq{a b:V}(h:a.beq b=ae):a=b:=by
 cases a<;>cases b<;>simp only [V.beq,aso]at h
 ·rw [C.beq_eq h]
 ·rename_i xs ys;simp only [If,beq_iff_eq,asC]at h
  congr 1
  refine List.ext_getElem h.1 fun i h1 h2=>C.beq_eq (h.2 (xs[i],ys[i]) ?_);exact asp (i:=i) (by rw [List.getElem?_zip_eq_some];exact⟨By h1,By h2⟩)
theorem yC:∀ {aos:List aP} {s s':St},fF call aos s=aa s'→∃ ss:List St,eb call aos s=aa ss∧ss.getLast?=aa s'
 | [],s,s',h=>by simp only [fF,At]at h;subst h;exact⟨[s],rfl,rfl⟩
 | o::os,s,s',h=>by
  simp only [fF]at h;split at h
  ·rename_i j d;obtain⟨ss,g,b⟩:=yC h;refine⟨s::ss,by simp [eb,d,g],?_⟩;cases ss with
   | nil=>simp at b| cons x xs=>simpa using b
  ·simp at h
theorem mH:∀ {aos:List aP} {s:St} {ss:List St},eb call aos s=aa ss→ss.length=aos.length+1∧ss[0]?=aa s ∧
  ∀ i y,aos[i]?=aa y→∃ u v,ss[i]?=aa u∧ss[i+1]?=aa v∧fJ call u y=aa v
 | [],s,ss,h=>by
  simp only [eb,At]at h;subst h;exact⟨rfl,rfl,fun i y h=>by simp at h⟩
 | o::os,s,ss,h=>by
  simp only [eb]at h;split at h
  ·rename_i q l;split at h
   ·rename_i x m;simp only [At]at h;subst h;obtain⟨d,g,j⟩:=mH m;refine⟨by simp [d],rfl,fun i y b=>?_⟩;cases i with
    | zero=>
     simp only [List.getElem?_cons_zero,At]at b;subst b;exact⟨s,q,rfl,by simpa using g,l⟩
    | succ i=>simpa using j i y (by simpa using b)
   ·simp at h
  ·simp at h
theorem wb:∀ {aos:List aP} {s:St} {ss:List St} {s':St},eb call aos s=aa ss→ss.getLast?=aa s'→fF call aos s=aa s'
 | [],s,ss,s',h,b=>by simp only [eb,At]at h;subst h;simpa [fF]using b
 | o::os,s,ss,s',h,b=>by
  simp only [eb]at h;split at h
  ·rename_i l j;split at h
   ·rename_i d g;simp only [At]at h;subst h;have:=(mH g).1;simp only [fF,j];refine wb g ?_;cases d with
    | nil=>simp at this| cons x xs=>simpa using b
   ·simp at h
  ·simp at h
theorem Pl(O:fm Q σ call)(z:Q.follows .mixedOrders=ae){n:Nat}{id:Nat}{ops:Array Oper}{g:Bool}{aos:List aP}{im:List (Nat × Nat)}(U:bU Q σ n (.region id ops g) (.region aos im)=ae)
  {b:Frame} {k:List Item} {cs:List Frame} (S:ja b cs) (A:∀ y ∈ aos,gH y.op b) {X:Wd} {a:Act} {s s':St} (J:Fr Q σ n X s a) (h:fZ call aos im s=aa s') :
  ∃ X' a',Steps Q (lone (b.atR a (.code (.region id ops g)::k)) cs X.w) (lone (b.atR a' k) cs X'.w)∧Fr Q σ n X' s' a'∧Ext X.H.length X X'∧a'.tmps.size=a.tmps.size:=by
 simp only [bU,If,Bool.or_eq_true,as6]at U;obtain⟨j,B⟩:=U;obtain⟨ss,N,I,h3⟩:∃ ss:List St,eb call aos s=aa ss∧ss.getLast?=aa s'∧∀ c ∈ im,sameAt aos ss c=ae:=by
  unfold fZ at h;split at h
  ·obtain⟨ss,m,q⟩:=yC h;exact⟨ss,m,q,by simp⟩
  ·split at h
   ·rename_i ss K;split at h
    ·rename_i x;exact⟨ss,K,h,asC.1 x⟩
    ·simp at h
   ·simp at h
 cases g with
 | false=>
  obtain⟨X',a',m,q⟩:=Ga O S (k:=k) aos 0 X s s' a J (by simpa using j) A (wb N I);exact⟨X',a',.head stepR_region (by simpa using m),q⟩
 | true=>
  obtain⟨m,q,Z⟩:=mH N
  let st:Nat→St:=fun i=>ss.getD i s
  have d:∀ i u,ss[i]?=aa u→st i=u:=fun i u hu=>by simp [st,List.getD_eq_getElem?_getD,hu]
  have R:jH Q σ call n ops aos im st:=by
   refine⟨j,O_ (B.resolve_left (by simp)),fun i y L=>?_,fun i e y hc L W=>?_⟩
   ·obtain⟨u,v,E,F,H⟩:=Z i y L;rw [d _ _ E,d _ _ F];exact H
   ·have l:=h3 _ hc;simp only [sameAt,L]at l;split at l
    ·rename_i o s1 s2 E F H;cases E;rw [d _ _ F]at W ⊢;rw [d _ _ H];rw [W]at l;simp only at l;split at l
     ·rename_i v x1 v' x2 Y M;rw [←V.beq_eq l]at M;exact⟨v,x1,x2,Y,M⟩
     ·simp at l
    ·simp at l
  have h0:st 0=s:=d 0 s q;have hN:st aos.length=s':=d _ _ (by rw [List.getLast?_eq_getElem?,m]at I;simpa using I);rw [←h0]at J;rw [←hN];exact aal O z R S A J id
end
section
variable{Q:Program}{σ:Nat→FuncId}{X:Wd}{call:cU}
def Dw(X:Wd)(b:Nat):Prop:=∃ f t p a c s q d,X.H[b]?=aa (.lp f t p a c s q d)
theorem Dw.ext{X X':Wd}(m:Ext X.H.length X X'){b:Nat}(h:Dw X b):Dw X' b∧∀ L,X.cD b=aa L→X'.cD b=aa L:=by
 obtain⟨f,t,p,a,c,s,q,d,j⟩:=h;obtain⟨blk',g,l⟩:=m.cO b (BY.1 j).1 _ j;cases blk'<;>simp only at l;exact⟨⟨_,_,_,_,_,_,_,_,g⟩,l.2⟩
inductive gP(Q:Program)(σ:Nat→FuncId)(n:Nat)(X:Wd):dg→Item→Prop
 | code {a:aF} {c:Code} (h:bU Q σ n c a=ae):gP Q σ n X (.code a) (.code c)
 | inBlock (id:Nat):gP Q σ n X (.inBlock id) (.inBlock id)
 | inLoop {a:aF} {c:Code} (h:bU Q σ n c a=ae):gP Q σ n X (.inLoop a) (.inLoop c)
 | iP {b:Nat} {L:Loc} (h:X.cD b=aa L) (hl:Dw X b):gP Q σ n X (.iP b) (.endRangeFunc L.c)
 | lW:gP Q σ n X .lW .beginRound
 | inScope {a:aF} {c:Code} (h:bU Q σ n c a=ae) (hs:jP a=ae):gP Q σ n X (.inScope a) (.inScope c)
theorem gP.ext{n:Nat}{X X':Wd}(d:Ext X.H.length X X'){x:dg}{y:Item}(h:gP Q σ n X x y):gP Q σ n X' x y:=by
 cases h with
 | code h=>exact .code h| inBlock id=>exact .inBlock id| inLoop h=>exact .inLoop h| iP h b=>exact .iP ((b.ext d).2 _ h) (b.ext d).1| lW=>exact .lW| inScope h g=>exact .inScope h g
def RoR(X:Wd):Option Nat→Option Nat→Prop
 | none,ab=>True| some b,aa l=>∃ L,X.cD b=aa L∧L.c=l∧Dw X b| _,_=>False
theorem RoR.ext{X X':Wd}(d:Ext X.H.length X X'){ro b:Option Nat}(h:RoR X ro b):RoR X' ro b:=by
 cases ro<;>cases b<;>simp only [RoR]at h ⊢;obtain⟨L,h1,h2,h3⟩:=h;exact⟨L,(h3.ext d).2 _ h1,h2,(h3.ext d).1⟩
theorem xG{n:Nat}(id:Nat):∀(k:List dg) (b:List Item),A2 (gP Q σ n X) k b →
  match Km.exitTo id k with
  | some k'=>∃ d,Go.exitTo id b=aa d∧A2 (gP Q σ n X) k' d| none=>Go.exitTo id b=ab
 | [],b,h=>by
  have:b=[]:=asl h.len.symm;subst this;rfl
 | x::k,[],h=>by have:=h.len;simp at this
 | x::k,y::b,h=>by
  obtain⟨q,j⟩:=h.of_cons;have m:=xG id k b j;cases q with
  | inBlock g=>
   simp only [Km.exitTo,Go.exitTo];by_cases l:(g == id)=ae
   ·simp only [l,if_true];exact⟨b,rfl,j⟩
   ·simp only [l,aso,if_false];exact m
  | _=>exact m
theorem zg{n:Nat}(l:Nat):∀(a:aF) (c:Code),bU Q σ n c a=ae→jP a=ae →
  match Km.findLabel a l with
  | some r=>∃ r',Go.findLabel c l=aa r'∧bU Q σ n r' r=ae| none=>Go.findLabel c l=ab:=by
 intro a;induction a with
 | seq a b m q=>
  intro c h g;simp only [jP,If]at g;cases c with
  | seq c d=>
   simp only [bU,If]at h;have j:=m c h.1 g.1;simp only [Km.findLabel,Go.findLabel];cases u:Km.findLabel a l with
   | some r=>
    rw [u]at j;obtain⟨r',v,x⟩:=j;simp only [v];exact⟨_,rfl,by simp [bU,x,h.2]⟩
   | none=>
    rw [u]at j;simp only [j];exact q d h.2 g.2
  | _=>simp [bU]at h
 | label l'=>
  intro c h _;cases c with
  | label y=>
   simp only [bU,beq_iff_eq]at h;subst h;simp only [Km.findLabel,Go.findLabel];by_cases s:(y == l)=ae
   ·simp only [s,if_true];exact⟨_,rfl,by simp [bU]⟩
   ·simp only [s,aso,if_false]
  | _=>simp [bU]at h
 | bad=>intro c h g;simp [jP]at g| _=>intro c h _;cases c<;>simp_all [bU,Km.findLabel,Go.findLabel]
theorem xM{n:Nat}(l:Nat):∀(k:List dg) (b:List Item),A2 (gP Q σ n X) k b →
  match Km.gotoIn l k with
  | some k'=>∃ d,Go.gotoIn l b=aa d∧A2 (gP Q σ n X) k' d| none=>Go.gotoIn l b=ab
 | [],b,h=>by
  have:b=[]:=asl h.len.symm;subst this;rfl
 | x::k,[],h=>by have:=h.len;simp at this
 | x::k,y::b,h=>by
  obtain⟨v,j⟩:=h.of_cons;have u:=xM l k b j;cases v with
  | inScope q s=>
   rename_i a c;have g:=zg (Q:=Q) (σ:=σ) l a c q s;simp only [Km.gotoIn,Go.gotoIn];cases m:Km.findLabel a l with
   | some r=>
    rw [m]at g;obtain⟨r',z,A⟩:=g;simp only [z];exact⟨_,rfl,A2.cons (.code A) (A2.cons (.inScope q s) j)⟩
   | none=>
    rw [m]at g;simp only [g];exact u
  | _=>exact u
def akR:Option aF→List Item→Prop
 | none,b=>b=[]| some .ret,b=>∃ k,b=.code .ret::k| some (.exit id),b=>∃ k,b=.code (.exit id)::k∧Go.exitTo id k=ab| _,_=>False
end
section
variable{Q:Program}{σ:Nat→FuncId}{X:Wd}{call:cU}
theorem pB{b:Nat}{L:Loc}(x:SR Q σ X)(v:X.cD b=aa L){f:Nat}{t:T}{ps:List P}{as bd:aF}{q:eL}{g:Option aF}{d:Nat}(y:X.H[b]?=aa (.lp f t ps as bd q g d)) :
  ∃(n:Nat) (us:Array Value) (m:Array Tmp) (as' j:Code) (pend':Option Code) (u:Loc),
   X.w.heap[L.c]?=aa (.loop { state:=q.of,pending:=pend',fn:=σ f,tmps:=us,params:=m,assign:=as',body:=j,defers:=u.c }) ∧
   n≤us.size∧RR σ X t us∧fu (fun p (q:P)=>q.toNat == p&&decide (p<n)) m.toList ps=ae∧bU Q σ n as' as=ae∧bU Q σ n j bd=ae∧xX Q σ n g pend'∧X.cD d=aa u∧∃ o,X.H[d]?=aa (.fj o):=by
 obtain⟨_,_,bj,l,s⟩:=x.br b L v;rw [y]at l;cases l;exact s
theorem zS(J:SR Q σ X){b:Nat}{L:Loc}(I:X.cD b=aa L){f:Nat}{t:T}{ps:List P}{as bd:aF}{q q':eL}{y pend1:Option aF}{d:Nat}(s:X.H[b]?=aa (.lp f t ps as bd q y d))
  {n:Nat} {us:Array Value} {j:Array Tmp} {as' g:Code} {pend':Option Code} {u:Loc}
  (O:n≤us.size) (S:RR σ X t us) (U:fu (fun p (q:P)=>q.toNat == p&&decide (p<n)) j.toList ps=ae) (W:bU Q σ n as' as=ae) (Y:bU Q σ n g bd=ae) (Z:xX Q σ n pend1 pend') (a:X.cD d=aa u) (z:∃ o,X.H[d]?=aa (.fj o)) :
  SR Q σ { X with H:=X.H.set b (.lp f t ps as bd q' pend1 d),w:=X.w.putObj L.c (.loop { state:=q'.of,pending:=pend',fn:=σ f,tmps:=us,params:=j,assign:=as',body:=g,defers:=u.c }) } ∧
  Ext X.H.length X { X with H:=X.H.set b (.lp f t ps as bd q' pend1 d),w:=X.w.putObj L.c (.loop { state:=q'.of,pending:=pend',fn:=σ f,tmps:=us,params:=j,assign:=as',body:=g,defers:=u.c }) }:=by
 obtain⟨m,r,k,M,N,i,K,v,_⟩:=pB J I s;have A:b<X.H.length:=(BY.1 s).1;refine SR.pV (o':=.loop { state:=q'.of,pending:=pend',fn:=σ f,tmps:=us,params:=j,assign:=as',body:=g,defers:=u.c }) (blk':=.lp f t ps as bd q' pend1 d) J s I v (by simp) (by simp)
  (fun bj l=>⟨.lp f t ps as bd q' pend1 d,by simp [A],by rw [s]at l;cases l;exact⟨⟨rfl,rfl,rfl,rfl,rfl,rfl⟩,fun L h=>h⟩⟩)
  (fun X' F E _ x c=>?_)
 obtain⟨o,z⟩:=z;refine⟨n,us,j,as',g,pend',u,E,O,RR.ext' σ F S,U,W,Y,Z,by rw [x];exact a,o,?_⟩;have B:b≠d:=fun e=>by rw [e,z]at s;cases s
 rw [c,AI B];exact z
end
section
variable{Q:Program}{σ:Nat→FuncId}{call:cU}
structure Way(Q:Program)(σ:Nat→FuncId)(fn:Nat)(n:Nat)(b:Frame)(cs:List Frame)(ro:Option Nat)(todo:List dg)(items:List Item)(s:St)(X:Wd)(a:Act):Prop where
 fr:Fr Q σ n X s a
 items:A2 (gP Q σ n X) todo items
 ro:RoR X ro b.roundOf
 kind:ja b cs
 fn:b.fn=σ fn
theorem Way.ext{fn n:Nat}{b:Frame}{cs:List Frame}{ro:Option Nat}{j:List dg}{items:List Item}{s s':St}{X X':Wd}{a a':Act}(h:Way Q σ fn n b cs ro j items s X a){g:List dg}{d:List Item}(l:Ext X.H.length X X')(m:Fr Q σ n X' s' a')
  (hi:A2 (gP Q σ n X) g d):Way Q σ fn n b cs ro g d s' X' a':=
 ⟨m,hi.kI fun _ _ h=>h.ext l,h.ro.ext l,h.kind,h.fn⟩
theorem Way.to{fn n:Nat}{b:Frame}{cs:List Frame}{ro:Option Nat}{j:List dg}{items:List Item}{s:St}{X:Wd}{a:Act}(h:Way Q σ fn n b cs ro j items s X a){g:List dg}{d:List Item}
  (hi:A2 (gP Q σ n X) g d):Way Q σ fn n b cs ro g d s X a:=⟨h.fr,hi,h.ro,h.kind,h.fn⟩
def aoq(Q:Program)(σ:Nat→FuncId)(call:cU)(fn m:Nat):Prop:=
 ∀(n:Nat) (b:Frame) (cs:List Frame) ro l g s X a j s',run call fn m ro l s=aa (j,s')→Way Q σ fn n b cs ro l g s X a →
  ∃ X' a' d,Steps Q (lone (b.atR a g) cs X.w) (lone (b.atR a' d) cs X'.w)∧Fr Q σ n X' s' a'∧Ext X.H.length X X'∧a'.tmps.size=a.tmps.size∧akR j d
theorem wU{b:Frame}{a:Act}{k:List Item}{cs:List Frame}{w:World}{body:Code}:step Q (lone (b.atR a (.inScope body::k)) cs w)=.next (lone (b.atR a k) cs w):=
 step_lone_go (by simp [stepG,stepG.exec,Frame.atR])
theorem Cn{b:Frame}{a:Act}{k:List Item}{cs:List Frame}{w:World}{body:Code}:step Q (lone (b.atR a (.code (.scope body)::k)) cs w)=.next (lone (b.atR a (.code body::.inScope body::k)) cs w):=
 step_lone_go (by simp [stepG,stepG.exec,Frame.atR])
theorem abK(hC:fm Q σ call)(i7:Q.follows .mixedOrders=ae)(fn:Nat):∀ m,aoq Q σ call fn m:=by
 intro m;induction m with
 | zero=>intro n b cs ro e_ I s X a F s' h;simp [run]at h
 | succ m ih=>
  intro n b cs ro e_ I s X a F s' h z;have go:∀ {B j},run call fn m ro B s=aa (F,s')→A2 (gP Q σ n X) B j→step Q (lone (b.atR a I) cs X.w)=.next (lone (b.atR a j) cs X.w) →
    ∃ X' a' j,Steps Q (lone (b.atR a I) cs X.w) (lone (b.atR a' j) cs X'.w)∧Fr Q σ n X' s' a'∧Ext X.H.length X X'∧a'.tmps.size=a.tmps.size∧akR F j:=by
   intro B j hr hi U;obtain⟨X',a',it,g1,N⟩:=ih n b cs ro B j s X a F s' hr (z.to hi);exact⟨X',a',it,.head U g1,N⟩
  cases e_ with
  | nil=>
   have:I=[]:=asl z.items.len.symm;subst this;simp only [run,At,OF]at h;obtain⟨rfl,rfl⟩:=h;exact⟨X,a,[],Steps.refl _ _,z.fr,Ext.refl _ _,rfl,rfl⟩
  | cons x k=>
   cases I with
   | nil=>have:=z.items.len;simp at this
   | cons it M=>
    obtain⟨hx,A⟩:=z.items.of_cons;cases hx with
    | inBlock id=>exact go (by simpa [run]using h) A stepR_inBlock
    | inLoop E=>exact go (by simpa [run]using h) (A2.cons (.code E) (A2.cons (.inLoop E) A)) stepR_inLoop
    | inScope E hs=>exact go (by simpa [run]using h) A wU
    | iP hb hl=>
     rename_i bb L;simp only [run]at h;split at h
     ·rename_i f t ps as bd q d_ d J;split at h
      ·simp at h
      ·rename_i hq;rw [←z.fr.heap]at J;obtain⟨m0,us,a8,as',W,pend',Ld,b_,h2,h3,h4,h5,h6,Y,h8,h9⟩:=pB z.fr.sr hb J;obtain⟨g1,N⟩:=zS z.fr.sr hb J (q':=.exhausted) h2 h3 h4 h5 h6 Y h8 h9;have k_:(q.of)≠LoopState.busy:=by cases q<;>simp [eL.of]at hq ⊢
       have U:=stepR_endRangeFunc (P:=Q) (b:=b) (a:=a) (k:=M) (cs:=cs) (run_endLoop (P:=Q) b_ k_);have key:∀ {B j},run call fn m ro B { s with heap:=s.heap.set bb (.lp f t ps as bd .exhausted d_ d) }=aa (F,s')→A2 (gP Q σ n X) B j→j=(pend'.map Item.code).toList++M →
         ∃ X' a' j,Steps Q (lone (b.atR a (.endRangeFunc L.c::M)) cs X.w) (lone (b.atR a' j) cs X'.w)∧Fr Q σ n X' s' a'∧Ext X.H.length X X'∧a'.tmps.size=a.tmps.size∧akR F j:=by
        intro B j hr hi he;obtain⟨X',a',it,k1,k2,k3,k4,k5⟩:=ih n b cs ro B j _ _ a F s' hr (z.ext (a':=a) N ⟨by rw [←z.fr.heap],g1,by simpa [World.putObj]using z.fr.b,z.fr.az.ext' σ N,z.fr.defs.ext' N,z.fr.size⟩ hi);rw [he]at k1;exact⟨X',a',it,.head U k1,k2,N.trans (k3.mono N.len),k4,k5⟩
       split at h
       ·cases pend' with
        | none=>exact key h A rfl| some c=>exact Y.elim
       ·cases pend' with
        | none=>exact Y.elim
        | some c=>
         have Y:bU Q σ m0 c .ret=ae:=Y;cases c<;>simp [bU]at Y;exact key h (A2.cons (.code (by simp [bU])) A) rfl
       ·rename_i id;cases pend' with
        | none=>exact Y.elim
        | some c=>
         have Y:bU Q σ m0 c (.exit id)=ae:=Y;cases c<;>simp [bU]at Y;subst Y;exact key h (A2.cons (.code (by simp [bU])) A) rfl
       ·simp at h
     ·simp at h
    | lW=>
     simp only [run]at h;split at h
     ·simp at h
     ·rename_i bb;split at h
      ·rename_i f t ps as bd d_ d J;have K:=z.ro;cases f8:b.roundOf with
       | none=>rw [f8]at K;exact K.elim
       | some l=>
        rw [f8]at K;obtain⟨L,hL,rfl,_⟩:=K;rw [←z.fr.heap]at J;obtain⟨m0,us,a8,as',W,pend',Ld,b_,h2,h3,h4,h5,h6,Y,h8,h9⟩:=pB z.fr.sr hL J;obtain⟨g1,N⟩:=zS z.fr.sr hL J (q':=.busy) h2 h3 h4 h5 h6 Y h8 h9;have U:=stepR_beginRound (P:=Q) (b:=b) (a:=a) (k:=M) (cs:=cs) f8 (run_beginRound (P:=Q) b_ rfl);obtain⟨X',a',it,k1,k2,k3,k4,k5⟩:=ih n b cs _ k M _ _ a F s' h (z.ext (a':=a) N ⟨by rw [←z.fr.heap],g1,by simpa [World.putObj]using z.fr.b,z.fr.az.ext' σ N,z.fr.defs.ext' N,z.fr.size⟩ A);exact⟨X',a',it,.head U k1,k2,N.trans (k3.mono N.len),k4,k5⟩
      ·simp at h
    | code E=>
     rename_i ac c;cases ac with
     | bad=>simp [run]at h| skip=>cases c<;>simp [bU]at E;exact go (by simpa [run]using h) A stepR_skip
     | label l=>cases c<;>simp [bU]at E;exact go (by simpa [run]using h) A stepR_label
     | scope p=>
      cases c<;>simp [bU]at E;exact go (by simpa [run]using h) (A2.cons (.code E.1) (A2.cons (.inScope E.1 E.2) A)) Cn
     | goto l=>
      cases c<;>simp [bU]at E;subst E;rename_i l';have S:=xM (Q:=Q) (σ:=σ) (n:=n) (X:=X) l' k M A;simp only [run]at h;split at h
      ·rename_i k' H;rw [H]at S;obtain⟨n_,he,b9⟩:=S;exact go h b9 (stepR_goto he)
      ·simp at h
     | ret=>
      cases c<;>simp [bU]at E;simp only [run,At,OF]at h;obtain⟨rfl,rfl⟩:=h;exact⟨X,a,_,Steps.refl _ _,z.fr,Ext.refl _ _,rfl,M,rfl⟩
     | seq p q=>
      cases c<;>simp [bU]at E;exact go (by simpa [run]using h) (A2.cons (.code E.1) (A2.cons (.code E.2) A)) stepR_seq
     | block id p=>
      cases c<;>simp [bU]at E;obtain⟨rfl,E⟩:=E;exact go (by simpa [run]using h) (A2.cons (.code E) (A2.cons (.inBlock _) A)) stepR_block
     | loop p=>
      cases c<;>simp [bU]at E;exact go (by simpa [run]using h) (A2.cons (.code E) (A2.cons (.inLoop E) A)) stepR_loop
     | exit id=>
      cases c<;>simp [bU]at E;subst E;rename_i n9;have S:=xG (Q:=Q) (σ:=σ) (n:=n) (X:=X) n9 k M A;simp only [run]at h;split at h
      ·rename_i k' H;rw [H]at S;obtain⟨n_,he,b9⟩:=S;exact go h b9 (stepR_exit he)
      ·rename_i H;rw [H]at S;split at h
       ·simp only [At,OF]at h;obtain⟨rfl,rfl⟩:=h;exact⟨X,a,_,Steps.refl _ _,z.fr,Ext.refl _ _,rfl,M,rfl,S⟩
       ·simp at h
     | cond x p q=>
      cases c<;>simp [bU]at E;simp only [run]at h;split at h
      ·rename_i v hv;have hx:=bX z.fr.az E.1.1;rw [hv]at hx;have n8:cV σ X.F X.w (.bool v) _:=hx;have he:∀ u,cV σ X.F X.w (.bool v) u→u=.bool v:=fun u hu=>by cases hu;rfl
       refine go h ?_ (stepR_cond (he _ n8));cases v
       ·exact A2.cons (.code E.2) A
       ·exact A2.cons (.code E.1.2) A
      ·simp at h
     | region aos im=>
      cases c with
      | region id ops o_=>
       simp only [run]at h;split at h
       ·simp at h
       ·rename_i K;split at h
        ·rename_i s1 h1;have l_:∀ y ∈ aos,gH y.op b:=by
          intro y hy;unfold gH;cases ro with
          | none=>
           refine .inl ?_;have:=z.ro;cases hb:b.roundOf with
           | none=>rfl| some l=>rw [hb]at this;exact this.elim
          | some r=>
           simp only [Option.isSome_some,as3,as6,Bool.not_eq_false]at K;exact .inr (asC.1 K y hy)
         obtain⟨X1,a1,g1,N,g3,g4⟩:=Pl hC i7 E z.kind l_ (k:=M) z.fr h1;obtain⟨X',a',it,k1,k2,k3,k4,k5⟩:=ih n b cs ro k M s1 X1 a1 F s' h (z.ext g3 N A);exact⟨X',a',it,g1.trans k1,k2,g3.trans (k3.mono g3.len),k4.trans g4,k5⟩
        ·simp at h
      | _=>simp [bU]at E
     | fN f ps as bd=>
      cases c with
      | rangeFunc f' a8 as' W=>
       simp only [bU,If]at E;obtain⟨⟨⟨j7,j8⟩,j9⟩,j_⟩:=E;simp only [run]at h;split at h
       ·simp at h
       ·rename_i K;have m4:b.roundOf=ab:=by
         have:=z.ro;cases ro with
         | some r=>simp at K
         | none=>
          cases hb:b.roundOf with
          | none=>rfl| some l=>rw [hb]at this;exact this.elim
        split at h
        ·rename_i g args i5;split at h
         ·rename_i r2 H2 O;obtain⟨X1,w1,H1,S1,E1,r1,B1⟩:=SR.new z.fr.sr z.fr.b (.fj ae) (ed.alloc X.w (.deferred (aa []))) 0 (fun X' hx hw hF hH=>by
           show X'.w.heap[X.w.heap.size]?=_;rw [hw];exact(ed.alloc X.w (.deferred (aa []))).new)
          have i6:X1.H[X.H.length]?=aa (.fj ae):=by rw [H1];simp
          have c_:X.H.length<X1.H.length:=by rw [H1];simp
          have i8:X1.w.heap.size=X.w.heap.size+1:=by rw [w1];simp
          obtain⟨X2,w2,i9,S2,E2,g_,B2⟩:=SR.new S1 B1 (.lp fn s.az ps as bd .ready ab s.heap.length)
           (ed.alloc X1.w (.loop { state:=.ready,pending:=ab,fn:=b.fn,tmps:=a.tmps,params:=a8,assign:=as',body:=W,defers:=X.w.heap.size })) 0 (fun X' hx hw hF hH=>by
            obtain⟨blk',f7,H⟩:=hx.cO X.H.length c_ _ i6;cases blk'<;>simp only at H;refine⟨n,a.tmps,a8,as',W,ab,⟨X.w.heap.size,0⟩,?_,z.fr.size,RR.ext' σ hx (RR.ext' σ E1 z.fr.az),j8,j9,j_,trivial,?_,?_⟩
            ·show X'.w.heap[X1.w.heap.size]?=_;rw [hw,(ed.alloc X1.w (.loop { state:=.ready,pending:=ab,fn:=b.fn,tmps:=a.tmps,params:=a8,assign:=as',body:=W,defers:=X.w.heap.size })).new,z.fn];rfl
            ·rw [←z.fr.heap];exact H _ r1
            ·rw [←z.fr.heap];exact⟨_,f7⟩)
          have f_:Ext X.H.length X X2:=E1.trans (E2.mono E1.len);have h_:X2.H=s.heap++[.fj ae,.lp fn s.az ps as bd .ready ab s.heap.length]:=by rw [i9,H1,←z.fr.heap];simp
          have j6:X1.H.length=s.heap.length+1:=by rw [H1,←z.fr.heap];simp
          have J:Dw X2 (s.heap.length+1):=⟨fn,s.az,ps,as,bd,.ready,ab,s.heap.length,by rw [h_,IS (by omega)];simp⟩
          rw [j6,i8]at g_;have i4:A2 (VR σ X2) [.c (.yl (s.heap.length+1))] [.func (.yield (X.w.heap.size+1)) #[] #[]]:=A2.cons ⟨⟨X.w.heap.size+1,0⟩,g_,J,rfl⟩ A2.nil;obtain⟨fst,cap,m9,m_⟩:=ob i5 (VR.ext' σ f_ (bX z.fr.az j7)) i4;rw [←h_]at O;have j5:=hC.enters _ _ _ _ O
          let a1:Act:={ a with defers:={ target:=.collected X.w.heap.size,args:=#[] }::a.defers }
          obtain⟨fr,X3,u,q1,⟨l1,l2,l3,l4,i_,l5,l6⟩,q3,q4,q5,q6,q7⟩:=hC.fn g args _ r2 H2 O X2 _ .normal (b.atR a1 (.inRangeFunc (X.w.heap.size+1)::M)::cs) rfl S2 B2 m_ (.inl rfl) (.inl rfl);have U:step Q (lone (b.atR a (.code (.rangeFunc f' a8 as' W)::M)) cs X.w)=.next (lone (Frame.enter Q (σ g) (fst.toArray++#[.func (.yield (X.w.heap.size+1)) #[] #[]]++cap.toArray) .normal) (b.atR a1 (.inRangeFunc (X.w.heap.size+1)::M)::cs) X2.w):=by
           refine stepR_rangeFunc (P:=Q) (b:=b) (a:=a) (k:=M) (cs:=cs) (l:=X.w.heap.size+1) (mark:=[{ target:=.collected X.w.heap.size,args:=#[] }]) (w₁:=X2.w) (w₁':=X2.w) (d:={ target:=.fn (.func (σ g)) cap.toArray,args:=fst.toArray++#[.func (.yield (X.w.heap.size+1)) #[] #[]] }) ?_ ?_ ?_
           ·rw [m4,run_enterLoop_outer,w2,w1]
           ·simp only [resolve,m9,Deferred.ofValue,Sem.run_bind,Sem.run_pure,Result.andThen_ok];simp [Act.eval]
           ·exact e9 j5
          have Z:Ext X.H.length X X3:=f_.trans (q6.mono f_.len);have a_:=step_leave_returned (P:=Q) (c:=b.atR a1 (.inRangeFunc (X.w.heap.size+1)::M)) (cs:=cs) (show fr.leaving Q X3.w (.returned u) from⟨l1,l2,l3,i_,by rw [l4];exact l5,l6⟩);rw [finish_atR_inRangeFunc]at a_;have d9:=J.ext q6;have j4:tM σ X3 (.gM s.heap.length) { target:=.collected X.w.heap.size,args:=#[] }:=by
           obtain⟨blk',f7,H⟩:=(E2.trans (q6.mono E2.len)).cO X.H.length c_ _ i6;cases blk'<;>simp only at H;rw [←z.fr.heap];exact⟨⟨X.w.heap.size,0⟩,_,H _ r1,f7,rfl⟩
          obtain⟨X',a',it,k1,k2,k3,k4,k5⟩:=ih n b cs ro (.iP (s.heap.length+1)::k) (.endRangeFunc (X.w.heap.size+1)::M) _ X3 a1 F s' h
           ⟨⟨q3,q4,q7,RR.ext' σ Z z.fr.az,A2.cons j4 (z.fr.defs.ext' Z),z.fr.size⟩,A2.cons (.iP (d9.2 _ g_) d9.1) (A.kI fun _ _ h=>h.ext Z),z.ro.ext Z,z.kind,z.fn⟩
          refine⟨X',a',it,.head U (Steps.trans ?_ (.head a_ k1)),k2,Z.trans (k3.mono Z.len),k4,k5⟩;simpa using q1
         ·simp at h
        ·simp at h
      | _=>simp [bU]at E
end
section
variable{Q:Program}{σ:Nat→FuncId}{X:Wd}{call:cU}
def CU(Q:Program)(σ:Nat→FuncId)(nz:Nat→List V→aj→Option (Option (V × aj))):Prop:=
 ∀ f args H r H',nz f args H=aa (aa (r,H')) →
  (∀ as w,(callFunc (σ f) as).run Q w=.ok (.enter (σ f) as) w) ∧
  ∀(X:Wd) us b cs,X.H=H→SR Q σ X→X.B≤X.w.heap.size→A2 (VR σ X) args us→ov b cs→b=.normal∨f≠fA →
   ∃ d X' u,Steps Q (lone (Frame.enter Q (σ f) us.toArray b) cs X.w) (lone d cs X'.w)∧Leaves Q (σ f) b d u X'.w∧fh Q σ X r H' X' u
structure Env(Q:Program)(σ:Nat→FuncId)(tab:Nat→Option aK)(nz:Nat→List V→aj→Option (Option (V × aj))):Prop where
 mix:Q.follows .mixedOrders=ae
 fn:∀ f af,tab f=aa af→∃ fn,Q.funcs[σ f]?=aa fn∧xW Q σ fn af=ae
 nz:CU Q σ nz
theorem vT:∀(ps:List P) (args:List V) (t:T) (s:Nat),ps.map P.toNat=List.range' s ps.length→args.length=ps.length→∀ q:P,
  (cM ps args t).get q=if s≤q.toNat then(args[q.toNat-s]?).getD (t.get q)else t.get q
 | [],args,t,s,_,b,q=>by
  have:args=[]:=asl b;subst this;simp [cM]
 | p::ps,[],t,s,_,b,q=>by simp at b
 | p::ps,v::y,t,s,d,b,q=>by
  simp only [List.map_cons,List.length_cons,List.range'_succ,List.cons.injEq]at d;have x:=vT ps y (t.set p v) (s+1) d.2 (by simpa using b) q;simp only [cM,x];by_cases j:p=q
  ·subst j;rw [aX (by omega),T.pb];simp [d.1]
  ·have u:q.toNat≠s:=fun e=>j (P.toNat_inj (d.1.trans e.symm));simp only [T.pb,j,if_false];by_cases l:s≤q.toNat
   ·have g:s+1≤q.toNat:=by omega
    have m:q.toNat-s=(q.toNat-(s+1))+1:=by omega
    simp [g,l,m]
   ·have g:¬ (s+1≤q.toNat):=by omega
    simp [g,l]
theorem RR.cM:∀(ps:List P) (b:List Tmp) (args:List V) (us:List Value) (az:T) (tmps:Array Value) (n:Nat),n≤tmps.size→RR σ X az tmps→A2 (VR σ X) args us→args.length=ps.length →
  fu (fun p (q:P)=>q.toNat == p&&decide (p<n)) b ps=ae→RR σ X (Km.cM ps args az) ((b.zip us).foldl (fun tmps (t,a)=>tmps.setIfInBounds t a) tmps)
 | [],b,args,us,az,tmps,n,l,j,d,g,h=>by
  have:args=[]:=asl g;subst this;have:us=[]:=asl d.len.symm;subst this;simpa [Km.cM]using j
 | p::ps,[],args,us,az,tmps,n,l,j,d,g,h=>by simp [fu]at h
 | p::ps,s::b,[],us,az,tmps,n,l,j,d,g,h=>by simp at g
 | p::ps,s::b,v::x,[],az,tmps,n,l,j,d,g,h=>by have:=d.len;simp at this
 | p::ps,s::b,v::x,u::us,az,tmps,n,l,j,d,g,h=>by
  simp only [fu,If,beq_iff_eq,decide_eq_true_eq]at h;obtain⟨⟨h1,h2⟩,h3⟩:=h;obtain⟨m,d⟩:=d.of_cons;subst h1;refine RR.cM ps b x us _ _ n (by simpa using l) (RR.set σ j (by omega) m) d (by simpa using g) h3
theorem rF:∀(l:List (Tmp × Value)) (tmps:Array Value),(l.foldl (fun tmps (t,a)=>tmps.setIfInBounds t a) tmps).size=tmps.size
 | [],_=>rfl| x::l,tmps=>by rw [List.foldl_cons,rF l];simp
theorem abJ(fn:Nat):∀ m d s b s',run call fn m ab d s=aa (b,s')→b=ab∨b=aa .ret:=by
 intro m;induction m with
 | zero=>intro d s b s' h;simp [run]at h
 | succ m g=>
  intro d s b s' h;unfold run at h;split at h
  all_goals first
   | exact g _ _ _ _ h
   | (simp at h;done)
   | skip
  ·simp only [At,OF]at h;exact .inl h.1.symm
  ·split at h
   ·split at h
    ·simp at h
    ·split at h
     ·exact g _ _ _ _ h
     ·exact g _ _ _ _ h
     ·exact g _ _ _ _ h
     ·simp at h
   ·simp at h
  ·split at h
   ·exact g _ _ _ _ h
   ·simp at h
  ·simp only [At,OF]at h;exact .inr h.1.symm
  ·split at h
   ·exact g _ _ _ _ h
   ·simp at h
  ·split at h
   ·exact g _ _ _ _ h
   ·simp at h
  ·split at h
   ·simp at h
   ·split at h
    ·exact g _ _ _ _ h
    ·simp at h
  ·split at h
   ·simp at h
   ·simp only at h;split at h
    ·split at h
     ·exact g _ _ _ _ h
     ·simp at h
    ·simp at h
theorem rz{fn:Func}{af:aK}(h:xW Q σ fn af=ae):∃ c,fn.name≠ "runtime.NumGoroutine"∧fn.body=aa c∧bU Q σ fn.ntmps c af.body=ae ∧
  fu (wO Q fn.ntmps) fn.results.toList af.results=ae∧af.ps.map P.toNat=List.range af.ps.length:=by
 simp only [xW,If,bne_iff_ne,ne_eq,decide_eq_true_eq]at h;obtain⟨⟨⟨h1,h2⟩,h3⟩,h4⟩:=h;cases hb:fn.body with
 | none=>rw [hb]at h2;simp at h2| some c=>rw [hb]at h2;exact⟨c,h1,rfl,h2,h3,h4⟩
theorem pR{f:FuncId}{fn:Func}{c:Code}(hf:Q.funcs[f]?=aa fn)(hn:fn.name≠ "runtime.NumGoroutine")(hb:fn.body=aa c)(as:Array Value)(w:World):(callFunc f as).run Q w=.ok (.enter f as) w:=by
 simp [callFunc,hf,hn,hb]
def jg(g:FuncId)(d:CallKind)(tmps:Array Value)(ds:List Deferred)(b:Frame):Prop:=
 b.mode=.returning∧b.defers=ds∧b.kind=d∧b.fn=g∧b.tmps=tmps
theorem step_collected{d:Frame}{cs:List Frame}{w w':World}{b:Nat}{as:Array Value}{ds:List Deferred}(j:d.mode=.returning)(g:d.defers = { target:=.collected b,args:=as }::ds)
  (l:(Instr.takeDeferred b).run Q w=.ok [] w'):step Q (lone d cs w)=.next (lone { d with defers:=ds } cs w'):=
 step_lone_go (by simp [stepG,unwind,j,g,Sem.runT_eq,l])
theorem wV{b:Frame}{cs:List Frame}{w:World}{f:FuncId}{cap as as':Array Value}{ds:List Deferred}(g:b.mode=.returning)(d:b.defers = { target:=.fn (.func f) cap,args:=as }::ds)
  (j:(invoke (.fn (.func f) cap) as).run Q w=.ok (.enter f as') w):step Q (lone b cs w)=.next (lone (Frame.enter Q f as' .deferred) ({ b with defers:=ds }::cs) w):=
 step_lone_go (by simp [stepG,unwind,g,d,callDeferred,Sem.runT_eq,j])
theorem nA{b c:Frame}{cs:List Frame}{w:World}{v:Value}{f:FuncId}(h:Leaves Q f .deferred b v w)(hc:c.mode=.returning) :
  step Q (lone b (c::cs) w)=.next (lone c cs w):=by
 obtain⟨q,j,m,l,fn,d,g⟩:=h;rw [←l]at d;exact step_lone_go (by simp [stepG,unwind,doReturn,q,j,m,d,Sem.runT_eq,g,hc])
theorem jg.pop{g:FuncId}{kind:CallKind}{tmps:Array Value}{d:Deferred}{ds:List Deferred}{fr:Frame}(h:jg g kind tmps (d::ds) fr):jg g kind tmps ds { fr with defers:=ds }:=
 ⟨h.1,rfl,h.2.2.1,h.2.2.2.1,h.2.2.2.2⟩
theorem za(H:fm Q σ call){g:FuncId}{y:CallKind}{tmps:Array Value}{cs:List Frame}:∀(ds:List dU) (X:Wd) (l:List Deferred) (q:Frame) (H':aj),
  dO call ds X.H=aa H'→SR Q σ X→X.B≤X.w.heap.size→fO σ X ds l→jg g y tmps l q →
  ∃ fr' X',Steps Q (lone q cs X.w) (lone fr' cs X'.w)∧jg g y tmps [] fr'∧X'.H=H'∧SR Q σ X'∧X'.B≤X'.w.heap.size∧Ext X.H.length X X'
 | [],X,l,q,H',h,B,E,z,j=>by
  have:l=[]:=asl z.len.symm;subst this;simp only [dO,At]at h;exact⟨q,X,Steps.refl _ _,j,h,B,E,Ext.refl _ _⟩
 | d::ds,X,[],q,H',h,B,E,z,j=>by have:=z.len;simp at this
 | .gM b::ds,X,m::l,q,H',h,B,E,z,j=>by
  obtain⟨⟨L,o,h1,h2,rfl⟩,A⟩:=A2.of_cons z;simp only [dO]at h;split at h
  ·rename_i I;obtain⟨_,_,bj,F,K⟩:=B.br b L h1;rw [I]at F;cases F;have x:X.w.heap[L.c]?=aa (.deferred (aa [])):=K;obtain⟨g1,J⟩:=SR.pV (o':=.deferred ab) (blk':=.fj ag) B I h1 x (by simp) (by simp)
    (fun bj v=>⟨.fj ag,by simp [(BY.1 I).1],by rw [I]at v;cases v;exact fun L h=>h⟩)
    (fun X' b9 O _ a8 hH=>O)
   obtain⟨fr',X',S,U,W,Y,Z,k6⟩:=za H ds _ l { q with defers:=l } H' h g1 (by simpa using E) (fO.ext' J A) j.pop;exact⟨fr',X',.head (step_collected j.1 j.2.1 (run_takeDeferred x)) S,U,W,Y,Z,J.trans (k6.mono J.len)⟩
  ·simp at h
 | .fn f args::ds,X,m::l,q,H',h,B,E,z,j=>by
  obtain⟨⟨us,cap,rfl,hA⟩,A⟩:=A2.of_cons z;simp only [dO]at h;split at h
  ·simp at h
  rename_i N;split at h
  ·rename_i r H1 s;have M:=H.enters f args _ _ s;obtain⟨a_,X1,u,q1,q2,q3,q4,q5,q6,q7⟩:=H.fn f args _ r H1 s X _ .deferred ({ q with defers:=l }::cs) rfl B E hA (.inr ⟨rfl,_,_,rfl,j.1⟩) (.inr N);rw [←q3]at h;obtain⟨fr',X',S,U,W,Y,Z,k6⟩:=za H ds X1 l { q with defers:=l } H' h q4 q7 (fO.ext' q6 A) j.pop;refine⟨fr',X',.head (wV (as':=us++cap) j.1 j.2.1 (e9 M)) (Steps.trans ?_ (.head (nA (c:={ q with defers:=l }) q2 j.1) S)),U,W,Y,Z,q6.trans (k6.mono q6.len)⟩;have e:(us.toList++cap.toList).toArray=us++cap:=by apply Array.ext';simp
   rw [e]at q1;exact q1
  ·simp at h
theorem amz(E:SR Q σ X){n:Nat}{az:T}{tmps:Array Value}(m:RR σ X az tmps){r:ResultVar}{a:gw}(g:wO Q n r a=ae){v:V}
  (h:cQ az X.H a=aa v):∃ u,(match r with | .tmp t=>pure (tmps.getD t undef) | .cell a t=>do loadVar t (←asAddr (tmps.getD a undef)):Sem Value).run Q X.w=.ok u X.w∧gR σ X v u:=by
 cases r with
 | tmp t=>
  cases a with
  | tmp p=>
   simp only [wO,If,beq_iff_eq,decide_eq_true_eq]at g;have d:=m p;rw [g.1]at d;simp only [cQ]at h;refine⟨_,rfl,?_⟩;split at h
   ·simp at h
   ·rename_i j;simp only [At]at h;rw [h]at d;cases v with
    | t H=>exact absurd h (j H)| top=>trivial| c x=>exact d| a xs=>exact d
  | cell p k=>simp [wO]at g
 | cell t I=>
  cases a with
  | tmp p=>simp [wO]at g
  | cell p k=>
   simp only [wO,If,beq_iff_eq,decide_eq_true_eq]at g;have d:=m p;rw [g.1.1]at d;simp only [cQ]at h;cases q:az.get p with
   | c x=>
    rw [q]at h d;simp only [aS,Option.bind_eq_some_iff]at h;obtain⟨cs,s,b⟩:=h;obtain⟨c,o,us,F,z,A⟩:=tZ E d s;obtain⟨u,B,l⟩:=Cp g.2 z A b;refine⟨u,by simp [F,asAddr,B],?_⟩;cases k with
    | none=>cases cs with
     | nil=>simp [aQ]at b| cons y ys=>simp only [aQ,At]at b;subst b;exact l
    | some k=>
     simp only [aQ]at b;split at b
     ·simp only [At]at b;subst b;exact l
     ·simp at b
   | _=>rw [q]at h;simp [aS]at h
theorem D8(K:SR Q σ X){fn:Func}{m:List gw}(L:fu (wO Q fn.ntmps) fn.results.toList m=ae){az:T}{tmps:Array Value}(J:RR σ X az tmps){v:V}
  (h:Km.results az X.H m=aa v):∃ u,(Go.results fn tmps).run Q X.w=.ok u X.w∧VR σ X v u:=by
 have key:∀(m:List gw) (qs:List ResultVar) (j:List V),fu (wO Q fn.ntmps) qs m=ae→bg (cQ az X.H) m=aa j →
   ∃ us:List Value,(qs.mapM (fun r=>match r with | .tmp t=>pure (tmps.getD t undef) | .cell a t=>do loadVar t (←asAddr (tmps.getD a undef)):ResultVar→Sem Value)).run Q X.w=.ok us X.w∧A2 (gR σ X) j us:=by
  intro m;induction m with
  | nil=>
   intro qs j x l;cases qs with
   | nil=>simp only [bg,At]at l;subst l;exact⟨[],rfl,A2.nil⟩| cons q qs=>simp [fu]at x
  | cons a m M=>
   intro qs j x l;cases qs with
   | nil=>simp [fu]at x
   | cons q qs=>
    simp only [fu,If]at x;simp only [bg]at l;split at l
    ·simp at l
    ·rename_i A E;split at l
     ·simp at l
     ·rename_i B F;simp only [At]at l;subst l;obtain⟨u,s,b⟩:=amz K J x.1 E;obtain⟨us,H,I⟩:=M qs B x.2 F;refine⟨u::us,?_,A2.cons b I⟩;rw [List.mapM_cons,Sem.run_bind,s];simp only [Result.andThen_ok,Sem.run_bind,H,Sem.run_pure]
 unfold Km.results at h;have y:∀ j,bg (cQ az X.H) m=aa j→∃ us:List Value,(Go.results fn tmps).run Q X.w=.ok (if h:us.toArray.size=1 then us.toArray[0]else .tuple us.toArray) X.w∧A2 (gR σ X) j us:=by
  intro j g;obtain⟨us,s,b⟩:=key m fn.results.toList j L g;refine⟨us,?_,b⟩;unfold Go.results;rw [Array.mapM_eq_mapM_toList,Sem.run_bind,Sem.run_map];exact(congrArg (fun r:Result (List Value)=>(r.andThen fun a w'=>Result.ok a.toArray w').andThen fun a w'=>Sem.run Q (pure (if h:a.size=1 then a[0]else Value.tuple a)) w') s).trans rfl
 split at h
 ·rename_i A g;simp only [At]at h;subst h;obtain⟨us,s,b⟩:=y _ g
  match us,b with
  | [u],b=>exact⟨u,s,VR.of1 σ b.of_cons.1⟩| [],b=>have:=b.len;simp at this| _::_::_,b=>have:=b.len;simp at this
 ·rename_i j z g;simp only [At]at h;subst h;obtain⟨us,s,b⟩:=y _ g;refine⟨.tuple us.toArray,?_,us,rfl,b⟩;rw [s,dif_neg];intro d
  match us,d with
  | [u],_=>
   match j,b with
   | [A],_=>exact z A rfl| [],b=>have:=b.len;simp at this| _::_::_,b=>have:=b.len;simp at this
  | [],d=>simp at d| _::_::_,d=>simp at d
 ·simp at h
end
section
variable{Q:Program}{σ:Nat→FuncId}{tab:Nat→Option aK}{nz:Nat→List V→aj→Option (Option (V × aj))}
theorem aoQ(i:Env Q σ tab nz){m:Nat}{call:cU}(h:fm Q σ call){f:Nat}{af:aK}(I:tab f=aa af){args:List V}(E:args.length=af.ps.length){x:Option aF}{s':St}{X:Wd}
  (v:run call f m ab [.code af.body] ⟨cM af.ps args .e,[],X.H⟩=aa (x,s')) {H':aj} (j:dO call s'.defs s'.heap=aa H') {r:V} (s:Km.results s'.az H' af.results=aa r)
  {us:List Value} {d:CallKind} {cs:List Frame} (hS:SR Q σ X) (hB:X.B≤X.w.heap.size) (e:A2 (VR σ X) args us) (hk:ov d cs) :
  ∃ W X' u,Steps Q (lone (Frame.enter Q (σ f) us.toArray d) cs X.w) (lone W cs X'.w)∧Leaves Q (σ f) d W u X'.w∧fh Q σ X r H' X' u:=by
 obtain⟨fn,n,hm⟩:=i.fn f af I;obtain⟨c,M,y,z,O,N⟩:=rz hm
 let b:Frame:=Frame.enter Q (σ f) us.toArray d
 let l:Act:={ tmps:=us.toArray++Array.replicate (fn.ntmps-us.toArray.size) undef,defers:=[] }
 have hb:b=b.atR l [.code c]:=by
  simp [b,l,Frame.enter,Frame.atR,n,y]
 have S:fn.ntmps≤l.tmps.size:=by simp [l];omega
 have L:RR σ X (cM af.ps args .e) l.tmps:=by
  intro p;rw [vT af.ps args .e 0 (by rw [N,List.range_eq_range']) E p];simp only [atr,if_true,Nat.sub_zero];by_cases o:p.toNat<args.length
  ·have t:=By o;have F:p.toNat<us.length:=e.len▸o;have hy:=By F;have hv:=e.2 _ _ _ t hy;rw [t];have:l.tmps.getD p.toNat undef=us[p.toNat]:=by
    simp [l,Array.getD_eq_getD_getElem?,Array.getElem?_append,F]
   rw [this];exact hv
  ·rw [atg (by omega)];cases p<;>trivial
 have hF:Fr Q σ fn.ntmps X ⟨cM af.ps args .e,[],X.H⟩ l:=⟨rfl,hS,hB,L,A2.nil,S⟩
 have hW:Way Q σ f fn.ntmps b cs ab [.code af.body] [.code c] ⟨cM af.ps args .e,[],X.H⟩ X l:=⟨hF,A2.cons (.code z) A2.nil,trivial,hk,rfl⟩
 obtain⟨J,a1,g,s1,A,E1,_,U⟩:=abK h i.mix f m fn.ntmps b cs ab _ _ _ X l x s' v hW;have H:∃ q,Steps Q (lone (b.atR a1 g) cs J.w) (lone q cs J.w)∧jg (σ f) d a1.tmps a1.defers q:=by
  rcases abJ f m _ _ _ _ v with rfl | rfl
  ·have:g=[]:=U;subst this;exact⟨_,.one (stepR_end rfl),rfl,rfl,rfl,rfl,rfl⟩
  ·obtain⟨k,rfl⟩:=U;exact⟨_,.one (stepR_ret rfl),rfl,rfl,rfl,rfl,rfl⟩
 obtain⟨q,s2,w⟩:=H;rw [←A.heap]at j;obtain⟨K,X2,s3,B,Y,Z,h3,a⟩:=za h (cs:=cs) s'.defs J a1.defers q H' j A.sr A.b A.defs w;rw [←Y]at s;obtain⟨u,g1,g2⟩:=D8 Z O (RR.ext' σ a A.az) s;refine⟨K,X2,u,?_,⟨B.1,B.2.1,B.2.2.1,B.2.2.2.1,fn,n,by rw [B.2.2.2.2];exact g1⟩,Y,Z,g2,E1.trans (a.mono E1.len),h3⟩;show Steps Q (lone b cs X.w) _;rw [hb];exact s1.trans (s2.trans s3)
theorem acE(hE:Env Q σ tab nz){m:Nat}{call:cU}(hC:fm Q σ call){b:Nat}{f:Nat}{tmps:T}{ps:List P}{as bd:aF}{q:eL}{pd:Option aF}{d:Nat}{X:Wd}(U:X.H[b]?=aa (.lp f tmps ps as bd q pd d))
  {args:List V} (S:args.length=ps.length) {g:Option aF} {s':St} (Y:run call f m (aa b) [.code as,.lW,.code bd] ⟨cM ps args tmps,[],X.H⟩=aa (g,s')) (d9:s'.defs.isEmpty=ae)
  {f':Nat} {v:T} {J:List P} {as' H:aF} {q':eL} {f7:Option aF} {d':Nat} (y:s'.heap[b]?=aa (.lp f' v J as' H q' f7 d'))
  {us:List Value} {c:Frame} {cs:List Frame} {L:Loc} (hS:SR Q σ X) (hB:X.B≤X.w.heap.size) (hA:A2 (VR σ X) args us) (hL:X.cD b=aa L) :
  ∃ f tmps as bd X' u,(Instr.yield L.c us.toArray).run Q X.w=.ok (.round L.c f tmps as bd) X.w ∧
   Steps Q (lone (Frame.round L.c f tmps as bd .normal) (c::cs) X.w) (lone (c.finish u) cs X'.w)∧fh Q σ X (.bool g.isNone) (s'.heap.set b (.lp f' v J as' H (if g.isNone then .ready else .done) g d')) X' u:=by
 obtain⟨n,ts,qs,z,A,f8,Ld,W,h2,h3,h4,h5,h6,h7,h8,h9⟩:=pB hS hL U;have hq:=(eM h4).len;have e_:us.toArray.size=qs.size:=by
  have:=hA.len;simp only [Array.length_toList]at hq;simp;omega
 have hy:=run_yield (P:=Q) (args:=us.toArray) W e_
 let F:Array Value:=(qs.zip us.toArray).foldl (fun tmps (t,a)=>tmps.setIfInBounds t a) ts
 have O:F=(qs.toList.zip us).foldl (fun tmps (t,a)=>tmps.setIfInBounds t a) ts:=by
  simp only [F];rw [←Array.foldl_toList];simp
 let M:Act:={ tmps:=F,defers:=[] }
 let B:Frame:=Frame.round L.c (σ f) F z A .normal
 have b_:B=B.atR M [.code z,.beginRound,.code A]:=by simp [B,M,Frame.round,Frame.atR]
 have c_:RR σ X (cM ps args tmps) F:=by
  rw [O];exact RR.cM ps qs.toList args us tmps ts n h2 h3 hA S h4
 have hn:n≤F.size:=by rw [O,rF];exact h2
 have hF:Fr Q σ n X ⟨cM ps args tmps,[],X.H⟩ M:=⟨rfl,hS,hB,c_,A2.nil,hn⟩
 have E:Dw X b:=⟨_,_,_,_,_,_,_,_,U⟩
 have hW:Way Q σ f n B (c::cs) (aa b) [.code as,.lW,.code bd] [.code z,.beginRound,.code A] ⟨cM ps args tmps,[],X.H⟩ X M:=
  ⟨hF,A2.cons (.code h5) (A2.cons .lW (A2.cons (.code h6) A2.nil)),⟨L,hL,rfl,E⟩,.inl rfl,rfl⟩
 obtain⟨X1,a1,x,s1,K,E1,_,Z⟩:=abK hC hE.mix f m n B (c::cs) (aa b) _ _ _ X M g s' Y hW;have N:=(E.ext E1).2 _ hL;rw [←K.heap]at y;obtain⟨n1,g_,f_,a_,b9,pend1,a8,s,k2,k3,k4,k5,k6,k7,k8,k9⟩:=pB K.sr N y;have I:∀(l:Option Code),xX Q σ n1 g l→l.isNone=g.isNone→step Q (lone (B.atR a1 x) (c::cs) X1.w)=.next (lone (c.finish (.bool l.isNone)) cs (X1.w.putObj L.c (.loop { state:=if l.isNone then .ready else .done,pending:=l,fn:=σ f',tmps:=g_,params:=f_,assign:=a_,body:=b9,defers:=a8.c }))) →
   ∃ f tmps as bd X' u,(Instr.yield L.c us.toArray).run Q X.w=.ok (.round L.c f tmps as bd) X.w ∧
   Steps Q (lone (Frame.round L.c f tmps as bd .normal) (c::cs) X.w) (lone (c.finish u) cs X'.w)∧fh Q σ X (.bool g.isNone) (s'.heap.set b (.lp f' v J as' H (if g.isNone then .ready else .done) g d')) X' u:=by
  intro l hj hn d_;obtain⟨g1,g2⟩:=zS K.sr N y (q':=if g.isNone then .ready else .done) (pend1:=g) (pend':=l) k2 k3 k4 k5 k6 hj k8 k9;have hq:(if g.isNone then eL.ready else eL.done).of=(if l.isNone then LoopState.ready else LoopState.done):=by
   rw [hn];cases g<;>rfl
  rw [hq]at g1 g2;refine⟨σ f,F,z,A,_,.bool l.isNone,hy,?_,?_,g1,?_,E1.trans (g2.mono E1.len),?_⟩
  ·show Steps Q (lone B (c::cs) X.w) _;rw [b_];exact s1.trans (.one d_)
  ·rw [←K.heap]
  ·rw [hn];exact VR.vj _
  ·have:=K.b;simpa [World.putObj]using this
 cases g with
 | none=>
  have:x=[]:=Z;subst this;exact I ab trivial rfl (stepR_round_end rfl rfl (run_endRound (P:=Q) ab s))
 | some j=>
  cases j with
  | ret=>
   obtain⟨k,rfl⟩:=Z;exact I (aa .ret) (by simp [xX,bU]) rfl (stepR_round_ret rfl rfl (run_endRound (P:=Q) (aa .ret) s))
  | exit id=>
   obtain⟨k,rfl,hx⟩:=Z;exact I (aa (.exit id)) (by simp [xX,bU]) rfl (stepR_round_exit rfl rfl hx (run_endRound (P:=Q) (aa (.exit id)) s))
  | _=>exact Z.elim
theorem Z4(x:Env Q σ tab nz)(m:Nat):∀ d,fm Q σ (eI tab nz m d):=by
 intro d;induction d with
 | zero=>exact⟨fun f args H r h=>by simp [eI]at h,fun f args H r H' h=>by simp [eI]at h,fun b args H r H' h=>by simp [eI]at h⟩
 | succ d S=>
  refine⟨fun f args H r h=>?_,fun f args H r H' h X us B cs J I F E U K=>?_,fun b args H r H' h X us c cs L J I F E hL=>?_⟩
  ·simp only [eI]at h;split at h
   ·rename_i r' N;obtain⟨r0,W⟩:=r;exact(x.nz f args H r0 W (by rw [N,h])).1
   ·split at h
    ·simp at h
    ·rename_i af l;obtain⟨fn,hf,hm⟩:=x.fn f af l;obtain⟨c,v,s,_⟩:=rz hm;exact pR hf v s
  ·simp only [eI]at h;split at h
   ·rename_i r' N;exact(x.nz f args H r H' (by rw [N,h])).2 X us B cs J I F E U K
   ·split at h
    ·simp at h
    ·rename_i af l;split at h
     ·rename_i g;split at h
      ·rename_i A s' j;split at h
       ·rename_i H1 u;simp only [IT,OF]at h;obtain⟨r1,z,rfl,rfl⟩:=h;subst J;exact aoQ x S l g j u z I F E U
       ·simp at h
      ·simp at h
     ·simp at h
  ·simp only [eI]at h;split at h
   ·rename_i f tmps ps as bd q pd d' M;split at h
    ·rename_i g;split at h
     ·rename_i A s' j;split at h
      ·rename_i hd;split at h
       ·rename_i f' O a_ as' Y q' a8 Z y;simp only [At,OF]at h;obtain⟨rfl,rfl⟩:=h;subst J;exact acE x S M g j hd y I F E hL
       ·simp at h
      ·simp at h
     ·simp at h
    ·simp at h
   ·simp at h
end
inductive AK where
 | no
 | set (b:Nat) (x:bq)
 | push (x:bq)
def AK.app(H:aj):AK→aj
 | .no=>H| .set b x=>H.set b x| .push x=>H++[x]
def tY(g:Nat→Option bq):C→Option (List C)
 | .ptr b off ep=>match g b with
  | some (.box cs _)=>aa (cs.drop off)| some (.cj _ cs _ e .loc)=>if ep=e then aa (cs.drop off)else ab| _=>ab
 | .f (.fp cs off)=>aa ((cs.drop off).map .f)| _=>ab
def al8(g:Nat→Option bq)(n:Option Nat):V→Option V
 | .c x=>(tY g x).bind (aQ n)| _=>ab
def qZ(g:Nat→Option bq):C→Option Nat
 | .sl b _ l _ ep sz=>match g b with
  | some (.box _ _)=>aa l| some (.cj s _ _ e _)=>if ep=e∧sz=s then aa l else ab| _=>ab
 | .f .au=>aa 0| .f .es=>aa 0| .f (.fs _ l)=>aa l| _=>ab
def pT(g:Nat→Option bq)(sz:Nat):C→Option (List C)
 | .sl b o l _ ep s=>match g b with
  | some (.box cs _)=>if o+l*sz≤cs.length then aa ((cs.drop o).take (l*sz))else ab| some (.cj s' cs _ e _)=>if ep=e∧s=s'∧o+l*sz≤cs.length then aa ((cs.drop o).take (l*sz))else ab| _=>ab
 | .f .au=>aa []| .f .es=>aa []| .f (.fs cs l)=>if cs.length=l*sz then aa (cs.map .f)else ab| _=>ab
def qP(g:Nat→Option bq):EI→C→Option Bool
 | .ptr,.f .ny=>aa ae| .ptr,.f (.fp _ _)=>aa ag| .ptr,.ptr _ _ _=>aa ag| .sl,.f .au=>aa ae| .sl,.f .es=>aa ag| .sl,.f (.fs _ _)=>aa ag
 | .sl,.sl b _ _ _ ep sz=>match g b with
  | some (.box _ _)=>aa ag| some (.cj s _ _ e st)=>if ep=e∧sz=s then aa (st == .nil)else ab| _=>ab
 | .fn,.f .iM=>aa ae| .fn,.f (.fn _ _)=>aa ag| .fn,.cl _ _=>aa ag| .fn,.bm _ _=>aa ag| .ifc,.f .lO=>aa ae| _,_=>ab
def alJ(g:Nat→Option bq):EI→V→V→Option Bool
 | .bool,.c x,.c y=>E4 .bool x y| .st b,.a xs,.a ys=>qa b xs ys| .ptr,.c x,.c (.f .ny)=>qP g .ptr x| .sl,.c x,.c (.f .au)=>qP g .sl x| .fn,.c x,.c (.f .iM)=>qP g .fn x| .ifc,.c x,.c (.f .lO)=>qP g .ifc x| _,_,_=>ab
def tD(g:Nat→Option bq)(sz:Nat)(x:V)(lo hi mx:Option V):Option V:=
 match x with
 | .c (.f .au)=>match cm 0 0 lo hi mx with
  | some _=>aa (.c (.f .au))| none=>ab
 | .c (.f .es)=>match cm 0 0 lo hi mx with
  | some _=>aa (.c (.f .es))| none=>ab
 | .c (.f (.fs cs n))=>match cm n n lo hi mx with
  | some (l,h,m)=>
   if mx.isSome∧m=l then aa (.c (.f .es))else
   aa (.c (.f (.fs ((cs.drop (l*sz)).take ((h-l)*sz)) (h-l))))
  | none=>ab
 | .c (.sl b o n cap ep s)=>match g b with
  | some (.box _ _)=>match cm n cap lo hi mx with
   | some (l,h,m)=>if m=l then aa (.c (.f .es))else aa (.c (.sl b (o+l*sz) (h-l) (m-l) ep s))| none=>ab
  | some (.cj s' cs _ e st)=>
   if ep=e∧s=sz∧s'=sz then
    match st with
    | .loc=>match cm n n lo hi mx with
     | some (l,h,m)=>
      if mx.isSome∧m=l then aa (.c (.f .es))
      else if l=h∧0<l then aa (.c (.f (.fs [] 0)))
      else if mx.isSome then(if 0<l then aa (.c (.sl b 0 0 0 ep (s'+1)))else ab)
      else aa (.c (.sl b (o+l*sz) (h-l) 0 ep s))
     | none=>match mx with
      | some _=>ab
      | none=>match cm n ((cs.length-o) / sz) lo hi ab with
       | some (l,h,_)=>if n≤(cs.length-o) / sz∧l<h then aa (.c (.sl b (o+l*sz) (h-l) 0 ep s))else ab| none=>ab
    | .nil=>match cm 0 0 lo hi mx with
     | some _=>aa (.c (.f .au))| none=>ab
    | .es=>match cm 0 0 lo hi mx with
     | some _=>aa (.c (.f .es))| none=>ab
   else ab
  | _=>ab
 | _=>ab
def zK(g:Nat→Option bq)(n sz:Nat)(x:V)(lo hi mx:Option V):Option V:=
 match x with
 | .c (.ptr b off _)=>match g b with
  | some (.box cs _)=>match cm n n lo hi mx with
   | some (l,h,m)=>if off+n*sz≤cs.length then(if m=l then aa (.c (.f .es))else aa (.c (.sl b (off+l*sz) (h-l) (m-l) 0 sz)))else ab| none=>ab
  | _=>ab
 | .c (.f (.fp cs off))=>match cm n n lo hi mx with
   | some (l,h,m)=>if off+n*sz≤cs.length then(if m=l then aa (.c (.f .es))else aa (.c (.f (.fs ((cs.drop (off+l*sz)).take ((h-l)*sz)) (h-l)))))else ab| none=>ab
 | _=>ab
def vd(g:Nat→Option bq)(sz:Nat)(d:Option Nat)(x i:V):Option V:=
 match hZ i with
 | none=>ab
 | some i=>
  if 0≤i then
   match d,x with
   | none,.c (.sl b o l _ ep s)=>if i<l then
     (match g b with
      | some (.box _ _)=>aa (.c (.ptr b (o+i.toNat*sz) ep))| some (.cj s' _ _ e .loc)=>if ep=e∧s=s' then aa (.c (.ptr b (o+i.toNat*sz) ep))else ab
      | _=>ab)else ab
   | none,.c (.f (.fs cs l))=>if i<l then aa (.c (.f (.fp cs (i.toNat*sz))))else ab| some n,.c (.ptr b o ep)=>if i<n then aa (.c (.ptr b (o+i.toNat*sz) ep))else ab| some n,.c (.f (.fp cs o))=>if i<n then aa (.c (.f (.fp cs (o+i.toNat*sz))))else ab| _,_=>ab
  else ab
def vg(g:Nat→Option bq)(d:CK)(z:FC):V→V→Option V
 | .c (.f .wR),.c (.f k)=>if isKey d k then aa (lkR z ab)else ab
 | .c (.mp b),.c (.f k)=>match g b with
  | some (.map j)=>if isKey d k then(mu d k j).map (lkR z)else ab| _=>ab
 | _,_=>ab
def Da(g:Nat→Option bq):V→Option V
 | .c x=>match qZ g x with
  | some _=>match pT g 1 x with
   | some cs=>(bg (fun c=>match c with | C.f (.int .u8 n)=>aa (UInt8.ofNat n.toNat) | _=>ab) cs).map fun l=>.c (.f (.str ⟨l.toArray⟩))
   | none=>ab
  | none=>ab
 | _=>ab
def oO(g:Nat→Option bq)(sz:Nat):V→Option (Nat × List C)
 | .c (.f (.str s))=>if sz=1 then aa (s.size,s.toList.map fun b=>.f (.int .u8 b.toNat))else ab
 | .c x=>match qZ g x,pT g sz x with
  | some l,aa cs=>aa (l,cs)| _,_=>ab
 | _=>ab
def Ea(g:Nat→Option bq):C→Option Nat
 | .sl b _ _ c ep sz=>match g b with
  | some (.box _ _)=>aa c| some (.cj s _ _ e .nil)=>if ep=e∧sz=s then aa 0 else ab| some (.cj s _ _ e .es)=>if ep=e∧sz=s then aa 0 else ab| _=>ab
 | .f .au=>aa 0| .f .es=>aa 0| _=>ab
def zc(g:Nat→Option bq):V→Option V
 | .c (.mi b)=>match g b with
  | some (.wC m _ ae)=>match g m with
   | some (.map [e])=>aa (.t [.c (.f e.1),mV e.2])| _=>ab
  | _=>ab
 | _=>ab
def ab'(g:Nat→Option bq)(x:C)(xs:List C):Option AK:=
 match x with
 | .ptr b off ep=>match g b with
  | some (.box cs fl)=>if fl≤off∧off+xs.length≤cs.length then aa (.set b (.box (over cs off xs) fl))else ab| some (.cj sz cs fl e .loc)=>if ep=e∧fl≤off∧off+xs.length≤cs.length then aa (.set b (.cj sz (over cs off xs) fl e .loc))else ab| _=>ab
 | _=>ab
def DR(g:Nat→Option bq):V→Option (V × AK)
 | .c (.it b)=>match g b with
  | some (.it s pos)=>
   if pos<s.size then
    let r:=Utf8.decode s pos
    aa (.t [.bool ae,.int .i64 pos,.int .i32 r.1],.set b (.it s (pos+r.2)))
   else aa (.t [.bool ag],.no)
  | _=>ab
 | _=>ab
def tU(g:Nat→Option bq)(d:Nat)(sz bytes:Nat)(x y:V):Option (V × AK):=
 match oO g sz y with
 | none=>ab
 | some (m,ys)=>
  if sz=0 then ab else
  match x with
  | .c (.f .au)=>if m=0 then aa (.c (.f .au),.no)else
    if bY m bytes then aa (.c (.sl d 0 m 0 0 sz),.push (.cj sz ys 0 0 .loc))else ab
  | .c (.f .es)=>if m=0 then aa (.c (.f .es),.no)else
    if bY m bytes then aa (.c (.sl d 0 m 0 0 sz),.push (.cj sz ys 0 0 .loc))else ab
  | .c (.sl b o l cap ep s)=>match g b with
   | some (.box cs fl)=>
    if l+m≤cap then
     if fl≤o+l*sz∧o+l*sz+ys.length≤cs.length then aa (.c (.sl b o (l+m) cap ep s),.set b (.box (over cs (o+l*sz) ys) fl))else ab
    else if bY (l+m) bytes∧o+l*sz≤cs.length then aa (.c (.sl d 0 (l+m) 0 0 sz),.push (.cj sz ((cs.drop o).take (l*sz)++ys) 0 0 .loc))else ab
   | some (.cj s' cs fl e st)=>
    if ep=e∧s'=sz∧s=sz then
     if m=0 then aa (x,.no)
     else if o=0∧l*sz=cs.length∧fl≤cs.length then
      if bY (l+m) bytes then aa (.c (.sl b 0 (l+m) 0 (ep+1) sz),.set b (.cj sz (cs++ys) fl (e+1) .loc))else ab
     else if st=.loc∧fl≤o+l*sz∧o+l*sz+ys.length≤cs.length then
      aa (.c (.sl b o (l+m) 0 ep sz),.set b (.cj sz (over cs (o+l*sz) ys) fl e .loc))
     else ab
    else ab
   | _=>ab
  | _=>ab
def C_(g:Nat→Option bq)(sz:Nat)(x y:V):Option (V × AK):=
 match oO g sz y,x with
 | some _,.c (.f .au)=>aa (.int .i64 0,.no)| some _,.c (.f .es)=>aa (.int .i64 0,.no)
 | some (m,ys),.c (.sl b o l _ ep s')=>
  let n:=Nat.min m l
  match g b with
  | some (.box cs fl)=>if fl≤o∧o+n*sz≤cs.length then aa (.int .i64 n,.set b (.box (over cs o (ys.take (n*sz))) fl))else ab| some (.cj s cs fl e .loc)=>if ep=e∧s'=s∧s=sz∧fl≤o∧o+n*sz≤cs.length then aa (.int .i64 n,.set b (.cj s (over cs o (ys.take (n*sz))) fl e .loc))else ab| _=>ab
 | _,_=>ab
def y0(g:Nat→Option bq)(sz:Nat)(zs:List FC)(x:V):Option AK:=
 match x with
 | .c y=>match qZ g y with
  | some 0=>aa .no
  | some l=>
   if zs.length=sz then
    match y with
    | .sl b o _ _ ep s=>match g b with
     | some (.box _ _)=>ab' g (.ptr b o ep) ((cG l zs).map .f)| some (.cj s' _ _ e .loc)=>if ep=e∧s=s' then ab' g (.ptr b o ep) ((cG l zs).map .f)else ab| _=>ab
    | _=>ab
   else ab
  | none=>ab
 | _=>ab
def Ed(g:Nat→Option bq)(sz:Nat)(x hi mx:V):Option (V × AK):=
 match tD g sz x ab (aa hi) (aa mx)with
 | some v=>aa (v,.no)
 | none=>match x with
  | .c (.sl b o n _ ep s)=>match g b with
   | some (.cj s' cs fl e .loc)=>
    if ep=e∧s=sz∧s'=sz∧o=0 then
     match CB hi n,CB mx n with
     | some i,aa j=>
      if i=j∧0<i∧i*sz≤cs.length then
       match bg fcC (cs.take (i*sz))with
       | some ys=>aa (.c (.f (.fs ys i)),.set b (.cj s' cs (Nat.max fl (i*sz)) e .loc))| none=>ab
      else ab
     | _,_=>ab
    else ab
   | _=>ab
  | _=>ab
def C4(g:Nat→Option bq)(b:Nat)(sz bytes:Nat)(zs:List FC)(x n:V):Option (V × AK):=
 match hZ n with
 | some n=>
  if 0≤n∧zs.length=sz then
   match x with
   | .c (.f .au)=>if n.toNat=0 then aa (.c (.f .au),.no)else
     if bY n.toNat bytes then aa (.c (.sl b 0 n.toNat 0 0 sz),.push (.cj sz ((cG n.toNat zs).map .f) 0 0 .loc))else ab
   | .c (.f .es)=>if n.toNat=0 then aa (.c (.f .es),.no)else
     if bY n.toNat bytes then aa (.c (.sl b 0 n.toNat 0 0 sz),.push (.cj sz ((cG n.toNat zs).map .f) 0 0 .loc))else ab
   | _=>ab
  else ab
 | none=>ab
def zA(g:Nat→Option bq):V→Option (V × AK)
 | .c (.mi b)=>match g b with
  | some (.wC m d done)=>match g m with
   | some (.map [])=>if done then ab else aa (.t [.bool ag],.no)| some (.map [e])=>if done then aa (.t [.bool ag],.no)else if d=1 then aa (.t [.bool ae,.c (.f e.1),mV e.2],.set b (.wC m 1 ae))else ab| _=>ab
  | _=>ab
 | _=>ab
def vJ(g:Nat→Option bq)(j:Nat):V→Option (V × AK)
 | .c (.mp b)=>match g b with
  | some (.map d)=>if d.length≤1 then aa (.c (.mi j),.push (.wC b d.length ag))else ab| _=>ab
 | _=>ab
def acB(az:T)(g:Nat→Option bq)(d:Nat):da→Option (V × AK)
 | .a7 x=>aa (x.ev az,.no)| .pre o sz=>if o=.loc∨sz=0 then ab else aa (.c (.sl d 0 0 0 0 sz),.push (.cj sz [] 0 0 o))
 | .pick c a b=>match c.ev az with
  | .c (.f (.bool v))=>aa ((if v then a else b).ev az,.no)| _=>ab
 | .alloc zs=>aa (.c (.ptr d 0 0),.push (.box (zs.map .f) 0))
 | .box x=>match (x.ev az).cells? with
  | some xs=>aa (.c (.ptr d 0 0),.push (.box xs 0))| none=>ab
 | .build zs ps=>(dN az (zs.map .f) ps).map fun cs=>(.a cs,.no)
 | .bP sz zs n ps=>
  if n=0 then(if ps.isEmpty then aa (.c (.f .es),.no)else ab)else
  (dN az ((cG n zs).map .f) (ps.map fun p=>(p.1*sz,sz,p.2))).map fun cs=>(.c (.sl d 0 n n 0 sz),.push (.box cs 0))
 | .load n x=>(al8 g n (x.ev az)).map (·,.no)
 | .store n x y=>match x.ev az,(y.ev az).cells? with
  | .c p,aa xs=>if xs.length=n then(ab' g p xs).map (.top,·)else ab| _,_=>ab
 | .cq x=>match x.ev az with
  | .c (.ptr b o e)=>aa (.c (.ptr b o e),.no)| .c (.f (.fp cs o))=>aa (.c (.f (.fp cs o)),.no)| _=>ab
 | .bin op x y=>(dq op (x.ev az) (y.ev az)).map (·,.no)| .eq neg k x y=>(alJ g k (x.ev az) (y.ev az)).map fun b=>(.bool (if neg then !b else b),.no)
 | .un op x=>(unV op (x.ev az)).map (·,.no)
 | .fP k x=>match x.ev az with
  | .c (.f (.int _ n))=>aa (.int k (k.wrap n),.no)| _=>ab
 | .wJ x=>match x.ev az with
  | .c (.f (.str s))=>aa (.c (.f (.str s)),.no)| _=>ab
 | .wI x=>(Da g (x.ev az)).map (·,.no)
 | .Db x=>match x.ev az with
  | .c (.f (.str s))=>if s.size<2 ^ 48 then aa (.c (.sl d 0 s.size 0 0 1),.push (.cj 1 (s.toList.map fun b=>.f (.int .u8 b.toNat)) 0 0 .loc))else ab
  | _=>ab
 | .fQ f j=>(bg lY (dz az j)).map fun xs=>(.c (.cl f xs),.no)
 | .jx=>aa (.c (.mp d),.push (.map []))| .lookup q z m k=>(vg g q z (m.ev az) (k.ev az)).map (·,.no)
 | .iQ q m k v=>match m.ev az,k.ev az,oR (v.ev az)with
  | .c (.mp b),.c (.f k),aa v=>match g b with
   | some (.map A)=>if isKey q k then(pG q k v A).map fun A=>(.top,.set b (.map A))else ab
   | _=>ab
  | _,_,_=>ab
 | .dZ sz bytes zs l c=>match hZ (l.ev az),hZ (c.ev az)with
  | some l,aa c=>
   if 0≤l∧l≤c∧bY c.toNat bytes=ae∧zs.length=sz then
    (if c=0 then aa (.c (.f .es),.no)else
    aa (.c (.sl d 0 l.toNat c.toNat 0 sz),.push (.box ((cG c.toNat zs).map .f) 0)))
   else ab
  | _,_=>ab
 | .slice sz x lo hi mx=>(tD g sz (x.ev az) (lo.map (·.ev az)) (hi.map (·.ev az)) (mx.map (·.ev az))).map (·,.no)| .mF n sz x lo hi mx=>(zK g n sz (x.ev az) (lo.map (·.ev az)) (hi.map (·.ev az)) (mx.map (·.ev az))).map (·,.no)| .nT x lo hi=>(vY (x.ev az) (lo.map (·.ev az)) (hi.map (·.ev az))).map (·,.no)| .aR off x=>(iY off (x.ev az)).map (·,.no)| .field off n x=>(jT off n (x.ev az)).map (·,.no)| .bM sz u x i=>(vd g sz u (x.ev az) (i.ev az)).map (·,.no)| .idxs x i=>(Bn (x.ev az) (i.ev az)).map (·,.no)| .wL len sz n x i=>(Bm len sz n (x.ev az) (i.ev az)).map (·,.no)
 | .range x=>match x.ev az with
  | .c (.f (.str s))=>aa (.c (.it d),.push (.it s 0))| _=>ab
 | .next x=>DR g (x.ev az)
 | .extract x i=>match x.ev az with
  | .t E=>(E[i]?).map (·,.no)| _=>ab
 | .nv n=>aa (.int .i64 n,.no)
 | .lens x=>match x.ev az with
  | .c (.f (.str s))=>aa (.int .i64 (s.size:Nat),.no)| _=>ab
 | .len x=>match x.ev az with
  | .c y=>match qZ g y with
   | some n=>aa (.int .i64 (n:Nat),.no)| none=>ab
  | _=>ab
 | .append sz bytes x y=>tU g d sz bytes (x.ev az) (y.ev az)| .copy sz x y=>C_ g sz (x.ev az) (y.ev az)| .gG lo xs=>(wP lo (dz az xs)).map (·,.no)| .clear sz zs x=>(y0 g sz zs (x.ev az)).map (.t [],·)| .fL sz zs n ps=>((dN az ((cG n zs).map .f) (ps.map fun p=>(p.1*sz,sz,p.2))).bind fun cs=>if n=0 then ab else fcL cs).map fun B=>(.c (.f (.fs B n)),.no)
 | .vV sz x hi mx=>Ed g sz (x.ev az) (hi.ev az) (mx.ev az)| .kQ sz bytes zs x n=>C4 g d sz bytes zs (x.ev az) (n.ev az)| .jZ x=>vJ g d (x.ev az)| .nR x=>zA g (x.ev az)| .entry x=>(zc g (x.ev az)).map (·,.no)| .mq f xs=>(bg lY (dz az xs)).map fun xs=>(.c (.bm f xs),.no)
 | .cap x=>match x.ev az with
  | .c y=>match Ea g y with
   | some n=>aa (.int .i64 (n:Nat),.no)| none=>ab
  | _=>ab
 | _=>ab
def gt(H:aj):Nat→Option bq:=fun b=>H[b]?
theorem A3(H:aj):tY (gt H)=aE H:=by funext x;unfold tY aE gt;rfl
theorem ahL(H:aj):al8 (gt H)=aS H:=by funext n x;unfold al8 aS;rw [A3];rfl
theorem nh(H:aj):qZ (gt H)=bt H:=by funext x;unfold qZ bt gt;rfl
theorem rG(H:aj):pT (gt H)=cS H:=by funext n x;unfold pT cS gt;rfl
theorem OP(H:aj):qP (gt H)=isNil H:=by funext k x;unfold qP isNil gt;rfl
theorem ahk(H:aj):alJ (gt H)=CC H:=by funext k x y;unfold alJ CC;rw [OP];rfl
theorem vW(H:aj):tD (gt H)=eQ H:=by funext n x a b c;unfold tD eQ gt;rfl
theorem Eb(H:aj):zK (gt H)=ka H:=by funext m n x a b c;unfold zK ka gt;rfl
theorem Bp(H:aj):vd (gt H)=bA H:=by funext n a x i;unfold vd bA gt;rfl
theorem Bx(H:aj):vg (gt H)=fV H:=by funext k z x y;unfold vg fV gt;rfl
theorem Oo(H:aj):Da (gt H)=nO H:=by funext x;unfold Da nO;rw [nh,rG];rfl
theorem nY(H:aj):oO (gt H)=cX H:=by funext n x;unfold oO cX;rw [nh,rG];rfl
theorem Ps(H:aj):Ea (gt H)=iS H:=by funext x;unfold Ea iS gt;rfl
theorem Dc(H:aj):zc (gt H)=kS H:=by funext x;unfold zc kS gt;rfl
def jm(H:aj)(r:Option (V × AK)):Option (V × aj):=r.map fun r=>(r.1,r.2.app H)
theorem zL(H:aj)(x:C)(xs:List C):(ab' (gt H) x xs).map (·.app H)=de H x xs:=by
 cases x with
 | ptr b off ep=>
  simp only [ab',de,gt];cases h:H[b]? with
  | none=>rfl
  | some bj=>
   cases bj with
   | box cs fl=>simp only;split<;>rfl
   | cj sz cs fl e st=>cases st<;>simp only<;>first | rfl | (split<;>rfl)
   | _=>rfl
 | _=>rfl
theorem O6(H:aj)(x:V):jm H (DR (gt H) x)=Fz H x:=by
 cases x with
 | c x=>
  cases x with
  | it b=>
   simp only [DR,Fz,gt,jm];cases h:H[b]? with
   | none=>rfl
   | some bj=>
    cases bj with
    | it s pos=>simp only;split<;>rfl
    | _=>rfl
  | _=>rfl
 | _=>rfl
theorem On(H:aj)(sz:Nat)(x y:V):jm H (C_ (gt H) sz x y)=copyV H sz x y:=by
 unfold C_ copyV jm;rw [nY];cases d:cX H sz y with
 | none=>rfl
 | some r=>
  obtain⟨m,ys⟩:=r;cases x with
  | c x=>
   cases x with
   | f x=>cases x<;>rfl
   | sl b o l cap ep s=>
    simp only [gt];cases h:H[b]? with
    | none=>rfl
    | some bj=>
     cases bj with
     | box cs fl=>simp only;split<;>rfl
     | cj sz cs fl e st=>cases st<;>simp only<;>first | rfl | (split<;>rfl)
     | _=>rfl
   | _=>rfl
  | _=>rfl
theorem AU(H:aj)(sz bytes:Nat)(x y:V):jm H (tU (gt H) H.length sz bytes x y)=cI H sz bytes x y:=by
 unfold tU cI jm;rw [nY];cases d:cX H sz y with
 | none=>rfl
 | some r=>
  obtain⟨m,ys⟩:=r;simp only;by_cases h0:sz=0
  ·simp [h0]
  ·simp only [h0,if_false];cases x with
   | c x=>
    cases x with
    | f x=>cases x<;>first | rfl | (simp only;repeat' (first | rfl | split))
    | sl b o l cap ep s=>
     simp only [gt];cases h:H[b]? with
     | none=>rfl
     | some bj=>
      cases bj with
      | box cs fl=>simp only;repeat' (first | rfl | split)
      | cj sz cs fl e st=>simp only;repeat' (first | rfl | split)
      | _=>rfl
    | _=>rfl
   | _=>rfl
theorem C7(H:aj)(sz:Nat)(zs:List FC)(x:V):(y0 (gt H) sz zs x).map (·.app H)=oe H sz zs x:=by
 unfold y0 oe;cases x with
 | c y=>
  simp only [nh];cases bt H y with
  | none=>rfl
  | some l=>
   cases l with
   | zero=>rfl
   | succ l=>
    simp only;split
    ·cases y with
     | sl b o l' c ep s=>
      simp only [gt];cases h:H[b]? with
      | none=>rfl
      | some bj=>
       cases bj with
       | box cs fl=>exact zL H _ _
       | cj s' cs fl e st=>
        cases st<;>simp only<;>first | rfl | skip
        split
        ·exact zL H _ _
        ·rfl
       | _=>rfl
     | _=>rfl
    ·rfl
 | _=>rfl
theorem NV(H:aj)(sz bytes:Nat)(zs:List FC)(x n:V):jm H (C4 (gt H) H.length sz bytes zs x n)=tV H sz bytes zs x n:=by
 unfold C4 tV jm;cases hZ n with
 | none=>rfl
 | some n=>
  simp only;split
  ·cases x with
   | c x=>
    cases x with
    | f x=>cases x<;>first | rfl | (simp only;repeat' (first | rfl | split))
    | _=>rfl
   | _=>rfl
  ·rfl
theorem Pv(H:aj)(sz:Nat)(x hi mx:V):jm H (Ed (gt H) sz x hi mx)=Cf H sz x hi mx:=by
 unfold Ed Cf jm;rw [vW];cases eQ H sz x ab (aa hi) (aa mx)with
 | some v=>rfl
 | none=>
  simp only;cases x with
  | c x=>
   cases x with
   | sl b o n c ep s=>
    simp only [gt];cases H[b]? with
    | none=>rfl
    | some bj=>
     cases bj with
     | cj s' cs fl e st=>
      cases st<;>simp only<;>first | rfl | skip
      split
      ·cases CB hi n<;>cases CB mx n<;>simp only<;>first | rfl | skip
       split
       ·cases bg fcC (List.take _ cs)<;>rfl
       ·rfl
      ·rfl
     | _=>rfl
   | _=>rfl
  | _=>rfl
theorem DS(H:aj)(x:V):jm H (zA (gt H) x)=zz H x:=by
 cases x with
 | c x=>
  cases x with
  | mi b=>
   simp only [zA,zz,gt,jm];cases h:H[b]? with
   | none=>rfl
   | some bj=>
    cases bj with
    | wC m g done=>
     simp only;cases l:H[m]? with
     | none=>rfl
     | some d=>
      cases d with
      | map j=>
       match j with
       | []=>simp only;split<;>rfl
       | [e]=>simp only;repeat' (first | rfl | split)
       | _::_::_=>rfl
      | _=>rfl
    | _=>rfl
  | _=>rfl
 | _=>rfl
theorem B3(H:aj)(x:V):jm H (vJ (gt H) H.length x)=tv H x:=by
 cases x with
 | c x=>
  cases x with
  | mp b=>
   simp only [vJ,tv,gt,jm];cases h:H[b]? with
   | none=>rfl
   | some bj=>
    cases bj with
    | map d=>simp only;split<;>rfl
    | _=>rfl
  | _=>rfl
 | _=>rfl
theorem EO{H:aj}(o:Option V):jm H (o.map (·,.no))=o.map (·,H):=by cases o<;>rfl
theorem zT(az:T)(H:aj)(op:da):jm H (acB az (gt H) H.length op)=bo az H op:=by
 cases op<;>simp only [acB,bo,EO,ahL,vW,Eb,Bp,Bx,Oo,AU,On,O6,NV,Pv,DS,B3,Dc]
 all_goals first | rfl | skip
 case pre o sz=>split<;>rfl
 case pick c a b=>
  generalize c.ev az=v;cases v<;>try rfl
  rename_i x;cases x<;>try rfl
  rename_i x;cases x<;>rfl
 case box x=>generalize (x.ev az).cells?=o;cases o<;>rfl
 case build zs ps=>cases dN az (zs.map .f) ps<;>rfl
 case bP sz zs n ps=>
  split
  ·split<;>rfl
  ·simp only [jm,atO];rfl
 case fL sz zs n ps=>
  generalize (dN az ((cG n zs).map .f) (ps.map fun p=>(p.1*sz,sz,p.2))).bind (fun cs=>if n=0 then ab else fcL cs)=o;cases o<;>rfl
 case store n x y=>
  generalize x.ev az=v;generalize (y.ev az).cells?=o;cases v<;>cases o<;>try rfl
  simp only;split
  ·rw [←zL];simp only [jm,atO];rfl
  ·rfl
 case cq x=>
  generalize x.ev az=v;cases v<;>try rfl
  rename_i x;cases x<;>try rfl
  rename_i x;cases x<;>rfl
 case eq neg k x y=>rw [ahk];simp only [jm,atO];rfl
 case fP k x=>
  generalize x.ev az=v;cases v<;>try rfl
  rename_i x;cases x<;>try rfl
  rename_i x;cases x<;>rfl
 case wJ x=>
  generalize x.ev az=v;cases v<;>try rfl
  rename_i x;cases x<;>try rfl
  rename_i x;cases x<;>rfl
 case Db x=>
  generalize x.ev az=v;cases v<;>try rfl
  rename_i x;cases x<;>try rfl
  rename_i x;cases x<;>try rfl
  simp only;split<;>rfl
 case fQ f d=>simp only [jm,atO];rfl
 case iQ g m k v=>
  generalize m.ev az=m;generalize k.ev az=k;generalize oR (v.ev az)=v;cases m<;>try rfl
  rename_i m;cases m<;>try rfl
  cases k<;>try rfl
  rename_i k;cases k<;>try rfl
  cases v<;>try rfl
  simp only [gt];rename_i b k v;cases H[b]? with
  | none=>rfl
  | some bj=>
   cases bj<;>try rfl
   simp only;split
   ·simp only [jm,atO];rfl
   ·rfl
 case dZ sz bytes zs l c=>
  generalize hZ (l.ev az)=l;generalize hZ (c.ev az)=c;cases l<;>cases c<;>try rfl
  simp only;split
  ·split<;>rfl
  ·rfl
 case range x=>
  generalize x.ev az=v;cases v<;>try rfl
  rename_i x;cases x<;>try rfl
  rename_i x;cases x<;>rfl
 case extract x i=>
  generalize x.ev az=v;cases v<;>try rfl
  simp only [EO]
 case len x=>
  generalize x.ev az=v;cases v<;>try rfl
  rw [nh];simp only;rename_i y;cases bt H y<;>rfl
 case lens x=>
  generalize x.ev az=v;cases v<;>try rfl
  rename_i x;cases x<;>try rfl
  rename_i x;cases x<;>rfl
 case clear sz zs x=>rw [←C7];simp only [jm,atO];rfl
 case mq f d=>simp only [jm,atO];rfl
 case cap x=>
  generalize x.ev az=v;cases v<;>try rfl
  rw [Ps];simp only;rename_i y;cases iS H y<;>rfl
section
set_option linter.unusedVariables false
inductive BT(α:Type) where
 | e
 | n (l:BT α) (x:α) (r:BT α)
def BT.get{d:Type}:BT d→Nat→Option d
 | .e,_=>ab
 | .n l x r,b=>match b with
  | 0=>aa x| m+1=>if m % 2=0 then l.get (m / 2)else r.get (m / 2)
abbrev HT:=BT bq
def gS{j:Type}(b:Nat)(t:BT j)(k:j→Prop):Prop:=
 BT.rec (motive:=fun _=>Nat→Prop) (fun _=>False)
  (fun _ x _ d g b=>Nat.rec (motive:=fun _=>Prop) (k x) (fun m _=>Nat.rec (motive:=fun _=>Prop) (d (Nat.div m 2)) (fun _ _=>g (Nat.div m 2)) (Nat.mod m 2)) b) t b
def gC{d:Type}(x:d)(t:BT d):Nat→(BT d→Prop)→Prop:=
 BT.rec (motive:=fun _=>Nat→(BT d→Prop)→Prop) (fun _ _=>False)
  (fun l y r g j b k=>Nat.rec (motive:=fun _=>Prop) (k (.n l x r))
   (fun m _=>Nat.rec (motive:=fun _=>Prop) (g (Nat.div m 2) fun l'=>k (.n l' y r)) (fun _ _=>j (Nat.div m 2) fun r'=>k (.n l y r')) (Nat.mod m 2)) b) t
def yW{d:Type}(x:d)(t:BT d):Nat→(BT d→Prop)→Prop:=
 BT.rec (motive:=fun _=>Nat→(BT d→Prop)→Prop) (fun b k=>Nat.rec (motive:=fun _=>Prop) (k (.n .e x .e)) (fun _ _=>False) b)
  (fun l y r g j b k=>Nat.rec (motive:=fun _=>Prop) False
   (fun m _=>Nat.rec (motive:=fun _=>Prop) (g (Nat.div m 2) fun l'=>k (.n l' y r)) (fun _ _=>j (Nat.div m 2) fun r'=>k (.n l y r')) (Nat.mod m 2)) b) t
theorem abc(m:Nat):m % 2=0∨m % 2=1:=by omega
theorem dW{u:Type}{t:BT u}:∀ {b:Nat} {k:u→Prop},gS b t k→∃ x,t.get b=aa x∧k x:=by
 induction t with
 | e=>intro b k h;exact h.elim
 | n l x r q s=>
  intro b k h;cases b with
  | zero=>exact⟨x,rfl,h⟩
  | succ m=>
   have j:Nat.rec (motive:=fun _=>Prop) (gS (m / 2) l k) (fun _ _=>gS (m / 2) r k) (m % 2):=h;rcases abc m with e | e<;>rw [e]at j
   ·obtain⟨y,d,g⟩:=q j;exact⟨y,by simp [BT.get,e,d],g⟩
   ·obtain⟨y,d,g⟩:=s j;exact⟨y,by simp [BT.get,e,d],g⟩
def nM{d:Type}(t g:BT d)(b:Nat)(x:d):Prop:=∀ i,g.get i=if i=b then aa x else t.get i
theorem nM.left{d:Type}{l l' r:BT d}{y x:d}{m:Nat}(e:m % 2=0)(h:nM l l' (m / 2) x):nM (.n l y r) (.n l' y r) (m+1) x:=by
 intro i;cases i with
 | zero=>simp [BT.get]
 | succ j=>
  simp only [BT.get,h (j / 2)];rcases abc j with b | b
  ·have:(j / 2=m / 2)↔(j=m):=by omega
   simp [b,this]
  ·have:j≠m:=by omega
   simp [b,this]
theorem nM.right{d:Type}{l r' r:BT d}{y x:d}{m:Nat}(e:m % 2=1)(h:nM r r' (m / 2) x):nM (.n l y r) (.n l y r') (m+1) x:=by
 intro i;cases i with
 | zero=>simp [BT.get]
 | succ j=>
  simp only [BT.get,h (j / 2)];rcases abc j with b | b
  ·have:j≠m:=by omega
   simp [b,this]
  ·have:(j / 2=m / 2)↔(j=m):=by omega
   simp [b,this]
theorem Z1{v:Type}{x:v}{t:BT v}:∀ {b:Nat} {k:BT v→Prop},gC x t b k→∃ A,nM t A b x∧(∃ y,t.get b=aa y)∧k A:=by
 induction t with
 | e=>intro b k h;exact h.elim
 | n l y r s u=>
  intro b k h;cases b with
  | zero=>
   refine⟨.n l x r,fun i=>?_,⟨y,rfl⟩,h⟩;cases i<;>simp [BT.get]
  | succ m=>
   have q:Nat.rec (motive:=fun _=>Prop) (gC x l (m / 2) fun l'=>k (.n l' y r)) (fun _ _=>gC x r (m / 2) fun r'=>k (.n l y r')) (m % 2):=h;rcases abc m with e | e<;>rw [e]at q
   ·obtain⟨l',d,⟨z,g⟩,j⟩:=s q;exact⟨_,d.left e,⟨z,by simp [BT.get,e,g]⟩,j⟩
   ·obtain⟨l',d,⟨z,g⟩,j⟩:=u q;exact⟨_,d.right e,⟨z,by simp [BT.get,e,g]⟩,j⟩
theorem NX{u:Type}{x:u}{t:BT u}:∀ {b:Nat} {k:BT u→Prop},yW x t b k→∃ v,nM t v b x∧k v:=by
 induction t with
 | e=>
  intro b k h;cases b with
  | zero=>
   refine⟨.n .e x .e,fun i=>?_,h⟩;cases i<;>simp [BT.get]
  | succ m=>exact h.elim
 | n l y r q s=>
  intro b k h;cases b with
  | zero=>exact h.elim
  | succ m=>
   have j:Nat.rec (motive:=fun _=>Prop) (yW x l (m / 2) fun l'=>k (.n l' y r)) (fun _ _=>yW x r (m / 2) fun r'=>k (.n l y r')) (m % 2):=h;rcases abc m with e | e<;>rw [e]at j
   ·obtain⟨l',d,g⟩:=q j;exact⟨_,d.left e,g⟩
   ·obtain⟨l',d,g⟩:=s j;exact⟨_,d.right e,g⟩
def df(H:aj)(t:HT):Prop:=t.get=gt H
theorem df.nil:df [] .e:=by funext b;simp [BT.get,gt]
theorem df.set{H:aj}{t g:HT}(h:df H t){b:Nat}{x:bq}(l:nM t g b x)(j:∃ y,t.get b=aa y):df (H.set b x) g:=by
 funext i;obtain⟨y,hy⟩:=j;rw [h]at hy;have d:b<H.length:=(BY.1 hy).1;rw [l i,h];simp only [gt];by_cases e:i=b
 ·subst e;simp [d]
 ·simp [e,AI (Ne.symm e)]
theorem df.push{H:aj}{t b:HT}(h:df H t){x:bq}(d:nM t b H.length x):df (H++[x]) b:=by
 funext i;rw [d i,h];simp only [gt];by_cases e:i=H.length
 ·subst e;simp
 ·by_cases hi:i<H.length
  ·simp [e,List.getElem?_append_left hi]
  ·rw [IS (by omega)];have:i-H.length≠0:=by omega
   simp [e,atg (l:=H) (i:=i) (by omega),this]
def cw(n:Nat)(k:Nat→Prop):Prop:=Nat.rec (motive:=fun _=>Prop) (k 0) (fun m _=>k (Nat.succ m)) n
def qD(n:Int)(k:Int→Prop):Prop:=Int.rec (motive:=fun _=>Prop) (fun n=>cw n fun n=>k (.ofNat n)) (fun n=>cw n fun n=>k (.negSucc n)) n
def me(b:Bool)(k:Bool→Prop):Prop:=Bool.rec (motive:=fun _=>Prop) (k ag) (k ae) b
theorem cA(n:Nat)(k:Nat→Prop):cw n k=k n:=by cases n<;>rfl
theorem xJ(n:Int)(k:Int→Prop):qD n k=k n:=by cases n<;>simp only [qD,cA]
theorem gY(b:Bool)(k:Bool→Prop):me b k=k b:=by cases b<;>rfl
def Dj(x:FC)(k:FC→Prop):Prop:=match x with
 | .bool b=>me b fun b=>k (.bool b)
 | .int j n=>qD n fun n=>k (.int j n)
 | .fp cs o=>cw o fun o=>k (.fp cs o)
 | .fs cs l=>cw l fun l=>k (.fs cs l)
 | x=>k x
theorem OC(x:FC)(k:FC→Prop):Dj x k=k x:=by cases x<;>simp only [Dj,cA,xJ,gY]
def qB(x:C)(k:C→Prop):Prop:=match x with
 | .f x=>Dj x fun x=>k (.f x)
 | .ptr b o e=>cw b fun b=>cw o fun o=>cw e fun e=>k (.ptr b o e)
 | .sl b o l c e s=>cw b fun b=>cw o fun o=>cw l fun l=>cw c fun c=>cw e fun e=>cw s fun s=>k (.sl b o l c e s)
 | x=>k x
theorem qC(x:C)(k:C→Prop):qB x k=k x:=by cases x<;>simp only [qB,cA,OC]
def mf(xs:List C):(List C→Prop)→Prop:=
 List.rec (motive:=fun _=>(List C→Prop)→Prop) (fun k=>k []) (fun x _ b k=>qB x fun x=>b fun xs=>k (x::xs)) xs
theorem kh:∀(xs:List C) (k:List C→Prop),mf xs k=k xs
 | [],k=>rfl
 | x::xs,k=>by
  show qB x (fun x=>mf xs fun xs=>k (x::xs))=_;rw [qC,kh xs]
def tn(v:V)(k:V→Prop):Prop:=match v with
 | .c x=>qB x fun x=>k (.c x)
 | .a xs=>mf xs fun xs=>k (.a xs)
 | v=>k v
theorem Dk(v:V)(k:V→Prop):tn v k=k v:=by cases v<;>simp only [tn,qC,kh]
def zj(xs:List V):(List V→Prop)→Prop:=
 List.rec (motive:=fun _=>(List V→Prop)→Prop) (fun k=>k []) (fun x _ b k=>tn x fun x=>b fun xs=>k (x::xs)) xs
theorem uC:∀(xs:List V) (k:List V→Prop),zj xs k=k xs
 | [],k=>rfl
 | x::xs,k=>by
  show tn x (fun x=>zj xs fun xs=>k (x::xs))=_;rw [Dk,uC xs]
def kX(v:V)(k:V→Prop):Prop:=match v with
 | .c x=>qB x fun x=>k (.c x)
 | .a xs=>mf xs fun xs=>k (.a xs)
 | .t b=>zj b fun b=>k (.t b)
 | .top=>k .top
theorem qE(v:V)(k:V→Prop):kX v k=k v:=by cases v<;>simp only [kX,qC,kh,uC]
def qF(x:bq)(k:bq→Prop):Prop:=match x with
 | .box cs fl=>mf cs fun cs=>cw fl fun fl=>k (.box cs fl)
 | .cj sz cs fl e st=>mf cs fun cs=>cw fl fun fl=>cw e fun e=>k (.cj sz cs fl e st)
 | .it s p=>cw p fun p=>k (.it s p)
 | x=>k x
theorem xK(x:bq)(k:bq→Prop):qF x k=k x:=by cases x<;>simp only [qF,cA,kh]
def Bi(p:P):T→(V→Prop)→Prop:=
 P.rec (motive:=fun _=>T→(V→Prop)→Prop)
  (fun t k=>T.rec (motive:=fun _=>Prop) (k .top) (fun _ v _ _ _=>k v) t)
  (fun _ b t k=>T.rec (motive:=fun _=>Prop) (k .top) (fun l _ _ _ _=>b l k) t)
  (fun _ b t k=>T.rec (motive:=fun _=>Prop) (k .top) (fun _ _ r _ _=>b r k) t) p
theorem mX:∀(p:P) (t:T) (k:V→Prop),Bi p t k=k (t.get p)
 | .h,.e,k=>rfl| .h,.n _ _ _,k=>rfl| .o p,.e,k=>rfl| .o p,.n l _ _,k=>mX p l k| .i p,.e,k=>rfl| .i p,.n _ _ r,k=>mX p r k
def ah8(p:P)(w:V):T→(T→Prop)→Prop:=
 P.rec (motive:=fun _=>T→(T→Prop)→Prop)
  (fun t k=>T.rec (motive:=fun _=>Prop) (k (.n .e w .e)) (fun l _ r _ _=>k (.n l w r)) t)
  (fun _ b t k=>T.rec (motive:=fun _=>Prop) (b .e fun l=>k (.n l .top .e)) (fun l v r _ _=>b l fun l=>k (.n l v r)) t)
  (fun _ b t k=>T.rec (motive:=fun _=>Prop) (b .e fun r=>k (.n .e .top r)) (fun l v r _ _=>b r fun r=>k (.n l v r)) t) p
theorem ng(w:V):∀(p:P) (t:T) (k:T→Prop),ah8 p w t k=k (t.set p w)
 | .h,.e,k=>rfl| .h,.n _ _ _,k=>rfl| .o p,.e,k=>ng w p .e _| .o p,.n l _ _,k=>ng w p l _| .i p,.e,k=>ng w p .e _| .i p,.n _ _ r,k=>ng w p r _
def oV(x:Arg)(r:T)(k:V→Prop):Prop:=Arg.rec (motive:=fun _=>Prop) (fun p=>Bi p r k) (fun v=>k v) x
theorem dx(x:Arg)(r:T)(k:V→Prop):oV x r k=k (x.ev r):=by cases x;exact mX _ _ _;rfl
def AW(xs:List Arg)(r:T):(List V→Prop)→Prop:=
 List.rec (motive:=fun _=>(List V→Prop)→Prop) (fun k=>k []) (fun x _ b k=>oV x r fun v=>b fun d=>k (v::d)) xs
theorem oQ(r:T):∀(xs:List Arg) (k:List V→Prop),AW xs r k=k (dz r xs)
 | [],k=>rfl
 | x::xs,k=>by
  show oV x r (fun v=>AW xs r fun b=>k (v::b))=_;rw [dx,oQ r xs];rfl
def amw(d:Option P)(r:T)(v:V)(k:T→Prop):Prop:=Option.rec (motive:=fun _=>Prop) (k r) (fun d=>ah8 d v r k) d
theorem FG(d:Option P)(r:T)(v:V)(k:T→Prop):amw d r v k=k (jy r d v):=by cases d;rfl;exact ng _ _ _ _
def tC(ps:List P):List V→T→(T→Prop)→Prop:=
 List.rec (motive:=fun _=>List V→T→(T→Prop)→Prop) (fun _ r k=>k r)
  (fun p _ d b r k=>List.rec (motive:=fun _=>Prop) (k r) (fun v b _=>ah8 p v r fun r=>d b r k) b) ps
theorem oz:∀(ps:List P) (b:List V) (r:T) (k:T→Prop),tC ps b r k=k (cM ps b r)
 | [],b,r,k=>by cases b<;>rfl
 | p::ps,[],r,k=>rfl
 | p::ps,v::b,r,k=>by
  show ah8 p v r (fun r=>tC ps b r k)=_;rw [ng,oz ps];rfl
def ah1{b:Type}(n:Nat):List b→(b→Prop)→Prop:=
 Nat.rec (motive:=fun _=>List b→(b→Prop)→Prop) (fun xs k=>List.rec (motive:=fun _=>Prop) False (fun x _ _=>k x) xs)
  (fun _ d xs k=>List.rec (motive:=fun _=>Prop) False (fun _ xs _=>d xs k) xs) n
theorem tu{b:Type}:∀ {n:Nat} {xs:List b} {k:b→Prop},ah1 n xs k→∃ x,xs[n]?=aa x∧k x
 | 0,[],_,h=>h.elim| 0,x::_,_,h=>⟨x,rfl,h⟩| n+1,[],_,h=>h.elim| n+1,_::xs,k,h=>tu (n:=n) (xs:=xs) (k:=k) h
def uh{b:Type}(n:Nat):List b→(List b→Prop)→Prop:=
 Nat.rec (motive:=fun _=>List b→(List b→Prop)→Prop) (fun xs k=>k xs)
  (fun _ d xs k=>List.rec (motive:=fun _=>Prop) (k []) (fun _ xs _=>d xs k) xs) n
theorem lZ{b:Type}:∀(n:Nat) (xs:List b) (k:List b→Prop),uh n xs k=k (xs.drop n)
 | 0,xs,k=>rfl| n+1,[],k=>rfl| n+1,_::xs,k=>lZ n xs k
def qy{b:Type}(n:Nat):List b→(List b→Prop)→Prop:=
 Nat.rec (motive:=fun _=>List b→(List b→Prop)→Prop) (fun xs k=>k xs)
  (fun _ d xs k=>List.rec (motive:=fun _=>Prop) False (fun _ xs _=>d xs k) xs) n
theorem jh{b:Type}:∀ {n:Nat} {xs:List b} {k:List b→Prop},qy n xs k→n≤xs.length∧k (xs.drop n)
 | 0,xs,k,h=>⟨by simp,h⟩
 | n+1,[],k,h=>h.elim
 | n+1,x::xs,k,h=>by
  obtain⟨g,d⟩:=jh (n:=n) (xs:=xs) (k:=k) h;exact⟨by simp;omega,d⟩
def lL{b:Type}(n:Nat):List b→(List b→Prop)→Prop:=
 Nat.rec (motive:=fun _=>List b→(List b→Prop)→Prop) (fun _ k=>k [])
  (fun _ d xs k=>List.rec (motive:=fun _=>Prop) False (fun x xs _=>d xs fun ys=>k (x::ys)) xs) n
theorem fS{b:Type}:∀ {n:Nat} {xs:List b} {k:List b→Prop},lL n xs k→n≤xs.length∧k (xs.take n)
 | 0,xs,k,h=>⟨by simp,by have d:k []:=h;simpa using d⟩
 | n+1,[],k,h=>h.elim
 | n+1,x::xs,k,h=>by
  obtain⟨j,g⟩:=fS (n:=n) (xs:=xs) (k:=fun ys=>k (x::ys)) h;exact⟨by simp;omega,by simpa using g⟩
def ao6{b:Type}(xs:List b):List b→(List b→Prop)→Prop:=
 List.rec (motive:=fun _=>List b→(List b→Prop)→Prop) (fun cs k=>k cs)
  (fun x _ d cs k=>List.rec (motive:=fun _=>Prop) False (fun _ cs _=>d cs fun ys=>k (x::ys)) cs) xs
theorem Fs{b:Type}:∀ {xs cs:List b} {k:List b→Prop},ao6 xs cs k→xs.length≤cs.length∧k (xs++cs.drop xs.length)
 | [],cs,k,h=>⟨by simp,by have d:k cs:=h;simpa using d⟩
 | x::xs,[],k,h=>h.elim
 | x::xs,c::cs,k,h=>by
  obtain⟨j,g⟩:=Fs (xs:=xs) (cs:=cs) (k:=fun ys=>k (x::ys)) h;exact⟨by simp;omega,by simpa using g⟩
def vA{b:Type}(xs:List b)(off:Nat):List b→(List b→Prop)→Prop:=
 Nat.rec (motive:=fun _=>List b→(List b→Prop)→Prop) (fun cs k=>ao6 xs cs k)
  (fun _ d cs k=>List.rec (motive:=fun _=>Prop) False (fun c cs _=>d cs fun ys=>k (c::ys)) cs) off
theorem kD{d:Type}{xs:List d}:∀ {off:Nat} {cs:List d} {k:List d→Prop},vA xs off cs k→off+xs.length≤cs.length∧k (over cs off xs)
 | 0,cs,k,h=>by
  obtain⟨g,b⟩:=Fs (xs:=xs) (cs:=cs) (k:=k) h;exact⟨by omega,by simpa [over]using b⟩
 | n+1,[],k,h=>h.elim
 | n+1,c::cs,k,h=>by
  obtain⟨g,b⟩:=kD (off:=n) (cs:=cs) (k:=fun ys=>k (c::ys)) h;refine⟨by simp;omega,?_⟩;have:n+1+xs.length=(n+xs.length)+1:=by omega
  simpa [over,this]using b
def alD{b:Type}(xs ys:List b):(List b→Prop)→Prop:=
 List.rec (motive:=fun _=>(List b→Prop)→Prop) (fun k=>k ys) (fun x _ d k=>d fun zs=>k (x::zs)) xs
theorem yZ{b:Type}(ys:List b):∀(xs:List b) (k:List b→Prop),alD xs ys k=k (xs++ys)
 | [],k=>rfl| x::xs,k=>yZ ys xs fun zs=>k (x::zs)
def fzK(zs:List FC):(List C→Prop)→Prop:=
 List.rec (motive:=fun _=>(List C→Prop)→Prop) (fun k=>k []) (fun z _ b k=>b fun cs=>k (.f z::cs)) zs
theorem qG:∀(zs:List FC) (k:List C→Prop),fzK zs k=k (zs.map .f)
 | [],k=>rfl| z::zs,k=>qG zs fun cs=>k (.f z::cs)
def ltB:Int→Int→Bool
 | .ofNat a,.ofNat b=>Nat.ble (Nat.succ a) b| .ofNat _,.negSucc _=>ag| .negSucc _,.ofNat _=>ae| .negSucc a,.negSucc b=>Nat.ble (Nat.succ b) a
theorem zw(x y:Int):ltB x y=decide (x<y):=by
 have e:∀ n:Nat,Int.ofNat n=(n:Int):=fun _=>rfl;cases x<;>cases y<;>simp only [ltB]<;>rw [atn]<;>simp only [Nat.ble_eq,decide_eq_true_eq,aso,false_iff,true_iff,e,Nat.succ_eq_add_one]<;>omega
def eqB:Int→Int→Bool
 | .ofNat a,.ofNat b=>Nat.beq a b| .negSucc a,.negSucc b=>Nat.beq a b| _,_=>ag
theorem aaq(x y:Int):eqB x y=(x == y):=by
 have e:∀ n:Nat,Int.ofNat n=(n:Int):=fun _=>rfl;cases x<;>cases y<;>simp only [eqB]<;>rw [atn]<;>simp only [Nat.beq_eq,beq_iff_eq,aso,false_iff,e]<;>omega
def yG(j:IntKind)(n:Int)(k:Int→Prop):Prop:=match j with
 | .i64=>Int.rec (motive:=fun _=>Prop)
   (fun n=>cw n fun n=>Bool.rec (motive:=fun _=>Prop) (qD (IntKind.i64.wrap (.ofNat n)) k) (k (.ofNat n)) (Nat.ble n 9223372036854775807))
   (fun n=>cw n fun n=>Bool.rec (motive:=fun _=>Prop) (qD (IntKind.i64.wrap (.negSucc n)) k) (k (.negSucc n)) (Nat.ble n 9223372036854775807)) n
 | j=>qD (j.wrap n) k
theorem wrap64_in{n:Int}(g:-9223372036854775808≤n)(j:n≤9223372036854775807):IntKind.i64.wrap n=n:=by
 simp only [IntKind.wrap,IntKind.bits,IntKind.signed];have b:(2 ^ 64:Int)=18446744073709551616:=by decide
 have d:(2 ^ (64-1):Int)=9223372036854775808:=by decide
 simp only [b,d,as3,decide_eq_true_eq];split<;>omega
theorem pX(j:IntKind)(n:Int)(k:Int→Prop):yG j n k=k (j.wrap n):=by
 cases j<;>simp only [yG,xJ];cases n with
 | ofNat n=>
  simp only [cA];cases h:Nat.ble n 9223372036854775807 with
  | false=>rfl
  | true=>
   have:=atH h;have e:Int.ofNat n=(n:Int):=rfl;rw [wrap64_in (by rw [e];omega) (by rw [e];omega)]
 | negSucc n=>
  simp only [cA];cases h:Nat.ble n 9223372036854775807 with
  | false=>rfl
  | true=>
   have:=atH h;rw [wrap64_in (by omega) (by omega)]
end
section
set_option linter.unusedVariables false
def iz(a b:Nat)(p:Prop):Prop:=Bool.rec (motive:=fun _=>Prop) False p (Nat.beq a b)
def rM(a b:Nat)(p:Prop):Prop:=Bool.rec (motive:=fun _=>Prop) False p (Nat.ble a b)
def nN(b:Bool)(p:Prop):Prop:=Bool.rec (motive:=fun _=>Prop) False p b
def pI{b:Type}(o:Option b)(k:b→Prop):Prop:=Option.rec (motive:=fun _=>Prop) False k o
theorem di{a b:Nat}{p:Prop}(h:iz a b p):a=b∧p:=by
 unfold iz at h;cases e:Nat.beq a b with
 | false=>rw [e]at h;exact h.elim| true=>rw [e]at h;exact⟨ath e,h⟩
theorem il{a b:Nat}{p:Prop}(h:rM a b p):a≤b∧p:=by
 unfold rM at h;cases e:Nat.ble a b with
 | false=>rw [e]at h;exact h.elim| true=>rw [e]at h;exact⟨atH e,h⟩
theorem jo{b:Bool}{p:Prop}(h:nN b p):b=ae∧p:=by cases b;exact h.elim;exact⟨rfl,h⟩
theorem jb{b:Type}{o:Option b}{k:b→Prop}(h:pI o k):∃ x,o=aa x∧k x:=by cases o;exact h.elim;exact⟨_,rfl,h⟩
def nS(x:bq)(t:HT)(n:Nat)(k:HT→Nat→Prop):Prop:=yW x t n fun t=>cw (Nat.succ n) fun n=>k t n
theorem iD{H:aj}{t:HT}(h:df H t){x:bq}{k:HT→Nat→Prop}(j:nS x t H.length k):∃ b,df (H++[x]) b∧k b (H++[x]).length:=by
 obtain⟨b,g,d⟩:=NX j;rw [cA]at d;exact⟨b,h.push g,by simpa using d⟩
theorem ek{H:aj}{t:HT}(h:df H t){b:Nat}{x:bq}{k:HT→Prop}(m:gC x t b k):∃ d,df (H.set b x) d∧k d:=by
 obtain⟨d,g,j,l⟩:=Z1 m;exact⟨d,h.set g j,l⟩
def alG(e:AK)(t:HT)(n:Nat)(k:HT→Nat→Prop):Prop:=
 AK.rec (motive:=fun _=>Prop) (k t n) (fun b x=>qF x fun x=>gC x t b fun t=>k t n) (fun x=>qF x fun x=>nS x t n k) e
theorem ahf{H:aj}{t:HT}(h:df H t){e:AK}{k:HT→Nat→Prop}(d:alG e t H.length k):∃ g,df (e.app H) g∧k g (e.app H).length:=by
 cases e with
 | no=>exact⟨t,h,d⟩
 | set b x=>
  have d:qF x fun x=>gC x t b fun t=>k t H.length:=d;rw [xK]at d;obtain⟨g,j,l⟩:=ek h d;exact⟨g,j,by simpa [AK.app]using l⟩
 | push x=>
  have d:qF x fun x=>nS x t H.length k:=d;rw [xK]at d;exact iD h d
def aoR(op:da)(r:T)(t:HT)(n:Nat)(k:V→HT→Nat→Prop):Prop:=
 pI (acB r t.get n op) fun r=>Prod.rec (motive:=fun _=>Prop) (fun v e=>kX v fun v=>alG e t n (k v)) r
def OpS(op:da)(r:T)(m:HT→Nat→(V→HT→Nat→Prop)→Prop):Prop:=
 ∀(H:aj) (t:HT) (k:V→HT→Nat→Prop),df H t→m t H.length k→∃ v H' b,bo r H op=aa (v,H')∧df H' b∧k v b H'.length
theorem ahs(op:da)(r:T):OpS op r (aoR op r):=by
 intro H t k h l;obtain⟨⟨v,e⟩,d,b⟩:=jb l;have b:kX v fun v=>alG e t H.length (k v):=b;rw [qE]at b;obtain⟨m,g,j⟩:=ahf h b;refine⟨v,e.app H,m,?_,g,j⟩;rw [h]at d;rw [←zT,d];rfl
def ua(v:V)(k:List C→Prop):Prop:=match v with
 | .c x=>k [x]| .a xs=>k xs| _=>False
theorem qx{v:V}{k:List C→Prop}(h:ua v k):∃ xs,v.cells?=aa xs∧k xs:=by
 cases v with
 | c x=>exact⟨_,rfl,h⟩| a xs=>exact⟨_,rfl,h⟩| _=>exact h.elim
def FE(n:Option Nat)(off:Nat)(cs:List C)(k:V→Prop):Prop:=
 Option.rec (motive:=fun _=>Prop) (ah1 off cs fun c=>k (.c c)) (fun m=>uh off cs fun cs=>lL m cs fun cs=>k (.a cs)) n
theorem vE{n:Option Nat}{off:Nat}{cs:List C}{k:V→Prop}(h:FE n off cs k):∃ v,aQ n (cs.drop off)=aa v∧k v:=by
 cases n with
 | none=>
  obtain⟨c,b,d⟩:=tu h;refine⟨.c c,?_,d⟩;rw [←atJ off,←asu]at b;cases e:cs.drop off with
  | nil=>rw [e]at b;simp at b| cons y ys=>rw [e]at b;simp at b;subst b;rfl
 | some m=>
  have h:uh off cs fun cs=>lL m cs fun cs=>k (.a cs):=h;rw [lZ]at h;obtain⟨b,d⟩:=fS h;exact⟨_,ba b,d⟩
def abt(n:Option Nat)(off:Nat)(cs:List FC)(k:V→Prop):Prop:=
 Option.rec (motive:=fun _=>Prop) (ah1 off cs fun c=>k (.c (.f c))) (fun m=>uh off cs fun cs=>lL m cs fun cs=>fzK cs fun cs=>k (.a cs)) n
theorem Pd{n:Option Nat}{off:Nat}{cs:List FC}{k:V→Prop}(h:abt n off cs k):∃ v,aQ n ((cs.drop off).map .f)=aa v∧k v:=by
 cases n with
 | none=>
  obtain⟨c,b,d⟩:=tu h;refine⟨.c (.f c),?_,d⟩;rw [←atJ off,←asu]at b;cases e:cs.drop off with
  | nil=>rw [e]at b;simp at b| cons y ys=>rw [e]at b;simp at b;subst b;rfl
 | some m=>
  have h:uh off cs fun cs=>lL m cs fun cs=>fzK cs fun cs=>k (.a cs):=h;rw [lZ]at h;obtain⟨b,d⟩:=fS h;rw [qG]at d;refine⟨_,ba (by simpa using b),?_⟩;rw [←List.map_take];exact d
def ldK(t:HT)(n:Option Nat)(x:V)(k:V→Prop):Prop:=match x with
 | .c (.ptr b off ep)=>gS b t fun bj=>match bj with
  | .box cs _=>FE n off cs k| .cj _ cs _ e .loc=>iz ep e (FE n off cs k)| _=>False
 | .c (.f (.fp cs off))=>abt n off cs k| _=>False
theorem aaV{H:aj}{t:HT}(h:df H t){n:Option Nat}{x:V}{k:V→Prop}(m:ldK t n x k):∃ v,aS H n x=aa v∧k v:=by
 unfold ldK at m;split at m
 ·rename_i b off ep;obtain⟨bj,g,d⟩:=dW m;rw [h]at g;have g:H[b]?=aa bj:=g;split at d
  ·obtain⟨v,j,l⟩:=vE d;exact⟨v,by simp [aS,aE,g,j],l⟩
  ·obtain⟨q,d⟩:=di d;obtain⟨v,j,l⟩:=vE d;exact⟨v,by simp [aS,aE,g,j,q],l⟩
  ·exact d.elim
 ·obtain⟨v,j,l⟩:=Pd m;exact⟨v,by simp only [aS,aE,Option.bind_some,j],l⟩
 ·exact m.elim
def stK(t:HT)(x:C)(xs:List C)(k:HT→Prop):Prop:=match x with
 | .ptr b off ep=>gS b t fun bj=>match bj with
  | .box cs fl=>rM fl off (vA xs off cs fun cs=>gC (.box cs fl) t b k)
  | .cj sz cs fl e .loc=>iz ep e (rM fl off (vA xs off cs fun cs=>gC (.cj sz cs fl e .loc) t b k))
  | _=>False
 | _=>False
theorem amK{H:aj}{t:HT}(h:df H t){x:C}{xs:List C}{k:HT→Prop}(l:stK t x xs k):∃ H' g,de H x xs=aa H'∧df H' g∧H'.length=H.length∧k g:=by
 unfold stK at l;split at l
 ·rename_i b off ep;obtain⟨bj,j,d⟩:=dW l;rw [h]at j;have j:H[b]?=aa bj:=j;split at d
  ·obtain⟨m,d⟩:=il d;obtain⟨q,d⟩:=kD d;obtain⟨g,s,u⟩:=ek h d;exact⟨_,g,by simp [de,j,m,q],s,by simp,u⟩
  ·obtain⟨h0,d⟩:=di d;obtain⟨m,d⟩:=il d;obtain⟨q,d⟩:=kD d;obtain⟨g,s,u⟩:=ek h d;exact⟨_,g,by simp [de,j,h0,m,q],s,by simp,u⟩
  ·exact d.elim
 ·exact l.elim
def lH(op:BinOp)(j:IntKind)(x y:Int)(k:V→Prop):Prop:=match op with
 | .add=>yG j (Int.add x y) fun n=>k (.c (.f (.int j n)))
 | .sub=>yG j (Int.sub x y) fun n=>k (.c (.f (.int j n)))
 | .mul=>yG j (Int.mul x y) fun n=>k (.c (.f (.int j n)))
 | .eql=>me (eqB x y) fun b=>k (.c (.f (.bool b)))
 | .neq=>me (!eqB x y) fun b=>k (.c (.f (.bool b)))
 | .lss=>me (ltB x y) fun b=>k (.c (.f (.bool b)))
 | .leq=>me (!ltB y x) fun b=>k (.c (.f (.bool b)))
 | .gtr=>me (ltB y x) fun b=>k (.c (.f (.bool b)))
 | .geq=>me (!ltB x y) fun b=>k (.c (.f (.bool b)))
 | op=>pI (ns op j x y) fun v=>kX v k
theorem vr(x y:Int):(!decide (x<y))=decide (y≤x):=by
 rw [atn];simp
theorem Z0{op:BinOp}{j:IntKind}{x y:Int}{k:V→Prop}(h:lH op j x y k):∃ v,ns op j x y=aa v∧k v:=by
 cases op
 case add=>simp only [lH,pX]at h;exact⟨_,rfl,h⟩
 case sub=>simp only [lH,pX]at h;exact⟨_,rfl,h⟩
 case mul=>simp only [lH,pX]at h;exact⟨_,rfl,h⟩
 case eql=>simp only [lH,gY,aaq]at h;exact⟨_,rfl,h⟩
 case neq=>simp only [lH,gY,aaq]at h;exact⟨_,rfl,h⟩
 case lss=>simp only [lH,gY,zw]at h;exact⟨_,rfl,h⟩
 case leq=>simp only [lH,gY,zw,vr]at h;exact⟨_,rfl,h⟩
 case gtr=>simp only [lH,gY,zw]at h;exact⟨_,rfl,h⟩
 case geq=>simp only [lH,gY,zw,vr]at h;exact⟨_,rfl,h⟩
 all_goals
  simp only [lH]at h;obtain⟨v,d,b⟩:=jb h;rw [qE]at b;exact⟨v,d,b⟩
def aaQ(j b:IntKind)(p:Prop):Prop:=match j,b with
 | .i64,.i64=>p| j,b=>nN (decide (j=b)) p
theorem aaR{j b:IntKind}{p:Prop}(h:aaQ j b p):j=b∧p:=by
 unfold aaQ at h;split at h
 ·exact⟨rfl,h⟩
 ·obtain⟨d,g⟩:=jo h;exact⟨of_decide_eq_true d,g⟩
def alw(op:BinOp)(x y:V)(k:V→Prop):Prop:=match x,y with
 | .c (.f (.int j a)),.c (.f (.int d b))=>match op with
  | .shl=>pI (dq .shl x y) fun v=>kX v k
  | .shr=>pI (dq .shr x y) fun v=>kX v k
  | op=>aaQ j d (lH op j a b k)
 | x,y=>pI (dq op x y) fun v=>kX v k
theorem ag5{op:BinOp}{x y:V}{k:V→Prop}(h:alw op x y k):∃ v,dq op x y=aa v∧k v:=by
 have gen:(pI (dq op x y) fun v=>kX v k)→∃ v,dq op x y=aa v∧k v:=by
  intro h;obtain⟨v,g,d⟩:=jb h;rw [qE]at d;exact⟨v,g,d⟩
 unfold alw at h;split at h
 ·rename_i j a s b;split at h
  ·exact gen h
  ·exact gen h
  ·rename_i g d;obtain⟨e,l⟩:=aaR h;subst e;obtain⟨v,m,q⟩:=Z0 l;refine⟨v,?_,q⟩;cases op<;>first | exact absurd rfl g | exact absurd rfl d | (simp only [dq,if_true];exact m)
 ·exact gen h
def amf(v:V)(k:Nat→Prop):Prop:=match v with
 | .c (.f (.int _ (.ofNat m)))=>k m| _=>False
theorem ahY{v:V}{k:Nat→Prop}(h:amf v k):∃ m,hZ v=aa (Int.ofNat m)∧k m:=by
 unfold amf at h;split at h
 ·exact⟨_,rfl,h⟩
 ·exact h.elim
def aaL(t:HT)(sz:Nat)(d:Option Nat)(x i:V)(k:V→Prop):Prop:=amf i fun m=>match d with
 | none=>match x with
  | .c (.sl b o l _ ep s)=>rM (Nat.succ m) l (gS b t fun bj=>match bj with
   | .box _ _=>cw (Nat.add o (Nat.mul m sz)) fun o=>k (.c (.ptr b o ep))
   | .cj s' _ _ e .loc=>iz ep e (iz s s' (cw (Nat.add o (Nat.mul m sz)) fun o=>k (.c (.ptr b o ep))))
   | _=>False)
  | .c (.f (.fs cs l))=>rM (Nat.succ m) l (cw (Nat.mul m sz) fun o=>k (.c (.f (.fp cs o))))
  | _=>False
 | some n=>match x with
  | .c (.ptr b o ep)=>rM (Nat.succ m) n (cw (Nat.add o (Nat.mul m sz)) fun o=>k (.c (.ptr b o ep)))
  | .c (.f (.fp cs o))=>rM (Nat.succ m) n (cw (Nat.add o (Nat.mul m sz)) fun o=>k (.c (.f (.fp cs o))))
  | _=>False
theorem OJ{H:aj}{t:HT}(h:df H t){sz:Nat}{y:Option Nat}{x i:V}{k:V→Prop}(d:aaL t sz y x i k):∃ v,bA H sz y x i=aa v∧k v:=by
 obtain⟨m,hi,d⟩:=ahY d;have h0:(0:Int)≤Int.ofNat m:=Int.natCast_nonneg m;have g:∀ l:Nat,Nat.succ m≤l→Int.ofNat m<(l:Int):=fun l E=>Int.ofNat_lt.2 E;have j:(Int.ofNat m).toNat=m:=rfl;simp only at d;split at d
 ·split at d
  ·rename_i b o l cap ep s _;obtain⟨u,d⟩:=il d;obtain⟨bj,z,q⟩:=dW d;rw [h]at z;have z:H[b]?=aa bj:=z;split at q
   ·rw [cA]at q;exact⟨_,by simp only [bA,hi,ba h0,ba (g _ u),z,j];rfl,q⟩
   ·obtain⟨A,q⟩:=di q;obtain⟨B,q⟩:=di q;rw [cA]at q;exact⟨_,by simp only [bA,hi,ba h0,ba (g _ u),z,j,A,B,and_self,if_true];rfl,A▸q⟩
   ·exact q.elim
  ·obtain⟨u,d⟩:=il d;rw [cA]at d;exact⟨_,by simp only [bA,hi,ba h0,ba (g _ u),j];rfl,d⟩
  ·exact d.elim
 ·split at d
  ·obtain⟨u,d⟩:=il d;rw [cA]at d;exact⟨_,by simp only [bA,hi,ba h0,ba (g _ u),j];rfl,d⟩
  ·obtain⟨u,d⟩:=il d;rw [cA]at d;exact⟨_,by simp only [bA,hi,ba h0,ba (g _ u),j];rfl,d⟩
  ·exact d.elim
def ahO(t:HT)(x:V)(k:Nat→Prop):Prop:=match x with
 | .c (.sl b _ l _ ep sz)=>gS b t fun bj=>match bj with
  | .box _ _=>k l| .cj s _ _ e _=>iz ep e (iz sz s (k l))| _=>False
 | .c (.f .au)=>k 0| .c (.f .es)=>k 0| .c (.f (.fs _ l))=>k l| _=>False
theorem Fv{H:aj}{t:HT}(h:df H t){x:V}{k:Nat→Prop}(g:ahO t x k):∃ y n,x=.c y∧bt H y=aa n∧k n:=by
 unfold ahO at g;split at g
 ·rename_i b o l cap ep sz;obtain⟨bj,j,d⟩:=dW g;rw [h]at j;have j:H[b]?=aa bj:=j;split at d
  ·exact⟨_,l,rfl,by simp [bt,j],d⟩
  ·obtain⟨m,d⟩:=di d;obtain⟨q,d⟩:=di d;exact⟨_,l,rfl,by simp [bt,j,m,q],d⟩
  ·exact d.elim
 ·exact⟨_,0,rfl,rfl,g⟩
 ·exact⟨_,0,rfl,rfl,g⟩
 ·exact⟨_,_,rfl,rfl,g⟩
 ·exact g.elim
def D1(r:T)(ps:List (Nat × Nat × Arg)):List C→(List C→Prop)→Prop:=
 List.rec (motive:=fun _=>List C→(List C→Prop)→Prop) (fun cs k=>k cs)
  (fun p _ b cs k=>Prod.rec (motive:=fun _=>Prop) (fun off q=>Prod.rec (motive:=fun _=>Prop) (fun n x=>oV x r fun v=>ua v fun xs=>iz xs.length n (vA xs off cs fun cs=>b cs k)) q) p) ps
theorem yk(r:T):∀ {ps:List (Nat × Nat × Arg)} {cs:List C} {k:List C→Prop},D1 r ps cs k→∃ cs',dN r cs ps=aa cs'∧k cs'
 | [],cs,k,h=>⟨cs,rfl,h⟩
 | (off,n,x)::ps,cs,k,h=>by
  have h:oV x r fun v=>ua v fun xs=>iz xs.length n (vA xs off cs fun cs=>D1 r ps cs k):=h;rw [dx]at h;obtain⟨xs,b,h⟩:=qx h;obtain⟨d,h⟩:=di h;obtain⟨g,h⟩:=kD h;obtain⟨cs',j,l⟩:=yk r h;exact⟨cs',by simp [dN,b,d,j]at g ⊢;omega,l⟩
def yS(t:HT)(sz:Nat)(y:V)(k:Nat→List C→Prop):Prop:=match y with
 | .c (.f .au)=>k 0 []| .c (.f .es)=>k 0 []| .c (.f (.fs cs l))=>iz cs.length (Nat.mul l sz) (fzK cs fun cs=>k l cs)
 | .c (.sl b o l _ ep s)=>gS b t fun bj=>match bj with
  | .box cs _=>qy o cs fun cs=>lL (Nat.mul l sz) cs fun cs=>k l cs
  | .cj s' cs _ e _=>iz ep e (iz s s' (iz s' sz (qy o cs fun cs=>lL (Nat.mul l sz) cs fun cs=>k l cs)))
  | _=>False
 | y=>pI (oO t.get sz y) fun r=>Prod.rec (motive:=fun _=>Prop) (fun n cs=>mf cs fun cs=>k n cs) r
theorem xq{H:aj}{t:HT}(h:df H t){sz:Nat}{y:V}{k:Nat→List C→Prop}(j:yS t sz y k) :
  ∃ n cs,cX H sz y=aa (n,cs)∧k n cs:=by
 unfold yS at j;split at j
 ·exact⟨0,[],rfl,j⟩
 ·exact⟨0,[],rfl,j⟩
 ·rename_i cs l;obtain⟨m,j⟩:=di j;rw [qG]at j;have m:cs.length=l*sz:=m;exact⟨l,_,by simp only [cX,bt,cS,m,if_true],j⟩
 ·rename_i b o l cap ep s;obtain⟨bj,g,d⟩:=dW j;rw [h]at g;have g:H[b]?=aa bj:=g;split at d
  ·obtain⟨A,d⟩:=jh d;obtain⟨q,u⟩:=fS d;have q:l*sz≤_:=q;rw [asr]at q;refine⟨l,_,?_,u⟩;simp only [cX,bt,cS,g];rw [ba (by omega)];rfl
  ·obtain⟨q,d⟩:=di d;obtain⟨u,d⟩:=di d;obtain⟨x,d⟩:=di d;obtain⟨A,d⟩:=jh d;obtain⟨v,z⟩:=fS d;have v:l*sz≤_:=v;rw [asr]at v;subst q u x;refine⟨l,_,?_,z⟩;simp only [cX,bt,cS,g,and_self,if_true];rw [ba ⟨trivial,trivial,by omega⟩];rfl
  ·exact d.elim
 ·obtain⟨⟨n,cs⟩,m,g⟩:=jb j;have g:mf cs fun cs=>k n cs:=g;rw [kh]at g;rw [h,nY]at m;exact⟨n,cs,m,g⟩
def B'(need bytes:Nat)(p:Prop):Prop:=rM (Nat.mul (Nat.add (Nat.mul 2 need) 768) bytes) 281474976710656 (rM (Nat.succ need) 281474976710656 p)
theorem pO{need bytes:Nat}{p:Prop}(h:B' need bytes p):bY need bytes=ae∧p:=by
 obtain⟨b,h⟩:=il h;obtain⟨d,h⟩:=il h;refine⟨?_,h⟩;have e:(2:Nat) ^ 48=281474976710656:=by decide
 simp only [bY,If,decide_eq_true_eq,e];exact⟨b,d⟩
def alr(t:HT)(n:Nat)(sz bytes:Nat)(x y:V)(k:V→HT→Nat→Prop):Prop:=
 yS t sz y fun m ys=>Nat.rec (motive:=fun _=>Prop) False (fun _ _=>match x with
  | .c (.f .au)=>Nat.rec (motive:=fun _=>Prop) (k (.c (.f .au)) t n) (fun _ _=>B' m bytes (cw m fun m=>nS (.cj sz ys 0 0 .loc) t n fun t g=>k (.c (.sl n 0 m 0 0 sz)) t g)) m
  | .c (.f .es)=>Nat.rec (motive:=fun _=>Prop) (k (.c (.f .es)) t n) (fun _ _=>B' m bytes (cw m fun m=>nS (.cj sz ys 0 0 .loc) t n fun t g=>k (.c (.sl n 0 m 0 0 sz)) t g)) m
  | .c (.sl b o l cap ep s)=>gS b t fun bj=>match bj with
   | .box cs fl=>Bool.rec (motive:=fun _=>Prop)
     (cw (Nat.add l m) fun d=>B' d bytes (qy o cs fun cs=>lL (Nat.mul l sz) cs fun cs=>alD cs ys fun cs=>nS (.cj sz cs 0 0 .loc) t n fun t g=>k (.c (.sl n 0 d 0 0 sz)) t g))
     (cw (Nat.add l m) fun d=>rM fl (Nat.add o (Nat.mul l sz)) (vA ys (Nat.add o (Nat.mul l sz)) cs fun cs=>gC (.box cs fl) t b fun t=>k (.c (.sl b o d cap ep s)) t n))
     (Nat.ble (Nat.add l m) cap)
   | .cj s' cs fl e st=>iz ep e (iz s' sz (iz s sz (Nat.rec (motive:=fun _=>Prop) (k x t n) (fun _ _=>
     cw (Nat.add l m) fun d=>Bool.rec (motive:=fun _=>Prop)
      (match st with
       | .loc=>rM fl (Nat.add o (Nat.mul l sz)) (vA ys (Nat.add o (Nat.mul l sz)) cs fun cs=>gC (.cj sz cs fl e .loc) t b fun t=>k (.c (.sl b o d 0 ep sz)) t n)
       | _=>False)
      (B' d bytes (cw (Nat.succ e) fun j=>alD cs ys fun cs=>gC (.cj sz cs fl j .loc) t b fun t=>k (.c (.sl b 0 d 0 j sz)) t n))
      (and (and (Nat.beq o 0) (Nat.beq (Nat.mul l sz) cs.length)) (Nat.ble fl cs.length))) m)))
   | _=>False
  | _=>False) sz
theorem EP{H:aj}{t:HT}(h:df H t){sz bytes:Nat}{x y:V}{k:V→HT→Nat→Prop}(d:alr t H.length sz bytes x y k) :
  ∃ v H' g,cI H sz bytes x y=aa (v,H')∧df H' g∧k v g H'.length:=by
 obtain⟨m,ys,N,d⟩:=xq h d;unfold cI;rw [N];cases sz with
 | zero=>exact d.elim
 | succ u=>
  simp only at d ⊢;rw [aX (by omega)];split at d
  ·cases m with
   | zero=>exact⟨_,H,t,rfl,h,d⟩
   | succ L=>
    simp only at d;obtain⟨J,d⟩:=pO d;rw [cA]at d;obtain⟨g,z,j⟩:=iD h d;exact⟨_,_,g,by simp only [Nat.add_one_ne_zero,if_false,J,if_true],z,j⟩
  ·cases m with
   | zero=>exact⟨_,H,t,rfl,h,d⟩
   | succ L=>
    simp only at d;obtain⟨J,d⟩:=pO d;rw [cA]at d;obtain⟨g,z,j⟩:=iD h d;exact⟨_,_,g,by simp only [Nat.add_one_ne_zero,if_false,J,if_true],z,j⟩
  ·rename_i b o l cap ep s _;obtain⟨bj,z,d⟩:=dW d;rw [h]at z;have z:H[b]?=aa bj:=z;simp only [z];split at d
   ·rename_i cs fl _;simp only;cases hc:Nat.ble (Nat.add l m) cap with
    | false=>
     rw [hc]at d;have B:¬ (l+m≤cap):=fun e=>by have:=Nat.ble_eq_true_of_le e;rw [show Nat.ble (Nat.add l m) cap=Nat.ble (l+m) cap from rfl,this]at hc;cases hc
     simp only [cA]at d;obtain⟨j,d⟩:=pO d;obtain⟨F,d⟩:=jh d;obtain⟨E,d⟩:=fS d;rw [yZ]at d;obtain⟨g,q,A⟩:=iD h d;rw [asr]at E;have E:l*(u+1)≤_:=E;rw [aX B,ba ⟨j,by omega⟩];exact⟨_,_,g,rfl,q,A⟩
    | true=>
     rw [hc]at d;have B:l+m≤cap:=atH hc;simp only [cA]at d;obtain⟨j,d⟩:=il d;obtain⟨F,d⟩:=kD d;obtain⟨g,q,A⟩:=ek h d;rw [ba B,ba ⟨j,F⟩];exact⟨_,_,g,rfl,q,by simpa using A⟩
   ·rename_i s' cs fl e st _;simp only;obtain⟨j,d⟩:=di d;obtain⟨F,d⟩:=di d;obtain⟨E,d⟩:=di d;rw [ba ⟨j,F,E⟩];cases m with
    | zero=>rw [ba rfl];exact⟨_,H,t,rfl,h,d⟩
    | succ L=>
     rw [aX (by omega)];simp only [cA]at d;cases hc:and (and (Nat.beq o 0) (Nat.beq (Nat.mul l (u+1)) cs.length)) (Nat.ble fl cs.length)with
     | true=>
      rw [hc]at d;simp only [If]at hc;have c1:=ath hc.1.1;have c2:=ath hc.1.2;have I:=atH hc.2;simp only at d;obtain⟨q,d⟩:=pO d;rw [yZ]at d;obtain⟨g,A,K⟩:=ek h d;have q:bY (l+(L+1)) bytes=ae:=q;rw [ba ⟨c1,c2,I⟩,ba q];subst j;exact⟨_,_,g,rfl,A,by simpa using K⟩
     | false=>
      rw [hc]at d;have O:¬ (o=0∧l*(u+1)=cs.length∧fl≤cs.length):=by
       rintro⟨c1,c2,I⟩;rw [c1,show Nat.mul l (u+1)=cs.length from c2,Nat.ble_eq_true_of_le I]at hc;simp at hc
      rw [aX O];simp only at d;split at d
      ·obtain⟨q,d⟩:=il d;obtain⟨A,d⟩:=kD d;obtain⟨g,K,M⟩:=ek h d;rw [ba ⟨rfl,q,A⟩];exact⟨_,_,g,rfl,K,by simpa using M⟩
      ·exact d.elim
   ·exact d.elim
  ·exact d.elim
end
section
set_option linter.unusedVariables false
abbrev fG:=Callee→List V→HT→Nat→(V→HT→Nat→Prop)→Prop
def oI(call:cU)(bu:fG):Prop:=
 ∀(c:Callee) (args:List V) (H:aj) (t:HT) (k:V→HT→Nat→Prop),df H t→bu c args t H.length k→∃ v H' b,call c args H=aa (v,H')∧df H' b∧k v b H'.length
def zd{d b:Type}(g:d→(b→Prop)→Prop)(xs:List d):(List b→Prop)→Prop:=
 List.rec (motive:=fun _=>(List b→Prop)→Prop) (fun k=>k []) (fun x _ j k=>g x fun y=>j fun ys=>k (y::ys)) xs
theorem iW{b d:Type}{g:b→(d→Prop)→Prop}{f:b→Option d}(j:∀ x k,g x k→∃ y,f x=aa y∧k y):∀ {xs:List b} {k:List d→Prop},zd g xs k→∃ ys,bg f xs=aa ys∧k ys
 | [],k,h=>⟨[],rfl,h⟩
 | x::xs,k,h=>by
  obtain⟨y,l,h⟩:=j x _ h;obtain⟨ys,m,q⟩:=iW j (xs:=xs) h;exact⟨y::ys,by simp [bg,l,m],q⟩
def exK(t:HT)(m:Nat):C→(FC→Prop)→Prop:=
 Nat.rec (motive:=fun _=>C→(FC→Prop)→Prop) (fun x k=>match x with
   | .f y=>k y
   | _=>False)
  (fun _ j x k=>match x with
   | .f y=>k y
   | .ptr b off _=>gS b t fun bj=>match bj with
    | .box cs _=>zd j cs fun d=>k (.fp d off)
    | _=>False
   | .sl b o l _ ep sz=>gS b t fun bj=>match bj with
    | .box cs _=>qy o cs fun cs=>lL (Nat.mul l sz) cs fun cs=>zd j cs fun d=>k (.fs d l)
    | .cj s cs _ e .loc=>iz ep e (iz sz s (qy o cs fun cs=>lL (Nat.mul l sz) cs fun cs=>zd j cs fun d=>k (.fs d l)))
    | .cj s cs _ e .nil=>iz ep e (iz sz s (k .au))| .cj s cs _ e .es=>iz ep e (iz sz s (k .es))| _=>False
   | .cl f g=>zd j g fun d=>k (.fn f d)
   | _=>False) m
theorem aau{H:aj}{t:HT}(h:df H t):∀(m:Nat) (x:C) (k:FC→Prop),exK t m x k→∃ y,eG m H x=aa y∧k y:=by
 intro m;induction m with
 | zero=>
  intro x k q;cases x with
  | f y=>exact⟨y,rfl,q⟩| _=>exact q.elim
 | succ m E=>
  intro x k q;cases x with
  | f y=>exact⟨y,rfl,q⟩
  | ptr b off ep=>
   obtain⟨bj,g,d⟩:=dW q;rw [h]at g;have g:H[b]?=aa bj:=g;cases bj with
   | box cs fl=>
    obtain⟨z,j,u⟩:=iW E d;exact⟨_,by simp only [eG,g,j];rfl,u⟩
   | _=>exact d.elim
  | sl b o l cap ep sz=>
   obtain⟨bj,g,d⟩:=dW q;rw [h]at g;have g:H[b]?=aa bj:=g;cases bj with
   | box cs fl=>
    obtain⟨I,d⟩:=jh d;obtain⟨v,d⟩:=fS d;obtain⟨z,j,u⟩:=iW E d;rw [asr]at v;have v:l*sz≤_:=v;have j:bg (eG m H) ((cs.drop o).take (l*sz))=aa z:=j;exact⟨_,by simp only [eG,g];rw [ba (by omega),j];rfl,u⟩
   | cj s cs fl e st=>
    cases st with
    | loc=>
     obtain⟨A,d⟩:=di d;obtain⟨B,d⟩:=di d;obtain⟨I,d⟩:=jh d;obtain⟨v,d⟩:=fS d;obtain⟨z,j,u⟩:=iW E d;rw [asr]at v;have v:l*sz≤_:=v;have j:bg (eG m H) ((cs.drop o).take (l*sz))=aa z:=j;exact⟨_,by simp only [eG,g];rw [ba ⟨A,B,by omega⟩,j];rfl,u⟩
    | nil=>
     obtain⟨A,d⟩:=di d;obtain⟨B,d⟩:=di d;exact⟨_,by simp only [eG,g];rw [ba ⟨A,B⟩],d⟩
    | es=>
     obtain⟨A,d⟩:=di d;obtain⟨B,d⟩:=di d;exact⟨_,by simp only [eG,g];rw [ba ⟨A,B⟩],d⟩
   | _=>exact d.elim
  | cl f F=>
   obtain⟨z,j,u⟩:=iW E q;exact⟨_,by simp only [eG,j];rfl,u⟩
  | _=>exact q.elim
def E5(t:HT)(v:V)(k:V→Prop):Prop:=match v with
 | .c x=>exK t deep x fun y=>k (.c (.f y))
 | .a xs=>zd (exK t deep) xs fun ys=>fzK ys fun cs=>k (.a cs)
 | _=>False
theorem oW{H:aj}{t:HT}(h:df H t)(v:V)(k:V→Prop)(g:E5 t v k):∃ y,cK deep H v=aa y∧k y:=by
 cases v with
 | c x=>
  obtain⟨y,d,b⟩:=aau h deep x _ g;exact⟨_,by simp only [cK,d];rfl,b⟩
 | a xs=>
  obtain⟨ys,d,b⟩:=iW (aau h deep) g;rw [qG]at b;exact⟨_,by simp only [cK,d];rfl,b⟩
 | _=>exact g.elim
def alM(t:HT)(v:V)(k:V→Prop):Prop:=match v with
 | .t b=>zd (E5 t) b fun b=>k (.t b)
 | v=>E5 t v k
theorem E6{H:aj}{t:HT}(h:df H t)(v:V)(k:V→Prop)(b:alM t v k):∃ y,iV deep H v=aa y∧k y:=by
 cases v with
 | t j=>
  obtain⟨ys,d,g⟩:=iW (oW h) b;exact⟨_,by simp only [iV,d];rfl,g⟩
 | c x=>exact oW h (.c x) k b| a xs=>exact oW h (.a xs) k b| top=>exact b.elim
def DO{b:Type}(g:b→HT→(HT→Prop)→Prop)(xs:List b):HT→(HT→Prop)→Prop:=
 List.rec (motive:=fun _=>HT→(HT→Prop)→Prop) (fun t k=>k t) (fun x _ d t k=>g x t fun t=>d t k) xs
def MkS{b:Type}(g:b→HT→(HT→Prop)→Prop)(f:aj→b→aj):Prop:=∀(x:b) (H:aj) (t:HT) (k:HT→Prop),df H t→g x t k→∃ d,df (f H x) d∧k d
theorem lk{d:Type}{g:d→HT→(HT→Prop)→Prop}{f:aj→d→aj}(j:MkS g f):∀(xs:List d) (H:aj) (t:HT) (k:HT→Prop),df H t→DO g xs t k→∃ l,df (xs.foldl f H) l∧k l
 | [],H,t,k,h,b=>⟨t,h,b⟩
 | x::xs,H,t,k,h,b=>by
  obtain⟨s,m,q⟩:=j x H t _ h b;exact lk j xs _ s k m q
def mkK(m:Nat):C→HT→(HT→Prop)→Prop:=
 Nat.rec (motive:=fun _=>C→HT→(HT→Prop)→Prop) (fun _ t k=>k t)
  (fun _ g x t k=>match x with
   | .f _=>k t
   | .ptr b _ _=>gS b t fun bj=>match bj with
    | .box cs fl=>cw (Nat.max fl cs.length) fun fl=>gC (.box cs fl) t b fun t=>DO g cs t k
    | _=>k t
   | .sl b o l _ _ sz=>gS b t fun bj=>match bj with
    | .box cs fl=>cw (Nat.max fl (Nat.add o (Nat.mul l sz))) fun fl=>gC (.box cs fl) t b fun t=>uh o cs fun cs=>lL (Nat.mul l sz) cs fun cs=>DO g cs t k
    | .cj s cs fl e st=>cw (Nat.max fl (Nat.add o (Nat.mul l sz))) fun fl=>gC (.cj s cs fl e st) t b fun t=>uh o cs fun cs=>lL (Nat.mul l sz) cs fun cs=>DO g cs t k
    | _=>k t
   | .cl _ d=>DO g d t k
   | _=>k t) m
theorem aa_:∀(m:Nat),MkS (mkK m) (fun H x=>gu m x H):=by
 intro m;induction m with
 | zero=>intro x H t k h q;exact⟨t,by cases x<;>exact h,q⟩
 | succ m z=>
  intro x H t k h q;cases x with
  | f y=>exact⟨t,h,q⟩
  | ptr b off ep=>
   obtain⟨bj,d,g⟩:=dW q;rw [h]at d;have d:H[b]?=aa bj:=d;cases bj with
   | box cs fl=>
    change cw _ _ at g;rw [cA]at g;obtain⟨v,u,j⟩:=ek h g;simp only [gu,d];exact lk z cs _ v k u j
   | _=>simp only [gu,d];exact⟨t,h,g⟩
  | sl b o l cap ep sz=>
   obtain⟨bj,d,g⟩:=dW q;rw [h]at d;have d:H[b]?=aa bj:=d;cases bj with
   | box cs fl=>
    change cw _ _ at g;rw [cA]at g;obtain⟨v,u,j⟩:=ek h g;rw [lZ]at j;obtain⟨_,j⟩:=fS j;simp only [gu,d];exact lk z _ _ v k u j
   | cj s cs fl e st=>
    change cw _ _ at g;rw [cA]at g;obtain⟨v,u,j⟩:=ek h g;rw [lZ]at j;obtain⟨_,j⟩:=fS j;simp only [gu,d];exact lk z _ _ v k u j
   | _=>simp only [gu,d];exact⟨t,h,g⟩
  | cl f A=>
   simp only [gu];exact lk z _ _ t k h q
  | _=>exact⟨t,h,q⟩
def ao_(v:V)(t:HT)(k:HT→Prop):Prop:=match v with
 | .c x=>mkK deep x t k| .a xs=>DO (mkK deep) xs t k| _=>k t
theorem ahX:MkS ao_ (mkV deep):=by
 intro v H t k h b;cases v with
 | c x=>exact aa_ deep x H t k h b| a xs=>exact lk (aa_ deep) xs H t k h b| _=>exact⟨t,h,b⟩
def ajz(call:fG)(f:Nat)(d:List V)(t:HT)(n:Nat)(k:V→HT→Nat→Prop):Prop:=
 zd (E5 t) d fun g=>call (.fn f) g .e 0 fun b j _=>alM j b fun b=>DO ao_ d t fun t=>k b t n
theorem abu{call:cU}{bu:fG}(hc:oI call bu){f:Nat}{g:List V}{H:aj}{t:HT}{k:V→HT→Nat→Prop}(h:df H t)(b:ajz bu f g t H.length k) :
  ∃ v H' d,eC call f g H=aa (v,H')∧df H' d∧k v d H'.length:=by
 obtain⟨l,m,b⟩:=iW (oW h) b;obtain⟨y,z,A,q,s,b⟩:=hc (.fn f) l [] .e _ df.nil b;obtain⟨j,u,b⟩:=E6 s y _ b;obtain⟨d,x,b⟩:=lk ahX g H t _ h b;refine⟨j,_,d,by simp only [eC,m,q,u],x,?_⟩;rw [←(na deep g H).1];exact b
abbrev sX:=fG→T→List dU→HT→Nat→(V→List dU→HT→Nat→Prop)→Prop
def fK(op:da):sX:=fun _ r d t n k=>aoR op r t n fun v t n=>k v d t n
def alo(x:Arg):sX:=fun _ r d t n k=>oV x r fun v=>k v d t n
def ZN(c a b:Arg):sX:=fun _ r d t n k=>oV c r fun v=>match v with
 | .c (.f (.bool v))=>Bool.rec (motive:=fun _=>Prop) (oV b r fun v=>k v d t n) (oV a r fun v=>k v d t n) v
 | _=>False
def CW(zs:List FC):sX:=fun _ r d t n k=>fzK zs fun cs=>nS (.box cs 0) t n fun t b=>k (.c (.ptr n 0 0)) d t b
def alk(x:Arg):sX:=fun _ r d t n k=>oV x r fun v=>ua v fun xs=>nS (.box xs 0) t n fun t b=>k (.c (.ptr n 0 0)) d t b
def CX(zs:List FC)(ps:List (Nat × Nat × Arg)):sX:=fun _ r d t n k=>fzK zs fun cs=>D1 r ps cs fun cs=>k (.a cs) d t n
def ZM(m:Option Nat)(x:Arg):sX:=fun _ r d t n k=>oV x r fun v=>ldK t m v fun v=>k v d t n
def C1(m:Nat)(x y:Arg):sX:=fun _ r d t n k=>oV x r fun v=>oV y r fun y=>ua y fun xs=>iz xs.length m (match v with
 | .c p=>stK t p xs fun t=>k .top d t n
 | _=>False)
def yR(x:Arg):sX:=fun _ r d t n k=>oV x r fun v=>match v with
 | .c (.ptr b o e)=>k (.c (.ptr b o e)) d t n| .c (.f (.fp cs o))=>k (.c (.f (.fp cs o))) d t n| _=>False
def alj(op:BinOp)(x y:Arg):sX:=fun _ r d t n k=>oV x r fun x=>oV y r fun y=>alw op x y fun v=>k v d t n
def alm(j:IntKind)(x:Arg):sX:=fun _ r d t n k=>oV x r fun v=>match v with
 | .c (.f (.int _ m))=>yG j m fun m=>k (.c (.f (.int j m))) d t n
 | _=>False
def yP(off:Nat)(x:Arg):sX:=fun _ r d t n k=>oV x r fun v=>match v with
 | .c (.ptr b o e)=>cw (Nat.add o off) fun o=>k (.c (.ptr b o e)) d t n
 | .c (.f (.fp cs o))=>cw (Nat.add o off) fun o=>k (.c (.f (.fp cs o))) d t n
 | _=>False
def C0(off:Nat)(m:Option Nat)(x:Arg):sX:=fun _ r d t n k=>oV x r fun v=>match v with
 | .a xs=>FE m off xs fun v=>k v d t n
 | _=>False
def yQ(sz:Nat)(b:Option Nat)(x i:Arg):sX:=fun _ r d t n k=>oV x r fun x=>oV i r fun i=>aaL t sz b x i fun v=>k v d t n
def tR(x:Arg)(i:Nat):sX:=fun _ r d t n k=>oV x r fun v=>match v with
 | .t b=>ah1 i b fun v=>k v d t n
 | _=>False
def ZL(f:Nat)(args:List Arg)(h:Bool):sX:=fun call r d t n k=>AW args r fun b=>
 Bool.rec (motive:=fun _=>Prop) (ajz call f b t n fun v t n=>k v d t n) (call (.fn f) b t n fun v t n=>k v d t n) h
def CY(x:Arg)(args:List Arg)(_:Bool):sX:=fun call r d t n k=>oV x r fun x=>AW args r fun b=>
 pI (b5 x b) fun g=>Prod.rec (motive:=fun _=>Prop) (fun c b=>call c b t n fun v t n=>k v d t n) g
def ajg(m:Nat):sX:=fun _ r d t n k=>k (.c (.f (.int .i64 (.ofNat m)))) d t n
def aln(x:Arg):sX:=fun _ r d t n k=>oV x r fun v=>ahO t v fun m=>k (.c (.f (.int .i64 (.ofNat m)))) d t n
def yO(sz bytes:Nat)(x y:Arg):sX:=fun _ r d t n k=>oV x r fun x=>oV y r fun y=>alr t n sz bytes x y fun v t n=>k v d t n
def AM:sX:=fun _ r d t n k=>k (.c (.f .lO)) d t n
def CZ(x:Arg)(args:List Arg):sX:=fun _ r d t n k=>oV x r fun x=>AW args r fun b=>
 pI (b5 x b) fun g=>Prod.rec (motive:=fun _=>Prop) (fun c b=>Callee.rec (motive:=fun _=>Prop) (fun f=>k .top (.fn f b::d) t n) (fun _=>False) c) g
def apd(op:da):sX:=
 da.rec (motive:=fun _=>sX)
  alo (fun o s=>fK (.pre o s)) ZN CW alk CX (fun a b c e=>fK (.bP a b c e)) ZM C1 yR alj
  (fun a b c e=>fK (.eq a b c e)) (fun a b=>fK (.un a b)) alm (fun a=>fK (.wJ a)) (fun a=>fK (.wI a)) (fun a=>fK (.Db a)) (fun a b=>fK (.fQ a b)) (fK .jx)
  (fun a b c e=>fK (.lookup a b c e)) (fun a b c e=>fK (.iQ a b c e)) (fun a b c e f=>fK (.dZ a b c e f)) (fun a b c e f=>fK (.slice a b c e f)) (fun a b c e f g=>fK (.mF a b c e f g)) (fun a b c=>fK (.nT a b c))
  yP C0 yQ (fun a b=>fK (.idxs a b)) (fun a b c e f=>fK (.wL a b c e f)) (fun a=>fK (.range a)) (fun a=>fK (.next a)) tR ZL CY aln ajg (fun a=>fK (.lens a)) (fun a=>fK (.cap a))
  yO (fun a b c=>fK (.copy a b c)) (fun a b=>fK (.gG a b)) (fun a b c e f=>fK (.kQ a b c e f)) (fun a b c=>fK (.clear a b c)) (fun a=>fK (.jZ a)) (fun a=>fK (.nR a)) (fun a=>fK (.entry a)) (fun a b=>fK (.mq a b)) (fun a b c e=>fK (.vV a b c e)) (fun a b c e=>fK (.fL a b c e)) AM CZ (fK .bad) op
theorem ah2{call:cU}{bu:fG}(hc:oI call bu)(op:da){r:T}{d:List dU}{H:aj}{t:HT}{k:V→List dU→HT→Nat→Prop}(h:df H t)(g:apd op bu r d t H.length k) :
  ∃ v A H' q,eX call ⟨r,d,H⟩ op=aa (v,⟨r,A,H'⟩)∧df H' q∧k v A q H'.length:=by
 have go:∀ {v H' q},eX call ⟨r,d,H⟩ op=(bo r H op).map (fun r'=>(r'.1,⟨r,d,r'.2⟩))→bo r H op=aa (v,H')→df H' q→k v d q H'.length →
   ∃ v A H' q,eX call ⟨r,d,H⟩ op=aa (v,⟨r,A,H'⟩)∧df H' q∧k v A q H'.length:=
  fun s u l B=>⟨_,d,_,_,by rw [s,u];rfl,l,B⟩
 have gen:eX call ⟨r,d,H⟩ op=(bo r H op).map (fun r'=>(r'.1,⟨r,d,r'.2⟩))→fK op bu r d t H.length k →
   ∃ v A H' q,eX call ⟨r,d,H⟩ op=aa (v,⟨r,A,H'⟩)∧df H' q∧k v A q H'.length:=fun s u=>by
  obtain⟨v,H',q,l,B,I⟩:=ahs op r H t _ h u;exact go s l B I
 cases op
 case a7 x=>
  have g:alo x bu r d t H.length k:=g;unfold alo at g;rw [dx]at g;exact go rfl rfl h g
 case pick c a b=>
  have g:ZN c a b bu r d t H.length k:=g;unfold ZN at g;rw [dx]at g;split at g
  ·rename_i v z;cases v with
   | true=>
    simp only [dx]at g;exact go rfl (by simp only [bo,z];rfl) h g
   | false=>
    simp only [dx]at g;exact go rfl (by simp only [bo,z];rfl) h g
  ·exact g.elim
 case alloc zs=>
  have g:CW zs bu r d t H.length k:=g;unfold CW at g;rw [qG]at g;obtain⟨q,s,u⟩:=iD h g;exact go rfl rfl s u
 case box x=>
  have g:alk x bu r d t H.length k:=g;unfold alk at g;rw [dx]at g;obtain⟨xs,l,g⟩:=qx g;obtain⟨q,s,u⟩:=iD h g;exact go rfl (by simp only [bo,l]) s u
 case build zs ps=>
  have g:CX zs ps bu r d t H.length k:=g;unfold CX at g;rw [qG]at g;obtain⟨cs,l,g⟩:=yk r g;exact go rfl (by simp only [bo,l];rfl) h g
 case load m x=>
  have g:ZM m x bu r d t H.length k:=g;unfold ZM at g;rw [dx]at g;obtain⟨v,l,g⟩:=aaV h g;exact go rfl (by simp only [bo,l];rfl) h g
 case store m x y=>
  have g:C1 m x y bu r d t H.length k:=g;unfold C1 at g;rw [dx,dx]at g;obtain⟨xs,l,g⟩:=qx g;obtain⟨B,g⟩:=di g;split at g
  ·rename_i p M;obtain⟨H',q,I,K,L,g⟩:=amK h g;exact go rfl (by simp only [bo,M,l,B,if_true,I];rfl) K (by rw [L];exact g)
  ·exact g.elim
 case cq x=>
  have g:yR x bu r d t H.length k:=g;unfold yR at g;rw [dx]at g;split at g
  ·rename_i z;exact go rfl (by simp only [bo,z]) h g
  ·rename_i z;exact go rfl (by simp only [bo,z]) h g
  ·exact g.elim
 case bin op x y=>
  have g:alj op x y bu r d t H.length k:=g;unfold alj at g;rw [dx,dx]at g;obtain⟨v,l,g⟩:=ag5 g;exact go rfl (by simp only [bo,l];rfl) h g
 case fP j x=>
  have g:alm j x bu r d t H.length k:=g;unfold alm at g;rw [dx]at g;split at g
  ·rename_i z;simp only [pX]at g;exact go rfl (by simp only [bo,z];rfl) h g
  ·exact g.elim
 case aR off x=>
  have g:yP off x bu r d t H.length k:=g;unfold yP at g;rw [dx]at g;split at g
  ·rename_i z;rw [cA]at g;exact go rfl (by simp only [bo,z,iY];rfl) h g
  ·rename_i z;rw [cA]at g;exact go rfl (by simp only [bo,z,iY];rfl) h g
  ·exact g.elim
 case field off m x=>
  have g:C0 off m x bu r d t H.length k:=g;unfold C0 at g;rw [dx]at g;split at g
  ·rename_i z;obtain⟨v,l,g⟩:=vE g;exact go rfl (by simp only [bo,z,jT,l];rfl) h g
  ·exact g.elim
 case bM sz F x i=>
  have g:yQ sz F x i bu r d t H.length k:=g;unfold yQ at g;rw [dx,dx]at g;obtain⟨v,l,g⟩:=OJ h g;exact go rfl (by simp only [bo,l];rfl) h g
 case extract x i=>
  have g:tR x i bu r d t H.length k:=g;unfold tR at g;rw [dx]at g;split at g
  ·rename_i z;obtain⟨v,l,g⟩:=tu g;exact go rfl (by simp only [bo,z,l];rfl) h g
  ·exact g.elim
 case call f args E=>
  have g:ZL f args E bu r d t H.length k:=g;unfold ZL at g;rw [oQ]at g;cases E with
  | false=>
   obtain⟨v,H',q,s,u,l⟩:=abu hc h g;exact⟨v,d,H',q,by simp only [eX,gI,aso,if_false,s];rfl,u,l⟩
  | true=>
   obtain⟨v,H',q,s,u,l⟩:=hc _ _ H t _ h g;exact⟨v,d,H',q,by simp only [eX,gI,if_true,s];rfl,u,l⟩
 case cr x args E=>
  have g:CY x args E bu r d t H.length k:=g;unfold CY at g;rw [dx,oQ]at g;obtain⟨⟨c,J⟩,s,g⟩:=jb g;obtain⟨v,H',q,u,l,B⟩:=hc c J H t _ h g;exact⟨v,d,H',q,by simp only [eX,s,u];rfl,l,B⟩
 case len x=>
  have g:aln x bu r d t H.length k:=g;unfold aln at g;rw [dx]at g;obtain⟨y,m,s,u,g⟩:=Fv h g;exact go rfl (by simp only [bo,s,u];rfl) h g
 case nv m=>
  have g:ajg m bu r d t H.length k:=g;exact go rfl rfl h g
 case append sz bytes x y=>
  have g:yO sz bytes x y bu r d t H.length k:=g;unfold yO at g;rw [dx,dx]at g;obtain⟨v,H',q,s,u,l⟩:=EP h g;exact go rfl (by simp only [bo,s]) u l
 case recover=>
  have g:AM bu r d t H.length k:=g;exact⟨_,d,H,t,rfl,h,g⟩
 case defer x args=>
  have g:CZ x args bu r d t H.length k:=g;unfold CZ at g;rw [dx,oQ]at g;obtain⟨⟨c,J⟩,s,g⟩:=jb g;cases c with
  | fn f=>exact⟨_,.fn f J::d,H,t,by simp only [eX,s],h,g⟩
  | yield b=>exact g.elim
 all_goals exact gen rfl g
end
section
set_option linter.unusedVariables false
def zJ(H:aj):C→Int→C→Option (V × aj)
 | .sl b o l _ ep s,i,.sl vb g 1 _ _ _=>match H[b]?,H[vb]? with
  | some (.cj s' cs fl e .loc),aa (.box d _)=>
   if o=0∧g=0∧ep=e∧s=10∧s'=10∧cs.length=l*10∧fl=0∧0≤i∧i<l∧l≤1000000∧d.length=10 then
    aa (.c (.sl b 0 (l+1) 0 (e+1) 10),H.set b (.cj 10 (cs.take (i.toNat*10)++d++cs.drop (i.toNat*10)) 0 (e+1) .loc))
   else ab
  | _,_=>ab
 | _,_,_=>ab
def OL(args:List V)(H:aj):Option (V × aj):=
 match args with
 | [.c x,.c (.f (.int .i64 i)),.c y]=>match bt H x,cX H 10 (.c y)with
  | some n,aa (1,_)=>if i=n then cI H 10 112 (.c x) (.c y)else zJ H x i y| _,_=>ab
 | _=>ab
def rD(f:Nat)(args:List V)(H:aj):Option (Option (V × aj)):=if f=fA then aa (OL args H)else ab
end
section
set_option linter.unusedVariables false
def ahB(args:List V)(t:HT)(n:Nat)(k:V→HT→Nat→Prop):Prop:=match args with
 | [.c x,.c (.f (.int .i64 (.ofNat i))),.c y]=>ahO t (.c x) fun l=>nN (Nat.beq i l) (yS t 10 (.c y) fun m _=>nN (Nat.beq m 1) (alr t n 10 112 (.c x) (.c y) k))
 | _=>False
theorem ahC{H:aj}{t:HT}(h:df H t){args:List V}{k:V→HT→Nat→Prop}(g:ahB args t H.length k):∃ v H' q,rD fA args H=aa (aa (v,H'))∧df H' q∧k v q H'.length:=by
 unfold ahB at g;split at g
 ·rename_i x i y;obtain⟨F,l,e,E,j⟩:=Fv h g;cases e;obtain⟨s,b⟩:=jo j;have s:=ath s;subst s;clear g j;obtain⟨m,ys,B,u⟩:=xq h b;clear b;obtain⟨d,b⟩:=jo u;have d:=ath d;subst d;obtain⟨v,H',q,z,d,A⟩:=EP h b;exact⟨v,H',q,by simp [rD,OL,E,B,z],d,A⟩
 ·exact g.elim
end
section
def yL(c1 c2:cU):Prop:=∀ c args H r,c1 c args H=aa r→c2 c args H=aa r
section
variable{c1 c2:cU}(hc:yL c1 c2)
include hc
theorem wT{c:Nat}{args:List V}{H:aj}{r:V × aj}(h:eC c1 c args H=aa r):eC c2 c args H=aa r:=by
 unfold eC at h ⊢;split at h
 ·simp at h
 ·rename_i g b;split at h
  ·simp at h
  ·rename_i j d h0;simp only [hc _ _ _ _ h0];exact h
theorem zB{b:Bool}{c:Nat}{args:List V}{H:aj}{r:V × aj}(h:gI c1 b c args H=aa r):gI c2 b c args H=aa r:=by
 unfold gI at h ⊢;split at h
 ·rename_i d;simp only [d,if_true];exact hc _ _ _ _ h
 ·rename_i d;simp only [d];exact wT hc h
theorem yH{s:St}{op:da}{r:V × St}(h:eX c1 s op=aa r):eX c2 s op=aa r:=by
 cases op with
 | call f args b=>
  simp only [eX,IT]at h ⊢;obtain⟨a,d,rfl⟩:=h;exact⟨a,zB hc d,rfl⟩
 | cr x args b=>
  simp only [eX]at h ⊢;split at h
  ·simp only [IT]at h ⊢;obtain⟨a,d,rfl⟩:=h;exact⟨a,hc _ _ _ _ d,rfl⟩
  ·simp at h
 | _=>exact h
theorem wz{s s':St}{o:aP}(h:fJ c1 s o=aa s'):fJ c2 s o=aa s':=by
 unfold fJ at h ⊢;cases g:wanted s.az o.g with
 | none=>simp [g]at h
 | some b=>
  cases b with
  | false=>simpa [g]using h
  | true=>
   simp only [g]at h ⊢;cases d:eX c1 s o.op with
   | none=>simp [d]at h
   | some x=>
    obtain⟨v,j⟩:=x;rw [yH hc d];rw [d]at h;exact h
theorem dS:∀(os:List aP) (s:St) {s':St},fF c1 os s=aa s'→fF c2 os s=aa s'
 | [],s,s',h=>h
 | o::os,s,s',h=>by
  simp only [fF]at h ⊢;split at h
  ·rename_i d b;simp only [wz hc b];exact dS os d h
  ·simp at h
theorem pY:∀(os:List aP) (s:St) {ss:List St},eb c1 os s=aa ss→eb c2 os s=aa ss
 | [],s,ss,h=>h
 | o::os,s,ss,h=>by
  simp only [eb]at h ⊢;split at h
  ·rename_i g b;simp only [wz hc b];split at h
   ·rename_i j d;simp only [pY os g d];exact h
   ·simp at h
  ·simp at h
theorem zU{ops:List aP}{im:List (Nat × Nat)}{s s':St}(h:fZ c1 ops im s=aa s'):fZ c2 ops im s=aa s':=by
 unfold fZ at h ⊢;split at h
 ·exact dS hc _ _ h
 ·split at h
  ·rename_i ss b;simp only [pY hc _ _ b];exact h
  ·simp at h
theorem pS{fn:Nat}:∀(n x:Nat) (ro:Option Nat) (j:List dg) (s:St) {r:Option aF × St},n≤x →
  run c1 fn n ro j s=aa r→run c2 fn x ro j s=aa r
 | 0,_,_,_,_,_,_,h=>by simp [run]at h
 | n+1,0,_,_,_,_,E,_=>by omega
 | n+1,x+1,ro,j,s,r,E,h=>by
  have m:=fun ro j s r h=>pS (fn:=fn) n x ro j s (r:=r) (by omega) h
  match j,h with
  | [],h=>exact h| .inBlock _::k,h=>exact m _ _ _ _ h| .inLoop c::k,h=>exact m _ _ _ _ h
  | .iP b::k,h=>
   simp only [run]at h ⊢;split at h
   ·rename_i f tmps ps as bd st pending d z
    try simp only [z]
    split at h
    ·simp at h
    ·rename_i A
     try simp only [A,if_false]
     split at h
     ·exact m _ _ _ _ h
     ·exact m _ _ _ _ h
     ·exact m _ _ _ _ h
     ·simp at h
   ·simp at h
  | .lW::k,h=>
   simp only [run]at h ⊢;split at h
   ·simp at h
   ·rename_i b;split at h
    ·rename_i z
     try simp only [z]
     exact m _ _ _ _ h
    ·simp at h
  | .code .skip::k,h=>exact m _ _ _ _ h| .inScope _::k,h=>exact m _ _ _ _ h| .code (.label _)::k,h=>exact m _ _ _ _ h| .code (.scope a)::k,h=>exact m _ _ _ _ h
  | .code (.goto l)::k,h=>
   simp only [run]at h ⊢;split at h
   ·rename_i u;(try simp only [u]);exact m _ _ _ _ h
   ·simp at h
  | .code .bad::_,h=>simp [run]at h| .code .ret::_,h=>exact h
  | .code (.exit id)::k,h=>
   simp only [run]at h ⊢;split at h
   ·rename_i u;(try simp only [u]);exact m _ _ _ _ h
   ·rename_i u;(try simp only [u]);exact h
  | .code (.seq a b)::k,h=>exact m _ _ _ _ h| .code (.block id a)::k,h=>exact m _ _ _ _ h| .code (.loop a)::k,h=>exact m _ _ _ _ h
  | .code (.cond c a b)::k,h=>
   simp only [run]at h ⊢;split at h
   ·rename_i v F;(try simp only [F]);exact m _ _ _ _ h
   ·simp at h
  | .code (.region ops im)::k,h=>
   simp only [run]at h ⊢;split at h
   ·simp at h
   ·rename_i q
    try simp only [q]
    split at h
    ·rename_i I y
     try simp only [zU hc y]
     exact m _ _ _ _ h
    ·simp at h
  | .code (.fN f ps as bd)::k,h=>
   simp only [run]at h ⊢;split at h
   ·simp at h
   ·rename_i q
    try simp only [q]
    split at h
    ·rename_i g args B
     try simp only [B]
     split at h
     ·rename_i v H y
      try simp only [hc _ _ _ _ y]
      exact m _ _ _ _ h
     ·simp at h
    ·simp at h
theorem jd:∀(ds:List dU) (H:aj) {H':aj},dO c1 ds H=aa H'→dO c2 ds H=aa H'
 | [],H,H',h=>h
 | .gM b::ds,H,H',h=>by
  simp only [dO]at h ⊢;split at h
  ·rename_i l;exact jd ds _ h
  ·simp at h
 | .fn f args::ds,H,H',h=>by
  simp only [dO]at h ⊢;split at h
  ·simp at h
  rename_i d;rw [aX d];split at h
  ·rename_i v j g
   try simp only [hc _ _ _ _ g]
   exact jd ds _ h
  ·simp at h
end
variable{tab:Nat→Option aK}{nz:Nat→List V→aj→Option (Option (V × aj))}
theorem tX{m l:Nat}(v:m≤l):∀(d g:Nat),d≤g→yL (eI tab nz m d) (eI tab nz l g)
 | 0,_,_,_,_,_,_,h=>by simp [eI]at h
 | d+1,0,E,_,_,_,_,_=>by omega
 | d+1,g+1,E,c,args,H,r,h=>by
  have z:yL (eI tab nz m d) (eI tab nz l g):=tX v d g (by omega)
  match c,h with
  | .fn f,h=>
   simp only [eI]at h ⊢;split at h
   ·rename_i r' x;(try simp only [x]);exact h
   ·rename_i x
    try simp only [x]
    split at h
    ·simp at h
    ·rename_i af q
     try simp only [q]
     split at h
     ·rename_i u
      try simp only [u,if_true]
      split at h
      ·rename_i j s y
       try simp only [pS z m l _ _ _ v y]
       split at h
       ·rename_i F A
        try simp only [jd z _ _ A]
        exact h
       ·simp at h
      ·simp at h
     ·simp at h
  | .yield b,h=>
   simp only [eI]at h ⊢;split at h
   ·rename_i f tmps ps as bd I J K B
    try simp only [B]
    split at h
    ·rename_i u
     try simp only [u,if_true]
     split at h
     ·rename_i j s y
      try simp only [pS z m l _ _ _ v y]
      exact h
     ·simp at h
    ·simp at h
   ·simp at h
end
structure TB where
 get:Nat→Option aK
 rD:Nat→List V→aj→Option (Option (V × aj))
 ok:∀ f a,get f=aa a→∀ args H,rD f args H=ab
instance:CoeFun TB fun _=>Nat→Option aK:=⟨TB.get⟩
section
variable(tab:TB)
abbrev CF(m d:Nat):cU:=eI tab.get tab.rD m d
def Ev(c:Callee)(args:List V)(H:aj)(r:V)(H':aj):Prop:=∃ m d,CF tab m d c args H=aa (r,H')
def bh(f:Nat)(args:List V)(r:V):Prop:=∃ b H',Ev tab (.fn f) args [] b H'∧iV deep H' b=aa r
def WP(fn:Nat)(ro:Option Nat)(b:List dg)(s:St)(Q:Option aF→St→Prop):Prop:=
 ∃ n m d j s',run (CF tab m d) fn n ro b s=aa (j,s')∧Q j s'
def jD(s:St)(op:da)(K:V→St→Prop):Prop:=
 match op with
 | .call f args h=>
  if h then ∃ r H',Ev tab (.fn f) (dz s.az args) s.heap r H'∧K r { s with heap:=H' }
  else ∃ b r,bg (cK deep s.heap) (dz s.az args)=aa b∧bh tab f b r∧K r { s with heap:=(dz s.az args).foldl (mkV deep) s.heap }
 | .cr x args _=>∃ c as r H',b5 (x.ev s.az) (dz s.az args)=aa (c,as)∧Ev tab c as s.heap r H'∧K r { s with heap:=H' }
 | .recover=>K (.c (.f .lO)) s| .defer x args=>∃ f as,b5 (x.ev s.az) (dz s.az args)=aa (.fn f,as)∧K .top { s with defs:=.fn f as::s.defs }
 | op=>∃ v H',bo s.az s.heap op=aa (v,H')∧K v { s with heap:=H' }
def wE:List aP→St→(St→Prop)→Prop
 | [],s,K=>K s
 | o::os,s,K=>match wanted s.az o.g with
  | some ae=>jD tab s o.op fun v s'=>wE os { s' with az:=jy s'.az o.dst v } K
  | some ag=>wE os { s with az:=jy s.az o.dst (.t []) } K
  | none=>False
variable{tab}
variable{c:Callee}{args:List V}{H H':aj}{r:V}
theorem jI{m g d b:Nat}(l:m≤g)(j:d≤b):yL (CF tab m d) (CF tab g b):=tX l d b j
theorem Ev.det{q:V}{b:aj}(h1:Ev tab c args H r H')(h2:Ev tab c args H q b):r=q∧H'=b:=by
 obtain⟨m,d,h1⟩:=h1;obtain⟨l,g,h2⟩:=h2;have s:=jI (tab:=tab) (asM m l) (asM d g) _ _ _ _ h1;have j:=jI (tab:=tab) (asD m l) (asD d g) _ _ _ _ h2;rw [s]at j;simpa using j
theorem bh.det{f:Nat}{d:V}(h1:bh tab f args r)(h2:bh tab f args d):r=d:=by
 obtain⟨a,l,g,h1⟩:=h1;obtain⟨b,m,j,h2⟩:=h2;obtain⟨rfl,rfl⟩:=g.det j;rw [h1]at h2;simpa using h2
theorem NO{s:St}{op:da}{K:V→St→Prop}(h:jD tab s op K):∃ m d v s',eX (CF tab m d) s op=aa (v,s')∧K v s':=by
 cases op with
 | call f args b=>
  simp only [jD]at h;split at h
  ·rename_i l;obtain⟨r,H',⟨m,d,g⟩,j⟩:=h;exact⟨m,d,r,_,by simp [eX,gI,l,g],j⟩
  ·rename_i l;obtain⟨y,r,h0,⟨z,u,⟨m,d,g⟩,j⟩,q⟩:=h;exact⟨m,d,r,_,by simp [eX,gI,l,eC,h0,g,j],q⟩
 | cr x args b=>
  obtain⟨c,as,r,H',h0,⟨m,d,g⟩,j⟩:=h;exact⟨m,d,r,_,by simp [eX,h0,g],j⟩
 | recover=>exact⟨0,0,_,_,rfl,h⟩
 | «defer» x args=>
  obtain⟨f,as,h0,g⟩:=h;exact⟨0,0,.top,_,by simp [eX,h0],g⟩
 | _=>
  obtain⟨v,H',h0,g⟩:=h;exact⟨0,0,v,_,by simp [eX,h0],g⟩
theorem jf:∀(os:List aP) (s:St) {K:St→Prop},wE tab os s K→∃ m d s',fF (CF tab m d) os s=aa s'∧K s'
 | [],s,K,h=>⟨0,0,s,rfl,h⟩
 | o::os,s,K,h=>by
  simp only [wE]at h;split at h
  ·rename_i q;obtain⟨m,d,v,A,y,z⟩:=NO h;obtain⟨g,b,s',j,l⟩:=jf os _ z;refine⟨max m g,max d b,s',?_,l⟩;have u:=yH (jI (tab:=tab) (asM m g) (asM d b)) y;have x:=dS (jI (tab:=tab) (asD m g) (asD d b)) os _ j;simp only [fF,fJ,q,u,x]
  ·rename_i q;obtain⟨g,b,s',j,l⟩:=jf os _ h;exact⟨g,b,s',by simp only [fF,fJ,q,j],l⟩
  ·exact h.elim
variable{fn:Nat}{ro:Option Nat}{k:List dg}{s:St}{Q:Option aF→St→Prop}{a b:aF}
theorem jK{g:List dg}{b:List dg}{s':St}(h:WP tab fn ro b s' Q)
  (u:∀ m d n,run (CF tab m d) fn (n+1) ro g s=run (CF tab m d) fn n ro b s'):WP tab fn ro g s Q:=by
 obtain⟨n,m,d,j,v,l,q⟩:=h;exact⟨n+1,m,d,j,v,by rw [u,l],q⟩
theorem cL(h:Q ab s):WP tab fn ro [] s Q:=⟨1,0,0,ab,s,rfl,h⟩
theorem aw{i:Nat}(h:WP tab fn ro k s Q):WP tab fn ro (.inBlock i::k) s Q:=jK h fun _ _ _=>rfl
theorem qQ(h:WP tab fn ro (.code a::.inLoop a::k) s Q):WP tab fn ro (.inLoop a::k) s Q:=jK h fun _ _ _=>rfl
theorem aO(h:WP tab fn ro k s Q):WP tab fn ro (.code .skip::k) s Q:=jK h fun _ _ _=>rfl
theorem aaS{l:Nat}(h:WP tab fn ro k s Q):WP tab fn ro (.code (.label l)::k) s Q:=jK h fun _ _ _=>rfl
theorem Bs(h:WP tab fn ro (.code a::.inScope a::k) s Q):WP tab fn ro (.code (.scope a)::k) s Q:=jK h fun _ _ _=>rfl
theorem ak(h:WP tab fn ro (.code a::.code b::k) s Q):WP tab fn ro (.code (.seq a b)::k) s Q:=jK h fun _ _ _=>rfl
theorem aG{i:Nat}(h:WP tab fn ro (.code a::.inBlock i::k) s Q):WP tab fn ro (.code (.block i a)::k) s Q:=jK h fun _ _ _=>rfl
theorem aB(h:Q (aa .ret) s):WP tab fn ro (.code .ret::k) s Q:=⟨1,0,0,aa .ret,s,rfl,h⟩
theorem bR{i:Nat}{k':List dg}(b:exitTo i k=aa k')(h:WP tab fn ro k' s Q):WP tab fn ro (.code (.exit i)::k) s Q:=
 jK h fun _ _ _=>by simp only [run,b]
theorem Fq{c:Arg}{v:Bool}(hc:c.ev s.az=.c (.f (.bool v)))(h:WP tab fn ro (.code (if v then a else b)::k) s Q) :
  WP tab fn ro (.code (.cond c a b)::k) s Q:=jK h fun _ _ _=>by simp only [run,hc]
theorem aq{c:Arg}(hc:c.ev s.az=.c (.f (.bool ae)))(h:WP tab fn ro (.code a::k) s Q) :
  WP tab fn ro (.code (.cond c a b)::k) s Q:=Fq hc h
theorem aD{c:Arg}(hc:c.ev s.az=.c (.f (.bool ag)))(h:WP tab fn ro (.code b::k) s Q) :
  WP tab fn ro (.code (.cond c a b)::k) s Q:=Fq hc h
theorem vS{m l d j n g:Nat}{b:List dg}{x:Option aF × St}(u:m≤l)(q:d≤j)(v:n≤g)
  (h:run (CF tab m d) fn n ro b s=aa x):run (CF tab l j) fn g ro b s=aa x:=
 pS (jI u q) n g ro b s v h
theorem al{ops:List aP}(g:ro=ab∨ops.all (·.op.ea)=ae)(h:wE tab ops s fun s'=>WP tab fn ro k s' Q) :
  WP tab fn ro (.code (.region ops [])::k) s Q:=by
 obtain⟨m,d,s',x,n,q,b,j,A,y,z⟩:=jf ops s h;refine⟨n+1,max m q,max d b,j,A,?_,z⟩;have u:=dS (jI (tab:=tab) (asM m q) (asM d b)) ops _ x;have v:=vS (asD m q) (asD d b) (aft n) y;have l:(ro.isSome&&!ops.all (·.op.ea))=ag:=by
  rcases g with rfl | g
  ·rfl
  ·rw [g];simp
 simp only [run,l,fZ,u,v];simp
theorem cP(I:Nat→St→Prop)(n:Nat)(h0:I n s)
  (step:∀ n s,I n s→(∀ b s',b<n→I b s'→WP tab fn ro (.inLoop a::k) s' Q)→WP tab fn ro (.code a::.inLoop a::k) s Q) :
  WP tab fn ro (.code (.loop a)::k) s Q:=by
 have key:∀ n s,I n s→WP tab fn ro (.code a::.inLoop a::k) s Q:=by
  intro n;induction n using Nat.strongRecOn with
  | _ n l=>
   intro s j;exact step n s j fun b s' g d=>qQ (l b g s' d)
 exact jK (key n s h0) fun _ _ _=>rfl
def Fin(tab:TB)(af:aK)(r:V)(H':aj)(s:St):Prop:=
 ∃ m d b,dO (CF tab m d) s.defs s.heap=aa b∧results s.az b af.results=aa r∧b=H'
theorem rq{f:Nat}{af:aK}(z:tab f=aa af)(J:args.length=af.ps.length)
  (h:WP tab f ab [.code af.body] ⟨cM af.ps args .e,[],H⟩ fun _ s=>Fin tab af r H' s):Ev tab (.fn f) args H r H':=by
 obtain⟨n,m,d,j,s,B,A,v,L,F,I,rfl⟩:=h;obtain⟨M,l,q,u⟩:∃ M,m≤M∧A≤M∧n≤M:=⟨max (max m A) n,by omega,by omega,by omega⟩
 obtain⟨E,b,g⟩:∃ E,d≤E∧v≤E:=⟨max d v,by omega,by omega⟩
 refine⟨M,E+1,?_⟩;have x:run (CF tab M E) f M ab [.code af.body] ⟨cM af.ps args .e,[],H⟩=aa (j,s):=vS l b u B;have y:=jd (jI (tab:=tab) q g) _ _ F;have K:=tab.ok _ _ z args H;simp only [CF]at x y ⊢;simp only [eI,K,z,J,if_true,x,y,I,asY]
def rJ(res:List gw)(r:V)(s:St):Prop:=s.defs=[]∧∃ b,results s.az s.heap res=aa b∧iV deep s.heap b=aa r
theorem bV{f:Nat}{ps:List P}{res:List gw}{body:aF}(x:tab f=aa ⟨ps,res,body⟩)(v:args.length=ps.length)
  (h:∀ Q:Option aF→St→Prop,(∀ j s,rJ res r s→Q j s)→WP tab f ab [.code body] ⟨cM ps args .e,[],[]⟩ Q):bh tab f args r:=by
 have b:=h (fun _ s=>rJ res r s) fun _ _ h=>h;obtain⟨n,m,d,j,s,g,u,y,l,q⟩:=b;exact⟨y,s.heap,rq x v ⟨n,m,d,j,s,g,0,0,s.heap,by rw [u];rfl,l,rfl⟩,q⟩
end
theorem ai{tab:TB}{fn:Nat}{ops:List aP}{b:aF}{k:List dg}{s:St}{Q:Option aF→St→Prop}(h:wE tab ops s fun s'=>WP tab fn ab (.code b::k) s' Q):WP tab fn ab (.code (.seq (.region ops []) b)::k) s Q:=ak (al (.inl rfl) h)
theorem bp{tab:TB}{fn:Nat}{ro:Option Nat}{a:aF}{c:Arg}{k:List dg}{s:St}{Q:Option aF→St→Prop}(hc:c.ev s.az=.c (.f (.bool ag)))(h:WP tab fn ro k s Q):WP tab fn ro (.code (.cond c a .skip)::k) s Q:=aD hc (aO h)
section
set_option linter.unusedVariables false
def ajD(g:Option (P × Bool))(r:T)(d j:Prop):Prop:=
 Option.rec (motive:=fun _=>Prop) d (fun l=>Prod.rec (motive:=fun _=>Prop) (fun p w=>Bi p r fun v=>match v with
  | .c (.f (.bool b))=>Bool.rec (motive:=fun _=>Prop) (Bool.rec (motive:=fun _=>Prop) d j w) (Bool.rec (motive:=fun _=>Prop) j d w) b
  | .t []=>j
  | _=>False) l) g
theorem acy{g:Option (P × Bool)}{r:T}{d l:Prop}(h:ajD g r d l):(wanted r g=aa ae∧d)∨(wanted r g=aa ag∧l):=by
 cases g with
 | none=>exact .inl ⟨rfl,h⟩
 | some m=>
  obtain⟨p,w⟩:=m;change Bi p r _ at h;rw [mX]at h;simp only [wanted];split at h
  ·rename_i b j;rw [j];cases b<;>cases w
   ·exact .inl ⟨rfl,h⟩
   ·exact .inr ⟨rfl,h⟩
   ·exact .inr ⟨rfl,h⟩
   ·exact .inl ⟨rfl,h⟩
  ·rename_i j;rw [j];exact .inr ⟨rfl,h⟩
  ·exact h.elim
abbrev NN:=T→List dU→HT→Nat→Prop
def acg(o:aP)(call:fG)(r:T)(d:List dU)(t:HT)(n:Nat)(k:NN):Prop:=
 aP.rec (motive:=fun _=>Prop) (fun dst op g=>ajD g r (apd op call r d t n fun v d t n=>amw dst r v fun r=>k r d t n) (amw dst r (.t []) fun r=>k r d t n)) o
theorem Cm{call:cU}{bu:fG}(hc:oI call bu){o:aP}{r:T}{d:List dU}{H:aj}{t:HT}{k:NN}(h:df H t)(b:acg o bu r d t H.length k) :
  ∃ s' j,fJ call ⟨r,d,H⟩ o=aa s'∧df s'.heap j∧k s'.az s'.defs j s'.heap.length:=by
 obtain⟨dst,op,g⟩:=o;rcases acy b with⟨l,b⟩ | ⟨l,b⟩
 ·obtain⟨v,q,H',j,s,u,m⟩:=ah2 hc op h b;rw [FG]at m;exact⟨⟨jy r dst v,q,H'⟩,j,by simp only [fJ,l,s],u,m⟩
 ·rw [FG]at b;exact⟨⟨jy r dst (.t []),d,H⟩,t,by simp only [fJ,l],h,b⟩
def apm(ops:List aP)(call:fG):T→List dU→HT→Nat→NN→Prop:=
 List.rec (motive:=fun _=>T→List dU→HT→Nat→NN→Prop) (fun r d t n k=>k r d t n) (fun o _ b r d t n k=>acg o call r d t n fun r d t n=>b r d t n k) ops
theorem FB{call:cU}{bu:fG}(hc:oI call bu):∀ {ops:List aP} {r:T} {d:List dU} {H:aj} {t:HT} {k:NN},df H t→apm ops bu r d t H.length k →
  ∃ s' j,fF call ops ⟨r,d,H⟩=aa s'∧df s'.heap j∧k s'.az s'.defs j s'.heap.length
 | [],r,d,H,t,k,h,b=>⟨⟨r,d,H⟩,t,rfl,h,b⟩
 | o::ops,r,d,H,t,k,h,b=>by
  obtain⟨g,z,l,m,q⟩:=Cm hc h b;obtain⟨x,y,s,u,v⟩:=FB hc (r:=g.az) (d:=g.defs) (H:=g.heap) m q;exact⟨x,y,by simp only [fF,l];exact s,u,v⟩
structure tP where
 r:T
 d:List dU
 t:HT
 n:Nat
def zO(ops:List aP)(call:fG):T→List dU→HT→Nat→(List tP→NN)→Prop:=
 List.rec (motive:=fun _=>T→List dU→HT→Nat→(List tP→NN)→Prop) (fun r d t n k=>k [⟨r,d,t,n⟩] r d t n)
  (fun o _ q r d t n k=>acg o call r d t n fun r' m u s=>q r' m u s fun ss j b l g=>k (⟨r,d,t,n⟩::ss) j b l g) ops
def ajf(s:St)(x:tP):Prop:=x.r=s.az∧x.d=s.defs∧df s.heap x.t∧x.n=s.heap.length
inductive tQ:List St→List tP→Prop
 | nil:tQ [] []
 | cons {s:St} {x:tP} {ss:List St} {xs:List tP} (h:ajf s x) (hs:tQ ss xs):tQ (s::ss) (x::xs)
theorem tQ.get{ss:List St}{xs:List tP}(h:tQ ss xs):∀(i:Nat) (x:tP),xs[i]?=aa x→∃ s,ss[i]?=aa s∧ajf s x:=by
 induction h with
 | nil=>intro i x b;simp at b
 | cons h g d=>
  intro i x b;cases i with
  | zero=>simp at b;subst b;exact⟨_,rfl,h⟩| succ i=>simpa using d i x (by simpa using b)
theorem wa{call:cU}{bu:fG}(hc:oI call bu):∀ {ops:List aP} {r:T} {d:List dU} {H:aj} {t:HT} {k:List tP→NN},df H t→zO ops bu r d t H.length k →
  ∃ ss xs s' l,eb call ops ⟨r,d,H⟩=aa ss∧tQ ss xs∧ss.getLast?=aa s'∧df s'.heap l∧k xs s'.az s'.defs l s'.heap.length
 | [],r,d,H,t,k,h,b=>⟨[⟨r,d,H⟩],[⟨r,d,t,H.length⟩],⟨r,d,H⟩,t,rfl,.cons ⟨rfl,rfl,h,rfl⟩ .nil,rfl,h,b⟩
 | o::ops,r,d,H,t,k,h,b=>by
  obtain⟨g,B,m,q,s⟩:=Cm hc h b;obtain⟨ss,xs,z,A,u,v,j,x,y⟩:=wa hc (r:=g.az) (d:=g.defs) (H:=g.heap) q s;refine⟨⟨r,d,H⟩::ss,⟨r,d,t,H.length⟩::xs,z,A,by simp only [eb,m];rw [u],.cons ⟨rfl,rfl,h,rfl⟩ v,?_,x,y⟩;cases ss with
  | nil=>simp at j| cons a as=>simpa using j
def FM(ops:List aP)(xs:List tP)(c:Nat × Nat):Bool:=
 match ops[c.1]?,xs[c.1]?,xs[c.2]? with
 | some o,aa s,aa s'=>match wanted s.r o.g with
  | some ag=>ae
  | _=>match acB s.r s.t.get s.n o.op,acB s.r s'.t.get s'.n o.op with
   | some (v,_),aa (b,_)=>v.beq b| _,_=>ag
 | _,_,_=>ag
theorem abL{ops:List aP}{ss:List St}{xs:List tP}(h:tQ ss xs){c:Nat × Nat}(hc:FM ops xs c=ae):sameAt ops ss c=ae:=by
 unfold FM at hc;split at hc
 ·rename_i o x N y z A;obtain⟨s,l,m,J,q,u⟩:=h.get _ _ z;obtain⟨s',E,K,L,F,H⟩:=h.get _ _ A;unfold sameAt;rw [y,l,E];simp only;rw [←m];split at hc
  ·rename_i B;rw [B]
  ·split at hc
   ·rename_i v e M I g j;rw [q,u]at g;rw [F,H]at j;have b:=zT x.r s.heap o.op;rw [g]at b;have d:=zT x.r s'.heap o.op;rw [j]at d;rw [←b,←d];split
    ·rfl
    ·exact hc
   ·simp at hc
 ·simp at hc
def pL(ops:List aP)(im:List (Nat × Nat))(call:fG)(r:T)(d:List dU)(t:HT)(n:Nat)(k:NN):Prop:=
 List.rec (motive:=fun _=>Prop) (apm ops call r d t n k) (fun _ _ _=>zO ops call r d t n fun xs r d t n=>nN (im.all (FM ops xs)) (k r d t n)) im
theorem D7{call:cU}{bu:fG}(hc:oI call bu){ops:List aP}{im:List (Nat × Nat)}{r:T}{d:List dU}{H:aj}{t:HT}{k:NN}(h:df H t)(b:pL ops im bu r d t H.length k) :
  ∃ s' g,fZ call ops im ⟨r,d,H⟩=aa s'∧df s'.heap g∧k s'.az s'.defs g s'.heap.length:=by
 cases im with
 | nil=>exact FB hc h b
 | cons c cs=>
  have b:zO ops bu r d t H.length (fun xs r d t n=>nN ((c::cs).all (FM ops xs)) (k r d t n)):=b;obtain⟨ss,xs,s',g,l,m,q,s,u⟩:=wa hc h b;obtain⟨j,v⟩:=jo u;refine⟨s',g,?_,s,v⟩;simp only [fZ,l];rw [ba,q];rw [asC]at j ⊢;exact fun c hc=>abL m (j c hc)
abbrev Go1:=Option Nat→List dg→NN
abbrev ag0:=Option aF→NN
abbrev cH:=fG→Nat→ag0→Go1→Option Nat→List dg→NN
def ER:cH:=fun _ _ _ go ro rest r d t n=>go ro rest r d t n
def ag7(ops:List aP)(im:List (Nat × Nat)):cH:=fun call _ _ go ro rest r d t n=>
 Option.rec (motive:=fun _=>Prop) (pL ops im call r d t n fun r d t n=>go ro rest r d t n)
  (fun _=>nN (ops.all (·.op.ea)) (pL ops im call r d t n fun r d t n=>go ro rest r d t n)) ro
def aqL(a b:aF)(_ _:cH):cH:=fun _ _ _ go ro rest r d t n=>go ro (.code a::.code b::rest) r d t n
def Z2(c:Arg)(a b:aF)(_ _:cH):cH:=fun _ _ _ go ro rest r d t n=>oV c r fun v=>match v with
 | .c (.f (.bool v))=>Bool.rec (motive:=fun _=>Prop) (go ro (.code b::rest) r d t n) (go ro (.code a::rest) r d t n) v
 | _=>False
def alA(id:Nat)(a:aF)(_:cH):cH:=fun _ _ _ go ro rest r d t n=>go ro (.code a::.inBlock id::rest) r d t n
def aoG(a:aF)(_:cH):cH:=fun _ _ _ go ro rest r d t n=>go ro (.code a::.inLoop a::rest) r d t n
def yX(f:Arg)(ps:List P)(as bd:aF)(_ _:cH):cH:=fun call fn _ go ro rest r d t n=>
 Option.rec (motive:=fun _=>Prop)
  (nS (.fj ae) t n fun t b=>nS (.lp fn r ps as bd .ready ab n) t b fun t m=>oV f r fun x=>
   pI (b5 x [.c (.yl b)]) fun j=>Prod.rec (motive:=fun _=>Prop) (fun c q=>Callee.rec (motive:=fun _=>Prop)
    (fun g=>call (.fn g) q t m fun _ t l=>go ab (.iP b::rest) r (.gM n::d) t l) (fun _=>False) c) j)
  (fun _=>False) ro
def Z3(id:Nat):cH:=fun _ _ b go ro rest r d t n=>
 Option.rec (motive:=fun _=>Prop) (Option.rec (motive:=fun _=>Prop) False (fun _=>b (aa (.exit id)) r d t n) ro) (fun k=>go ro k r d t n) (exitTo id rest)
def aqK:cH:=fun _ _ b _ _ _ r d t n=>b (aa .ret) r d t n
def aqJ:cH:=fun _ _ _ _ _ _ _ _ _ _=>False
def alC(a:aF)(_:cH):cH:=fun _ _ _ go ro rest r d t n=>go ro (.code a::.inScope a::rest) r d t n
def alB(_:Nat):cH:=ER
def aoF(l:Nat):cH:=fun _ _ _ go ro rest r d t n=>pI (gotoIn l rest) fun k=>go ro k r d t n
def A'(c:aF):cH:=aF.rec (motive:=fun _=>cH) ER ag7 aqL Z2 alA aoG yX Z3 aqK aqJ alC alB aoF c
def alW(_:Nat):cH:=ER
def aoX(c:aF):cH:=fun _ _ _ go ro rest r d t n=>go ro (.code c::.inLoop c::rest) r d t n
def Ds(b:Nat):cH:=fun _ _ _ go ro rest r d t n=>gS b t fun bj=>match bj with
 | .lp f tmps ps as bd st pending g=>nN (match st with | .busy=>ag | _=>ae) (gC (.lp f tmps ps as bd .exhausted pending g) t b fun t=>match pending with
  | none=>go ro rest r d t n| some .ret=>go ro (.code .ret::rest) r d t n| some (.exit id)=>go ro (.code (.exit id)::rest) r d t n
  | some _=>False)
 | _=>False
def ajp:cH:=fun _ _ _ go ro rest r d t n=>Option.rec (motive:=fun _=>Prop) False (fun b=>gS b t fun bj=>match bj with
 | .lp f tmps ps as bd .ready pending g=>gC (.lp f tmps ps as bd .busy pending g) t b fun t=>go ro rest r d t n
 | _=>False) ro
def alX(_:aF):cH:=ER
def ajs(x:dg):cH:=dg.rec (motive:=fun _=>cH) A' alW aoX Ds ajp alX x
def runK(call:fG)(fn:Nat)(b:ag0)(m:Nat):Go1:=
 Nat.rec (motive:=fun _=>Go1) (fun _ _ _ _ _ _=>False)
  (fun _ j ro g r d t n=>List.rec (motive:=fun _=>Prop) (b ab r d t n) (fun x rest _=>ajs x call fn b j ro rest r d t n) g) m
def aok(call:cU)(fn m:Nat)(ro:Option Nat)(g:List dg)(s:St)(d:ag0):Prop:=
 ∃ b s' j,run call fn m ro g s=aa (b,s')∧df s'.heap j∧d b s'.az s'.defs j s'.heap.length
theorem FJ{call:cU}{bu:fG}(hc:oI call bu)(fn:Nat)(j:ag0):∀(m:Nat) (ro:Option Nat) (s:List dg) (r:T) (d:List dU) (H:aj) (t:HT),
  df H t→runK bu fn j m ro s r d t H.length→aok call fn m ro s ⟨r,d,H⟩ j:=by
 intro m;induction m with
 | zero=>intro ro s r d H t h q;exact q.elim
 | succ m ih=>
  intro ro s r d H t h q;have go:∀ {y} {s':St} {E:HT},run call fn (m+1) ro s ⟨r,d,H⟩=run call fn m ro y s'→df s'.heap E→runK bu fn j m ro y s'.az s'.defs E s'.heap.length→aok call fn (m+1) ro s ⟨r,d,H⟩ j:=by
   intro y s' E u z B;obtain⟨L,N,O,W,X,Y⟩:=ih ro y s'.az s'.defs s'.heap E z B;exact⟨L,N,O,by rw [u];exact W,X,Y⟩
  cases s with
  | nil=>exact⟨ab,⟨r,d,H⟩,t,rfl,h,q⟩
  | cons x rest=>
   have q:ajs x bu fn j (runK bu fn j m) ro rest r d t H.length:=q;cases x with
   | inBlock id=>exact go (s':=⟨r,d,H⟩) (by simp only [run]) h q
   | inLoop c=>exact go (s':=⟨r,d,H⟩) (by simp only [run]) h q
   | inScope c=>exact go (s':=⟨r,d,H⟩) (by simp only [run]) h q
   | iP b=>
    have q:Ds b bu fn j (runK bu fn j m) ro rest r d t H.length:=q;unfold Ds at q;obtain⟨bj,u,z⟩:=dW q;rw [h]at u;have u:H[b]?=aa bj:=u;split at z
    ·rename_i f tmps ps as bd st pending F _;obtain⟨B,z⟩:=jo z;obtain⟨E,I,A⟩:=ek h z;have J:st≠.busy:=by rintro rfl;simp at B
     have M:H.length=(H.set b (.lp f tmps ps as bd .exhausted pending F)).length:=by simp
     rw [M]at A;split at A
     ·exact go (s':=⟨r,d,H.set b (.lp f tmps ps as bd .exhausted ab F)⟩) (by simp only [run,u,aX J]) I A
     ·exact go (s':=⟨r,d,H.set b (.lp f tmps ps as bd .exhausted (aa .ret) F)⟩) (by simp only [run,u,aX J]) I A
     ·exact go (s':=⟨r,d,H.set b (.lp f tmps ps as bd .exhausted (aa (.exit _)) F)⟩) (by simp only [run,u,aX J]) I A
     ·exact A.elim
    ·exact z.elim
   | lW=>
    have q:ajp bu fn j (runK bu fn j m) ro rest r d t H.length:=q;cases ro with
    | none=>exact q.elim
    | some b=>
     obtain⟨bj,u,z⟩:=dW q;rw [h]at u;have u:H[b]?=aa bj:=u;split at z
     ·rename_i f tmps ps as bd pending F _;obtain⟨E,I,A⟩:=ek h z;have M:H.length=(H.set b (.lp f tmps ps as bd .busy pending F)).length:=by simp
      rw [M]at A;exact go (s':=⟨r,d,H.set b (.lp f tmps ps as bd .busy pending F)⟩) (by simp only [run,u]) I A
     ·exact z.elim
   | code c=>
    cases c with
    | skip=>exact go (s':=⟨r,d,H⟩) (by simp only [run]) h q
    | label l=>exact go (s':=⟨r,d,H⟩) (by simp only [run]) h q
    | scope a=>exact go (s':=⟨r,d,H⟩) (by simp only [run]) h q
    | goto l=>
     obtain⟨k',K,q⟩:=jb (show pI (gotoIn l rest) (fun k'=>runK bu fn j m ro k' r d t H.length) from q);exact go (s':=⟨r,d,H⟩) (by simp only [run,K]) h q
    | bad=>exact q.elim| ret=>exact⟨aa .ret,⟨r,d,H⟩,t,rfl,h,q⟩| seq a b=>exact go (s':=⟨r,d,H⟩) (by simp only [run]) h q
    | block id a=>exact go (s':=⟨r,d,H⟩) (by simp only [run]) h q
    | loop a=>exact go (s':=⟨r,d,H⟩) (by simp only [run]) h q
    | exit id=>
     have q:Z3 id bu fn j (runK bu fn j m) ro rest r d t H.length:=q;unfold Z3 at q;cases K:exitTo id rest with
     | some k'=>
      rw [K]at q;exact go (s':=⟨r,d,H⟩) (by simp only [run,K]) h q
     | none=>
      rw [K]at q;cases ro with
      | none=>exact q.elim| some b=>exact⟨aa (.exit id),⟨r,d,H⟩,t,by simp only [run,K,Option.isSome_some,if_true],h,q⟩
    | cond c a b=>
     have q:Z2 c a b (A' a) (A' b) bu fn j (runK bu fn j m) ro rest r d t H.length:=q;unfold Z2 at q;rw [dx]at q;split at q
     ·rename_i v U;cases v with
      | true=>exact go (s':=⟨r,d,H⟩) (by simp only [run,U,if_true]) h q
      | false=>exact go (s':=⟨r,d,H⟩) (by simp only [run,U,aso,if_false]) h q
     ·exact q.elim
    | region ops im=>
     have key:(ro.isSome&&!ops.all (·.op.ea))=ag∧pL ops im bu r d t H.length (fun r d t n=>runK bu fn j m ro rest r d t n):=by
      cases ro with
      | none=>exact⟨rfl,q⟩
      | some b=>
       obtain⟨u,z⟩:=jo (show nN (ops.all (·.op.ea)) (pL ops im bu r d t H.length (fun r d t n=>runK bu fn j m (aa b) rest r d t n)) from q);exact⟨by rw [u];rfl,z⟩
     obtain⟨s',E,u,z,B⟩:=D7 hc h key.2;exact go (s':=s') (by simp only [run,key.1,aso,if_false,u]) z B
    | fN f ps as bd=>
     have q:yX f ps as bd (A' as) (A' bd) bu fn j (runK bu fn j m) ro rest r d t H.length:=q;cases ro with
     | some b=>exact q.elim
     | none=>
      unfold yX at q;obtain⟨t1,u,q⟩:=iD h q;obtain⟨t2,z,q⟩:=iD u q;rw [dx]at q;obtain⟨⟨c,vs⟩,B,q⟩:=jb q;have Q:(H++[bq.fj ae]).length=H.length+1:=by simp
      have S:H++[bq.fj ae]++[bq.lp fn r ps as bd .ready ab H.length]=H++[.fj ae,.lp fn r ps as bd .ready ab H.length]:=by simp
      rw [Q]at B;rw [S]at z;cases c with
      | yield b=>exact q.elim
      | fn g=>
       have q:bu (.fn g) vs t2 (H++[bq.fj ae]++[bq.lp fn r ps as bd .ready ab H.length]).length (fun _ t n'=>runK bu fn j m ab (.iP (H++[bq.fj ae]).length::rest) r (.gM H.length::d) t n'):=q;rw [S,Q]at q;obtain⟨v,H',E,I,A,Z⟩:=hc _ _ _ _ _ z q;exact go (s':=⟨r,.gM H.length::d,H'⟩) (by simp only [run,Option.isSome_none,aso,if_false,B,I]) A Z
def EZ(call:fG)(ds:List dU):HT→Nat→(HT→Nat→Prop)→Prop:=
 List.rec (motive:=fun _=>HT→Nat→(HT→Nat→Prop)→Prop) (fun t n k=>k t n)
  (fun x _ d t n k=>dU.rec (motive:=fun _=>Prop)
   (fun b=>gS b t fun bj=>match bj with
    | .fj ae=>gC (.fj ag) t b fun t=>d t n k
    | _=>False)
   (fun f args=>Bool.rec (motive:=fun _=>Prop) (call (.fn f) args t n fun _ t n=>d t n k) False (Nat.beq f fA)) x) ds
theorem ue{call:cU}{bu:fG}(hc:oI call bu):∀ {ds:List dU} {H:aj} {t:HT} {k:HT→Nat→Prop},df H t→EZ bu ds t H.length k→∃ H' j,dO call ds H=aa H'∧df H' j∧k j H'.length
 | [],H,t,k,h,d=>⟨H,t,rfl,h,d⟩
 | .gM b::ds,H,t,k,h,d=>by
  obtain⟨bj,g,l⟩:=dW d;rw [h]at g;have g:H[b]?=aa bj:=g;split at l
  ·obtain⟨z,q,m⟩:=ek h l;have A:H.length=(H.set b (.fj ag)).length:=by simp
   have m:EZ bu ds z H.length k:=m;rw [A]at m;obtain⟨H',j,s,u,x⟩:=ue hc q m;exact⟨H',j,by simp only [dO,g];exact s,u,x⟩
  ·exact l.elim
 | .fn f args::ds,H,t,k,h,d=>by
  have d:Bool.rec (motive:=fun _=>Prop) (bu (.fn f) args t H.length fun _ t n=>EZ bu ds t n k) False (Nat.beq f fA):=d;cases y:Nat.beq f fA with
  | true=>rw [y]at d;exact d.elim
  | false=>
   rw [y]at d;obtain⟨v,B,z,g,l,q⟩:=hc _ _ H t _ h d;obtain⟨H',j,s,u,x⟩:=ue hc (ds:=ds) l q;exact⟨H',j,by simp only [dO,aX (Nat.ne_of_beq_eq_false y),g];exact s,u,x⟩
def apq(r:T)(t:HT)(a:gw)(k:V→Prop):Prop:=gw.rec (motive:=fun _=>Prop)
 (fun p=>Bi p r fun v=>match v with
  | .t _=>False
  | v=>k v)
 (fun p m=>Bi p r fun v=>ldK t m v k) a
theorem ah7{H:aj}{t:HT}(h:df H t){r:T}(a:gw)(k:V→Prop)(b:apq r t a k):∃ v,cQ r H a=aa v∧k v:=by
 cases a with
 | tmp p=>
  change Bi p r _ at b;rw [mX]at b;simp only [cQ];cases d:r.get p with
  | t g=>rw [d]at b;exact b.elim| _=>rw [d]at b;exact⟨_,rfl,b⟩
 | cell p m=>
  change Bi p r _ at b;rw [mX]at b;exact aaV h b
def B5(r:T)(t:HT)(b:List gw)(k:V→Prop):Prop:=zd (apq r t) b fun vs=>match vs with
 | [v]=>k v| vs=>k (.t vs)
theorem B6{H:aj}{t:HT}(h:df H t){r:T}{g:List gw}{k:V→Prop}(m:B5 r t g k):∃ v,Km.results r H g=aa v∧k v:=by
 obtain⟨j,l,d⟩:=iW (ah7 h) m;unfold Km.results;rw [l];split at d
 ·exact⟨_,rfl,d⟩
 ·rename_i b;refine⟨.t j,?_,d⟩
  match j,b with
  | [v],b=>exact absurd rfl (b v)| [],_=>rfl| _::_::_,_=>rfl
def fnK(tab:TB)(m:Nat)(call:fG)(f:Nat)(args:List V)(t:HT)(n:Nat)(k:V→HT→Nat→Prop):Prop:=
 pI (tab.get f) fun af=>aK.rec (motive:=fun _=>Prop) (fun ps b body=>iz args.length ps.length (tC ps args .e fun r=>
  runK call f (fun _ r d t n=>EZ call d t n fun t n=>B5 r t b fun v=>k v t n) m ab [.code body] r [] t n)) af
def acD(m:Nat)(call:fG)(b:Nat)(args:List V)(t:HT)(n:Nat)(k:V→HT→Nat→Prop):Prop:=
 gS b t fun bj=>match bj with
  | .lp f tmps ps as bd _ _ _=>iz args.length ps.length (tC ps args tmps fun r=>
    runK call f (fun q _ d t n=>nN d.isEmpty (gS b t fun bj=>match bj with
     | .lp v g s as' l _ _ u=>match q with
      | none=>gC (.lp v g s as' l .ready ab u) t b fun t=>k (.c (.f (.bool ae))) t n
      | some j=>gC (.lp v g s as' l .done (aa j) u) t b fun t=>k (.c (.f (.bool ag))) t n
     | _=>False)) m (aa b) [.code as,.lW,.code bd] r [] t n)
  | _=>False
def bu(tab:TB)(m:Nat)(d:Nat):fG:=
 Nat.rec (motive:=fun _=>fG) (fun _ _ _ _ _=>False)
  (fun _ g c args t n k=>Callee.rec (motive:=fun _=>Prop) (fun f=>Bool.rec (motive:=fun _=>Prop) (fnK tab m g f args t n k) (Option.rec (motive:=fun _=>Prop) (ahB args t n k) (fun _=>False) (tab.get fA)) (Nat.beq f fA)) (fun b=>acD m g b args t n k) c) d
theorem Z5(tab:TB)(N:∀ args H,tab.get fA=ab→tab.rD fA args H=rD fA args H)(m:Nat):∀ g,oI (eI tab.get tab.rD m g) (bu tab m g):=by
 intro g;induction g with
 | zero=>intro c args H t k h d;exact d.elim
 | succ g J=>
  intro c args H t k h d;cases c with
  | fn f=>
   have d:Bool.rec (motive:=fun _=>Prop) (fnK tab m (bu tab m g) f args t H.length k) (Option.rec (motive:=fun _=>Prop) (ahB args t H.length k) (fun _=>False) (tab.get fA)) (Nat.beq f fA):=d;cases E:Nat.beq f fA with
   | true=>
    rw [E]at d;have L:=ath E;subst L;cases I:tab.get fA with
    | some _=>rw [I]at d;exact d.elim
    | none=>
     rw [I]at d;obtain⟨v,H',K,q,x,y⟩:=ahC h d;exact⟨v,H',K,by simp only [eI,N _ _ I,q],x,y⟩
   | false=>
   rw [E]at d;have M:=Nat.ne_of_beq_eq_false E;obtain⟨af,q,d⟩:=jb (show fnK tab m (bu tab m g) f args t H.length k from d);obtain⟨ps,O,body⟩:=af;obtain⟨x,d⟩:=di d;rw [oz]at d;obtain⟨u,s',K,y,z,d⟩:=FJ J f _ m ab [.code body] _ [] H t h d;obtain⟨H',l,B,s,d⟩:=ue J z d;obtain⟨v,A,d⟩:=B6 s d;exact⟨v,H',l,by simp only [eI,tab.ok _ _ q,q,x,if_true,y,B,A];rfl,s,d⟩
  | yield b=>
   obtain⟨bj,q,d⟩:=dW (show acD m (bu tab m g) b args t H.length k from d);rw [h]at q;have q:H[b]?=aa bj:=q;split at d
   ·obtain⟨x,d⟩:=di d;rw [oz]at d;obtain⟨u,s',K,y,z,d⟩:=FJ J _ _ m (aa b) _ _ [] H t h d;obtain⟨B,d⟩:=jo d;obtain⟨blk',s,d⟩:=dW d;rw [z]at s;have s:s'.heap[b]?=aa blk':=s;split at d
    ·cases u with
     | none=>
      obtain⟨l,A,F⟩:=ek z d;exact⟨_,_,l,by simp only [eI,q,x,if_true,y,B,s];rfl,A,by rw [ass];exact F⟩
     | some j=>
      obtain⟨l,A,F⟩:=ek z d;exact⟨_,_,l,by simp only [eI,q,x,if_true,y,B,s];rfl,A,by rw [ass];exact F⟩
    ·exact d.elim
   ·exact d.elim
def isR(r:V)(v:V)(t:HT)(_:Nat):Prop:=alM t v fun y=>y=r
theorem abA{tab:TB}(s:∀ args H,tab.get fA=ab→tab.rD fA args H=rD fA args H){m d f:Nat}{args:List V}{r:V}(h:bu tab m d (.fn f) args .e 0 (isR r)=(r=r)):bh tab f args r:=by
 have h:bu tab m d (.fn f) args .e ([]:aj).length (isR r):=by rw [List.length_nil,h]
 obtain⟨v,H',u,b,g,j⟩:=Z5 tab s m d (.fn f) args [] .e (isR r) df.nil h;obtain⟨y,l,q⟩:=E6 g v _ j;exact⟨v,H',⟨m,d,b⟩,by rw [l,q]⟩
end
end Km
