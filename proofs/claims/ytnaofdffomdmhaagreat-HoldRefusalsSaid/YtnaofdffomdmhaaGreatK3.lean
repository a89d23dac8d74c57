/-
  Our own small machine for Go code by value, held tN the model: part 3. No program in Gw.
-/
import Derived.Test.YtnaofdffomdmhaaGreatK2
import Derived.Orders
import Derived.Test.YtnaofdffomdmhaaGreatK1
open Option renaming some → aa,none → ab
open Bool renaming true → ae,false → ag
open List renaming mem_filter → avW, mem_range → av4, all_eq_true → avz, eq_nil_of_length_eq_zero → avm, mem_of_getElem? → avo, getElem?_eq_getElem → By, getElem?_eq_some_iff → BY, getElem?_set_ne → AI, getElem?_append_right → IS, getElem?_eq_none → awk, getElem?_drop → avt, length_drop → avp, length_set → avw
open Bool renaming and_eq_true → If, not_eq_true' → av8, false_eq_true → avk, true_and → av1, eq_iff_iff → awf
open Option renaming map_some → avY, map_eq_some_iff → IT, map_map → awP
open Nat renaming le_refl → aft, zero_le → awv, le_of_ble_eq_true → awJ, eq_of_beq_eq_true → awl, add_zero → awL, le_max_left → avN, le_max_right → avC
open Option.some renaming injEq → At
open Prod.mk renaming injEq → OF
set_option linter.unusedVariables false
set_option linter.constructorNameAsVariable false
set_option linter.unusedSimpArgs false
set_option linter.unusedSectionVars false
set_option maxRecDepth 100000
namespace Km
open Go
section
variable{Q:Program}{σ:Nat→FuncId}{X:Wd}{call:cR}
variable{n:Nat}{ops:Array Oper}{aos:List aS}{iD:List (Nat × Nat)}{st:Nat→St}
def LD(b:Array Bool)(j:Nat):Prop:=b.getD j ag=ae
theorem acb{b:Array Bool}{i:Nat}(hi:i<b.size):LD (b.setIfInBounds i ae)=fun j=>LD b j∨j=i:=by
 funext j;apply propext;unfold LD;by_cases h:i=j
 ·subst h;simp [hi]
 ·have:j≠i:=fun e=>h e.symm;simp [Array.getD_eq_getD_getElem?,Array.getElem?_setIfInBounds_ne h,this]
theorem Ed{b:Array Bool}{i:Nat}(h:i ∈ Region.ready .any ops b):i<ops.size∧¬ LD b i∧∃ o,ops[i]?=aa o∧∀ e ∈ o.after.toList,Region.binds .any e=ae→LD b e.on:=by
 unfold Region.ready at h;simp only [avW,av4,If,av8]at h;obtain⟨l,d,j⟩:=h;refine⟨l,fun g=>?_,?_⟩
 ·unfold LD at g;simp only [Array.getD_eq_getD_getElem?]at d g;cases m:b[i]? with
  | none=>rw [m]at d;simp at d| some bb=>rw [m]at d g;simp at d g;rw [d]at g;simp at g
 ·have q:=Array.getElem?_eq_getElem l;rw [q]at j;simp only [avY,Option.getD_some]at j;refine⟨ops[i],q,fun e u s=>?_⟩;rw [←Array.all_toList,avz]at j;have:=j e u;simpa [s,LD]using this
theorem ad_(l:Ord ops.toList aos iD)(F:aos.length=ops.size){b:Array Bool}(B:b.size=ops.size){j:Nat}(z:j<ops.size)(y:¬ LD b j):Region.ready .any ops b≠[]:=by
 have key:∀ m,m<ops.size→¬ LD b m→∃ i,i ∈ Region.ready .any ops b:=by
  intro m;induction m using Nat.strongRecOn with
  | ind m E=>
   intro v g;have A:=Array.getElem?_eq_getElem v;by_cases d:∀ e ∈ ops[m].after.toList,Region.binds .any e=ae→LD b e.on
   ·refine⟨m,?_⟩;unfold Region.ready;simp only [avW,av4,If,av8,A,avY,Option.getD_some];refine⟨v,?_,?_⟩
    ·unfold LD at g;have u:m<b.size:=by omega
     simp [u]at g ⊢;exact g
    ·rw [←Array.all_toList,avz];intro e s;by_cases q:Region.binds .any e=ae
     ·have:=d e s q;unfold LD at this;simp [this]
     ·simp [q]
   ·simp only [Classical.not_forall]at d;obtain⟨e,s,q,x⟩:=d;have:=l.back m ops[m] (by omega) (by simp [v]) e s q;exact E e.on this (by omega) x
 obtain⟨i,hi⟩:=key j z y;intro h;rw [h]at hi;simp at hi
theorem acS(hC:fg Q σ call)(R:ke Q σ call n ops aos iD st){b:Frame}{k:List Item}{cs:List Frame}(hk:jt b cs)(H:∀ y ∈ aos,gR y.op b) :
  ∀(X0:Wd) (fuel t:Nat) (d:Array Bool) (U:List Nat) (E:Nat) (X:Wd) (a:Act),d.size=ops.size→U.Nodup→(∀ j,j<ops.size→(¬ LD d j↔j ∈ U))→U.length≤fuel→Inv Q σ X0 n ops aos st (LD d) E X a →
  ∃ q z X' a',Steps Q (lone (b.atR a (.inRegion ops (Region.linearise.go .any ops fuel t d [])::k)) cs X.w) (lone (b.atR a' k) cs X'.w)∧Inv Q σ X0 n ops aos st q z X' a'∧(∀ j,j<ops.size→q j)∧a'.tmps.size=a.tmps.size:=by
 have u:aos.length=ops.size:=by have:=(eI R.apl).len;simpa using this.symm
 intro X0 fuel;induction fuel with
 | zero=>
  intro t d U E X a m B l F A;refine⟨LD d,E,X,a,?_,A,fun j s=>?_,rfl⟩
  ·simp only [Region.linearise.go,List.reverse_nil];exact .one stepR_region_end
  ·have g:U=[]:=avm (by omega);refine Classical.byContradiction fun h=>?_;have:=(l j s).1 h;rw [g]at this;simp at this
 | succ fuel ih=>
  intro t d U E X a m B l F A;simp only [Region.linearise.go];change ∃ q z X' a',Steps Q (lone (b.atR a (.inRegion ops (match (Region.ready .any ops d)[t % (Region.ready .any ops d).length]? with
   | some i=>Region.linearise.go .any ops fuel (t / (Region.ready .any ops d).length) (d.setIfInBounds i ae) [i]
   | none=>[].reverse)::k)) cs X.w) _∧_
  cases hi:(Region.ready .any ops d)[t % (Region.ready .any ops d).length]? with
  | none=>
   have g:Region.ready .any ops d=[]:=by
    cases I:Region.ready .any ops d with
    | nil=>rfl
    | cons x xs=>
     rw [I]at hi;have a8:t % (x::xs).length<(x::xs).length:=Nat.mod_lt _ (by simp);rw [List.getElem?_eq_none_iff]at hi;omega
   refine⟨LD d,E,X,a,?_,A,fun j s=>?_,rfl⟩
   ·exact .one stepR_region_end
   ·exact Classical.byContradiction fun h=>ad_ R.ord u m s h g
  | some i=>
   simp only [];rw [linearise_go_acc,List.reverse_singleton,List.singleton_append];obtain⟨r1,K,o,r3,r4⟩:=Ed (avo hi);have hy:=By (show i<aos.length by omega);have I:kd ops aos (LD d) i o aos[i]:=⟨r3,hy,K,r4⟩
   obtain⟨z,L,a1,O,J,S⟩:=R.alD hC A I (b:=b) (rest:=Region.linearise.go .any ops fuel (t / (Region.ready .any ops d).length) (d.setIfInBounds i ae) []) (k:=k) (cs:=cs) hk (H _ (List.getElem_mem _));rw [←acb (by omega)]at J;have v:i ∈ U:=(l i r1).1 K;obtain⟨q,E2,M,N,k1,k2,k3,k5⟩:=ih (t / (Region.ready .any ops d).length) (d.setIfInBounds i ae) (U.erase i) z L a1 (by simpa using m) (B.erase i)
    (fun j s=>by
     rw [B.mem_erase_iff,←l j s,acb (by omega)];constructor
     ·intro h;exact⟨fun e=>h (.inr e),fun W=>h (.inl W)⟩
     ·rintro⟨Y,Z⟩ (h | h)
      ·exact Z h
      ·exact Y h)
    (by rw [List.length_erase_of_mem v];omega) J
   exact⟨q,E2,M,N,O.trans k1,k2,k3,k5.trans S⟩
theorem acT(hC:fg Q σ call)(u:Q.follows .mixedOrders=ae)(R:ke Q σ call n ops aos iD st){b:Frame}{k:List Item}{cs:List Frame}(hk:jt b cs)(M:∀ y ∈ aos,gR y.op b){X:Wd}{a:Act}(g:Fr Q σ n X (st 0) a)(id:Nat) :
  ∃ X' a',Steps Q (lone (b.atR a (.code (.region id ops ae)::k)) cs X.w) (lone (b.atR a' k) cs X'.w)∧Fr Q σ n X' (st aos.length) a'∧Ext X.H.length X X'∧a'.tmps.size=a.tmps.size:=by
 have a8:aos.length=ops.size:=by have:=(eI R.apl).len;simpa using this.symm
 let X0:Wd:={ X with w:={ X.w with drawn:=X.w.drawn+1 } }
 have A:Ext X.H.length X X0:=
  {B:=rfl,F:=fun _ _ h=>h,qe:=fun _ _ h=>.inl h,fw:=fun _ _ _=>rfl,cO:=fun b _ bp J=>⟨bp,J,by cases bp<;>simp [X0]⟩
   yz:=fun b L h=>.inl ⟨b,L,h,rfl⟩,size:=aft _,os:=rfl,tape:=rfl,output:=rfl,frame:=fun _ _ _=>rfl }
 have I:SR Q σ X0:=by
  refine⟨fun b L J=>?_,g.sr.inj,g.sr.fb⟩;obtain⟨q,s,bp,W,Y⟩:=g.sr.br b L J;exact⟨q,s,bp,W,BR.ext Q σ A rfl (fun _ h=>h) Y⟩
 obtain⟨p1,p2,p3,O⟩:=pS (aos:=aos) (i:=0) (by omega);obtain⟨q1,q2⟩:=R.dh _ p1 p2 O;have E:X0.H=(st 0).heap:=g.heap;rw [←E]at q1;obtain⟨k1,k2⟩:=SR.ahead I q1;have m:Ext X.H.length X { X0 with H:=(st (phase aos 0)).heap }:=A.trans k2;have d:∀ j,¬ LD (Array.replicate ops.size ag) j:=fun j h=>by
  unfold LD at h;simp only [Array.getD_eq_getD_getElem?,Array.getElem?_replicate]at h;split at h<;>simp at h
 have hI:Inv Q σ { X0 with H:=(st (phase aos 0)).heap } n ops aos st (LD (Array.replicate ops.size ag)) (phase aos 0) { X0 with H:=(st (phase aos 0)).heap } a:=by
  refine⟨fun j o h=>absurd h (d j),fun j h=>absurd h (d j),p2,p3,d _,fun j q s=>absurd q (O j (awv _) s),rfl,Ext.refl _ _,k1,g.b,by rw [q2];exact g.defs.ext' m,g.size,
   fun p=>⟨0,awv _,.inl (VR.ext' σ m (g.aD p)),fun j y _ _=>⟨fun h=>by omega,fun h=>absurd h (d j)⟩⟩,fun j y q _ W Y h5=>?_⟩
  show X.cB _=ab;have a_:=(R.dh j (awv _) (by omega) fun k q s=>O k q (by omega)).1.len;cases v:X.cB (st j).heap.length with
  | none=>rfl| some L=>have:=SR.lt g.sr v;rw [g.heap]at this;omega
 obtain⟨D',S,X',a',g1,l,U,g5⟩:=acS hC R hk M (k:=k) { X0 with H:=(st (phase aos 0)).heap } ops.size (X.w.tape X.w.drawn (.order b.fn id)) (Array.replicate ops.size ag) (List.range ops.size) (phase aos 0) { X0 with H:=(st (phase aos 0)).heap } a (by simp) List.nodup_range
  (fun j hj=>⟨fun _=>by simpa using hj,fun _=>d j⟩) (by simp) hI
 have Z:S=aos.length:=by
  rcases l.eW with h | ⟨z,N,_⟩
  ·exact h
  ·exact absurd (U S (by have:=(BY.1 N).1;omega)) l.eD
 subst Z;refine⟨X',a',.head stepR_region_draw ?_,⟨l.heap,l.sr,l.b,fun p=>?_,l.defs,l.size⟩,m.trans (l.ext.mono (m.len)),g5⟩
 ·simp only [Region.schedule,u,Bool.true_or,if_true];exact g1
 ·obtain⟨K,hK,x,hw⟩:=l.aez p;have x:VR σ X' ((st K).aD.get p) (a'.tmps.getD p.toNat undef):=by
   rcases x with x | ⟨z,zs,c,_,Z,N,_⟩
   ·exact x
   ·have:=(BY.1 N).1;omega
  rw [←R.ml aos.length hK (aft _) fun j y q s hy hd=>?_]
  ·exact x
  ·have:=(hw j y hy hd).2 (U j (by omega));omega
end
section
variable{Q:Program}{σ:Nat→FuncId}{X:Wd}{call:cR}
theorem Bb{b:Type}{f:b→b→Bool}(d:∀ x y,f x y=ae→x=y):∀ {xs ys:List b},jJ f xs ys=ae→xs=ys
 | [],[],_=>rfl
 | x::xs,y::ys,h=>by
  simp only [jJ,If]at h;rw [d x y h.1,Bb d h.2]
 | [],_::_,h=>by simp [jJ]at h
 | _::_,[],h=>by simp [jJ]at h
theorem FC.beq_eq:∀(n:Nat) (a b:FC),FC.beq n a b=ae→a=b:=by
 intro n;induction n with
 | zero=>
  intro a b h;cases a<;>cases b<;>simp_all [FC.beq]
 | succ n d=>
  intro a b h;cases a<;>cases b<;>simp_all [FC.beq]
  all_goals exact Bb d h.2
theorem C.beq_eq{a b:C}(h:a.beq b=ae):a=b:=by
 cases a<;>cases b<;>simp_all [C.beq];exact FC.beq_eq _ _ _ h
theorem V.beq_eq{a b:V}(h:a.beq b=ae):a=b:=by
 cases a<;>cases b<;>simp only [V.beq,avk]at h
 ·rw [C.beq_eq h]
 ·rename_i xs ys;simp only [If,beq_iff_eq,avz]at h
  congr 1
  refine List.ext_getElem h.1 fun i h1 h2=>C.beq_eq (h.2 (xs[i],ys[i]) ?_);exact avo (i:=i) (by rw [List.getElem?_zip_eq_some];exact⟨By h1,By h2⟩)
theorem za:∀ {aos:List aS} {s s':St},fG call aos s=aa s'→∃ ss:List St,eb call aos s=aa ss∧ss.getLast?=aa s'
 | [],s,s',h=>by simp only [fG,At]at h;subst h;exact⟨[s],rfl,rfl⟩
 | o::os,s,s',h=>by
  simp only [fG]at h;split at h
  ·rename_i j d;obtain⟨ss,g,b⟩:=za h;refine⟨s::ss,by simp [eb,d,g],?_⟩;cases ss with
   | nil=>simp at b| cons x xs=>simpa using b
  ·simp at h
theorem nC:∀ {aos:List aS} {s:St} {ss:List St},eb call aos s=aa ss→ss.length=aos.length+1∧ss[0]?=aa s ∧
  ∀ i y,aos[i]?=aa y→∃ u v,ss[i]?=aa u∧ss[i+1]?=aa v∧fL call u y=aa v
 | [],s,ss,h=>by
  simp only [eb,At]at h;subst h;exact⟨rfl,rfl,fun i y h=>by simp at h⟩
 | o::os,s,ss,h=>by
  simp only [eb]at h;split at h
  ·rename_i q l;split at h
   ·rename_i x m;simp only [At]at h;subst h;obtain⟨d,g,j⟩:=nC m;refine⟨by simp [d],rfl,fun i y b=>?_⟩;cases i with
    | zero=>
     simp only [List.getElem?_cons_zero,At]at b;subst b;exact⟨s,q,rfl,by simpa using g,l⟩
    | succ i=>simpa using j i y (by simpa using b)
   ·simp at h
  ·simp at h
theorem wo:∀ {aos:List aS} {s:St} {ss:List St} {s':St},eb call aos s=aa ss→ss.getLast?=aa s'→fG call aos s=aa s'
 | [],s,ss,s',h,b=>by simp only [eb,At]at h;subst h;simpa [fG]using b
 | o::os,s,ss,s',h,b=>by
  simp only [eb]at h;split at h
  ·rename_i l j;split at h
   ·rename_i d g;simp only [At]at h;subst h;have:=(nC g).1;simp only [fG,j];refine wo g ?_;cases d with
    | nil=>simp at this| cons x xs=>simpa using b
   ·simp at h
  ·simp at h
theorem Rc(O:fg Q σ call)(z:Q.follows .mixedOrders=ae){n:Nat}{id:Nat}{ops:Array Oper}{g:Bool}{aos:List aS}{iD:List (Nat × Nat)}(U:bT Q σ n (.region id ops g) (.region aos iD)=ae)
  {b:Frame} {k:List Item} {cs:List Frame} (S:jt b cs) (A:∀ y ∈ aos,gR y.op b) {X:Wd} {a:Act} {s s':St} (J:Fr Q σ n X s a) (h:gk call aos iD s=aa s') :
  ∃ X' a',Steps Q (lone (b.atR a (.code (.region id ops g)::k)) cs X.w) (lone (b.atR a' k) cs X'.w)∧Fr Q σ n X' s' a'∧Ext X.H.length X X'∧a'.tmps.size=a.tmps.size:=by
 simp only [bT,If,Bool.or_eq_true,av8]at U;obtain⟨j,B⟩:=U;obtain⟨ss,N,I,h3⟩:∃ ss:List St,eb call aos s=aa ss∧ss.getLast?=aa s'∧∀ c ∈ iD,sameAt aos ss c=ae:=by
  unfold gk at h;split at h
  ·obtain⟨ss,m,q⟩:=za h;exact⟨ss,m,q,by simp⟩
  ·split at h
   ·rename_i ss K;split at h
    ·rename_i x;exact⟨ss,K,h,avz.1 x⟩
    ·simp at h
   ·simp at h
 cases g with
 | false=>
  obtain⟨X',a',m,q⟩:=GS O S (k:=k) aos 0 X s s' a J (by simpa using j) A (wo N I);exact⟨X',a',.head stepR_region (by simpa using m),q⟩
 | true=>
  obtain⟨m,q,Z⟩:=nC N
  let st:Nat→St:=fun i=>ss.getD i s
  have d:∀ i u,ss[i]?=aa u→st i=u:=fun i u hu=>by simp [st,List.getD_eq_getElem?_getD,hu]
  have R:ke Q σ call n ops aos iD st:=by
   refine⟨j,Q2 (B.resolve_left (by simp)),fun i y L=>?_,fun i e y hc L W=>?_⟩
   ·obtain⟨u,v,E,F,H⟩:=Z i y L;rw [d _ _ E,d _ _ F];exact H
   ·have l:=h3 _ hc;simp only [sameAt,L]at l;split at l
    ·rename_i o s1 s2 E F H;cases E;rw [d _ _ F]at W ⊢;rw [d _ _ H];rw [W]at l;simp only at l;split at l
     ·rename_i v x1 v' x2 Y M;rw [←V.beq_eq l]at M;exact⟨v,x1,x2,Y,M⟩
     ·simp at l
    ·simp at l
  have h0:st 0=s:=d 0 s q;have hN:st aos.length=s':=d _ _ (by rw [List.getLast?_eq_getElem?,m]at I;simpa using I);rw [←h0]at J;rw [←hN];exact acT O z R S A J id
end
section
variable{Q:Program}{σ:Nat→FuncId}{X:Wd}{call:cR}
def D1(X:Wd)(b:Nat):Prop:=∃ f t p a c s q d,X.H[b]?=aa (.lp f t p a c s q d)
theorem D1.ext{X X':Wd}(m:Ext X.H.length X X'){b:Nat}(h:D1 X b):D1 X' b∧∀ L,X.cB b=aa L→X'.cB b=aa L:=by
 obtain⟨f,t,p,a,c,s,q,d,j⟩:=h;obtain⟨blk',g,l⟩:=m.cO b (BY.1 j).1 _ j;cases blk'<;>simp only at l;exact⟨⟨_,_,_,_,_,_,_,_,g⟩,l.2⟩
inductive hZ(Q:Program)(σ:Nat→FuncId)(n:Nat)(X:Wd):da→Item→Prop
 | code {a:aG} {c:Code} (h:bT Q σ n c a=ae):hZ Q σ n X (.code a) (.code c)
 | inBlock (id:Nat):hZ Q σ n X (.inBlock id) (.inBlock id)
 | inLoop {a:aG} {c:Code} (h:bT Q σ n c a=ae):hZ Q σ n X (.inLoop a) (.inLoop c)
 | je {b:Nat} {L:Loc} (h:X.cB b=aa L) (hl:D1 X b):hZ Q σ n X (.je b) (.endRangeFunc L.c)
 | mT:hZ Q σ n X .mT .beginRound
 | inScope {a:aG} {c:Code} (h:bT Q σ n c a=ae) (hs:ko a=ae):hZ Q σ n X (.inScope a) (.inScope c)
theorem hZ.ext{n:Nat}{X X':Wd}(d:Ext X.H.length X X'){x:da}{y:Item}(h:hZ Q σ n X x y):hZ Q σ n X' x y:=by
 cases h with
 | code h=>exact .code h| inBlock id=>exact .inBlock id| inLoop h=>exact .inLoop h| je h b=>exact .je ((b.ext d).2 _ h) (b.ext d).1| mT=>exact .mT| inScope h g=>exact .inScope h g
def RoR(X:Wd):Option Nat→Option Nat→Prop
 | none,ab=>True| some b,aa l=>∃ L,X.cB b=aa L∧L.c=l∧D1 X b| _,_=>False
theorem RoR.ext{X X':Wd}(d:Ext X.H.length X X'){ro b:Option Nat}(h:RoR X ro b):RoR X' ro b:=by
 cases ro<;>cases b<;>simp only [RoR]at h ⊢;obtain⟨L,h1,h2,h3⟩:=h;exact⟨L,(h3.ext d).2 _ h1,h2,(h3.ext d).1⟩
theorem yc{n:Nat}(id:Nat):∀(k:List da) (b:List Item),A2 (hZ Q σ n X) k b →
  match Km.exitTo id k with
  | some k'=>∃ d,Go.exitTo id b=aa d∧A2 (hZ Q σ n X) k' d| none=>Go.exitTo id b=ab
 | [],b,h=>by
  have:b=[]:=avm h.len.symm;subst this;rfl
 | x::k,[],h=>by have:=h.len;simp at this
 | x::k,y::b,h=>by
  obtain⟨q,j⟩:=h.of_cons;have m:=yc id k b j;cases q with
  | inBlock g=>
   simp only [Km.exitTo,Go.exitTo];by_cases l:(g == id)=ae
   ·simp only [l,if_true];exact⟨b,rfl,j⟩
   ·simp only [l,avk,if_false];exact m
  | _=>exact m
theorem zI{n:Nat}(l:Nat):∀(a:aG) (c:Code),bT Q σ n c a=ae→ko a=ae →
  match Km.findLabel a l with
  | some r=>∃ r',Go.findLabel c l=aa r'∧bT Q σ n r' r=ae| none=>Go.findLabel c l=ab:=by
 intro a;induction a with
 | seq a b m q=>
  intro c h g;simp only [ko,If]at g;cases c with
  | seq c d=>
   simp only [bT,If]at h;have j:=m c h.1 g.1;simp only [Km.findLabel,Go.findLabel];cases u:Km.findLabel a l with
   | some r=>
    rw [u]at j;obtain⟨r',v,x⟩:=j;simp only [v];exact⟨_,rfl,by simp [bT,x,h.2]⟩
   | none=>
    rw [u]at j;simp only [j];exact q d h.2 g.2
  | _=>simp [bT]at h
 | label l'=>
  intro c h _;cases c with
  | label y=>
   simp only [bT,beq_iff_eq]at h;subst h;simp only [Km.findLabel,Go.findLabel];by_cases s:(y == l)=ae
   ·simp only [s,if_true];exact⟨_,rfl,by simp [bT]⟩
   ·simp only [s,avk,if_false]
  | _=>simp [bT]at h
 | bad=>intro c h g;simp [ko]at g| _=>intro c h _;cases c<;>simp_all [bT,Km.findLabel,Go.findLabel]
theorem yp{n:Nat}(l:Nat):∀(k:List da) (b:List Item),A2 (hZ Q σ n X) k b →
  match Km.gotoIn l k with
  | some k'=>∃ d,Go.gotoIn l b=aa d∧A2 (hZ Q σ n X) k' d| none=>Go.gotoIn l b=ab
 | [],b,h=>by
  have:b=[]:=avm h.len.symm;subst this;rfl
 | x::k,[],h=>by have:=h.len;simp at this
 | x::k,y::b,h=>by
  obtain⟨v,j⟩:=h.of_cons;have u:=yp l k b j;cases v with
  | inScope q s=>
   rename_i a c;have g:=zI (Q:=Q) (σ:=σ) l a c q s;simp only [Km.gotoIn,Go.gotoIn];cases m:Km.findLabel a l with
   | some r=>
    rw [m]at g;obtain⟨r',z,A⟩:=g;simp only [z];exact⟨_,rfl,A2.cons (.code A) (A2.cons (.inScope q s) j)⟩
   | none=>
    rw [m]at g;simp only [g];exact u
  | _=>exact u
def anV:Option aG→List Item→Prop
 | none,b=>b=[]| some .ret,b=>∃ k,b=.code .ret::k| some (.exit id),b=>∃ k,b=.code (.exit id)::k∧Go.exitTo id k=ab| _,_=>False
end
section
variable{Q:Program}{σ:Nat→FuncId}{X:Wd}{call:cR}
theorem qT{b:Nat}{L:Loc}(x:SR Q σ X)(v:X.cB b=aa L){f:Nat}{t:T}{ps:List P}{as bd:aG}{q:ej}{g:Option aG}{d:Nat}(y:X.H[b]?=aa (.lp f t ps as bd q g d)) :
  ∃(n:Nat) (us:Array Value) (m:Array Tmp) (as' j:Code) (pend':Option Code) (u:Loc),
   X.w.heap[L.c]?=aa (.loop { state:=q.of,pending:=pend',fn:=σ f,tmps:=us,params:=m,assign:=as',body:=j,defers:=u.c }) ∧
   n≤us.size∧RR σ X t us∧ft (fun p (q:P)=>q.toNat == p&&decide (p<n)) m.toList ps=ae∧bT Q σ n as' as=ae∧bT Q σ n j bd=ae∧yE Q σ n g pend'∧X.cB d=aa u∧∃ o,X.H[d]?=aa (.eH o):=by
 obtain⟨_,_,bp,l,s⟩:=x.br b L v;rw [y]at l;cases l;exact s
theorem Aw(J:SR Q σ X){b:Nat}{L:Loc}(I:X.cB b=aa L){f:Nat}{t:T}{ps:List P}{as bd:aG}{q q':ej}{y pend1:Option aG}{d:Nat}(s:X.H[b]?=aa (.lp f t ps as bd q y d))
  {n:Nat} {us:Array Value} {j:Array Tmp} {as' g:Code} {pend':Option Code} {u:Loc}
  (O:n≤us.size) (S:RR σ X t us) (U:ft (fun p (q:P)=>q.toNat == p&&decide (p<n)) j.toList ps=ae) (W:bT Q σ n as' as=ae) (Y:bT Q σ n g bd=ae) (Z:yE Q σ n pend1 pend') (a:X.cB d=aa u) (z:∃ o,X.H[d]?=aa (.eH o)) :
  SR Q σ { X with H:=X.H.set b (.lp f t ps as bd q' pend1 d),w:=X.w.putObj L.c (.loop { state:=q'.of,pending:=pend',fn:=σ f,tmps:=us,params:=j,assign:=as',body:=g,defers:=u.c }) } ∧
  Ext X.H.length X { X with H:=X.H.set b (.lp f t ps as bd q' pend1 d),w:=X.w.putObj L.c (.loop { state:=q'.of,pending:=pend',fn:=σ f,tmps:=us,params:=j,assign:=as',body:=g,defers:=u.c }) }:=by
 obtain⟨m,r,k,M,N,i,K,v,_⟩:=qT J I s;have A:b<X.H.length:=(BY.1 s).1;refine SR.rA (o':=.loop { state:=q'.of,pending:=pend',fn:=σ f,tmps:=us,params:=j,assign:=as',body:=g,defers:=u.c }) (blk':=.lp f t ps as bd q' pend1 d) J s I v (by simp) (by simp)
  (fun bp l=>⟨.lp f t ps as bd q' pend1 d,by simp [A],by rw [s]at l;cases l;exact⟨⟨rfl,rfl,rfl,rfl,rfl,rfl⟩,fun L h=>h⟩⟩)
  (fun X' F E _ x c=>?_)
 obtain⟨o,z⟩:=z;refine⟨n,us,j,as',g,pend',u,E,O,RR.ext' σ F S,U,W,Y,Z,by rw [x];exact a,o,?_⟩;have B:b≠d:=fun e=>by rw [e,z]at s;cases s
 rw [c,AI B];exact z
end
section
variable{Q:Program}{σ:Nat→FuncId}{call:cR}
structure Way(Q:Program)(σ:Nat→FuncId)(fn:Nat)(n:Nat)(b:Frame)(cs:List Frame)(ro:Option Nat)(todo:List da)(items:List Item)(s:St)(X:Wd)(a:Act):Prop where
 fr:Fr Q σ n X s a
 items:A2 (hZ Q σ n X) todo items
 ro:RoR X ro b.roundOf
 kind:jt b cs
 fn:b.fn=σ fn
theorem Way.ext{fn n:Nat}{b:Frame}{cs:List Frame}{ro:Option Nat}{j:List da}{items:List Item}{s s':St}{X X':Wd}{a a':Act}(h:Way Q σ fn n b cs ro j items s X a){g:List da}{d:List Item}(l:Ext X.H.length X X')(m:Fr Q σ n X' s' a')
  (hi:A2 (hZ Q σ n X) g d):Way Q σ fn n b cs ro g d s' X' a':=
 ⟨m,hi.lJ fun _ _ h=>h.ext l,h.ro.ext l,h.kind,h.fn⟩
theorem Way.to{fn n:Nat}{b:Frame}{cs:List Frame}{ro:Option Nat}{j:List da}{items:List Item}{s:St}{X:Wd}{a:Act}(h:Way Q σ fn n b cs ro j items s X a){g:List da}{d:List Item}
  (hi:A2 (hZ Q σ n X) g d):Way Q σ fn n b cs ro g d s X a:=⟨h.fr,hi,h.ro,h.kind,h.fn⟩
def arF(Q:Program)(σ:Nat→FuncId)(call:cR)(fn m:Nat):Prop:=
 ∀(n:Nat) (b:Frame) (cs:List Frame) ro l g s X a j s',run call fn m ro l s=aa (j,s')→Way Q σ fn n b cs ro l g s X a →
  ∃ X' a' d,Steps Q (lone (b.atR a g) cs X.w) (lone (b.atR a' d) cs X'.w)∧Fr Q σ n X' s' a'∧Ext X.H.length X X'∧a'.tmps.size=a.tmps.size∧anV j d
theorem xk{b:Frame}{a:Act}{k:List Item}{cs:List Frame}{w:World}{body:Code}:step Q (lone (b.atR a (.inScope body::k)) cs w)=.next (lone (b.atR a k) cs w):=
 step_lone_go (by simp [stepG,stepG.exec,Frame.atR])
theorem CW{b:Frame}{a:Act}{k:List Item}{cs:List Frame}{w:World}{body:Code}:step Q (lone (b.atR a (.code (.scope body)::k)) cs w)=.next (lone (b.atR a (.code body::.inScope body::k)) cs w):=
 step_lone_go (by simp [stepG,stepG.exec,Frame.atR])
theorem aem(hC:fg Q σ call)(i7:Q.follows .mixedOrders=ae)(fn:Nat):∀ m,arF Q σ call fn m:=by
 intro m;induction m with
 | zero=>intro n b cs ro e_ I s X a F s' h;simp [run]at h
 | succ m ih=>
  intro n b cs ro e_ I s X a F s' h z;have go:∀ {B j},run call fn m ro B s=aa (F,s')→A2 (hZ Q σ n X) B j→step Q (lone (b.atR a I) cs X.w)=.next (lone (b.atR a j) cs X.w) →
    ∃ X' a' j,Steps Q (lone (b.atR a I) cs X.w) (lone (b.atR a' j) cs X'.w)∧Fr Q σ n X' s' a'∧Ext X.H.length X X'∧a'.tmps.size=a.tmps.size∧anV F j:=by
   intro B j hr hi U;obtain⟨X',a',it,g1,N⟩:=ih n b cs ro B j s X a F s' hr (z.to hi);exact⟨X',a',it,.head U g1,N⟩
  cases e_ with
  | nil=>
   have:I=[]:=avm z.items.len.symm;subst this;simp only [run,At,OF]at h;obtain⟨rfl,rfl⟩:=h;exact⟨X,a,[],Steps.refl _ _,z.fr,Ext.refl _ _,rfl,rfl⟩
  | cons x k=>
   cases I with
   | nil=>have:=z.items.len;simp at this
   | cons it M=>
    obtain⟨hx,A⟩:=z.items.of_cons;cases hx with
    | inBlock id=>exact go (by simpa [run]using h) A stepR_inBlock
    | inLoop E=>exact go (by simpa [run]using h) (A2.cons (.code E) (A2.cons (.inLoop E) A)) stepR_inLoop
    | inScope E hs=>exact go (by simpa [run]using h) A xk
    | je hb hl=>
     rename_i bb L;simp only [run]at h;split at h
     ·rename_i f t ps as bd q d_ d J;split at h
      ·simp at h
      ·rename_i hq;rw [←z.fr.heap]at J;obtain⟨m0,us,a8,as',W,pend',Ld,b_,h2,h3,h4,h5,h6,Y,h8,h9⟩:=qT z.fr.sr hb J;obtain⟨g1,N⟩:=Aw z.fr.sr hb J (q':=.exhausted) h2 h3 h4 h5 h6 Y h8 h9;have k_:(q.of)≠LoopState.busy:=by cases q<;>simp [ej.of]at hq ⊢
       have U:=stepR_endRangeFunc (P:=Q) (b:=b) (a:=a) (k:=M) (cs:=cs) (run_endLoop (P:=Q) b_ k_);have key:∀ {B j},run call fn m ro B { s with heap:=s.heap.set bb (.lp f t ps as bd .exhausted d_ d) }=aa (F,s')→A2 (hZ Q σ n X) B j→j=(pend'.map Item.code).toList++M →
         ∃ X' a' j,Steps Q (lone (b.atR a (.endRangeFunc L.c::M)) cs X.w) (lone (b.atR a' j) cs X'.w)∧Fr Q σ n X' s' a'∧Ext X.H.length X X'∧a'.tmps.size=a.tmps.size∧anV F j:=by
        intro B j hr hi he;obtain⟨X',a',it,k1,k2,k3,k4,k5⟩:=ih n b cs ro B j _ _ a F s' hr (z.ext (a':=a) N ⟨by rw [←z.fr.heap],g1,by simpa [World.putObj]using z.fr.b,z.fr.aD.ext' σ N,z.fr.defs.ext' N,z.fr.size⟩ hi);rw [he]at k1;exact⟨X',a',it,.head U k1,k2,N.trans (k3.mono N.len),k4,k5⟩
       split at h
       ·cases pend' with
        | none=>exact key h A rfl| some c=>exact Y.elim
       ·cases pend' with
        | none=>exact Y.elim
        | some c=>
         have Y:bT Q σ m0 c .ret=ae:=Y;cases c<;>simp [bT]at Y;exact key h (A2.cons (.code (by simp [bT])) A) rfl
       ·rename_i id;cases pend' with
        | none=>exact Y.elim
        | some c=>
         have Y:bT Q σ m0 c (.exit id)=ae:=Y;cases c<;>simp [bT]at Y;subst Y;exact key h (A2.cons (.code (by simp [bT])) A) rfl
       ·simp at h
     ·simp at h
    | mT=>
     simp only [run]at h;split at h
     ·simp at h
     ·rename_i bb;split at h
      ·rename_i f t ps as bd d_ d J;have K:=z.ro;cases f8:b.roundOf with
       | none=>rw [f8]at K;exact K.elim
       | some l=>
        rw [f8]at K;obtain⟨L,hL,rfl,_⟩:=K;rw [←z.fr.heap]at J;obtain⟨m0,us,a8,as',W,pend',Ld,b_,h2,h3,h4,h5,h6,Y,h8,h9⟩:=qT z.fr.sr hL J;obtain⟨g1,N⟩:=Aw z.fr.sr hL J (q':=.busy) h2 h3 h4 h5 h6 Y h8 h9;have U:=stepR_beginRound (P:=Q) (b:=b) (a:=a) (k:=M) (cs:=cs) f8 (run_beginRound (P:=Q) b_ rfl);obtain⟨X',a',it,k1,k2,k3,k4,k5⟩:=ih n b cs _ k M _ _ a F s' h (z.ext (a':=a) N ⟨by rw [←z.fr.heap],g1,by simpa [World.putObj]using z.fr.b,z.fr.aD.ext' σ N,z.fr.defs.ext' N,z.fr.size⟩ A);exact⟨X',a',it,.head U k1,k2,N.trans (k3.mono N.len),k4,k5⟩
      ·simp at h
    | code E=>
     rename_i ac c;cases ac with
     | bad=>simp [run]at h| skip=>cases c<;>simp [bT]at E;exact go (by simpa [run]using h) A stepR_skip
     | label l=>cases c<;>simp [bT]at E;exact go (by simpa [run]using h) A stepR_label
     | scope p=>
      cases c<;>simp [bT]at E;exact go (by simpa [run]using h) (A2.cons (.code E.1) (A2.cons (.inScope E.1 E.2) A)) CW
     | goto l=>
      cases c<;>simp [bT]at E;subst E;rename_i l';have S:=yp (Q:=Q) (σ:=σ) (n:=n) (X:=X) l' k M A;simp only [run]at h;split at h
      ·rename_i k' H;rw [H]at S;obtain⟨n_,he,b9⟩:=S;exact go h b9 (stepR_goto he)
      ·simp at h
     | ret=>
      cases c<;>simp [bT]at E;simp only [run,At,OF]at h;obtain⟨rfl,rfl⟩:=h;exact⟨X,a,_,Steps.refl _ _,z.fr,Ext.refl _ _,rfl,M,rfl⟩
     | seq p q=>
      cases c<;>simp [bT]at E;exact go (by simpa [run]using h) (A2.cons (.code E.1) (A2.cons (.code E.2) A)) stepR_seq
     | block id p=>
      cases c<;>simp [bT]at E;obtain⟨rfl,E⟩:=E;exact go (by simpa [run]using h) (A2.cons (.code E) (A2.cons (.inBlock _) A)) stepR_block
     | loop p=>
      cases c<;>simp [bT]at E;exact go (by simpa [run]using h) (A2.cons (.code E) (A2.cons (.inLoop E) A)) stepR_loop
     | exit id=>
      cases c<;>simp [bT]at E;subst E;rename_i n9;have S:=yc (Q:=Q) (σ:=σ) (n:=n) (X:=X) n9 k M A;simp only [run]at h;split at h
      ·rename_i k' H;rw [H]at S;obtain⟨n_,he,b9⟩:=S;exact go h b9 (stepR_exit he)
      ·rename_i H;rw [H]at S;split at h
       ·simp only [At,OF]at h;obtain⟨rfl,rfl⟩:=h;exact⟨X,a,_,Steps.refl _ _,z.fr,Ext.refl _ _,rfl,M,rfl,S⟩
       ·simp at h
     | cond x p q=>
      cases c<;>simp [bT]at E;simp only [run]at h;split at h
      ·rename_i v hv;have hx:=bU z.fr.aD E.1.1;rw [hv]at hx;have n8:cS σ X.F X.w (.bool v) _:=hx;have he:∀ u,cS σ X.F X.w (.bool v) u→u=.bool v:=fun u hu=>by cases hu;rfl
       refine go h ?_ (stepR_cond (he _ n8));cases v
       ·exact A2.cons (.code E.2) A
       ·exact A2.cons (.code E.1.2) A
      ·simp at h
     | region aos iD=>
      cases c with
      | region id ops o_=>
       simp only [run]at h;split at h
       ·simp at h
       ·rename_i K;split at h
        ·rename_i s1 h1;have l_:∀ y ∈ aos,gR y.op b:=by
          intro y hy;unfold gR;cases ro with
          | none=>
           refine .inl ?_;have:=z.ro;cases hb:b.roundOf with
           | none=>rfl| some l=>rw [hb]at this;exact this.elim
          | some r=>
           simp only [Option.isSome_some,av1,av8,Bool.not_eq_false]at K;exact .inr (avz.1 K y hy)
         obtain⟨X1,a1,g1,N,g3,g4⟩:=Rc hC i7 E z.kind l_ (k:=M) z.fr h1;obtain⟨X',a',it,k1,k2,k3,k4,k5⟩:=ih n b cs ro k M s1 X1 a1 F s' h (z.ext g3 N A);exact⟨X',a',it,g1.trans k1,k2,g3.trans (k3.mono g3.len),k4.trans g4,k5⟩
        ·simp at h
      | _=>simp [bT]at E
     | fo f ps as bd=>
      cases c with
      | rangeFunc f' a8 as' W=>
       simp only [bT,If]at E;obtain⟨⟨⟨j7,j8⟩,j9⟩,j_⟩:=E;simp only [run]at h;split at h
       ·simp at h
       ·rename_i K;have m4:b.roundOf=ab:=by
         have:=z.ro;cases ro with
         | some r=>simp at K
         | none=>
          cases hb:b.roundOf with
          | none=>rfl| some l=>rw [hb]at this;exact this.elim
        split at h
        ·rename_i g args i5;split at h
         ·rename_i r2 H2 O;obtain⟨X1,w1,H1,S1,E1,r1,B1⟩:=SR.new z.fr.sr z.fr.b (.eH ae) (ed.alloc X.w (.deferred (aa []))) 0 (fun X' hx hw hF hH=>by
           show X'.w.heap[X.w.heap.size]?=_;rw [hw];exact(ed.alloc X.w (.deferred (aa []))).new)
          have i6:X1.H[X.H.length]?=aa (.eH ae):=by rw [H1];simp
          have c_:X.H.length<X1.H.length:=by rw [H1];simp
          have i8:X1.w.heap.size=X.w.heap.size+1:=by rw [w1];simp
          obtain⟨X2,w2,i9,S2,E2,g_,B2⟩:=SR.new S1 B1 (.lp fn s.aD ps as bd .ready ab s.heap.length)
           (ed.alloc X1.w (.loop { state:=.ready,pending:=ab,fn:=b.fn,tmps:=a.tmps,params:=a8,assign:=as',body:=W,defers:=X.w.heap.size })) 0 (fun X' hx hw hF hH=>by
            obtain⟨blk',f7,H⟩:=hx.cO X.H.length c_ _ i6;cases blk'<;>simp only at H;refine⟨n,a.tmps,a8,as',W,ab,⟨X.w.heap.size,0⟩,?_,z.fr.size,RR.ext' σ hx (RR.ext' σ E1 z.fr.aD),j8,j9,j_,trivial,?_,?_⟩
            ·show X'.w.heap[X1.w.heap.size]?=_;rw [hw,(ed.alloc X1.w (.loop { state:=.ready,pending:=ab,fn:=b.fn,tmps:=a.tmps,params:=a8,assign:=as',body:=W,defers:=X.w.heap.size })).new,z.fn];rfl
            ·rw [←z.fr.heap];exact H _ r1
            ·rw [←z.fr.heap];exact⟨_,f7⟩)
          have f_:Ext X.H.length X X2:=E1.trans (E2.mono E1.len);have h_:X2.H=s.heap++[.eH ae,.lp fn s.aD ps as bd .ready ab s.heap.length]:=by rw [i9,H1,←z.fr.heap];simp
          have j6:X1.H.length=s.heap.length+1:=by rw [H1,←z.fr.heap];simp
          have J:D1 X2 (s.heap.length+1):=⟨fn,s.aD,ps,as,bd,.ready,ab,s.heap.length,by rw [h_,IS (by omega)];simp⟩
          rw [j6,i8]at g_;have i4:A2 (VR σ X2) [.c (.yl (s.heap.length+1))] [.func (.yield (X.w.heap.size+1)) #[] #[]]:=A2.cons ⟨⟨X.w.heap.size+1,0⟩,g_,J,rfl⟩ A2.nil;obtain⟨fst,cap,m9,m_⟩:=oR i5 (VR.ext' σ f_ (bU z.fr.aD j7)) i4;rw [←h_]at O;have j5:=hC.enters _ _ _ _ O
          let a1:Act:={ a with defers:={ target:=.collected X.w.heap.size,args:=#[] }::a.defers }
          obtain⟨fr,X3,u,q1,⟨l1,l2,l3,l4,i_,l5,l6⟩,q3,q4,q5,q6,q7⟩:=hC.fn g args _ r2 H2 O X2 _ .normal (b.atR a1 (.inRangeFunc (X.w.heap.size+1)::M)::cs) rfl S2 B2 m_ (.inl rfl) (.inl rfl);have U:step Q (lone (b.atR a (.code (.rangeFunc f' a8 as' W)::M)) cs X.w)=.next (lone (Frame.enter Q (σ g) (fst.toArray++#[.func (.yield (X.w.heap.size+1)) #[] #[]]++cap.toArray) .normal) (b.atR a1 (.inRangeFunc (X.w.heap.size+1)::M)::cs) X2.w):=by
           refine stepR_rangeFunc (P:=Q) (b:=b) (a:=a) (k:=M) (cs:=cs) (l:=X.w.heap.size+1) (mark:=[{ target:=.collected X.w.heap.size,args:=#[] }]) (w₁:=X2.w) (w₁':=X2.w) (d:={ target:=.fn (.func (σ g)) cap.toArray,args:=fst.toArray++#[.func (.yield (X.w.heap.size+1)) #[] #[]] }) ?_ ?_ ?_
           ·rw [m4,run_enterLoop_outer,w2,w1]
           ·simp only [resolve,m9,Deferred.ofValue,Sem.run_bind,Sem.run_pure,Result.andThen_ok];simp [Act.eval]
           ·exact eX j5
          have Z:Ext X.H.length X X3:=f_.trans (q6.mono f_.len);have a_:=step_leave_returned (P:=Q) (c:=b.atR a1 (.inRangeFunc (X.w.heap.size+1)::M)) (cs:=cs) (show fr.leaving Q X3.w (.returned u) from⟨l1,l2,l3,i_,by rw [l4];exact l5,l6⟩);rw [finish_atR_inRangeFunc]at a_;have d9:=J.ext q6;have j4:uA σ X3 (.gZ s.heap.length) { target:=.collected X.w.heap.size,args:=#[] }:=by
           obtain⟨blk',f7,H⟩:=(E2.trans (q6.mono E2.len)).cO X.H.length c_ _ i6;cases blk'<;>simp only at H;rw [←z.fr.heap];exact⟨⟨X.w.heap.size,0⟩,_,H _ r1,f7,rfl⟩
          obtain⟨X',a',it,k1,k2,k3,k4,k5⟩:=ih n b cs ro (.je (s.heap.length+1)::k) (.endRangeFunc (X.w.heap.size+1)::M) _ X3 a1 F s' h
           ⟨⟨q3,q4,q7,RR.ext' σ Z z.fr.aD,A2.cons j4 (z.fr.defs.ext' Z),z.fr.size⟩,A2.cons (.je (d9.2 _ g_) d9.1) (A.lJ fun _ _ h=>h.ext Z),z.ro.ext Z,z.kind,z.fn⟩
          refine⟨X',a',it,.head U (Steps.trans ?_ (.head a_ k1)),k2,Z.trans (k3.mono Z.len),k4,k5⟩;simpa using q1
         ·simp at h
        ·simp at h
      | _=>simp [bT]at E
end
section
variable{Q:Program}{σ:Nat→FuncId}{X:Wd}{call:cR}
def Dr(Q:Program)(σ:Nat→FuncId)(oy:Nat→List V→aj→Option (Option (V × aj))):Prop:=
 ∀ f args H r H',oy f args H=aa (aa (r,H')) →
  (∀ as w,(callFunc (σ f) as).run Q w=.ok (.enter (σ f) as) w) ∧
  ∀(X:Wd) us b cs,X.H=H→SR Q σ X→X.B≤X.w.heap.size→A2 (VR σ X) args us→pR b cs→b=.normal∨f≠fv →
   ∃ d X' u,Steps Q (lone (Frame.enter Q (σ f) us.toArray b) cs X.w) (lone d cs X'.w)∧Leaves Q (σ f) b d u X'.w∧fe Q σ X r H' X' u
structure Env(Q:Program)(σ:Nat→FuncId)(tab:Nat→Option aL)(oy:Nat→List V→aj→Option (Option (V × aj))):Prop where
 mix:Q.follows .mixedOrders=ae
 fn:∀ f af,tab f=aa af→∃ fn,Q.funcs[σ f]?=aa fn∧yD Q σ fn af=ae
 oy:Dr Q σ oy
theorem wb:∀(ps:List P) (args:List V) (t:T) (s:Nat),ps.map P.toNat=List.range' s ps.length→args.length=ps.length→∀ q:P,
  (cN ps args t).get q=if s≤q.toNat then(args[q.toNat-s]?).getD (t.get q)else t.get q
 | [],args,t,s,_,b,q=>by
  have:args=[]:=avm b;subst this;simp [cN]
 | p::ps,[],t,s,_,b,q=>by simp at b
 | p::ps,v::y,t,s,d,b,q=>by
  simp only [List.map_cons,List.length_cons,List.range'_succ,List.cons.injEq]at d;have x:=wb ps y (t.set p v) (s+1) d.2 (by simpa using b) q;simp only [cN,x];by_cases j:p=q
  ·subst j;rw [aY (by omega),T.qB];simp [d.1]
  ·have u:q.toNat≠s:=fun e=>j (P.toNat_inj (d.1.trans e.symm));simp only [T.qB,j,if_false];by_cases l:s≤q.toNat
   ·have g:s+1≤q.toNat:=by omega
    have m:q.toNat-s=(q.toNat-(s+1))+1:=by omega
    simp [g,l,m]
   ·have g:¬ (s+1≤q.toNat):=by omega
    simp [g,l]
theorem RR.cN:∀(ps:List P) (b:List Tmp) (args:List V) (us:List Value) (aD:T) (tmps:Array Value) (n:Nat),n≤tmps.size→RR σ X aD tmps→A2 (VR σ X) args us→args.length=ps.length →
  ft (fun p (q:P)=>q.toNat == p&&decide (p<n)) b ps=ae→RR σ X (Km.cN ps args aD) ((b.zip us).foldl (fun tmps (t,a)=>tmps.setIfInBounds t a) tmps)
 | [],b,args,us,aD,tmps,n,l,j,d,g,h=>by
  have:args=[]:=avm g;subst this;have:us=[]:=avm d.len.symm;subst this;simpa [Km.cN]using j
 | p::ps,[],args,us,aD,tmps,n,l,j,d,g,h=>by simp [ft]at h
 | p::ps,s::b,[],us,aD,tmps,n,l,j,d,g,h=>by simp at g
 | p::ps,s::b,v::x,[],aD,tmps,n,l,j,d,g,h=>by have:=d.len;simp at this
 | p::ps,s::b,v::x,u::us,aD,tmps,n,l,j,d,g,h=>by
  simp only [ft,If,beq_iff_eq,decide_eq_true_eq]at h;obtain⟨⟨h1,h2⟩,h3⟩:=h;obtain⟨m,d⟩:=d.of_cons;subst h1;refine RR.cN ps b x us _ _ n (by simpa using l) (RR.set σ j (by omega) m) d (by simpa using g) h3
theorem tu:∀(l:List (Tmp × Value)) (tmps:Array Value),(l.foldl (fun tmps (t,a)=>tmps.setIfInBounds t a) tmps).size=tmps.size
 | [],_=>rfl| x::l,tmps=>by rw [List.foldl_cons,tu l];simp
theorem ael(fn:Nat):∀ m d s b s',run call fn m ab d s=aa (b,s')→b=ab∨b=aa .ret:=by
 intro m;induction m with
 | zero=>intro d s b s' h;simp [run]at h
 | succ m g=>
  intro d s b s' h;unfold run at h;split at h
  all_goals first
   | exact g _ _ _ _ h
   | (simp at h;done)
   | skip
  ·simp only [At,OF]at h;exact .inl h.1.symm
  ·split at h
   ·split at h
    ·simp at h
    ·split at h
     ·exact g _ _ _ _ h
     ·exact g _ _ _ _ h
     ·exact g _ _ _ _ h
     ·simp at h
   ·simp at h
  ·split at h
   ·exact g _ _ _ _ h
   ·simp at h
  ·simp only [At,OF]at h;exact .inr h.1.symm
  ·split at h
   ·exact g _ _ _ _ h
   ·simp at h
  ·split at h
   ·exact g _ _ _ _ h
   ·simp at h
  ·split at h
   ·simp at h
   ·split at h
    ·exact g _ _ _ _ h
    ·simp at h
  ·split at h
   ·simp at h
   ·simp only at h;split at h
    ·split at h
     ·exact g _ _ _ _ h
     ·simp at h
    ·simp at h
theorem ti{fn:Func}{af:aL}(h:yD Q σ fn af=ae):∃ c,fn.name≠ "runtime.NumGoroutine"∧fn.body=aa c∧bT Q σ fn.ntmps c af.body=ae ∧
  ft (xa Q fn.ntmps) fn.results.toList af.results=ae∧af.ps.map P.toNat=List.range af.ps.length:=by
 simp only [yD,If,bne_iff_ne,ne_eq,decide_eq_true_eq]at h;obtain⟨⟨⟨h1,h2⟩,h3⟩,h4⟩:=h;cases hb:fn.body with
 | none=>rw [hb]at h2;simp at h2| some c=>rw [hb]at h2;exact⟨c,h1,rfl,h2,h3,h4⟩
theorem rq{f:FuncId}{fn:Func}{c:Code}(hf:Q.funcs[f]?=aa fn)(hn:fn.name≠ "runtime.NumGoroutine")(hb:fn.body=aa c)(as:Array Value)(w:World):(callFunc f as).run Q w=.ok (.enter f as) w:=by
 simp [callFunc,hf,hn,hb]
def jD(g:FuncId)(d:CallKind)(tmps:Array Value)(ds:List Deferred)(b:Frame):Prop:=
 b.mode=.returning∧b.defers=ds∧b.kind=d∧b.fn=g∧b.tmps=tmps
theorem step_collected{d:Frame}{cs:List Frame}{w w':World}{b:Nat}{as:Array Value}{ds:List Deferred}(j:d.mode=.returning)(g:d.defers = { target:=.collected b,args:=as }::ds)
  (l:(Instr.takeDeferred b).run Q w=.ok [] w'):step Q (lone d cs w)=.next (lone { d with defers:=ds } cs w'):=
 step_lone_go (by simp [stepG,unwind,j,g,Sem.runT_eq,l])
theorem xl{b:Frame}{cs:List Frame}{w:World}{f:FuncId}{cap as as':Array Value}{ds:List Deferred}(g:b.mode=.returning)(d:b.defers = { target:=.fn (.func f) cap,args:=as }::ds)
  (j:(invoke (.fn (.func f) cap) as).run Q w=.ok (.enter f as') w):step Q (lone b cs w)=.next (lone (Frame.enter Q f as' .deferred) ({ b with defers:=ds }::cs) w):=
 step_lone_go (by simp [stepG,unwind,g,d,callDeferred,Sem.runT_eq,j])
theorem oA{b c:Frame}{cs:List Frame}{w:World}{v:Value}{f:FuncId}(h:Leaves Q f .deferred b v w)(hc:c.mode=.returning) :
  step Q (lone b (c::cs) w)=.next (lone c cs w):=by
 obtain⟨q,j,m,l,fn,d,g⟩:=h;rw [←l]at d;exact step_lone_go (by simp [stepG,unwind,doReturn,q,j,m,d,Sem.runT_eq,g,hc])
theorem jD.pop{g:FuncId}{kind:CallKind}{tmps:Array Value}{d:Deferred}{ds:List Deferred}{fr:Frame}(h:jD g kind tmps (d::ds) fr):jD g kind tmps ds { fr with defers:=ds }:=
 ⟨h.1,rfl,h.2.2.1,h.2.2.2.1,h.2.2.2.2⟩
theorem zE(H:fg Q σ call){g:FuncId}{y:CallKind}{tmps:Array Value}{cs:List Frame}:∀(ds:List dQ) (X:Wd) (l:List Deferred) (q:Frame) (H':aj),
  dL call ds X.H=aa H'→SR Q σ X→X.B≤X.w.heap.size→fS σ X ds l→jD g y tmps l q →
  ∃ fr' X',Steps Q (lone q cs X.w) (lone fr' cs X'.w)∧jD g y tmps [] fr'∧X'.H=H'∧SR Q σ X'∧X'.B≤X'.w.heap.size∧Ext X.H.length X X'
 | [],X,l,q,H',h,B,E,z,j=>by
  have:l=[]:=avm z.len.symm;subst this;simp only [dL,At]at h;exact⟨q,X,Steps.refl _ _,j,h,B,E,Ext.refl _ _⟩
 | d::ds,X,[],q,H',h,B,E,z,j=>by have:=z.len;simp at this
 | .gZ b::ds,X,m::l,q,H',h,B,E,z,j=>by
  obtain⟨⟨L,o,h1,h2,rfl⟩,A⟩:=A2.of_cons z;simp only [dL]at h;split at h
  ·rename_i I;obtain⟨_,_,bp,F,K⟩:=B.br b L h1;rw [I]at F;cases F;have x:X.w.heap[L.c]?=aa (.deferred (aa [])):=K;obtain⟨g1,J⟩:=SR.rA (o':=.deferred ab) (blk':=.eH ag) B I h1 x (by simp) (by simp)
    (fun bp v=>⟨.eH ag,by simp [(BY.1 I).1],by rw [I]at v;cases v;exact fun L h=>h⟩)
    (fun X' b9 O _ a8 hH=>O)
   obtain⟨fr',X',S,U,W,Y,Z,k6⟩:=zE H ds _ l { q with defers:=l } H' h g1 (by simpa using E) (fS.ext' J A) j.pop;exact⟨fr',X',.head (step_collected j.1 j.2.1 (run_takeDeferred x)) S,U,W,Y,Z,J.trans (k6.mono J.len)⟩
  ·simp at h
 | .fn f args::ds,X,m::l,q,H',h,B,E,z,j=>by
  obtain⟨⟨us,cap,rfl,hA⟩,A⟩:=A2.of_cons z;simp only [dL]at h;split at h
  ·simp at h
  rename_i N;split at h
  ·rename_i r H1 s;have M:=H.enters f args _ _ s;obtain⟨a_,X1,u,q1,q2,q3,q4,q5,q6,q7⟩:=H.fn f args _ r H1 s X _ .deferred ({ q with defers:=l }::cs) rfl B E hA (.inr ⟨rfl,_,_,rfl,j.1⟩) (.inr N);rw [←q3]at h;obtain⟨fr',X',S,U,W,Y,Z,k6⟩:=zE H ds X1 l { q with defers:=l } H' h q4 q7 (fS.ext' q6 A) j.pop;refine⟨fr',X',.head (xl (as':=us++cap) j.1 j.2.1 (eX M)) (Steps.trans ?_ (.head (oA (c:={ q with defers:=l }) q2 j.1) S)),U,W,Y,Z,q6.trans (k6.mono q6.len)⟩;have e:(us.toList++cap.toList).toArray=us++cap:=by apply Array.ext';simp
   rw [e]at q1;exact q1
  ·simp at h
theorem apK(E:SR Q σ X){n:Nat}{aD:T}{tmps:Array Value}(m:RR σ X aD tmps){r:ResultVar}{a:gH}(g:xa Q n r a=ae){v:V}
  (h:cA aD X.H a=aa v):∃ u,(match r with | .tmp t=>pure (tmps.getD t undef) | .cell a t=>do loadVar t (←asAddr (tmps.getD a undef)):Sem Value).run Q X.w=.ok u X.w∧ic σ X v u:=by
 cases r with
 | tmp t=>
  cases a with
  | tmp p=>
   simp only [xa,If,beq_iff_eq,decide_eq_true_eq]at g;have d:=m p;rw [g.1]at d;simp only [cA]at h;refine⟨_,rfl,?_⟩;split at h
   ·simp at h
   ·rename_i j;simp only [At]at h;rw [h]at d;cases v with
    | t H=>exact absurd h (j H)| top=>trivial| c x=>exact d| a xs=>exact d
  | cell p k=>simp [xa]at g
 | cell t I=>
  cases a with
  | tmp p=>simp [xa]at g
  | cell p k=>
   simp only [xa,If,beq_iff_eq,decide_eq_true_eq]at g;have d:=m p;rw [g.1.1]at d;simp only [cA]at h;cases q:aD.get p with
   | c x=>
    rw [q]at h d;simp only [aR,Option.bind_eq_some_iff]at h;obtain⟨cs,s,b⟩:=h;obtain⟨c,o,us,F,z,A⟩:=uN E d s;obtain⟨u,B,l⟩:=C0 g.2 z A b;refine⟨u,by simp [F,asAddr,B],?_⟩;cases k with
    | none=>cases cs with
     | nil=>simp [aV]at b| cons y ys=>simp only [aV,At]at b;subst b;exact l
    | some k=>
     simp only [aV]at b;split at b
     ·simp only [At]at b;subst b;exact l
     ·simp at b
   | _=>rw [q]at h;simp [aR]at h
theorem EE(K:SR Q σ X){fn:Func}{m:List gH}(L:ft (xa Q fn.ntmps) fn.results.toList m=ae){aD:T}{tmps:Array Value}(J:RR σ X aD tmps){v:V}
  (h:Km.results aD X.H m=aa v):∃ u,(Go.results fn tmps).run Q X.w=.ok u X.w∧VR σ X v u:=by
 have key:∀(m:List gH) (qs:List ResultVar) (j:List V),ft (xa Q fn.ntmps) qs m=ae→bj (cA aD X.H) m=aa j →
   ∃ us:List Value,(qs.mapM (fun r=>match r with | .tmp t=>pure (tmps.getD t undef) | .cell a t=>do loadVar t (←asAddr (tmps.getD a undef)):ResultVar→Sem Value)).run Q X.w=.ok us X.w∧A2 (ic σ X) j us:=by
  intro m;induction m with
  | nil=>
   intro qs j x l;cases qs with
   | nil=>simp only [bj,At]at l;subst l;exact⟨[],rfl,A2.nil⟩| cons q qs=>simp [ft]at x
  | cons a m M=>
   intro qs j x l;cases qs with
   | nil=>simp [ft]at x
   | cons q qs=>
    simp only [ft,If]at x;simp only [bj]at l;split at l
    ·simp at l
    ·rename_i A E;split at l
     ·simp at l
     ·rename_i B F;simp only [At]at l;subst l;obtain⟨u,s,b⟩:=apK K J x.1 E;obtain⟨us,H,I⟩:=M qs B x.2 F;refine⟨u::us,?_,A2.cons b I⟩;rw [List.mapM_cons,Sem.run_bind,s];simp only [Result.andThen_ok,Sem.run_bind,H,Sem.run_pure]
 unfold Km.results at h;have y:∀ j,bj (cA aD X.H) m=aa j→∃ us:List Value,(Go.results fn tmps).run Q X.w=.ok (if h:us.toArray.size=1 then us.toArray[0]else .tuple us.toArray) X.w∧A2 (ic σ X) j us:=by
  intro j g;obtain⟨us,s,b⟩:=key m fn.results.toList j L g;refine⟨us,?_,b⟩;unfold Go.results;rw [Array.mapM_eq_mapM_toList,Sem.run_bind,Sem.run_map];exact(congrArg (fun r:Result (List Value)=>(r.andThen fun a w'=>Result.ok a.toArray w').andThen fun a w'=>Sem.run Q (pure (if h:a.size=1 then a[0]else Value.tuple a)) w') s).trans rfl
 split at h
 ·rename_i A g;simp only [At]at h;subst h;obtain⟨us,s,b⟩:=y _ g
  match us,b with
  | [u],b=>exact⟨u,s,VR.of1 σ b.of_cons.1⟩| [],b=>have:=b.len;simp at this| _::_::_,b=>have:=b.len;simp at this
 ·rename_i j z g;simp only [At]at h;subst h;obtain⟨us,s,b⟩:=y _ g;refine⟨.tuple us.toArray,?_,us,rfl,b⟩;rw [s,dif_neg];intro d
  match us,d with
  | [u],_=>
   match j,b with
   | [A],_=>exact z A rfl| [],b=>have:=b.len;simp at this| _::_::_,b=>have:=b.len;simp at this
  | [],d=>simp at d| _::_::_,d=>simp at d
 ·simp at h
end
section
variable{Q:Program}{σ:Nat→FuncId}{tab:Nat→Option aL}{oy:Nat→List V→aj→Option (Option (V × aj))}
theorem ar4(i:Env Q σ tab oy){m:Nat}{call:cR}(h:fg Q σ call){f:Nat}{af:aL}(I:tab f=aa af){args:List V}(E:args.length=af.ps.length){x:Option aG}{s':St}{X:Wd}
  (v:run call f m ab [.code af.body] ⟨cN af.ps args .e,[],X.H⟩=aa (x,s')) {H':aj} (j:dL call s'.defs s'.heap=aa H') {r:V} (s:Km.results s'.aD H' af.results=aa r)
  {us:List Value} {d:CallKind} {cs:List Frame} (hS:SR Q σ X) (hB:X.B≤X.w.heap.size) (e:A2 (VR σ X) args us) (hk:pR d cs) :
  ∃ W X' u,Steps Q (lone (Frame.enter Q (σ f) us.toArray d) cs X.w) (lone W cs X'.w)∧Leaves Q (σ f) d W u X'.w∧fe Q σ X r H' X' u:=by
 obtain⟨fn,n,hm⟩:=i.fn f af I;obtain⟨c,M,y,z,O,N⟩:=ti hm
 let b:Frame:=Frame.enter Q (σ f) us.toArray d
 let l:Act:={ tmps:=us.toArray++Array.replicate (fn.ntmps-us.toArray.size) undef,defers:=[] }
 have hb:b=b.atR l [.code c]:=by
  simp [b,l,Frame.enter,Frame.atR,n,y]
 have S:fn.ntmps≤l.tmps.size:=by simp [l];omega
 have L:RR σ X (cN af.ps args .e) l.tmps:=by
  intro p;rw [wb af.ps args .e 0 (by rw [N,List.range_eq_range']) E p];simp only [awv,if_true,Nat.sub_zero];by_cases o:p.toNat<args.length
  ·have t:=By o;have F:p.toNat<us.length:=e.len▸o;have hy:=By F;have hv:=e.2 _ _ _ t hy;rw [t];have:l.tmps.getD p.toNat undef=us[p.toNat]:=by
    simp [l,Array.getD_eq_getD_getElem?,Array.getElem?_append,F]
   rw [this];exact hv
  ·rw [awk (by omega)];cases p<;>trivial
 have hF:Fr Q σ fn.ntmps X ⟨cN af.ps args .e,[],X.H⟩ l:=⟨rfl,hS,hB,L,A2.nil,S⟩
 have hW:Way Q σ f fn.ntmps b cs ab [.code af.body] [.code c] ⟨cN af.ps args .e,[],X.H⟩ X l:=⟨hF,A2.cons (.code z) A2.nil,trivial,hk,rfl⟩
 obtain⟨J,a1,g,s1,A,E1,_,U⟩:=aem h i.mix f m fn.ntmps b cs ab _ _ _ X l x s' v hW;have H:∃ q,Steps Q (lone (b.atR a1 g) cs J.w) (lone q cs J.w)∧jD (σ f) d a1.tmps a1.defers q:=by
  rcases ael f m _ _ _ _ v with rfl | rfl
  ·have:g=[]:=U;subst this;exact⟨_,.one (stepR_end rfl),rfl,rfl,rfl,rfl,rfl⟩
  ·obtain⟨k,rfl⟩:=U;exact⟨_,.one (stepR_ret rfl),rfl,rfl,rfl,rfl,rfl⟩
 obtain⟨q,s2,w⟩:=H;rw [←A.heap]at j;obtain⟨K,X2,s3,B,Y,Z,h3,a⟩:=zE h (cs:=cs) s'.defs J a1.defers q H' j A.sr A.b A.defs w;rw [←Y]at s;obtain⟨u,g1,g2⟩:=EE Z O (RR.ext' σ a A.aD) s;refine⟨K,X2,u,?_,⟨B.1,B.2.1,B.2.2.1,B.2.2.2.1,fn,n,by rw [B.2.2.2.2];exact g1⟩,Y,Z,g2,E1.trans (a.mono E1.len),h3⟩;show Steps Q (lone b cs X.w) _;rw [hb];exact s1.trans (s2.trans s3)
theorem afe(hE:Env Q σ tab oy){m:Nat}{call:cR}(hC:fg Q σ call){b:Nat}{f:Nat}{tmps:T}{ps:List P}{as bd:aG}{q:ej}{pd:Option aG}{d:Nat}{X:Wd}(U:X.H[b]?=aa (.lp f tmps ps as bd q pd d))
  {args:List V} (S:args.length=ps.length) {g:Option aG} {s':St} (Y:run call f m (aa b) [.code as,.mT,.code bd] ⟨cN ps args tmps,[],X.H⟩=aa (g,s')) (d9:s'.defs.isEmpty=ae)
  {f':Nat} {v:T} {J:List P} {as' H:aG} {q':ej} {f7:Option aG} {d':Nat} (y:s'.heap[b]?=aa (.lp f' v J as' H q' f7 d'))
  {us:List Value} {c:Frame} {cs:List Frame} {L:Loc} (hS:SR Q σ X) (hB:X.B≤X.w.heap.size) (hA:A2 (VR σ X) args us) (hL:X.cB b=aa L) :
  ∃ f tmps as bd X' u,(Instr.yield L.c us.toArray).run Q X.w=.ok (.round L.c f tmps as bd) X.w ∧
   Steps Q (lone (Frame.round L.c f tmps as bd .normal) (c::cs) X.w) (lone (c.finish u) cs X'.w)∧fe Q σ X (.bool g.isNone) (s'.heap.set b (.lp f' v J as' H (if g.isNone then .ready else .done) g d')) X' u:=by
 obtain⟨n,ts,qs,z,A,f8,Ld,W,h2,h3,h4,h5,h6,h7,h8,h9⟩:=qT hS hL U;have hq:=(eI h4).len;have e_:us.toArray.size=qs.size:=by
  have:=hA.len;simp only [Array.length_toList]at hq;simp;omega
 have hy:=run_yield (P:=Q) (args:=us.toArray) W e_
 let F:Array Value:=(qs.zip us.toArray).foldl (fun tmps (t,a)=>tmps.setIfInBounds t a) ts
 have O:F=(qs.toList.zip us).foldl (fun tmps (t,a)=>tmps.setIfInBounds t a) ts:=by
  simp only [F];rw [←Array.foldl_toList];simp
 let M:Act:={ tmps:=F,defers:=[] }
 let B:Frame:=Frame.round L.c (σ f) F z A .normal
 have b_:B=B.atR M [.code z,.beginRound,.code A]:=by simp [B,M,Frame.round,Frame.atR]
 have c_:RR σ X (cN ps args tmps) F:=by
  rw [O];exact RR.cN ps qs.toList args us tmps ts n h2 h3 hA S h4
 have hn:n≤F.size:=by rw [O,tu];exact h2
 have hF:Fr Q σ n X ⟨cN ps args tmps,[],X.H⟩ M:=⟨rfl,hS,hB,c_,A2.nil,hn⟩
 have E:D1 X b:=⟨_,_,_,_,_,_,_,_,U⟩
 have hW:Way Q σ f n B (c::cs) (aa b) [.code as,.mT,.code bd] [.code z,.beginRound,.code A] ⟨cN ps args tmps,[],X.H⟩ X M:=
  ⟨hF,A2.cons (.code h5) (A2.cons .mT (A2.cons (.code h6) A2.nil)),⟨L,hL,rfl,E⟩,.inl rfl,rfl⟩
 obtain⟨X1,a1,x,s1,K,E1,_,Z⟩:=aem hC hE.mix f m n B (c::cs) (aa b) _ _ _ X M g s' Y hW;have N:=(E.ext E1).2 _ hL;rw [←K.heap]at y;obtain⟨n1,g_,f_,a_,b9,pend1,a8,s,k2,k3,k4,k5,k6,k7,k8,k9⟩:=qT K.sr N y;have I:∀(l:Option Code),yE Q σ n1 g l→l.isNone=g.isNone→step Q (lone (B.atR a1 x) (c::cs) X1.w)=.next (lone (c.finish (.bool l.isNone)) cs (X1.w.putObj L.c (.loop { state:=if l.isNone then .ready else .done,pending:=l,fn:=σ f',tmps:=g_,params:=f_,assign:=a_,body:=b9,defers:=a8.c }))) →
   ∃ f tmps as bd X' u,(Instr.yield L.c us.toArray).run Q X.w=.ok (.round L.c f tmps as bd) X.w ∧
   Steps Q (lone (Frame.round L.c f tmps as bd .normal) (c::cs) X.w) (lone (c.finish u) cs X'.w)∧fe Q σ X (.bool g.isNone) (s'.heap.set b (.lp f' v J as' H (if g.isNone then .ready else .done) g d')) X' u:=by
  intro l hj hn d_;obtain⟨g1,g2⟩:=Aw K.sr N y (q':=if g.isNone then .ready else .done) (pend1:=g) (pend':=l) k2 k3 k4 k5 k6 hj k8 k9;have hq:(if g.isNone then ej.ready else ej.done).of=(if l.isNone then LoopState.ready else LoopState.done):=by
   rw [hn];cases g<;>rfl
  rw [hq]at g1 g2;refine⟨σ f,F,z,A,_,.bool l.isNone,hy,?_,?_,g1,?_,E1.trans (g2.mono E1.len),?_⟩
  ·show Steps Q (lone B (c::cs) X.w) _;rw [b_];exact s1.trans (.one d_)
  ·rw [←K.heap]
  ·rw [hn];exact VR.vz _
  ·have:=K.b;simpa [World.putObj]using this
 cases g with
 | none=>
  have:x=[]:=Z;subst this;exact I ab trivial rfl (stepR_round_end rfl rfl (run_endRound (P:=Q) ab s))
 | some j=>
  cases j with
  | ret=>
   obtain⟨k,rfl⟩:=Z;exact I (aa .ret) (by simp [yE,bT]) rfl (stepR_round_ret rfl rfl (run_endRound (P:=Q) (aa .ret) s))
  | exit id=>
   obtain⟨k,rfl,hx⟩:=Z;exact I (aa (.exit id)) (by simp [yE,bT]) rfl (stepR_round_exit rfl rfl hx (run_endRound (P:=Q) (aa (.exit id)) s))
  | _=>exact Z.elim
theorem acC(x:Env Q σ tab oy)(m:Nat):∀ d,fg Q σ (eG tab oy m d):=by
 intro d;induction d with
 | zero=>exact⟨fun f args H r h=>by simp [eG]at h,fun f args H r H' h=>by simp [eG]at h,fun b args H r H' h=>by simp [eG]at h⟩
 | succ d S=>
  refine⟨fun f args H r h=>?_,fun f args H r H' h X us B cs J I F E U K=>?_,fun b args H r H' h X us c cs L J I F E hL=>?_⟩
  ·simp only [eG]at h;split at h
   ·rename_i r' N;obtain⟨r0,W⟩:=r;exact(x.oy f args H r0 W (by rw [N,h])).1
   ·split at h
    ·simp at h
    ·rename_i af l;obtain⟨fn,hf,hm⟩:=x.fn f af l;obtain⟨c,v,s,_⟩:=ti hm;exact rq hf v s
  ·simp only [eG]at h;split at h
   ·rename_i r' N;exact(x.oy f args H r H' (by rw [N,h])).2 X us B cs J I F E U K
   ·split at h
    ·simp at h
    ·rename_i af l;split at h
     ·rename_i g;split at h
      ·rename_i A s' j;split at h
       ·rename_i H1 u;simp only [IT,OF]at h;obtain⟨r1,z,rfl,rfl⟩:=h;subst J;exact ar4 x S l g j u z I F E U
       ·simp at h
      ·simp at h
     ·simp at h
  ·simp only [eG]at h;split at h
   ·rename_i f tmps ps as bd q pd d' M;split at h
    ·rename_i g;split at h
     ·rename_i A s' j;split at h
      ·rename_i hd;split at h
       ·rename_i f' O a_ as' Y q' a8 Z y;simp only [At,OF]at h;obtain⟨rfl,rfl⟩:=h;subst J;exact afe x S M g j hd y I F E hL
       ·simp at h
      ·simp at h
     ·simp at h
    ·simp at h
   ·simp at h
end
inductive A8 where
 | no
 | set (b:Nat) (x:bw)
 | push (x:bw)
def A8.app(H:aj):A8→aj
 | .no=>H| .set b x=>H.set b x| .push x=>H++[x]
def uM(g:Nat→Option bw):C→Option (List C)
 | .ptr b off ep=>match g b with
  | some (.box cs _)=>aa (cs.drop off)| some (.cf _ cs _ e .loc)=>if ep=e then aa (cs.drop off)else ab| _=>ab
 | .f (.fp cs off)=>aa ((cs.drop off).map .f)| _=>ab
def apb(g:Nat→Option bw)(n:Option Nat):V→Option V
 | .c x=>(uM g x).bind (aV n)| _=>ab
def sQ(g:Nat→Option bw):C→Option Nat
 | .sl b _ l _ ep sz=>match g b with
  | some (.box _ _)=>aa l| some (.cf s _ _ e _)=>if ep=e∧sz=s then aa l else ab| _=>ab
 | .f .az=>aa 0| .f .es=>aa 0| .f (.fs _ l)=>aa l| _=>ab
def ry(g:Nat→Option bw)(sz:Nat):C→Option (List C)
 | .sl b o l _ ep s=>match g b with
  | some (.box cs _)=>if o+l*sz≤cs.length then aa ((cs.drop o).take (l*sz))else ab| some (.cf s' cs _ e _)=>if ep=e∧s=s'∧o+l*sz≤cs.length then aa ((cs.drop o).take (l*sz))else ab| _=>ab
 | .f .az=>aa []| .f .es=>aa []| .f (.fs cs l)=>if cs.length=l*sz then aa (cs.map .f)else ab| _=>ab
def sE(g:Nat→Option bw):Fj→C→Option Bool
 | .ptr,.f .ov=>aa ae| .ptr,.f (.fp _ _)=>aa ag| .ptr,.ptr _ _ _=>aa ag| .sl,.f .az=>aa ae| .sl,.f .es=>aa ag| .sl,.f (.fs _ _)=>aa ag
 | .sl,.sl b _ _ _ ep sz=>match g b with
  | some (.box _ _)=>aa ag| some (.cf s _ _ e st)=>if ep=e∧sz=s then aa (st == .nil)else ab| _=>ab
 | .fn,.f .i'=>aa ae| .fn,.f (.fn _ _)=>aa ag| .fn,.cl _ _=>aa ag| .fn,.bm _ _=>aa ag| .ifc,.f .mN=>aa ae| _,_=>ab
def aoO(g:Nat→Option bw):Fj→V→V→Option Bool
 | .bool,.c x,.c y=>Qm .bool x y| .st b,.a xs,.a ys=>rF b xs ys| .ptr,.c x,.c (.f .ov)=>sE g .ptr x| .sl,.c x,.c (.f .az)=>sE g .sl x| .fn,.c x,.c (.f .i')=>sE g .fn x| .ifc,.c x,.c (.f .mN)=>sE g .ifc x| _,_,_=>ab
def ug(g:Nat→Option bw)(sz:Nat)(x:V)(lo hi mx:Option V):Option V:=
 match x with
 | .c (.f .az)=>match bW 0 0 lo hi mx with
  | some _=>aa (.c (.f .az))| none=>ab
 | .c (.f .es)=>match bW 0 0 lo hi mx with
  | some _=>aa (.c (.f .es))| none=>ab
 | .c (.f (.fs cs n))=>match bW n n lo hi mx with
  | some (l,h,m)=>
   if mx.isSome∧m=l then aa (.c (.f .es))else
   aa (.c (.f (.fs ((cs.drop (l*sz)).take ((h-l)*sz)) (h-l))))
  | none=>ab
 | .c (.sl b o n cap ep s)=>match g b with
  | some (.box _ _)=>match bW n cap lo hi mx with
   | some (l,h,m)=>if m=l then aa (.c (.f .es))else aa (.c (.sl b (o+l*sz) (h-l) (m-l) ep s))| none=>ab
  | some (.cf s' cs _ e st)=>
   if ep=e∧s=sz∧s'=sz then
    match st with
    | .loc=>match bW n n lo hi mx with
     | some (l,h,m)=>
      if mx.isSome∧m=l then aa (.c (.f .es))
      else if l=h∧0<l then aa (.c (.f (.fs [] 0)))
      else if mx.isSome then(if 0<l then aa (.c (.sl b 0 0 0 ep (s'+1)))else ab)
      else aa (.c (.sl b (o+l*sz) (h-l) 0 ep s))
     | none=>match mx with
      | some _=>ab
      | none=>match bW n ((cs.length-o) / sz) lo hi ab with
       | some (l,h,_)=>if n≤(cs.length-o) / sz∧l<h then aa (.c (.sl b (o+l*sz) (h-l) 0 ep s))else ab| none=>ab
    | .nil=>match bW 0 0 lo hi mx with
     | some _=>aa (.c (.f .az))| none=>ab
    | .es=>match bW 0 0 lo hi mx with
     | some _=>aa (.c (.f .es))| none=>ab
   else ab
  | _=>ab
 | _=>ab
def Ao(g:Nat→Option bw)(n sz:Nat)(x:V)(lo hi mx:Option V):Option V:=
 match x with
 | .c (.ptr b off _)=>match g b with
  | some (.box cs _)=>match bW n n lo hi mx with
   | some (l,h,m)=>if off+n*sz≤cs.length then(if m=l then aa (.c (.f .es))else aa (.c (.sl b (off+l*sz) (h-l) (m-l) 0 sz)))else ab| none=>ab
  | _=>ab
 | .c (.f (.fp cs off))=>match bW n n lo hi mx with
   | some (l,h,m)=>if off+n*sz≤cs.length then(if m=l then aa (.c (.f .es))else aa (.c (.f (.fs ((cs.drop (off+l*sz)).take ((h-l)*sz)) (h-l)))))else ab| none=>ab
 | _=>ab
def vl(g:Nat→Option bw)(sz:Nat)(d:Option Nat)(x i:V):Option V:=
 match ir i with
 | none=>ab
 | some i=>
  if 0≤i then
   match d,x with
   | none,.c (.sl b o l _ ep s)=>if i<l then
     (match g b with
      | some (.box _ _)=>aa (.c (.ptr b (o+i.toNat*sz) ep))| some (.cf s' _ _ e .loc)=>if ep=e∧s=s' then aa (.c (.ptr b (o+i.toNat*sz) ep))else ab
      | _=>ab)else ab
   | none,.c (.f (.fs cs l))=>if i<l then aa (.c (.f (.fp cs (i.toNat*sz))))else ab| some n,.c (.ptr b o ep)=>if i<n then aa (.c (.ptr b (o+i.toNat*sz) ep))else ab| some n,.c (.f (.fp cs o))=>if i<n then aa (.c (.f (.fp cs (o+i.toNat*sz))))else ab| _,_=>ab
  else ab
def vt(g:Nat→Option bw)(d:CK)(z:FC):V→V→Option V
 | .c (.f .xf),.c (.f k)=>if isKey d k then aa (lkR z ab)else ab
 | .c (.mp b),.c (.f k)=>match g b with
  | some (.map j)=>if isKey d k then(ns d k j).map (lkR z)else ab| _=>ab
 | _,_=>ab
def DJ(g:Nat→Option bw):V→Option V
 | .c x=>match sQ g x with
  | some _=>match ry g 1 x with
   | some cs=>(bj (fun c=>match c with | C.f (.int .u8 n)=>aa (UInt8.ofNat n.toNat) | _=>ab) cs).map fun l=>.c (.f (.str ⟨l.toArray⟩))
   | none=>ab
  | none=>ab
 | _=>ab
def qj(g:Nat→Option bw)(sz:Nat):V→Option (Nat × List C)
 | .c (.f (.str s))=>if sz=1 then aa (s.size,s.toList.map fun b=>.f (.int .u8 b.toNat))else ab
 | .c x=>match sQ g x,ry g sz x with
  | some l,aa cs=>aa (l,cs)| _,_=>ab
 | _=>ab
def EJ(g:Nat→Option bw):C→Option Nat
 | .sl b _ _ c ep sz=>match g b with
  | some (.box _ _)=>aa c| some (.cf s _ _ e .nil)=>if ep=e∧sz=s then aa 0 else ab| some (.cf s _ _ e .es)=>if ep=e∧sz=s then aa 0 else ab| _=>ab
 | .f .az=>aa 0| .f .es=>aa 0| _=>ab
def zF(g:Nat→Option bw):V→Option V
 | .c (.mi b)=>match g b with
  | some (.wN m _ ae)=>match g m with
   | some (.map [e])=>aa (.t [.c (.f e.1),mV e.2])| _=>ab
  | _=>ab
 | _=>ab
def aeM(g:Nat→Option bw)(x:C)(xs:List C):Option A8:=
 match x with
 | .ptr b off ep=>match g b with
  | some (.box cs fl)=>if fl≤off∧off+xs.length≤cs.length then aa (.set b (.box (over cs off xs) fl))else ab| some (.cf sz cs fl e .loc)=>if ep=e∧fl≤off∧off+xs.length≤cs.length then aa (.set b (.cf sz (over cs off xs) fl e .loc))else ab| _=>ab
 | _=>ab
def Ej(g:Nat→Option bw):V→Option (V × A8)
 | .c (.it b)=>match g b with
  | some (.it s pos)=>
   if pos<s.size then
    let r:=Utf8.decode s pos
    aa (.t [.bool ae,.int .i64 pos,.int .i32 r.1],.set b (.it s (pos+r.2)))
   else aa (.t [.bool ag],.no)
  | _=>ab
 | _=>ab
def uJ(g:Nat→Option bw)(d:Nat)(sz bytes:Nat)(x y:V):Option (V × A8):=
 match qj g sz y with
 | none=>ab
 | some (m,ys)=>
  if sz=0 then ab else
  match x with
  | .c (.f .az)=>if m=0 then aa (.c (.f .az),.no)else
    if bV m bytes then aa (.c (.sl d 0 m 0 0 sz),.push (.cf sz ys 0 0 .loc))else ab
  | .c (.f .es)=>if m=0 then aa (.c (.f .es),.no)else
    if bV m bytes then aa (.c (.sl d 0 m 0 0 sz),.push (.cf sz ys 0 0 .loc))else ab
  | .c (.sl b o l cap ep s)=>match g b with
   | some (.box cs fl)=>
    if l+m≤cap then
     if fl≤o+l*sz∧o+l*sz+ys.length≤cs.length then aa (.c (.sl b o (l+m) cap ep s),.set b (.box (over cs (o+l*sz) ys) fl))else ab
    else if bV (l+m) bytes∧o+l*sz≤cs.length then aa (.c (.sl d 0 (l+m) 0 0 sz),.push (.cf sz ((cs.drop o).take (l*sz)++ys) 0 0 .loc))else ab
   | some (.cf s' cs fl e st)=>
    if ep=e∧s'=sz∧s=sz then
     if m=0 then aa (x,.no)
     else if o=0∧l*sz=cs.length∧fl≤cs.length then
      if bV (l+m) bytes then aa (.c (.sl b 0 (l+m) 0 (ep+1) sz),.set b (.cf sz (cs++ys) fl (e+1) .loc))else ab
     else if st=.loc∧fl≤o+l*sz∧o+l*sz+ys.length≤cs.length then
      aa (.c (.sl b o (l+m) 0 ep sz),.set b (.cf sz (over cs (o+l*sz) ys) fl e .loc))
     else ab
    else ab
   | _=>ab
  | _=>ab
def DI(g:Nat→Option bw)(sz:Nat)(x y:V):Option (V × A8):=
 match qj g sz y,x with
 | some _,.c (.f .az)=>aa (.int .i64 0,.no)| some _,.c (.f .es)=>aa (.int .i64 0,.no)
 | some (m,ys),.c (.sl b o l _ ep s')=>
  let n:=Nat.min m l
  match g b with
  | some (.box cs fl)=>if fl≤o∧o+n*sz≤cs.length then aa (.int .i64 n,.set b (.box (over cs o (ys.take (n*sz))) fl))else ab| some (.cf s cs fl e .loc)=>if ep=e∧s'=s∧s=sz∧fl≤o∧o+n*sz≤cs.length then aa (.int .i64 n,.set b (.cf s (over cs o (ys.take (n*sz))) fl e .loc))else ab| _=>ab
 | _,_=>ab
def zD(g:Nat→Option bw)(sz:Nat)(zs:List FC)(x:V):Option A8:=
 match x with
 | .c y=>match sQ g y with
  | some 0=>aa .no
  | some l=>
   if zs.length=sz then
    match y with
    | .sl b o _ _ ep s=>match g b with
     | some (.box _ _)=>aeM g (.ptr b o ep) ((cF l zs).map .f)| some (.cf s' _ _ e .loc)=>if ep=e∧s=s' then aeM g (.ptr b o ep) ((cF l zs).map .f)else ab| _=>ab
    | _=>ab
   else ab
  | none=>ab
 | _=>ab
def EM(g:Nat→Option bw)(sz:Nat)(x hi mx:V):Option (V × A8):=
 match ug g sz x ab (aa hi) (aa mx)with
 | some v=>aa (v,.no)
 | none=>match x with
  | .c (.sl b o n _ ep s)=>match g b with
   | some (.cf s' cs fl e .loc)=>
    if ep=e∧s=sz∧s'=sz∧o=0 then
     match Bk hi n,Bk mx n with
     | some i,aa j=>
      if i=j∧0<i∧i*sz≤cs.length then
       match bj fcC (cs.take (i*sz))with
       | some ys=>aa (.c (.f (.fs ys i)),.set b (.cf s' cs (Nat.max fl (i*sz)) e .loc))| none=>ab
      else ab
     | _,_=>ab
    else ab
   | _=>ab
  | _=>ab
def DB(g:Nat→Option bw)(b:Nat)(sz bytes:Nat)(zs:List FC)(x n:V):Option (V × A8):=
 match ir n with
 | some n=>
  if 0≤n∧zs.length=sz then
   match x with
   | .c (.f .az)=>if n.toNat=0 then aa (.c (.f .az),.no)else
     if bV n.toNat bytes then aa (.c (.sl b 0 n.toNat 0 0 sz),.push (.cf sz ((cF n.toNat zs).map .f) 0 0 .loc))else ab
   | .c (.f .es)=>if n.toNat=0 then aa (.c (.f .es),.no)else
     if bV n.toNat bytes then aa (.c (.sl b 0 n.toNat 0 0 sz),.push (.cf sz ((cF n.toNat zs).map .f) 0 0 .loc))else ab
   | _=>ab
  else ab
 | none=>ab
def Ab(g:Nat→Option bw):V→Option (V × A8)
 | .c (.mi b)=>match g b with
  | some (.wN m d done)=>match g m with
   | some (.map [])=>if done then ab else aa (.t [.bool ag],.no)| some (.map [e])=>if done then aa (.t [.bool ag],.no)else if d=1 then aa (.t [.bool ae,.c (.f e.1),mV e.2],.set b (.wN m 1 ae))else ab| _=>ab
  | _=>ab
 | _=>ab
def vU(g:Nat→Option bw)(j:Nat):V→Option (V × A8)
 | .c (.mp b)=>match g b with
  | some (.map d)=>if d.length≤1 then aa (.c (.mi j),.push (.wN b d.length ag))else ab| _=>ab
 | _=>ab
def afb(aD:T)(g:Nat→Option bw)(d:Nat):cW→Option (V × A8)
 | .aZ x=>aa (x.ev aD,.no)| .pre o sz=>if o=.loc∨sz=0 then ab else aa (.c (.sl d 0 0 0 0 sz),.push (.cf sz [] 0 0 o))
 | .pick c a b=>match c.ev aD with
  | .c (.f (.bool v))=>aa ((if v then a else b).ev aD,.no)| _=>ab
 | .alloc zs=>aa (.c (.ptr d 0 0),.push (.box (zs.map .f) 0))
 | .box x=>match (x.ev aD).cells? with
  | some xs=>aa (.c (.ptr d 0 0),.push (.box xs 0))| none=>ab
 | .build zs ps=>(dK aD (zs.map .f) ps).map fun cs=>(.a cs,.no)
 | .bK sz zs n ps=>
  if n=0 then(if ps.isEmpty then aa (.c (.f .es),.no)else ab)else
  (dK aD ((cF n zs).map .f) (ps.map fun p=>(p.1*sz,sz,p.2))).map fun cs=>(.c (.sl d 0 n n 0 sz),.push (.box cs 0))
 | .load n x=>(apb g n (x.ev aD)).map (·,.no)
 | .store n x y=>match x.ev aD,(y.ev aD).cells? with
  | .c p,aa xs=>if xs.length=n then(aeM g p xs).map (.top,·)else ab| _,_=>ab
 | .bR x=>match x.ev aD with
  | .c (.ptr b o e)=>aa (.c (.ptr b o e),.no)| .c (.f (.fp cs o))=>aa (.c (.f (.fp cs o)),.no)| _=>ab
 | .bin op x y=>(dq op (x.ev aD) (y.ev aD)).map (·,.no)| .eq neg k x y=>(aoO g k (x.ev aD) (y.ev aD)).map fun b=>(.bool (if neg then !b else b),.no)
 | .un op x=>(unV op (x.ev aD)).map (·,.no)
 | .fT k x=>match x.ev aD with
  | .c (.f (.int _ n))=>aa (.int k (k.wrap n),.no)| _=>ab
 | .wU x=>match x.ev aD with
  | .c (.f (.str s))=>aa (.c (.f (.str s)),.no)| _=>ab
 | .wT x=>(DJ g (x.ev aD)).map (·,.no)
 | .DK x=>match x.ev aD with
  | .c (.f (.str s))=>if s.size<2 ^ 48 then aa (.c (.sl d 0 s.size 0 0 1),.push (.cf 1 (s.toList.map fun b=>.f (.int .u8 b.toNat)) 0 0 .loc))else ab
  | _=>ab
 | .fR f j=>(bj mU (dC aD j)).map fun xs=>(.c (.cl f xs),.no)
 | .jQ=>aa (.c (.mp d),.push (.map []))| .lookup q z m k=>(vt g q z (m.ev aD) (k.ev aD)).map (·,.no)
 | .jg q m k v=>match m.ev aD,k.ev aD,qo (v.ev aD)with
  | .c (.mp b),.c (.f k),aa v=>match g b with
   | some (.map A)=>if isKey q k then(qX q k v A).map fun A=>(.top,.set b (.map A))else ab
   | _=>ab
  | _,_,_=>ab
 | .dX sz bytes zs l c=>match ir (l.ev aD),ir (c.ev aD)with
  | some l,aa c=>
   if 0≤l∧l≤c∧bV c.toNat bytes=ae∧zs.length=sz then
    (if c=0 then aa (.c (.f .es),.no)else
    aa (.c (.sl d 0 l.toNat c.toNat 0 sz),.push (.box ((cF c.toNat zs).map .f) 0)))
   else ab
  | _,_=>ab
 | .slice sz x lo hi mx=>(ug g sz (x.ev aD) (lo.map (·.ev aD)) (hi.map (·.ev aD)) (mx.map (·.ev aD))).map (·,.no)| .nB n sz x lo hi mx=>(Ao g n sz (x.ev aD) (lo.map (·.ev aD)) (hi.map (·.ev aD)) (mx.map (·.ev aD))).map (·,.no)| .oK x lo hi=>(wj (x.ev aD) (lo.map (·.ev aD)) (hi.map (·.ev aD))).map (·,.no)| .aO off x=>(jq off (x.ev aD)).map (·,.no)| .field off n x=>(iX off n (x.ev aD)).map (·,.no)| .bE sz u x i=>(vl g sz u (x.ev aD) (i.ev aD)).map (·,.no)| .idxs x i=>(BL (x.ev aD) (i.ev aD)).map (·,.no)| .wW len sz n x i=>(BK len sz n (x.ev aD) (i.ev aD)).map (·,.no)
 | .range x=>match x.ev aD with
  | .c (.f (.str s))=>aa (.c (.it d),.push (.it s 0))| _=>ab
 | .next x=>Ej g (x.ev aD)
 | .extract x i=>match x.ev aD with
  | .t E=>(E[i]?).map (·,.no)| _=>ab
 | .ou n=>aa (.int .i64 n,.no)
 | .lens x=>match x.ev aD with
  | .c (.f (.str s))=>aa (.int .i64 (s.size:Nat),.no)| _=>ab
 | .len x=>match x.ev aD with
  | .c y=>match sQ g y with
   | some n=>aa (.int .i64 (n:Nat),.no)| none=>ab
  | _=>ab
 | .append sz bytes x y=>uJ g d sz bytes (x.ev aD) (y.ev aD)| .copy sz x y=>DI g sz (x.ev aD) (y.ev aD)| .gQ lo xs=>(xc lo (dC aD xs)).map (·,.no)| .clear sz zs x=>(zD g sz zs (x.ev aD)).map (.t [],·)| .fP sz zs n ps=>((dK aD ((cF n zs).map .f) (ps.map fun p=>(p.1*sz,sz,p.2))).bind fun cs=>if n=0 then ab else fcL cs).map fun B=>(.c (.f (.fs B n)),.no)
 | .wg sz x hi mx=>EM g sz (x.ev aD) (hi.ev aD) (mx.ev aD)| .lO sz bytes zs x n=>DB g d sz bytes zs (x.ev aD) (n.ev aD)| .kE x=>vU g d (x.ev aD)| .oI x=>Ab g (x.ev aD)| .entry x=>(zF g (x.ev aD)).map (·,.no)| .nq f xs=>(bj mU (dC aD xs)).map fun xs=>(.c (.bm f xs),.no)
 | .cap x=>match x.ev aD with
  | .c y=>match EJ g y with
   | some n=>aa (.int .i64 (n:Nat),.no)| none=>ab
  | _=>ab
 | _=>ab
def gt(H:aj):Nat→Option bw:=fun b=>H[b]?
theorem Bp(H:aj):uM (gt H)=aE H:=by funext x;unfold uM aE gt;rfl
theorem akn(H:aj):apb (gt H)=aR H:=by funext n x;unfold apb aR;rw [Bp];rfl
theorem oa(H:aj):sQ (gt H)=bu H:=by funext x;unfold sQ bu gt;rfl
theorem tx(H:aj):ry (gt H)=cP H:=by funext n x;unfold ry cP gt;rfl
theorem QF(H:aj):sE (gt H)=isNil H:=by funext k x;unfold sE isNil gt;rfl
theorem ajX(H:aj):aoO (gt H)=DN H:=by funext k x y;unfold aoO DN;rw [QF];rfl
theorem wh(H:aj):ug (gt H)=dW H:=by funext n x a b c;unfold ug dW gt;rfl
theorem EK(H:aj):Ao (gt H)=kH H:=by funext m n x a b c;unfold Ao kH gt;rfl
theorem BN(H:aj):vl (gt H)=bH H:=by funext n a x i;unfold vl bH gt;rfl
theorem BX(H:aj):vt (gt H)=gb H:=by funext k z x y;unfold vt gb gt;rfl
theorem Qh(H:aj):DJ (gt H)=oF H:=by funext x;unfold DJ oF;rw [oa,tx];rfl
theorem oO(H:aj):qj (gt H)=cU H:=by funext n x;unfold qj cU;rw [oa,tx];rfl
theorem Rl(H:aj):EJ (gt H)=jh H:=by funext x;unfold EJ jh gt;rfl
theorem DL(H:aj):zF (gt H)=lQ H:=by funext x;unfold zF lQ gt;rfl
def jK(H:aj)(r:Option (V × A8)):Option (V × aj):=r.map fun r=>(r.1,r.2.app H)
theorem Ap(H:aj)(x:C)(xs:List C):(aeM (gt H) x xs).map (·.app H)=cX H x xs:=by
 cases x with
 | ptr b off ep=>
  simp only [aeM,cX,gt];cases h:H[b]? with
  | none=>rfl
  | some bp=>
   cases bp with
   | box cs fl=>simp only;split<;>rfl
   | cf sz cs fl e st=>cases st<;>simp only<;>first | rfl | (split<;>rfl)
   | _=>rfl
 | _=>rfl
theorem QX(H:aj)(x:V):jK H (Ej (gt H) x)=Gg H x:=by
 cases x with
 | c x=>
  cases x with
  | it b=>
   simp only [Ej,Gg,gt,jK];cases h:H[b]? with
   | none=>rfl
   | some bp=>
    cases bp with
    | it s pos=>simp only;split<;>rfl
    | _=>rfl
  | _=>rfl
 | _=>rfl
theorem Qg(H:aj)(sz:Nat)(x y:V):jK H (DI (gt H) sz x y)=copyV H sz x y:=by
 unfold DI copyV jK;rw [oO];cases d:cU H sz y with
 | none=>rfl
 | some r=>
  obtain⟨m,ys⟩:=r;cases x with
  | c x=>
   cases x with
   | f x=>cases x<;>rfl
   | sl b o l cap ep s=>
    simp only [gt];cases h:H[b]? with
    | none=>rfl
    | some bp=>
     cases bp with
     | box cs fl=>simp only;split<;>rfl
     | cf sz cs fl e st=>cases st<;>simp only<;>first | rfl | (split<;>rfl)
     | _=>rfl
   | _=>rfl
  | _=>rfl
theorem Bg(H:aj)(sz bytes:Nat)(x y:V):jK H (uJ (gt H) H.length sz bytes x y)=cH H sz bytes x y:=by
 unfold uJ cH jK;rw [oO];cases d:cU H sz y with
 | none=>rfl
 | some r=>
  obtain⟨m,ys⟩:=r;simp only;by_cases h0:sz=0
  ·simp [h0]
  ·simp only [h0,if_false];cases x with
   | c x=>
    cases x with
    | f x=>cases x<;>first | rfl | (simp only;repeat' (first | rfl | split))
    | sl b o l cap ep s=>
     simp only [gt];cases h:H[b]? with
     | none=>rfl
     | some bp=>
      cases bp with
      | box cs fl=>simp only;repeat' (first | rfl | split)
      | cf sz cs fl e st=>simp only;repeat' (first | rfl | split)
      | _=>rfl
    | _=>rfl
   | _=>rfl
theorem DE(H:aj)(sz:Nat)(zs:List FC)(x:V):(zD (gt H) sz zs x).map (·.app H)=oU H sz zs x:=by
 unfold zD oU;cases x with
 | c y=>
  simp only [oa];cases bu H y with
  | none=>rfl
  | some l=>
   cases l with
   | zero=>rfl
   | succ l=>
    simp only;split
    ·cases y with
     | sl b o l' c ep s=>
      simp only [gt];cases h:H[b]? with
      | none=>rfl
      | some bp=>
       cases bp with
       | box cs fl=>exact Ap H _ _
       | cf s' cs fl e st=>
        cases st<;>simp only<;>first | rfl | skip
        split
        ·exact Ap H _ _
        ·rfl
       | _=>rfl
     | _=>rfl
    ·rfl
 | _=>rfl
theorem PQ(H:aj)(sz bytes:Nat)(zs:List FC)(x n:V):jK H (DB (gt H) H.length sz bytes zs x n)=uK H sz bytes zs x n:=by
 unfold DB uK jK;cases ir n with
 | none=>rfl
 | some n=>
  simp only;split
  ·cases x with
   | c x=>
    cases x with
    | f x=>cases x<;>first | rfl | (simp only;repeat' (first | rfl | split))
    | _=>rfl
   | _=>rfl
  ·rfl
theorem Ro(H:aj)(sz:Nat)(x hi mx:V):jK H (EM (gt H) sz x hi mx)=CM H sz x hi mx:=by
 unfold EM CM jK;rw [wh];cases dW H sz x ab (aa hi) (aa mx)with
 | some v=>rfl
 | none=>
  simp only;cases x with
  | c x=>
   cases x with
   | sl b o n c ep s=>
    simp only [gt];cases H[b]? with
    | none=>rfl
    | some bp=>
     cases bp with
     | cf s' cs fl e st=>
      cases st<;>simp only<;>first | rfl | skip
      split
      ·cases Bk hi n<;>cases Bk mx n<;>simp only<;>first | rfl | skip
       split
       ·cases bj fcC (List.take _ cs)<;>rfl
       ·rfl
      ·rfl
     | _=>rfl
   | _=>rfl
  | _=>rfl
theorem Ek(H:aj)(x:V):jK H (Ab (gt H) x)=Aa H x:=by
 cases x with
 | c x=>
  cases x with
  | mi b=>
   simp only [Ab,Aa,gt,jK];cases h:H[b]? with
   | none=>rfl
   | some bp=>
    cases bp with
    | wN m g done=>
     simp only;cases l:H[m]? with
     | none=>rfl
     | some d=>
      cases d with
      | map j=>
       match j with
       | []=>simp only;split<;>rfl
       | [e]=>simp only;repeat' (first | rfl | split)
       | _::_::_=>rfl
      | _=>rfl
    | _=>rfl
  | _=>rfl
 | _=>rfl
theorem Ct(H:aj)(x:V):jK H (vU (gt H) H.length x)=ue H x:=by
 cases x with
 | c x=>
  cases x with
  | mp b=>
   simp only [vU,ue,gt,jK];cases h:H[b]? with
   | none=>rfl
   | some bp=>
    cases bp with
    | map d=>simp only;split<;>rfl
    | _=>rfl
  | _=>rfl
 | _=>rfl
theorem Ft{H:aj}(o:Option V):jK H (o.map (·,.no))=o.map (·,H):=by cases o<;>rfl
theorem Ax(aD:T)(H:aj)(op:cW):jK H (afb aD (gt H) H.length op)=bq aD H op:=by
 cases op<;>simp only [afb,bq,Ft,akn,wh,EK,BN,BX,Qh,Bg,Qg,QX,PQ,Ro,Ek,Ct,DL]
 all_goals first | rfl | skip
 case pre o sz=>split<;>rfl
 case pick c a b=>
  generalize c.ev aD=v;cases v<;>try rfl
  rename_i x;cases x<;>try rfl
  rename_i x;cases x<;>rfl
 case box x=>generalize (x.ev aD).cells?=o;cases o<;>rfl
 case build zs ps=>cases dK aD (zs.map .f) ps<;>rfl
 case bK sz zs n ps=>
  split
  ·split<;>rfl
  ·simp only [jK,awP];rfl
 case fP sz zs n ps=>
  generalize (dK aD ((cF n zs).map .f) (ps.map fun p=>(p.1*sz,sz,p.2))).bind (fun cs=>if n=0 then ab else fcL cs)=o;cases o<;>rfl
 case store n x y=>
  generalize x.ev aD=v;generalize (y.ev aD).cells?=o;cases v<;>cases o<;>try rfl
  simp only;split
  ·rw [←Ap];simp only [jK,awP];rfl
  ·rfl
 case bR x=>
  generalize x.ev aD=v;cases v<;>try rfl
  rename_i x;cases x<;>try rfl
  rename_i x;cases x<;>rfl
 case eq neg k x y=>rw [ajX];simp only [jK,awP];rfl
 case fT k x=>
  generalize x.ev aD=v;cases v<;>try rfl
  rename_i x;cases x<;>try rfl
  rename_i x;cases x<;>rfl
 case wU x=>
  generalize x.ev aD=v;cases v<;>try rfl
  rename_i x;cases x<;>try rfl
  rename_i x;cases x<;>rfl
 case DK x=>
  generalize x.ev aD=v;cases v<;>try rfl
  rename_i x;cases x<;>try rfl
  rename_i x;cases x<;>try rfl
  simp only;split<;>rfl
 case fR f d=>simp only [jK,awP];rfl
 case jg g m k v=>
  generalize m.ev aD=m;generalize k.ev aD=k;generalize qo (v.ev aD)=v;cases m<;>try rfl
  rename_i m;cases m<;>try rfl
  cases k<;>try rfl
  rename_i k;cases k<;>try rfl
  cases v<;>try rfl
  simp only [gt];rename_i b k v;cases H[b]? with
  | none=>rfl
  | some bp=>
   cases bp<;>try rfl
   simp only;split
   ·simp only [jK,awP];rfl
   ·rfl
 case dX sz bytes zs l c=>
  generalize ir (l.ev aD)=l;generalize ir (c.ev aD)=c;cases l<;>cases c<;>try rfl
  simp only;split
  ·split<;>rfl
  ·rfl
 case range x=>
  generalize x.ev aD=v;cases v<;>try rfl
  rename_i x;cases x<;>try rfl
  rename_i x;cases x<;>rfl
 case extract x i=>
  generalize x.ev aD=v;cases v<;>try rfl
  simp only [Ft]
 case len x=>
  generalize x.ev aD=v;cases v<;>try rfl
  rw [oa];simp only;rename_i y;cases bu H y<;>rfl
 case lens x=>
  generalize x.ev aD=v;cases v<;>try rfl
  rename_i x;cases x<;>try rfl
  rename_i x;cases x<;>rfl
 case clear sz zs x=>rw [←DE];simp only [jK,awP];rfl
 case nq f d=>simp only [jK,awP];rfl
 case cap x=>
  generalize x.ev aD=v;cases v<;>try rfl
  rw [Rl];simp only;rename_i y;cases jh H y<;>rfl
section
set_option linter.unusedVariables false
inductive BT(α:Type) where
 | e
 | n (l:BT α) (x:α) (r:BT α)
def BT.get{d:Type}:BT d→Nat→Option d
 | .e,_=>ab
 | .n l x r,b=>match b with
  | 0=>aa x| m+1=>if m % 2=0 then l.get (m / 2)else r.get (m / 2)
abbrev HT:=BT bw
def ie{j:Type}(b:Nat)(t:BT j)(k:j→Prop):Prop:=
 BT.rec (motive:=fun _=>Nat→Prop) (fun _=>False)
  (fun _ x _ d g b=>Nat.rec (motive:=fun _=>Prop) (k x) (fun m _=>Nat.rec (motive:=fun _=>Prop) (d (Nat.div m 2)) (fun _ _=>g (Nat.div m 2)) (Nat.mod m 2)) b) t b
def gM{d:Type}(x:d)(t:BT d):Nat→(BT d→Prop)→Prop:=
 BT.rec (motive:=fun _=>Nat→(BT d→Prop)→Prop) (fun _ _=>False)
  (fun l y r g j b k=>Nat.rec (motive:=fun _=>Prop) (k (.n l x r))
   (fun m _=>Nat.rec (motive:=fun _=>Prop) (g (Nat.div m 2) fun l'=>k (.n l' y r)) (fun _ _=>j (Nat.div m 2) fun r'=>k (.n l y r')) (Nat.mod m 2)) b) t
def zy{d:Type}(x:d)(t:BT d):Nat→(BT d→Prop)→Prop:=
 BT.rec (motive:=fun _=>Nat→(BT d→Prop)→Prop) (fun b k=>Nat.rec (motive:=fun _=>Prop) (k (.n .e x .e)) (fun _ _=>False) b)
  (fun l y r g j b k=>Nat.rec (motive:=fun _=>Prop) False
   (fun m _=>Nat.rec (motive:=fun _=>Prop) (g (Nat.div m 2) fun l'=>k (.n l' y r)) (fun _ _=>j (Nat.div m 2) fun r'=>k (.n l y r')) (Nat.mod m 2)) b) t
theorem adO(m:Nat):m % 2=0∨m % 2=1:=by omega
theorem dS{u:Type}{t:BT u}:∀ {b:Nat} {k:u→Prop},ie b t k→∃ x,t.get b=aa x∧k x:=by
 induction t with
 | e=>intro b k h;exact h.elim
 | n l x r q s=>
  intro b k h;cases b with
  | zero=>exact⟨x,rfl,h⟩
  | succ m=>
   have j:Nat.rec (motive:=fun _=>Prop) (ie (m / 2) l k) (fun _ _=>ie (m / 2) r k) (m % 2):=h;rcases adO m with e | e<;>rw [e]at j
   ·obtain⟨y,d,g⟩:=q j;exact⟨y,by simp [BT.get,e,d],g⟩
   ·obtain⟨y,d,g⟩:=s j;exact⟨y,by simp [BT.get,e,d],g⟩
def oC{d:Type}(t g:BT d)(b:Nat)(x:d):Prop:=∀ i,g.get i=if i=b then aa x else t.get i
theorem oC.left{d:Type}{l l' r:BT d}{y x:d}{m:Nat}(e:m % 2=0)(h:oC l l' (m / 2) x):oC (.n l y r) (.n l' y r) (m+1) x:=by
 intro i;cases i with
 | zero=>simp [BT.get]
 | succ j=>
  simp only [BT.get,h (j / 2)];rcases adO j with b | b
  ·have:(j / 2=m / 2)↔(j=m):=by omega
   simp [b,this]
  ·have:j≠m:=by omega
   simp [b,this]
theorem oC.right{d:Type}{l r' r:BT d}{y x:d}{m:Nat}(e:m % 2=1)(h:oC r r' (m / 2) x):oC (.n l y r) (.n l y r') (m+1) x:=by
 intro i;cases i with
 | zero=>simp [BT.get]
 | succ j=>
  simp only [BT.get,h (j / 2)];rcases adO j with b | b
  ·have:j≠m:=by omega
   simp [b,this]
  ·have:(j / 2=m / 2)↔(j=m):=by omega
   simp [b,this]
theorem acz{v:Type}{x:v}{t:BT v}:∀ {b:Nat} {k:BT v→Prop},gM x t b k→∃ A,oC t A b x∧(∃ y,t.get b=aa y)∧k A:=by
 induction t with
 | e=>intro b k h;exact h.elim
 | n l y r s u=>
  intro b k h;cases b with
  | zero=>
   refine⟨.n l x r,fun i=>?_,⟨y,rfl⟩,h⟩;cases i<;>simp [BT.get]
  | succ m=>
   have q:Nat.rec (motive:=fun _=>Prop) (gM x l (m / 2) fun l'=>k (.n l' y r)) (fun _ _=>gM x r (m / 2) fun r'=>k (.n l y r')) (m % 2):=h;rcases adO m with e | e<;>rw [e]at q
   ·obtain⟨l',d,⟨z,g⟩,j⟩:=s q;exact⟨_,d.left e,⟨z,by simp [BT.get,e,g]⟩,j⟩
   ·obtain⟨l',d,⟨z,g⟩,j⟩:=u q;exact⟨_,d.right e,⟨z,by simp [BT.get,e,g]⟩,j⟩
theorem PT{u:Type}{x:u}{t:BT u}:∀ {b:Nat} {k:BT u→Prop},zy x t b k→∃ v,oC t v b x∧k v:=by
 induction t with
 | e=>
  intro b k h;cases b with
  | zero=>
   refine⟨.n .e x .e,fun i=>?_,h⟩;cases i<;>simp [BT.get]
  | succ m=>exact h.elim
 | n l y r q s=>
  intro b k h;cases b with
  | zero=>exact h.elim
  | succ m=>
   have j:Nat.rec (motive:=fun _=>Prop) (zy x l (m / 2) fun l'=>k (.n l' y r)) (fun _ _=>zy x r (m / 2) fun r'=>k (.n l y r')) (m % 2):=h;rcases adO m with e | e<;>rw [e]at j
   ·obtain⟨l',d,g⟩:=q j;exact⟨_,d.left e,g⟩
   ·obtain⟨l',d,g⟩:=s j;exact⟨_,d.right e,g⟩
def cZ(H:aj)(t:HT):Prop:=t.get=gt H
theorem cZ.nil:cZ [] .e:=by funext b;simp [BT.get,gt]
theorem cZ.set{H:aj}{t g:HT}(h:cZ H t){b:Nat}{x:bw}(l:oC t g b x)(j:∃ y,t.get b=aa y):cZ (H.set b x) g:=by
 funext i;obtain⟨y,hy⟩:=j;rw [h]at hy;have d:b<H.length:=(BY.1 hy).1;rw [l i,h];simp only [gt];by_cases e:i=b
 ·subst e;simp [d]
 ·simp [e,AI (Ne.symm e)]
theorem cZ.push{H:aj}{t b:HT}(h:cZ H t){x:bw}(d:oC t b H.length x):cZ (H++[x]) b:=by
 funext i;rw [d i,h];simp only [gt];by_cases e:i=H.length
 ·subst e;simp
 ·by_cases hi:i<H.length
  ·simp [e,List.getElem?_append_left hi]
  ·rw [IS (by omega)];have:i-H.length≠0:=by omega
   simp [e,awk (l:=H) (i:=i) (by omega),this]
def cq(n:Nat)(k:Nat→Prop):Prop:=Nat.rec (motive:=fun _=>Prop) (k 0) (fun m _=>k (Nat.succ m)) n
def sw(n:Int)(k:Int→Prop):Prop:=Int.rec (motive:=fun _=>Prop) (fun n=>cq n fun n=>k (.ofNat n)) (fun n=>cq n fun n=>k (.negSucc n)) n
def na(b:Bool)(k:Bool→Prop):Prop:=Bool.rec (motive:=fun _=>Prop) (k ag) (k ae) b
theorem ct(n:Nat)(k:Nat→Prop):cq n k=k n:=by cases n<;>rfl
theorem yh(n:Int)(k:Int→Prop):sw n k=k n:=by cases n<;>simp only [sw,ct]
theorem im(b:Bool)(k:Bool→Prop):na b k=k b:=by cases b<;>rfl
def DQ(x:FC)(k:FC→Prop):Prop:=match x with
 | .bool b=>na b fun b=>k (.bool b)
 | .int j n=>sw n fun n=>k (.int j n)
 | .fp cs o=>cq o fun o=>k (.fp cs o)
 | .fs cs l=>cq l fun l=>k (.fs cs l)
 | x=>k x
theorem Qt(x:FC)(k:FC→Prop):DQ x k=k x:=by cases x<;>simp only [DQ,ct,yh,im]
def sq(x:C)(k:C→Prop):Prop:=match x with
 | .f x=>DQ x fun x=>k (.f x)
 | .ptr b o e=>cq b fun b=>cq o fun o=>cq e fun e=>k (.ptr b o e)
 | .sl b o l c e s=>cq b fun b=>cq o fun o=>cq l fun l=>cq c fun c=>cq e fun e=>cq s fun s=>k (.sl b o l c e s)
 | x=>k x
theorem su(x:C)(k:C→Prop):sq x k=k x:=by cases x<;>simp only [sq,ct,Qt]
def nb(xs:List C):(List C→Prop)→Prop:=
 List.rec (motive:=fun _=>(List C→Prop)→Prop) (fun k=>k []) (fun x _ b k=>sq x fun x=>b fun xs=>k (x::xs)) xs
theorem kQ:∀(xs:List C) (k:List C→Prop),nb xs k=k xs
 | [],k=>rfl
 | x::xs,k=>by
  show sq x (fun x=>nb xs fun xs=>k (x::xs))=_;rw [su,kQ xs]
def tW(v:V)(k:V→Prop):Prop:=match v with
 | .c x=>sq x fun x=>k (.c x)
 | .a xs=>nb xs fun xs=>k (.a xs)
 | v=>k v
theorem DR(v:V)(k:V→Prop):tW v k=k v:=by cases v<;>simp only [tW,su,kQ]
def zL(xs:List V):(List V→Prop)→Prop:=
 List.rec (motive:=fun _=>(List V→Prop)→Prop) (fun k=>k []) (fun x _ b k=>tW x fun x=>b fun xs=>k (x::xs)) xs
theorem vh:∀(xs:List V) (k:List V→Prop),zL xs k=k xs
 | [],k=>rfl
 | x::xs,k=>by
  show tW x (fun x=>zL xs fun xs=>k (x::xs))=_;rw [DR,vh xs]
def lW(v:V)(k:V→Prop):Prop:=match v with
 | .c x=>sq x fun x=>k (.c x)
 | .a xs=>nb xs fun xs=>k (.a xs)
 | .t b=>zL b fun b=>k (.t b)
 | .top=>k .top
theorem sy(v:V)(k:V→Prop):lW v k=k v:=by cases v<;>simp only [lW,su,kQ,vh]
def sA(x:bw)(k:bw→Prop):Prop:=match x with
 | .box cs fl=>nb cs fun cs=>cq fl fun fl=>k (.box cs fl)
 | .cf sz cs fl e st=>nb cs fun cs=>cq fl fun fl=>cq e fun e=>k (.cf sz cs fl e st)
 | .it s p=>cq p fun p=>k (.it s p)
 | x=>k x
theorem yj(x:bw)(k:bw→Prop):sA x k=k x:=by cases x<;>simp only [sA,ct,kQ]
def BI(p:P):T→(V→Prop)→Prop:=
 P.rec (motive:=fun _=>T→(V→Prop)→Prop)
  (fun t k=>T.rec (motive:=fun _=>Prop) (k .top) (fun _ v _ _ _=>k v) t)
  (fun _ b t k=>T.rec (motive:=fun _=>Prop) (k .top) (fun l _ _ _ _=>b l k) t)
  (fun _ b t k=>T.rec (motive:=fun _=>Prop) (k .top) (fun _ _ r _ _=>b r k) t) p
theorem nS:∀(p:P) (t:T) (k:V→Prop),BI p t k=k (t.get p)
 | .h,.e,k=>rfl| .h,.n _ _ _,k=>rfl| .o p,.e,k=>rfl| .o p,.n l _ _,k=>nS p l k| .i p,.e,k=>rfl| .i p,.n _ _ r,k=>nS p r k
def akO(p:P)(w:V):T→(T→Prop)→Prop:=
 P.rec (motive:=fun _=>T→(T→Prop)→Prop)
  (fun t k=>T.rec (motive:=fun _=>Prop) (k (.n .e w .e)) (fun l _ r _ _=>k (.n l w r)) t)
  (fun _ b t k=>T.rec (motive:=fun _=>Prop) (b .e fun l=>k (.n l .top .e)) (fun l v r _ _=>b l fun l=>k (.n l v r)) t)
  (fun _ b t k=>T.rec (motive:=fun _=>Prop) (b .e fun r=>k (.n .e .top r)) (fun l v r _ _=>b r fun r=>k (.n l v r)) t) p
theorem nZ(w:V):∀(p:P) (t:T) (k:T→Prop),akO p w t k=k (t.set p w)
 | .h,.e,k=>rfl| .h,.n _ _ _,k=>rfl| .o p,.e,k=>nZ w p .e _| .o p,.n l _ _,k=>nZ w p l _| .i p,.e,k=>nZ w p .e _| .i p,.n _ _ r,k=>nZ w p r _
def qw(x:Arg)(r:T)(k:V→Prop):Prop:=Arg.rec (motive:=fun _=>Prop) (fun p=>BI p r k) (fun v=>k v) x
theorem dz(x:Arg)(r:T)(k:V→Prop):qw x r k=k (x.ev r):=by cases x;exact nS _ _ _;rfl
def Bi(xs:List Arg)(r:T):(List V→Prop)→Prop:=
 List.rec (motive:=fun _=>(List V→Prop)→Prop) (fun k=>k []) (fun x _ b k=>qw x r fun v=>b fun d=>k (v::d)) xs
theorem qn(r:T):∀(xs:List Arg) (k:List V→Prop),Bi xs r k=k (dC r xs)
 | [],k=>rfl
 | x::xs,k=>by
  show qw x r (fun v=>Bi xs r fun b=>k (v::b))=_;rw [dz,qn r xs];rfl
def apH(d:Option P)(r:T)(v:V)(k:T→Prop):Prop:=Option.rec (motive:=fun _=>Prop) (k r) (fun d=>akO d v r k) d
theorem Gl(d:Option P)(r:T)(v:V)(k:T→Prop):apH d r v k=k (jS r d v):=by cases d;rfl;exact nZ _ _ _ _
def uf(ps:List P):List V→T→(T→Prop)→Prop:=
 List.rec (motive:=fun _=>List V→T→(T→Prop)→Prop) (fun _ r k=>k r)
  (fun p _ d b r k=>List.rec (motive:=fun _=>Prop) (k r) (fun v b _=>akO p v r fun r=>d b r k) b) ps
theorem pT:∀(ps:List P) (b:List V) (r:T) (k:T→Prop),uf ps b r k=k (cN ps b r)
 | [],b,r,k=>by cases b<;>rfl
 | p::ps,[],r,k=>rfl
 | p::ps,v::b,r,k=>by
  show akO p v r (fun r=>uf ps b r k)=_;rw [nZ,pT ps];rfl
def akE{b:Type}(n:Nat):List b→(b→Prop)→Prop:=
 Nat.rec (motive:=fun _=>List b→(b→Prop)→Prop) (fun xs k=>List.rec (motive:=fun _=>Prop) False (fun x _ _=>k x) xs)
  (fun _ d xs k=>List.rec (motive:=fun _=>Prop) False (fun _ xs _=>d xs k) xs) n
theorem ud{b:Type}:∀ {n:Nat} {xs:List b} {k:b→Prop},akE n xs k→∃ x,xs[n]?=aa x∧k x
 | 0,[],_,h=>h.elim| 0,x::_,_,h=>⟨x,rfl,h⟩| n+1,[],_,h=>h.elim| n+1,_::xs,k,h=>ud (n:=n) (xs:=xs) (k:=k) h
def uU{b:Type}(n:Nat):List b→(List b→Prop)→Prop:=
 Nat.rec (motive:=fun _=>List b→(List b→Prop)→Prop) (fun xs k=>k xs)
  (fun _ d xs k=>List.rec (motive:=fun _=>Prop) (k []) (fun _ xs _=>d xs k) xs) n
theorem mX{b:Type}:∀(n:Nat) (xs:List b) (k:List b→Prop),uU n xs k=k (xs.drop n)
 | 0,xs,k=>rfl| n+1,[],k=>rfl| n+1,_::xs,k=>mX n xs k
def sf{b:Type}(n:Nat):List b→(List b→Prop)→Prop:=
 Nat.rec (motive:=fun _=>List b→(List b→Prop)→Prop) (fun xs k=>k xs)
  (fun _ d xs k=>List.rec (motive:=fun _=>Prop) False (fun _ xs _=>d xs k) xs) n
theorem jE{b:Type}:∀ {n:Nat} {xs:List b} {k:List b→Prop},sf n xs k→n≤xs.length∧k (xs.drop n)
 | 0,xs,k,h=>⟨by simp,h⟩
 | n+1,[],k,h=>h.elim
 | n+1,x::xs,k,h=>by
  obtain⟨g,d⟩:=jE (n:=n) (xs:=xs) (k:=k) h;exact⟨by simp;omega,d⟩
def mG{b:Type}(n:Nat):List b→(List b→Prop)→Prop:=
 Nat.rec (motive:=fun _=>List b→(List b→Prop)→Prop) (fun _ k=>k [])
  (fun _ d xs k=>List.rec (motive:=fun _=>Prop) False (fun x xs _=>d xs fun ys=>k (x::ys)) xs) n
theorem fX{b:Type}:∀ {n:Nat} {xs:List b} {k:List b→Prop},mG n xs k→n≤xs.length∧k (xs.take n)
 | 0,xs,k,h=>⟨by simp,by have d:k []:=h;simpa using d⟩
 | n+1,[],k,h=>h.elim
 | n+1,x::xs,k,h=>by
  obtain⟨j,g⟩:=fX (n:=n) (xs:=xs) (k:=fun ys=>k (x::ys)) h;exact⟨by simp;omega,by simpa using g⟩
def asl{b:Type}(xs:List b):List b→(List b→Prop)→Prop:=
 List.rec (motive:=fun _=>List b→(List b→Prop)→Prop) (fun cs k=>k cs)
  (fun x _ d cs k=>List.rec (motive:=fun _=>Prop) False (fun _ cs _=>d cs fun ys=>k (x::ys)) cs) xs
theorem F9{b:Type}:∀ {xs cs:List b} {k:List b→Prop},asl xs cs k→xs.length≤cs.length∧k (xs++cs.drop xs.length)
 | [],cs,k,h=>⟨by simp,by have d:k cs:=h;simpa using d⟩
 | x::xs,[],k,h=>h.elim
 | x::xs,c::cs,k,h=>by
  obtain⟨j,g⟩:=F9 (xs:=xs) (cs:=cs) (k:=fun ys=>k (x::ys)) h;exact⟨by simp;omega,by simpa using g⟩
def vN{b:Type}(xs:List b)(off:Nat):List b→(List b→Prop)→Prop:=
 Nat.rec (motive:=fun _=>List b→(List b→Prop)→Prop) (fun cs k=>asl xs cs k)
  (fun _ d cs k=>List.rec (motive:=fun _=>Prop) False (fun c cs _=>d cs fun ys=>k (c::ys)) cs) off
theorem lu{d:Type}{xs:List d}:∀ {off:Nat} {cs:List d} {k:List d→Prop},vN xs off cs k→off+xs.length≤cs.length∧k (over cs off xs)
 | 0,cs,k,h=>by
  obtain⟨g,b⟩:=F9 (xs:=xs) (cs:=cs) (k:=k) h;exact⟨by omega,by simpa [over]using b⟩
 | n+1,[],k,h=>h.elim
 | n+1,c::cs,k,h=>by
  obtain⟨g,b⟩:=lu (off:=n) (cs:=cs) (k:=fun ys=>k (c::ys)) h;refine⟨by simp;omega,?_⟩;have:n+1+xs.length=(n+xs.length)+1:=by omega
  simpa [over,this]using b
def aoJ{b:Type}(xs ys:List b):(List b→Prop)→Prop:=
 List.rec (motive:=fun _=>(List b→Prop)→Prop) (fun k=>k ys) (fun x _ d k=>d fun zs=>k (x::zs)) xs
theorem zC{b:Type}(ys:List b):∀(xs:List b) (k:List b→Prop),aoJ xs ys k=k (xs++ys)
 | [],k=>rfl| x::xs,k=>zC ys xs fun zs=>k (x::zs)
def fzK(zs:List FC):(List C→Prop)→Prop:=
 List.rec (motive:=fun _=>(List C→Prop)→Prop) (fun k=>k []) (fun z _ b k=>b fun cs=>k (.f z::cs)) zs
theorem sB:∀(zs:List FC) (k:List C→Prop),fzK zs k=k (zs.map .f)
 | [],k=>rfl| z::zs,k=>sB zs fun cs=>k (.f z::cs)
def D6:Int→Int→Bool
 | .ofNat a,.ofNat b=>Nat.ble (Nat.succ a) b| .ofNat _,.negSucc _=>ag| .negSucc _,.ofNat _=>ae| .negSucc a,.negSucc b=>Nat.ble (Nat.succ b) a
theorem zW(x y:Int):D6 x y=decide (x<y):=by
 have e:∀ n:Nat,Int.ofNat n=(n:Int):=fun _=>rfl;cases x<;>cases y<;>simp only [D6]<;>rw [awf]<;>simp only [Nat.ble_eq,decide_eq_true_eq,avk,false_iff,true_iff,e,Nat.succ_eq_add_one]<;>omega
def eqB:Int→Int→Bool
 | .ofNat a,.ofNat b=>Nat.beq a b| .negSucc a,.negSucc b=>Nat.beq a b| _,_=>ag
theorem acZ(x y:Int):eqB x y=(x == y):=by
 have e:∀ n:Nat,Int.ofNat n=(n:Int):=fun _=>rfl;cases x<;>cases y<;>simp only [eqB]<;>rw [awf]<;>simp only [Nat.beq_eq,beq_iff_eq,avk,false_iff,e]<;>omega
def zf(j:IntKind)(n:Int)(k:Int→Prop):Prop:=match j with
 | .i64=>Int.rec (motive:=fun _=>Prop)
   (fun n=>cq n fun n=>Bool.rec (motive:=fun _=>Prop) (sw (IntKind.i64.wrap (.ofNat n)) k) (k (.ofNat n)) (Nat.ble n 9223372036854775807))
   (fun n=>cq n fun n=>Bool.rec (motive:=fun _=>Prop) (sw (IntKind.i64.wrap (.negSucc n)) k) (k (.negSucc n)) (Nat.ble n 9223372036854775807)) n
 | j=>sw (j.wrap n) k
theorem wrap64_in{n:Int}(g:-9223372036854775808≤n)(j:n≤9223372036854775807):IntKind.i64.wrap n=n:=by
 simp only [IntKind.wrap,IntKind.bits,IntKind.signed];have b:(2 ^ 64:Int)=18446744073709551616:=by decide
 have d:(2 ^ (64-1):Int)=9223372036854775808:=by decide
 simp only [b,d,av1,decide_eq_true_eq];split<;>omega
theorem rC(j:IntKind)(n:Int)(k:Int→Prop):zf j n k=k (j.wrap n):=by
 cases j<;>simp only [zf,yh];cases n with
 | ofNat n=>
  simp only [ct];cases h:Nat.ble n 9223372036854775807 with
  | false=>rfl
  | true=>
   have:=awJ h;have e:Int.ofNat n=(n:Int):=rfl;rw [wrap64_in (by rw [e];omega) (by rw [e];omega)]
 | negSucc n=>
  simp only [ct];cases h:Nat.ble n 9223372036854775807 with
  | false=>rfl
  | true=>
   have:=awJ h;rw [wrap64_in (by omega) (by omega)]
end
section
set_option linter.unusedVariables false
def iI(a b:Nat)(p:Prop):Prop:=Bool.rec (motive:=fun _=>Prop) False p (Nat.beq a b)
def tF(a b:Nat)(p:Prop):Prop:=Bool.rec (motive:=fun _=>Prop) False p (Nat.ble a b)
def oE(b:Bool)(p:Prop):Prop:=Bool.rec (motive:=fun _=>Prop) False p b
def qZ{b:Type}(o:Option b)(k:b→Prop):Prop:=Option.rec (motive:=fun _=>Prop) False k o
theorem df{a b:Nat}{p:Prop}(h:iI a b p):a=b∧p:=by
 unfold iI at h;cases e:Nat.beq a b with
 | false=>rw [e]at h;exact h.elim| true=>rw [e]at h;exact⟨awl e,h⟩
theorem iC{a b:Nat}{p:Prop}(h:tF a b p):a≤b∧p:=by
 unfold tF at h;cases e:Nat.ble a b with
 | false=>rw [e]at h;exact h.elim| true=>rw [e]at h;exact⟨awJ e,h⟩
theorem jL{b:Bool}{p:Prop}(h:oE b p):b=ae∧p:=by cases b;exact h.elim;exact⟨rfl,h⟩
theorem ju{b:Type}{o:Option b}{k:b→Prop}(h:qZ o k):∃ x,o=aa x∧k x:=by cases o;exact h.elim;exact⟨_,rfl,h⟩
def oJ(x:bw)(t:HT)(n:Nat)(k:HT→Nat→Prop):Prop:=zy x t n fun t=>cq (Nat.succ n) fun n=>k t n
theorem iO{H:aj}{t:HT}(h:cZ H t){x:bw}{k:HT→Nat→Prop}(j:oJ x t H.length k):∃ b,cZ (H++[x]) b∧k b (H++[x]).length:=by
 obtain⟨b,g,d⟩:=PT j;rw [ct]at d;exact⟨b,h.push g,by simpa using d⟩
theorem ei{H:aj}{t:HT}(h:cZ H t){b:Nat}{x:bw}{k:HT→Prop}(m:gM x t b k):∃ d,cZ (H.set b x) d∧k d:=by
 obtain⟨d,g,j,l⟩:=acz m;exact⟨d,h.set g j,l⟩
def aoM(e:A8)(t:HT)(n:Nat)(k:HT→Nat→Prop):Prop:=
 A8.rec (motive:=fun _=>Prop) (k t n) (fun b x=>sA x fun x=>gM x t b fun t=>k t n) (fun x=>sA x fun x=>oJ x t n k) e
theorem ajS{H:aj}{t:HT}(h:cZ H t){e:A8}{k:HT→Nat→Prop}(d:aoM e t H.length k):∃ g,cZ (e.app H) g∧k g (e.app H).length:=by
 cases e with
 | no=>exact⟨t,h,d⟩
 | set b x=>
  have d:sA x fun x=>gM x t b fun t=>k t H.length:=d;rw [yj]at d;obtain⟨g,j,l⟩:=ei h d;exact⟨g,j,by simpa [A8.app]using l⟩
 | push x=>
  have d:sA x fun x=>oJ x t H.length k:=d;rw [yj]at d;exact iO h d
def ar5(op:cW)(r:T)(t:HT)(n:Nat)(k:V→HT→Nat→Prop):Prop:=
 qZ (afb r t.get n op) fun r=>Prod.rec (motive:=fun _=>Prop) (fun v e=>lW v fun v=>aoM e t n (k v)) r
def OpS(op:cW)(r:T)(m:HT→Nat→(V→HT→Nat→Prop)→Prop):Prop:=
 ∀(H:aj) (t:HT) (k:V→HT→Nat→Prop),cZ H t→m t H.length k→∃ v H' b,bq r H op=aa (v,H')∧cZ H' b∧k v b H'.length
theorem aj5(op:cW)(r:T):OpS op r (ar5 op r):=by
 intro H t k h l;obtain⟨⟨v,e⟩,d,b⟩:=ju l;have b:lW v fun v=>aoM e t H.length (k v):=b;rw [sy]at b;obtain⟨m,g,j⟩:=ajS h b;refine⟨v,e.app H,m,?_,g,j⟩;rw [h]at d;rw [←Ax,d];rfl
def uO(v:V)(k:List C→Prop):Prop:=match v with
 | .c x=>k [x]| .a xs=>k xs| _=>False
theorem sb{v:V}{k:List C→Prop}(h:uO v k):∃ xs,v.cells?=aa xs∧k xs:=by
 cases v with
 | c x=>exact⟨_,rfl,h⟩| a xs=>exact⟨_,rfl,h⟩| _=>exact h.elim
def Gj(n:Option Nat)(off:Nat)(cs:List C)(k:V→Prop):Prop:=
 Option.rec (motive:=fun _=>Prop) (akE off cs fun c=>k (.c c)) (fun m=>uU off cs fun cs=>mG m cs fun cs=>k (.a cs)) n
theorem vR{n:Option Nat}{off:Nat}{cs:List C}{k:V→Prop}(h:Gj n off cs k):∃ v,aV n (cs.drop off)=aa v∧k v:=by
 cases n with
 | none=>
  obtain⟨c,b,d⟩:=ud h;refine⟨.c c,?_,d⟩;rw [←awL off,←avt]at b;cases e:cs.drop off with
  | nil=>rw [e]at b;simp at b| cons y ys=>rw [e]at b;simp at b;subst b;rfl
 | some m=>
  have h:uU off cs fun cs=>mG m cs fun cs=>k (.a cs):=h;rw [mX]at h;obtain⟨b,d⟩:=fX h;exact⟨_,bf b,d⟩
def ad4(n:Option Nat)(off:Nat)(cs:List FC)(k:V→Prop):Prop:=
 Option.rec (motive:=fun _=>Prop) (akE off cs fun c=>k (.c (.f c))) (fun m=>uU off cs fun cs=>mG m cs fun cs=>fzK cs fun cs=>k (.a cs)) n
theorem Q5{n:Option Nat}{off:Nat}{cs:List FC}{k:V→Prop}(h:ad4 n off cs k):∃ v,aV n ((cs.drop off).map .f)=aa v∧k v:=by
 cases n with
 | none=>
  obtain⟨c,b,d⟩:=ud h;refine⟨.c (.f c),?_,d⟩;rw [←awL off,←avt]at b;cases e:cs.drop off with
  | nil=>rw [e]at b;simp at b| cons y ys=>rw [e]at b;simp at b;subst b;rfl
 | some m=>
  have h:uU off cs fun cs=>mG m cs fun cs=>fzK cs fun cs=>k (.a cs):=h;rw [mX]at h;obtain⟨b,d⟩:=fX h;rw [sB]at d;refine⟨_,bf (by simpa using b),?_⟩;rw [←List.map_take];exact d
def ldK(t:HT)(n:Option Nat)(x:V)(k:V→Prop):Prop:=match x with
 | .c (.ptr b off ep)=>ie b t fun bp=>match bp with
  | .box cs _=>Gj n off cs k| .cf _ cs _ e .loc=>iI ep e (Gj n off cs k)| _=>False
 | .c (.f (.fp cs off))=>ad4 n off cs k| _=>False
theorem adv{H:aj}{t:HT}(h:cZ H t){n:Option Nat}{x:V}{k:V→Prop}(m:ldK t n x k):∃ v,aR H n x=aa v∧k v:=by
 unfold ldK at m;split at m
 ·rename_i b off ep;obtain⟨bp,g,d⟩:=dS m;rw [h]at g;have g:H[b]?=aa bp:=g;split at d
  ·obtain⟨v,j,l⟩:=vR d;exact⟨v,by simp [aR,aE,g,j],l⟩
  ·obtain⟨q,d⟩:=df d;obtain⟨v,j,l⟩:=vR d;exact⟨v,by simp [aR,aE,g,j,q],l⟩
  ·exact d.elim
 ·obtain⟨v,j,l⟩:=Q5 m;exact⟨v,by simp only [aR,aE,Option.bind_some,j],l⟩
 ·exact m.elim
def stK(t:HT)(x:C)(xs:List C)(k:HT→Prop):Prop:=match x with
 | .ptr b off ep=>ie b t fun bp=>match bp with
  | .box cs fl=>tF fl off (vN xs off cs fun cs=>gM (.box cs fl) t b k)
  | .cf sz cs fl e .loc=>iI ep e (tF fl off (vN xs off cs fun cs=>gM (.cf sz cs fl e .loc) t b k))
  | _=>False
 | _=>False
theorem apX{H:aj}{t:HT}(h:cZ H t){x:C}{xs:List C}{k:HT→Prop}(l:stK t x xs k):∃ H' g,cX H x xs=aa H'∧cZ H' g∧H'.length=H.length∧k g:=by
 unfold stK at l;split at l
 ·rename_i b off ep;obtain⟨bp,j,d⟩:=dS l;rw [h]at j;have j:H[b]?=aa bp:=j;split at d
  ·obtain⟨m,d⟩:=iC d;obtain⟨q,d⟩:=lu d;obtain⟨g,s,u⟩:=ei h d;exact⟨_,g,by simp [cX,j,m,q],s,by simp,u⟩
  ·obtain⟨h0,d⟩:=df d;obtain⟨m,d⟩:=iC d;obtain⟨q,d⟩:=lu d;obtain⟨g,s,u⟩:=ei h d;exact⟨_,g,by simp [cX,j,h0,m,q],s,by simp,u⟩
  ·exact d.elim
 ·exact l.elim
def mB(op:BinOp)(j:IntKind)(x y:Int)(k:V→Prop):Prop:=match op with
 | .add=>zf j (Int.add x y) fun n=>k (.c (.f (.int j n)))
 | .sub=>zf j (Int.sub x y) fun n=>k (.c (.f (.int j n)))
 | .mul=>zf j (Int.mul x y) fun n=>k (.c (.f (.int j n)))
 | .eql=>na (eqB x y) fun b=>k (.c (.f (.bool b)))
 | .neq=>na (!eqB x y) fun b=>k (.c (.f (.bool b)))
 | .lss=>na (D6 x y) fun b=>k (.c (.f (.bool b)))
 | .leq=>na (!D6 y x) fun b=>k (.c (.f (.bool b)))
 | .gtr=>na (D6 y x) fun b=>k (.c (.f (.bool b)))
 | .geq=>na (!D6 x y) fun b=>k (.c (.f (.bool b)))
 | op=>qZ (oi op j x y) fun v=>lW v k
theorem vH(x y:Int):(!decide (x<y))=decide (y≤x):=by
 rw [awf];simp
theorem acy{op:BinOp}{j:IntKind}{x y:Int}{k:V→Prop}(h:mB op j x y k):∃ v,oi op j x y=aa v∧k v:=by
 cases op
 case add=>simp only [mB,rC]at h;exact⟨_,rfl,h⟩
 case sub=>simp only [mB,rC]at h;exact⟨_,rfl,h⟩
 case mul=>simp only [mB,rC]at h;exact⟨_,rfl,h⟩
 case eql=>simp only [mB,im,acZ]at h;exact⟨_,rfl,h⟩
 case neq=>simp only [mB,im,acZ]at h;exact⟨_,rfl,h⟩
 case lss=>simp only [mB,im,zW]at h;exact⟨_,rfl,h⟩
 case leq=>simp only [mB,im,zW,vH]at h;exact⟨_,rfl,h⟩
 case gtr=>simp only [mB,im,zW]at h;exact⟨_,rfl,h⟩
 case geq=>simp only [mB,im,zW,vH]at h;exact⟨_,rfl,h⟩
 all_goals
  simp only [mB]at h;obtain⟨v,d,b⟩:=ju h;rw [sy]at b;exact⟨v,d,b⟩
def adn(j b:IntKind)(p:Prop):Prop:=match j,b with
 | .i64,.i64=>p| j,b=>oE (decide (j=b)) p
theorem ado{j b:IntKind}{p:Prop}(h:adn j b p):j=b∧p:=by
 unfold adn at h;split at h
 ·exact⟨rfl,h⟩
 ·obtain⟨d,g⟩:=jL h;exact⟨of_decide_eq_true d,g⟩
def aoC(op:BinOp)(x y:V)(k:V→Prop):Prop:=match x,y with
 | .c (.f (.int j a)),.c (.f (.int d b))=>match op with
  | .shl=>qZ (dq .shl x y) fun v=>lW v k
  | .shr=>qZ (dq .shr x y) fun v=>lW v k
  | op=>adn j d (mB op j a b k)
 | x,y=>qZ (dq op x y) fun v=>lW v k
theorem ajF{op:BinOp}{x y:V}{k:V→Prop}(h:aoC op x y k):∃ v,dq op x y=aa v∧k v:=by
 have gen:(qZ (dq op x y) fun v=>lW v k)→∃ v,dq op x y=aa v∧k v:=by
  intro h;obtain⟨v,g,d⟩:=ju h;rw [sy]at d;exact⟨v,g,d⟩
 unfold aoC at h;split at h
 ·rename_i j a s b;split at h
  ·exact gen h
  ·exact gen h
  ·rename_i g d;obtain⟨e,l⟩:=ado h;subst e;obtain⟨v,m,q⟩:=acy l;refine⟨v,?_,q⟩;cases op<;>first | exact absurd rfl g | exact absurd rfl d | (simp only [dq,if_true];exact m)
 ·exact gen h
def apm(v:V)(k:Nat→Prop):Prop:=match v with
 | .c (.f (.int _ (.ofNat m)))=>k m| _=>False
theorem akA{v:V}{k:Nat→Prop}(h:apm v k):∃ m,ir v=aa (Int.ofNat m)∧k m:=by
 unfold apm at h;split at h
 ·exact⟨_,rfl,h⟩
 ·exact h.elim
def adi(t:HT)(sz:Nat)(d:Option Nat)(x i:V)(k:V→Prop):Prop:=apm i fun m=>match d with
 | none=>match x with
  | .c (.sl b o l _ ep s)=>tF (Nat.succ m) l (ie b t fun bp=>match bp with
   | .box _ _=>cq (Nat.add o (Nat.mul m sz)) fun o=>k (.c (.ptr b o ep))
   | .cf s' _ _ e .loc=>iI ep e (iI s s' (cq (Nat.add o (Nat.mul m sz)) fun o=>k (.c (.ptr b o ep))))
   | _=>False)
  | .c (.f (.fs cs l))=>tF (Nat.succ m) l (cq (Nat.mul m sz) fun o=>k (.c (.f (.fp cs o))))
  | _=>False
 | some n=>match x with
  | .c (.ptr b o ep)=>tF (Nat.succ m) n (cq (Nat.add o (Nat.mul m sz)) fun o=>k (.c (.ptr b o ep)))
  | .c (.f (.fp cs o))=>tF (Nat.succ m) n (cq (Nat.add o (Nat.mul m sz)) fun o=>k (.c (.f (.fp cs o))))
  | _=>False
theorem Qz{H:aj}{t:HT}(h:cZ H t){sz:Nat}{y:Option Nat}{x i:V}{k:V→Prop}(d:adi t sz y x i k):∃ v,bH H sz y x i=aa v∧k v:=by
 obtain⟨m,hi,d⟩:=akA d;have h0:(0:Int)≤Int.ofNat m:=Int.natCast_nonneg m;have g:∀ l:Nat,Nat.succ m≤l→Int.ofNat m<(l:Int):=fun l E=>Int.ofNat_lt.2 E;have j:(Int.ofNat m).toNat=m:=rfl;simp only at d;split at d
 ·split at d
  ·rename_i b o l cap ep s _;obtain⟨u,d⟩:=iC d;obtain⟨bp,z,q⟩:=dS d;rw [h]at z;have z:H[b]?=aa bp:=z;split at q
   ·rw [ct]at q;exact⟨_,by simp only [bH,hi,bf h0,bf (g _ u),z,j];rfl,q⟩
   ·obtain⟨A,q⟩:=df q;obtain⟨B,q⟩:=df q;rw [ct]at q;exact⟨_,by simp only [bH,hi,bf h0,bf (g _ u),z,j,A,B,and_self,if_true];rfl,A▸q⟩
   ·exact q.elim
  ·obtain⟨u,d⟩:=iC d;rw [ct]at d;exact⟨_,by simp only [bH,hi,bf h0,bf (g _ u),j];rfl,d⟩
  ·exact d.elim
 ·split at d
  ·obtain⟨u,d⟩:=iC d;rw [ct]at d;exact⟨_,by simp only [bH,hi,bf h0,bf (g _ u),j];rfl,d⟩
  ·obtain⟨u,d⟩:=iC d;rw [ct]at d;exact⟨_,by simp only [bH,hi,bf h0,bf (g _ u),j];rfl,d⟩
  ·exact d.elim
def akq(t:HT)(x:V)(k:Nat→Prop):Prop:=match x with
 | .c (.sl b _ l _ ep sz)=>ie b t fun bp=>match bp with
  | .box _ _=>k l| .cf s _ _ e _=>iI ep e (iI sz s (k l))| _=>False
 | .c (.f .az)=>k 0| .c (.f .es)=>k 0| .c (.f (.fs _ l))=>k l| _=>False
theorem Ga{H:aj}{t:HT}(h:cZ H t){x:V}{k:Nat→Prop}(g:akq t x k):∃ y n,x=.c y∧bu H y=aa n∧k n:=by
 unfold akq at g;split at g
 ·rename_i b o l cap ep sz;obtain⟨bp,j,d⟩:=dS g;rw [h]at j;have j:H[b]?=aa bp:=j;split at d
  ·exact⟨_,l,rfl,by simp [bu,j],d⟩
  ·obtain⟨m,d⟩:=df d;obtain⟨q,d⟩:=df d;exact⟨_,l,rfl,by simp [bu,j,m,q],d⟩
  ·exact d.elim
 ·exact⟨_,0,rfl,rfl,g⟩
 ·exact⟨_,0,rfl,rfl,g⟩
 ·exact⟨_,_,rfl,rfl,g⟩
 ·exact g.elim
def Eu(r:T)(ps:List (Nat × Nat × Arg)):List C→(List C→Prop)→Prop:=
 List.rec (motive:=fun _=>List C→(List C→Prop)→Prop) (fun cs k=>k cs)
  (fun p _ b cs k=>Prod.rec (motive:=fun _=>Prop) (fun off q=>Prod.rec (motive:=fun _=>Prop) (fun n x=>qw x r fun v=>uO v fun xs=>iI xs.length n (vN xs off cs fun cs=>b cs k)) q) p) ps
theorem yQ(r:T):∀ {ps:List (Nat × Nat × Arg)} {cs:List C} {k:List C→Prop},Eu r ps cs k→∃ cs',dK r cs ps=aa cs'∧k cs'
 | [],cs,k,h=>⟨cs,rfl,h⟩
 | (off,n,x)::ps,cs,k,h=>by
  have h:qw x r fun v=>uO v fun xs=>iI xs.length n (vN xs off cs fun cs=>Eu r ps cs k):=h;rw [dz]at h;obtain⟨xs,b,h⟩:=sb h;obtain⟨d,h⟩:=df h;obtain⟨g,h⟩:=lu h;obtain⟨cs',j,l⟩:=yQ r h;exact⟨cs',by simp [dK,b,d,j]at g ⊢;omega,l⟩
def zu(t:HT)(sz:Nat)(y:V)(k:Nat→List C→Prop):Prop:=match y with
 | .c (.f .az)=>k 0 []| .c (.f .es)=>k 0 []| .c (.f (.fs cs l))=>iI cs.length (Nat.mul l sz) (fzK cs fun cs=>k l cs)
 | .c (.sl b o l _ ep s)=>ie b t fun bp=>match bp with
  | .box cs _=>sf o cs fun cs=>mG (Nat.mul l sz) cs fun cs=>k l cs
  | .cf s' cs _ e _=>iI ep e (iI s s' (iI s' sz (sf o cs fun cs=>mG (Nat.mul l sz) cs fun cs=>k l cs)))
  | _=>False
 | y=>qZ (qj t.get sz y) fun r=>Prod.rec (motive:=fun _=>Prop) (fun n cs=>nb cs fun cs=>k n cs) r
theorem xO{H:aj}{t:HT}(h:cZ H t){sz:Nat}{y:V}{k:Nat→List C→Prop}(j:zu t sz y k) :
  ∃ n cs,cU H sz y=aa (n,cs)∧k n cs:=by
 unfold zu at j;split at j
 ·exact⟨0,[],rfl,j⟩
 ·exact⟨0,[],rfl,j⟩
 ·rename_i cs l;obtain⟨m,j⟩:=df j;rw [sB]at j;have m:cs.length=l*sz:=m;exact⟨l,_,by simp only [cU,bu,cP,m,if_true],j⟩
 ·rename_i b o l cap ep s;obtain⟨bp,g,d⟩:=dS j;rw [h]at g;have g:H[b]?=aa bp:=g;split at d
  ·obtain⟨A,d⟩:=jE d;obtain⟨q,u⟩:=fX d;have q:l*sz≤_:=q;rw [avp]at q;refine⟨l,_,?_,u⟩;simp only [cU,bu,cP,g];rw [bf (by omega)];rfl
  ·obtain⟨q,d⟩:=df d;obtain⟨u,d⟩:=df d;obtain⟨x,d⟩:=df d;obtain⟨A,d⟩:=jE d;obtain⟨v,z⟩:=fX d;have v:l*sz≤_:=v;rw [avp]at v;subst q u x;refine⟨l,_,?_,z⟩;simp only [cU,bu,cP,g,and_self,if_true];rw [bf ⟨trivial,trivial,by omega⟩];rfl
  ·exact d.elim
 ·obtain⟨⟨n,cs⟩,m,g⟩:=ju j;have g:nb cs fun cs=>k n cs:=g;rw [kQ]at g;rw [h,oO]at m;exact⟨n,cs,m,g⟩
def CD(need bytes:Nat)(p:Prop):Prop:=tF (Nat.mul (Nat.add (Nat.mul 2 need) 768) bytes) 281474976710656 (tF (Nat.succ need) 281474976710656 p)
theorem rk{need bytes:Nat}{p:Prop}(h:CD need bytes p):bV need bytes=ae∧p:=by
 obtain⟨b,h⟩:=iC h;obtain⟨d,h⟩:=iC h;refine⟨?_,h⟩;have e:(2:Nat) ^ 48=281474976710656:=by decide
 simp only [bV,If,decide_eq_true_eq,e];exact⟨b,d⟩
def aoz(t:HT)(n:Nat)(sz bytes:Nat)(x y:V)(k:V→HT→Nat→Prop):Prop:=
 zu t sz y fun m ys=>Nat.rec (motive:=fun _=>Prop) False (fun _ _=>match x with
  | .c (.f .az)=>Nat.rec (motive:=fun _=>Prop) (k (.c (.f .az)) t n) (fun _ _=>CD m bytes (cq m fun m=>oJ (.cf sz ys 0 0 .loc) t n fun t g=>k (.c (.sl n 0 m 0 0 sz)) t g)) m
  | .c (.f .es)=>Nat.rec (motive:=fun _=>Prop) (k (.c (.f .es)) t n) (fun _ _=>CD m bytes (cq m fun m=>oJ (.cf sz ys 0 0 .loc) t n fun t g=>k (.c (.sl n 0 m 0 0 sz)) t g)) m
  | .c (.sl b o l cap ep s)=>ie b t fun bp=>match bp with
   | .box cs fl=>Bool.rec (motive:=fun _=>Prop)
     (cq (Nat.add l m) fun d=>CD d bytes (sf o cs fun cs=>mG (Nat.mul l sz) cs fun cs=>aoJ cs ys fun cs=>oJ (.cf sz cs 0 0 .loc) t n fun t g=>k (.c (.sl n 0 d 0 0 sz)) t g))
     (cq (Nat.add l m) fun d=>tF fl (Nat.add o (Nat.mul l sz)) (vN ys (Nat.add o (Nat.mul l sz)) cs fun cs=>gM (.box cs fl) t b fun t=>k (.c (.sl b o d cap ep s)) t n))
     (Nat.ble (Nat.add l m) cap)
   | .cf s' cs fl e st=>iI ep e (iI s' sz (iI s sz (Nat.rec (motive:=fun _=>Prop) (k x t n) (fun _ _=>
     cq (Nat.add l m) fun d=>Bool.rec (motive:=fun _=>Prop)
      (match st with
       | .loc=>tF fl (Nat.add o (Nat.mul l sz)) (vN ys (Nat.add o (Nat.mul l sz)) cs fun cs=>gM (.cf sz cs fl e .loc) t b fun t=>k (.c (.sl b o d 0 ep sz)) t n)
       | _=>False)
      (CD d bytes (cq (Nat.succ e) fun j=>aoJ cs ys fun cs=>gM (.cf sz cs fl j .loc) t b fun t=>k (.c (.sl b 0 d 0 j sz)) t n))
      (and (and (Nat.beq o 0) (Nat.beq (Nat.mul l sz) cs.length)) (Nat.ble fl cs.length))) m)))
   | _=>False
  | _=>False) sz
theorem Fu{H:aj}{t:HT}(h:cZ H t){sz bytes:Nat}{x y:V}{k:V→HT→Nat→Prop}(d:aoz t H.length sz bytes x y k) :
  ∃ v H' g,cH H sz bytes x y=aa (v,H')∧cZ H' g∧k v g H'.length:=by
 obtain⟨m,ys,N,d⟩:=xO h d;unfold cH;rw [N];cases sz with
 | zero=>exact d.elim
 | succ u=>
  simp only at d ⊢;rw [aY (by omega)];split at d
  ·cases m with
   | zero=>exact⟨_,H,t,rfl,h,d⟩
   | succ L=>
    simp only at d;obtain⟨J,d⟩:=rk d;rw [ct]at d;obtain⟨g,z,j⟩:=iO h d;exact⟨_,_,g,by simp only [Nat.add_one_ne_zero,if_false,J,if_true],z,j⟩
  ·cases m with
   | zero=>exact⟨_,H,t,rfl,h,d⟩
   | succ L=>
    simp only at d;obtain⟨J,d⟩:=rk d;rw [ct]at d;obtain⟨g,z,j⟩:=iO h d;exact⟨_,_,g,by simp only [Nat.add_one_ne_zero,if_false,J,if_true],z,j⟩
  ·rename_i b o l cap ep s _;obtain⟨bp,z,d⟩:=dS d;rw [h]at z;have z:H[b]?=aa bp:=z;simp only [z];split at d
   ·rename_i cs fl _;simp only;cases hc:Nat.ble (Nat.add l m) cap with
    | false=>
     rw [hc]at d;have B:¬ (l+m≤cap):=fun e=>by have:=Nat.ble_eq_true_of_le e;rw [show Nat.ble (Nat.add l m) cap=Nat.ble (l+m) cap from rfl,this]at hc;cases hc
     simp only [ct]at d;obtain⟨j,d⟩:=rk d;obtain⟨F,d⟩:=jE d;obtain⟨E,d⟩:=fX d;rw [zC]at d;obtain⟨g,q,A⟩:=iO h d;rw [avp]at E;have E:l*(u+1)≤_:=E;rw [aY B,bf ⟨j,by omega⟩];exact⟨_,_,g,rfl,q,A⟩
    | true=>
     rw [hc]at d;have B:l+m≤cap:=awJ hc;simp only [ct]at d;obtain⟨j,d⟩:=iC d;obtain⟨F,d⟩:=lu d;obtain⟨g,q,A⟩:=ei h d;rw [bf B,bf ⟨j,F⟩];exact⟨_,_,g,rfl,q,by simpa using A⟩
   ·rename_i s' cs fl e st _;simp only;obtain⟨j,d⟩:=df d;obtain⟨F,d⟩:=df d;obtain⟨E,d⟩:=df d;rw [bf ⟨j,F,E⟩];cases m with
    | zero=>rw [bf rfl];exact⟨_,H,t,rfl,h,d⟩
    | succ L=>
     rw [aY (by omega)];simp only [ct]at d;cases hc:and (and (Nat.beq o 0) (Nat.beq (Nat.mul l (u+1)) cs.length)) (Nat.ble fl cs.length)with
     | true=>
      rw [hc]at d;simp only [If]at hc;have c1:=awl hc.1.1;have c2:=awl hc.1.2;have I:=awJ hc.2;simp only at d;obtain⟨q,d⟩:=rk d;rw [zC]at d;obtain⟨g,A,K⟩:=ei h d;have q:bV (l+(L+1)) bytes=ae:=q;rw [bf ⟨c1,c2,I⟩,bf q];subst j;exact⟨_,_,g,rfl,A,by simpa using K⟩
     | false=>
      rw [hc]at d;have O:¬ (o=0∧l*(u+1)=cs.length∧fl≤cs.length):=by
       rintro⟨c1,c2,I⟩;rw [c1,show Nat.mul l (u+1)=cs.length from c2,Nat.ble_eq_true_of_le I]at hc;simp at hc
      rw [aY O];simp only at d;split at d
      ·obtain⟨q,d⟩:=iC d;obtain⟨A,d⟩:=lu d;obtain⟨g,K,M⟩:=ei h d;rw [bf ⟨rfl,q,A⟩];exact⟨_,_,g,rfl,K,by simpa using M⟩
      ·exact d.elim
   ·exact d.elim
  ·exact d.elim
end
section
set_option linter.unusedVariables false
abbrev fH:=Callee→List V→HT→Nat→(V→HT→Nat→Prop)→Prop
def qc(call:cR)(bA:fH):Prop:=
 ∀(c:Callee) (args:List V) (H:aj) (t:HT) (k:V→HT→Nat→Prop),cZ H t→bA c args t H.length k→∃ v H' b,call c args H=aa (v,H')∧cZ H' b∧k v b H'.length
def zG{d b:Type}(g:d→(b→Prop)→Prop)(xs:List d):(List b→Prop)→Prop:=
 List.rec (motive:=fun _=>(List b→Prop)→Prop) (fun k=>k []) (fun x _ j k=>g x fun y=>j fun ys=>k (y::ys)) xs
theorem jn{b d:Type}{g:b→(d→Prop)→Prop}{f:b→Option d}(j:∀ x k,g x k→∃ y,f x=aa y∧k y):∀ {xs:List b} {k:List d→Prop},zG g xs k→∃ ys,bj f xs=aa ys∧k ys
 | [],k,h=>⟨[],rfl,h⟩
 | x::xs,k,h=>by
  obtain⟨y,l,h⟩:=j x _ h;obtain⟨ys,m,q⟩:=jn j (xs:=xs) h;exact⟨y::ys,by simp [bj,l,m],q⟩
def exK(t:HT)(m:Nat):C→(FC→Prop)→Prop:=
 Nat.rec (motive:=fun _=>C→(FC→Prop)→Prop) (fun x k=>match x with
   | .f y=>k y
   | _=>False)
  (fun _ j x k=>match x with
   | .f y=>k y
   | .ptr b off _=>ie b t fun bp=>match bp with
    | .box cs _=>zG j cs fun d=>k (.fp d off)
    | _=>False
   | .sl b o l _ ep sz=>ie b t fun bp=>match bp with
    | .box cs _=>sf o cs fun cs=>mG (Nat.mul l sz) cs fun cs=>zG j cs fun d=>k (.fs d l)
    | .cf s cs _ e .loc=>iI ep e (iI sz s (sf o cs fun cs=>mG (Nat.mul l sz) cs fun cs=>zG j cs fun d=>k (.fs d l)))
    | .cf s cs _ e .nil=>iI ep e (iI sz s (k .az))| .cf s cs _ e .es=>iI ep e (iI sz s (k .es))| _=>False
   | .cl f g=>zG j g fun d=>k (.fn f d)
   | _=>False) m
theorem ac3{H:aj}{t:HT}(h:cZ H t):∀(m:Nat) (x:C) (k:FC→Prop),exK t m x k→∃ y,ey m H x=aa y∧k y:=by
 intro m;induction m with
 | zero=>
  intro x k q;cases x with
  | f y=>exact⟨y,rfl,q⟩| _=>exact q.elim
 | succ m E=>
  intro x k q;cases x with
  | f y=>exact⟨y,rfl,q⟩
  | ptr b off ep=>
   obtain⟨bp,g,d⟩:=dS q;rw [h]at g;have g:H[b]?=aa bp:=g;cases bp with
   | box cs fl=>
    obtain⟨z,j,u⟩:=jn E d;exact⟨_,by simp only [ey,g,j];rfl,u⟩
   | _=>exact d.elim
  | sl b o l cap ep sz=>
   obtain⟨bp,g,d⟩:=dS q;rw [h]at g;have g:H[b]?=aa bp:=g;cases bp with
   | box cs fl=>
    obtain⟨I,d⟩:=jE d;obtain⟨v,d⟩:=fX d;obtain⟨z,j,u⟩:=jn E d;rw [avp]at v;have v:l*sz≤_:=v;have j:bj (ey m H) ((cs.drop o).take (l*sz))=aa z:=j;exact⟨_,by simp only [ey,g];rw [bf (by omega),j];rfl,u⟩
   | cf s cs fl e st=>
    cases st with
    | loc=>
     obtain⟨A,d⟩:=df d;obtain⟨B,d⟩:=df d;obtain⟨I,d⟩:=jE d;obtain⟨v,d⟩:=fX d;obtain⟨z,j,u⟩:=jn E d;rw [avp]at v;have v:l*sz≤_:=v;have j:bj (ey m H) ((cs.drop o).take (l*sz))=aa z:=j;exact⟨_,by simp only [ey,g];rw [bf ⟨A,B,by omega⟩,j];rfl,u⟩
    | nil=>
     obtain⟨A,d⟩:=df d;obtain⟨B,d⟩:=df d;exact⟨_,by simp only [ey,g];rw [bf ⟨A,B⟩],d⟩
    | es=>
     obtain⟨A,d⟩:=df d;obtain⟨B,d⟩:=df d;exact⟨_,by simp only [ey,g];rw [bf ⟨A,B⟩],d⟩
   | _=>exact d.elim
  | cl f F=>
   obtain⟨z,j,u⟩:=jn E q;exact⟨_,by simp only [ey,j];rfl,u⟩
  | _=>exact q.elim
def FH(t:HT)(v:V)(k:V→Prop):Prop:=match v with
 | .c x=>exK t deep x fun y=>k (.c (.f y))
 | .a xs=>zG (exK t deep) xs fun ys=>fzK ys fun cs=>k (.a cs)
 | _=>False
theorem qx{H:aj}{t:HT}(h:cZ H t)(v:V)(k:V→Prop)(g:FH t v k):∃ y,cD deep H v=aa y∧k y:=by
 cases v with
 | c x=>
  obtain⟨y,d,b⟩:=ac3 h deep x _ g;exact⟨_,by simp only [cD,d];rfl,b⟩
 | a xs=>
  obtain⟨ys,d,b⟩:=jn (ac3 h deep) g;rw [sB]at b;exact⟨_,by simp only [cD,d];rfl,b⟩
 | _=>exact g.elim
def aoR(t:HT)(v:V)(k:V→Prop):Prop:=match v with
 | .t b=>zG (FH t) b fun b=>k (.t b)
 | v=>FH t v k
theorem FI{H:aj}{t:HT}(h:cZ H t)(v:V)(k:V→Prop)(b:aoR t v k):∃ y,iU deep H v=aa y∧k y:=by
 cases v with
 | t j=>
  obtain⟨ys,d,g⟩:=jn (qx h) b;exact⟨_,by simp only [iU,d];rfl,g⟩
 | c x=>exact qx h (.c x) k b| a xs=>exact qx h (.a xs) k b| top=>exact b.elim
def Eg{b:Type}(g:b→HT→(HT→Prop)→Prop)(xs:List b):HT→(HT→Prop)→Prop:=
 List.rec (motive:=fun _=>HT→(HT→Prop)→Prop) (fun t k=>k t) (fun x _ d t k=>g x t fun t=>d t k) xs
def MkS{b:Type}(g:b→HT→(HT→Prop)→Prop)(f:aj→b→aj):Prop:=∀(x:b) (H:aj) (t:HT) (k:HT→Prop),cZ H t→g x t k→∃ d,cZ (f H x) d∧k d
theorem mf{d:Type}{g:d→HT→(HT→Prop)→Prop}{f:aj→d→aj}(j:MkS g f):∀(xs:List d) (H:aj) (t:HT) (k:HT→Prop),cZ H t→Eg g xs t k→∃ l,cZ (xs.foldl f H) l∧k l
 | [],H,t,k,h,b=>⟨t,h,b⟩
 | x::xs,H,t,k,h,b=>by
  obtain⟨s,m,q⟩:=j x H t _ h b;exact mf j xs _ s k m q
def mkK(m:Nat):C→HT→(HT→Prop)→Prop:=
 Nat.rec (motive:=fun _=>C→HT→(HT→Prop)→Prop) (fun _ t k=>k t)
  (fun _ g x t k=>match x with
   | .f _=>k t
   | .ptr b _ _=>ie b t fun bp=>match bp with
    | .box cs fl=>cq (Nat.max fl cs.length) fun fl=>gM (.box cs fl) t b fun t=>Eg g cs t k
    | _=>k t
   | .sl b o l _ _ sz=>ie b t fun bp=>match bp with
    | .box cs fl=>cq (Nat.max fl (Nat.add o (Nat.mul l sz))) fun fl=>gM (.box cs fl) t b fun t=>uU o cs fun cs=>mG (Nat.mul l sz) cs fun cs=>Eg g cs t k
    | .cf s cs fl e st=>cq (Nat.max fl (Nat.add o (Nat.mul l sz))) fun fl=>gM (.cf s cs fl e st) t b fun t=>uU o cs fun cs=>mG (Nat.mul l sz) cs fun cs=>Eg g cs t k
    | _=>k t
   | .cl _ d=>Eg g d t k
   | _=>k t) m
theorem adM:∀(m:Nat),MkS (mkK m) (fun H x=>gF m x H):=by
 intro m;induction m with
 | zero=>intro x H t k h q;exact⟨t,by cases x<;>exact h,q⟩
 | succ m z=>
  intro x H t k h q;cases x with
  | f y=>exact⟨t,h,q⟩
  | ptr b off ep=>
   obtain⟨bp,d,g⟩:=dS q;rw [h]at d;have d:H[b]?=aa bp:=d;cases bp with
   | box cs fl=>
    change cq _ _ at g;rw [ct]at g;obtain⟨v,u,j⟩:=ei h g;simp only [gF,d];exact mf z cs _ v k u j
   | _=>simp only [gF,d];exact⟨t,h,g⟩
  | sl b o l cap ep sz=>
   obtain⟨bp,d,g⟩:=dS q;rw [h]at d;have d:H[b]?=aa bp:=d;cases bp with
   | box cs fl=>
    change cq _ _ at g;rw [ct]at g;obtain⟨v,u,j⟩:=ei h g;rw [mX]at j;obtain⟨_,j⟩:=fX j;simp only [gF,d];exact mf z _ _ v k u j
   | cf s cs fl e st=>
    change cq _ _ at g;rw [ct]at g;obtain⟨v,u,j⟩:=ei h g;rw [mX]at j;obtain⟨_,j⟩:=fX j;simp only [gF,d];exact mf z _ _ v k u j
   | _=>simp only [gF,d];exact⟨t,h,g⟩
  | cl f A=>
   simp only [gF];exact mf z _ _ t k h q
  | _=>exact⟨t,h,q⟩
def asq(v:V)(t:HT)(k:HT→Prop):Prop:=match v with
 | .c x=>mkK deep x t k| .a xs=>Eg (mkK deep) xs t k| _=>k t
theorem akz:MkS asq (mkV deep):=by
 intro v H t k h b;cases v with
 | c x=>exact adM deep x H t k h b| a xs=>exact mf (adM deep) xs H t k h b| _=>exact⟨t,h,b⟩
def aml(call:fH)(f:Nat)(d:List V)(t:HT)(n:Nat)(k:V→HT→Nat→Prop):Prop:=
 zG (FH t) d fun g=>call (.fn f) g .e 0 fun b j _=>aoR j b fun b=>Eg asq d t fun t=>k b t n
theorem ad6{call:cR}{bA:fH}(hc:qc call bA){f:Nat}{g:List V}{H:aj}{t:HT}{k:V→HT→Nat→Prop}(h:cZ H t)(b:aml bA f g t H.length k) :
  ∃ v H' d,ez call f g H=aa (v,H')∧cZ H' d∧k v d H'.length:=by
 obtain⟨l,m,b⟩:=jn (qx h) b;obtain⟨y,z,A,q,s,b⟩:=hc (.fn f) l [] .e _ cZ.nil b;obtain⟨j,u,b⟩:=FI s y _ b;obtain⟨d,x,b⟩:=mf akz g H t _ h b;refine⟨j,_,d,by simp only [ez,m,q,u],x,?_⟩;rw [←(nV deep g H).1];exact b
abbrev tM:=fH→T→List dQ→HT→Nat→(V→List dQ→HT→Nat→Prop)→Prop
def fN(op:cW):tM:=fun _ r d t n k=>ar5 op r t n fun v t n=>k v d t n
def aov(x:Arg):tM:=fun _ r d t n k=>qw x r fun v=>k v d t n
def aci(c a b:Arg):tM:=fun _ r d t n k=>qw c r fun v=>match v with
 | .c (.f (.bool v))=>Bool.rec (motive:=fun _=>Prop) (qw b r fun v=>k v d t n) (qw a r fun v=>k v d t n) v
 | _=>False
def Ds(zs:List FC):tM:=fun _ r d t n k=>fzK zs fun cs=>oJ (.box cs 0) t n fun t b=>k (.c (.ptr n 0 0)) d t b
def aor(x:Arg):tM:=fun _ r d t n k=>qw x r fun v=>uO v fun xs=>oJ (.box xs 0) t n fun t b=>k (.c (.ptr n 0 0)) d t b
def Dt(zs:List FC)(ps:List (Nat × Nat × Arg)):tM:=fun _ r d t n k=>fzK zs fun cs=>Eu r ps cs fun cs=>k (.a cs) d t n
def ach(m:Option Nat)(x:Arg):tM:=fun _ r d t n k=>qw x r fun v=>ldK t m v fun v=>k v d t n
def Dx(m:Nat)(x y:Arg):tM:=fun _ r d t n k=>qw x r fun v=>qw y r fun y=>uO y fun xs=>iI xs.length m (match v with
 | .c p=>stK t p xs fun t=>k .top d t n
 | _=>False)
def zt(x:Arg):tM:=fun _ r d t n k=>qw x r fun v=>match v with
 | .c (.ptr b o e)=>k (.c (.ptr b o e)) d t n| .c (.f (.fp cs o))=>k (.c (.f (.fp cs o))) d t n| _=>False
def aoq(op:BinOp)(x y:Arg):tM:=fun _ r d t n k=>qw x r fun x=>qw y r fun y=>aoC op x y fun v=>k v d t n
def aot(j:IntKind)(x:Arg):tM:=fun _ r d t n k=>qw x r fun v=>match v with
 | .c (.f (.int _ m))=>zf j m fun m=>k (.c (.f (.int j m))) d t n
 | _=>False
def zq(off:Nat)(x:Arg):tM:=fun _ r d t n k=>qw x r fun v=>match v with
 | .c (.ptr b o e)=>cq (Nat.add o off) fun o=>k (.c (.ptr b o e)) d t n
 | .c (.f (.fp cs o))=>cq (Nat.add o off) fun o=>k (.c (.f (.fp cs o))) d t n
 | _=>False
def Dw(off:Nat)(m:Option Nat)(x:Arg):tM:=fun _ r d t n k=>qw x r fun v=>match v with
 | .a xs=>Gj m off xs fun v=>k v d t n
 | _=>False
def zr(sz:Nat)(b:Option Nat)(x i:Arg):tM:=fun _ r d t n k=>qw x r fun x=>qw i r fun i=>adi t sz b x i fun v=>k v d t n
def uG(x:Arg)(i:Nat):tM:=fun _ r d t n k=>qw x r fun v=>match v with
 | .t b=>akE i b fun v=>k v d t n
 | _=>False
def acg(f:Nat)(args:List Arg)(h:Bool):tM:=fun call r d t n k=>Bi args r fun b=>
 Bool.rec (motive:=fun _=>Prop) (aml call f b t n fun v t n=>k v d t n) (call (.fn f) b t n fun v t n=>k v d t n) h
def Du(x:Arg)(args:List Arg)(_:Bool):tM:=fun call r d t n k=>qw x r fun x=>Bi args r fun b=>
 qZ (bX x b) fun g=>Prod.rec (motive:=fun _=>Prop) (fun c b=>call c b t n fun v t n=>k v d t n) g
def al3(m:Nat):tM:=fun _ r d t n k=>k (.c (.f (.int .i64 (.ofNat m)))) d t n
def aou(x:Arg):tM:=fun _ r d t n k=>qw x r fun v=>akq t v fun m=>k (.c (.f (.int .i64 (.ofNat m)))) d t n
def zp(sz bytes:Nat)(x y:Arg):tM:=fun _ r d t n k=>qw x r fun x=>qw y r fun y=>aoz t n sz bytes x y fun v t n=>k v d t n
def A_:tM:=fun _ r d t n k=>k (.c (.f .mN)) d t n
def Dv(x:Arg)(args:List Arg):tM:=fun _ r d t n k=>qw x r fun x=>Bi args r fun b=>
 qZ (bX x b) fun g=>Prod.rec (motive:=fun _=>Prop) (fun c b=>Callee.rec (motive:=fun _=>Prop) (fun f=>k .top (.fn f b::d) t n) (fun _=>False) c) g
def asu(op:cW):tM:=
 cW.rec (motive:=fun _=>tM)
  aov (fun o s=>fN (.pre o s)) aci Ds aor Dt (fun a b c e=>fN (.bK a b c e)) ach Dx zt aoq
  (fun a b c e=>fN (.eq a b c e)) (fun a b=>fN (.un a b)) aot (fun a=>fN (.wU a)) (fun a=>fN (.wT a)) (fun a=>fN (.DK a)) (fun a b=>fN (.fR a b)) (fN .jQ)
  (fun a b c e=>fN (.lookup a b c e)) (fun a b c e=>fN (.jg a b c e)) (fun a b c e f=>fN (.dX a b c e f)) (fun a b c e f=>fN (.slice a b c e f)) (fun a b c e f g=>fN (.nB a b c e f g)) (fun a b c=>fN (.oK a b c))
  zq Dw zr (fun a b=>fN (.idxs a b)) (fun a b c e f=>fN (.wW a b c e f)) (fun a=>fN (.range a)) (fun a=>fN (.next a)) uG acg Du aou al3 (fun a=>fN (.lens a)) (fun a=>fN (.cap a))
  zp (fun a b c=>fN (.copy a b c)) (fun a b=>fN (.gQ a b)) (fun a b c e f=>fN (.lO a b c e f)) (fun a b c=>fN (.clear a b c)) (fun a=>fN (.kE a)) (fun a=>fN (.oI a)) (fun a=>fN (.entry a)) (fun a b=>fN (.nq a b)) (fun a b c e=>fN (.wg a b c e)) (fun a b c e=>fN (.fP a b c e)) A_ Dv (fN .bad) op
theorem akF{call:cR}{bA:fH}(hc:qc call bA)(op:cW){r:T}{d:List dQ}{H:aj}{t:HT}{k:V→List dQ→HT→Nat→Prop}(h:cZ H t)(g:asu op bA r d t H.length k) :
  ∃ v A H' q,eU call ⟨r,d,H⟩ op=aa (v,⟨r,A,H'⟩)∧cZ H' q∧k v A q H'.length:=by
 have go:∀ {v H' q},eU call ⟨r,d,H⟩ op=(bq r H op).map (fun r'=>(r'.1,⟨r,d,r'.2⟩))→bq r H op=aa (v,H')→cZ H' q→k v d q H'.length →
   ∃ v A H' q,eU call ⟨r,d,H⟩ op=aa (v,⟨r,A,H'⟩)∧cZ H' q∧k v A q H'.length:=
  fun s u l B=>⟨_,d,_,_,by rw [s,u];rfl,l,B⟩
 have gen:eU call ⟨r,d,H⟩ op=(bq r H op).map (fun r'=>(r'.1,⟨r,d,r'.2⟩))→fN op bA r d t H.length k →
   ∃ v A H' q,eU call ⟨r,d,H⟩ op=aa (v,⟨r,A,H'⟩)∧cZ H' q∧k v A q H'.length:=fun s u=>by
  obtain⟨v,H',q,l,B,I⟩:=aj5 op r H t _ h u;exact go s l B I
 cases op
 case aZ x=>
  have g:aov x bA r d t H.length k:=g;unfold aov at g;rw [dz]at g;exact go rfl rfl h g
 case pick c a b=>
  have g:aci c a b bA r d t H.length k:=g;unfold aci at g;rw [dz]at g;split at g
  ·rename_i v z;cases v with
   | true=>
    simp only [dz]at g;exact go rfl (by simp only [bq,z];rfl) h g
   | false=>
    simp only [dz]at g;exact go rfl (by simp only [bq,z];rfl) h g
  ·exact g.elim
 case alloc zs=>
  have g:Ds zs bA r d t H.length k:=g;unfold Ds at g;rw [sB]at g;obtain⟨q,s,u⟩:=iO h g;exact go rfl rfl s u
 case box x=>
  have g:aor x bA r d t H.length k:=g;unfold aor at g;rw [dz]at g;obtain⟨xs,l,g⟩:=sb g;obtain⟨q,s,u⟩:=iO h g;exact go rfl (by simp only [bq,l]) s u
 case build zs ps=>
  have g:Dt zs ps bA r d t H.length k:=g;unfold Dt at g;rw [sB]at g;obtain⟨cs,l,g⟩:=yQ r g;exact go rfl (by simp only [bq,l];rfl) h g
 case load m x=>
  have g:ach m x bA r d t H.length k:=g;unfold ach at g;rw [dz]at g;obtain⟨v,l,g⟩:=adv h g;exact go rfl (by simp only [bq,l];rfl) h g
 case store m x y=>
  have g:Dx m x y bA r d t H.length k:=g;unfold Dx at g;rw [dz,dz]at g;obtain⟨xs,l,g⟩:=sb g;obtain⟨B,g⟩:=df g;split at g
  ·rename_i p M;obtain⟨H',q,I,K,L,g⟩:=apX h g;exact go rfl (by simp only [bq,M,l,B,if_true,I];rfl) K (by rw [L];exact g)
  ·exact g.elim
 case bR x=>
  have g:zt x bA r d t H.length k:=g;unfold zt at g;rw [dz]at g;split at g
  ·rename_i z;exact go rfl (by simp only [bq,z]) h g
  ·rename_i z;exact go rfl (by simp only [bq,z]) h g
  ·exact g.elim
 case bin op x y=>
  have g:aoq op x y bA r d t H.length k:=g;unfold aoq at g;rw [dz,dz]at g;obtain⟨v,l,g⟩:=ajF g;exact go rfl (by simp only [bq,l];rfl) h g
 case fT j x=>
  have g:aot j x bA r d t H.length k:=g;unfold aot at g;rw [dz]at g;split at g
  ·rename_i z;simp only [rC]at g;exact go rfl (by simp only [bq,z];rfl) h g
  ·exact g.elim
 case aO off x=>
  have g:zq off x bA r d t H.length k:=g;unfold zq at g;rw [dz]at g;split at g
  ·rename_i z;rw [ct]at g;exact go rfl (by simp only [bq,z,jq];rfl) h g
  ·rename_i z;rw [ct]at g;exact go rfl (by simp only [bq,z,jq];rfl) h g
  ·exact g.elim
 case field off m x=>
  have g:Dw off m x bA r d t H.length k:=g;unfold Dw at g;rw [dz]at g;split at g
  ·rename_i z;obtain⟨v,l,g⟩:=vR g;exact go rfl (by simp only [bq,z,iX,l];rfl) h g
  ·exact g.elim
 case bE sz F x i=>
  have g:zr sz F x i bA r d t H.length k:=g;unfold zr at g;rw [dz,dz]at g;obtain⟨v,l,g⟩:=Qz h g;exact go rfl (by simp only [bq,l];rfl) h g
 case extract x i=>
  have g:uG x i bA r d t H.length k:=g;unfold uG at g;rw [dz]at g;split at g
  ·rename_i z;obtain⟨v,l,g⟩:=ud g;exact go rfl (by simp only [bq,z,l];rfl) h g
  ·exact g.elim
 case call f args E=>
  have g:acg f args E bA r d t H.length k:=g;unfold acg at g;rw [qn]at g;cases E with
  | false=>
   obtain⟨v,H',q,s,u,l⟩:=ad6 hc h g;exact⟨v,d,H',q,by simp only [eU,gT,avk,if_false,s];rfl,u,l⟩
  | true=>
   obtain⟨v,H',q,s,u,l⟩:=hc _ _ H t _ h g;exact⟨v,d,H',q,by simp only [eU,gT,if_true,s];rfl,u,l⟩
 case cj x args E=>
  have g:Du x args E bA r d t H.length k:=g;unfold Du at g;rw [dz,qn]at g;obtain⟨⟨c,J⟩,s,g⟩:=ju g;obtain⟨v,H',q,u,l,B⟩:=hc c J H t _ h g;exact⟨v,d,H',q,by simp only [eU,s,u];rfl,l,B⟩
 case len x=>
  have g:aou x bA r d t H.length k:=g;unfold aou at g;rw [dz]at g;obtain⟨y,m,s,u,g⟩:=Ga h g;exact go rfl (by simp only [bq,s,u];rfl) h g
 case ou m=>
  have g:al3 m bA r d t H.length k:=g;exact go rfl rfl h g
 case append sz bytes x y=>
  have g:zp sz bytes x y bA r d t H.length k:=g;unfold zp at g;rw [dz,dz]at g;obtain⟨v,H',q,s,u,l⟩:=Fu h g;exact go rfl (by simp only [bq,s]) u l
 case recover=>
  have g:A_ bA r d t H.length k:=g;exact⟨_,d,H,t,rfl,h,g⟩
 case defer x args=>
  have g:Dv x args bA r d t H.length k:=g;unfold Dv at g;rw [dz,qn]at g;obtain⟨⟨c,J⟩,s,g⟩:=ju g;cases c with
  | fn f=>exact⟨_,.fn f J::d,H,t,by simp only [eU,s],h,g⟩
  | yield b=>exact g.elim
 all_goals exact gen rfl g
end
section
set_option linter.unusedVariables false
def An(H:aj):C→Int→C→Option (V × aj)
 | .sl b o l _ ep s,i,.sl vb g 1 _ _ _=>match H[b]?,H[vb]? with
  | some (.cf s' cs fl e .loc),aa (.box d _)=>
   if o=0∧g=0∧ep=e∧s=10∧s'=10∧cs.length=l*10∧fl=0∧0≤i∧i<l∧l≤1000000∧d.length=10 then
    aa (.c (.sl b 0 (l+1) 0 (e+1) 10),H.set b (.cf 10 (cs.take (i.toNat*10)++d++cs.drop (i.toNat*10)) 0 (e+1) .loc))
   else ab
  | _,_=>ab
 | _,_,_=>ab
def QB(args:List V)(H:aj):Option (V × aj):=
 match args with
 | [.c x,.c (.f (.int .i64 i)),.c y]=>match bu H x,cU H 10 (.c y)with
  | some n,aa (1,_)=>if i=n then cH H 10 112 (.c x) (.c y)else An H x i y| _,_=>ab
 | _=>ab
def tt(f:Nat)(args:List V)(H:aj):Option (Option (V × aj)):=if f=fv then aa (QB args H)else ab
end
section
set_option linter.unusedVariables false
def akd(args:List V)(t:HT)(n:Nat)(k:V→HT→Nat→Prop):Prop:=match args with
 | [.c x,.c (.f (.int .i64 (.ofNat i))),.c y]=>akq t (.c x) fun l=>oE (Nat.beq i l) (zu t 10 (.c y) fun m _=>oE (Nat.beq m 1) (aoz t n 10 112 (.c x) (.c y) k))
 | _=>False
theorem ake{H:aj}{t:HT}(h:cZ H t){args:List V}{k:V→HT→Nat→Prop}(g:akd args t H.length k):∃ v H' q,tt fv args H=aa (aa (v,H'))∧cZ H' q∧k v q H'.length:=by
 unfold akd at g;split at g
 ·rename_i x i y;obtain⟨F,l,e,E,j⟩:=Ga h g;cases e;obtain⟨s,b⟩:=jL j;have s:=awl s;subst s;clear g j;obtain⟨m,ys,B,u⟩:=xO h b;clear b;obtain⟨d,b⟩:=jL u;have d:=awl d;subst d;obtain⟨v,H',q,z,d,A⟩:=Fu h b;exact⟨v,H',q,by simp [tt,QB,E,B,z],d,A⟩
 ·exact g.elim
end
section
def zn(c1 c2:cR):Prop:=∀ c args H r,c1 c args H=aa r→c2 c args H=aa r
section
variable{c1 c2:cR}(hc:zn c1 c2)
include hc
theorem xi{c:Nat}{args:List V}{H:aj}{r:V × aj}(h:ez c1 c args H=aa r):ez c2 c args H=aa r:=by
 unfold ez at h ⊢;split at h
 ·simp at h
 ·rename_i g b;split at h
  ·simp at h
  ·rename_i j d h0;simp only [hc _ _ _ _ h0];exact h
theorem Ac{b:Bool}{c:Nat}{args:List V}{H:aj}{r:V × aj}(h:gT c1 b c args H=aa r):gT c2 b c args H=aa r:=by
 unfold gT at h ⊢;split at h
 ·rename_i d;simp only [d,if_true];exact hc _ _ _ _ h
 ·rename_i d;simp only [d];exact xi hc h
theorem zg{s:St}{op:cW}{r:V × St}(h:eU c1 s op=aa r):eU c2 s op=aa r:=by
 cases op with
 | call f args b=>
  simp only [eU,IT]at h ⊢;obtain⟨a,d,rfl⟩:=h;exact⟨a,Ac hc d,rfl⟩
 | cj x args b=>
  simp only [eU]at h ⊢;split at h
  ·simp only [IT]at h ⊢;obtain⟨a,d,rfl⟩:=h;exact⟨a,hc _ _ _ _ d,rfl⟩
  ·simp at h
 | _=>exact h
theorem wK{s s':St}{o:aS}(h:fL c1 s o=aa s'):fL c2 s o=aa s':=by
 unfold fL at h ⊢;cases g:wanted s.aD o.g with
 | none=>simp [g]at h
 | some b=>
  cases b with
  | false=>simpa [g]using h
  | true=>
   simp only [g]at h ⊢;cases d:eU c1 s o.op with
   | none=>simp [d]at h
   | some x=>
    obtain⟨v,j⟩:=x;rw [zg hc d];rw [d]at h;exact h
theorem dP:∀(os:List aS) (s:St) {s':St},fG c1 os s=aa s'→fG c2 os s=aa s'
 | [],s,s',h=>h
 | o::os,s,s',h=>by
  simp only [fG]at h ⊢;split at h
  ·rename_i d b;simp only [wK hc b];exact dP os d h
  ·simp at h
theorem rD:∀(os:List aS) (s:St) {ss:List St},eb c1 os s=aa ss→eb c2 os s=aa ss
 | [],s,ss,h=>h
 | o::os,s,ss,h=>by
  simp only [eb]at h ⊢;split at h
  ·rename_i g b;simp only [wK hc b];split at h
   ·rename_i j d;simp only [rD os g d];exact h
   ·simp at h
  ·simp at h
theorem Ay{ops:List aS}{iD:List (Nat × Nat)}{s s':St}(h:gk c1 ops iD s=aa s'):gk c2 ops iD s=aa s':=by
 unfold gk at h ⊢;split at h
 ·exact dP hc _ _ h
 ·split at h
  ·rename_i ss b;simp only [rD hc _ _ b];exact h
  ·simp at h
theorem ru{fn:Nat}:∀(n x:Nat) (ro:Option Nat) (j:List da) (s:St) {r:Option aG × St},n≤x →
  run c1 fn n ro j s=aa r→run c2 fn x ro j s=aa r
 | 0,_,_,_,_,_,_,h=>by simp [run]at h
 | n+1,0,_,_,_,_,E,_=>by omega
 | n+1,x+1,ro,j,s,r,E,h=>by
  have m:=fun ro j s r h=>ru (fn:=fn) n x ro j s (r:=r) (by omega) h
  match j,h with
  | [],h=>exact h| .inBlock _::k,h=>exact m _ _ _ _ h| .inLoop c::k,h=>exact m _ _ _ _ h
  | .je b::k,h=>
   simp only [run]at h ⊢;split at h
   ·rename_i f tmps ps as bd st pending d z
    try simp only [z]
    split at h
    ·simp at h
    ·rename_i A
     try simp only [A,if_false]
     split at h
     ·exact m _ _ _ _ h
     ·exact m _ _ _ _ h
     ·exact m _ _ _ _ h
     ·simp at h
   ·simp at h
  | .mT::k,h=>
   simp only [run]at h ⊢;split at h
   ·simp at h
   ·rename_i b;split at h
    ·rename_i z
     try simp only [z]
     exact m _ _ _ _ h
    ·simp at h
  | .code .skip::k,h=>exact m _ _ _ _ h| .inScope _::k,h=>exact m _ _ _ _ h| .code (.label _)::k,h=>exact m _ _ _ _ h| .code (.scope a)::k,h=>exact m _ _ _ _ h
  | .code (.goto l)::k,h=>
   simp only [run]at h ⊢;split at h
   ·rename_i u;(try simp only [u]);exact m _ _ _ _ h
   ·simp at h
  | .code .bad::_,h=>simp [run]at h| .code .ret::_,h=>exact h
  | .code (.exit id)::k,h=>
   simp only [run]at h ⊢;split at h
   ·rename_i u;(try simp only [u]);exact m _ _ _ _ h
   ·rename_i u;(try simp only [u]);exact h
  | .code (.seq a b)::k,h=>exact m _ _ _ _ h| .code (.block id a)::k,h=>exact m _ _ _ _ h| .code (.loop a)::k,h=>exact m _ _ _ _ h
  | .code (.cond c a b)::k,h=>
   simp only [run]at h ⊢;split at h
   ·rename_i v F;(try simp only [F]);exact m _ _ _ _ h
   ·simp at h
  | .code (.region ops iD)::k,h=>
   simp only [run]at h ⊢;split at h
   ·simp at h
   ·rename_i q
    try simp only [q]
    split at h
    ·rename_i I y
     try simp only [Ay hc y]
     exact m _ _ _ _ h
    ·simp at h
  | .code (.fo f ps as bd)::k,h=>
   simp only [run]at h ⊢;split at h
   ·simp at h
   ·rename_i q
    try simp only [q]
    split at h
    ·rename_i g args B
     try simp only [B]
     split at h
     ·rename_i v H y
      try simp only [hc _ _ _ _ y]
      exact m _ _ _ _ h
     ·simp at h
    ·simp at h
theorem jy:∀(ds:List dQ) (H:aj) {H':aj},dL c1 ds H=aa H'→dL c2 ds H=aa H'
 | [],H,H',h=>h
 | .gZ b::ds,H,H',h=>by
  simp only [dL]at h ⊢;split at h
  ·rename_i l;exact jy ds _ h
  ·simp at h
 | .fn f args::ds,H,H',h=>by
  simp only [dL]at h ⊢;split at h
  ·simp at h
  rename_i d;rw [aY d];split at h
  ·rename_i v j g
   try simp only [hc _ _ _ _ g]
   exact jy ds _ h
  ·simp at h
end
variable{tab:Nat→Option aL}{oy:Nat→List V→aj→Option (Option (V × aj))}
theorem uL{m l:Nat}(v:m≤l):∀(d g:Nat),d≤g→zn (eG tab oy m d) (eG tab oy l g)
 | 0,_,_,_,_,_,_,h=>by simp [eG]at h
 | d+1,0,E,_,_,_,_,_=>by omega
 | d+1,g+1,E,c,args,H,r,h=>by
  have z:zn (eG tab oy m d) (eG tab oy l g):=uL v d g (by omega)
  match c,h with
  | .fn f,h=>
   simp only [eG]at h ⊢;split at h
   ·rename_i r' x;(try simp only [x]);exact h
   ·rename_i x
    try simp only [x]
    split at h
    ·simp at h
    ·rename_i af q
     try simp only [q]
     split at h
     ·rename_i u
      try simp only [u,if_true]
      split at h
      ·rename_i j s y
       try simp only [ru z m l _ _ _ v y]
       split at h
       ·rename_i F A
        try simp only [jy z _ _ A]
        exact h
       ·simp at h
      ·simp at h
     ·simp at h
  | .yield b,h=>
   simp only [eG]at h ⊢;split at h
   ·rename_i f tmps ps as bd I J K B
    try simp only [B]
    split at h
    ·rename_i u
     try simp only [u,if_true]
     split at h
     ·rename_i j s y
      try simp only [ru z m l _ _ _ v y]
      exact h
     ·simp at h
    ·simp at h
   ·simp at h
end
structure TB where
 get:Nat→Option aL
 tt:Nat→List V→aj→Option (Option (V × aj))
 ok:∀ f a,get f=aa a→∀ args H,tt f args H=ab
instance:CoeFun TB fun _=>Nat→Option aL:=⟨TB.get⟩
section
variable(tab:TB)
abbrev CF(m d:Nat):cR:=eG tab.get tab.tt m d
def Ev(c:Callee)(args:List V)(H:aj)(r:V)(H':aj):Prop:=∃ m d,CF tab m d c args H=aa (r,H')
def bg(f:Nat)(args:List V)(r:V):Prop:=∃ b H',Ev tab (.fn f) args [] b H'∧iU deep H' b=aa r
def WP(fn:Nat)(ro:Option Nat)(b:List da)(s:St)(Q:Option aG→St→Prop):Prop:=
 ∃ n m d j s',run (CF tab m d) fn n ro b s=aa (j,s')∧Q j s'
def jX(s:St)(op:cW)(K:V→St→Prop):Prop:=
 match op with
 | .call f args h=>
  if h then ∃ r H',Ev tab (.fn f) (dC s.aD args) s.heap r H'∧K r { s with heap:=H' }
  else ∃ b r,bj (cD deep s.heap) (dC s.aD args)=aa b∧bg tab f b r∧K r { s with heap:=(dC s.aD args).foldl (mkV deep) s.heap }
 | .cj x args _=>∃ c as r H',bX (x.ev s.aD) (dC s.aD args)=aa (c,as)∧Ev tab c as s.heap r H'∧K r { s with heap:=H' }
 | .recover=>K (.c (.f .mN)) s| .defer x args=>∃ f as,bX (x.ev s.aD) (dC s.aD args)=aa (.fn f,as)∧K .top { s with defs:=.fn f as::s.defs }
 | op=>∃ v H',bq s.aD s.heap op=aa (v,H')∧K v { s with heap:=H' }
def wP:List aS→St→(St→Prop)→Prop
 | [],s,K=>K s
 | o::os,s,K=>match wanted s.aD o.g with
  | some ae=>jX tab s o.op fun v s'=>wP os { s' with aD:=jS s'.aD o.dst v } K
  | some ag=>wP os { s with aD:=jS s.aD o.dst (.t []) } K
  | none=>False
variable{tab}
variable{c:Callee}{args:List V}{H H':aj}{r:V}
theorem kg{m g d b:Nat}(l:m≤g)(j:d≤b):zn (CF tab m d) (CF tab g b):=uL l d b j
theorem Ev.det{q:V}{b:aj}(h1:Ev tab c args H r H')(h2:Ev tab c args H q b):r=q∧H'=b:=by
 obtain⟨m,d,h1⟩:=h1;obtain⟨l,g,h2⟩:=h2;have s:=kg (tab:=tab) (avN m l) (avN d g) _ _ _ _ h1;have j:=kg (tab:=tab) (avC m l) (avC d g) _ _ _ _ h2;rw [s]at j;simpa using j
theorem bg.det{f:Nat}{d:V}(h1:bg tab f args r)(h2:bg tab f args d):r=d:=by
 obtain⟨a,l,g,h1⟩:=h1;obtain⟨b,m,j,h2⟩:=h2;obtain⟨rfl,rfl⟩:=g.det j;rw [h1]at h2;simpa using h2
theorem PI{s:St}{op:cW}{K:V→St→Prop}(h:jX tab s op K):∃ m d v s',eU (CF tab m d) s op=aa (v,s')∧K v s':=by
 cases op with
 | call f args b=>
  simp only [jX]at h;split at h
  ·rename_i l;obtain⟨r,H',⟨m,d,g⟩,j⟩:=h;exact⟨m,d,r,_,by simp [eU,gT,l,g],j⟩
  ·rename_i l;obtain⟨y,r,h0,⟨z,u,⟨m,d,g⟩,j⟩,q⟩:=h;exact⟨m,d,r,_,by simp [eU,gT,l,ez,h0,g,j],q⟩
 | cj x args b=>
  obtain⟨c,as,r,H',h0,⟨m,d,g⟩,j⟩:=h;exact⟨m,d,r,_,by simp [eU,h0,g],j⟩
 | recover=>exact⟨0,0,_,_,rfl,h⟩
 | «defer» x args=>
  obtain⟨f,as,h0,g⟩:=h;exact⟨0,0,.top,_,by simp [eU,h0],g⟩
 | _=>
  obtain⟨v,H',h0,g⟩:=h;exact⟨0,0,v,_,by simp [eU,h0],g⟩
theorem jC:∀(os:List aS) (s:St) {K:St→Prop},wP tab os s K→∃ m d s',fG (CF tab m d) os s=aa s'∧K s'
 | [],s,K,h=>⟨0,0,s,rfl,h⟩
 | o::os,s,K,h=>by
  simp only [wP]at h;split at h
  ·rename_i q;obtain⟨m,d,v,A,y,z⟩:=PI h;obtain⟨g,b,s',j,l⟩:=jC os _ z;refine⟨max m g,max d b,s',?_,l⟩;have u:=zg (kg (tab:=tab) (avN m g) (avN d b)) y;have x:=dP (kg (tab:=tab) (avC m g) (avC d b)) os _ j;simp only [fG,fL,q,u,x]
  ·rename_i q;obtain⟨g,b,s',j,l⟩:=jC os _ h;exact⟨g,b,s',by simp only [fG,fL,q,j],l⟩
  ·exact h.elim
variable{fn:Nat}{ro:Option Nat}{k:List da}{s:St}{Q:Option aG→St→Prop}{a b:aG}
theorem kh{g:List da}{b:List da}{s':St}(h:WP tab fn ro b s' Q)
  (u:∀ m d n,run (CF tab m d) fn (n+1) ro g s=run (CF tab m d) fn n ro b s'):WP tab fn ro g s Q:=by
 obtain⟨n,m,d,j,v,l,q⟩:=h;exact⟨n+1,m,d,j,v,by rw [u,l],q⟩
theorem cE(h:Q ab s):WP tab fn ro [] s Q:=⟨1,0,0,ab,s,rfl,h⟩
theorem aA{i:Nat}(h:WP tab fn ro k s Q):WP tab fn ro (.inBlock i::k) s Q:=kh h fun _ _ _=>rfl
theorem sG(h:WP tab fn ro (.code a::.inLoop a::k) s Q):WP tab fn ro (.inLoop a::k) s Q:=kh h fun _ _ _=>rfl
theorem aP(h:WP tab fn ro k s Q):WP tab fn ro (.code .skip::k) s Q:=kh h fun _ _ _=>rfl
theorem adp{l:Nat}(h:WP tab fn ro k s Q):WP tab fn ro (.code (.label l)::k) s Q:=kh h fun _ _ _=>rfl
theorem BQ(h:WP tab fn ro (.code a::.inScope a::k) s Q):WP tab fn ro (.code (.scope a)::k) s Q:=kh h fun _ _ _=>rfl
theorem an(h:WP tab fn ro (.code a::.code b::k) s Q):WP tab fn ro (.code (.seq a b)::k) s Q:=kh h fun _ _ _=>rfl
theorem aF{i:Nat}(h:WP tab fn ro (.code a::.inBlock i::k) s Q):WP tab fn ro (.code (.block i a)::k) s Q:=kh h fun _ _ _=>rfl
theorem aC(h:Q (aa .ret) s):WP tab fn ro (.code .ret::k) s Q:=⟨1,0,0,aa .ret,s,rfl,h⟩
theorem bJ{i:Nat}{k':List da}(b:exitTo i k=aa k')(h:WP tab fn ro k' s Q):WP tab fn ro (.code (.exit i)::k) s Q:=
 kh h fun _ _ _=>by simp only [run,b]
theorem F7{c:Arg}{v:Bool}(hc:c.ev s.aD=.c (.f (.bool v)))(h:WP tab fn ro (.code (if v then a else b)::k) s Q) :
  WP tab fn ro (.code (.cond c a b)::k) s Q:=kh h fun _ _ _=>by simp only [run,hc]
theorem au{c:Arg}(hc:c.ev s.aD=.c (.f (.bool ae)))(h:WP tab fn ro (.code a::k) s Q) :
  WP tab fn ro (.code (.cond c a b)::k) s Q:=F7 hc h
theorem aB{c:Arg}(hc:c.ev s.aD=.c (.f (.bool ag)))(h:WP tab fn ro (.code b::k) s Q) :
  WP tab fn ro (.code (.cond c a b)::k) s Q:=F7 hc h
theorem wa{m l d j n g:Nat}{b:List da}{x:Option aG × St}(u:m≤l)(q:d≤j)(v:n≤g)
  (h:run (CF tab m d) fn n ro b s=aa x):run (CF tab l j) fn g ro b s=aa x:=
 ru (kg u q) n g ro b s v h
theorem aq{ops:List aS}(g:ro=ab∨ops.all (·.op.dZ)=ae)(h:wP tab ops s fun s'=>WP tab fn ro k s' Q) :
  WP tab fn ro (.code (.region ops [])::k) s Q:=by
 obtain⟨m,d,s',x,n,q,b,j,A,y,z⟩:=jC ops s h;refine⟨n+1,max m q,max d b,j,A,?_,z⟩;have u:=dP (kg (tab:=tab) (avN m q) (avN d b)) ops _ x;have v:=wa (avC m q) (avC d b) (aft n) y;have l:(ro.isSome&&!ops.all (·.op.dZ))=ag:=by
  rcases g with rfl | g
  ·rfl
  ·rw [g];simp
 simp only [run,l,gk,u,v];simp
theorem cI(I:Nat→St→Prop)(n:Nat)(h0:I n s)
  (step:∀ n s,I n s→(∀ b s',b<n→I b s'→WP tab fn ro (.inLoop a::k) s' Q)→WP tab fn ro (.code a::.inLoop a::k) s Q) :
  WP tab fn ro (.code (.loop a)::k) s Q:=by
 have key:∀ n s,I n s→WP tab fn ro (.code a::.inLoop a::k) s Q:=by
  intro n;induction n using Nat.strongRecOn with
  | _ n l=>
   intro s j;exact step n s j fun b s' g d=>sG (l b g s' d)
 exact kh (key n s h0) fun _ _ _=>rfl
def Fin(tab:TB)(af:aL)(r:V)(H':aj)(s:St):Prop:=
 ∃ m d b,dL (CF tab m d) s.defs s.heap=aa b∧results s.aD b af.results=aa r∧b=H'
theorem tc{f:Nat}{af:aL}(z:tab f=aa af)(J:args.length=af.ps.length)
  (h:WP tab f ab [.code af.body] ⟨cN af.ps args .e,[],H⟩ fun _ s=>Fin tab af r H' s):Ev tab (.fn f) args H r H':=by
 obtain⟨n,m,d,j,s,B,A,v,L,F,I,rfl⟩:=h;obtain⟨M,l,q,u⟩:∃ M,m≤M∧A≤M∧n≤M:=⟨max (max m A) n,by omega,by omega,by omega⟩
 obtain⟨E,b,g⟩:∃ E,d≤E∧v≤E:=⟨max d v,by omega,by omega⟩
 refine⟨M,E+1,?_⟩;have x:run (CF tab M E) f M ab [.code af.body] ⟨cN af.ps args .e,[],H⟩=aa (j,s):=wa l b u B;have y:=jy (kg (tab:=tab) q g) _ _ F;have K:=tab.ok _ _ z args H;simp only [CF]at x y ⊢;simp only [eG,K,z,J,if_true,x,y,I,avY]
def tD(res:List gH)(r:V)(s:St):Prop:=s.defs=[]∧∃ b,results s.aD s.heap res=aa b∧iU deep s.heap b=aa r
theorem bI{f:Nat}{ps:List P}{res:List gH}{body:aG}(x:tab f=aa ⟨ps,res,body⟩)(v:args.length=ps.length)
  (h:∀ Q:Option aG→St→Prop,(∀ j s,tD res r s→Q j s)→WP tab f ab [.code body] ⟨cN ps args .e,[],[]⟩ Q):bg tab f args r:=by
 have b:=h (fun _ s=>tD res r s) fun _ _ h=>h;obtain⟨n,m,d,j,s,g,u,y,l,q⟩:=b;exact⟨y,s.heap,tc x v ⟨n,m,d,j,s,g,0,0,s.heap,by rw [u];rfl,l,rfl⟩,q⟩
end
theorem ai{tab:TB}{fn:Nat}{ops:List aS}{b:aG}{k:List da}{s:St}{Q:Option aG→St→Prop}(h:wP tab ops s fun s'=>WP tab fn ab (.code b::k) s' Q):WP tab fn ab (.code (.seq (.region ops []) b)::k) s Q:=an (aq (.inl rfl) h)
theorem bo{tab:TB}{fn:Nat}{ro:Option Nat}{a:aG}{c:Arg}{k:List da}{s:St}{Q:Option aG→St→Prop}(hc:c.ev s.aD=.c (.f (.bool ag)))(h:WP tab fn ro k s Q):WP tab fn ro (.code (.cond c a .skip)::k) s Q:=aB hc (aP h)
section
set_option linter.unusedVariables false
def amq(g:Option (P × Bool))(r:T)(d j:Prop):Prop:=
 Option.rec (motive:=fun _=>Prop) d (fun l=>Prod.rec (motive:=fun _=>Prop) (fun p w=>BI p r fun v=>match v with
  | .c (.f (.bool b))=>Bool.rec (motive:=fun _=>Prop) (Bool.rec (motive:=fun _=>Prop) d j w) (Bool.rec (motive:=fun _=>Prop) j d w) b
  | .t []=>j
  | _=>False) l) g
theorem ae9{g:Option (P × Bool)}{r:T}{d l:Prop}(h:amq g r d l):(wanted r g=aa ae∧d)∨(wanted r g=aa ag∧l):=by
 cases g with
 | none=>exact .inl ⟨rfl,h⟩
 | some m=>
  obtain⟨p,w⟩:=m;change BI p r _ at h;rw [nS]at h;simp only [wanted];split at h
  ·rename_i b j;rw [j];cases b<;>cases w
   ·exact .inl ⟨rfl,h⟩
   ·exact .inr ⟨rfl,h⟩
   ·exact .inr ⟨rfl,h⟩
   ·exact .inl ⟨rfl,h⟩
  ·rename_i j;rw [j];exact .inr ⟨rfl,h⟩
  ·exact h.elim
abbrev PH:=T→List dQ→HT→Nat→Prop
def aeT(o:aS)(call:fH)(r:T)(d:List dQ)(t:HT)(n:Nat)(k:PH):Prop:=
 aS.rec (motive:=fun _=>Prop) (fun dst op g=>amq g r (asu op call r d t n fun v d t n=>apH dst r v fun r=>k r d t n) (apH dst r (.t []) fun r=>k r d t n)) o
theorem CV{call:cR}{bA:fH}(hc:qc call bA){o:aS}{r:T}{d:List dQ}{H:aj}{t:HT}{k:PH}(h:cZ H t)(b:aeT o bA r d t H.length k) :
  ∃ s' j,fL call ⟨r,d,H⟩ o=aa s'∧cZ s'.heap j∧k s'.aD s'.defs j s'.heap.length:=by
 obtain⟨dst,op,g⟩:=o;rcases ae9 b with⟨l,b⟩ | ⟨l,b⟩
 ·obtain⟨v,q,H',j,s,u,m⟩:=akF hc op h b;rw [Gl]at m;exact⟨⟨jS r dst v,q,H'⟩,j,by simp only [fL,l,s],u,m⟩
 ·rw [Gl]at b;exact⟨⟨jS r dst (.t []),d,H⟩,t,by simp only [fL,l],h,b⟩
def asC(ops:List aS)(call:fH):T→List dQ→HT→Nat→PH→Prop:=
 List.rec (motive:=fun _=>T→List dQ→HT→Nat→PH→Prop) (fun r d t n k=>k r d t n) (fun o _ b r d t n k=>aeT o call r d t n fun r d t n=>b r d t n k) ops
theorem Gh{call:cR}{bA:fH}(hc:qc call bA):∀ {ops:List aS} {r:T} {d:List dQ} {H:aj} {t:HT} {k:PH},cZ H t→asC ops bA r d t H.length k →
  ∃ s' j,fG call ops ⟨r,d,H⟩=aa s'∧cZ s'.heap j∧k s'.aD s'.defs j s'.heap.length
 | [],r,d,H,t,k,h,b=>⟨⟨r,d,H⟩,t,rfl,h,b⟩
 | o::ops,r,d,H,t,k,h,b=>by
  obtain⟨g,z,l,m,q⟩:=CV hc h b;obtain⟨x,y,s,u,v⟩:=Gh hc (r:=g.aD) (d:=g.defs) (H:=g.heap) m q;exact⟨x,y,by simp only [fG,l];exact s,u,v⟩
structure uE where
 r:T
 d:List dQ
 t:HT
 n:Nat
def As(ops:List aS)(call:fH):T→List dQ→HT→Nat→(List uE→PH)→Prop:=
 List.rec (motive:=fun _=>T→List dQ→HT→Nat→(List uE→PH)→Prop) (fun r d t n k=>k [⟨r,d,t,n⟩] r d t n)
  (fun o _ q r d t n k=>aeT o call r d t n fun r' m u s=>q r' m u s fun ss j b l g=>k (⟨r,d,t,n⟩::ss) j b l g) ops
def al2(s:St)(x:uE):Prop:=x.r=s.aD∧x.d=s.defs∧cZ s.heap x.t∧x.n=s.heap.length
inductive uF:List St→List uE→Prop
 | nil:uF [] []
 | cons {s:St} {x:uE} {ss:List St} {xs:List uE} (h:al2 s x) (hs:uF ss xs):uF (s::ss) (x::xs)
theorem uF.get{ss:List St}{xs:List uE}(h:uF ss xs):∀(i:Nat) (x:uE),xs[i]?=aa x→∃ s,ss[i]?=aa s∧al2 s x:=by
 induction h with
 | nil=>intro i x b;simp at b
 | cons h g d=>
  intro i x b;cases i with
  | zero=>simp at b;subst b;exact⟨_,rfl,h⟩| succ i=>simpa using d i x (by simpa using b)
theorem wm{call:cR}{bA:fH}(hc:qc call bA):∀ {ops:List aS} {r:T} {d:List dQ} {H:aj} {t:HT} {k:List uE→PH},cZ H t→As ops bA r d t H.length k →
  ∃ ss xs s' l,eb call ops ⟨r,d,H⟩=aa ss∧uF ss xs∧ss.getLast?=aa s'∧cZ s'.heap l∧k xs s'.aD s'.defs l s'.heap.length
 | [],r,d,H,t,k,h,b=>⟨[⟨r,d,H⟩],[⟨r,d,t,H.length⟩],⟨r,d,H⟩,t,rfl,.cons ⟨rfl,rfl,h,rfl⟩ .nil,rfl,h,b⟩
 | o::ops,r,d,H,t,k,h,b=>by
  obtain⟨g,B,m,q,s⟩:=CV hc h b;obtain⟨ss,xs,z,A,u,v,j,x,y⟩:=wm hc (r:=g.aD) (d:=g.defs) (H:=g.heap) q s;refine⟨⟨r,d,H⟩::ss,⟨r,d,t,H.length⟩::xs,z,A,by simp only [eb,m];rw [u],.cons ⟨rfl,rfl,h,rfl⟩ v,?_,x,y⟩;cases ss with
  | nil=>simp at j| cons a as=>simpa using j
def Gr(ops:List aS)(xs:List uE)(c:Nat × Nat):Bool:=
 match ops[c.1]?,xs[c.1]?,xs[c.2]? with
 | some o,aa s,aa s'=>match wanted s.r o.g with
  | some ag=>ae
  | _=>match afb s.r s.t.get s.n o.op,afb s.r s'.t.get s'.n o.op with
   | some (v,_),aa (b,_)=>v.beq b| _,_=>ag
 | _,_,_=>ag
theorem aen{ops:List aS}{ss:List St}{xs:List uE}(h:uF ss xs){c:Nat × Nat}(hc:Gr ops xs c=ae):sameAt ops ss c=ae:=by
 unfold Gr at hc;split at hc
 ·rename_i o x N y z A;obtain⟨s,l,m,J,q,u⟩:=h.get _ _ z;obtain⟨s',E,K,L,F,H⟩:=h.get _ _ A;unfold sameAt;rw [y,l,E];simp only;rw [←m];split at hc
  ·rename_i B;rw [B]
  ·split at hc
   ·rename_i v e M I g j;rw [q,u]at g;rw [F,H]at j;have b:=Ax x.r s.heap o.op;rw [g]at b;have d:=Ax x.r s'.heap o.op;rw [j]at d;rw [←b,←d];split
    ·rfl
    ·exact hc
   ·simp at hc
 ·simp at hc
def rh(ops:List aS)(iD:List (Nat × Nat))(call:fH)(r:T)(d:List dQ)(t:HT)(n:Nat)(k:PH):Prop:=
 List.rec (motive:=fun _=>Prop) (asC ops call r d t n k) (fun _ _ _=>As ops call r d t n fun xs r d t n=>oE (iD.all (Gr ops xs)) (k r d t n)) iD
theorem EC{call:cR}{bA:fH}(hc:qc call bA){ops:List aS}{iD:List (Nat × Nat)}{r:T}{d:List dQ}{H:aj}{t:HT}{k:PH}(h:cZ H t)(b:rh ops iD bA r d t H.length k) :
  ∃ s' g,gk call ops iD ⟨r,d,H⟩=aa s'∧cZ s'.heap g∧k s'.aD s'.defs g s'.heap.length:=by
 cases iD with
 | nil=>exact Gh hc h b
 | cons c cs=>
  have b:As ops bA r d t H.length (fun xs r d t n=>oE ((c::cs).all (Gr ops xs)) (k r d t n)):=b;obtain⟨ss,xs,s',g,l,m,q,s,u⟩:=wm hc h b;obtain⟨j,v⟩:=jL u;refine⟨s',g,?_,s,v⟩;simp only [gk,l];rw [bf,q];rw [avz]at j ⊢;exact fun c hc=>aen m (j c hc)
abbrev Go1:=Option Nat→List da→PH
abbrev ajA:=Option aG→PH
abbrev cG:=fH→Nat→ajA→Go1→Option Nat→List da→PH
def Fv:cG:=fun _ _ _ go ro rest r d t n=>go ro rest r d t n
def ajH(ops:List aS)(iD:List (Nat × Nat)):cG:=fun call _ _ go ro rest r d t n=>
 Option.rec (motive:=fun _=>Prop) (rh ops iD call r d t n fun r d t n=>go ro rest r d t n)
  (fun _=>oE (ops.all (·.op.dZ)) (rh ops iD call r d t n fun r d t n=>go ro rest r d t n)) ro
def at0(a b:aG)(_ _:cG):cG:=fun _ _ _ go ro rest r d t n=>go ro (.code a::.code b::rest) r d t n
def acA(c:Arg)(a b:aG)(_ _:cG):cG:=fun _ _ _ go ro rest r d t n=>qw c r fun v=>match v with
 | .c (.f (.bool v))=>Bool.rec (motive:=fun _=>Prop) (go ro (.code b::rest) r d t n) (go ro (.code a::rest) r d t n) v
 | _=>False
def aoG(id:Nat)(a:aG)(_:cG):cG:=fun _ _ _ go ro rest r d t n=>go ro (.code a::.inBlock id::rest) r d t n
def arU(a:aG)(_:cG):cG:=fun _ _ _ go ro rest r d t n=>go ro (.code a::.inLoop a::rest) r d t n
def zz(f:Arg)(ps:List P)(as bd:aG)(_ _:cG):cG:=fun call fn _ go ro rest r d t n=>
 Option.rec (motive:=fun _=>Prop)
  (oJ (.eH ae) t n fun t b=>oJ (.lp fn r ps as bd .ready ab n) t b fun t m=>qw f r fun x=>
   qZ (bX x [.c (.yl b)]) fun j=>Prod.rec (motive:=fun _=>Prop) (fun c q=>Callee.rec (motive:=fun _=>Prop)
    (fun g=>call (.fn g) q t m fun _ t l=>go ab (.je b::rest) r (.gZ n::d) t l) (fun _=>False) c) j)
  (fun _=>False) ro
def acB(id:Nat):cG:=fun _ _ b go ro rest r d t n=>
 Option.rec (motive:=fun _=>Prop) (Option.rec (motive:=fun _=>Prop) False (fun _=>b (aa (.exit id)) r d t n) ro) (fun k=>go ro k r d t n) (exitTo id rest)
def atZ:cG:=fun _ _ b _ _ _ r d t n=>b (aa .ret) r d t n
def atY:cG:=fun _ _ _ _ _ _ _ _ _ _=>False
def aoI(a:aG)(_:cG):cG:=fun _ _ _ go ro rest r d t n=>go ro (.code a::.inScope a::rest) r d t n
def aoH(_:Nat):cG:=Fv
def arT(l:Nat):cG:=fun _ _ _ go ro rest r d t n=>qZ (gotoIn l rest) fun k=>go ro k r d t n
def Bw(c:aG):cG:=aG.rec (motive:=fun _=>cG) Fv ajH at0 acA aoG arU zz acB atZ atY aoI aoH arT c
def ao1(_:Nat):cG:=Fv
def asb(c:aG):cG:=fun _ _ _ go ro rest r d t n=>go ro (.code c::.inLoop c::rest) r d t n
def DX(b:Nat):cG:=fun _ _ _ go ro rest r d t n=>ie b t fun bp=>match bp with
 | .lp f tmps ps as bd st pending g=>oE (match st with | .busy=>ag | _=>ae) (gM (.lp f tmps ps as bd .exhausted pending g) t b fun t=>match pending with
  | none=>go ro rest r d t n| some .ret=>go ro (.code .ret::rest) r d t n| some (.exit id)=>go ro (.code (.exit id)::rest) r d t n
  | some _=>False)
 | _=>False
def ama:cG:=fun _ _ _ go ro rest r d t n=>Option.rec (motive:=fun _=>Prop) False (fun b=>ie b t fun bp=>match bp with
 | .lp f tmps ps as bd .ready pending g=>gM (.lp f tmps ps as bd .busy pending g) t b fun t=>go ro rest r d t n
 | _=>False) ro
def ao2(_:aG):cG:=Fv
def amd(x:da):cG:=da.rec (motive:=fun _=>cG) Bw ao1 asb DX ama ao2 x
def runK(call:fH)(fn:Nat)(b:ajA)(m:Nat):Go1:=
 Nat.rec (motive:=fun _=>Go1) (fun _ _ _ _ _ _=>False)
  (fun _ j ro g r d t n=>List.rec (motive:=fun _=>Prop) (b ab r d t n) (fun x rest _=>amd x call fn b j ro rest r d t n) g) m
def arz(call:cR)(fn m:Nat)(ro:Option Nat)(g:List da)(s:St)(d:ajA):Prop:=
 ∃ b s' j,run call fn m ro g s=aa (b,s')∧cZ s'.heap j∧d b s'.aD s'.defs j s'.heap.length
theorem Gp{call:cR}{bA:fH}(hc:qc call bA)(fn:Nat)(j:ajA):∀(m:Nat) (ro:Option Nat) (s:List da) (r:T) (d:List dQ) (H:aj) (t:HT),
  cZ H t→runK bA fn j m ro s r d t H.length→arz call fn m ro s ⟨r,d,H⟩ j:=by
 intro m;induction m with
 | zero=>intro ro s r d H t h q;exact q.elim
 | succ m ih=>
  intro ro s r d H t h q;have go:∀ {y} {s':St} {E:HT},run call fn (m+1) ro s ⟨r,d,H⟩=run call fn m ro y s'→cZ s'.heap E→runK bA fn j m ro y s'.aD s'.defs E s'.heap.length→arz call fn (m+1) ro s ⟨r,d,H⟩ j:=by
   intro y s' E u z B;obtain⟨L,N,O,W,X,Y⟩:=ih ro y s'.aD s'.defs s'.heap E z B;exact⟨L,N,O,by rw [u];exact W,X,Y⟩
  cases s with
  | nil=>exact⟨ab,⟨r,d,H⟩,t,rfl,h,q⟩
  | cons x rest=>
   have q:amd x bA fn j (runK bA fn j m) ro rest r d t H.length:=q;cases x with
   | inBlock id=>exact go (s':=⟨r,d,H⟩) (by simp only [run]) h q
   | inLoop c=>exact go (s':=⟨r,d,H⟩) (by simp only [run]) h q
   | inScope c=>exact go (s':=⟨r,d,H⟩) (by simp only [run]) h q
   | je b=>
    have q:DX b bA fn j (runK bA fn j m) ro rest r d t H.length:=q;unfold DX at q;obtain⟨bp,u,z⟩:=dS q;rw [h]at u;have u:H[b]?=aa bp:=u;split at z
    ·rename_i f tmps ps as bd st pending F _;obtain⟨B,z⟩:=jL z;obtain⟨E,I,A⟩:=ei h z;have J:st≠.busy:=by rintro rfl;simp at B
     have M:H.length=(H.set b (.lp f tmps ps as bd .exhausted pending F)).length:=by simp
     rw [M]at A;split at A
     ·exact go (s':=⟨r,d,H.set b (.lp f tmps ps as bd .exhausted ab F)⟩) (by simp only [run,u,aY J]) I A
     ·exact go (s':=⟨r,d,H.set b (.lp f tmps ps as bd .exhausted (aa .ret) F)⟩) (by simp only [run,u,aY J]) I A
     ·exact go (s':=⟨r,d,H.set b (.lp f tmps ps as bd .exhausted (aa (.exit _)) F)⟩) (by simp only [run,u,aY J]) I A
     ·exact A.elim
    ·exact z.elim
   | mT=>
    have q:ama bA fn j (runK bA fn j m) ro rest r d t H.length:=q;cases ro with
    | none=>exact q.elim
    | some b=>
     obtain⟨bp,u,z⟩:=dS q;rw [h]at u;have u:H[b]?=aa bp:=u;split at z
     ·rename_i f tmps ps as bd pending F _;obtain⟨E,I,A⟩:=ei h z;have M:H.length=(H.set b (.lp f tmps ps as bd .busy pending F)).length:=by simp
      rw [M]at A;exact go (s':=⟨r,d,H.set b (.lp f tmps ps as bd .busy pending F)⟩) (by simp only [run,u]) I A
     ·exact z.elim
   | code c=>
    cases c with
    | skip=>exact go (s':=⟨r,d,H⟩) (by simp only [run]) h q
    | label l=>exact go (s':=⟨r,d,H⟩) (by simp only [run]) h q
    | scope a=>exact go (s':=⟨r,d,H⟩) (by simp only [run]) h q
    | goto l=>
     obtain⟨k',K,q⟩:=ju (show qZ (gotoIn l rest) (fun k'=>runK bA fn j m ro k' r d t H.length) from q);exact go (s':=⟨r,d,H⟩) (by simp only [run,K]) h q
    | bad=>exact q.elim| ret=>exact⟨aa .ret,⟨r,d,H⟩,t,rfl,h,q⟩| seq a b=>exact go (s':=⟨r,d,H⟩) (by simp only [run]) h q
    | block id a=>exact go (s':=⟨r,d,H⟩) (by simp only [run]) h q
    | loop a=>exact go (s':=⟨r,d,H⟩) (by simp only [run]) h q
    | exit id=>
     have q:acB id bA fn j (runK bA fn j m) ro rest r d t H.length:=q;unfold acB at q;cases K:exitTo id rest with
     | some k'=>
      rw [K]at q;exact go (s':=⟨r,d,H⟩) (by simp only [run,K]) h q
     | none=>
      rw [K]at q;cases ro with
      | none=>exact q.elim| some b=>exact⟨aa (.exit id),⟨r,d,H⟩,t,by simp only [run,K,Option.isSome_some,if_true],h,q⟩
    | cond c a b=>
     have q:acA c a b (Bw a) (Bw b) bA fn j (runK bA fn j m) ro rest r d t H.length:=q;unfold acA at q;rw [dz]at q;split at q
     ·rename_i v U;cases v with
      | true=>exact go (s':=⟨r,d,H⟩) (by simp only [run,U,if_true]) h q
      | false=>exact go (s':=⟨r,d,H⟩) (by simp only [run,U,avk,if_false]) h q
     ·exact q.elim
    | region ops iD=>
     have key:(ro.isSome&&!ops.all (·.op.dZ))=ag∧rh ops iD bA r d t H.length (fun r d t n=>runK bA fn j m ro rest r d t n):=by
      cases ro with
      | none=>exact⟨rfl,q⟩
      | some b=>
       obtain⟨u,z⟩:=jL (show oE (ops.all (·.op.dZ)) (rh ops iD bA r d t H.length (fun r d t n=>runK bA fn j m (aa b) rest r d t n)) from q);exact⟨by rw [u];rfl,z⟩
     obtain⟨s',E,u,z,B⟩:=EC hc h key.2;exact go (s':=s') (by simp only [run,key.1,avk,if_false,u]) z B
    | fo f ps as bd=>
     have q:zz f ps as bd (Bw as) (Bw bd) bA fn j (runK bA fn j m) ro rest r d t H.length:=q;cases ro with
     | some b=>exact q.elim
     | none=>
      unfold zz at q;obtain⟨t1,u,q⟩:=iO h q;obtain⟨t2,z,q⟩:=iO u q;rw [dz]at q;obtain⟨⟨c,vs⟩,B,q⟩:=ju q;have Q:(H++[bw.eH ae]).length=H.length+1:=by simp
      have S:H++[bw.eH ae]++[bw.lp fn r ps as bd .ready ab H.length]=H++[.eH ae,.lp fn r ps as bd .ready ab H.length]:=by simp
      rw [Q]at B;rw [S]at z;cases c with
      | yield b=>exact q.elim
      | fn g=>
       have q:bA (.fn g) vs t2 (H++[bw.eH ae]++[bw.lp fn r ps as bd .ready ab H.length]).length (fun _ t n'=>runK bA fn j m ab (.je (H++[bw.eH ae]).length::rest) r (.gZ H.length::d) t n'):=q;rw [S,Q]at q;obtain⟨v,H',E,I,A,Z⟩:=hc _ _ _ _ _ z q;exact go (s':=⟨r,.gZ H.length::d,H'⟩) (by simp only [run,Option.isSome_none,avk,if_false,B,I]) A Z
def FE(call:fH)(ds:List dQ):HT→Nat→(HT→Nat→Prop)→Prop:=
 List.rec (motive:=fun _=>HT→Nat→(HT→Nat→Prop)→Prop) (fun t n k=>k t n)
  (fun x _ d t n k=>dQ.rec (motive:=fun _=>Prop)
   (fun b=>ie b t fun bp=>match bp with
    | .eH ae=>gM (.eH ag) t b fun t=>d t n k
    | _=>False)
   (fun f args=>Bool.rec (motive:=fun _=>Prop) (call (.fn f) args t n fun _ t n=>d t n k) False (Nat.beq f fv)) x) ds
theorem uS{call:cR}{bA:fH}(hc:qc call bA):∀ {ds:List dQ} {H:aj} {t:HT} {k:HT→Nat→Prop},cZ H t→FE bA ds t H.length k→∃ H' j,dL call ds H=aa H'∧cZ H' j∧k j H'.length
 | [],H,t,k,h,d=>⟨H,t,rfl,h,d⟩
 | .gZ b::ds,H,t,k,h,d=>by
  obtain⟨bp,g,l⟩:=dS d;rw [h]at g;have g:H[b]?=aa bp:=g;split at l
  ·obtain⟨z,q,m⟩:=ei h l;have A:H.length=(H.set b (.eH ag)).length:=by simp
   have m:FE bA ds z H.length k:=m;rw [A]at m;obtain⟨H',j,s,u,x⟩:=uS hc q m;exact⟨H',j,by simp only [dL,g];exact s,u,x⟩
  ·exact l.elim
 | .fn f args::ds,H,t,k,h,d=>by
  have d:Bool.rec (motive:=fun _=>Prop) (bA (.fn f) args t H.length fun _ t n=>FE bA ds t n k) False (Nat.beq f fv):=d;cases y:Nat.beq f fv with
  | true=>rw [y]at d;exact d.elim
  | false=>
   rw [y]at d;obtain⟨v,B,z,g,l,q⟩:=hc _ _ H t _ h d;obtain⟨H',j,s,u,x⟩:=uS hc (ds:=ds) l q;exact⟨H',j,by simp only [dL,aY (Nat.ne_of_beq_eq_false y),g];exact s,u,x⟩
def asF(r:T)(t:HT)(a:gH)(k:V→Prop):Prop:=gH.rec (motive:=fun _=>Prop)
 (fun p=>BI p r fun v=>match v with
  | .t _=>False
  | v=>k v)
 (fun p m=>BI p r fun v=>ldK t m v k) a
theorem akM{H:aj}{t:HT}(h:cZ H t){r:T}(a:gH)(k:V→Prop)(b:asF r t a k):∃ v,cA r H a=aa v∧k v:=by
 cases a with
 | tmp p=>
  change BI p r _ at b;rw [nS]at b;simp only [cA];cases d:r.get p with
  | t g=>rw [d]at b;exact b.elim| _=>rw [d]at b;exact⟨_,rfl,b⟩
 | cell p m=>
  change BI p r _ at b;rw [nS]at b;exact adv h b
def Cx(r:T)(t:HT)(b:List gH)(k:V→Prop):Prop:=zG (asF r t) b fun vs=>match vs with
 | [v]=>k v| vs=>k (.t vs)
theorem Cy{H:aj}{t:HT}(h:cZ H t){r:T}{g:List gH}{k:V→Prop}(m:Cx r t g k):∃ v,Km.results r H g=aa v∧k v:=by
 obtain⟨j,l,d⟩:=jn (akM h) m;unfold Km.results;rw [l];split at d
 ·exact⟨_,rfl,d⟩
 ·rename_i b;refine⟨.t j,?_,d⟩
  match j,b with
  | [v],b=>exact absurd rfl (b v)| [],_=>rfl| _::_::_,_=>rfl
def fnK(tab:TB)(m:Nat)(call:fH)(f:Nat)(args:List V)(t:HT)(n:Nat)(k:V→HT→Nat→Prop):Prop:=
 qZ (tab.get f) fun af=>aL.rec (motive:=fun _=>Prop) (fun ps b body=>iI args.length ps.length (uf ps args .e fun r=>
  runK call f (fun _ r d t n=>FE call d t n fun t n=>Cx r t b fun v=>k v t n) m ab [.code body] r [] t n)) af
def afd(m:Nat)(call:fH)(b:Nat)(args:List V)(t:HT)(n:Nat)(k:V→HT→Nat→Prop):Prop:=
 ie b t fun bp=>match bp with
  | .lp f tmps ps as bd _ _ _=>iI args.length ps.length (uf ps args tmps fun r=>
    runK call f (fun q _ d t n=>oE d.isEmpty (ie b t fun bp=>match bp with
     | .lp v g s as' l _ _ u=>match q with
      | none=>gM (.lp v g s as' l .ready ab u) t b fun t=>k (.c (.f (.bool ae))) t n
      | some j=>gM (.lp v g s as' l .done (aa j) u) t b fun t=>k (.c (.f (.bool ag))) t n
     | _=>False)) m (aa b) [.code as,.mT,.code bd] r [] t n)
  | _=>False
def bA(tab:TB)(m:Nat)(d:Nat):fH:=
 Nat.rec (motive:=fun _=>fH) (fun _ _ _ _ _=>False)
  (fun _ g c args t n k=>Callee.rec (motive:=fun _=>Prop) (fun f=>Bool.rec (motive:=fun _=>Prop) (fnK tab m g f args t n k) (Option.rec (motive:=fun _=>Prop) (akd args t n k) (fun _=>False) (tab.get fv)) (Nat.beq f fv)) (fun b=>afd m g b args t n k) c) d
theorem acD(tab:TB)(N:∀ args H,tab.get fv=ab→tab.tt fv args H=tt fv args H)(m:Nat):∀ g,qc (eG tab.get tab.tt m g) (bA tab m g):=by
 intro g;induction g with
 | zero=>intro c args H t k h d;exact d.elim
 | succ g J=>
  intro c args H t k h d;cases c with
  | fn f=>
   have d:Bool.rec (motive:=fun _=>Prop) (fnK tab m (bA tab m g) f args t H.length k) (Option.rec (motive:=fun _=>Prop) (akd args t H.length k) (fun _=>False) (tab.get fv)) (Nat.beq f fv):=d;cases E:Nat.beq f fv with
   | true=>
    rw [E]at d;have L:=awl E;subst L;cases I:tab.get fv with
    | some _=>rw [I]at d;exact d.elim
    | none=>
     rw [I]at d;obtain⟨v,H',K,q,x,y⟩:=ake h d;exact⟨v,H',K,by simp only [eG,N _ _ I,q],x,y⟩
   | false=>
   rw [E]at d;have M:=Nat.ne_of_beq_eq_false E;obtain⟨af,q,d⟩:=ju (show fnK tab m (bA tab m g) f args t H.length k from d);obtain⟨ps,O,body⟩:=af;obtain⟨x,d⟩:=df d;rw [pT]at d;obtain⟨u,s',K,y,z,d⟩:=Gp J f _ m ab [.code body] _ [] H t h d;obtain⟨H',l,B,s,d⟩:=uS J z d;obtain⟨v,A,d⟩:=Cy s d;exact⟨v,H',l,by simp only [eG,tab.ok _ _ q,q,x,if_true,y,B,A];rfl,s,d⟩
  | yield b=>
   obtain⟨bp,q,d⟩:=dS (show afd m (bA tab m g) b args t H.length k from d);rw [h]at q;have q:H[b]?=aa bp:=q;split at d
   ·obtain⟨x,d⟩:=df d;rw [pT]at d;obtain⟨u,s',K,y,z,d⟩:=Gp J _ _ m (aa b) _ _ [] H t h d;obtain⟨B,d⟩:=jL d;obtain⟨blk',s,d⟩:=dS d;rw [z]at s;have s:s'.heap[b]?=aa blk':=s;split at d
    ·cases u with
     | none=>
      obtain⟨l,A,F⟩:=ei z d;exact⟨_,_,l,by simp only [eG,q,x,if_true,y,B,s];rfl,A,by rw [avw];exact F⟩
     | some j=>
      obtain⟨l,A,F⟩:=ei z d;exact⟨_,_,l,by simp only [eG,q,x,if_true,y,B,s];rfl,A,by rw [avw];exact F⟩
    ·exact d.elim
   ·exact d.elim
def isR(r:V)(v:V)(t:HT)(_:Nat):Prop:=aoR t v fun y=>y=r
theorem aea{tab:TB}(s:∀ args H,tab.get fv=ab→tab.tt fv args H=tt fv args H){m d f:Nat}{args:List V}{r:V}(h:bA tab m d (.fn f) args .e 0 (isR r)=(r=r)):bg tab f args r:=by
 have h:bA tab m d (.fn f) args .e ([]:aj).length (isR r):=by rw [List.length_nil,h]
 obtain⟨v,H',u,b,g,j⟩:=acD tab s m d (.fn f) args [] .e (isR r) cZ.nil h;obtain⟨y,l,q⟩:=FI g v _ j;exact⟨v,H',⟨m,d,b⟩,by rw [l,q]⟩
end
end Km
