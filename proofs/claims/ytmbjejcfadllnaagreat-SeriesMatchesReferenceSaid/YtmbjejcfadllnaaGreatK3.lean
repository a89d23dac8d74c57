/-
  Our own small machine for Go code by value, held tq the model: part 3. No program in Gl.
-/
import Derived.Test.YtmbjejcfadllnaaGreatK2
import Derived.Orders
import Derived.Test.YtmbjejcfadllnaaGreatK1
open Option renaming some → aa,none → ab
open Bool renaming true → ae,false → ag
open List renaming mem_filter → as0, all_eq_true → arX, eq_nil_of_length_eq_zero → anc, mem_of_getElem? → arR, getElem?_eq_getElem → AT, getElem?_eq_some_iff → By, getElem?_set_ne → AI, getElem?_append_right → arY, getElem?_eq_none → asS, getElem?_drop → arV, length_drop → arW
open Bool renaming and_eq_true → BY, not_eq_true' → as2, false_eq_true → arQ
open Option renaming map_some → asm, map_eq_some_iff → IN, map_map → as5
open Nat renaming le_refl → OF, le_of_ble_eq_true → asM, eq_of_beq_eq_true → asG, le_max_left → asa, le_max_right → ar2
open Option.some renaming injEq → sh
open Prod.mk renaming injEq → IS
set_option linter.unusedVariables false
set_option linter.constructorNameAsVariable false
set_option linter.unusedSimpArgs false
set_option linter.unusedSectionVars false
set_option maxRecDepth 100000
namespace Km
open Go
section
variable{Q:Program}{σ:Nat→FuncId}{X:Wd}{call:cJ}
variable{n:Nat}{ops:Array Oper}{aos:List aS}{gX:List (Nat × Nat)}{st:Nat→St}
def LD(b:Array Bool)(j:Nat):Prop:=b.getD j ag=ae
theorem WS{b:Array Bool}{i:Nat}(hi:i<b.size):LD (b.setIfInBounds i ae)=fun j=>LD b j∨j=i:=by
 funext j;apply propext;unfold LD;by_cases h:i=j
 ·subst h;simp [hi]
 ·have:j≠i:=fun e=>h e.symm;simp [Array.getD_eq_getD_getElem?,Array.getElem?_setIfInBounds_ne h,this]
theorem D1{b:Array Bool}{i:Nat}(h:i ∈ Region.ready .any ops b):i<ops.size∧¬ LD b i∧∃ o,ops[i]?=aa o∧∀ e ∈ o.after.toList,Region.binds .any e=ae→LD b e.on:=by
 unfold Region.ready at h;simp only [as0,List.mem_range,BY,as2]at h;obtain⟨l,d,j⟩:=h;refine⟨l,fun g=>?_,?_⟩
 ·unfold LD at g;simp only [Array.getD_eq_getD_getElem?]at d g;cases m:b[i]? with
  | none=>rw [m]at d;simp at d| some v=>rw [m]at d g;simp at d g;rw [d]at g;simp at g
 ·have q:=Array.getElem?_eq_getElem l;rw [q]at j;simp only [asm,Option.getD_some]at j;refine⟨ops[i],q,fun e u s=>?_⟩;rw [←Array.all_toList,arX]at j;have:=j e u;simpa [s,LD]using this
theorem Y1(l:Ord ops.toList aos gX)(F:aos.length=ops.size){b:Array Bool}(B:b.size=ops.size){j:Nat}(z:j<ops.size)(y:¬ LD b j):Region.ready .any ops b≠[]:=by
 have key:∀ m,m<ops.size→¬ LD b m→∃ i,i ∈ Region.ready .any ops b:=by
  intro m;induction m using Nat.strongRecOn with
  | ind m E=>
   intro v g;have A:=Array.getElem?_eq_getElem v;by_cases d:∀ e ∈ ops[m].after.toList,Region.binds .any e=ae→LD b e.on
   ·refine⟨m,?_⟩;unfold Region.ready;simp only [as0,List.mem_range,BY,as2,A,asm,Option.getD_some];refine⟨v,?_,?_⟩
    ·unfold LD at g;have u:m<b.size:=by omega
     simp [u]at g ⊢;exact g
    ·rw [←Array.all_toList,arX];intro e s;by_cases q:Region.binds .any e=ae
     ·have:=d e s q;unfold LD at this;simp [this]
     ·simp [q]
   ·simp only [Classical.not_forall]at d;obtain⟨e,s,q,x⟩:=d;have:=l.back m ops[m] (by omega) (by simp [v]) e s q;exact E e.on this (by omega) x
 obtain⟨i,hi⟩:=key j z y;intro h;rw [h]at hi;simp at hi
theorem Xt(Y:eY Q σ call)(R:kz Q σ call n ops aos gX st){b:Frame}{k:List Item}{cs:List Frame}(Z:ju b cs)(H:∀ y ∈ aos,gE y.op b) :
  ∀(X0:Wd) (fuel t:Nat) (d:Array Bool) (U:List Nat) (E:Nat) (X:Wd) (a:Act),d.size=ops.size→U.Nodup→(∀ j,j<ops.size→(¬ LD d j↔j ∈ U))→U.length≤fuel→Inv Q σ X0 n ops aos st (LD d) E X a →
  ∃ q z X' a',Steps Q (lone (b.atR a (.inRegion ops (Region.linearise.go .any ops fuel t d [])::k)) cs X.w) (lone (b.atR a' k) cs X'.w)∧Inv Q σ X0 n ops aos st q z X' a'∧(∀ j,j<ops.size→q j)∧a'.tmps.size=a.tmps.size:=by
 have u:aos.length=ops.size:=by have:=(ez R.aif).len;simpa using this.symm
 intro X0 fuel;induction fuel with
 | zero=>
  intro t d U E X a m B l F A;refine⟨LD d,E,X,a,?_,A,fun j s=>?_,rfl⟩
  ·simp only [Region.linearise.go,List.reverse_nil];exact .one stepR_region_end
  ·have g:U=[]:=anc (by omega);refine Classical.byContradiction fun h=>?_;have:=(l j s).1 h;rw [g]at this;simp at this
 | succ fuel ih=>
  intro t d U E X a m B l F A;simp only [Region.linearise.go];change ∃ q z X' a',Steps Q (lone (b.atR a (.inRegion ops (match (Region.ready .any ops d)[t % (Region.ready .any ops d).length]? with
   | some i=>Region.linearise.go .any ops fuel (t / (Region.ready .any ops d).length) (d.setIfInBounds i ae) [i]
   | none=>[].reverse)::k)) cs X.w) _∧_
  cases hi:(Region.ready .any ops d)[t % (Region.ready .any ops d).length]? with
  | none=>
   have g:Region.ready .any ops d=[]:=by
    cases hr:Region.ready .any ops d with
    | nil=>rfl
    | cons x xs=>
     rw [hr]at hi;have a8:t % (x::xs).length<(x::xs).length:=Nat.mod_lt _ (by simp);rw [List.getElem?_eq_none_iff]at hi;omega
   refine⟨LD d,E,X,a,?_,A,fun j s=>?_,rfl⟩
   ·exact .one stepR_region_end
   ·exact Classical.byContradiction fun h=>Y1 R.ord u m s h g
  | some i=>
   simp only [];rw [linearise_go_acc,List.reverse_singleton,List.singleton_append];obtain⟨r1,r2,o,r3,r4⟩:=D1 (arR hi);have hy:=AT (show i<aos.length by omega);have hr:ky ops aos (LD d) i o aos[i]:=⟨r3,hy,r2,r4⟩
   obtain⟨z,J,a1,M,I,N⟩:=R.afo Y A hr (b:=b) (rest:=Region.linearise.go .any ops fuel (t / (Region.ready .any ops d).length) (d.setIfInBounds i ae) []) (k:=k) (cs:=cs) Z (H _ (List.getElem_mem _));rw [←WS (by omega)]at I;have v:i ∈ U:=(l i r1).1 r2;obtain⟨q,E2,K,L,k1,k2,k3,k5⟩:=ih (t / (Region.ready .any ops d).length) (d.setIfInBounds i ae) (U.erase i) z J a1 (by simpa using m) (B.erase i)
    (fun j s=>by
     rw [B.mem_erase_iff,←l j s,WS (by omega)];constructor
     ·intro h;exact⟨fun e=>h (.inr e),fun O=>h (.inl O)⟩
     ·rintro⟨S,W⟩ (h | h)
      ·exact W h
      ·exact S h)
    (by rw [List.length_erase_of_mem v];omega) I
   exact⟨q,E2,K,L,M.trans k1,k2,k3,k5.trans N⟩
theorem Xu(hC:eY Q σ call)(u:Q.follows .mixedOrders=ae)(R:kz Q σ call n ops aos gX st){b:Frame}{k:List Item}{cs:List Frame}(hk:ju b cs)(M:∀ y ∈ aos,gE y.op b){X:Wd}{a:Act}(g:Fr Q σ n X (st 0) a)(id:Nat) :
  ∃ X' a',Steps Q (lone (b.atR a (.code (.region id ops ae)::k)) cs X.w) (lone (b.atR a' k) cs X'.w)∧Fr Q σ n X' (st aos.length) a'∧Ext X.H.length X X'∧a'.tmps.size=a.tmps.size:=by
 have Z:aos.length=ops.size:=by have:=(ez R.aif).len;simpa using this.symm
 let X0:Wd:={ X with w:={ X.w with drawn:=X.w.drawn+1 } }
 have A:Ext X.H.length X X0:=
  {B:=rfl,F:=fun _ _ h=>h,pO:=fun _ _ h=>.inl h,fw:=fun _ _ _=>rfl,bT:=fun b _ bu J=>⟨bu,J,by cases bu<;>simp [X0]⟩
   xH:=fun b L h=>.inl ⟨b,L,h,rfl⟩,size:=OF _,os:=rfl,tape:=rfl,output:=rfl,frame:=fun _ _ _=>rfl }
 have I:SR Q σ X0:=by
  refine⟨fun b L J=>?_,g.sr.inj,g.sr.fb⟩;obtain⟨q,s,bu,U,W⟩:=g.sr.br b L J;exact⟨q,s,bu,U,BR.ext Q σ A rfl (fun _ h=>h) W⟩
 obtain⟨p1,p2,p3,p4⟩:=pj (aos:=aos) (i:=0) (by omega);obtain⟨q1,q2⟩:=R.cW _ p1 p2 p4;have E:X0.H=(st 0).heap:=g.heap;rw [←E]at q1;obtain⟨k1,k2⟩:=SR.ahead I q1;have m:Ext X.H.length X { X0 with H:=(st (phase aos 0)).heap }:=A.trans k2;have d:∀ j,¬ LD (Array.replicate ops.size ag) j:=fun j h=>by
  unfold LD at h;simp only [Array.getD_eq_getD_getElem?,Array.getElem?_replicate]at h;split at h<;>simp at h
 have hI:Inv Q σ { X0 with H:=(st (phase aos 0)).heap } n ops aos st (LD (Array.replicate ops.size ag)) (phase aos 0) { X0 with H:=(st (phase aos 0)).heap } a:=by
  refine⟨fun j o h=>absurd h (d j),fun j h=>absurd h (d j),p2,p3,d _,fun j q s=>absurd q (p4 j (Nat.zero_le _) s),rfl,Ext.refl _ _,k1,g.b,by rw [q2];exact g.defs.ext' m,g.size,
   fun p=>⟨0,Nat.zero_le _,.inl (VR.ext' σ m (g.aA p)),fun j y _ _=>⟨fun h=>by omega,fun h=>absurd h (d j)⟩⟩,fun j y q _ U W h5=>?_⟩
  show X.cr _=ab;have a8:=(R.cW j (Nat.zero_le _) (by omega) fun k q s=>p4 k q (by omega)).1.len;cases v:X.cr (st j).heap.length with
  | none=>rfl| some L=>have:=SR.lt g.sr v;rw [g.heap]at this;omega
 obtain⟨D',O,X',a',g1,l,S,g5⟩:=Xt hC R hk M (k:=k) { X0 with H:=(st (phase aos 0)).heap } ops.size (X.w.tape X.w.drawn (.order b.fn id)) (Array.replicate ops.size ag) (List.range ops.size) (phase aos 0) { X0 with H:=(st (phase aos 0)).heap } a (by simp) List.nodup_range
  (fun j hj=>⟨fun _=>by simpa using hj,fun _=>d j⟩) (by simp) hI
 have Y:O=aos.length:=by
  rcases l.eW with h | ⟨z,N,_⟩
  ·exact h
  ·exact absurd (S O (by have:=(By.1 N).1;omega)) l.eD
 subst Y;refine⟨X',a',.head stepR_region_draw ?_,⟨l.heap,l.sr,l.b,fun p=>?_,l.defs,l.size⟩,m.trans (l.ext.mono (m.len)),g5⟩
 ·simp only [Region.schedule,u,Bool.true_or,if_true];exact g1
 ·obtain⟨K,hK,x,hw⟩:=l.Zi p;have x:VR σ X' ((st K).aA.get p) (a'.tmps.getD p.toNat undef):=by
   rcases x with x | ⟨z,zs,c,_,Y,N,_⟩
   ·exact x
   ·have:=(By.1 N).1;omega
  rw [←R.mn aos.length hK (OF _) fun j y q s hy hd=>?_]
  ·exact x
  ·have:=(hw j y hy hd).2 (S j (by omega));omega
end
section
variable{Q:Program}{σ:Nat→FuncId}{X:Wd}{call:cJ}
theorem Bi{b:Type}{f:b→b→Bool}(d:∀ x y,f x y=ae→x=y):∀ {xs ys:List b},jS f xs ys=ae→xs=ys
 | [],[],_=>rfl
 | x::xs,y::ys,h=>by
  simp only [jS,BY]at h;rw [d x y h.1,Bi d h.2]
 | [],_::_,h=>by simp [jS]at h
 | _::_,[],h=>by simp [jS]at h
theorem FC.beq_eq:∀(n:Nat) (a b:FC),FC.beq n a b=ae→a=b:=by
 intro n;induction n with
 | zero=>
  intro a b h;cases a<;>cases b<;>simp_all [FC.beq]
 | succ n d=>
  intro a b h;cases a<;>cases b<;>simp_all [FC.beq]
  all_goals exact Bi d h.2
theorem C.beq_eq{a b:C}(h:a.beq b=ae):a=b:=by
 cases a<;>cases b<;>simp_all [C.beq];exact FC.beq_eq _ _ _ h
theorem V.beq_eq{a b:V}(h:a.beq b=ae):a=b:=by
 cases a<;>cases b<;>simp only [V.beq,arQ]at h
 ·rw [C.beq_eq h]
 ·rename_i xs ys;simp only [BY,beq_iff_eq,arX]at h
  congr 1
  refine List.ext_getElem h.1 fun i d g=>C.beq_eq (h.2 (xs[i],ys[i]) ?_);exact arR (i:=i) (by rw [List.getElem?_zip_eq_some];exact⟨AT d,AT g⟩)
theorem yw:∀ {aos:List aS} {s s':St},fx call aos s=aa s'→∃ b:List St,dG call aos s=aa b∧b.getLast?=aa s'
 | [],s,s',h=>by simp only [fx,sh]at h;subst h;exact⟨[s],rfl,rfl⟩
 | o::os,s,s',h=>by
  simp only [fx]at h;split at h
  ·rename_i l g;obtain⟨b,j,d⟩:=yw h;refine⟨s::b,by simp [dG,g,j],?_⟩;cases b with
   | nil=>simp at d| cons x xs=>simpa using d
  ·simp at h
theorem nS:∀ {aos:List aS} {s:St} {b:List St},dG call aos s=aa b→b.length=aos.length+1∧b[0]?=aa s ∧
  ∀ i y,aos[i]?=aa y→∃ u v,b[i]?=aa u∧b[i+1]?=aa v∧fC call u y=aa v
 | [],s,b,h=>by
  simp only [dG,sh]at h;subst h;exact⟨rfl,rfl,fun i y h=>by simp at h⟩
 | o::os,s,b,h=>by
  simp only [dG]at h;split at h
  ·rename_i x m;split at h
   ·rename_i z q;simp only [sh]at h;subst h;obtain⟨g,j,l⟩:=nS q;refine⟨by simp [g],rfl,fun i y d=>?_⟩;cases i with
    | zero=>
     simp only [List.getElem?_cons_zero,sh]at d;subst d;exact⟨s,x,rfl,by simpa using j,m⟩
    | succ i=>simpa using l i y (by simpa using d)
   ·simp at h
  ·simp at h
theorem vE:∀ {aos:List aS} {s:St} {b:List St} {s':St},dG call aos s=aa b→b.getLast?=aa s'→fx call aos s=aa s'
 | [],s,b,s',h,d=>by simp only [dG,sh]at h;subst h;simpa [fx]using d
 | o::os,s,b,s',h,d=>by
  simp only [dG]at h;split at h
  ·rename_i m l;split at h
   ·rename_i g j;simp only [sh]at h;subst h;have:=(nS j).1;simp only [fx,l];refine vE j ?_;cases g with
    | nil=>simp at this| cons x xs=>simpa using d
   ·simp at h
  ·simp at h
theorem Mz(S:eY Q σ call)(A:Q.follows .mixedOrders=ae){n:Nat}{id:Nat}{ops:Array Oper}{g:Bool}{aos:List aS}{gX:List (Nat × Nat)}(W:cd Q σ n (.region id ops g) (.region aos gX)=ae)
  {b:Frame} {k:List Item} {cs:List Frame} (U:ju b cs) (B:∀ y ∈ aos,gE y.op b) {X:Wd} {a:Act} {s s':St} (K:Fr Q σ n X s a) (h:fS call aos gX s=aa s') :
  ∃ X' a',Steps Q (lone (b.atR a (.code (.region id ops g)::k)) cs X.w) (lone (b.atR a' k) cs X'.w)∧Fr Q σ n X' s' a'∧Ext X.H.length X X'∧a'.tmps.size=a.tmps.size:=by
 simp only [cd,BY,Bool.or_eq_true,as2]at W;obtain⟨l,E⟩:=W;obtain⟨j,O,J,h3⟩:∃ j:List St,dG call aos s=aa j∧j.getLast?=aa s'∧∀ c ∈ gX,sameAt aos j c=ae:=by
  unfold fS at h;split at h
  ·obtain⟨j,q,x⟩:=yw h;exact⟨j,q,x,by simp⟩
  ·split at h
   ·rename_i j L;split at h
    ·rename_i z;exact⟨j,L,h,arX.1 z⟩
    ·simp at h
   ·simp at h
 cases g with
 | false=>
  obtain⟨X',a',q,x⟩:=Gv S U (k:=k) aos 0 X s s' a K (by simpa using l) B (vE O J);exact⟨X',a',.head stepR_region (by simpa using q),x⟩
 | true=>
  obtain⟨q,x,g3⟩:=nS O
  let st:Nat→St:=fun i=>j.getD i s
  have d:∀ i u,j[i]?=aa u→st i=u:=fun i u hu=>by simp [st,List.getD_eq_getElem?_getD,hu]
  have R:kz Q σ call n ops aos gX st:=by
   refine⟨l,Mj (E.resolve_left (by simp)),fun i y M=>?_,fun i e y hc M Y=>?_⟩
   ·obtain⟨u,v,F,H,I⟩:=g3 i y M;rw [d _ _ F,d _ _ H];exact I
   ·have m:=h3 _ hc;simp only [sameAt,M]at m;split at m
    ·rename_i o s1 s2 F H I;cases F;rw [d _ _ H]at Y ⊢;rw [d _ _ I];rw [Y]at m;simp only at m;split at m
     ·rename_i v x1 v' x2 Z N;rw [←V.beq_eq m]at N;exact⟨v,x1,x2,Z,N⟩
     ·simp at m
    ·simp at m
  have h0:st 0=s:=d 0 s x;have hN:st aos.length=s':=d _ _ (by rw [List.getLast?_eq_getElem?,q]at J;simpa using J);rw [←h0]at K;rw [←hN];exact Xu S A R U B K id
end
section
variable{Q:Program}{σ:Nat→FuncId}{X:Wd}{call:cJ}
def DP(X:Wd)(b:Nat):Prop:=∃ f t p a c s q d,X.H[b]?=aa (.lp f t p a c s q d)
theorem DP.ext{X X':Wd}(m:Ext X.H.length X X'){b:Nat}(h:DP X b):DP X' b∧∀ L,X.cr b=aa L→X'.cr b=aa L:=by
 obtain⟨f,t,p,a,c,s,q,d,j⟩:=h;obtain⟨blk',g,l⟩:=m.bT b (By.1 j).1 _ j;cases blk'<;>simp only at l;exact⟨⟨_,_,_,_,_,_,_,_,g⟩,l.2⟩
inductive gI(Q:Program)(σ:Nat→FuncId)(n:Nat)(X:Wd):cA→Item→Prop
 | code {a:az} {c:Code} (h:cd Q σ n c a=ae):gI Q σ n X (.code a) (.code c)
 | inBlock (id:Nat):gI Q σ n X (.inBlock id) (.inBlock id)
 | inLoop {a:az} {c:Code} (h:cd Q σ n c a=ae):gI Q σ n X (.inLoop a) (.inLoop c)
 | ji {b:Nat} {L:Loc} (h:X.cr b=aa L) (hl:DP X b):gI Q σ n X (.ji b) (.endRangeFunc L.c)
 | nf:gI Q σ n X .nf .beginRound
 | inScope {a:az} {c:Code} (h:cd Q σ n c a=ae) (hs:mu a=ae):gI Q σ n X (.inScope a) (.inScope c)
theorem gI.ext{n:Nat}{X X':Wd}(d:Ext X.H.length X X'){x:cA}{y:Item}(h:gI Q σ n X x y):gI Q σ n X' x y:=by
 cases h with
 | code h=>exact .code h| inBlock id=>exact .inBlock id| inLoop h=>exact .inLoop h| ji h b=>exact .ji ((b.ext d).2 _ h) (b.ext d).1| nf=>exact .nf| inScope h g=>exact .inScope h g
def RoR(X:Wd):Option Nat→Option Nat→Prop
 | none,ab=>True| some b,aa l=>∃ L,X.cr b=aa L∧L.c=l∧DP X b| _,_=>False
theorem RoR.ext{X X':Wd}(g:Ext X.H.length X X'){ro b:Option Nat}(h:RoR X ro b):RoR X' ro b:=by
 cases ro<;>cases b<;>simp only [RoR]at h ⊢;obtain⟨L,j,l,d⟩:=h;exact⟨L,(d.ext g).2 _ j,l,(d.ext g).1⟩
theorem xz{n:Nat}(id:Nat):∀(k:List cA) (ks:List Item),A2 (gI Q σ n X) k ks →
  match Km.exitTo id k with
  | some k'=>∃ b,Go.exitTo id ks=aa b∧A2 (gI Q σ n X) k' b| none=>Go.exitTo id ks=ab
 | [],ks,h=>by
  have:ks=[]:=anc h.len.symm;subst this;rfl
 | x::k,[],h=>by have:=h.len;simp at this
 | x::k,y::ks,h=>by
  obtain⟨m,g⟩:=h.of_cons;have l:=xz id k ks g;cases m with
  | inBlock d=>
   simp only [Km.exitTo,Go.exitTo];by_cases j:(d == id)=ae
   ·simp only [j,if_true];exact⟨ks,rfl,g⟩
   ·simp only [j,arQ,if_false];exact l
  | _=>exact l
theorem zd{n:Nat}(l:Nat):∀(a:az) (c:Code),cd Q σ n c a=ae→mu a=ae →
  match Km.findLabel a l with
  | some r=>∃ r',Go.findLabel c l=aa r'∧cd Q σ n r' r=ae| none=>Go.findLabel c l=ab:=by
 intro a;induction a with
 | seq a b m q=>
  intro c h g;simp only [mu,BY]at g;cases c with
  | seq c d=>
   simp only [cd,BY]at h;have j:=m c h.1 g.1;simp only [Km.findLabel,Go.findLabel];cases u:Km.findLabel a l with
   | some r=>
    rw [u]at j;obtain⟨r',v,x⟩:=j;simp only [v];exact⟨_,rfl,by simp [cd,x,h.2]⟩
   | none=>
    rw [u]at j;simp only [j];exact q d h.2 g.2
  | _=>simp [cd]at h
 | label z=>
  intro c h _;cases c with
  | label y=>
   simp only [cd,beq_iff_eq]at h;subst h;simp only [Km.findLabel,Go.findLabel];by_cases s:(y == l)=ae
   ·simp only [s,if_true];exact⟨_,rfl,by simp [cd]⟩
   ·simp only [s,arQ,if_false]
  | _=>simp [cd]at h
 | bad=>intro c h g;simp [mu]at g| _=>intro c h _;cases c<;>simp_all [cd,Km.findLabel,Go.findLabel]
theorem xD{n:Nat}(l:Nat):∀(k:List cA) (ks:List Item),A2 (gI Q σ n X) k ks →
  match Km.gotoIn l k with
  | some k'=>∃ b,Go.gotoIn l ks=aa b∧A2 (gI Q σ n X) k' b| none=>Go.gotoIn l ks=ab
 | [],ks,h=>by
  have:ks=[]:=anc h.len.symm;subst this;rfl
 | x::k,[],h=>by have:=h.len;simp at this
 | x::k,y::ks,h=>by
  obtain⟨u,g⟩:=h.of_cons;have s:=xD l k ks g;cases u with
  | inScope m q=>
   rename_i a c;have d:=zd (Q:=Q) (σ:=σ) l a c m q;simp only [Km.gotoIn,Go.gotoIn];cases j:Km.findLabel a l with
   | some r=>
    rw [j]at d;obtain⟨r',v,z⟩:=d;simp only [v];exact⟨_,rfl,A2.cons (.code z) (A2.cons (.inScope m q) g)⟩
   | none=>
    rw [j]at d;simp only [d];exact s
  | _=>exact s
def agM:Option az→List Item→Prop
 | none,b=>b=[]| some .ret,b=>∃ k,b=.code .ret::k| some (.exit id),b=>∃ k,b=.code (.exit id)::k∧Go.exitTo id k=ab| _,_=>False
end
section
variable{Q:Program}{σ:Nat→FuncId}{X:Wd}{call:cJ}
theorem qm{b:Nat}{L:Loc}(x:SR Q σ X)(v:X.cr b=aa L){f:Nat}{t:T}{ps:List P}{as bd:az}{q:gk}{g:Option az}{d:Nat}(y:X.H[b]?=aa (.lp f t ps as bd q g d)) :
  ∃(n:Nat) (us:Array Value) (m:Array Tmp) (as' j:Code) (pend':Option Code) (u:Loc),
   X.w.heap[L.c]?=aa (.loop { state:=q.of,pending:=pend',fn:=σ f,tmps:=us,params:=m,assign:=as',body:=j,defers:=u.c }) ∧
   n≤us.size∧RR σ X t us∧fI (fun p (q:P)=>q.toNat == p&&decide (p<n)) m.toList ps=ae∧cd Q σ n as' as=ae∧cd Q σ n j bd=ae∧xO Q σ n g pend'∧X.cr d=aa u∧∃ o,X.H[d]?=aa (.kT o):=by
 obtain⟨_,_,bu,l,s⟩:=x.br b L v;rw [y]at l;cases l;exact s
theorem z5(J:SR Q σ X){b:Nat}{L:Loc}(I:X.cr b=aa L){f:Nat}{t:T}{ps:List P}{as bd:az}{q q':gk}{y pend1:Option az}{d:Nat}(s:X.H[b]?=aa (.lp f t ps as bd q y d))
  {n:Nat} {us:Array Value} {j:Array Tmp} {as' g:Code} {pend':Option Code} {u:Loc}
  (O:n≤us.size) (S:RR σ X t us) (U:fI (fun p (q:P)=>q.toNat == p&&decide (p<n)) j.toList ps=ae) (W:cd Q σ n as' as=ae) (Y:cd Q σ n g bd=ae) (Z:xO Q σ n pend1 pend') (a:X.cr d=aa u) (z:∃ o,X.H[d]?=aa (.kT o)) :
  SR Q σ { X with H:=X.H.set b (.lp f t ps as bd q' pend1 d),w:=X.w.putObj L.c (.loop { state:=q'.of,pending:=pend',fn:=σ f,tmps:=us,params:=j,assign:=as',body:=g,defers:=u.c }) } ∧
  Ext X.H.length X { X with H:=X.H.set b (.lp f t ps as bd q' pend1 d),w:=X.w.putObj L.c (.loop { state:=q'.of,pending:=pend',fn:=σ f,tmps:=us,params:=j,assign:=as',body:=g,defers:=u.c }) }:=by
 obtain⟨m,r,k,M,N,i,K,v,_⟩:=qm J I s;have A:b<X.H.length:=(By.1 s).1;refine SR.qL (o':=.loop { state:=q'.of,pending:=pend',fn:=σ f,tmps:=us,params:=j,assign:=as',body:=g,defers:=u.c }) (blk':=.lp f t ps as bd q' pend1 d) J s I v (by simp) (by simp)
  (fun bu l=>⟨.lp f t ps as bd q' pend1 d,by simp [A],by rw [s]at l;cases l;exact⟨⟨rfl,rfl,rfl,rfl,rfl,rfl⟩,fun L h=>h⟩⟩)
  (fun X' F E _ x c=>?_)
 obtain⟨o,z⟩:=z;refine⟨n,us,j,as',g,pend',u,E,O,RR.ext' σ F S,U,W,Y,Z,by rw [x];exact a,o,?_⟩;have B:b≠d:=fun e=>by rw [e,z]at s;cases s
 rw [c,AI B];exact z
end
section
variable{Q:Program}{σ:Nat→FuncId}{call:cJ}
structure Way(Q:Program)(σ:Nat→FuncId)(fn:Nat)(n:Nat)(b:Frame)(cs:List Frame)(ro:Option Nat)(todo:List cA)(items:List Item)(s:St)(X:Wd)(a:Act):Prop where
 fr:Fr Q σ n X s a
 items:A2 (gI Q σ n X) todo items
 ro:RoR X ro b.roundOf
 kind:ju b cs
 fn:b.fn=σ fn
theorem Way.ext{fn n:Nat}{b:Frame}{cs:List Frame}{ro:Option Nat}{j:List cA}{items:List Item}{s s':St}{X X':Wd}{a a':Act}(h:Way Q σ fn n b cs ro j items s X a){g:List cA}{d:List Item}(l:Ext X.H.length X X')(m:Fr Q σ n X' s' a')
  (hi:A2 (gI Q σ n X) g d):Way Q σ fn n b cs ro g d s' X' a':=
 ⟨m,hi.lP fun _ _ h=>h.ext l,h.ro.ext l,h.kind,h.fn⟩
theorem Way.to{fn n:Nat}{b:Frame}{cs:List Frame}{ro:Option Nat}{j:List cA}{items:List Item}{s:St}{X:Wd}{a:Act}(h:Way Q σ fn n b cs ro j items s X a){g:List cA}{d:List Item}
  (hi:A2 (gI Q σ n X) g d):Way Q σ fn n b cs ro g d s X a:=⟨h.fr,hi,h.ro,h.kind,h.fn⟩
def akI(Q:Program)(σ:Nat→FuncId)(call:cJ)(fn m:Nat):Prop:=
 ∀(n:Nat) (b:Frame) (cs:List Frame) ro l g s X a j s',run call fn m ro l s=aa (j,s')→Way Q σ fn n b cs ro l g s X a →
  ∃ X' a' d,Steps Q (lone (b.atR a g) cs X.w) (lone (b.atR a' d) cs X'.w)∧Fr Q σ n X' s' a'∧Ext X.H.length X X'∧a'.tmps.size=a.tmps.size∧agM j d
theorem wz{b:Frame}{a:Act}{k:List Item}{cs:List Frame}{w:World}{body:Code}:step Q (lone (b.atR a (.inScope body::k)) cs w)=.next (lone (b.atR a k) cs w):=
 step_lone_go (by simp [stepG,stepG.exec,Frame.atR])
theorem Cz{b:Frame}{a:Act}{k:List Item}{cs:List Frame}{w:World}{body:Code}:step Q (lone (b.atR a (.code (.scope body)::k)) cs w)=.next (lone (b.atR a (.code body::.inScope body::k)) cs w):=
 step_lone_go (by simp [stepG,stepG.exec,Frame.atR])
theorem Y8(hC:eY Q σ call)(f9:Q.follows .mixedOrders=ae)(fn:Nat):∀ m,akI Q σ call fn m:=by
 intro m;induction m with
 | zero=>intro n b cs ro c_ I s X a F s' h;simp [run]at h
 | succ m ih=>
  intro n b cs ro c_ I s X a F s' h z;have go:∀ {B j},run call fn m ro B s=aa (F,s')→A2 (gI Q σ n X) B j→step Q (lone (b.atR a I) cs X.w)=.next (lone (b.atR a j) cs X.w) →
    ∃ X' a' j,Steps Q (lone (b.atR a I) cs X.w) (lone (b.atR a' j) cs X'.w)∧Fr Q σ n X' s' a'∧Ext X.H.length X X'∧a'.tmps.size=a.tmps.size∧agM F j:=by
   intro B j hr hi S;obtain⟨X',a',it,g1,M⟩:=ih n b cs ro B j s X a F s' hr (z.to hi);exact⟨X',a',it,.head S g1,M⟩
  cases c_ with
  | nil=>
   have:I=[]:=anc z.items.len.symm;subst this;simp only [run,sh,IS]at h;obtain⟨rfl,rfl⟩:=h;exact⟨X,a,[],Steps.refl _ _,z.fr,Ext.refl _ _,rfl,rfl⟩
  | cons x k=>
   cases I with
   | nil=>have:=z.items.len;simp at this
   | cons it ks=>
    obtain⟨hx,A⟩:=z.items.of_cons;cases hx with
    | inBlock id=>exact go (by simpa [run]using h) A stepR_inBlock
    | inLoop E=>exact go (by simpa [run]using h) (A2.cons (.code E) (A2.cons (.inLoop E) A)) stepR_inLoop
    | inScope E hs=>exact go (by simpa [run]using h) A wz
    | ji hb hl=>
     rename_i bb L;simp only [run]at h;split at h
     ·rename_i f t ps as bd q c9 d J;split at h
      ·simp at h
      ·rename_i hq;rw [←z.fr.heap]at J;obtain⟨m0,us,Z,as',U,pend',Ld,a_,h2,h3,h4,h5,h6,W,h8,h9⟩:=qm z.fr.sr hb J;obtain⟨g1,M⟩:=z5 z.fr.sr hb J (q':=.exhausted) h2 h3 h4 h5 h6 W h8 h9;have l9:(q.of)≠LoopState.busy:=by cases q<;>simp [gk.of]at hq ⊢
       have S:=stepR_endRangeFunc (P:=Q) (b:=b) (a:=a) (k:=ks) (cs:=cs) (run_endLoop (P:=Q) a_ l9);have key:∀ {B j},run call fn m ro B { s with heap:=s.heap.set bb (.lp f t ps as bd .exhausted c9 d) }=aa (F,s')→A2 (gI Q σ n X) B j→j=(pend'.map Item.code).toList++ks →
         ∃ X' a' j,Steps Q (lone (b.atR a (.endRangeFunc L.c::ks)) cs X.w) (lone (b.atR a' j) cs X'.w)∧Fr Q σ n X' s' a'∧Ext X.H.length X X'∧a'.tmps.size=a.tmps.size∧agM F j:=by
        intro B j hr hi he;obtain⟨X',a',it,k1,k2,k3,k4,k5⟩:=ih n b cs ro B j _ _ a F s' hr (z.ext (a':=a) M ⟨by rw [←z.fr.heap],g1,by simpa [World.putObj]using z.fr.b,z.fr.aA.ext' σ M,z.fr.defs.ext' M,z.fr.size⟩ hi);rw [he]at k1;exact⟨X',a',it,.head S k1,k2,M.trans (k3.mono M.len),k4,k5⟩
       split at h
       ·cases pend' with
        | none=>exact key h A rfl| some c=>exact W.elim
       ·cases pend' with
        | none=>exact W.elim
        | some c=>
         have W:cd Q σ m0 c .ret=ae:=W;cases c<;>simp [cd]at W;exact key h (A2.cons (.code (by simp [cd])) A) rfl
       ·rename_i id;cases pend' with
        | none=>exact W.elim
        | some c=>
         have W:cd Q σ m0 c (.exit id)=ae:=W;cases c<;>simp [cd]at W;subst W;exact key h (A2.cons (.code (by simp [cd])) A) rfl
       ·simp at h
     ·simp at h
    | nf=>
     simp only [run]at h;split at h
     ·simp at h
     ·rename_i bb;split at h
      ·rename_i f t ps as bd c9 d J;have K:=z.ro;cases d5:b.roundOf with
       | none=>rw [d5]at K;exact K.elim
       | some l=>
        rw [d5]at K;obtain⟨L,hL,rfl,_⟩:=K;rw [←z.fr.heap]at J;obtain⟨m0,us,Z,as',U,pend',Ld,a_,h2,h3,h4,h5,h6,W,h8,h9⟩:=qm z.fr.sr hL J;obtain⟨g1,M⟩:=z5 z.fr.sr hL J (q':=.busy) h2 h3 h4 h5 h6 W h8 h9;have S:=stepR_beginRound (P:=Q) (b:=b) (a:=a) (k:=ks) (cs:=cs) d5 (run_beginRound (P:=Q) a_ rfl);obtain⟨X',a',it,k1,k2,k3,k4,k5⟩:=ih n b cs _ k ks _ _ a F s' h (z.ext (a':=a) M ⟨by rw [←z.fr.heap],g1,by simpa [World.putObj]using z.fr.b,z.fr.aA.ext' σ M,z.fr.defs.ext' M,z.fr.size⟩ A);exact⟨X',a',it,.head S k1,k2,M.trans (k3.mono M.len),k4,k5⟩
      ·simp at h
    | code E=>
     rename_i ac c;cases ac with
     | bad=>simp [run]at h| skip=>cases c<;>simp [cd]at E;exact go (by simpa [run]using h) A stepR_skip
     | label l=>cases c<;>simp [cd]at E;exact go (by simpa [run]using h) A stepR_label
     | scope p=>
      cases c<;>simp [cd]at E;exact go (by simpa [run]using h) (A2.cons (.code E.1) (A2.cons (.inScope E.1 E.2) A)) Cz
     | goto l=>
      cases c<;>simp [cd]at E;subst E;rename_i l';have O:=xD (Q:=Q) (σ:=σ) (n:=n) (X:=X) l' k ks A;simp only [run]at h;split at h
      ·rename_i k' H;rw [H]at O;obtain⟨n4,he,a9⟩:=O;exact go h a9 (stepR_goto he)
      ·simp at h
     | ret=>
      cases c<;>simp [cd]at E;simp only [run,sh,IS]at h;obtain⟨rfl,rfl⟩:=h;exact⟨X,a,_,Steps.refl _ _,z.fr,Ext.refl _ _,rfl,ks,rfl⟩
     | seq p q=>
      cases c<;>simp [cd]at E;exact go (by simpa [run]using h) (A2.cons (.code E.1) (A2.cons (.code E.2) A)) stepR_seq
     | block id p=>
      cases c<;>simp [cd]at E;obtain⟨rfl,E⟩:=E;exact go (by simpa [run]using h) (A2.cons (.code E) (A2.cons (.inBlock _) A)) stepR_block
     | loop p=>
      cases c<;>simp [cd]at E;exact go (by simpa [run]using h) (A2.cons (.code E) (A2.cons (.inLoop E) A)) stepR_loop
     | exit id=>
      cases c<;>simp [cd]at E;subst E;rename_i m_;have O:=xz (Q:=Q) (σ:=σ) (n:=n) (X:=X) m_ k ks A;simp only [run]at h;split at h
      ·rename_i k' H;rw [H]at O;obtain⟨n4,he,a9⟩:=O;exact go h a9 (stepR_exit he)
      ·rename_i H;rw [H]at O;split at h
       ·simp only [sh,IS]at h;obtain⟨rfl,rfl⟩:=h;exact⟨X,a,_,Steps.refl _ _,z.fr,Ext.refl _ _,rfl,ks,rfl,O⟩
       ·simp at h
     | cond x p q=>
      cases c<;>simp [cd]at E;simp only [run]at h;split at h
      ·rename_i v hv;have hx:=bN z.fr.aA E.1.1;rw [hv]at hx;have m9:cH σ X.F X.w (.bool v) _:=hx;have he:∀ u,cH σ X.F X.w (.bool v) u→u=.bool v:=fun u hu=>by cases hu;rfl
       refine go h ?_ (stepR_cond (he _ m9));cases v
       ·exact A2.cons (.code E.2) A
       ·exact A2.cons (.code E.1.2) A
      ·simp at h
     | region aos gX=>
      cases c with
      | region id ops n5=>
       simp only [run]at h;split at h
       ·simp at h
       ·rename_i K;split at h
        ·rename_i s1 h1;have l_:∀ y ∈ aos,gE y.op b:=by
          intro y hy;unfold gE;cases ro with
          | none=>
           refine .inl ?_;have:=z.ro;cases hb:b.roundOf with
           | none=>rfl| some l=>rw [hb]at this;exact this.elim
          | some r=>
           simp only [Option.isSome_some,Bool.true_and,as2,Bool.not_eq_false]at K;exact .inr (arX.1 K y hy)
         obtain⟨X1,a1,g1,M,g3,g4⟩:=Mz hC f9 E z.kind l_ (k:=ks) z.fr h1;obtain⟨X',a',it,k1,k2,k3,k4,k5⟩:=ih n b cs ro k ks s1 X1 a1 F s' h (z.ext g3 M A);exact⟨X',a',it,g1.trans k1,k2,g3.trans (k3.mono g3.len),k4.trans g4,k5⟩
        ·simp at h
      | _=>simp [cd]at E
     | kX f ps as bd=>
      cases c with
      | rangeFunc f' Z as' U=>
       simp only [cd,BY]at E;obtain⟨⟨⟨j9,j_⟩,k_⟩,l7⟩:=E;simp only [run]at h;split at h
       ·simp at h
       ·rename_i K;have m4:b.roundOf=ab:=by
         have:=z.ro;cases ro with
         | some r=>simp at K
         | none=>
          cases hb:b.roundOf with
          | none=>rfl| some l=>rw [hb]at this;exact this.elim
        split at h
        ·rename_i g args d_;split at h
         ·rename_i r2 H2 N;obtain⟨X1,w1,H1,S1,E1,r1,B1⟩:=SR.new z.fr.sr z.fr.b (.kT ae) (dI.alloc X.w (.deferred (aa []))) 0 (fun X' hx hw hF hH=>by
           show X'.w.heap[X.w.heap.size]?=_;rw [hw];exact(dI.alloc X.w (.deferred (aa []))).new)
          have e_:X1.H[X.H.length]?=aa (.kT ae):=by rw [H1];simp
          have b9:X.H.length<X1.H.length:=by rw [H1];simp
          have f_:X1.w.heap.size=X.w.heap.size+1:=by rw [w1];simp
          obtain⟨X2,w2,g_,S2,E2,d7,B2⟩:=SR.new S1 B1 (.lp fn s.aA ps as bd .ready ab s.heap.length)
           (dI.alloc X1.w (.loop { state:=.ready,pending:=ab,fn:=b.fn,tmps:=a.tmps,params:=Z,assign:=as',body:=U,defers:=X.w.heap.size })) 0 (fun X' hx hw hF hH=>by
            obtain⟨blk',d3,H⟩:=hx.bT X.H.length b9 _ e_;cases blk'<;>simp only at H;refine⟨n,a.tmps,Z,as',U,ab,⟨X.w.heap.size,0⟩,?_,z.fr.size,RR.ext' σ hx (RR.ext' σ E1 z.fr.aA),j_,k_,l7,trivial,?_,?_⟩
            ·show X'.w.heap[X1.w.heap.size]?=_;rw [hw,(dI.alloc X1.w (.loop { state:=.ready,pending:=ab,fn:=b.fn,tmps:=a.tmps,params:=Z,assign:=as',body:=U,defers:=X.w.heap.size })).new,z.fn];rfl
            ·rw [←z.fr.heap];exact H _ r1
            ·rw [←z.fr.heap];exact⟨_,d3⟩)
          have d6:Ext X.H.length X X2:=E1.trans (E2.mono E1.len);have d8:X2.H=s.heap++[.kT ae,.lp fn s.aA ps as bd .ready ab s.heap.length]:=by rw [g_,H1,←z.fr.heap];simp
          have j8:X1.H.length=s.heap.length+1:=by rw [H1,←z.fr.heap];simp
          have J:DP X2 (s.heap.length+1):=⟨fn,s.aA,ps,as,bd,.ready,ab,s.heap.length,by rw [d8,arY (by omega)];simp⟩
          rw [j8,f_]at d7;have d9:A2 (VR σ X2) [.c (.yl (s.heap.length+1))] [.func (.yield (X.w.heap.size+1)) #[] #[]]:=A2.cons ⟨⟨X.w.heap.size+1,0⟩,d7,J,rfl⟩ A2.nil;obtain⟨fst,cap,m6,m7⟩:=oY d_ (VR.ext' σ d6 (bN z.fr.aA j9)) d9;rw [←d8]at N;have j7:=hC.enters _ _ _ _ N
          let a1:Act:={ a with defers:={ target:=.collected X.w.heap.size,args:=#[] }::a.defers }
          obtain⟨fr,X3,u,q1,⟨l1,l2,l3,l4,h_,l5,l6⟩,q3,q4,q5,q6,q7⟩:=hC.fn g args _ r2 H2 N X2 _ .normal (b.atR a1 (.inRangeFunc (X.w.heap.size+1)::ks)::cs) rfl S2 B2 m7 (.inl rfl) (.inl rfl);have S:step Q (lone (b.atR a (.code (.rangeFunc f' Z as' U)::ks)) cs X.w)=.next (lone (Frame.enter Q (σ g) (fst.toArray++#[.func (.yield (X.w.heap.size+1)) #[] #[]]++cap.toArray) .normal) (b.atR a1 (.inRangeFunc (X.w.heap.size+1)::ks)::cs) X2.w):=by
           refine stepR_rangeFunc (P:=Q) (b:=b) (a:=a) (k:=ks) (cs:=cs) (l:=X.w.heap.size+1) (mark:=[{ target:=.collected X.w.heap.size,args:=#[] }]) (w₁:=X2.w) (w₁':=X2.w) (d:={ target:=.fn (.func (σ g)) cap.toArray,args:=fst.toArray++#[.func (.yield (X.w.heap.size+1)) #[] #[]] }) ?_ ?_ ?_
           ·rw [m4,run_enterLoop_outer,w2,w1]
           ·simp only [resolve,m6,Deferred.ofValue,Sem.run_bind,Sem.run_pure,Result.andThen_ok];simp [Act.eval]
           ·exact eO j7
          have Y:Ext X.H.length X X3:=d6.trans (q6.mono d6.len);have a8:=step_leave_returned (P:=Q) (c:=b.atR a1 (.inRangeFunc (X.w.heap.size+1)::ks)) (cs:=cs) (show fr.leaving Q X3.w (.returned u) from⟨l1,l2,l3,h_,by rw [l4];exact l5,l6⟩);rw [finish_atR_inRangeFunc]at a8;have b_:=J.ext q6;have i_:t_ σ X3 (.pV s.heap.length) { target:=.collected X.w.heap.size,args:=#[] }:=by
           obtain⟨blk',d3,H⟩:=(E2.trans (q6.mono E2.len)).bT X.H.length b9 _ e_;cases blk'<;>simp only at H;rw [←z.fr.heap];exact⟨⟨X.w.heap.size,0⟩,_,H _ r1,d3,rfl⟩
          obtain⟨X',a',it,k1,k2,k3,k4,k5⟩:=ih n b cs ro (.ji (s.heap.length+1)::k) (.endRangeFunc (X.w.heap.size+1)::ks) _ X3 a1 F s' h
           ⟨⟨q3,q4,q7,RR.ext' σ Y z.fr.aA,A2.cons i_ (z.fr.defs.ext' Y),z.fr.size⟩,A2.cons (.ji (b_.2 _ d7) b_.1) (A.lP fun _ _ h=>h.ext Y),z.ro.ext Y,z.kind,z.fn⟩
          refine⟨X',a',it,.head S (Steps.trans ?_ (.head a8 k1)),k2,Y.trans (k3.mono Y.len),k4,k5⟩;simpa using q1
         ·simp at h
        ·simp at h
      | _=>simp [cd]at E
end
section
variable{Q:Program}{σ:Nat→FuncId}{X:Wd}{call:cJ}
def yM(Q:Program)(σ:Nat→FuncId)(oI:Nat→List V→aj→Option (Option (V × aj))):Prop:=
 ∀ f args H r H',oI f args H=aa (aa (r,H')) →
  (∀ as w,(callFunc (σ f) as).run Q w=.ok (.enter (σ f) as) w) ∧
  ∀(X:Wd) us b cs,X.H=H→SR Q σ X→X.B≤X.w.heap.size→A2 (VR σ X) args us→ph b cs→b=.normal∨f≠mN →
   ∃ d X' u,Steps Q (lone (Frame.enter Q (σ f) us.toArray b) cs X.w) (lone d cs X'.w)∧Leaves Q (σ f) b d u X'.w∧na Q σ X r H' X' u
structure Env(Q:Program)(σ:Nat→FuncId)(tab:Nat→Option aE)(oI:Nat→List V→aj→Option (Option (V × aj))):Prop where
 mix:Q.follows .mixedOrders=ae
 fn:∀ f af,tab f=aa af→∃ fn,Q.funcs[σ f]?=aa fn∧FK Q σ fn af=ae
 oI:yM Q σ oI
theorem vw:∀(ps:List P) (args:List V) (t:T) (s:Nat),ps.map P.toNat=List.range' s ps.length→args.length=ps.length→∀ q:P,
  (cG ps args t).get q=if s≤q.toNat then(args[q.toNat-s]?).getD (t.get q)else t.get q
 | [],args,t,s,_,b,q=>by
  have:args=[]:=anc b;subst this;simp [cG]
 | p::ps,[],t,s,_,b,q=>by simp at b
 | p::ps,v::y,t,s,d,b,q=>by
  simp only [List.map_cons,List.length_cons,List.range'_succ,List.cons.injEq]at d;have x:=vw ps y (t.set p v) (s+1) d.2 (by simpa using b) q;simp only [cG,x];by_cases j:p=q
  ·subst j;rw [aZ (by omega),T.qb];simp [d.1]
  ·have u:q.toNat≠s:=fun e=>j (P.toNat_inj (d.1.trans e.symm));simp only [T.qb,j,if_false];by_cases l:s≤q.toNat
   ·have g:s+1≤q.toNat:=by omega
    have m:q.toNat-s=(q.toNat-(s+1))+1:=by omega
    simp [g,l,m]
   ·have g:¬ (s+1≤q.toNat):=by omega
    simp [g,l]
theorem RR.cG:∀(ps:List P) (b:List Tmp) (args:List V) (us:List Value) (aA:T) (tmps:Array Value) (n:Nat),n≤tmps.size→RR σ X aA tmps→A2 (VR σ X) args us→args.length=ps.length →
  fI (fun p (q:P)=>q.toNat == p&&decide (p<n)) b ps=ae→RR σ X (Km.cG ps args aA) ((b.zip us).foldl (fun tmps (t,a)=>tmps.setIfInBounds t a) tmps)
 | [],b,args,us,aA,tmps,n,l,j,d,g,h=>by
  have:args=[]:=anc g;subst this;have:us=[]:=anc d.len.symm;subst this;simpa [Km.cG]using j
 | p::ps,[],args,us,aA,tmps,n,l,j,d,g,h=>by simp [fI]at h
 | p::ps,s::b,[],us,aA,tmps,n,l,j,d,g,h=>by simp at g
 | p::ps,s::b,v::x,[],aA,tmps,n,l,j,d,g,h=>by have:=d.len;simp at this
 | p::ps,s::b,v::x,u::us,aA,tmps,n,l,j,d,g,h=>by
  simp only [fI,BY,beq_iff_eq,decide_eq_true_eq]at h;obtain⟨⟨y,A⟩,z⟩:=h;obtain⟨m,d⟩:=d.of_cons;subst y;refine RR.cG ps b x us _ _ n (by simpa using l) (RR.set σ j (by omega) m) d (by simpa using g) z
theorem sM:∀(l:List (Tmp × Value)) (tmps:Array Value),(l.foldl (fun tmps (t,a)=>tmps.setIfInBounds t a) tmps).size=tmps.size
 | [],_=>rfl| x::l,tmps=>by rw [List.foldl_cons,sM l];simp
theorem Y7(fn:Nat):∀ m d s b s',run call fn m ab d s=aa (b,s')→b=ab∨b=aa .ret:=by
 intro m;induction m with
 | zero=>intro d s b s' h;simp [run]at h
 | succ m g=>
  intro d s b s' h;unfold run at h;split at h
  all_goals first
   | exact g _ _ _ _ h
   | (simp at h;done)
   | skip
  ·simp only [sh,IS]at h;exact .inl h.1.symm
  ·split at h
   ·split at h
    ·simp at h
    ·split at h
     ·exact g _ _ _ _ h
     ·exact g _ _ _ _ h
     ·exact g _ _ _ _ h
     ·simp at h
   ·simp at h
  ·split at h
   ·exact g _ _ _ _ h
   ·simp at h
  ·simp only [sh,IS]at h;exact .inr h.1.symm
  ·split at h
   ·exact g _ _ _ _ h
   ·simp at h
  ·split at h
   ·exact g _ _ _ _ h
   ·simp at h
  ·split at h
   ·simp at h
   ·split at h
    ·exact g _ _ _ _ h
    ·simp at h
  ·split at h
   ·simp at h
   ·simp only at h;split at h
    ·split at h
     ·exact g _ _ _ _ h
     ·simp at h
    ·simp at h
theorem sG{fn:Func}{af:aE}(h:FK Q σ fn af=ae):∃ c,fn.name≠ "runtime.NumGoroutine"∧fn.body=aa c∧cd Q σ fn.ntmps c af.body=ae ∧
  fI (zt Q fn.ntmps) fn.results.toList af.results=ae∧af.ps.map P.toNat=List.range af.ps.length:=by
 simp only [FK,BY,bne_iff_ne,ne_eq,decide_eq_true_eq]at h;obtain⟨⟨⟨h1,h2⟩,h3⟩,h4⟩:=h;cases hb:fn.body with
 | none=>rw [hb]at h2;simp at h2| some c=>rw [hb]at h2;exact⟨c,h1,rfl,h2,h3,h4⟩
theorem qE{f:FuncId}{fn:Func}{c:Code}(hf:Q.funcs[f]?=aa fn)(hn:fn.name≠ "runtime.NumGoroutine")(hb:fn.body=aa c)(as:Array Value)(w:World):(callFunc f as).run Q w=.ok (.enter f as) w:=by
 simp [callFunc,hf,hn,hb]
def jL(g:FuncId)(d:CallKind)(tmps:Array Value)(ds:List Deferred)(b:Frame):Prop:=
 b.mode=.returning∧b.defers=ds∧b.kind=d∧b.fn=g∧b.tmps=tmps
theorem step_collected{d:Frame}{cs:List Frame}{w w':World}{b:Nat}{as:Array Value}{ds:List Deferred}(j:d.mode=.returning)(g:d.defers = { target:=.collected b,args:=as }::ds)
  (hr:(Instr.takeDeferred b).run Q w=.ok [] w'):step Q (lone d cs w)=.next (lone { d with defers:=ds } cs w'):=
 step_lone_go (by simp [stepG,unwind,j,g,Sem.runT_eq,hr])
theorem wC{b:Frame}{cs:List Frame}{w:World}{f:FuncId}{cap as as':Array Value}{ds:List Deferred}(g:b.mode=.returning)(d:b.defers = { target:=.fn (.func f) cap,args:=as }::ds)
  (hr:(invoke (.fn (.func f) cap) as).run Q w=.ok (.enter f as') w):step Q (lone b cs w)=.next (lone (Frame.enter Q f as' .deferred) ({ b with defers:=ds }::cs) w):=
 step_lone_go (by simp [stepG,unwind,g,d,callDeferred,Sem.runT_eq,hr])
theorem oK{b c:Frame}{cs:List Frame}{w:World}{v:Value}{f:FuncId}(h:Leaves Q f .deferred b v w)(hc:c.mode=.returning) :
  step Q (lone b (c::cs) w)=.next (lone c cs w):=by
 obtain⟨q,j,m,l,fn,d,g⟩:=h;rw [←l]at d;exact step_lone_go (by simp [stepG,unwind,doReturn,q,j,m,d,Sem.runT_eq,g,hc])
theorem jL.pop{g:FuncId}{kind:CallKind}{tmps:Array Value}{d:Deferred}{ds:List Deferred}{fr:Frame}(h:jL g kind tmps (d::ds) fr):jL g kind tmps ds { fr with defers:=ds }:=
 ⟨h.1,rfl,h.2.2.1,h.2.2.2.1,h.2.2.2.2⟩
theorem y9(H:eY Q σ call){g:FuncId}{y:CallKind}{tmps:Array Value}{cs:List Frame}:∀(ds:List dH) (X:Wd) (l:List Deferred) (q:Frame) (H':aj),
  dW call ds X.H=aa H'→SR Q σ X→X.B≤X.w.heap.size→fH σ X ds l→jL g y tmps l q →
  ∃ fr' X',Steps Q (lone q cs X.w) (lone fr' cs X'.w)∧jL g y tmps [] fr'∧X'.H=H'∧SR Q σ X'∧X'.B≤X'.w.heap.size∧Ext X.H.length X X'
 | [],X,l,q,H',h,B,E,z,j=>by
  have:l=[]:=anc z.len.symm;subst this;simp only [dW,sh]at h;exact⟨q,X,Steps.refl _ _,j,h,B,E,Ext.refl _ _⟩
 | d::ds,X,[],q,H',h,B,E,z,j=>by have:=z.len;simp at this
 | .pV b::ds,X,m::l,q,H',h,B,E,z,j=>by
  obtain⟨⟨L,o,h1,h2,rfl⟩,A⟩:=A2.of_cons z;simp only [dW]at h;split at h
  ·rename_i I;obtain⟨_,_,bu,F,K⟩:=B.br b L h1;rw [I]at F;cases F;have x:X.w.heap[L.c]?=aa (.deferred (aa [])):=K;obtain⟨g1,J⟩:=SR.qL (o':=.deferred ab) (blk':=.kT ag) B I h1 x (by simp) (by simp)
    (fun bu v=>⟨.kT ag,by simp [(By.1 I).1],by rw [I]at v;cases v;exact fun L h=>h⟩)
    (fun X' a_ O _ a8 hH=>O)
   obtain⟨fr',X',S,U,W,Y,Z,k6⟩:=y9 H ds _ l { q with defers:=l } H' h g1 (by simpa using E) (fH.ext' J A) j.pop;exact⟨fr',X',.head (step_collected j.1 j.2.1 (run_takeDeferred x)) S,U,W,Y,Z,J.trans (k6.mono J.len)⟩
  ·simp at h
 | .fn f args::ds,X,m::l,q,H',h,B,E,z,j=>by
  obtain⟨⟨us,cap,rfl,hA⟩,A⟩:=A2.of_cons z;simp only [dW]at h;split at h
  ·simp at h
  rename_i N;split at h
  ·rename_i r H1 s;have M:=H.enters f args _ _ s;obtain⟨a9,X1,u,q1,q2,q3,q4,q5,q6,q7⟩:=H.fn f args _ r H1 s X _ .deferred ({ q with defers:=l }::cs) rfl B E hA (.inr ⟨rfl,_,_,rfl,j.1⟩) (.inr N);rw [←q3]at h;obtain⟨fr',X',S,U,W,Y,Z,k6⟩:=y9 H ds X1 l { q with defers:=l } H' h q4 q7 (fH.ext' q6 A) j.pop;refine⟨fr',X',.head (wC (as':=us++cap) j.1 j.2.1 (eO M)) (Steps.trans ?_ (.head (oK (c:={ q with defers:=l }) q2 j.1) S)),U,W,Y,Z,q6.trans (k6.mono q6.len)⟩;have e:(us.toList++cap.toList).toArray=us++cap:=by apply Array.ext';simp
   rw [e]at q1;exact q1
  ·simp at h
theorem ajJ(E:SR Q σ X){n:Nat}{aA:T}{tmps:Array Value}(m:RR σ X aA tmps){r:ResultVar}{a:iK}(g:zt Q n r a=ae){v:V}
  (h:bs aA X.H a=aa v):∃ u,(match r with | .tmp t=>pure (tmps.getD t undef) | .cell a t=>do loadVar t (←asAddr (tmps.getD a undef)):Sem Value).run Q X.w=.ok u X.w∧gU σ X v u:=by
 cases r with
 | tmp t=>
  cases a with
  | tmp p=>
   simp only [zt,BY,beq_iff_eq,decide_eq_true_eq]at g;have d:=m p;rw [g.1]at d;simp only [bs]at h;refine⟨_,rfl,?_⟩;split at h
   ·simp at h
   ·rename_i j;simp only [sh]at h;rw [h]at d;cases v with
    | t H=>exact absurd h (j H)| top=>trivial| c x=>exact d| a xs=>exact d
  | cell p k=>simp [zt]at g
 | cell t I=>
  cases a with
  | tmp p=>simp [zt]at g
  | cell p k=>
   simp only [zt,BY,beq_iff_eq,decide_eq_true_eq]at g;have d:=m p;rw [g.1.1]at d;simp only [bs]at h;cases q:aA.get p with
   | c x=>
    rw [q]at h d;simp only [aU,Option.bind_eq_some_iff]at h;obtain⟨cs,s,b⟩:=h;obtain⟨c,o,us,F,z,A⟩:=uw E d s;obtain⟨u,B,l⟩:=CA g.2 z A b;refine⟨u,by simp [F,asAddr,B],?_⟩;cases k with
    | none=>cases cs with
     | nil=>simp [aK]at b| cons y ys=>simp only [aK,sh]at b;subst b;exact l
    | some k=>
     simp only [aK]at b;split at b
     ·simp only [sh]at b;subst b;exact l
     ·simp at b
   | _=>rw [q]at h;simp [aU]at h
theorem ED(K:SR Q σ X){fn:Func}{m:List iK}(L:fI (zt Q fn.ntmps) fn.results.toList m=ae){aA:T}{tmps:Array Value}(J:RR σ X aA tmps){v:V}
  (h:Km.results aA X.H m=aa v):∃ u,(Go.results fn tmps).run Q X.w=.ok u X.w∧VR σ X v u:=by
 have key:∀(m:List iK) (qs:List ResultVar) (j:List V),fI (zt Q fn.ntmps) qs m=ae→ba (bs aA X.H) m=aa j →
   ∃ us:List Value,(qs.mapM (fun r=>match r with | .tmp t=>pure (tmps.getD t undef) | .cell a t=>do loadVar t (←asAddr (tmps.getD a undef)):ResultVar→Sem Value)).run Q X.w=.ok us X.w∧A2 (gU σ X) j us:=by
  intro m;induction m with
  | nil=>
   intro qs j x l;cases qs with
   | nil=>simp only [ba,sh]at l;subst l;exact⟨[],rfl,A2.nil⟩| cons q qs=>simp [fI]at x
  | cons a m M=>
   intro qs j x l;cases qs with
   | nil=>simp [fI]at x
   | cons q qs=>
    simp only [fI,BY]at x;simp only [ba]at l;split at l
    ·simp at l
    ·rename_i A E;split at l
     ·simp at l
     ·rename_i B F;simp only [sh]at l;subst l;obtain⟨u,s,b⟩:=ajJ K J x.1 E;obtain⟨us,H,I⟩:=M qs B x.2 F;refine⟨u::us,?_,A2.cons b I⟩;rw [List.mapM_cons,Sem.run_bind,s];simp only [Result.andThen_ok,Sem.run_bind,H,Sem.run_pure]
 unfold Km.results at h;have y:∀ j,ba (bs aA X.H) m=aa j→∃ us:List Value,(Go.results fn tmps).run Q X.w=.ok (if h:us.toArray.size=1 then us.toArray[0]else .tuple us.toArray) X.w∧A2 (gU σ X) j us:=by
  intro j g;obtain⟨us,s,b⟩:=key m fn.results.toList j L g;refine⟨us,?_,b⟩;unfold Go.results;rw [Array.mapM_eq_mapM_toList,Sem.run_bind,Sem.run_map];exact(congrArg (fun r:Result (List Value)=>(r.andThen fun a w'=>Result.ok a.toArray w').andThen fun a w'=>Sem.run Q (pure (if h:a.size=1 then a[0]else Value.tuple a)) w') s).trans rfl
 split at h
 ·rename_i A g;simp only [sh]at h;subst h;obtain⟨us,s,b⟩:=y _ g
  match us,b with
  | [u],b=>exact⟨u,s,VR.ZS σ b.of_cons.1⟩| [],b=>have:=b.len;simp at this| _::_::_,b=>have:=b.len;simp at this
 ·rename_i j z g;simp only [sh]at h;subst h;obtain⟨us,s,b⟩:=y _ g;refine⟨.tuple us.toArray,?_,us,rfl,b⟩;rw [s,dif_neg];intro d
  match us,d with
  | [u],_=>
   match j,b with
   | [A],_=>exact z A rfl| [],b=>have:=b.len;simp at this| _::_::_,b=>have:=b.len;simp at this
  | [],d=>simp at d| _::_::_,d=>simp at d
 ·simp at h
end
section
variable{Q:Program}{σ:Nat→FuncId}{tab:Nat→Option aE}{oI:Nat→List V→aj→Option (Option (V × aj))}
theorem alQ(o:Env Q σ tab oI){m:Nat}{call:cJ}(n:eY Q σ call){f:Nat}{j:aE}(J:tab f=aa j){args:List V}(F:args.length=j.ps.length){y:Option az}{s':St}{X:Wd}
  (x:run call f m ab [.code j.body] ⟨cG j.ps args .e,[],X.H⟩=aa (y,s')) {H':aj} (l:dW call s'.defs s'.heap=aa H') {r:V} (v:Km.results s'.aA H' j.results=aa r)
  {us:List Value} {d:CallKind} {cs:List Frame} (hS:SR Q σ X) (hB:X.B≤X.w.heap.size) (i:A2 (VR σ X) args us) (hk:ph d cs) :
  ∃ Z X' u,Steps Q (lone (Frame.enter Q (σ f) us.toArray d) cs X.w) (lone Z cs X'.w)∧Leaves Q (σ f) d Z u X'.w∧na Q σ X r H' X' u:=by
 obtain⟨fn,t,hm⟩:=o.fn f j J;obtain⟨c,N,z,A,S,O⟩:=sG hm
 let b:Frame:=Frame.enter Q (σ f) us.toArray d
 let q:Act:={ tmps:=us.toArray++Array.replicate (fn.ntmps-us.toArray.size) undef,defers:=[] }
 have hb:b=b.atR q [.code c]:=by
  simp [b,q,Frame.enter,Frame.atR,t,z]
 have U:fn.ntmps≤q.tmps.size:=by simp [q];omega
 have M:RR σ X (cG j.ps args .e) q.tmps:=by
  intro p;rw [vw j.ps args .e 0 (by rw [O,List.range_eq_range']) F p];simp only [Nat.zero_le,if_true,Nat.sub_zero];by_cases w:p.toNat<args.length
  ·have hx:=AT w;have H:p.toNat<us.length:=i.len▸w;have hy:=AT H;have hv:=i.2 _ _ _ hx hy;rw [hx];have:q.tmps.getD p.toNat undef=us[p.toNat]:=by
    simp [q,Array.getD_eq_getD_getElem?,Array.getElem?_append,H]
   rw [this];exact hv
  ·rw [asS (by omega)];cases p<;>trivial
 have hF:Fr Q σ fn.ntmps X ⟨cG j.ps args .e,[],X.H⟩ q:=⟨rfl,hS,hB,M,A2.nil,U⟩
 have hW:Way Q σ f fn.ntmps b cs ab [.code j.body] [.code c] ⟨cG j.ps args .e,[],X.H⟩ X q:=⟨hF,A2.cons (.code A) A2.nil,trivial,hk,rfl⟩
 obtain⟨K,a1,g,s1,B,W,_,Y⟩:=Y8 n o.mix f m fn.ntmps b cs ab _ _ _ X q y s' x hW;have I:∃ s,Steps Q (lone (b.atR a1 g) cs K.w) (lone s cs K.w)∧jL (σ f) d a1.tmps a1.defers s:=by
  rcases Y7 f m _ _ _ _ x with rfl | rfl
  ·have:g=[]:=Y;subst this;exact⟨_,.one (stepR_end rfl),rfl,rfl,rfl,rfl,rfl⟩
  ·obtain⟨k,rfl⟩:=Y;exact⟨_,.one (stepR_ret rfl),rfl,rfl,rfl,rfl,rfl⟩
 obtain⟨s,s2,R1⟩:=I;rw [←B.heap]at l;obtain⟨L,X2,s3,E,a,e,h3,h⟩:=y9 n (cs:=cs) s'.defs K a1.defers s H' l B.sr B.b B.defs R1;rw [←a]at v;obtain⟨u,g1,g2⟩:=ED e S (RR.ext' σ h B.aA) v;refine⟨L,X2,u,?_,⟨E.1,E.2.1,E.2.2.1,E.2.2.2.1,fn,t,by rw [E.2.2.2.2];exact g1⟩,a,e,g2,W.trans (h.mono W.len),h3⟩;show Steps Q (lone b cs X.w) _;rw [hb];exact s1.trans (s2.trans s3)
theorem ZJ(hE:Env Q σ tab oI){m:Nat}{call:cJ}(hC:eY Q σ call){b:Nat}{f:Nat}{tmps:T}{ps:List P}{as bd:az}{q:gk}{pd:Option az}{d:Nat}{X:Wd}(U:X.H[b]?=aa (.lp f tmps ps as bd q pd d))
  {args:List V} (S:args.length=ps.length) {g:Option az} {s':St} (Y:run call f m (aa b) [.code as,.nf,.code bd] ⟨cG ps args tmps,[],X.H⟩=aa (g,s')) (c9:s'.defs.isEmpty=ae)
  {f':Nat} {v:T} {J:List P} {as' H:az} {q':gk} {d5:Option az} {d':Nat} (y:s'.heap[b]?=aa (.lp f' v J as' H q' d5 d'))
  {us:List Value} {c:Frame} {cs:List Frame} {L:Loc} (hS:SR Q σ X) (hB:X.B≤X.w.heap.size) (hA:A2 (VR σ X) args us) (hL:X.cr b=aa L) :
  ∃ f tmps as bd X' u,(Instr.yield L.c us.toArray).run Q X.w=.ok (.round L.c f tmps as bd) X.w ∧
   Steps Q (lone (Frame.round L.c f tmps as bd .normal) (c::cs) X.w) (lone (c.finish u) cs X'.w)∧na Q σ X (.bool g.isNone) (s'.heap.set b (.lp f' v J as' H (if g.isNone then .ready else .done) g d')) X' u:=by
 obtain⟨n,ts,qs,z,A,d6,Ld,W,h2,h3,h4,h5,h6,h7,h8,h9⟩:=qm hS hL U;have hq:=(ez h4).len;have d3:us.toArray.size=qs.size:=by
  have:=hA.len;simp only [Array.length_toList]at hq;simp;omega
 have hy:=run_yield (P:=Q) (args:=us.toArray) W d3
 let F:Array Value:=(qs.zip us.toArray).foldl (fun tmps (t,a)=>tmps.setIfInBounds t a) ts
 have O:F=(qs.toList.zip us).foldl (fun tmps (t,a)=>tmps.setIfInBounds t a) ts:=by
  simp only [F];rw [←Array.foldl_toList];simp
 let M:Act:={ tmps:=F,defers:=[] }
 let B:Frame:=Frame.round L.c (σ f) F z A .normal
 have b9:B=B.atR M [.code z,.beginRound,.code A]:=by simp [B,M,Frame.round,Frame.atR]
 have b_:RR σ X (cG ps args tmps) F:=by
  rw [O];exact RR.cG ps qs.toList args us tmps ts n h2 h3 hA S h4
 have hn:n≤F.size:=by rw [O,sM];exact h2
 have hF:Fr Q σ n X ⟨cG ps args tmps,[],X.H⟩ M:=⟨rfl,hS,hB,b_,A2.nil,hn⟩
 have E:DP X b:=⟨_,_,_,_,_,_,_,_,U⟩
 have hW:Way Q σ f n B (c::cs) (aa b) [.code as,.nf,.code bd] [.code z,.beginRound,.code A] ⟨cG ps args tmps,[],X.H⟩ X M:=
  ⟨hF,A2.cons (.code h5) (A2.cons .nf (A2.cons (.code h6) A2.nil)),⟨L,hL,rfl,E⟩,.inl rfl,rfl⟩
 obtain⟨X1,a1,x,s1,K,E1,_,Z⟩:=Y8 hC hE.mix f m n B (c::cs) (aa b) _ _ _ X M g s' Y hW;have N:=(E.ext E1).2 _ hL;rw [←K.heap]at y;obtain⟨n1,d8,d7,a9,a_,pend1,a8,s,k2,k3,k4,k5,k6,k7,k8,k9⟩:=qm K.sr N y;have I:∀(l:Option Code),xO Q σ n1 g l→l.isNone=g.isNone→step Q (lone (B.atR a1 x) (c::cs) X1.w)=.next (lone (c.finish (.bool l.isNone)) cs (X1.w.putObj L.c (.loop { state:=if l.isNone then .ready else .done,pending:=l,fn:=σ f',tmps:=d8,params:=d7,assign:=a9,body:=a_,defers:=a8.c }))) →
   ∃ f tmps as bd X' u,(Instr.yield L.c us.toArray).run Q X.w=.ok (.round L.c f tmps as bd) X.w ∧
   Steps Q (lone (Frame.round L.c f tmps as bd .normal) (c::cs) X.w) (lone (c.finish u) cs X'.w)∧na Q σ X (.bool g.isNone) (s'.heap.set b (.lp f' v J as' H (if g.isNone then .ready else .done) g d')) X' u:=by
  intro l hj hn c_;obtain⟨g1,g2⟩:=z5 K.sr N y (q':=if g.isNone then .ready else .done) (pend1:=g) (pend':=l) k2 k3 k4 k5 k6 hj k8 k9;have hq:(if g.isNone then gk.ready else gk.done).of=(if l.isNone then LoopState.ready else LoopState.done):=by
   rw [hn];cases g<;>rfl
  rw [hq]at g1 g2;refine⟨σ f,F,z,A,_,.bool l.isNone,hy,?_,?_,g1,?_,E1.trans (g2.mono E1.len),?_⟩
  ·show Steps Q (lone B (c::cs) X.w) _;rw [b9];exact s1.trans (.one c_)
  ·rw [←K.heap]
  ·rw [hn];exact VR.u4 _
  ·have:=K.b;simpa [World.putObj]using this
 cases g with
 | none=>
  have:x=[]:=Z;subst this;exact I ab trivial rfl (stepR_round_end rfl rfl (run_endRound (P:=Q) ab s))
 | some j=>
  cases j with
  | ret=>
   obtain⟨k,rfl⟩:=Z;exact I (aa .ret) (by simp [xO,cd]) rfl (stepR_round_ret rfl rfl (run_endRound (P:=Q) (aa .ret) s))
  | exit id=>
   obtain⟨k,rfl,hx⟩:=Z;exact I (aa (.exit id)) (by simp [xO,cd]) rfl (stepR_round_exit rfl rfl hx (run_endRound (P:=Q) (aa (.exit id)) s))
  | _=>exact Z.elim
theorem Xj(x:Env Q σ tab oI)(m:Nat):∀ d,eY Q σ (dS tab oI m d):=by
 intro d;induction d with
 | zero=>exact⟨fun f args H r h=>by simp [dS]at h,fun f args H r H' h=>by simp [dS]at h,fun b args H r H' h=>by simp [dS]at h⟩
 | succ d U=>
  refine⟨fun f args H r h=>?_,fun f args H r H' h X us B cs J I F E W K=>?_,fun b args H r H' h X us c cs L J I F E hL=>?_⟩
  ·simp only [dS]at h;split at h
   ·rename_i r' N;obtain⟨r0,H0⟩:=r;exact(x.oI f args H r0 H0 (by rw [N,h])).1
   ·split at h
    ·simp at h
    ·rename_i S l;obtain⟨fn,hf,hm⟩:=x.fn f S l;obtain⟨c,v,s,_⟩:=sG hm;exact qE hf v s
  ·simp only [dS]at h;split at h
   ·rename_i r' N;exact(x.oI f args H r H' (by rw [N,h])).2 X us B cs J I F E W K
   ·split at h
    ·simp at h
    ·rename_i S l;split at h
     ·rename_i g;split at h
      ·rename_i A s' j;split at h
       ·rename_i H1 u;simp only [IN,IS]at h;obtain⟨r1,z,rfl,rfl⟩:=h;subst J;exact alQ x U l g j u z I F E W
       ·simp at h
      ·simp at h
     ·simp at h
  ·simp only [dS]at h;split at h
   ·rename_i f tmps ps as bd q pd d' M;split at h
    ·rename_i g;split at h
     ·rename_i A s' j;split at h
      ·rename_i hd;split at h
       ·rename_i f' O a9 as' Y q' a8 Z y;simp only [sh,IS]at h;obtain⟨rfl,rfl⟩:=h;subst J;exact ZJ x U M g j hd y I F E hL
       ·simp at h
      ·simp at h
     ·simp at h
    ·simp at h
   ·simp at h
end
inductive Be where
 | no
 | set (b:Nat) (x:cT)
 | push (x:cT)
def Be.app(H:aj):Be→aj
 | .no=>H| .set b x=>H.set b x| .push x=>H++[x]
def uu(g:Nat→Option cT):C→Option (List C)
 | .ptr b off d=>match g b with
  | some (.box cs _)=>aa (cs.drop off)| some (.bM _ cs _ e .loc)=>if d=e then aa (cs.drop off)else ab| _=>ab
 | .f (.fp cs off)=>aa ((cs.drop off).map .f)| _=>ab
def ah7(g:Nat→Option cT)(n:Option Nat):V→Option V
 | .c x=>(uu g x).bind (aK n)| _=>ab
def se(g:Nat→Option cT):C→Option Nat
 | .sl b _ l _ d sz=>match g b with
  | some (.box _ _)=>aa l| some (.bM s _ _ e _)=>if d=e∧sz=s then aa l else ab| _=>ab
 | .f .aF=>aa 0| .f .es=>aa 0| .f (.fs _ l)=>aa l| _=>ab
def qG(g:Nat→Option cT)(sz:Nat):C→Option (List C)
 | .sl b o l _ d s=>match g b with
  | some (.box cs _)=>if o+l*sz≤cs.length then aa ((cs.drop o).take (l*sz))else ab| some (.bM s' cs _ e _)=>if d=e∧s=s'∧o+l*sz≤cs.length then aa ((cs.drop o).take (l*sz))else ab| _=>ab
 | .f .aF=>aa []| .f .es=>aa []| .f (.fs cs l)=>if cs.length=l*sz then aa (cs.map .f)else ab| _=>ab
def rO(g:Nat→Option cT):K8→C→Option Bool
 | .ptr,.f .gD=>aa ae| .ptr,.f (.fp _ _)=>aa ag| .ptr,.ptr _ _ _=>aa ag| .sl,.f .aF=>aa ae| .sl,.f .es=>aa ag| .sl,.f (.fs _ _)=>aa ag
 | .sl,.sl b _ _ _ d sz=>match g b with
  | some (.box _ _)=>aa ag| some (.bM s _ _ e st)=>if d=e∧sz=s then aa (st == .nil)else ab| _=>ab
 | .fn,.f .ku=>aa ae| .fn,.f (.fn _ _)=>aa ag| .fn,.cl _ _=>aa ag| .fn,.bm _ _=>aa ag| .ifc,.f .mQ=>aa ae| _,_=>ab
def ahH(g:Nat→Option cT):K8→V→V→Option Bool
 | .bool,.c x,.c y=>MM .bool x y| .st ks,.a xs,.a ys=>rC ks xs ys| .ptr,.c x,.c (.f .gD)=>rO g .ptr x| .sl,.c x,.c (.f .aF)=>rO g .sl x| .fn,.c x,.c (.f .ku)=>rO g .fn x| .ifc,.c x,.c (.f .mQ)=>rO g .ifc x| _,_,_=>ab
def tO(g:Nat→Option cT)(sz:Nat)(x:V)(lo hi mx:Option V):Option V:=
 match x with
 | .c (.f .aF)=>match cj 0 0 lo hi mx with
  | some _=>aa (.c (.f .aF))| none=>ab
 | .c (.f .es)=>match cj 0 0 lo hi mx with
  | some _=>aa (.c (.f .es))| none=>ab
 | .c (.f (.fs cs n))=>match cj n n lo hi mx with
  | some (l,h,m)=>
   if mx.isSome∧m=l then aa (.c (.f .es))else
   aa (.c (.f (.fs ((cs.drop (l*sz)).take ((h-l)*sz)) (h-l))))
  | none=>ab
 | .c (.sl b o n cap d s)=>match g b with
  | some (.box _ _)=>match cj n cap lo hi mx with
   | some (l,h,m)=>if m=l then aa (.c (.f .es))else aa (.c (.sl b (o+l*sz) (h-l) (m-l) d s))| none=>ab
  | some (.bM s' _ _ e st)=>
   if d=e∧s=sz∧s'=sz then
    match st with
    | .loc=>match cj n n lo hi mx with
     | some (l,h,m)=>
      if mx.isSome∧m=l then aa (.c (.f .es))
      else if l=h∧0<l then aa (.c (.f (.fs [] 0)))
      else if mx.isSome then ab
      else aa (.c (.sl b (o+l*sz) (h-l) 0 d s))
     | none=>ab
    | .nil=>match cj 0 0 lo hi mx with
     | some _=>aa (.c (.f .aF))| none=>ab
    | .es=>match cj 0 0 lo hi mx with
     | some _=>aa (.c (.f .es))| none=>ab
   else ab
  | _=>ab
 | _=>ab
def zS(g:Nat→Option cT)(n sz:Nat)(x:V)(lo hi mx:Option V):Option V:=
 match x with
 | .c (.ptr b off _)=>match g b with
  | some (.box cs _)=>match cj n n lo hi mx with
   | some (l,h,m)=>if off+n*sz≤cs.length then(if m=l then aa (.c (.f .es))else aa (.c (.sl b (off+l*sz) (h-l) (m-l) 0 sz)))else ab| none=>ab
  | _=>ab
 | .c (.f (.fp cs off))=>match cj n n lo hi mx with
   | some (l,h,m)=>if off+n*sz≤cs.length then(if m=l then aa (.c (.f .es))else aa (.c (.f (.fs ((cs.drop (off+l*sz)).take ((h-l)*sz)) (h-l)))))else ab| none=>ab
 | _=>ab
def uR(g:Nat→Option cT)(sz:Nat)(j:Option Nat)(x i:V):Option V:=
 match dy i with
 | none=>ab
 | some i=>
  if 0≤i then
   match j,x with
   | none,.c (.sl b o l _ d s)=>if i<l then
     (match g b with
      | some (.box _ _)=>aa (.c (.ptr b (o+i.toNat*sz) d))| some (.bM s' _ _ e .loc)=>if d=e∧s=s' then aa (.c (.ptr b (o+i.toNat*sz) d))else ab
      | _=>ab)else ab
   | none,.c (.f (.fs cs l))=>if i<l then aa (.c (.f (.fp cs (i.toNat*sz))))else ab| some n,.c (.ptr b o d)=>if i<n then aa (.c (.ptr b (o+i.toNat*sz) d))else ab| some n,.c (.f (.fp cs o))=>if i<n then aa (.c (.f (.fp cs (o+i.toNat*sz))))else ab| _,_=>ab
  else ab
def uZ(g:Nat→Option cT)(d:CK)(z:FC):V→V→Option V
 | .c (.f .v_),.c (.f k)=>if isKey d k then aa (lkR z ab)else ab
 | .c (.mp b),.c (.f k)=>match g b with
  | some (.map j)=>if isKey d k then(nE d k j).map (lkR z)else ab| _=>ab
 | _,_=>ab
def DA(g:Nat→Option cT):V→Option V
 | .c x=>match se g x with
  | some _=>match qG g 1 x with
   | some cs=>(ba (fun c=>match c with | C.f (.int .u8 n)=>aa (UInt8.ofNat n.toNat) | _=>ab) cs).map fun l=>.c (.f (.str ⟨l.toArray⟩))
   | none=>ab
  | none=>ab
 | _=>ab
def pR(g:Nat→Option cT)(sz:Nat):V→Option (Nat × List C)
 | .c (.f (.str s))=>if sz=1 then aa (s.size,s.toList.map fun b=>.f (.int .u8 b.toNat))else ab
 | .c x=>match se g x,qG g sz x with
  | some l,aa cs=>aa (l,cs)| _,_=>ab
 | _=>ab
def EH(g:Nat→Option cT):C→Option Nat
 | .sl b _ _ c d sz=>match g b with
  | some (.box _ _)=>aa c| some (.bM s _ _ e .nil)=>if d=e∧sz=s then aa 0 else ab| some (.bM s _ _ e .es)=>if d=e∧sz=s then aa 0 else ab| _=>ab
 | .f .aF=>aa 0| .f .es=>aa 0| _=>ab
def y_(g:Nat→Option cT):V→Option V
 | .c (.mi b)=>match g b with
  | some (.vP m _ ae)=>match g m with
   | some (.map [e])=>aa (.t [.c (.f e.1),mV e.2])| _=>ab
  | _=>ab
 | _=>ab
def Zn(g:Nat→Option cT)(x:C)(xs:List C):Option Be:=
 match x with
 | .ptr b off j=>match g b with
  | some (.box cs d)=>if d≤off∧off+xs.length≤cs.length then aa (.set b (.box (over cs off xs) d))else ab| some (.bM sz cs d e .loc)=>if j=e∧d≤off∧off+xs.length≤cs.length then aa (.set b (.bM sz (over cs off xs) d e .loc))else ab| _=>ab
 | _=>ab
def D9(g:Nat→Option cT):V→Option (V × Be)
 | .c (.it b)=>match g b with
  | some (.it s pos)=>
   if pos<s.size then
    let r:=Utf8.decode s pos
    aa (.t [.bool ae,.int .i64 pos,.int .i32 r.1],.set b (.it s (pos+r.2)))
   else aa (.t [.bool ag],.no)
  | _=>ab
 | _=>ab
def uj(g:Nat→Option cT)(q:Nat)(sz bytes:Nat)(x y:V):Option (V × Be):=
 match pR g sz y with
 | none=>ab
 | some (m,ys)=>
  if sz=0 then ab else
  match x with
  | .c (.f .aF)=>if m=0 then aa (.c (.f .aF),.no)else
    if bW m bytes then aa (.c (.sl q 0 m 0 0 sz),.push (.bM sz ys 0 0 .loc))else ab
  | .c (.f .es)=>if m=0 then aa (.c (.f .es),.no)else
    if bW m bytes then aa (.c (.sl q 0 m 0 0 sz),.push (.bM sz ys 0 0 .loc))else ab
  | .c (.sl b o l cap j s)=>match g b with
   | some (.box cs d)=>
    if l+m≤cap then
     if d≤o+l*sz∧o+l*sz+ys.length≤cs.length then aa (.c (.sl b o (l+m) cap j s),.set b (.box (over cs (o+l*sz) ys) d))else ab
    else if bW (l+m) bytes∧o+l*sz≤cs.length then aa (.c (.sl q 0 (l+m) 0 0 sz),.push (.bM sz ((cs.drop o).take (l*sz)++ys) 0 0 .loc))else ab
   | some (.bM s' cs d e st)=>
    if j=e∧s'=sz∧s=sz then
     if m=0 then aa (x,.no)
     else if o=0∧l*sz=cs.length∧d≤cs.length then
      if bW (l+m) bytes then aa (.c (.sl b 0 (l+m) 0 (j+1) sz),.set b (.bM sz (cs++ys) d (e+1) .loc))else ab
     else if st=.loc∧d≤o+l*sz∧o+l*sz+ys.length≤cs.length then
      aa (.c (.sl b o (l+m) 0 j sz),.set b (.bM sz (over cs (o+l*sz) ys) d e .loc))
     else ab
    else ab
   | _=>ab
  | _=>ab
def Dz(g:Nat→Option cT)(sz:Nat)(x y:V):Option (V × Be):=
 match pR g sz y,x with
 | some _,.c (.f .aF)=>aa (.int .i64 0,.no)| some _,.c (.f .es)=>aa (.int .i64 0,.no)
 | some (m,ys),.c (.sl b o l _ j s')=>
  let n:=Nat.min m l
  match g b with
  | some (.box cs d)=>if d≤o∧o+n*sz≤cs.length then aa (.int .i64 n,.set b (.box (over cs o (ys.take (n*sz))) d))else ab| some (.bM s cs d e .loc)=>if j=e∧s'=s∧s=sz∧d≤o∧o+n*sz≤cs.length then aa (.int .i64 n,.set b (.bM s (over cs o (ys.take (n*sz))) d e .loc))else ab| _=>ab
 | _,_=>ab
def yZ(g:Nat→Option cT)(sz:Nat)(zs:List FC)(x:V):Option Be:=
 match x with
 | .c y=>match se g y with
  | some 0=>aa .no
  | some l=>
   if zs.length=sz then
    match y with
    | .sl b o _ _ d s=>match g b with
     | some (.box _ _)=>Zn g (.ptr b o d) ((cq l zs).map .f)| some (.bM s' _ _ e .loc)=>if d=e∧s=s' then Zn g (.ptr b o d) ((cq l zs).map .f)else ab| _=>ab
    | _=>ab
   else ab
  | none=>ab
 | _=>ab
def EK(g:Nat→Option cT)(sz:Nat)(x hi mx:V):Option (V × Be):=
 match tO g sz x ab (aa hi) (aa mx)with
 | some v=>aa (v,.no)
 | none=>match x with
  | .c (.sl b o n _ d s)=>match g b with
   | some (.bM s' cs l e .loc)=>
    if d=e∧s=sz∧s'=sz∧o=0 then
     match Af hi n,Af mx n with
     | some i,aa j=>
      if i=j∧0<i∧i*sz≤cs.length then
       match ba fcC (cs.take (i*sz))with
       | some ys=>aa (.c (.f (.fs ys i)),.set b (.bM s' cs (Nat.max l (i*sz)) e .loc))| none=>ab
      else ab
     | _,_=>ab
    else ab
   | _=>ab
  | _=>ab
def Dr(g:Nat→Option cT)(b:Nat)(sz bytes:Nat)(zs:List FC)(x n:V):Option (V × Be):=
 match dy n with
 | some n=>
  if 0≤n∧zs.length=sz then
   match x with
   | .c (.f .aF)=>if n.toNat=0 then aa (.c (.f .aF),.no)else
     if bW n.toNat bytes then aa (.c (.sl b 0 n.toNat 0 0 sz),.push (.bM sz ((cq n.toNat zs).map .f) 0 0 .loc))else ab
   | .c (.f .es)=>if n.toNat=0 then aa (.c (.f .es),.no)else
     if bW n.toNat bytes then aa (.c (.sl b 0 n.toNat 0 0 sz),.push (.bM sz ((cq n.toNat zs).map .f) 0 0 .loc))else ab
   | _=>ab
  else ab
 | none=>ab
def zz(g:Nat→Option cT):V→Option (V × Be)
 | .c (.mi b)=>match g b with
  | some (.vP m d done)=>match g m with
   | some (.map [])=>if done then ab else aa (.t [.bool ag],.no)| some (.map [e])=>if done then aa (.t [.bool ag],.no)else if d=1 then aa (.t [.bool ae,.c (.f e.1),mV e.2],.set b (.vP m 1 ae))else ab| _=>ab
  | _=>ab
 | _=>ab
def vn(g:Nat→Option cT)(j:Nat):V→Option (V × Be)
 | .c (.mp b)=>match g b with
  | some (.map d)=>if d.length≤1 then aa (.c (.mi j),.push (.vP b d.length ag))else ab| _=>ab
 | _=>ab
def ZB(aA:T)(g:Nat→Option cT)(d:Nat):cP→Option (V × Be)
 | .bJ x=>aa (x.ev aA,.no)| .pre o sz=>if o=.loc∨sz=0 then ab else aa (.c (.sl d 0 0 0 0 sz),.push (.bM sz [] 0 0 o))
 | .pick c a b=>match c.ev aA with
  | .c (.f (.bool v))=>aa ((if v then a else b).ev aA,.no)| _=>ab
 | .alloc zs=>aa (.c (.ptr d 0 0),.push (.box (zs.map .f) 0))
 | .box x=>match (x.ev aA).cells? with
  | some xs=>aa (.c (.ptr d 0 0),.push (.box xs 0))| none=>ab
 | .build zs ps=>(dv aA (zs.map .f) ps).map fun cs=>(.a cs,.no)
 | .aV sz zs n ps=>
  if n=0 then(if ps.isEmpty then aa (.c (.f .es),.no)else ab)else
  (dv aA ((cq n zs).map .f) (ps.map fun p=>(p.1*sz,sz,p.2))).map fun cs=>(.c (.sl d 0 n n 0 sz),.push (.box cs 0))
 | .load n x=>(ah7 g n (x.ev aA)).map (·,.no)
 | .store n x y=>match x.ev aA,(y.ev aA).cells? with
  | .c p,aa xs=>if xs.length=n then(Zn g p xs).map (.top,·)else ab| _,_=>ab
 | .bD x=>match x.ev aA with
  | .c (.ptr b o e)=>aa (.c (.ptr b o e),.no)| .c (.f (.fp cs o))=>aa (.c (.f (.fp cs o)),.no)| _=>ab
 | .bin op x y=>(bS op (x.ev aA) (y.ev aA)).map (·,.no)| .eq neg k x y=>(ahH g k (x.ev aA) (y.ev aA)).map fun b=>(.bool (if neg then !b else b),.no)
 | .un op x=>(unV op (x.ev aA)).map (·,.no)
 | .fA k x=>match x.ev aA with
  | .c (.f (.int _ n))=>aa (.int k (k.wrap n),.no)| _=>ab
 | .y6 x=>match x.ev aA with
  | .c (.f (.str s))=>aa (.c (.f (.str s)),.no)| _=>ab
 | .vX x=>(DA g (x.ev aA)).map (·,.no)
 | .DB x=>match x.ev aA with
  | .c (.f (.str s))=>if s.size<2 ^ 48 then aa (.c (.sl d 0 s.size 0 0 1),.push (.bM 1 (s.toList.map fun b=>.f (.int .u8 b.toNat)) 0 0 .loc))else ab
  | _=>ab
 | .lG f j=>(ba sX (dh aA j)).map fun xs=>(.c (.cl f xs),.no)
 | .kI=>aa (.c (.mp d),.push (.map []))| .lookup q z m k=>(uZ g q z (m.ev aA) (k.ev aA)).map (·,.no)
 | .kG q m k v=>match m.ev aA,k.ev aA,sw (v.ev aA)with
  | .c (.mp b),.c (.f k),aa v=>match g b with
   | some (.map A)=>if isKey q k then(xU q k v A).map fun A=>(.top,.set b (.map A))else ab
   | _=>ab
  | _,_,_=>ab
 | .cM sz bytes zs l c=>match dy (l.ev aA),dy (c.ev aA)with
  | some l,aa c=>
   if 0≤l∧l≤c∧bW c.toNat bytes=ae∧zs.length=sz then
    (if c=0 then aa (.c (.f .es),.no)else
    aa (.c (.sl d 0 l.toNat c.toNat 0 sz),.push (.box ((cq c.toNat zs).map .f) 0)))
   else ab
  | _,_=>ab
 | .slice sz x lo hi mx=>(tO g sz (x.ev aA) (lo.map (·.ev aA)) (hi.map (·.ev aA)) (mx.map (·.ev aA))).map (·,.no)| .oU n sz x lo hi mx=>(zS g n sz (x.ev aA) (lo.map (·.ev aA)) (hi.map (·.ev aA)) (mx.map (·.ev aA))).map (·,.no)| .qH x lo hi=>(vB (x.ev aA) (lo.map (·.ev aA)) (hi.map (·.ev aA))).map (·,.no)| .aD off x=>(jn off (x.ev aA)).map (·,.no)| .field off n x=>(nv off n (x.ev aA)).map (·,.no)| .aW sz u x i=>(uR g sz u (x.ev aA) (i.ev aA)).map (·,.no)| .idxs x i=>(BD (x.ev aA) (i.ev aA)).map (·,.no)| .qd len sz n x i=>(mC len sz n (x.ev aA) (i.ev aA)).map (·,.no)
 | .range x=>match x.ev aA with
  | .c (.f (.str s))=>aa (.c (.it d),.push (.it s 0))| _=>ab
 | .next x=>D9 g (x.ev aA)
 | .extract x i=>match x.ev aA with
  | .t E=>(E[i]?).map (·,.no)| _=>ab
 | .uW n=>aa (.int .i64 n,.no)
 | .lens x=>match x.ev aA with
  | .c (.f (.str s))=>aa (.int .i64 (s.size:Nat),.no)| _=>ab
 | .len x=>match x.ev aA with
  | .c y=>match se g y with
   | some n=>aa (.int .i64 (n:Nat),.no)| none=>ab
  | _=>ab
 | .append sz bytes x y=>uj g d sz bytes (x.ev aA) (y.ev aA)| .copy sz x y=>Dz g sz (x.ev aA) (y.ev aA)| .mP lo xs=>(L9 lo (dh aA xs)).map (·,.no)| .clear sz zs x=>(yZ g sz zs (x.ev aA)).map (.t [],·)| .fU sz zs n ps=>((dv aA ((cq n zs).map .f) (ps.map fun p=>(p.1*sz,sz,p.2))).bind fun cs=>if n=0 then ab else ZN cs).map fun B=>(.c (.f (.fs B n)),.no)
 | .wu sz x hi mx=>EK g sz (x.ev aA) (hi.ev aA) (mx.ev aA)| .sV sz bytes zs x n=>Dr g d sz bytes zs (x.ev aA) (n.ev aA)| .mj x=>vn g d (x.ev aA)| .qu x=>zz g (x.ev aA)| .entry x=>(y_ g (x.ev aA)).map (·,.no)| .v7 f xs=>(ba sX (dh aA xs)).map fun xs=>(.c (.bm f xs),.no)
 | .cap x=>match x.ev aA with
  | .c y=>match EH g y with
   | some n=>aa (.int .i64 (n:Nat),.no)| none=>ab
  | _=>ab
 | _=>ab
def gt(H:aj):Nat→Option cT:=fun b=>H[b]?
theorem Bt(H:aj):uu (gt H)=aC H:=by funext x;unfold uu aC gt;rfl
theorem ad4(H:aj):ah7 (gt H)=aU H:=by funext n x;unfold ah7 aU;rw [Bt];rfl
theorem oD(H:aj):se (gt H)=bH H:=by funext x;unfold se bH gt;rfl
theorem sN(H:aj):qG (gt H)=cO H:=by funext n x;unfold qG cO gt;rfl
theorem LU(H:aj):rO (gt H)=isNil H:=by funext k x;unfold rO isNil gt;rfl
theorem adu(H:aj):ahH (gt H)=za H:=by funext k x y;unfold ahH za;rw [LU];rfl
theorem vA(H:aj):tO (gt H)=dw H:=by funext n x a b c;unfold tO dw gt;rfl
theorem EI(H:aj):zS (gt H)=kZ H:=by funext m n x a b c;unfold zS kZ gt;rfl
theorem BE(H:aj):uR (gt H)=aP H:=by funext n a x i;unfold uR aP gt;rfl
theorem BL(H:aj):uZ (gt H)=gv H:=by funext k z x y;unfold uZ gv gt;rfl
theorem Ln(H:aj):DA (gt H)=oO H:=by funext x;unfold DA oO;rw [oD,sN];rfl
theorem oX(H:aj):pR (gt H)=c4 H:=by funext n x;unfold pR c4;rw [oD,sN];rfl
theorem MA(H:aj):EH (gt H)=mH H:=by funext x;unfold EH mH gt;rfl
theorem DC(H:aj):y_ (gt H)=lW H:=by funext x;unfold y_ lW gt;rfl
def jU(H:aj)(r:Option (V × Be)):Option (V × aj):=r.map fun r=>(r.1,r.2.app H)
theorem zU(H:aj)(x:C)(xs:List C):(Zn (gt H) x xs).map (·.app H)=cE H x xs:=by
 cases x with
 | ptr b off g=>
  simp only [Zn,cE,gt];cases h:H[b]? with
  | none=>rfl
  | some bu=>
   cases bu with
   | box cs d=>simp only;split<;>rfl
   | bM sz cs d e st=>cases st<;>simp only<;>first | rfl | (split<;>rfl)
   | _=>rfl
 | _=>rfl
theorem Mf(H:aj)(x:V):jU H (D9 (gt H) x)=FQ H x:=by
 cases x with
 | c x=>
  cases x with
  | it b=>
   simp only [D9,FQ,gt,jU];cases h:H[b]? with
   | none=>rfl
   | some bu=>
    cases bu with
    | it s pos=>simp only;split<;>rfl
    | _=>rfl
  | _=>rfl
 | _=>rfl
theorem Ll(H:aj)(sz:Nat)(x y:V):jU H (Dz (gt H) sz x y)=copyV H sz x y:=by
 unfold Dz copyV jU;rw [oX];cases j:c4 H sz y with
 | none=>rfl
 | some r=>
  obtain⟨m,ys⟩:=r;cases x with
  | c x=>
   cases x with
   | f x=>cases x<;>rfl
   | sl b o l cap g s=>
    simp only [gt];cases h:H[b]? with
    | none=>rfl
    | some bu=>
     cases bu with
     | box cs d=>simp only;split<;>rfl
     | bM sz cs d e st=>cases st<;>simp only<;>first | rfl | (split<;>rfl)
     | _=>rfl
   | _=>rfl
  | _=>rfl
theorem Bk(H:aj)(sz bytes:Nat)(x y:V):jU H (uj (gt H) H.length sz bytes x y)=bU H sz bytes x y:=by
 unfold uj bU jU;rw [oX];cases q:c4 H sz y with
 | none=>rfl
 | some r=>
  obtain⟨m,ys⟩:=r;simp only;by_cases d:sz=0
  ·simp [d]
  ·simp only [d,if_false];cases x with
   | c x=>
    cases x with
    | f x=>cases x<;>first | rfl | (simp only;repeat' (first | rfl | split))
    | sl b o l cap j s=>
     simp only [gt];cases h:H[b]? with
     | none=>rfl
     | some bu=>
      cases bu with
      | box cs g=>simp only;repeat' (first | rfl | split)
      | bM sz cs g e st=>simp only;repeat' (first | rfl | split)
      | _=>rfl
    | _=>rfl
   | _=>rfl
theorem Dx(H:aj)(sz:Nat)(zs:List FC)(x:V):(yZ (gt H) sz zs x).map (·.app H)=uA H sz zs x:=by
 unfold yZ uA;cases x with
 | c y=>
  simp only [oD];cases bH H y with
  | none=>rfl
  | some l=>
   cases l with
   | zero=>rfl
   | succ l=>
    simp only;split
    ·cases y with
     | sl b o j c g s=>
      simp only [gt];cases h:H[b]? with
      | none=>rfl
      | some bu=>
       cases bu with
       | box cs d=>exact zU H _ _
       | bM s' cs d e st=>
        cases st<;>simp only<;>first | rfl | skip
        split
        ·exact zU H _ _
        ·rfl
       | _=>rfl
     | _=>rfl
    ·rfl
 | _=>rfl
theorem Lf(H:aj)(sz bytes:Nat)(zs:List FC)(x n:V):jU H (Dr (gt H) H.length sz bytes zs x n)=Fi H sz bytes zs x n:=by
 unfold Dr Fi jU;cases dy n with
 | none=>rfl
 | some n=>
  simp only;split
  ·cases x with
   | c x=>
    cases x with
    | f x=>cases x<;>first | rfl | (simp only;repeat' (first | rfl | split))
    | _=>rfl
   | _=>rfl
  ·rfl
theorem MD(H:aj)(sz:Nat)(x hi mx:V):jU H (EK (gt H) sz x hi mx)=Cs H sz x hi mx:=by
 unfold EK Cs jU;rw [vA];cases dw H sz x ab (aa hi) (aa mx)with
 | some v=>rfl
 | none=>
  simp only;cases x with
  | c x=>
   cases x with
   | sl b o n c d s=>
    simp only [gt];cases H[b]? with
    | none=>rfl
    | some bu=>
     cases bu with
     | bM s' cs g e st=>
      cases st<;>simp only<;>first | rfl | skip
      split
      ·cases Af hi n<;>cases Af mx n<;>simp only<;>first | rfl | skip
       split
       ·cases ba fcC (List.take _ cs)<;>rfl
       ·rfl
      ·rfl
     | _=>rfl
   | _=>rfl
  | _=>rfl
theorem D_(H:aj)(x:V):jU H (zz (gt H) x)=zy H x:=by
 cases x with
 | c x=>
  cases x with
  | mi b=>
   simp only [zz,zy,gt,jU];cases h:H[b]? with
   | none=>rfl
   | some bu=>
    cases bu with
    | vP m g done=>
     simp only;cases l:H[m]? with
     | none=>rfl
     | some d=>
      cases d with
      | map j=>
       match j with
       | []=>simp only;split<;>rfl
       | [e]=>simp only;repeat' (first | rfl | split)
       | _::_::_=>rfl
      | _=>rfl
    | _=>rfl
  | _=>rfl
 | _=>rfl
theorem Cc(H:aj)(x:V):jU H (vn (gt H) H.length x)=tK H x:=by
 cases x with
 | c x=>
  cases x with
  | mp b=>
   simp only [vn,tK,gt,jU];cases h:H[b]? with
   | none=>rfl
   | some bu=>
    cases bu with
    | map d=>simp only;split<;>rfl
    | _=>rfl
  | _=>rfl
 | _=>rfl
theorem Fg{H:aj}(o:Option V):jU H (o.map (·,.no))=o.map (·,H):=by cases o<;>rfl
theorem Aa(aA:T)(H:aj)(op:cP):jU H (ZB aA (gt H) H.length op)=bz aA H op:=by
 cases op<;>simp only [ZB,bz,Fg,ad4,vA,EI,BE,BL,Ln,Bk,Ll,Mf,Lf,MD,D_,Cc,DC]
 all_goals first | rfl | skip
 case pre o sz=>split<;>rfl
 case pick c a b=>
  generalize c.ev aA=v;cases v<;>try rfl
  rename_i x;cases x<;>try rfl
  rename_i x;cases x<;>rfl
 case box x=>generalize (x.ev aA).cells?=o;cases o<;>rfl
 case build zs ps=>cases dv aA (zs.map .f) ps<;>rfl
 case aV sz zs n ps=>
  split
  ·split<;>rfl
  ·simp only [jU,as5];rfl
 case fU sz zs n ps=>
  generalize (dv aA ((cq n zs).map .f) (ps.map fun p=>(p.1*sz,sz,p.2))).bind (fun cs=>if n=0 then ab else ZN cs)=o;cases o<;>rfl
 case store n x y=>
  generalize x.ev aA=v;generalize (y.ev aA).cells?=o;cases v<;>cases o<;>try rfl
  simp only;split
  ·rw [←zU];simp only [jU,as5];rfl
  ·rfl
 case bD x=>
  generalize x.ev aA=v;cases v<;>try rfl
  rename_i x;cases x<;>try rfl
  rename_i x;cases x<;>rfl
 case eq neg k x y=>rw [adu];simp only [jU,as5];rfl
 case fA k x=>
  generalize x.ev aA=v;cases v<;>try rfl
  rename_i x;cases x<;>try rfl
  rename_i x;cases x<;>rfl
 case y6 x=>
  generalize x.ev aA=v;cases v<;>try rfl
  rename_i x;cases x<;>try rfl
  rename_i x;cases x<;>rfl
 case DB x=>
  generalize x.ev aA=v;cases v<;>try rfl
  rename_i x;cases x<;>try rfl
  rename_i x;cases x<;>try rfl
  simp only;split<;>rfl
 case lG f d=>simp only [jU,as5];rfl
 case kG g m k v=>
  generalize m.ev aA=m;generalize k.ev aA=k;generalize sw (v.ev aA)=v;cases m<;>try rfl
  rename_i m;cases m<;>try rfl
  cases k<;>try rfl
  rename_i k;cases k<;>try rfl
  cases v<;>try rfl
  simp only [gt];rename_i b k v;cases H[b]? with
  | none=>rfl
  | some bu=>
   cases bu<;>try rfl
   simp only;split
   ·simp only [jU,as5];rfl
   ·rfl
 case cM sz bytes zs l c=>
  generalize dy (l.ev aA)=l;generalize dy (c.ev aA)=c;cases l<;>cases c<;>try rfl
  simp only;split
  ·split<;>rfl
  ·rfl
 case range x=>
  generalize x.ev aA=v;cases v<;>try rfl
  rename_i x;cases x<;>try rfl
  rename_i x;cases x<;>rfl
 case extract x i=>
  generalize x.ev aA=v;cases v<;>try rfl
  simp only [Fg]
 case len x=>
  generalize x.ev aA=v;cases v<;>try rfl
  rw [oD];simp only;rename_i y;cases bH H y<;>rfl
 case lens x=>
  generalize x.ev aA=v;cases v<;>try rfl
  rename_i x;cases x<;>try rfl
  rename_i x;cases x<;>rfl
 case clear sz zs x=>rw [←Dx];simp only [jU,as5];rfl
 case v7 f d=>simp only [jU,as5];rfl
 case cap x=>
  generalize x.ev aA=v;cases v<;>try rfl
  rw [MA];simp only;rename_i y;cases mH H y<;>rfl
section
inductive BT(α:Type) where
 | e
 | n (l:BT α) (x:α) (r:BT α)
def BT.get{d:Type}:BT d→Nat→Option d
 | .e,_=>ab
 | .n l x r,b=>match b with
  | 0=>aa x| m+1=>if m % 2=0 then l.get (m / 2)else r.get (m / 2)
abbrev HT:=BT cT
def gn{j:Type}(b:Nat)(t:BT j)(k:j→Prop):Prop:=
 BT.rec (motive:=fun _=>Nat→Prop) (fun _=>False)
  (fun _ x _ d g b=>Nat.rec (motive:=fun _=>Prop) (k x) (fun m _=>Nat.rec (motive:=fun _=>Prop) (d (Nat.div m 2)) (fun _ _=>g (Nat.div m 2)) (Nat.mod m 2)) b) t b
def gq{d:Type}(x:d)(t:BT d):Nat→(BT d→Prop)→Prop:=
 BT.rec (motive:=fun _=>Nat→(BT d→Prop)→Prop) (fun _ _=>False)
  (fun l y r g j b k=>Nat.rec (motive:=fun _=>Prop) (k (.n l x r))
   (fun m _=>Nat.rec (motive:=fun _=>Prop) (g (Nat.div m 2) fun q=>k (.n q y r)) (fun _ _=>j (Nat.div m 2) fun r'=>k (.n l y r')) (Nat.mod m 2)) b) t
def yU{d:Type}(x:d)(t:BT d):Nat→(BT d→Prop)→Prop:=
 BT.rec (motive:=fun _=>Nat→(BT d→Prop)→Prop) (fun b k=>Nat.rec (motive:=fun _=>Prop) (k (.n .e x .e)) (fun _ _=>False) b)
  (fun l y r g j b k=>Nat.rec (motive:=fun _=>Prop) False
   (fun m _=>Nat.rec (motive:=fun _=>Prop) (g (Nat.div m 2) fun q=>k (.n q y r)) (fun _ _=>j (Nat.div m 2) fun r'=>k (.n l y r')) (Nat.mod m 2)) b) t
theorem Yd(m:Nat):m % 2=0∨m % 2=1:=by omega
theorem dm{u:Type}{t:BT u}:∀ {b:Nat} {k:u→Prop},gn b t k→∃ x,t.get b=aa x∧k x:=by
 induction t with
 | e=>intro b k h;exact h.elim
 | n l x r q s=>
  intro b k h;cases b with
  | zero=>exact⟨x,rfl,h⟩
  | succ m=>
   have j:Nat.rec (motive:=fun _=>Prop) (gn (m / 2) l k) (fun _ _=>gn (m / 2) r k) (m % 2):=h;rcases Yd m with e | e<;>rw [e]at j
   ·obtain⟨y,d,g⟩:=q j;exact⟨y,by simp [BT.get,e,d],g⟩
   ·obtain⟨y,d,g⟩:=s j;exact⟨y,by simp [BT.get,e,d],g⟩
def oM{d:Type}(t g:BT d)(b:Nat)(x:d):Prop:=∀ i,g.get i=if i=b then aa x else t.get i
theorem oM.left{g:Type}{l d r:BT g}{y x:g}{m:Nat}(e:m % 2=0)(h:oM l d (m / 2) x):oM (.n l y r) (.n d y r) (m+1) x:=by
 intro i;cases i with
 | zero=>simp [BT.get]
 | succ j=>
  simp only [BT.get,h (j / 2)];rcases Yd j with b | b
  ·have:(j / 2=m / 2)↔(j=m):=by omega
   simp [b,this]
  ·have:j≠m:=by omega
   simp [b,this]
theorem oM.right{d:Type}{l r' r:BT d}{y x:d}{m:Nat}(e:m % 2=1)(h:oM r r' (m / 2) x):oM (.n l y r) (.n l y r') (m+1) x:=by
 intro i;cases i with
 | zero=>simp [BT.get]
 | succ j=>
  simp only [BT.get,h (j / 2)];rcases Yd j with b | b
  ·have:j≠m:=by omega
   simp [b,this]
  ·have:(j / 2=m / 2)↔(j=m):=by omega
   simp [b,this]
theorem Xg{A:Type}{x:A}{t:BT A}:∀ {b:Nat} {k:BT A→Prop},gq x t b k→∃ B,oM t B b x∧(∃ y,t.get b=aa y)∧k B:=by
 induction t with
 | e=>intro b k h;exact h.elim
 | n l y r s u=>
  intro b k h;cases b with
  | zero=>
   refine⟨.n l x r,fun i=>?_,⟨y,rfl⟩,h⟩;cases i<;>simp [BT.get]
  | succ m=>
   have q:Nat.rec (motive:=fun _=>Prop) (gq x l (m / 2) fun v=>k (.n v y r)) (fun _ _=>gq x r (m / 2) fun r'=>k (.n l y r')) (m % 2):=h;rcases Yd m with e | e<;>rw [e]at q
   ·obtain⟨v,d,⟨z,g⟩,j⟩:=s q;exact⟨_,d.left e,⟨z,by simp [BT.get,e,g]⟩,j⟩
   ·obtain⟨v,d,⟨z,g⟩,j⟩:=u q;exact⟨_,d.right e,⟨z,by simp [BT.get,e,g]⟩,j⟩
theorem Lh{v:Type}{x:v}{t:BT v}:∀ {b:Nat} {k:BT v→Prop},yU x t b k→∃ z,oM t z b x∧k z:=by
 induction t with
 | e=>
  intro b k h;cases b with
  | zero=>
   refine⟨.n .e x .e,fun i=>?_,h⟩;cases i<;>simp [BT.get]
  | succ m=>exact h.elim
 | n l y r q s=>
  intro b k h;cases b with
  | zero=>exact h.elim
  | succ m=>
   have j:Nat.rec (motive:=fun _=>Prop) (yU x l (m / 2) fun u=>k (.n u y r)) (fun _ _=>yU x r (m / 2) fun r'=>k (.n l y r')) (m % 2):=h;rcases Yd m with e | e<;>rw [e]at j
   ·obtain⟨u,d,g⟩:=q j;exact⟨_,d.left e,g⟩
   ·obtain⟨u,d,g⟩:=s j;exact⟨_,d.right e,g⟩
def cS(H:aj)(t:HT):Prop:=t.get=gt H
theorem cS.nil:cS [] .e:=by funext b;simp [BT.get,gt]
theorem cS.set{H:aj}{t g:HT}(h:cS H t){b:Nat}{x:cT}(l:oM t g b x)(j:∃ y,t.get b=aa y):cS (H.set b x) g:=by
 funext i;obtain⟨y,hy⟩:=j;rw [h]at hy;have d:b<H.length:=(By.1 hy).1;rw [l i,h];simp only [gt];by_cases e:i=b
 ·subst e;simp [d]
 ·simp [e,AI (Ne.symm e)]
theorem cS.push{H:aj}{t b:HT}(h:cS H t){x:cT}(d:oM t b H.length x):cS (H++[x]) b:=by
 funext i;rw [d i,h];simp only [gt];by_cases e:i=H.length
 ·subst e;simp
 ·by_cases hi:i<H.length
  ·simp [e,List.getElem?_append_left hi]
  ·rw [arY (by omega)];have:i-H.length≠0:=by omega
   simp [e,asS (l:=H) (i:=i) (by omega),this]
def ca(n:Nat)(k:Nat→Prop):Prop:=Nat.rec (motive:=fun _=>Prop) (k 0) (fun m _=>k (Nat.succ m)) n
def rF(n:Int)(k:Int→Prop):Prop:=Int.rec (motive:=fun _=>Prop) (fun n=>ca n fun n=>k (.ofNat n)) (fun n=>ca n fun n=>k (.negSucc n)) n
def nw(b:Bool)(k:Bool→Prop):Prop:=Bool.rec (motive:=fun _=>Prop) (k ag) (k ae) b
theorem cg(n:Nat)(k:Nat→Prop):ca n k=k n:=by cases n<;>rfl
theorem xA(n:Int)(k:Int→Prop):rF n k=k n:=by cases n<;>simp only [rF,cg]
theorem gM(b:Bool)(k:Bool→Prop):nw b k=k b:=by cases b<;>rfl
def DG(x:FC)(k:FC→Prop):Prop:=match x with
 | .bool b=>nw b fun b=>k (.bool b)
 | .int j n=>rF n fun n=>k (.int j n)
 | .fp cs o=>ca o fun o=>k (.fp cs o)
 | .fs cs l=>ca l fun l=>k (.fs cs l)
 | x=>k x
theorem LB(x:FC)(k:FC→Prop):DG x k=k x:=by cases x<;>simp only [DG,cg,xA,gM]
def rD(x:C)(k:C→Prop):Prop:=match x with
 | .f x=>DG x fun x=>k (.f x)
 | .ptr b o e=>ca b fun b=>ca o fun o=>ca e fun e=>k (.ptr b o e)
 | .sl b o l c e s=>ca b fun b=>ca o fun o=>ca l fun l=>ca c fun c=>ca e fun e=>ca s fun s=>k (.sl b o l c e s)
 | x=>k x
theorem rE(x:C)(k:C→Prop):rD x k=k x:=by cases x<;>simp only [rD,cg,LB]
def ny(xs:List C):(List C→Prop)→Prop:=
 List.rec (motive:=fun _=>(List C→Prop)→Prop) (fun k=>k []) (fun x _ b k=>rD x fun x=>b fun xs=>k (x::xs)) xs
theorem lD:∀(xs:List C) (k:List C→Prop),ny xs k=k xs
 | [],k=>rfl
 | x::xs,k=>by
  show rD x (fun x=>ny xs fun xs=>k (x::xs))=_;rw [rE,lD xs]
def tz(v:V)(k:V→Prop):Prop:=match v with
 | .c x=>rD x fun x=>k (.c x)
 | .a xs=>ny xs fun xs=>k (.a xs)
 | v=>k v
theorem DH(v:V)(k:V→Prop):tz v k=k v:=by cases v<;>simp only [tz,rE,lD]
def zf(xs:List V):(List V→Prop)→Prop:=
 List.rec (motive:=fun _=>(List V→Prop)→Prop) (fun k=>k []) (fun x _ b k=>tz x fun x=>b fun xs=>k (x::xs)) xs
theorem uN:∀(xs:List V) (k:List V→Prop),zf xs k=k xs
 | [],k=>rfl
 | x::xs,k=>by
  show tz x (fun x=>zf xs fun xs=>k (x::xs))=_;rw [DH,uN xs]
def lY(v:V)(k:V→Prop):Prop:=match v with
 | .c x=>rD x fun x=>k (.c x)
 | .a xs=>ny xs fun xs=>k (.a xs)
 | .t b=>zf b fun b=>k (.t b)
 | .top=>k .top
theorem rG(v:V)(k:V→Prop):lY v k=k v:=by cases v<;>simp only [lY,rE,lD,uN]
def rH(x:cT)(k:cT→Prop):Prop:=match x with
 | .box cs b=>ny cs fun cs=>ca b fun b=>k (.box cs b)
 | .bM sz cs b e st=>ny cs fun cs=>ca b fun b=>ca e fun e=>k (.bM sz cs b e st)
 | .it s p=>ca p fun p=>k (.it s p)
 | x=>k x
theorem xB(x:cT)(k:cT→Prop):rH x k=k x:=by cases x<;>simp only [rH,cg,lD]
def BC(p:P):T→(V→Prop)→Prop:=
 P.rec (motive:=fun _=>T→(V→Prop)→Prop)
  (fun t k=>T.rec (motive:=fun _=>Prop) (k .top) (fun _ v _ _ _=>k v) t)
  (fun _ b t k=>T.rec (motive:=fun _=>Prop) (k .top) (fun l _ _ _ _=>b l k) t)
  (fun _ b t k=>T.rec (motive:=fun _=>Prop) (k .top) (fun _ _ r _ _=>b r k) t) p
theorem oe:∀(p:P) (t:T) (k:V→Prop),BC p t k=k (t.get p)
 | .h,.e,k=>rfl| .h,.n _ _ _,k=>rfl| .o p,.e,k=>rfl| .o p,.n l _ _,k=>oe p l k| .i p,.e,k=>rfl| .i p,.n _ _ r,k=>oe p r k
def aff(p:P)(w:V):T→(T→Prop)→Prop:=
 P.rec (motive:=fun _=>T→(T→Prop)→Prop)
  (fun t k=>T.rec (motive:=fun _=>Prop) (k (.n .e w .e)) (fun l _ r _ _=>k (.n l w r)) t)
  (fun _ b t k=>T.rec (motive:=fun _=>Prop) (b .e fun l=>k (.n l .top .e)) (fun l v r _ _=>b l fun l=>k (.n l v r)) t)
  (fun _ b t k=>T.rec (motive:=fun _=>Prop) (b .e fun r=>k (.n .e .top r)) (fun l v r _ _=>b r fun r=>k (.n l v r)) t) p
theorem oC(w:V):∀(p:P) (t:T) (k:T→Prop),aff p w t k=k (t.set p w)
 | .h,.e,k=>rfl| .h,.n _ _ _,k=>rfl| .o p,.e,k=>oC w p .e _| .o p,.n l _ _,k=>oC w p l _| .i p,.e,k=>oC w p .e _| .i p,.n _ _ r,k=>oC w p r _
def pX(x:Arg)(r:T)(k:V→Prop):Prop:=Arg.rec (motive:=fun _=>Prop) (fun p=>BC p r k) (fun v=>k v) x
theorem de(x:Arg)(r:T)(k:V→Prop):pX x r k=k (x.ev r):=by cases x;exact oe _ _ _;rfl
def Bm(xs:List Arg)(r:T):(List V→Prop)→Prop:=
 List.rec (motive:=fun _=>(List V→Prop)→Prop) (fun k=>k []) (fun x _ b k=>pX x r fun v=>b fun d=>k (v::d)) xs
theorem pS(r:T):∀(xs:List Arg) (k:List V→Prop),Bm xs r k=k (dh r xs)
 | [],k=>rfl
 | x::xs,k=>by
  show pX x r (fun v=>Bm xs r fun b=>k (v::b))=_;rw [de,pS r xs];rfl
def ajG(d:Option P)(r:T)(v:V)(k:T→Prop):Prop:=Option.rec (motive:=fun _=>Prop) (k r) (fun d=>aff d v r k) d
theorem F_(d:Option P)(r:T)(v:V)(k:T→Prop):ajG d r v k=k (ke r d v):=by cases d;rfl;exact oC _ _ _ _
def tN(ps:List P):List V→T→(T→Prop)→Prop:=
 List.rec (motive:=fun _=>List V→T→(T→Prop)→Prop) (fun _ r k=>k r)
  (fun p _ d b r k=>List.rec (motive:=fun _=>Prop) (k r) (fun v b _=>aff p v r fun r=>d b r k) b) ps
theorem px:∀(ps:List P) (b:List V) (r:T) (k:T→Prop),tN ps b r k=k (cG ps b r)
 | [],b,r,k=>by cases b<;>rfl
 | p::ps,[],r,k=>rfl
 | p::ps,v::b,r,k=>by
  show aff p v r (fun r=>tN ps b r k)=_;rw [oC,px ps];rfl
def aeh{b:Type}(n:Nat):List b→(b→Prop)→Prop:=
 Nat.rec (motive:=fun _=>List b→(b→Prop)→Prop) (fun xs k=>List.rec (motive:=fun _=>Prop) False (fun x _ _=>k x) xs)
  (fun _ d xs k=>List.rec (motive:=fun _=>Prop) False (fun _ xs _=>d xs k) xs) n
theorem tE{b:Type}:∀ {n:Nat} {xs:List b} {k:b→Prop},aeh n xs k→∃ x,xs[n]?=aa x∧k x
 | 0,[],_,h=>h.elim| 0,x::_,_,h=>⟨x,rfl,h⟩| n+1,[],_,h=>h.elim| n+1,_::xs,k,h=>tE (n:=n) (xs:=xs) (k:=k) h
def uH{b:Type}(n:Nat):List b→(List b→Prop)→Prop:=
 Nat.rec (motive:=fun _=>List b→(List b→Prop)→Prop) (fun xs k=>k xs)
  (fun _ d xs k=>List.rec (motive:=fun _=>Prop) (k []) (fun _ xs _=>d xs k) xs) n
theorem nm{b:Type}:∀(n:Nat) (xs:List b) (k:List b→Prop),uH n xs k=k (xs.drop n)
 | 0,xs,k=>rfl| n+1,[],k=>rfl| n+1,_::xs,k=>nm n xs k
def rA{b:Type}(n:Nat):List b→(List b→Prop)→Prop:=
 Nat.rec (motive:=fun _=>List b→(List b→Prop)→Prop) (fun xs k=>k xs)
  (fun _ d xs k=>List.rec (motive:=fun _=>Prop) False (fun _ xs _=>d xs k) xs) n
theorem jN{b:Type}:∀ {n:Nat} {xs:List b} {k:List b→Prop},rA n xs k→n≤xs.length∧k (xs.drop n)
 | 0,xs,k,h=>⟨by simp,h⟩
 | n+1,[],k,h=>h.elim
 | n+1,x::xs,k,h=>by
  obtain⟨g,d⟩:=jN (n:=n) (xs:=xs) (k:=k) h;exact⟨by simp;omega,d⟩
def mM{b:Type}(n:Nat):List b→(List b→Prop)→Prop:=
 Nat.rec (motive:=fun _=>List b→(List b→Prop)→Prop) (fun _ k=>k [])
  (fun _ d xs k=>List.rec (motive:=fun _=>Prop) False (fun x xs _=>d xs fun ys=>k (x::ys)) xs) n
theorem fL{b:Type}:∀ {n:Nat} {xs:List b} {k:List b→Prop},mM n xs k→n≤xs.length∧k (xs.take n)
 | 0,xs,k,h=>⟨by simp,by have d:k []:=h;simpa using d⟩
 | n+1,[],k,h=>h.elim
 | n+1,x::xs,k,h=>by
  obtain⟨j,g⟩:=fL (n:=n) (xs:=xs) (k:=fun ys=>k (x::ys)) h;exact⟨by simp;omega,by simpa using g⟩
def al6{b:Type}(xs:List b):List b→(List b→Prop)→Prop:=
 List.rec (motive:=fun _=>List b→(List b→Prop)→Prop) (fun cs k=>k cs)
  (fun x _ d cs k=>List.rec (motive:=fun _=>Prop) False (fun _ cs _=>d cs fun ys=>k (x::ys)) cs) xs
theorem FJ{b:Type}:∀ {xs cs:List b} {k:List b→Prop},al6 xs cs k→xs.length≤cs.length∧k (xs++cs.drop xs.length)
 | [],cs,k,h=>⟨by simp,by have d:k cs:=h;simpa using d⟩
 | x::xs,[],k,h=>h.elim
 | x::xs,c::cs,k,h=>by
  obtain⟨j,g⟩:=FJ (xs:=xs) (cs:=cs) (k:=fun ys=>k (x::ys)) h;exact⟨by simp;omega,by simpa using g⟩
def vg{b:Type}(xs:List b)(off:Nat):List b→(List b→Prop)→Prop:=
 Nat.rec (motive:=fun _=>List b→(List b→Prop)→Prop) (fun cs k=>al6 xs cs k)
  (fun _ d cs k=>List.rec (motive:=fun _=>Prop) False (fun c cs _=>d cs fun ys=>k (c::ys)) cs) off
theorem lI{d:Type}{xs:List d}:∀ {off:Nat} {cs:List d} {k:List d→Prop},vg xs off cs k→off+xs.length≤cs.length∧k (over cs off xs)
 | 0,cs,k,h=>by
  obtain⟨g,b⟩:=FJ (xs:=xs) (cs:=cs) (k:=k) h;exact⟨by omega,by simpa [over]using b⟩
 | n+1,[],k,h=>h.elim
 | n+1,c::cs,k,h=>by
  obtain⟨g,b⟩:=lI (off:=n) (cs:=cs) (k:=fun ys=>k (c::ys)) h;refine⟨by simp;omega,?_⟩;have:n+1+xs.length=(n+xs.length)+1:=by omega
  simpa [over,this]using b
def ahB{b:Type}(xs ys:List b):(List b→Prop)→Prop:=
 List.rec (motive:=fun _=>(List b→Prop)→Prop) (fun k=>k ys) (fun x _ d k=>d fun zs=>k (x::zs)) xs
theorem yX{b:Type}(ys:List b):∀(xs:List b) (k:List b→Prop),ahB xs ys k=k (xs++ys)
 | [],k=>rfl| x::xs,k=>yX ys xs fun zs=>k (x::zs)
def fzK(zs:List FC):(List C→Prop)→Prop:=
 List.rec (motive:=fun _=>(List C→Prop)→Prop) (fun k=>k []) (fun z _ b k=>b fun cs=>k (.f z::cs)) zs
theorem rI:∀(zs:List FC) (k:List C→Prop),fzK zs k=k (zs.map .f)
 | [],k=>rfl| z::zs,k=>rI zs fun cs=>k (.f z::cs)
def ltB:Int→Int→Bool
 | .ofNat a,.ofNat b=>Nat.ble (Nat.succ a) b| .ofNat _,.negSucc _=>ag| .negSucc _,.ofNat _=>ae| .negSucc a,.negSucc b=>Nat.ble (Nat.succ b) a
theorem zp(x y:Int):ltB x y=decide (x<y):=by
 have e:∀ n:Nat,Int.ofNat n=(n:Int):=fun _=>rfl;cases x<;>cases y<;>simp only [ltB]<;>rw [Bool.eq_iff_iff]<;>simp only [Nat.ble_eq,decide_eq_true_eq,arQ,false_iff,true_iff,e,Nat.succ_eq_add_one]<;>omega
def eqB:Int→Int→Bool
 | .ofNat a,.ofNat b=>Nat.beq a b| .negSucc a,.negSucc b=>Nat.beq a b| _,_=>ag
theorem Xw(x y:Int):eqB x y=(x == y):=by
 have e:∀ n:Nat,Int.ofNat n=(n:Int):=fun _=>rfl;cases x<;>cases y<;>simp only [eqB]<;>rw [Bool.eq_iff_iff]<;>simp only [Nat.beq_eq,beq_iff_eq,arQ,false_iff,e]<;>omega
def yz(j:IntKind)(n:Int)(k:Int→Prop):Prop:=match j with
 | .i64=>Int.rec (motive:=fun _=>Prop)
   (fun n=>ca n fun n=>Bool.rec (motive:=fun _=>Prop) (rF (IntKind.i64.wrap (.ofNat n)) k) (k (.ofNat n)) (Nat.ble n 9223372036854775807))
   (fun n=>ca n fun n=>Bool.rec (motive:=fun _=>Prop) (rF (IntKind.i64.wrap (.negSucc n)) k) (k (.negSucc n)) (Nat.ble n 9223372036854775807)) n
 | j=>rF (j.wrap n) k
theorem wrap64_in{n:Int}(g:-9223372036854775808≤n)(j:n≤9223372036854775807):IntKind.i64.wrap n=n:=by
 simp only [IntKind.wrap,IntKind.bits,IntKind.signed];have b:(2 ^ 64:Int)=18446744073709551616:=by decide
 have d:(2 ^ (64-1):Int)=9223372036854775808:=by decide
 simp only [b,d,Bool.true_and,decide_eq_true_eq];split<;>omega
theorem qN(j:IntKind)(n:Int)(k:Int→Prop):yz j n k=k (j.wrap n):=by
 cases j<;>simp only [yz,xA];cases n with
 | ofNat n=>
  simp only [cg];cases h:Nat.ble n 9223372036854775807 with
  | false=>rfl
  | true=>
   have:=asM h;have e:Int.ofNat n=(n:Int):=rfl;rw [wrap64_in (by rw [e];omega) (by rw [e];omega)]
 | negSucc n=>
  simp only [cg];cases h:Nat.ble n 9223372036854775807 with
  | false=>rfl
  | true=>
   have:=asM h;rw [wrap64_in (by omega) (by omega)]
end
section
def ik(a b:Nat)(p:Prop):Prop:=Bool.rec (motive:=fun _=>Prop) False p (Nat.beq a b)
def sW(a b:Nat)(p:Prop):Prop:=Bool.rec (motive:=fun _=>Prop) False p (Nat.ble a b)
def nk(b:Bool)(p:Prop):Prop:=Bool.rec (motive:=fun _=>Prop) False p b
def rX{b:Type}(o:Option b)(k:b→Prop):Prop:=Option.rec (motive:=fun _=>Prop) False k o
theorem cV{a b:Nat}{p:Prop}(h:ik a b p):a=b∧p:=by
 unfold ik at h;cases e:Nat.beq a b with
 | false=>rw [e]at h;exact h.elim| true=>rw [e]at h;exact⟨asG e,h⟩
theorem gV{a b:Nat}{p:Prop}(h:sW a b p):a≤b∧p:=by
 unfold sW at h;cases e:Nat.ble a b with
 | false=>rw [e]at h;exact h.elim| true=>rw [e]at h;exact⟨asM e,h⟩
theorem jV{b:Bool}{p:Prop}(h:nk b p):b=ae∧p:=by cases b;exact h.elim;exact⟨rfl,h⟩
theorem kL{b:Type}{o:Option b}{k:b→Prop}(h:rX o k):∃ x,o=aa x∧k x:=by cases o;exact h.elim;exact⟨_,rfl,h⟩
def oT(x:cT)(t:HT)(n:Nat)(k:HT→Nat→Prop):Prop:=yU x t n fun t=>ca (Nat.succ n) fun n=>k t n
theorem iw{H:aj}{t:HT}(h:cS H t){x:cT}{k:HT→Nat→Prop}(j:oT x t H.length k):∃ b,cS (H++[x]) b∧k b (H++[x]).length:=by
 obtain⟨b,g,d⟩:=Lh j;rw [cg]at d;exact⟨b,h.push g,by simpa using d⟩
theorem dY{H:aj}{t:HT}(h:cS H t){b:Nat}{x:cT}{k:HT→Prop}(m:gq x t b k):∃ d,cS (H.set b x) d∧k d:=by
 obtain⟨d,g,j,l⟩:=Xg m;exact⟨d,h.set g j,l⟩
def ahG(e:Be)(t:HT)(n:Nat)(k:HT→Nat→Prop):Prop:=
 Be.rec (motive:=fun _=>Prop) (k t n) (fun b x=>rH x fun x=>gq x t b fun t=>k t n) (fun x=>rH x fun x=>oT x t n k) e
theorem adp{H:aj}{t:HT}(h:cS H t){e:Be}{k:HT→Nat→Prop}(d:ahG e t H.length k):∃ g,cS (e.app H) g∧k g (e.app H).length:=by
 cases e with
 | no=>exact⟨t,h,d⟩
 | set b x=>
  have d:rH x fun x=>gq x t b fun t=>k t H.length:=d;rw [xB]at d;obtain⟨g,j,l⟩:=dY h d;exact⟨g,j,by simpa [Be.app]using l⟩
 | push x=>
  have d:rH x fun x=>oT x t H.length k:=d;rw [xB]at d;exact iw h d
def alR(op:cP)(r:T)(t:HT)(n:Nat)(k:V→HT→Nat→Prop):Prop:=
 rX (ZB r t.get n op) fun r=>Prod.rec (motive:=fun _=>Prop) (fun v e=>lY v fun v=>ahG e t n (k v)) r
def OpS(op:cP)(r:T)(m:HT→Nat→(V→HT→Nat→Prop)→Prop):Prop:=
 ∀(H:aj) (t:HT) (k:V→HT→Nat→Prop),cS H t→m t H.length k→∃ v H' b,bz r H op=aa (v,H')∧cS H' b∧k v b H'.length
theorem adD(op:cP)(r:T):OpS op r (alR op r):=by
 intro H t k h l;obtain⟨⟨v,e⟩,d,b⟩:=kL l;have b:lY v fun v=>ahG e t H.length (k v):=b;rw [rG]at b;obtain⟨m,g,j⟩:=adp h b;refine⟨v,e.app H,m,?_,g,j⟩;rw [h]at d;rw [←Aa,d];rfl
def uz(v:V)(k:List C→Prop):Prop:=match v with
 | .c x=>k [x]| .a xs=>k xs| _=>False
theorem ry{v:V}{k:List C→Prop}(h:uz v k):∃ xs,v.cells?=aa xs∧k xs:=by
 cases v with
 | c x=>exact⟨_,rfl,h⟩| a xs=>exact⟨_,rfl,h⟩| _=>exact h.elim
def F6(n:Option Nat)(off:Nat)(cs:List C)(k:V→Prop):Prop:=
 Option.rec (motive:=fun _=>Prop) (aeh off cs fun c=>k (.c c)) (fun m=>uH off cs fun cs=>mM m cs fun cs=>k (.a cs)) n
theorem vl{n:Option Nat}{off:Nat}{cs:List C}{k:V→Prop}(h:F6 n off cs k):∃ v,aK n (cs.drop off)=aa v∧k v:=by
 cases n with
 | none=>
  obtain⟨c,b,d⟩:=tE h;refine⟨.c c,?_,d⟩;rw [←Nat.add_zero off,←arV]at b;cases e:cs.drop off with
  | nil=>rw [e]at b;simp at b| cons y ys=>rw [e]at b;simp at b;subst b;rfl
 | some m=>
  have h:uH off cs fun cs=>mM m cs fun cs=>k (.a cs):=h;rw [nm]at h;obtain⟨b,d⟩:=fL h;exact⟨_,bp b,d⟩
def YJ(n:Option Nat)(off:Nat)(cs:List FC)(k:V→Prop):Prop:=
 Option.rec (motive:=fun _=>Prop) (aeh off cs fun c=>k (.c (.f c))) (fun m=>uH off cs fun cs=>mM m cs fun cs=>fzK cs fun cs=>k (.a cs)) n
theorem Mr{n:Option Nat}{off:Nat}{cs:List FC}{k:V→Prop}(h:YJ n off cs k):∃ v,aK n ((cs.drop off).map .f)=aa v∧k v:=by
 cases n with
 | none=>
  obtain⟨c,b,d⟩:=tE h;refine⟨.c (.f c),?_,d⟩;rw [←Nat.add_zero off,←arV]at b;cases e:cs.drop off with
  | nil=>rw [e]at b;simp at b| cons y ys=>rw [e]at b;simp at b;subst b;rfl
 | some m=>
  have h:uH off cs fun cs=>mM m cs fun cs=>fzK cs fun cs=>k (.a cs):=h;rw [nm]at h;obtain⟨b,d⟩:=fL h;rw [rI]at d;refine⟨_,bp (by simpa using b),?_⟩;rw [←List.map_take];exact d
def ldK(t:HT)(n:Option Nat)(x:V)(k:V→Prop):Prop:=match x with
 | .c (.ptr b off d)=>gn b t fun bu=>match bu with
  | .box cs _=>F6 n off cs k| .bM _ cs _ e .loc=>ik d e (F6 n off cs k)| _=>False
 | .c (.f (.fp cs off))=>YJ n off cs k| _=>False
theorem XV{H:aj}{t:HT}(h:cS H t){n:Option Nat}{x:V}{k:V→Prop}(m:ldK t n x k):∃ v,aU H n x=aa v∧k v:=by
 unfold ldK at m;split at m
 ·rename_i b off s;obtain⟨bu,g,d⟩:=dm m;rw [h]at g;have g:H[b]?=aa bu:=g;split at d
  ·obtain⟨v,j,l⟩:=vl d;exact⟨v,by simp [aU,aC,g,j],l⟩
  ·obtain⟨q,d⟩:=cV d;obtain⟨v,j,l⟩:=vl d;exact⟨v,by simp [aU,aC,g,j,q],l⟩
  ·exact d.elim
 ·obtain⟨v,j,l⟩:=Mr m;exact⟨v,by simp only [aU,aC,Option.bind_some,j],l⟩
 ·exact m.elim
def stK(t:HT)(x:C)(xs:List C)(k:HT→Prop):Prop:=match x with
 | .ptr b off g=>gn b t fun bu=>match bu with
  | .box cs d=>sW d off (vg xs off cs fun cs=>gq (.box cs d) t b k)
  | .bM sz cs d e .loc=>ik g e (sW d off (vg xs off cs fun cs=>gq (.bM sz cs d e .loc) t b k))
  | _=>False
 | _=>False
theorem ajV{H:aj}{t:HT}(h:cS H t){x:C}{xs:List C}{k:HT→Prop}(l:stK t x xs k):∃ H' g,cE H x xs=aa H'∧cS H' g∧H'.length=H.length∧k g:=by
 unfold stK at l;split at l
 ·rename_i b off y;obtain⟨bu,j,d⟩:=dm l;rw [h]at j;have j:H[b]?=aa bu:=j;split at d
  ·obtain⟨m,d⟩:=gV d;obtain⟨q,d⟩:=lI d;obtain⟨g,s,u⟩:=dY h d;exact⟨_,g,by simp [cE,j,m,q],s,by simp,u⟩
  ·obtain⟨v,d⟩:=cV d;obtain⟨m,d⟩:=gV d;obtain⟨q,d⟩:=lI d;obtain⟨g,s,u⟩:=dY h d;exact⟨_,g,by simp [cE,j,v,m,q],s,by simp,u⟩
  ·exact d.elim
 ·exact l.elim
def mB(op:BinOp)(j:IntKind)(x y:Int)(k:V→Prop):Prop:=match op with
 | .add=>yz j (Int.add x y) fun n=>k (.c (.f (.int j n)))
 | .sub=>yz j (Int.sub x y) fun n=>k (.c (.f (.int j n)))
 | .mul=>yz j (Int.mul x y) fun n=>k (.c (.f (.int j n)))
 | .eql=>nw (eqB x y) fun b=>k (.c (.f (.bool b)))
 | .neq=>nw (!eqB x y) fun b=>k (.c (.f (.bool b)))
 | .lss=>nw (ltB x y) fun b=>k (.c (.f (.bool b)))
 | .leq=>nw (!ltB y x) fun b=>k (.c (.f (.bool b)))
 | .gtr=>nw (ltB y x) fun b=>k (.c (.f (.bool b)))
 | .geq=>nw (!ltB x y) fun b=>k (.c (.f (.bool b)))
 | op=>rX (lu op j x y) fun v=>lY v k
theorem u_(x y:Int):(!decide (x<y))=decide (y≤x):=by
 rw [Bool.eq_iff_iff];simp
theorem Xa{op:BinOp}{j:IntKind}{x y:Int}{k:V→Prop}(h:mB op j x y k):∃ v,lu op j x y=aa v∧k v:=by
 cases op
 case add=>simp only [mB,qN]at h;exact⟨_,rfl,h⟩
 case sub=>simp only [mB,qN]at h;exact⟨_,rfl,h⟩
 case mul=>simp only [mB,qN]at h;exact⟨_,rfl,h⟩
 case eql=>simp only [mB,gM,Xw]at h;exact⟨_,rfl,h⟩
 case neq=>simp only [mB,gM,Xw]at h;exact⟨_,rfl,h⟩
 case lss=>simp only [mB,gM,zp]at h;exact⟨_,rfl,h⟩
 case leq=>simp only [mB,gM,zp,u_]at h;exact⟨_,rfl,h⟩
 case gtr=>simp only [mB,gM,zp]at h;exact⟨_,rfl,h⟩
 case geq=>simp only [mB,gM,zp,u_]at h;exact⟨_,rfl,h⟩
 all_goals
  simp only [mB]at h;obtain⟨v,d,b⟩:=kL h;rw [rG]at b;exact⟨v,d,b⟩
def XR(j b:IntKind)(p:Prop):Prop:=match j,b with
 | .i64,.i64=>p| j,b=>nk (decide (j=b)) p
theorem XS{j b:IntKind}{p:Prop}(h:XR j b p):j=b∧p:=by
 unfold XR at h;split at h
 ·exact⟨rfl,h⟩
 ·obtain⟨d,g⟩:=jV h;exact⟨of_decide_eq_true d,g⟩
def Xb(op:BinOp)(x y:V)(k:V→Prop):Prop:=match x,y with
 | .c (.f (.int j a)),.c (.f (.int d b))=>match op with
  | .shl=>rX (bS .shl x y) fun v=>lY v k
  | .shr=>rX (bS .shr x y) fun v=>lY v k
  | op=>XR j d (mB op j a b k)
 | x,y=>rX (bS op x y) fun v=>lY v k
theorem ade{op:BinOp}{x y:V}{k:V→Prop}(h:Xb op x y k):∃ v,bS op x y=aa v∧k v:=by
 have gen:(rX (bS op x y) fun v=>lY v k)→∃ v,bS op x y=aa v∧k v:=by
  intro h;obtain⟨v,g,d⟩:=kL h;rw [rG]at d;exact⟨v,g,d⟩
 unfold Xb at h;split at h
 ·rename_i j a s b;split at h
  ·exact gen h
  ·exact gen h
  ·rename_i g d;obtain⟨e,l⟩:=XS h;subst e;obtain⟨v,m,q⟩:=Xa l;refine⟨v,?_,q⟩;cases op<;>first | exact absurd rfl g | exact absurd rfl d | (simp only [bS,if_true];exact m)
 ·exact gen h
def aih(v:V)(k:Nat→Prop):Prop:=match v with
 | .c (.f (.int _ (.ofNat m)))=>k m| _=>False
theorem aed{v:V}{k:Nat→Prop}(h:aih v k):∃ m,dy v=aa (Int.ofNat m)∧k m:=by
 unfold aih at h;split at h
 ·exact⟨_,rfl,h⟩
 ·exact h.elim
def XM(t:HT)(sz:Nat)(g:Option Nat)(x i:V)(k:V→Prop):Prop:=aih i fun m=>match g with
 | none=>match x with
  | .c (.sl b o l _ d s)=>sW (Nat.succ m) l (gn b t fun bu=>match bu with
   | .box _ _=>ca (Nat.add o (Nat.mul m sz)) fun o=>k (.c (.ptr b o d))
   | .bM s' _ _ e .loc=>ik d e (ik s s' (ca (Nat.add o (Nat.mul m sz)) fun o=>k (.c (.ptr b o d))))
   | _=>False)
  | .c (.f (.fs cs l))=>sW (Nat.succ m) l (ca (Nat.mul m sz) fun o=>k (.c (.f (.fp cs o))))
  | _=>False
 | some n=>match x with
  | .c (.ptr b o d)=>sW (Nat.succ m) n (ca (Nat.add o (Nat.mul m sz)) fun o=>k (.c (.ptr b o d)))
  | .c (.f (.fp cs o))=>sW (Nat.succ m) n (ca (Nat.add o (Nat.mul m sz)) fun o=>k (.c (.f (.fp cs o))))
  | _=>False
theorem LJ{H:aj}{t:HT}(h:cS H t){sz:Nat}{y:Option Nat}{x i:V}{k:V→Prop}(d:XM t sz y x i k):∃ v,aP H sz y x i=aa v∧k v:=by
 obtain⟨m,hi,d⟩:=aed d;have z:(0:Int)≤Int.ofNat m:=Int.natCast_nonneg m;have g:∀ l:Nat,Nat.succ m≤l→Int.ofNat m<(l:Int):=fun l F=>Int.ofNat_lt.2 F;have j:(Int.ofNat m).toNat=m:=rfl;simp only at d;split at d
 ·split at d
  ·rename_i b o l cap I s _;obtain⟨u,d⟩:=gV d;obtain⟨bu,A,q⟩:=dm d;rw [h]at A;have A:H[b]?=aa bu:=A;split at q
   ·rw [cg]at q;exact⟨_,by simp only [aP,hi,bp z,bp (g _ u),A,j];rfl,q⟩
   ·obtain⟨B,q⟩:=cV q;obtain⟨E,q⟩:=cV q;rw [cg]at q;exact⟨_,by simp only [aP,hi,bp z,bp (g _ u),A,j,B,E,and_self,if_true];rfl,B▸q⟩
   ·exact q.elim
  ·obtain⟨u,d⟩:=gV d;rw [cg]at d;exact⟨_,by simp only [aP,hi,bp z,bp (g _ u),j];rfl,d⟩
  ·exact d.elim
 ·split at d
  ·obtain⟨u,d⟩:=gV d;rw [cg]at d;exact⟨_,by simp only [aP,hi,bp z,bp (g _ u),j];rfl,d⟩
  ·obtain⟨u,d⟩:=gV d;rw [cg]at d;exact⟨_,by simp only [aP,hi,bp z,bp (g _ u),j];rfl,d⟩
  ·exact d.elim
def aia(t:HT)(x:V)(k:Nat→Prop):Prop:=match x with
 | .c (.sl b _ l _ d sz)=>gn b t fun bu=>match bu with
  | .box _ _=>k l| .bM s _ _ e _=>ik d e (ik sz s (k l))| _=>False
 | .c (.f .aF)=>k 0| .c (.f .es)=>k 0| .c (.f (.fs _ l))=>k l| _=>False
theorem ad9{H:aj}{t:HT}(h:cS H t){x:V}{k:Nat→Prop}(g:aia t x k):∃ y n,x=.c y∧bH H y=aa n∧k n:=by
 unfold aia at g;split at g
 ·rename_i b o l cap s sz;obtain⟨bu,j,d⟩:=dm g;rw [h]at j;have j:H[b]?=aa bu:=j;split at d
  ·exact⟨_,l,rfl,by simp [bH,j],d⟩
  ·obtain⟨m,d⟩:=cV d;obtain⟨q,d⟩:=cV d;exact⟨_,l,rfl,by simp [bH,j,m,q],d⟩
  ·exact d.elim
 ·exact⟨_,0,rfl,rfl,g⟩
 ·exact⟨_,0,rfl,rfl,g⟩
 ·exact⟨_,_,rfl,rfl,g⟩
 ·exact g.elim
def Eo(r:T)(ps:List (Nat × Nat × Arg)):List C→(List C→Prop)→Prop:=
 List.rec (motive:=fun _=>List C→(List C→Prop)→Prop) (fun cs k=>k cs)
  (fun p _ b cs k=>Prod.rec (motive:=fun _=>Prop) (fun off q=>Prod.rec (motive:=fun _=>Prop) (fun n x=>pX x r fun v=>uz v fun xs=>ik xs.length n (vg xs off cs fun cs=>b cs k)) q) p) ps
theorem yh(r:T):∀ {ps:List (Nat × Nat × Arg)} {cs:List C} {k:List C→Prop},Eo r ps cs k→∃ cs',dv r cs ps=aa cs'∧k cs'
 | [],cs,k,h=>⟨cs,rfl,h⟩
 | (off,n,x)::ps,cs,k,h=>by
  have h:pX x r fun v=>uz v fun xs=>ik xs.length n (vg xs off cs fun cs=>Eo r ps cs k):=h;rw [de]at h;obtain⟨xs,b,h⟩:=ry h;obtain⟨d,h⟩:=cV h;obtain⟨g,h⟩:=lI h;obtain⟨cs',j,l⟩:=yh r h;exact⟨cs',by simp [dv,b,d,j]at g ⊢;omega,l⟩
def uf(t:HT)(sz:Nat)(y:V)(k:Nat→List C→Prop):Prop:=match y with
 | .c (.f .aF)=>k 0 []| .c (.f .es)=>k 0 []| .c (.f (.fs cs l))=>ik cs.length (Nat.mul l sz) (fzK cs fun cs=>k l cs)
 | .c (.sl b o l _ d s)=>gn b t fun bu=>match bu with
  | .box cs _=>rA o cs fun cs=>mM (Nat.mul l sz) cs fun cs=>k l cs
  | .bM s' cs _ e _=>ik d e (ik s s' (ik s' sz (rA o cs fun cs=>mM (Nat.mul l sz) cs fun cs=>k l cs)))
  | _=>False
 | y=>rX (pR t.get sz y) fun r=>Prod.rec (motive:=fun _=>Prop) (fun n cs=>ny cs fun cs=>k n cs) r
theorem xm{H:aj}{t:HT}(h:cS H t){sz:Nat}{y:V}{k:Nat→List C→Prop}(j:uf t sz y k) :
  ∃ n cs,c4 H sz y=aa (n,cs)∧k n cs:=by
 unfold uf at j;split at j
 ·exact⟨0,[],rfl,j⟩
 ·exact⟨0,[],rfl,j⟩
 ·rename_i cs l;obtain⟨m,j⟩:=cV j;rw [rI]at j;have m:cs.length=l*sz:=m;exact⟨l,_,by simp only [c4,bH,cO,m,if_true],j⟩
 ·rename_i b o l cap B s;obtain⟨bu,g,d⟩:=dm j;rw [h]at g;have g:H[b]?=aa bu:=g;split at d
  ·obtain⟨A,d⟩:=jN d;obtain⟨q,u⟩:=fL d;have q:l*sz≤_:=q;rw [arW]at q;refine⟨l,_,?_,u⟩;simp only [c4,bH,cO,g];rw [bp (by omega)];rfl
  ·obtain⟨q,d⟩:=cV d;obtain⟨u,d⟩:=cV d;obtain⟨x,d⟩:=cV d;obtain⟨A,d⟩:=jN d;obtain⟨v,z⟩:=fL d;have v:l*sz≤_:=v;rw [arW]at v;subst q u x;refine⟨l,_,?_,z⟩;simp only [c4,bH,cO,g,and_self,if_true];rw [bp ⟨trivial,trivial,by omega⟩];rfl
  ·exact d.elim
 ·obtain⟨⟨n,cs⟩,m,g⟩:=kL j;have g:ny cs fun cs=>k n cs:=g;rw [lD]at g;rw [h,oX]at m;exact⟨n,cs,m,g⟩
def Cj(need bytes:Nat)(p:Prop):Prop:=sW (Nat.mul (Nat.add (Nat.mul 2 need) 768) bytes) 281474976710656 (sW (Nat.succ need) 281474976710656 p)
theorem qC{need bytes:Nat}{p:Prop}(h:Cj need bytes p):bW need bytes=ae∧p:=by
 obtain⟨b,h⟩:=gV h;obtain⟨d,h⟩:=gV h;refine⟨?_,h⟩;have e:(2:Nat) ^ 48=281474976710656:=by decide
 simp only [bW,BY,decide_eq_true_eq,e];exact⟨b,d⟩
def ac'(t:HT)(n:Nat)(sz bytes:Nat)(x y:V)(k:V→HT→Nat→Prop):Prop:=
 uf t sz y fun m ys=>Nat.rec (motive:=fun _=>Prop) False (fun _ _=>match x with
  | .c (.f .aF)=>Nat.rec (motive:=fun _=>Prop) (k (.c (.f .aF)) t n) (fun _ _=>Cj m bytes (ca m fun m=>oT (.bM sz ys 0 0 .loc) t n fun t n'=>k (.c (.sl n 0 m 0 0 sz)) t n')) m
  | .c (.f .es)=>Nat.rec (motive:=fun _=>Prop) (k (.c (.f .es)) t n) (fun _ _=>Cj m bytes (ca m fun m=>oT (.bM sz ys 0 0 .loc) t n fun t n'=>k (.c (.sl n 0 m 0 0 sz)) t n')) m
  | .c (.sl b o l cap j s)=>gn b t fun bu=>match bu with
   | .box cs g=>Bool.rec (motive:=fun _=>Prop)
     (ca (Nat.add l m) fun d=>Cj d bytes (rA o cs fun cs=>mM (Nat.mul l sz) cs fun cs=>ahB cs ys fun cs=>oT (.bM sz cs 0 0 .loc) t n fun t n'=>k (.c (.sl n 0 d 0 0 sz)) t n'))
     (ca (Nat.add l m) fun d=>sW g (Nat.add o (Nat.mul l sz)) (vg ys (Nat.add o (Nat.mul l sz)) cs fun cs=>gq (.box cs g) t b fun t=>k (.c (.sl b o d cap j s)) t n))
     (Nat.ble (Nat.add l m) cap)
   | .bM s' cs g e st=>ik j e (ik s' sz (ik s sz (Nat.rec (motive:=fun _=>Prop) (k x t n) (fun _ _=>
     ca (Nat.add l m) fun d=>Bool.rec (motive:=fun _=>Prop)
      (match st with
       | .loc=>sW g (Nat.add o (Nat.mul l sz)) (vg ys (Nat.add o (Nat.mul l sz)) cs fun cs=>gq (.bM sz cs g e .loc) t b fun t=>k (.c (.sl b o d 0 j sz)) t n)
       | _=>False)
      (Cj d bytes (ca (Nat.succ e) fun q=>ahB cs ys fun cs=>gq (.bM sz cs g q .loc) t b fun t=>k (.c (.sl b 0 d 0 q sz)) t n))
      (and (and (Nat.beq o 0) (Nat.beq (Nat.mul l sz) cs.length)) (Nat.ble g cs.length))) m)))
   | _=>False
  | _=>False) sz
theorem Fh{H:aj}{t:HT}(h:cS H t){sz bytes:Nat}{x y:V}{k:V→HT→Nat→Prop}(d:ac' t H.length sz bytes x y k) :
  ∃ v H' g,bU H sz bytes x y=aa (v,H')∧cS H' g∧k v g H'.length:=by
 obtain⟨m,ys,O,d⟩:=xm h d;unfold bU;rw [O];cases sz with
 | zero=>exact d.elim
 | succ u=>
  simp only at d ⊢;rw [aZ (by omega)];split at d
  ·cases m with
   | zero=>exact⟨_,H,t,rfl,h,d⟩
   | succ M=>
    simp only at d;obtain⟨K,d⟩:=qC d;rw [cg]at d;obtain⟨g,z,j⟩:=iw h d;exact⟨_,_,g,by simp only [Nat.add_one_ne_zero,if_false,K,if_true],z,j⟩
  ·cases m with
   | zero=>exact⟨_,H,t,rfl,h,d⟩
   | succ M=>
    simp only at d;obtain⟨K,d⟩:=qC d;rw [cg]at d;obtain⟨g,z,j⟩:=iw h d;exact⟨_,_,g,by simp only [Nat.add_one_ne_zero,if_false,K,if_true],z,j⟩
  ·rename_i b o l cap S s _;obtain⟨bu,z,d⟩:=dm d;rw [h]at z;have z:H[b]?=aa bu:=z;simp only [z];split at d
   ·rename_i cs J _;simp only;cases hc:Nat.ble (Nat.add l m) cap with
    | false=>
     rw [hc]at d;have B:¬ (l+m≤cap):=fun e=>by have:=Nat.ble_eq_true_of_le e;rw [show Nat.ble (Nat.add l m) cap=Nat.ble (l+m) cap from rfl,this]at hc;cases hc
     simp only [cg]at d;obtain⟨j,d⟩:=qC d;obtain⟨F,d⟩:=jN d;obtain⟨E,d⟩:=fL d;rw [yX]at d;obtain⟨g,q,A⟩:=iw h d;rw [arW]at E;have E:l*(u+1)≤_:=E;rw [aZ B,bp ⟨j,by omega⟩];exact⟨_,_,g,rfl,q,A⟩
    | true=>
     rw [hc]at d;have B:l+m≤cap:=asM hc;simp only [cg]at d;obtain⟨j,d⟩:=gV d;obtain⟨F,d⟩:=lI d;obtain⟨g,q,A⟩:=dY h d;rw [bp B,bp ⟨j,F⟩];exact⟨_,_,g,rfl,q,by simpa using A⟩
   ·rename_i s' cs J e st _;simp only;obtain⟨j,d⟩:=cV d;obtain⟨F,d⟩:=cV d;obtain⟨E,d⟩:=cV d;rw [bp ⟨j,F,E⟩];cases m with
    | zero=>rw [bp rfl];exact⟨_,H,t,rfl,h,d⟩
    | succ M=>
     rw [aZ (by omega)];simp only [cg]at d;cases hc:and (and (Nat.beq o 0) (Nat.beq (Nat.mul l (u+1)) cs.length)) (Nat.ble J cs.length)with
     | true=>
      rw [hc]at d;simp only [BY]at hc;have c1:=asG hc.1.1;have c2:=asG hc.1.2;have I:=asM hc.2;simp only at d;obtain⟨q,d⟩:=qC d;rw [yX]at d;obtain⟨g,A,L⟩:=dY h d;have q:bW (l+(M+1)) bytes=ae:=q;rw [bp ⟨c1,c2,I⟩,bp q];subst j;exact⟨_,_,g,rfl,A,by simpa using L⟩
     | false=>
      rw [hc]at d;have Q:¬ (o=0∧l*(u+1)=cs.length∧J≤cs.length):=by
       rintro⟨c1,c2,I⟩;rw [c1,show Nat.mul l (u+1)=cs.length from c2,Nat.ble_eq_true_of_le I]at hc;simp at hc
      rw [aZ Q];simp only at d;split at d
      ·obtain⟨q,d⟩:=gV d;obtain⟨A,d⟩:=lI d;obtain⟨g,L,N⟩:=dY h d;rw [bp ⟨rfl,q,A⟩];exact⟨_,_,g,rfl,L,by simpa using N⟩
      ·exact d.elim
   ·exact d.elim
  ·exact d.elim
end
section
abbrev fy:=Callee→List V→HT→Nat→(V→HT→Nat→Prop)→Prop
def pM(call:cJ)(bF:fy):Prop:=
 ∀(c:Callee) (args:List V) (H:aj) (t:HT) (k:V→HT→Nat→Prop),cS H t→bF c args t H.length k→∃ v H' b,call c args H=aa (v,H')∧cS H' b∧k v b H'.length
def zc{d b:Type}(g:d→(b→Prop)→Prop)(xs:List d):(List b→Prop)→Prop:=
 List.rec (motive:=fun _=>(List b→Prop)→Prop) (fun k=>k []) (fun x _ j k=>g x fun y=>j fun ys=>k (y::ys)) xs
theorem jm{b d:Type}{g:b→(d→Prop)→Prop}{f:b→Option d}(j:∀ x k,g x k→∃ y,f x=aa y∧k y):∀ {xs:List b} {k:List d→Prop},zc g xs k→∃ ys,ba f xs=aa ys∧k ys
 | [],k,h=>⟨[],rfl,h⟩
 | x::xs,k,h=>by
  obtain⟨y,l,h⟩:=j x _ h;obtain⟨ys,m,q⟩:=jm j (xs:=xs) h;exact⟨y::ys,by simp [ba,l,m],q⟩
def exK(t:HT)(m:Nat):C→(FC→Prop)→Prop:=
 Nat.rec (motive:=fun _=>C→(FC→Prop)→Prop) (fun x k=>match x with
   | .f y=>k y
   | _=>False)
  (fun _ j x k=>match x with
   | .f y=>k y
   | .ptr b off _=>gn b t fun bu=>match bu with
    | .box cs _=>zc j cs fun d=>k (.fp d off)
    | _=>False
   | .sl b o l _ q sz=>gn b t fun bu=>match bu with
    | .box cs _=>rA o cs fun cs=>mM (Nat.mul l sz) cs fun cs=>zc j cs fun d=>k (.fs d l)
    | .bM s cs _ e .loc=>ik q e (ik sz s (rA o cs fun cs=>mM (Nat.mul l sz) cs fun cs=>zc j cs fun d=>k (.fs d l)))
    | .bM s cs _ e .nil=>ik q e (ik sz s (k .aF))| .bM s cs _ e .es=>ik q e (ik sz s (k .es))| _=>False
   | .cl f g=>zc j g fun d=>k (.fn f d)
   | _=>False) m
theorem XA{H:aj}{t:HT}(h:cS H t):∀(m:Nat) (x:C) (k:FC→Prop),exK t m x k→∃ y,c8 m H x=aa y∧k y:=by
 intro m;induction m with
 | zero=>
  intro x k q;cases x with
  | f y=>exact⟨y,rfl,q⟩| _=>exact q.elim
 | succ m E=>
  intro x k q;cases x with
  | f y=>exact⟨y,rfl,q⟩
  | ptr b off J=>
   obtain⟨bu,g,d⟩:=dm q;rw [h]at g;have g:H[b]?=aa bu:=g;cases bu with
   | box cs I=>
    obtain⟨z,j,u⟩:=jm E d;exact⟨_,by simp only [c8,g,j];rfl,u⟩
   | _=>exact d.elim
  | sl b o l cap J sz=>
   obtain⟨bu,g,d⟩:=dm q;rw [h]at g;have g:H[b]?=aa bu:=g;cases bu with
   | box cs I=>
    obtain⟨K,d⟩:=jN d;obtain⟨v,d⟩:=fL d;obtain⟨z,j,u⟩:=jm E d;rw [arW]at v;have v:l*sz≤_:=v;have j:ba (c8 m H) ((cs.drop o).take (l*sz))=aa z:=j;exact⟨_,by simp only [c8,g];rw [bp (by omega),j];rfl,u⟩
   | bM s cs I e st=>
    cases st with
    | loc=>
     obtain⟨A,d⟩:=cV d;obtain⟨B,d⟩:=cV d;obtain⟨K,d⟩:=jN d;obtain⟨v,d⟩:=fL d;obtain⟨z,j,u⟩:=jm E d;rw [arW]at v;have v:l*sz≤_:=v;have j:ba (c8 m H) ((cs.drop o).take (l*sz))=aa z:=j;exact⟨_,by simp only [c8,g];rw [bp ⟨A,B,by omega⟩,j];rfl,u⟩
    | nil=>
     obtain⟨A,d⟩:=cV d;obtain⟨B,d⟩:=cV d;exact⟨_,by simp only [c8,g];rw [bp ⟨A,B⟩],d⟩
    | es=>
     obtain⟨A,d⟩:=cV d;obtain⟨B,d⟩:=cV d;exact⟨_,by simp only [c8,g];rw [bp ⟨A,B⟩],d⟩
   | _=>exact d.elim
  | cl f F=>
   obtain⟨z,j,u⟩:=jm E q;exact⟨_,by simp only [c8,j];rfl,u⟩
  | _=>exact q.elim
def Fs(t:HT)(v:V)(k:V→Prop):Prop:=match v with
 | .c x=>exK t deep x fun y=>k (.c (.f y))
 | .a xs=>zc (exK t deep) xs fun ys=>fzK ys fun cs=>k (.a cs)
 | _=>False
theorem pY{H:aj}{t:HT}(h:cS H t)(v:V)(k:V→Prop)(g:Fs t v k):∃ y,bO deep H v=aa y∧k y:=by
 cases v with
 | c x=>
  obtain⟨y,d,b⟩:=XA h deep x _ g;exact⟨_,by simp only [bO,d];rfl,b⟩
 | a xs=>
  obtain⟨ys,d,b⟩:=jm (XA h deep) g;rw [rI]at b;exact⟨_,by simp only [bO,d];rfl,b⟩
 | _=>exact g.elim
def alO(t:HT)(v:V)(k:V→Prop):Prop:=match v with
 | .t b=>zc (Fs t) b fun b=>k (.t b)
 | v=>Fs t v k
theorem adz{H:aj}{t:HT}(h:cS H t)(v:V)(k:V→Prop)(b:alO t v k):∃ y,fJ deep H v=aa y∧k y:=by
 cases v with
 | t j=>
  obtain⟨ys,d,g⟩:=jm (pY h) b;exact⟨_,by simp only [fJ,d];rfl,g⟩
 | c x=>exact pY h (.c x) k b| a xs=>exact pY h (.a xs) k b| top=>exact b.elim
def D5{b:Type}(g:b→HT→(HT→Prop)→Prop)(xs:List b):HT→(HT→Prop)→Prop:=
 List.rec (motive:=fun _=>HT→(HT→Prop)→Prop) (fun t k=>k t) (fun x _ d t k=>g x t fun t=>d t k) xs
def MkS{b:Type}(g:b→HT→(HT→Prop)→Prop)(f:aj→b→aj):Prop:=∀(x:b) (H:aj) (t:HT) (k:HT→Prop),cS H t→g x t k→∃ d,cS (f H x) d∧k d
theorem mc{d:Type}{g:d→HT→(HT→Prop)→Prop}{f:aj→d→aj}(j:MkS g f):∀(xs:List d) (H:aj) (t:HT) (k:HT→Prop),cS H t→D5 g xs t k→∃ l,cS (xs.foldl f H) l∧k l
 | [],H,t,k,h,b=>⟨t,h,b⟩
 | x::xs,H,t,k,h,b=>by
  obtain⟨t1,m,q⟩:=j x H t _ h b;exact mc j xs _ t1 k m q
def mkK(m:Nat):C→HT→(HT→Prop)→Prop:=
 Nat.rec (motive:=fun _=>C→HT→(HT→Prop)→Prop) (fun _ t k=>k t)
  (fun _ j x t k=>match x with
   | .f _=>k t
   | .ptr b _ _=>gn b t fun bu=>match bu with
    | .box cs d=>ca (Nat.max d cs.length) fun d=>gq (.box cs d) t b fun t=>D5 j cs t k
    | _=>k t
   | .sl b o l _ _ sz=>gn b t fun bu=>match bu with
    | .box cs d=>ca (Nat.max d (Nat.add o (Nat.mul l sz))) fun d=>gq (.box cs d) t b fun t=>uH o cs fun cs=>mM (Nat.mul l sz) cs fun cs=>D5 j cs t k
    | .bM s cs d e st=>ca (Nat.max d (Nat.add o (Nat.mul l sz))) fun d=>gq (.bM s cs d e st) t b fun t=>uH o cs fun cs=>mM (Nat.mul l sz) cs fun cs=>D5 j cs t k
    | _=>k t
   | .cl _ g=>D5 j g t k
   | _=>k t) m
theorem Ya:∀(m:Nat),MkS (mkK m) (fun H x=>jt m x H):=by
 intro m;induction m with
 | zero=>intro x H t k h q;exact⟨t,by cases x<;>exact h,q⟩
 | succ m v=>
  intro x H t k h q;cases x with
  | f y=>exact⟨t,h,q⟩
  | ptr b off B=>
   obtain⟨bu,d,g⟩:=dm q;rw [h]at d;have d:H[b]?=aa bu:=d;cases bu with
   | box cs A=>
    change ca _ _ at g;rw [cg]at g;obtain⟨t1,u,j⟩:=dY h g;simp only [jt,d];exact mc v cs _ t1 k u j
   | _=>simp only [jt,d];exact⟨t,h,g⟩
  | sl b o l cap B sz=>
   obtain⟨bu,d,g⟩:=dm q;rw [h]at d;have d:H[b]?=aa bu:=d;cases bu with
   | box cs A=>
    change ca _ _ at g;rw [cg]at g;obtain⟨t1,u,j⟩:=dY h g;rw [nm]at j;obtain⟨_,j⟩:=fL j;simp only [jt,d];exact mc v _ _ t1 k u j
   | bM s cs A e st=>
    change ca _ _ at g;rw [cg]at g;obtain⟨t1,u,j⟩:=dY h g;rw [nm]at j;obtain⟨_,j⟩:=fL j;simp only [jt,d];exact mc v _ _ t1 k u j
   | _=>simp only [jt,d];exact⟨t,h,g⟩
  | cl f z=>
   simp only [jt];exact mc v _ _ t k h q
  | _=>exact⟨t,h,q⟩
def aml(v:V)(t:HT)(k:HT→Prop):Prop:=match v with
 | .c x=>mkK deep x t k| .a xs=>D5 (mkK deep) xs t k| _=>k t
theorem aec:MkS aml (ZR deep):=by
 intro v H t k h b;cases v with
 | c x=>exact Ya deep x H t k h b| a xs=>exact mc (Ya deep) xs H t k h b| _=>exact⟨t,h,b⟩
def agz(call:fy)(f:Nat)(d:List V)(t:HT)(n:Nat)(k:V→HT→Nat→Prop):Prop:=
 zc (Fs t) d fun g=>call (.fn f) g .e 0 fun b j _=>alO j b fun b=>D5 aml d t fun t=>k b t n
theorem YR{call:cJ}{bF:fy}(hc:pM call bF){f:Nat}{g:List V}{H:aj}{t:HT}{k:V→HT→Nat→Prop}(h:cS H t)(b:agz bF f g t H.length k) :
  ∃ v H' d,eo call f g H=aa (v,H')∧cS H' d∧k v d H'.length:=by
 obtain⟨l,m,b⟩:=jm (pY h) b;obtain⟨y,z,t1,q,s,b⟩:=hc (.fn f) l [] .e _ cS.nil b;obtain⟨j,u,b⟩:=adz s y _ b;obtain⟨d,x,b⟩:=mc aec g H t _ h b;refine⟨j,_,d,by simp only [eo,m,q,u],x,?_⟩;rw [←(ot deep g H).1];exact b
abbrev tk:=fy→T→List dH→HT→Nat→(V→List dH→HT→Nat→Prop)→Prop
def fE(op:cP):tk:=fun _ r d t n k=>alR op r t n fun v t n=>k v d t n
def ahi(x:Arg):tk:=fun _ r d t n k=>pX x r fun v=>k v d t n
def WY(c a b:Arg):tk:=fun _ r d t n k=>pX c r fun v=>match v with
 | .c (.f (.bool v))=>Bool.rec (motive:=fun _=>Prop) (pX b r fun v=>k v d t n) (pX a r fun v=>k v d t n) v
 | _=>False
def Dk(zs:List FC):tk:=fun _ r d t n k=>fzK zs fun cs=>oT (.box cs 0) t n fun t n'=>k (.c (.ptr n 0 0)) d t n'
def ahf(x:Arg):tk:=fun _ r d t n k=>pX x r fun v=>uz v fun xs=>oT (.box xs 0) t n fun t n'=>k (.c (.ptr n 0 0)) d t n'
def Dl(zs:List FC)(ps:List (Nat × Nat × Arg)):tk:=fun _ r d t n k=>fzK zs fun cs=>Eo r ps cs fun cs=>k (.a cs) d t n
def WX(m:Option Nat)(x:Arg):tk:=fun _ r d t n k=>pX x r fun v=>ldK t m v fun v=>k v d t n
def Dq(m:Nat)(x y:Arg):tk:=fun _ r d t n k=>pX x r fun v=>pX y r fun y=>uz y fun xs=>ik xs.length m (match v with
 | .c p=>stK t p xs fun t=>k .top d t n
 | _=>False)
def yR(x:Arg):tk:=fun _ r d t n k=>pX x r fun v=>match v with
 | .c (.ptr b o e)=>k (.c (.ptr b o e)) d t n| .c (.f (.fp cs o))=>k (.c (.f (.fp cs o))) d t n| _=>False
def ahe(op:BinOp)(x y:Arg):tk:=fun _ r d t n k=>pX x r fun x=>pX y r fun y=>Xb op x y fun v=>k v d t n
def ahg(j:IntKind)(x:Arg):tk:=fun _ r d t n k=>pX x r fun v=>match v with
 | .c (.f (.int _ m))=>yz j m fun m=>k (.c (.f (.int j m))) d t n
 | _=>False
def yP(off:Nat)(x:Arg):tk:=fun _ r d t n k=>pX x r fun v=>match v with
 | .c (.ptr b o e)=>ca (Nat.add o off) fun o=>k (.c (.ptr b o e)) d t n
 | .c (.f (.fp cs o))=>ca (Nat.add o off) fun o=>k (.c (.f (.fp cs o))) d t n
 | _=>False
def Dp(off:Nat)(m:Option Nat)(x:Arg):tk:=fun _ r d t n k=>pX x r fun v=>match v with
 | .a xs=>F6 m off xs fun v=>k v d t n
 | _=>False
def yQ(sz:Nat)(b:Option Nat)(x i:Arg):tk:=fun _ r d t n k=>pX x r fun x=>pX i r fun i=>XM t sz b x i fun v=>k v d t n
def ue(x:Arg)(i:Nat):tk:=fun _ r d t n k=>pX x r fun v=>match v with
 | .t b=>aeh i b fun v=>k v d t n
 | _=>False
def WW(f:Nat)(args:List Arg)(h:Bool):tk:=fun call r d t n k=>Bm args r fun b=>
 Bool.rec (motive:=fun _=>Prop) (agz call f b t n fun v t n=>k v d t n) (call (.fn f) b t n fun v t n=>k v d t n) h
def Dm(x:Arg)(args:List Arg)(_:Bool):tk:=fun call r d t n k=>pX x r fun x=>Bm args r fun b=>
 rX (bZ x b) fun g=>Prod.rec (motive:=fun _=>Prop) (fun c b=>call c b t n fun v t n=>k v d t n) g
def agm(m:Nat):tk:=fun _ r d t n k=>k (.c (.f (.int .i64 (.ofNat m)))) d t n
def ahh(x:Arg):tk:=fun _ r d t n k=>pX x r fun v=>aia t v fun m=>k (.c (.f (.int .i64 (.ofNat m)))) d t n
def yO(sz bytes:Nat)(x y:Arg):tk:=fun _ r d t n k=>pX x r fun x=>pX y r fun y=>ac' t n sz bytes x y fun v t n=>k v d t n
def Bg:tk:=fun _ r d t n k=>k (.c (.f .mQ)) d t n
def Dn(x:Arg)(args:List Arg):tk:=fun _ r d t n k=>pX x r fun x=>Bm args r fun b=>
 rX (bZ x b) fun g=>Prod.rec (motive:=fun _=>Prop) (fun c b=>Callee.rec (motive:=fun _=>Prop) (fun f=>k .top (.fn f b::d) t n) (fun _=>False) c) g
def amx(op:cP):tk:=
 cP.rec (motive:=fun _=>tk)
  ahi (fun o s=>fE (.pre o s)) WY Dk ahf Dl (fun a b c e=>fE (.aV a b c e)) WX Dq yR ahe
  (fun a b c e=>fE (.eq a b c e)) (fun a b=>fE (.un a b)) ahg (fun a=>fE (.y6 a)) (fun a=>fE (.vX a)) (fun a=>fE (.DB a)) (fun a b=>fE (.lG a b)) (fE .kI)
  (fun a b c e=>fE (.lookup a b c e)) (fun a b c e=>fE (.kG a b c e)) (fun a b c e f=>fE (.cM a b c e f)) (fun a b c e f=>fE (.slice a b c e f)) (fun a b c e f g=>fE (.oU a b c e f g)) (fun a b c=>fE (.qH a b c))
  yP Dp yQ (fun a b=>fE (.idxs a b)) (fun a b c e f=>fE (.qd a b c e f)) (fun a=>fE (.range a)) (fun a=>fE (.next a)) ue WW Dm ahh agm (fun a=>fE (.lens a)) (fun a=>fE (.cap a))
  yO (fun a b c=>fE (.copy a b c)) (fun a b=>fE (.mP a b)) (fun a b c e f=>fE (.sV a b c e f)) (fun a b c=>fE (.clear a b c)) (fun a=>fE (.mj a)) (fun a=>fE (.qu a)) (fun a=>fE (.entry a)) (fun a b=>fE (.v7 a b)) (fun a b c e=>fE (.wu a b c e)) (fun a b c e=>fE (.fU a b c e)) Bg Dn (fE .bad) op
theorem aej{call:cJ}{bF:fy}(hc:pM call bF)(op:cP){r:T}{d:List dH}{H:aj}{t:HT}{k:V→List dH→HT→Nat→Prop}(h:cS H t)(g:amx op bF r d t H.length k) :
  ∃ v A H' q,eI call ⟨r,d,H⟩ op=aa (v,⟨r,A,H'⟩)∧cS H' q∧k v A q H'.length:=by
 have go:∀ {v H' q},eI call ⟨r,d,H⟩ op=(bz r H op).map (fun r'=>(r'.1,⟨r,d,r'.2⟩))→bz r H op=aa (v,H')→cS H' q→k v d q H'.length →
   ∃ v A H' q,eI call ⟨r,d,H⟩ op=aa (v,⟨r,A,H'⟩)∧cS H' q∧k v A q H'.length:=
  fun s u l B=>⟨_,d,_,_,by rw [s,u];rfl,l,B⟩
 have gen:eI call ⟨r,d,H⟩ op=(bz r H op).map (fun r'=>(r'.1,⟨r,d,r'.2⟩))→fE op bF r d t H.length k →
   ∃ v A H' q,eI call ⟨r,d,H⟩ op=aa (v,⟨r,A,H'⟩)∧cS H' q∧k v A q H'.length:=fun s u=>by
  obtain⟨v,H',q,l,B,I⟩:=adD op r H t _ h u;exact go s l B I
 cases op
 case bJ x=>
  have g:ahi x bF r d t H.length k:=g;unfold ahi at g;rw [de]at g;exact go rfl rfl h g
 case pick c a b=>
  have g:WY c a b bF r d t H.length k:=g;unfold WY at g;rw [de]at g;split at g
  ·rename_i v z;cases v with
   | true=>
    simp only [de]at g;exact go rfl (by simp only [bz,z];rfl) h g
   | false=>
    simp only [de]at g;exact go rfl (by simp only [bz,z];rfl) h g
  ·exact g.elim
 case alloc zs=>
  have g:Dk zs bF r d t H.length k:=g;unfold Dk at g;rw [rI]at g;obtain⟨q,s,u⟩:=iw h g;exact go rfl rfl s u
 case box x=>
  have g:ahf x bF r d t H.length k:=g;unfold ahf at g;rw [de]at g;obtain⟨xs,l,g⟩:=ry g;obtain⟨q,s,u⟩:=iw h g;exact go rfl (by simp only [bz,l]) s u
 case build zs ps=>
  have g:Dl zs ps bF r d t H.length k:=g;unfold Dl at g;rw [rI]at g;obtain⟨cs,l,g⟩:=yh r g;exact go rfl (by simp only [bz,l];rfl) h g
 case load m x=>
  have g:WX m x bF r d t H.length k:=g;unfold WX at g;rw [de]at g;obtain⟨v,l,g⟩:=XV h g;exact go rfl (by simp only [bz,l];rfl) h g
 case store m x y=>
  have g:Dq m x y bF r d t H.length k:=g;unfold Dq at g;rw [de,de]at g;obtain⟨xs,l,g⟩:=ry g;obtain⟨B,g⟩:=cV g;split at g
  ·rename_i p M;obtain⟨H',q,I,K,L,g⟩:=ajV h g;exact go rfl (by simp only [bz,M,l,B,if_true,I];rfl) K (by rw [L];exact g)
  ·exact g.elim
 case bD x=>
  have g:yR x bF r d t H.length k:=g;unfold yR at g;rw [de]at g;split at g
  ·rename_i z;exact go rfl (by simp only [bz,z]) h g
  ·rename_i z;exact go rfl (by simp only [bz,z]) h g
  ·exact g.elim
 case bin op x y=>
  have g:ahe op x y bF r d t H.length k:=g;unfold ahe at g;rw [de,de]at g;obtain⟨v,l,g⟩:=ade g;exact go rfl (by simp only [bz,l];rfl) h g
 case fA j x=>
  have g:ahg j x bF r d t H.length k:=g;unfold ahg at g;rw [de]at g;split at g
  ·rename_i z;simp only [qN]at g;exact go rfl (by simp only [bz,z];rfl) h g
  ·exact g.elim
 case aD off x=>
  have g:yP off x bF r d t H.length k:=g;unfold yP at g;rw [de]at g;split at g
  ·rename_i z;rw [cg]at g;exact go rfl (by simp only [bz,z,jn];rfl) h g
  ·rename_i z;rw [cg]at g;exact go rfl (by simp only [bz,z,jn];rfl) h g
  ·exact g.elim
 case field off m x=>
  have g:Dp off m x bF r d t H.length k:=g;unfold Dp at g;rw [de]at g;split at g
  ·rename_i z;obtain⟨v,l,g⟩:=vl g;exact go rfl (by simp only [bz,z,nv,l];rfl) h g
  ·exact g.elim
 case aW sz F x i=>
  have g:yQ sz F x i bF r d t H.length k:=g;unfold yQ at g;rw [de,de]at g;obtain⟨v,l,g⟩:=LJ h g;exact go rfl (by simp only [bz,l];rfl) h g
 case extract x i=>
  have g:ue x i bF r d t H.length k:=g;unfold ue at g;rw [de]at g;split at g
  ·rename_i z;obtain⟨v,l,g⟩:=tE g;exact go rfl (by simp only [bz,z,l];rfl) h g
  ·exact g.elim
 case call f args E=>
  have g:WW f args E bF r d t H.length k:=g;unfold WW at g;rw [pS]at g;cases E with
  | false=>
   obtain⟨v,H',q,s,u,l⟩:=YR hc h g;exact⟨v,d,H',q,by simp only [eI,gF,arQ,if_false,s];rfl,u,l⟩
  | true=>
   obtain⟨v,H',q,s,u,l⟩:=hc _ _ H t _ h g;exact⟨v,d,H',q,by simp only [eI,gF,if_true,s];rfl,u,l⟩
 case bY x args E=>
  have g:Dm x args E bF r d t H.length k:=g;unfold Dm at g;rw [de,pS]at g;obtain⟨⟨c,J⟩,s,g⟩:=kL g;obtain⟨v,H',q,u,l,B⟩:=hc c J H t _ h g;exact⟨v,d,H',q,by simp only [eI,s,u];rfl,l,B⟩
 case len x=>
  have g:ahh x bF r d t H.length k:=g;unfold ahh at g;rw [de]at g;obtain⟨y,m,s,u,g⟩:=ad9 h g;exact go rfl (by simp only [bz,s,u];rfl) h g
 case uW m=>
  have g:agm m bF r d t H.length k:=g;exact go rfl rfl h g
 case append sz bytes x y=>
  have g:yO sz bytes x y bF r d t H.length k:=g;unfold yO at g;rw [de,de]at g;obtain⟨v,H',q,s,u,l⟩:=Fh h g;exact go rfl (by simp only [bz,s]) u l
 case recover=>
  have g:Bg bF r d t H.length k:=g;exact⟨_,d,H,t,rfl,h,g⟩
 case defer x args=>
  have g:Dn x args bF r d t H.length k:=g;unfold Dn at g;rw [de,pS]at g;obtain⟨⟨c,J⟩,s,g⟩:=kL g;cases c with
  | fn f=>exact⟨_,.fn f J::d,H,t,by simp only [eI,s],h,g⟩
  | yield b=>exact g.elim
 all_goals exact gen rfl g
end
section
def zO(H:aj):C→Int→C→Option (V × aj)
 | .sl b o l _ g s,i,.sl vb m 1 _ _ _=>match H[b]?,H[vb]? with
  | some (.bM s' cs j e .loc),aa (.box d _)=>
   if o=0∧m=0∧g=e∧s=5∧s'=5∧cs.length=l*5∧j=0∧0≤i∧i<l∧l≤1000000∧d.length=5 then
    aa (.c (.sl b 0 (l+1) 0 (e+1) 5),H.set b (.bM 5 (cs.take (i.toNat*5)++d++cs.drop (i.toNat*5)) 0 (e+1) .loc))
   else ab
  | _,_=>ab
 | _,_,_=>ab
def LN(args:List V)(H:aj):Option (V × aj):=
 match args with
 | [.c x,.c (.f (.int .i64 i)),.c y]=>match bH H x,c4 H 5 (.c y)with
  | some n,aa (1,_)=>if i=n then bU H 5 40 (.c x) (.c y)else zO H x i y| _,_=>ab
 | _=>ab
def prm(f:Nat)(args:List V)(H:aj):Option (Option (V × aj)):=if f=mN then aa (LN args H)else ab
def adW(args:List V)(t:HT)(n:Nat)(k:V→HT→Nat→Prop):Prop:=match args with
 | [.c (.f .aF),.c (.f (.int .i64 (.ofNat i))),.c y]=>nk (Nat.beq i 0) (uf t 5 (.c y) fun m _=>nk (Nat.beq m 1) (ac' t n 5 40 (.c (.f .aF)) (.c y) k))
 | _=>False
theorem adX{H:aj}{t:HT}(h:cS H t){args:List V}{k:V→HT→Nat→Prop}(b:adW args t H.length k):∃ v H' g,prm mN args H=aa (aa (v,H'))∧cS H' g∧k v g H'.length:=by
 unfold adW at b;split at b
 ·obtain⟨j,l⟩:=jV b;have j:=asG j;subst j;clear b;rename_i y;have b:uf t 5 (.c y) fun m _=>nk (Nat.beq m 1) (ac' t H.length 5 40 (.c (.f .aF)) (.c y) k):=l;obtain⟨m,ys,x,b⟩:=xm h b;obtain⟨d,q⟩:=jV b;have d:=asG d;clear b;subst d;obtain⟨v,H',g,s,d,u⟩:=Fh h q;exact⟨v,H',g,by simp [prm,LN,bH,x,s],d,u⟩
 ·exact b.elim
def pk(tab:Nat→Option aE)(f:Nat)(args:List V)(H:aj):Option (Option (V × aj)):=match tab f with
 | some _=>ab| none=>prm f args H
theorem yk{tab:Nat→Option aE}{f:Nat}{a:aE}(h:tab f=aa a)(args:List V)(H:aj):pk tab f args H=ab:=by simp [pk,h]
end
section
def agH(g:Option (P × Bool))(r:T)(d j:Prop):Prop:=
 Option.rec (motive:=fun _=>Prop) d (fun pw=>Prod.rec (motive:=fun _=>Prop) (fun p w=>BC p r fun v=>match v with
  | .c (.f (.bool b))=>Bool.rec (motive:=fun _=>Prop) (Bool.rec (motive:=fun _=>Prop) d j w) (Bool.rec (motive:=fun _=>Prop) j d w) b
  | .t []=>j
  | _=>False) pw) g
theorem Zx{g:Option (P × Bool)}{r:T}{d l:Prop}(h:agH g r d l):(wanted r g=aa ae∧d)∨(wanted r g=aa ag∧l):=by
 cases g with
 | none=>exact .inl ⟨rfl,h⟩
 | some pw=>
  obtain⟨p,w⟩:=pw;change BC p r _ at h;rw [oe]at h;simp only [wanted];split at h
  ·rename_i b j;rw [j];cases b<;>cases w
   ·exact .inl ⟨rfl,h⟩
   ·exact .inr ⟨rfl,h⟩
   ·exact .inr ⟨rfl,h⟩
   ·exact .inl ⟨rfl,h⟩
  ·rename_i j;rw [j];exact .inr ⟨rfl,h⟩
  ·exact h.elim
abbrev K':=T→List dH→HT→Nat→Prop
def Zp(o:aS)(call:fy)(r:T)(d:List dH)(t:HT)(n:Nat)(k:K'):Prop:=
 aS.rec (motive:=fun _=>Prop) (fun dst op g=>agH g r (amx op call r d t n fun v d t n=>ajG dst r v fun r=>k r d t n) (ajG dst r (.t []) fun r=>k r d t n)) o
theorem Cy{call:cJ}{bF:fy}(hc:pM call bF){o:aS}{r:T}{d:List dH}{H:aj}{t:HT}{k:K'}(h:cS H t)(b:Zp o bF r d t H.length k) :
  ∃ s' j,fC call ⟨r,d,H⟩ o=aa s'∧cS s'.heap j∧k s'.aA s'.defs j s'.heap.length:=by
 obtain⟨dst,op,g⟩:=o;rcases Zx b with⟨l,b⟩ | ⟨l,b⟩
 ·obtain⟨v,q,H',j,s,u,m⟩:=aej hc op h b;rw [F_]at m;exact⟨⟨ke r dst v,q,H'⟩,j,by simp only [fC,l,s],u,m⟩
 ·rw [F_]at b;exact⟨⟨ke r dst (.t []),d,H⟩,t,by simp only [fC,l],h,b⟩
def amF(ops:List aS)(call:fy):T→List dH→HT→Nat→K'→Prop:=
 List.rec (motive:=fun _=>T→List dH→HT→Nat→K'→Prop) (fun r d t n k=>k r d t n) (fun o _ b r d t n k=>Zp o call r d t n fun r d t n=>b r d t n k) ops
theorem FW{call:cJ}{bF:fy}(hc:pM call bF):∀ {ops:List aS} {r:T} {d:List dH} {H:aj} {t:HT} {k:K'},cS H t→amF ops bF r d t H.length k →
  ∃ s' j,fx call ops ⟨r,d,H⟩=aa s'∧cS s'.heap j∧k s'.aA s'.defs j s'.heap.length
 | [],r,d,H,t,k,h,b=>⟨⟨r,d,H⟩,t,rfl,h,b⟩
 | o::ops,r,d,H,t,k,h,b=>by
  obtain⟨g,t1,l,m,q⟩:=Cy hc h b;obtain⟨x,t2,s,u,v⟩:=FW hc (r:=g.aA) (d:=g.defs) (H:=g.heap) m q;exact⟨x,t2,by simp only [fx,l];exact s,u,v⟩
structure uc where
 r:T
 d:List dH
 t:HT
 n:Nat
def zX(ops:List aS)(call:fy):T→List dH→HT→Nat→(List uc→K')→Prop:=
 List.rec (motive:=fun _=>T→List dH→HT→Nat→(List uc→K')→Prop) (fun r d t n k=>k [⟨r,d,t,n⟩] r d t n)
  (fun o _ q r d t n k=>Zp o call r d t n fun r' m u n'=>q r' m u n' fun s j b l g=>k (⟨r,d,t,n⟩::s) j b l g) ops
def agl(s:St)(x:uc):Prop:=x.r=s.aA∧x.d=s.defs∧cS s.heap x.t∧x.n=s.heap.length
inductive ud:List St→List uc→Prop
 | nil:ud [] []
 | cons {s:St} {x:uc} {ss:List St} {xs:List uc} (h:agl s x) (hs:ud ss xs):ud (s::ss) (x::xs)
theorem ud.get{d:List St}{xs:List uc}(h:ud d xs):∀(i:Nat) (x:uc),xs[i]?=aa x→∃ s,d[i]?=aa s∧agl s x:=by
 induction h with
 | nil=>intro i x b;simp at b
 | cons h j g=>
  intro i x b;cases i with
  | zero=>simp at b;subst b;exact⟨_,rfl,h⟩| succ i=>simpa using g i x (by simpa using b)
theorem vD{call:cJ}{bF:fy}(hc:pM call bF):∀ {ops:List aS} {r:T} {d:List dH} {H:aj} {t:HT} {k:List uc→K'},cS H t→zX ops bF r d t H.length k →
  ∃ b xs s' m,dG call ops ⟨r,d,H⟩=aa b∧ud b xs∧b.getLast?=aa s'∧cS s'.heap m∧k xs s'.aA s'.defs m s'.heap.length
 | [],r,d,H,t,k,h,g=>⟨[⟨r,d,H⟩],[⟨r,d,t,H.length⟩],⟨r,d,H⟩,t,rfl,.cons ⟨rfl,rfl,h,rfl⟩ .nil,rfl,h,g⟩
 | o::ops,r,d,H,t,k,h,g=>by
  obtain⟨j,t1,q,s,u⟩:=Cy hc h g;obtain⟨b,xs,A,t2,v,x,l,y,z⟩:=vD hc (r:=j.aA) (d:=j.defs) (H:=j.heap) s u;refine⟨⟨r,d,H⟩::b,⟨r,d,t,H.length⟩::xs,A,t2,by simp only [dG,q];rw [v],.cons ⟨rfl,rfl,h,rfl⟩ x,?_,y,z⟩;cases b with
  | nil=>simp at l| cons a as=>simpa using l
def Gi(ops:List aS)(xs:List uc)(c:Nat × Nat):Bool:=
 match ops[c.1]?,xs[c.1]?,xs[c.2]? with
 | some o,aa s,aa s'=>match wanted s.r o.g with
  | some ag=>ae
  | _=>match ZB s.r s.t.get s.n o.op,ZB s.r s'.t.get s'.n o.op with
   | some (v,_),aa (b,_)=>v.beq b| _,_=>ag
 | _,_,_=>ag
theorem Y'{ops:List aS}{l:List St}{xs:List uc}(h:ud l xs){c:Nat × Nat}(hc:Gi ops xs c=ae):sameAt ops l c=ae:=by
 unfold Gi at hc;split at hc
 ·rename_i o x O z A B;obtain⟨s,m,q,K,u,y⟩:=h.get _ _ A;obtain⟨s',F,L,M,H,I⟩:=h.get _ _ B;unfold sameAt;rw [z,m,F];simp only;rw [←q];split at hc
  ·rename_i E;rw [E]
  ·split at hc
   ·rename_i v e N J g j;rw [u,y]at g;rw [H,I]at j;have b:=Aa x.r s.heap o.op;rw [g]at b;have d:=Aa x.r s'.heap o.op;rw [j]at d;rw [←b,←d];split
    ·rfl
    ·exact hc
   ·simp at hc
 ·simp at hc
def qB(ops:List aS)(gX:List (Nat × Nat))(call:fy)(r:T)(d:List dH)(t:HT)(n:Nat)(k:K'):Prop:=
 List.rec (motive:=fun _=>Prop) (amF ops call r d t n k) (fun _ _ _=>zX ops call r d t n fun xs r d t n=>nk (gX.all (Gi ops xs)) (k r d t n)) gX
theorem EC{call:cJ}{bF:fy}(hc:pM call bF){ops:List aS}{gX:List (Nat × Nat)}{r:T}{d:List dH}{H:aj}{t:HT}{k:K'}(h:cS H t)(b:qB ops gX bF r d t H.length k) :
  ∃ s' g,fS call ops gX ⟨r,d,H⟩=aa s'∧cS s'.heap g∧k s'.aA s'.defs g s'.heap.length:=by
 cases gX with
 | nil=>exact FW hc h b
 | cons c cs=>
  have b:zX ops bF r d t H.length (fun xs r d t n=>nk ((c::cs).all (Gi ops xs)) (k r d t n)):=b;obtain⟨x,xs,s',g,l,m,q,s,u⟩:=vD hc h b;obtain⟨j,v⟩:=jV u;refine⟨s',g,?_,s,v⟩;simp only [fS,l];rw [bp,q];rw [arX]at j ⊢;exact fun c hc=>Y' m (j c hc)
abbrev Go1:=Option Nat→List cA→K'
abbrev ac4:=Option az→K'
abbrev cB:=fy→Nat→ac4→Go1→Option Nat→List cA→K'
def Fl:cB:=fun _ _ _ go ro rest r d t n=>go ro rest r d t n
def adh(ops:List aS)(gX:List (Nat × Nat)):cB:=fun call _ _ go ro rest r d t n=>
 Option.rec (motive:=fun _=>Prop) (qB ops gX call r d t n fun r d t n=>go ro rest r d t n)
  (fun _=>nk (ops.all (·.op.ee)) (qB ops gX call r d t n fun r d t n=>go ro rest r d t n)) ro
def ao9(a b:az)(_ _:cB):cB:=fun _ _ _ go ro rest r d t n=>go ro (.code a::.code b::rest) r d t n
def Xh(c:Arg)(a b:az)(_ _:cB):cB:=fun _ _ _ go ro rest r d t n=>pX c r fun v=>match v with
 | .c (.f (.bool v))=>Bool.rec (motive:=fun _=>Prop) (go ro (.code b::rest) r d t n) (go ro (.code a::rest) r d t n) v
 | _=>False
def ahy(id:Nat)(a:az)(_:cB):cB:=fun _ _ _ go ro rest r d t n=>go ro (.code a::.inBlock id::rest) r d t n
def alF(a:az)(_:cB):cB:=fun _ _ _ go ro rest r d t n=>go ro (.code a::.inLoop a::rest) r d t n
def yV(f:Arg)(ps:List P)(as bd:az)(_ _:cB):cB:=fun call fn _ go ro rest r d t n=>
 Option.rec (motive:=fun _=>Prop)
  (oT (.kT ae) t n fun t b=>oT (.lp fn r ps as bd .ready ab n) t b fun t l=>pX f r fun x=>
   rX (bZ x [.c (.yl b)]) fun j=>Prod.rec (motive:=fun _=>Prop) (fun c m=>Callee.rec (motive:=fun _=>Prop)
    (fun g=>call (.fn g) m t l fun _ t n'=>go ab (.ji b::rest) r (.pV n::d) t n') (fun _=>False) c) j)
  (fun _=>False) ro
def Xi(id:Nat):cB:=fun _ _ b go ro rest r d t n=>
 Option.rec (motive:=fun _=>Prop) (Option.rec (motive:=fun _=>Prop) False (fun _=>b (aa (.exit id)) r d t n) ro) (fun k=>go ro k r d t n) (exitTo id rest)
def ao8:cB:=fun _ _ b _ _ _ r d t n=>b (aa .ret) r d t n
def ao7:cB:=fun _ _ _ _ _ _ _ _ _ _=>False
def ahA(a:az)(_:cB):cB:=fun _ _ _ go ro rest r d t n=>go ro (.code a::.inScope a::rest) r d t n
def ahz(_:Nat):cB:=Fl
def alE(l:Nat):cB:=fun _ _ _ go ro rest r d t n=>rX (gotoIn l rest) fun k=>go ro k r d t n
def Bv(c:az):cB:=az.rec (motive:=fun _=>cB) Fl adh ao9 Xh ahy alF yV Xi ao8 ao7 ahA ahz alE c
def ahS(_:Nat):cB:=Fl
def alZ(c:az):cB:=fun _ _ _ go ro rest r d t n=>go ro (.code c::.inLoop c::rest) r d t n
def DN(b:Nat):cB:=fun _ _ _ go ro rest r d t n=>gn b t fun bu=>match bu with
 | .lp f tmps ps as bd st pending g=>nk (match st with | .busy=>ag | _=>ae) (gq (.lp f tmps ps as bd .exhausted pending g) t b fun t=>match pending with
  | none=>go ro rest r d t n| some .ret=>go ro (.code .ret::rest) r d t n| some (.exit id)=>go ro (.code (.exit id)::rest) r d t n
  | some _=>False)
 | _=>False
def ags:cB:=fun _ _ _ go ro rest r d t n=>Option.rec (motive:=fun _=>Prop) False (fun b=>gn b t fun bu=>match bu with
 | .lp f tmps ps as bd .ready pending g=>gq (.lp f tmps ps as bd .busy pending g) t b fun t=>go ro rest r d t n
 | _=>False) ro
def ahT(_:az):cB:=Fl
def agt(x:cA):cB:=cA.rec (motive:=fun _=>cB) Bv ahS alZ DN ags ahT x
def runK(call:fy)(fn:Nat)(b:ac4)(m:Nat):Go1:=
 Nat.rec (motive:=fun _=>Go1) (fun _ _ _ _ _ _=>False)
  (fun _ j ro g r d t n=>List.rec (motive:=fun _=>Prop) (b ab r d t n) (fun x rest _=>agt x call fn b j ro rest r d t n) g) m
def aky(call:cJ)(fn m:Nat)(ro:Option Nat)(g:List cA)(s:St)(d:ac4):Prop:=
 ∃ b s' j,run call fn m ro g s=aa (b,s')∧cS s'.heap j∧d b s'.aA s'.defs j s'.heap.length
theorem Ge{call:cJ}{bF:fy}(hc:pM call bF)(fn:Nat)(j:ac4):∀(m:Nat) (ro:Option Nat) (s:List cA) (r:T) (d:List dH) (H:aj) (t:HT),
  cS H t→runK bF fn j m ro s r d t H.length→aky call fn m ro s ⟨r,d,H⟩ j:=by
 intro m;induction m with
 | zero=>intro ro s r d H t h q;exact q.elim
 | succ m ih=>
  intro ro s r d H t h q;have go:∀ {y} {s':St} {E:HT},run call fn (m+1) ro s ⟨r,d,H⟩=run call fn m ro y s'→cS s'.heap E→runK bF fn j m ro y s'.aA s'.defs E s'.heap.length→aky call fn (m+1) ro s ⟨r,d,H⟩ j:=by
   intro y s' E u z B;obtain⟨L,N,O,W,X,Y⟩:=ih ro y s'.aA s'.defs s'.heap E z B;exact⟨L,N,O,by rw [u];exact W,X,Y⟩
  cases s with
  | nil=>exact⟨ab,⟨r,d,H⟩,t,rfl,h,q⟩
  | cons x rest=>
   have q:agt x bF fn j (runK bF fn j m) ro rest r d t H.length:=q;cases x with
   | inBlock id=>exact go (s':=⟨r,d,H⟩) (by simp only [run]) h q
   | inLoop c=>exact go (s':=⟨r,d,H⟩) (by simp only [run]) h q
   | inScope c=>exact go (s':=⟨r,d,H⟩) (by simp only [run]) h q
   | ji b=>
    have q:DN b bF fn j (runK bF fn j m) ro rest r d t H.length:=q;unfold DN at q;obtain⟨bu,u,z⟩:=dm q;rw [h]at u;have u:H[b]?=aa bu:=u;split at z
    ·rename_i f tmps ps as bd st pending F _;obtain⟨B,z⟩:=jV z;obtain⟨E,I,A⟩:=dY h z;have J:st≠.busy:=by rintro rfl;simp at B
     have M:H.length=(H.set b (.lp f tmps ps as bd .exhausted pending F)).length:=by simp
     rw [M]at A;split at A
     ·exact go (s':=⟨r,d,H.set b (.lp f tmps ps as bd .exhausted ab F)⟩) (by simp only [run,u,aZ J]) I A
     ·exact go (s':=⟨r,d,H.set b (.lp f tmps ps as bd .exhausted (aa .ret) F)⟩) (by simp only [run,u,aZ J]) I A
     ·exact go (s':=⟨r,d,H.set b (.lp f tmps ps as bd .exhausted (aa (.exit _)) F)⟩) (by simp only [run,u,aZ J]) I A
     ·exact A.elim
    ·exact z.elim
   | nf=>
    have q:ags bF fn j (runK bF fn j m) ro rest r d t H.length:=q;cases ro with
    | none=>exact q.elim
    | some b=>
     obtain⟨bu,u,z⟩:=dm q;rw [h]at u;have u:H[b]?=aa bu:=u;split at z
     ·rename_i f tmps ps as bd pending F _;obtain⟨E,I,A⟩:=dY h z;have M:H.length=(H.set b (.lp f tmps ps as bd .busy pending F)).length:=by simp
      rw [M]at A;exact go (s':=⟨r,d,H.set b (.lp f tmps ps as bd .busy pending F)⟩) (by simp only [run,u]) I A
     ·exact z.elim
   | code c=>
    cases c with
    | skip=>exact go (s':=⟨r,d,H⟩) (by simp only [run]) h q
    | label l=>exact go (s':=⟨r,d,H⟩) (by simp only [run]) h q
    | scope a=>exact go (s':=⟨r,d,H⟩) (by simp only [run]) h q
    | goto l=>
     obtain⟨k',K,q⟩:=kL (show rX (gotoIn l rest) (fun k'=>runK bF fn j m ro k' r d t H.length) from q);exact go (s':=⟨r,d,H⟩) (by simp only [run,K]) h q
    | bad=>exact q.elim| ret=>exact⟨aa .ret,⟨r,d,H⟩,t,rfl,h,q⟩| seq a b=>exact go (s':=⟨r,d,H⟩) (by simp only [run]) h q
    | block id a=>exact go (s':=⟨r,d,H⟩) (by simp only [run]) h q
    | loop a=>exact go (s':=⟨r,d,H⟩) (by simp only [run]) h q
    | exit id=>
     have q:Xi id bF fn j (runK bF fn j m) ro rest r d t H.length:=q;unfold Xi at q;cases K:exitTo id rest with
     | some k'=>
      rw [K]at q;exact go (s':=⟨r,d,H⟩) (by simp only [run,K]) h q
     | none=>
      rw [K]at q;cases ro with
      | none=>exact q.elim| some b=>exact⟨aa (.exit id),⟨r,d,H⟩,t,by simp only [run,K,Option.isSome_some,if_true],h,q⟩
    | cond c a b=>
     have q:Xh c a b (Bv a) (Bv b) bF fn j (runK bF fn j m) ro rest r d t H.length:=q;unfold Xh at q;rw [de]at q;split at q
     ·rename_i v U;cases v with
      | true=>exact go (s':=⟨r,d,H⟩) (by simp only [run,U,if_true]) h q
      | false=>exact go (s':=⟨r,d,H⟩) (by simp only [run,U,arQ,if_false]) h q
     ·exact q.elim
    | region ops gX=>
     have key:(ro.isSome&&!ops.all (·.op.ee))=ag∧qB ops gX bF r d t H.length (fun r d t n=>runK bF fn j m ro rest r d t n):=by
      cases ro with
      | none=>exact⟨rfl,q⟩
      | some b=>
       obtain⟨u,z⟩:=jV (show nk (ops.all (·.op.ee)) (qB ops gX bF r d t H.length (fun r d t n=>runK bF fn j m (aa b) rest r d t n)) from q);exact⟨by rw [u];rfl,z⟩
     obtain⟨s',E,u,z,B⟩:=EC hc h key.2;exact go (s':=s') (by simp only [run,key.1,arQ,if_false,u]) z B
    | kX f ps as bd=>
     have q:yV f ps as bd (Bv as) (Bv bd) bF fn j (runK bF fn j m) ro rest r d t H.length:=q;cases ro with
     | some b=>exact q.elim
     | none=>
      unfold yV at q;obtain⟨t1,u,q⟩:=iw h q;obtain⟨t2,z,q⟩:=iw u q;rw [de]at q;obtain⟨⟨c,vs⟩,B,q⟩:=kL q;have Q:(H++[cT.kT ae]).length=H.length+1:=by simp
      have S:H++[cT.kT ae]++[cT.lp fn r ps as bd .ready ab H.length]=H++[.kT ae,.lp fn r ps as bd .ready ab H.length]:=by simp
      rw [Q]at B;rw [S]at z;cases c with
      | yield b=>exact q.elim
      | fn g=>
       have q:bF (.fn g) vs t2 (H++[cT.kT ae]++[cT.lp fn r ps as bd .ready ab H.length]).length (fun _ t n'=>runK bF fn j m ab (.ji (H++[cT.kT ae]).length::rest) r (.pV H.length::d) t n'):=q;rw [S,Q]at q;obtain⟨v,H',E,I,A,Z⟩:=hc _ _ _ _ _ z q;exact go (s':=⟨r,.pV H.length::d,H'⟩) (by simp only [run,Option.isSome_none,arQ,if_false,B,I]) A Z
def Fp(call:fy)(ds:List dH):HT→Nat→(HT→Nat→Prop)→Prop:=
 List.rec (motive:=fun _=>HT→Nat→(HT→Nat→Prop)→Prop) (fun t n k=>k t n)
  (fun x _ d t n k=>dH.rec (motive:=fun _=>Prop)
   (fun b=>gn b t fun bu=>match bu with
    | .kT ae=>gq (.kT ag) t b fun t=>d t n k
    | _=>False)
   (fun f args=>Bool.rec (motive:=fun _=>Prop) (call (.fn f) args t n fun _ t n=>d t n k) False (Nat.beq f mN)) x) ds
theorem uF{call:cJ}{bF:fy}(hc:pM call bF):∀ {ds:List dH} {H:aj} {t:HT} {k:HT→Nat→Prop},cS H t→Fp bF ds t H.length k→∃ H' j,dW call ds H=aa H'∧cS H' j∧k j H'.length
 | [],H,t,k,h,d=>⟨H,t,rfl,h,d⟩
 | .pV b::ds,H,t,k,h,d=>by
  obtain⟨bu,g,l⟩:=dm d;rw [h]at g;have g:H[b]?=aa bu:=g;split at l
  ·obtain⟨t1,q,m⟩:=dY h l;have z:H.length=(H.set b (.kT ag)).length:=by simp
   have m:Fp bF ds t1 H.length k:=m;rw [z]at m;obtain⟨H',j,s,u,x⟩:=uF hc q m;exact⟨H',j,by simp only [dW,g];exact s,u,x⟩
  ·exact l.elim
 | .fn f args::ds,H,t,k,h,d=>by
  have d:Bool.rec (motive:=fun _=>Prop) (bF (.fn f) args t H.length fun _ t n=>Fp bF ds t n k) False (Nat.beq f mN):=d;cases y:Nat.beq f mN with
  | true=>rw [y]at d;exact d.elim
  | false=>
   rw [y]at d;obtain⟨v,A,t1,g,l,q⟩:=hc _ _ H t _ h d;obtain⟨H',j,s,u,x⟩:=uF hc (ds:=ds) l q;exact⟨H',j,by simp only [dW,aZ (Nat.ne_of_beq_eq_false y),g];exact s,u,x⟩
def an0(r:T)(t:HT)(a:iK)(k:V→Prop):Prop:=iK.rec (motive:=fun _=>Prop)
 (fun p=>BC p r fun v=>match v with
  | .t _=>False
  | v=>k v)
 (fun p m=>BC p r fun v=>ldK t m v k) a
theorem afd{H:aj}{t:HT}(h:cS H t){r:T}(a:iK)(k:V→Prop)(b:an0 r t a k):∃ v,bs r H a=aa v∧k v:=by
 cases a with
 | tmp p=>
  change BC p r _ at b;rw [oe]at b;simp only [bs];cases d:r.get p with
  | t g=>rw [d]at b;exact b.elim| _=>rw [d]at b;exact⟨_,rfl,b⟩
 | cell p m=>
  change BC p r _ at b;rw [oe]at b;exact XV h b
def Cg(r:T)(t:HT)(b:List iK)(k:V→Prop):Prop:=zc (an0 r t) b fun vs=>match vs with
 | [v]=>k v| vs=>k (.t vs)
theorem Ch{H:aj}{t:HT}(h:cS H t){r:T}{g:List iK}{k:V→Prop}(m:Cg r t g k):∃ v,Km.results r H g=aa v∧k v:=by
 obtain⟨j,l,d⟩:=jm (afd h) m;unfold Km.results;rw [l];split at d
 ·exact⟨_,rfl,d⟩
 ·rename_i b;refine⟨.t j,?_,d⟩
  match j,b with
  | [v],b=>exact absurd rfl (b v)| [],_=>rfl| _::_::_,_=>rfl
def fnK(tab:BT aE)(m:Nat)(call:fy)(f:Nat)(args:List V)(t:HT)(n:Nat)(k:V→HT→Nat→Prop):Prop:=
 gn f tab fun b=>aE.rec (motive:=fun _=>Prop) (fun ps g body=>ik args.length ps.length (tN ps args .e fun r=>
  runK call f (fun _ r d t n=>Fp call d t n fun t n=>Cg r t g fun v=>k v t n) m ab [.code body] r [] t n)) b
def ZH(m:Nat)(call:fy)(b:Nat)(args:List V)(t:HT)(n:Nat)(k:V→HT→Nat→Prop):Prop:=
 gn b t fun bu=>match bu with
  | .lp f tmps ps as bd _ _ _=>ik args.length ps.length (tN ps args tmps fun r=>
    runK call f (fun q _ d t n=>nk d.isEmpty (gn b t fun bu=>match bu with
     | .lp v g s as' l _ _ u=>match q with
      | none=>gq (.lp v g s as' l .ready ab u) t b fun t=>k (.c (.f (.bool ae))) t n
      | some j=>gq (.lp v g s as' l .done (aa j) u) t b fun t=>k (.c (.f (.bool ag))) t n
     | _=>False)) m (aa b) [.code as,.nf,.code bd] r [] t n)
  | _=>False
def bF(tab:BT aE)(m:Nat)(d:Nat):fy:=
 Nat.rec (motive:=fun _=>fy) (fun _ _ _ _ _=>False)
  (fun _ g c args t n k=>Callee.rec (motive:=fun _=>Prop) (fun f=>Bool.rec (motive:=fun _=>Prop) (fnK tab m g f args t n k) (Option.rec (motive:=fun _=>Prop) (adW args t n k) (fun _=>False) (tab.get mN)) (Nat.beq f mN)) (fun b=>ZH m g b args t n k) c) d
theorem Xk(tab:BT aE)(m:Nat):∀ g,pM (dS tab.get (pk tab.get) m g) (bF tab m g):=by
 intro g;induction g with
 | zero=>intro c args H t k h d;exact d.elim
 | succ g J=>
  intro c args H t k h d;cases c with
  | fn f=>
   have d:Bool.rec (motive:=fun _=>Prop) (fnK tab m (bF tab m g) f args t H.length k) (Option.rec (motive:=fun _=>Prop) (adW args t H.length k) (fun _=>False) (tab.get mN)) (Nat.beq f mN):=d;cases E:Nat.beq f mN with
   | true=>
    rw [E]at d;have M:=asG E;subst M;cases I:tab.get mN with
    | some _=>rw [I]at d;exact d.elim
    | none=>
     rw [I]at d;obtain⟨v,H',K,q,x,y⟩:=adX h d;exact⟨v,H',K,by simp only [dS,pk,I,q],x,y⟩
   | false=>
   rw [E]at d;have N:=Nat.ne_of_beq_eq_false E;obtain⟨L,q,d⟩:=dm (show fnK tab m (bF tab m g) f args t H.length k from d);obtain⟨ps,O,body⟩:=L;obtain⟨x,d⟩:=cV d;rw [px]at d;obtain⟨u,s',K,y,z,d⟩:=Ge J f _ m ab [.code body] _ [] H t h d;obtain⟨H',l,B,s,d⟩:=uF J z d;obtain⟨v,A,d⟩:=Ch s d;exact⟨v,H',l,by simp only [dS,yk q,q,x,if_true,y,B,A];rfl,s,d⟩
  | yield b=>
   obtain⟨bu,q,d⟩:=dm (show ZH m (bF tab m g) b args t H.length k from d);rw [h]at q;have q:H[b]?=aa bu:=q;split at d
   ·obtain⟨x,d⟩:=cV d;rw [px]at d;obtain⟨u,s',K,y,z,d⟩:=Ge J _ _ m (aa b) _ _ [] H t h d;obtain⟨B,d⟩:=jV d;obtain⟨blk',s,d⟩:=dm d;rw [z]at s;have s:s'.heap[b]?=aa blk':=s;split at d
    ·cases u with
     | none=>
      obtain⟨l,A,F⟩:=dY z d;exact⟨_,_,l,by simp only [dS,q,x,if_true,y,B,s];rfl,A,by rw [List.length_set];exact F⟩
     | some j=>
      obtain⟨l,A,F⟩:=dY z d;exact⟨_,_,l,by simp only [dS,q,x,if_true,y,B,s];rfl,A,by rw [List.length_set];exact F⟩
    ·exact d.elim
   ·exact d.elim
def isTrue(v:V)(_:HT)(_:Nat):Prop:=match v with
 | .c (.f (.bool b))=>Bool.rec (motive:=fun _=>Prop) False True b
 | _=>False
theorem Dw{tab:BT aE}{m d f:Nat}(h:bF tab m d (.fn f) [] .e 0 isTrue):∃ H',dS tab.get (pk tab.get) m d (.fn f) [] []=aa (.c (.f (.bool ae)),H'):=by
 obtain⟨v,H',q,j,l,g⟩:=Xk tab m d (.fn f) [] [] .e isTrue cS.nil h;refine⟨H',?_⟩;rw [j];unfold isTrue at g;split at g
 ·rename_i b;cases b with
  | true=>rfl| false=>exact g.elim
 ·exact g.elim
end
theorem aM{P:Nat→aE→Prop}:∀ i a,(BT.e:BT aE).get i=aa a→P i a:=fun i a h=>by cases i<;>cases h
theorem aN{P:Nat→aE→Prop}{l r:BT aE}{x:aE}(d:∀ i a,l.get i=aa a→P (2*i+1) a)(g:P 0 x)
  (hr:∀ i a,r.get i=aa a→P (2*i+2) a):∀ i a,(BT.n l x r).get i=aa a→P i a:=by
 intro i a h;cases i with
 | zero=>cases h;exact g
 | succ m=>
  have b:(if m % 2=0 then l.get (m / 2)else r.get (m / 2))=aa a:=h;split at b
  ·have:=d _ _ b;rwa [show 2*(m / 2)+1=m+1 by omega]at this
  ·have:=hr _ _ b;rwa [show 2*(m / 2)+2=m+1 by omega]at this
theorem ae'{Q:Program}{σ:Nat→FuncId}(h:yM Q σ prm)(tab:Nat→Option aE):yM Q σ (pk tab):=fun f args H r H' b=>by
 unfold pk at b;split at b
 ·cases b
 ·exact h f args H r H' b
theorem Ce{tab:BT aE}{f:Nat}(h:∃ m b,bF tab m b (.fn f) [] .e 0 isTrue=True):∃ m b H',dS tab.get (pk tab.get) m b (.fn f) [] []=aa (.c (.f (.bool ae)),H'):=by
 obtain⟨m,b,h⟩:=h;obtain⟨H',d⟩:=Dw (of_eq_true h);exact⟨m,b,H',d⟩
section
def yH(c1 c2:cJ):Prop:=∀ c args H r,c1 c args H=aa r→c2 c args H=aa r
section
variable{c1 c2:cJ}(hc:yH c1 c2)
include hc
theorem wg{c:Nat}{args:List V}{H:aj}{r:V × aj}(h:eo c1 c args H=aa r):eo c2 c args H=aa r:=by
 unfold eo at h ⊢;split at h
 ·simp at h
 ·rename_i g d;split at h
  ·simp at h
  ·rename_i r0 H0 b;simp only [hc _ _ _ _ b];exact h
theorem zD{b:Bool}{c:Nat}{args:List V}{H:aj}{r:V × aj}(h:gF c1 b c args H=aa r):gF c2 b c args H=aa r:=by
 unfold gF at h ⊢;split at h
 ·rename_i d;simp only [d,if_true];exact hc _ _ _ _ h
 ·rename_i d;simp only [d];exact wg hc h
theorem yC{s:St}{op:cP}{r:V × St}(h:eI c1 s op=aa r):eI c2 s op=aa r:=by
 cases op with
 | call f args b=>
  simp only [eI,IN]at h ⊢;obtain⟨a,d,rfl⟩:=h;exact⟨a,zD hc d,rfl⟩
 | bY x args b=>
  simp only [eI]at h ⊢;split at h
  ·simp only [IN]at h ⊢;obtain⟨a,d,rfl⟩:=h;exact⟨a,hc _ _ _ _ d,rfl⟩
  ·simp at h
 | _=>exact h
theorem vM{s s':St}{o:aS}(h:fC c1 s o=aa s'):fC c2 s o=aa s':=by
 unfold fC at h ⊢;cases g:wanted s.aA o.g with
 | none=>simp [g]at h
 | some b=>
  cases b with
  | false=>simpa [g]using h
  | true=>
   simp only [g]at h ⊢;cases d:eI c1 s o.op with
   | none=>simp [d]at h
   | some x=>
    obtain⟨v,j⟩:=x;rw [yC hc d];rw [d]at h;exact h
theorem dA:∀(os:List aS) (s:St) {s':St},fx c1 os s=aa s'→fx c2 os s=aa s'
 | [],s,s',h=>h
 | o::os,s,s',h=>by
  simp only [fx]at h ⊢;split at h
  ·rename_i d b;simp only [vM hc b];exact dA os d h
  ·simp at h
theorem qO:∀(os:List aS) (s:St) {b:List St},dG c1 os s=aa b→dG c2 os s=aa b
 | [],s,b,h=>h
 | o::os,s,b,h=>by
  simp only [dG]at h ⊢;split at h
  ·rename_i j d;simp only [vM hc d];split at h
   ·rename_i l g;simp only [qO os j g];exact h
   ·simp at h
  ·simp at h
theorem Ab{ops:List aS}{gX:List (Nat × Nat)}{s s':St}(h:fS c1 ops gX s=aa s'):fS c2 ops gX s=aa s':=by
 unfold fS at h ⊢;split at h
 ·exact dA hc _ _ h
 ·split at h
  ·rename_i d b;simp only [qO hc _ _ b];exact h
  ·simp at h
theorem qF{fn:Nat}:∀(n n':Nat) (ro:Option Nat) (j:List cA) (s:St) {r:Option az × St},n≤n' →
  run c1 fn n ro j s=aa r→run c2 fn n' ro j s=aa r
 | 0,_,_,_,_,_,_,h=>by simp [run]at h
 | n+1,0,_,_,_,_,B,_=>by omega
 | n+1,n'+1,ro,j,s,r,B,h=>by
  have m:=fun ro j s r h=>qF (fn:=fn) n n' ro j s (r:=r) (by omega) h
  match j,h with
  | [],h=>exact h| .inBlock _::k,h=>exact m _ _ _ _ h| .inLoop c::k,h=>exact m _ _ _ _ h
  | .ji b::k,h=>
   simp only [run]at h ⊢;split at h
   ·rename_i f tmps ps as bd st pending d y
    try simp only [y]
    split at h
    ·simp at h
    ·rename_i z
     try simp only [z,if_false]
     split at h
     ·exact m _ _ _ _ h
     ·exact m _ _ _ _ h
     ·exact m _ _ _ _ h
     ·simp at h
   ·simp at h
  | .nf::k,h=>
   simp only [run]at h ⊢;split at h
   ·simp at h
   ·rename_i b;split at h
    ·rename_i y
     try simp only [y]
     exact m _ _ _ _ h
    ·simp at h
  | .code .skip::k,h=>exact m _ _ _ _ h| .inScope _::k,h=>exact m _ _ _ _ h| .code (.label _)::k,h=>exact m _ _ _ _ h| .code (.scope a)::k,h=>exact m _ _ _ _ h
  | .code (.goto l)::k,h=>
   simp only [run]at h ⊢;split at h
   ·rename_i u;(try simp only [u]);exact m _ _ _ _ h
   ·simp at h
  | .code .bad::_,h=>simp [run]at h| .code .ret::_,h=>exact h
  | .code (.exit id)::k,h=>
   simp only [run]at h ⊢;split at h
   ·rename_i u;(try simp only [u]);exact m _ _ _ _ h
   ·rename_i u;(try simp only [u]);exact h
  | .code (.seq a b)::k,h=>exact m _ _ _ _ h| .code (.block id a)::k,h=>exact m _ _ _ _ h| .code (.loop a)::k,h=>exact m _ _ _ _ h
  | .code (.cond c a b)::k,h=>
   simp only [run]at h ⊢;split at h
   ·rename_i v E;(try simp only [E]);exact m _ _ _ _ h
   ·simp at h
  | .code (.region ops gX)::k,h=>
   simp only [run]at h ⊢;split at h
   ·simp at h
   ·rename_i q
    try simp only [q]
    split at h
    ·rename_i H x
     try simp only [Ab hc x]
     exact m _ _ _ _ h
    ·simp at h
  | .code (.kX f ps as bd)::k,h=>
   simp only [run]at h ⊢;split at h
   ·simp at h
   ·rename_i q
    try simp only [q]
    split at h
    ·rename_i g args A
     try simp only [A]
     split at h
     ·rename_i v F x
      try simp only [hc _ _ _ _ x]
      exact m _ _ _ _ h
     ·simp at h
    ·simp at h
theorem jw:∀(ds:List dH) (H:aj) {H':aj},dW c1 ds H=aa H'→dW c2 ds H=aa H'
 | [],H,H',h=>h
 | .pV b::ds,H,H',h=>by
  simp only [dW]at h ⊢;split at h
  ·rename_i l;exact jw ds _ h
  ·simp at h
 | .fn f args::ds,H,H',h=>by
  simp only [dW]at h ⊢;split at h
  ·simp at h
  rename_i d;rw [aZ d];split at h
  ·rename_i v j g
   try simp only [hc _ _ _ _ g]
   exact jw ds _ h
  ·simp at h
end
variable{tab:Nat→Option aE}{oI:Nat→List V→aj→Option (Option (V × aj))}
theorem ur{m l:Nat}(v:m≤l):∀(d g:Nat),d≤g→yH (dS tab oI m d) (dS tab oI l g)
 | 0,_,_,_,_,_,_,h=>by simp [dS]at h
 | d+1,0,E,_,_,_,_,_=>by omega
 | d+1,g+1,E,c,args,H,r,h=>by
  have z:yH (dS tab oI m d) (dS tab oI l g):=ur v d g (by omega)
  match c,h with
  | .fn f,h=>
   simp only [dS]at h ⊢;split at h
   ·rename_i r' x;(try simp only [x]);exact h
   ·rename_i x
    try simp only [x]
    split at h
    ·simp at h
    ·rename_i I q
     try simp only [q]
     split at h
     ·rename_i u
      try simp only [u,if_true]
      split at h
      ·rename_i j s y
       try simp only [qF z m l _ _ _ v y]
       split at h
       ·rename_i F A
        try simp only [jw z _ _ A]
        exact h
       ·simp at h
      ·simp at h
     ·simp at h
  | .yield b,h=>
   simp only [dS]at h ⊢;split at h
   ·rename_i f tmps ps as bd J K L B
    try simp only [B]
    split at h
    ·rename_i u
     try simp only [u,if_true]
     split at h
     ·rename_i j s y
      try simp only [qF z m l _ _ _ v y]
      exact h
     ·simp at h
    ·simp at h
   ·simp at h
end
section
variable(tab:Nat→Option aE)
abbrev CF(m d:Nat):cJ:=dS tab (pk tab) m d
def Ev(c:Callee)(args:List V)(H:aj)(r:V)(H':aj):Prop:=∃ m d,CF tab m d c args H=aa (r,H')
def bA(f:Nat)(args:List V)(r:V):Prop:=∃ r0 H',Ev tab (.fn f) args [] r0 H'∧fJ deep H' r0=aa r
def WP(fn:Nat)(ro:Option Nat)(b:List cA)(s:St)(Q:Option az→St→Prop):Prop:=
 ∃ n m d j s',run (CF tab m d) fn n ro b s=aa (j,s')∧Q j s'
def kQ(s:St)(op:cP)(K:V→St→Prop):Prop:=
 match op with
 | .call f args h=>
  if h then ∃ r H',Ev tab (.fn f) (dh s.aA args) s.heap r H'∧K r { s with heap:=H' }
  else ∃ b r,ba (bO deep s.heap) (dh s.aA args)=aa b∧bA tab f b r∧K r { s with heap:=(dh s.aA args).foldl (ZR deep) s.heap }
 | .bY x args _=>∃ c as r H',bZ (x.ev s.aA) (dh s.aA args)=aa (c,as)∧Ev tab c as s.heap r H'∧K r { s with heap:=H' }
 | .recover=>K (.c (.f .mQ)) s| .defer x args=>∃ f as,bZ (x.ev s.aA) (dh s.aA args)=aa (.fn f,as)∧K .top { s with defs:=.fn f as::s.defs }
 | op=>∃ v H',bz s.aA s.heap op=aa (v,H')∧K v { s with heap:=H' }
def vS:List aS→St→(St→Prop)→Prop
 | [],s,K=>K s
 | o::os,s,K=>match wanted s.aA o.g with
  | some ae=>kQ tab s o.op fun v s'=>vS os { s' with aA:=ke s'.aA o.dst v } K
  | some ag=>vS os { s with aA:=ke s.aA o.dst (.t []) } K
  | none=>False
variable{tab}
variable{c:Callee}{args:List V}{H H':aj}{r:V}
theorem kC{m g d b:Nat}(l:m≤g)(j:d≤b):yH (CF tab m d) (CF tab g b):=ur l d b j
theorem Ev.det{r2:V}{j:aj}(b:Ev tab c args H r H')(g:Ev tab c args H r2 j):r=r2∧H'=j:=by
 obtain⟨m,d,b⟩:=b;obtain⟨s,l,g⟩:=g;have u:=kC (tab:=tab) (asa m s) (asa d l) _ _ _ _ b;have q:=kC (tab:=tab) (ar2 m s) (ar2 d l) _ _ _ _ g;rw [u]at q;simpa using q
theorem bA.det{f:Nat}{r2:V}(g:bA tab f args r)(d:bA tab f args r2):r=r2:=by
 obtain⟨a,m,j,g⟩:=g;obtain⟨b,q,l,d⟩:=d;obtain⟨rfl,rfl⟩:=j.det l;rw [g]at d;simpa using d
theorem K_{s:St}{op:cP}{K:V→St→Prop}(h:kQ tab s op K):∃ m d v s',eI (CF tab m d) s op=aa (v,s')∧K v s':=by
 cases op with
 | call f args b=>
  simp only [kQ]at h;split at h
  ·rename_i q;obtain⟨r,H',⟨m,d,g⟩,l⟩:=h;exact⟨m,d,r,_,by simp [eI,gF,q,g],l⟩
  ·rename_i q;obtain⟨y,r,j,⟨r0,H0,⟨m,d,g⟩,l⟩,u⟩:=h;exact⟨m,d,r,_,by simp [eI,gF,q,eo,j,g,l],u⟩
 | bY x args b=>
  obtain⟨c,as,r,H',j,⟨m,d,g⟩,l⟩:=h;exact⟨m,d,r,_,by simp [eI,j,g],l⟩
 | recover=>exact⟨0,0,_,_,rfl,h⟩
 | «defer» x args=>
  obtain⟨f,as,j,g⟩:=h;exact⟨0,0,.top,_,by simp [eI,j],g⟩
 | _=>
  obtain⟨v,H',j,g⟩:=h;exact⟨0,0,v,_,by simp [eI,j],g⟩
theorem jK:∀(os:List aS) (s:St) {K:St→Prop},vS tab os s K→∃ m d s',fx (CF tab m d) os s=aa s'∧K s'
 | [],s,K,h=>⟨0,0,s,rfl,h⟩
 | o::os,s,K,h=>by
  simp only [vS]at h;split at h
  ·rename_i q;obtain⟨m,d,v,A,y,z⟩:=K_ h;obtain⟨g,b,s',j,l⟩:=jK os _ z;refine⟨max m g,max d b,s',?_,l⟩;have u:=yC (kC (tab:=tab) (asa m g) (asa d b)) y;have x:=dA (kC (tab:=tab) (ar2 m g) (ar2 d b)) os _ j;simp only [fx,fC,q,u,x]
  ·rename_i q;obtain⟨g,b,s',j,l⟩:=jK os _ h;exact⟨g,b,s',by simp only [fx,fC,q,j],l⟩
  ·exact h.elim
variable{fn:Nat}{ro:Option Nat}{k:List cA}{s:St}{Q:Option az→St→Prop}{a b:az}
theorem mD{g:List cA}{b:List cA}{s':St}(h:WP tab fn ro b s' Q)
  (u:∀ m d n,run (CF tab m d) fn (n+1) ro g s=run (CF tab m d) fn n ro b s'):WP tab fn ro g s Q:=by
 obtain⟨n,m,d,j,v,l,q⟩:=h;exact⟨n+1,m,d,j,v,by rw [u,l],q⟩
theorem jZ(h:Q ab s):WP tab fn ro [] s Q:=⟨1,0,0,ab,s,rfl,h⟩
theorem aw{i:Nat}(h:WP tab fn ro k s Q):WP tab fn ro (.inBlock i::k) s Q:=mD h fun _ _ _=>rfl
theorem rP(h:WP tab fn ro (.code a::.inLoop a::k) s Q):WP tab fn ro (.inLoop a::k) s Q:=mD h fun _ _ _=>rfl
theorem aL(h:WP tab fn ro k s Q):WP tab fn ro (.code .skip::k) s Q:=mD h fun _ _ _=>rfl
theorem aq(h:WP tab fn ro (.code a::.code b::k) s Q):WP tab fn ro (.code (.seq a b)::k) s Q:=mD h fun _ _ _=>rfl
theorem aB{i:Nat}(h:WP tab fn ro (.code a::.inBlock i::k) s Q):WP tab fn ro (.code (.block i a)::k) s Q:=mD h fun _ _ _=>rfl
theorem aJ(h:Q (aa .ret) s):WP tab fn ro (.code .ret::k) s Q:=⟨1,0,0,aa .ret,s,rfl,h⟩
theorem bq{i:Nat}{k':List cA}(b:exitTo i k=aa k')(h:WP tab fn ro k' s Q):WP tab fn ro (.code (.exit i)::k) s Q:=
 mD h fun _ _ _=>by simp only [run,b]
theorem FI{c:Arg}{v:Bool}(hc:c.ev s.aA=.c (.f (.bool v)))(h:WP tab fn ro (.code (if v then a else b)::k) s Q) :
  WP tab fn ro (.code (.cond c a b)::k) s Q:=mD h fun _ _ _=>by simp only [run,hc]
theorem ak{c:Arg}(hc:c.ev s.aA=.c (.f (.bool ae)))(h:WP tab fn ro (.code a::k) s Q) :
  WP tab fn ro (.code (.cond c a b)::k) s Q:=FI hc h
theorem al{c:Arg}(hc:c.ev s.aA=.c (.f (.bool ag)))(h:WP tab fn ro (.code b::k) s Q) :
  WP tab fn ro (.code (.cond c a b)::k) s Q:=FI hc h
theorem vt{m j d g n n':Nat}{b:List cA}{x:Option az × St}(q:m≤j)(l:d≤g)(u:n≤n')
  (h:run (CF tab m d) fn n ro b s=aa x):run (CF tab j g) fn n' ro b s=aa x:=
 qF (kC q l) n n' ro b s u h
theorem av{ops:List aS}(hr:ro=ab∨ops.all (·.op.ee)=ae)(h:vS tab ops s fun s'=>WP tab fn ro k s' Q) :
  WP tab fn ro (.code (.region ops [])::k) s Q:=by
 obtain⟨m,d,s',v,n,l,b,j,z,x,y⟩:=jK ops s h;refine⟨n+1,max m l,max d b,j,z,?_,y⟩;have q:=dA (kC (tab:=tab) (asa m l) (asa d b)) ops _ v;have u:=vt (ar2 m l) (ar2 d b) (OF n) x;have g:(ro.isSome&&!ops.all (·.op.ee))=ag:=by
  rcases hr with rfl | hr
  ·rfl
  ·rw [hr];simp
 simp only [run,g,fS,q,u];simp
theorem bI(I:Nat→St→Prop)(n:Nat)(d:I n s)
  (step:∀ n s,I n s→(∀ n' s',n'<n→I n' s'→WP tab fn ro (.inLoop a::k) s' Q)→WP tab fn ro (.code a::.inLoop a::k) s Q) :
  WP tab fn ro (.code (.loop a)::k) s Q:=by
 have key:∀ n s,I n s→WP tab fn ro (.code a::.inLoop a::k) s Q:=by
  intro n;induction n using Nat.strongRecOn with
  | _ n l=>
   intro s j;exact step n s j fun n' s' g b=>rP (l n' g s' b)
 exact mD (key n s d) fun _ _ _=>rfl
def Fin(tab:Nat→Option aE)(g:aE)(r:V)(H':aj)(s:St):Prop:=
 ∃ m d b,dW (CF tab m d) s.defs s.heap=aa b∧results s.aA b g.results=aa r∧b=H'
theorem xy{f:Nat}{b:aE}(A:tab f=aa b)(K:args.length=b.ps.length)
  (h:WP tab f ab [.code b.body] ⟨cG b.ps args .e,[],H⟩ fun _ s=>Fin tab b r H' s):Ev tab (.fn f) args H r H':=by
 obtain⟨n,m,d,j,s,F,B,x,N,I,J,rfl⟩:=h;obtain⟨M,q,u,v⟩:∃ M,m≤M∧B≤M∧n≤M:=⟨max (max m B) n,by omega,by omega,by omega⟩
 obtain⟨E,g,l⟩:∃ E,d≤E∧x≤E:=⟨max d x,by omega,by omega⟩
 refine⟨M,E+1,?_⟩;have y:run (CF tab M E) f M ab [.code b.body] ⟨cG b.ps args .e,[],H⟩=aa (j,s):=vt q g v F;have z:=jw (kC (tab:=tab) u l) _ _ I;have L:=yk A args H;simp only [CF]at y z ⊢;simp only [dS,L,A,K,if_true,y,z,J,asm]
def mX(b:List iK)(r:V)(s:St):Prop:=s.defs=[]∧∃ r0,results s.aA s.heap b=aa r0∧fJ deep s.heap r0=aa r
theorem bG{f:Nat}{ps:List P}{b:List iK}{body:az}(y:tab f=aa ⟨ps,b,body⟩)(x:args.length=ps.length)
  (h:∀ Q:Option az→St→Prop,(∀ j s,mX b r s→Q j s)→WP tab f ab [.code body] ⟨cG ps args .e,[],[]⟩ Q):bA tab f args r:=by
 have g:=h (fun _ s=>mX b r s) fun _ _ h=>h;obtain⟨n,m,d,j,s,l,v,r0,q,u⟩:=g;exact⟨r0,s.heap,xy y x ⟨n,m,d,j,s,l,0,0,s.heap,by rw [v];rfl,q,rfl⟩,u⟩
end
theorem ai{tab:Nat→Option aE}{fn:Nat}{ops:List aS}{b:az}{k:List cA}{s:St}{Q:Option az→St→Prop}(h:vS tab ops s fun s'=>WP tab fn ab (.code b::k) s' Q):WP tab fn ab (.code (.seq (.region ops []) b)::k) s Q:=aq (av (.inl rfl) h)
theorem a5{tab:Nat→Option aE}{fn:Nat}{ro:Option Nat}{a:az}{c:Arg}{k:List cA}{s:St}{Q:Option az→St→Prop}(hc:c.ev s.aA=.c (.f (.bool ag)))(h:WP tab fn ro k s Q):WP tab fn ro (.code (.cond c a .skip)::k) s Q:=al hc (aL h)
end Km
