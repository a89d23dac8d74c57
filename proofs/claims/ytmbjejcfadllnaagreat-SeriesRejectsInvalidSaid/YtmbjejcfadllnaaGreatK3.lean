/-
  Our own small machine for Go code by value, held against the model: part 3. No program in sight.
-/
import Derived.Test.YtmbjejcfadllnaaGreatK2
import Derived.Orders
import Derived.Test.YtmbjejcfadllnaaGreatK1
open List renaming mem_filter → cL, all_eq_true → aR, eq_nil_of_length_eq_zero → av, mem_of_getElem? → bl, getElem?_eq_getElem → ai, getElem?_eq_some_iff → ab, getElem?_set_ne → al, getElem?_append_right → bc, getElem?_eq_none → cV, getElem?_drop → aM, length_drop → cf
open Bool renaming and_eq_true → ag, not_eq_true' → cM, false_eq_true → aw
open Option renaming map_some → bz, bind_eq_some_iff → ba, map_eq_some_iff → am, map_map → cP, bind_some → bh
open Nat renaming le_refl → aq, le_of_ble_eq_true → cJ, eq_of_beq_eq_true → cW, le_max_left → bS, le_max_right → bA
open Option.some renaming injEq → aa
open Prod.mk renaming injEq → an
set_option linter.unusedVariables false
set_option linter.unusedSimpArgs false
set_option linter.unusedSectionVars false
set_option maxRecDepth 100000
namespace Km
open Go
section
variable{Q:Program}{σ:Nat→FuncId}{X:Wd}{call:dD}
variable{n:Nat}{ops:Array Oper}{aos:List AOper}{chk:List (Nat × Nat)}{st:Nat→St}
def LD(listed:Array Bool)(j:Nat):Prop:=listed.getD j false=true
theorem Xu{listed:Array Bool}{i:Nat}(hi:i<listed.size):LD (listed.setIfInBounds i true)=fun j=>LD listed j∨j=i:=by
 funext j
 apply propext;unfold LD;by_cases h:i=j
 ·subst h;simp [hi]
 ·have:j≠i:=fun e=>h e.symm
  simp [Array.getD_eq_getD_getElem?,Array.getElem?_setIfInBounds_ne h,this]
theorem Lh{listed:Array Bool}{i:Nat}(h:i ∈ Region.ready .any ops listed):i<ops.size∧¬ LD listed i∧∃ o,ops[i]?=some o∧∀ e ∈ o.after.toList,Region.binds .any e=true→LD listed e.on:=by
 unfold Region.ready at h;simp only [cL,List.mem_range,ag,cM]at h;obtain⟨h1,h2,h3⟩:=h;refine⟨h1,fun hd=>?_,?_⟩
 ·unfold LD at hd;simp only [Array.getD_eq_getD_getElem?]at h2 hd
  cases hl:listed[i]? with
  | none=>rw [hl]at h2;simp at h2
  | some bb=>rw [hl]at h2 hd;simp at h2 hd;rw [h2]at hd;simp at hd
 ·have ho:=Array.getElem?_eq_getElem h1;rw [ho]at h3;simp only [bz,Option.getD_some]at h3;refine⟨ops[i],ho,fun e he hb=>?_⟩
  rw [←Array.all_toList,aR]at h3;have:=h3 e he;simpa [hb,LD]using this
theorem U4(hord:Ord ops.toList aos chk)(hl:aos.length=ops.size){listed:Array Bool}(hsz:listed.size=ops.size){j:Nat}(hj:j<ops.size)(hD:¬ LD listed j):Region.ready .any ops listed≠[]:=by
 have key:∀ m,m<ops.size→¬ LD listed m→∃ i,i ∈ Region.ready .any ops listed:=by
  intro m
  induction m using Nat.strongRecOn with
  | ind m ih=>
   intro hm hmD;have ho:=Array.getElem?_eq_getElem hm;by_cases hall:∀ e ∈ ops[m].after.toList,Region.binds .any e=true→LD listed e.on
   ·refine⟨m,?_⟩;unfold Region.ready;simp only [cL,List.mem_range,ag,cM,ho,bz,Option.getD_some];refine⟨hm,?_,?_⟩
    ·unfold LD at hmD;have hlt:m<listed.size:=by omega
     simp [hlt]at hmD ⊢;exact hmD
    ·rw [←Array.all_toList,aR];intro e he;by_cases hb:Region.binds .any e=true
     ·have:=hall e he hb;unfold LD at this;simp [this]
     ·simp [hb]
   ·simp only [Classical.not_forall]at hall;obtain⟨e,he,hb,hne⟩:=hall;have:=hord.back m ops[m] (by omega) (by simp [hm]) e he hb
    exact ih e.on this (by omega) hne
 obtain⟨i,hi⟩:=key j hj hD;intro h;rw [h]at hi;simp at hi
theorem WQ(hC:iG Q σ call)(R:Reg Q σ call n ops aos chk st){b:Frame}{k:List Item}{cs:List Frame}(hk:kQ b cs)(hnr:∀ y ∈ aos,jq y.op b) :
  ∀(X0:Wd) (fuel t:Nat) (listed:Array Bool) (U:List Nat) (E:Nat) (X:Wd) (a:Act),listed.size=ops.size→U.Nodup→(∀ j,j<ops.size→(¬ LD listed j↔j ∈ U))→U.length≤fuel→Inv Q σ X0 n ops aos st (LD listed) E X a →
  ∃ D' E' X' a',Steps Q (lone (b.atR a (.inRegion ops (Region.linearise.go .any ops fuel t listed [])::k)) cs X.w) (lone (b.atR a' k) cs X'.w)∧Inv Q σ X0 n ops aos st D' E' X' a'∧(∀ j,j<ops.size→D' j)∧a'.tmps.size=a.tmps.size:=by
 have hlen:aos.length=ops.size:=by have:=(gQ R.aH5).len;simpa using this.symm
 intro X0 fuel
 induction fuel with
 | zero=>
  intro t listed U E X a hsz hU hUD hUl hI;refine⟨LD listed,E,X,a,?_,hI,fun j hj=>?_,rfl⟩
  ·simp only [Region.linearise.go,List.reverse_nil];exact .one stepR_region_end
  ·have hnil:U=[]:=av (by omega)
   refine Classical.byContradiction fun h=>?_
   have:=(hUD j hj).1 h
   rw [hnil]at this;simp at this
 | succ fuel ih=>
  intro t listed U E X a hsz hU hUD hUl hI;simp only [Region.linearise.go]
  change ∃ D' E' X' a',Steps Q (lone (b.atR a (.inRegion ops (match (Region.ready .any ops listed)[t % (Region.ready .any ops listed).length]? with
   | some i=>Region.linearise.go .any ops fuel (t / (Region.ready .any ops listed).length) (listed.setIfInBounds i true) [i]
   | none=>[].reverse)::k)) cs X.w) _∧_
  cases hi:(Region.ready .any ops listed)[t % (Region.ready .any ops listed).length]? with
  | none=>
   have hnil:Region.ready .any ops listed=[]:=by
    cases hr:Region.ready .any ops listed with
    | nil=>rfl
    | cons x xs=>
     rw [hr]at hi;have hlt:t % (x::xs).length<(x::xs).length:=Nat.mod_lt _ (by simp)
     rw [List.getElem?_eq_none_iff]at hi;omega
   refine⟨LD listed,E,X,a,?_,hI,fun j hj=>?_,rfl⟩
   ·exact .one stepR_region_end
   ·exact Classical.byContradiction fun h=>U4 R.ord hlen hsz hj h hnil
  | some i=>
   simp only [];rw [linearise_go_acc,List.reverse_singleton,List.singleton_append];obtain⟨r1,r2,o,r3,r4⟩:=Lh (bl hi);have hy:=ai (show i<aos.length by omega)
   have hr:Ready ops aos (LD listed) i o aos[i]:=⟨r3,hy,r2,r4⟩;obtain⟨E',X1,a1,g1,g2,g4⟩:=R.step_ok hC hI hr (b:=b) (rest:=Region.linearise.go .any ops fuel (t / (Region.ready .any ops listed).length) (listed.setIfInBounds i true) []) (k:=k) (cs:=cs) hk (hnr _ (List.getElem_mem _));rw [←Xu (by omega)]at g2
   have hmem:i ∈ U:=(hUD i r1).1 r2
   obtain⟨D',E2,X2,a2,k1,k2,k3,k5⟩:=ih (t / (Region.ready .any ops listed).length) (listed.setIfInBounds i true) (U.erase i) E' X1 a1 (by simpa using hsz) (hU.erase i)
    (fun j hj=>by
     rw [hU.mem_erase_iff,←hUD j hj,Xu (by omega)]
     constructor
     ·intro h;exact⟨fun e=>h (.inr e),fun h'=>h (.inl h')⟩
     ·rintro⟨h1,h2⟩ (h | h)
      ·exact h2 h
      ·exact h1 h)
    (by rw [List.length_erase_of_mem hmem];omega) g2
   exact⟨D',E2,X2,a2,g1.trans k1,k2,k3,k5.trans g4⟩
theorem WO(hC:iG Q σ call)(Wu:Q.follows .mixedOrders=true)(R:Reg Q σ call n ops aos chk st){b:Frame}{k:List Item}{cs:List Frame}(hk:kQ b cs)(hnr:∀ y ∈ aos,jq y.op b){X:Wd}{a:Act}(hF:Fr Q σ n X (st 0) a)(id:Nat) :
  ∃ X' a',Steps Q (lone (b.atR a (.code (.region id ops true)::k)) cs X.w) (lone (b.atR a' k) cs X'.w)∧Fr Q σ n X' (st aos.length) a'∧Ext X.H.length X X'∧a'.tmps.size=a.tmps.size:=by
 have hlen:aos.length=ops.size:=by have:=(gQ R.aH5).len;simpa using this.symm
 let X0:Wd:={ X with w:={ X.w with drawn:=X.w.drawn+1 } }
 have hx0:Ext X.H.length X X0:=
  {B:=rfl,F:=fun _ _ h=>h,vW:=fun _ _ h=>.inl h,fw:=fun _ _ _=>rfl,keep:=fun b _ blk hb=>⟨blk,hb,by cases blk<;>simp [X0]⟩
   img:=fun b L h=>.inl ⟨b,L,h,rfl⟩,size:=aq _,os:=rfl,tape:=rfl,output:=rfl,frame:=fun _ _ _=>rfl }
 have hS0:SR Q σ X0:=by
  refine⟨fun b L hb=>?_,hF.sr.inj,hF.sr.fb⟩
  obtain⟨h1,h2,blk,h3,h4⟩:=hF.sr.br b L hb;exact⟨h1,h2,blk,h3,BR.ext Q σ hx0 rfl (fun _ h=>h) h4⟩
 obtain⟨p1,p2,p3,p4⟩:=tY (aos:=aos) (i:=0) (by omega)
 obtain⟨q1,q2⟩:=R.dL _ p1 p2 p4;have hH0:X0.H=(st 0).heap:=hF.heap;rw [←hH0]at q1;obtain⟨k1,k2⟩:=SR.ahead hS0 q1;have hx1:Ext X.H.length X { X0 with H:=(st (phase aos 0)).heap }:=hx0.trans k2
 have hnone:∀ j,¬ LD (Array.replicate ops.size false) j:=fun j h=>by
  unfold LD at h;simp only [Array.getD_eq_getD_getElem?,Array.getElem?_replicate]at h;split at h<;>simp at h
 have hI:Inv Q σ { X0 with H:=(st (phase aos 0)).heap } n ops aos st (LD (Array.replicate ops.size false)) (phase aos 0) { X0 with H:=(st (phase aos 0)).heap } a:=by
  refine⟨fun j o h=>absurd h (hnone j),fun j h=>absurd h (hnone j),p2,p3,hnone _,fun j h1 h2=>absurd h1 (p4 j (Nat.zero_le _) h2),rfl,Ext.refl _ _,k1,hF.b,by rw [q2];exact hF.defs.ext' hx1,hF.size,
   fun p=>⟨0,Nat.zero_le _,.inl (VR.ext' σ hx1 (hF.regs p)),fun j y _ _=>⟨fun h=>by omega,fun h=>absurd h (hnone j)⟩⟩,fun j y h1 _ h3 h4 h5=>?_⟩
  show X.rho _=none
  have hle:=(R.dL j (Nat.zero_le _) (by omega) fun k h1 h2=>p4 k h1 (by omega)).1.len
  cases pG:X.rho (st j).heap.length with
  | none=>rfl
  | some L=>have:=SR.lt hF.sr pG;rw [hF.heap]at this;omega
 obtain⟨D',E',X',a',g1,g2,g3,g5⟩:=WQ hC R hk hnr (k:=k) { X0 with H:=(st (phase aos 0)).heap } ops.size (X.w.tape X.w.drawn (.order b.fn id)) (Array.replicate ops.size false) (List.range ops.size) (phase aos 0) { X0 with H:=(st (phase aos 0)).heap } a (by simp) List.nodup_range
  (fun j hj=>⟨fun _=>by simpa using hj,fun _=>hnone j⟩) (by simp) hI
 have hE:E'=aos.length:=by
  rcases g2.eW with h | ⟨z,hz,_⟩
  ·exact h
  ·exact absurd (g3 E' (by have:=(ab.1 hz).1;omega)) g2.eD
 subst hE;refine⟨X',a',.head stepR_region_draw ?_,⟨g2.heap,g2.sr,g2.b,fun p=>?_,g2.defs,g2.size⟩,hx1.trans (g2.ext.mono (hx1.len)),g5⟩
 ·simp only [Region.schedule,Wu,Bool.true_or,if_true];exact g1
 ·obtain⟨K,hK,hv,hw⟩:=g2.slots p
  have hv:VR σ X' ((st K).regs.get p) (a'.tmps.getD p.toNat undef):=by
   rcases hv with hv | ⟨z,zs,c,_,hE,hz,_⟩
   ·exact hv
   ·have:=(ab.1 hz).1;omega
  rw [←R.oV aos.length hK (aq _) fun j y h1 h2 hy hd=>?_]
  ·exact hv
  ·have:=(hw j y hy hd).2 (g3 j (by omega));omega
end
section
variable{Q:Program}{σ:Nat→FuncId}{X:Wd}{call:dD}
theorem H6{α:Type}{f:α→α→Bool}(hf:∀ x y,f x y=true→x=y):∀ {xs ys:List α},yu f xs ys=true→xs=ys
 | [],[],_=>rfl
 | x::xs,y::ys,h=>by
  simp only [yu,ag]at h
  rw [hf x y h.1,H6 hf h.2]
 | [],_::_,h=>by simp [yu]at h
 | _::_,[],h=>by simp [yu]at h
theorem FC.beq_eq:∀(n:Nat) (a b:FC),FC.beq n a b=true→a=b:=by
 intro n
 induction n with
 | zero=>
  intro a b h
  cases a<;>cases b<;>simp_all [FC.beq]
 | succ n ih=>
  intro a b h;cases a<;>cases b<;>simp_all [FC.beq]
  all_goals exact H6 ih h.2
theorem C.beq_eq{a b:C}(h:a.beq b=true):a=b:=by
 cases a<;>cases b<;>simp_all [C.beq];exact FC.beq_eq _ _ _ h
theorem V.beq_eq{a b:V}(h:a.beq b=true):a=b:=by
 cases a<;>cases b<;>simp only [V.beq,aw]at h
 ·rw [C.beq_eq h]
 ·rename_i xs ys;simp only [ag,beq_iff_eq,aR]at h
  congr 1
  refine List.ext_getElem h.1 fun i h1 h2=>C.beq_eq (h.2 (xs[i],ys[i]) ?_)
  exact bl (i:=i) (by rw [List.getElem?_zip_eq_some];exact⟨ai h1,ai h2⟩)
theorem CJ:∀ {aos:List AOper} {s s':St},oP call aos s=some s'→∃ ss:List St,fU call aos s=some ss∧ss.getLast?=some s'
 | [],s,s',h=>by simp only [oP,aa]at h;subst h;exact⟨[s],rfl,rfl⟩
 | o::os,s,s',h=>by
  simp only [oP]at h;split at h
  ·rename_i s1 h1;obtain⟨ss,h2,h3⟩:=CJ h;refine⟨s::ss,by simp [fU,h1,h2],?_⟩
   cases ss with
   | nil=>simp at h3
   | cons x xs=>simpa using h3
  ·simp at h
theorem qF:∀ {aos:List AOper} {s:St} {ss:List St},fU call aos s=some ss→ss.length=aos.length+1∧ss[0]?=some s ∧
  ∀ i y,aos[i]?=some y→∃ u v,ss[i]?=some u∧ss[i+1]?=some v∧je call u y=some v
 | [],s,ss,h=>by
  simp only [fU,aa]at h;subst h
  exact⟨rfl,rfl,fun i y h=>by simp at h⟩
 | o::os,s,ss,h=>by
  simp only [fU]at h;split at h
  ·rename_i s1 h1;split at h
   ·rename_i ss' h2;simp only [aa]at h;subst h;obtain⟨g1,g2,g3⟩:=qF h2;refine⟨by simp [g1],rfl,fun i y hy=>?_⟩
    cases i with
    | zero=>
     simp only [List.getElem?_cons_zero,aa]at hy;subst hy
     exact⟨s,s1,rfl,by simpa using g2,h1⟩
    | succ i=>simpa using g3 i y (by simpa using hy)
   ·simp at h
  ·simp at h
theorem zk:∀ {aos:List AOper} {s:St} {ss:List St} {s':St},fU call aos s=some ss→ss.getLast?=some s'→oP call aos s=some s'
 | [],s,ss,s',h,hl=>by simp only [fU,aa]at h;subst h;simpa [oP]using hl
 | o::os,s,ss,s',h,hl=>by
  simp only [fU]at h;split at h
  ·rename_i s1 h1;split at h
   ·rename_i ss' h2;simp only [aa]at h;subst h;have:=(qF h2).1;simp only [oP,h1];refine zk h2 ?_
    cases ss' with
    | nil=>simp at this
    | cons x xs=>simpa using hl
   ·simp at h
  ·simp at h
theorem PS(hC:iG Q σ call)(Wu:Q.follows .mixedOrders=true){n:Nat}{id:Nat}{ops:Array Oper}{draw:Bool}{aos:List AOper}{chk:List (Nat × Nat)}(hm:bP Q σ n (.region id ops draw) (.region aos chk)=true)
  {b:Frame} {k:List Item} {cs:List Frame} (hk:kQ b cs) (hnr:∀ y ∈ aos,jq y.op b) {X:Wd} {a:Act} {s s':St} (hF:Fr Q σ n X s a) (h:kH call aos chk s=some s') :
  ∃ X' a',Steps Q (lone (b.atR a (.code (.region id ops draw)::k)) cs X.w) (lone (b.atR a' k) cs X'.w)∧Fr Q σ n X' s' a'∧Ext X.H.length X X'∧a'.tmps.size=a.tmps.size:=by
 simp only [bP,ag,Bool.or_eq_true,cM]at hm;obtain⟨hops,hord⟩:=hm
 obtain⟨ss,h1,h2,h3⟩:∃ ss:List St,fU call aos s=some ss∧ss.getLast?=some s'∧∀ c ∈ chk,sameAt aos ss c=true:=by
  unfold kH at h;split at h
  ·obtain⟨ss,g1,g2⟩:=CJ h;exact⟨ss,g1,g2,by simp⟩
  ·split at h
   ·rename_i ss hss;split at h
    ·rename_i hall;exact⟨ss,hss,h,aR.1 hall⟩
    ·simp at h
   ·simp at h
 cases draw with
 | false=>
  obtain⟨X',a',g1,g2⟩:=NM hC hk (k:=k) aos 0 X s s' a hF (by simpa using hops) hnr (zk h1 h2)
  exact⟨X',a',.head stepR_region (by simpa using g1),g2⟩
 | true=>
  obtain⟨g1,g2,g3⟩:=qF h1
  let st:Nat→St:=fun i=>ss.getD i s
  have hst:∀ i u,ss[i]?=some u→st i=u:=fun i u hu=>by simp [st,List.getD_eq_getElem?_getD,hu]
  have R:Reg Q σ call n ops aos chk st:=by
   refine⟨hops,PY (hord.resolve_left (by simp)),fun i y hy=>?_,fun i e y hc hy hw=>?_⟩
   ·obtain⟨u,v,e1,e2,e3⟩:=g3 i y hy;rw [hst _ _ e1,hst _ _ e2];exact e3
   ·have hs:=h3 _ hc;simp only [sameAt,hy]at hs;split at hs
    ·rename_i o s1 s2 e1 e2 e3;cases e1;rw [hst _ _ e2]at hw ⊢;rw [hst _ _ e3];rw [hw]at hs;simp only at hs;split at hs
     ·rename_i v x1 v' x2 e4 e5;rw [←V.beq_eq hs]at e5;exact⟨v,x1,x2,e4,e5⟩
     ·simp at hs
    ·simp at hs
  have h0:st 0=s:=hst 0 s g2;have hN:st aos.length=s':=hst _ _ (by rw [List.getLast?_eq_getElem?,g1]at h2;simpa using h2)
  rw [←h0]at hF;rw [←hN];exact WO hC Wu R hk hnr hF id
end
section
variable{Q:Program}{σ:Nat→FuncId}{X:Wd}{call:dD}
def LK(X:Wd)(b:Nat):Prop:=∃ f t p a c s q d,X.H[b]?=some (.lp f t p a c s q d)
theorem LK.ext{X X':Wd}(hx:Ext X.H.length X X'){b:Nat}(h:LK X b):LK X' b∧∀ L,X.rho b=some L→X'.rho b=some L:=by
 obtain⟨f,t,p,a,c,s,q,d,hb⟩:=h;obtain⟨blk',hb',hk⟩:=hx.keep b (ab.1 hb).1 _ hb;cases blk'<;>simp only at hk;exact⟨⟨_,_,_,_,_,_,_,_,hb'⟩,hk.2⟩
inductive jF(Q:Program)(σ:Nat→FuncId)(n:Nat)(X:Wd):AItem→Item→Prop
 | code {a:ACode} {c:Code} (h:bP Q σ n c a=true):jF Q σ n X (.code a) (.code c)
 | inBlock (id:Nat):jF Q σ n X (.inBlock id) (.inBlock id)
 | inLoop {a:ACode} {c:Code} (h:bP Q σ n c a=true):jF Q σ n X (.inLoop a) (.inLoop c)
 | oL {b:Nat} {L:Loc} (h:X.rho b=some L) (hl:LK X b):jF Q σ n X (.oL b) (.endRangeFunc L.c)
 | xA:jF Q σ n X .xA .beginRound
 | inScope {a:ACode} {c:Code} (h:bP Q σ n c a=true) (hs:oQ a=true):jF Q σ n X (.inScope a) (.inScope c)
theorem jF.ext{n:Nat}{X X':Wd}(hx:Ext X.H.length X X'){x:AItem}{y:Item}(h:jF Q σ n X x y):jF Q σ n X' x y:=by
 cases h with
 | code h=>exact .code h
 | inBlock id=>exact .inBlock id
 | inLoop h=>exact .inLoop h
 | oL h hl=>exact .oL ((hl.ext hx).2 _ h) (hl.ext hx).1
 | xA=>exact .xA
 | inScope h hs=>exact .inScope h hs
def RoR(X:Wd):Option Nat→Option Nat→Prop
 | none,none=>True
 | some b,some l=>∃ L,X.rho b=some L∧L.c=l∧LK X b
 | _,_=>False
theorem RoR.ext{X X':Wd}(hx:Ext X.H.length X X'){ro ro':Option Nat}(h:RoR X ro ro'):RoR X' ro ro':=by
 cases ro<;>cases ro'<;>simp only [RoR]at h ⊢;obtain⟨L,h1,h2,h3⟩:=h;exact⟨L,(h3.ext hx).2 _ h1,h2,(h3.ext hx).1⟩
theorem Dw{n:Nat}(id:Nat):∀(k:List AItem) (ks:List Item),A2 (jF Q σ n X) k ks →
  match Km.exitTo id k with
  | some k'=>∃ ks',Go.exitTo id ks=some ks'∧A2 (jF Q σ n X) k' ks'
  | none=>Go.exitTo id ks=none
 | [],ks,h=>by
  have:ks=[]:=av h.len.symm
  subst this;rfl
 | x::k,[],h=>by have:=h.len;simp at this
 | x::k,y::ks,h=>by
  obtain⟨h1,h2⟩:=h.of_cons;have ih:=Dw id k ks h2
  cases h1 with
  | inBlock id'=>
   simp only [Km.exitTo,Go.exitTo];by_cases he:(id' == id)=true
   ·simp only [he,if_true];exact⟨ks,rfl,h2⟩
   ·simp only [he,aw,if_false];exact ih
  | _=>exact ih
theorem ER{n:Nat}(l:Nat):∀(a:ACode) (c:Code),bP Q σ n c a=true→oQ a=true →
  match Km.findLabel a l with
  | some r=>∃ r',Go.findLabel c l=some r'∧bP Q σ n r' r=true
  | none=>Go.findLabel c l=none:=by
 intro a
 induction a with
 | seq a b iha ihb=>
  intro c h hs;simp only [oQ,ag]at hs
  cases c with
  | seq c d=>
   simp only [bP,ag]at h;have h1:=iha c h.1 hs.1;simp only [Km.findLabel,Go.findLabel]
   cases hf:Km.findLabel a l with
   | some r=>
    rw [hf]at h1;obtain⟨r',h2,h3⟩:=h1;simp only [h2]
    exact⟨_,rfl,by simp [bP,h3,h.2]⟩
   | none=>
    rw [hf]at h1;simp only [h1]
    exact ihb d h.2 hs.2
  | _=>simp [bP]at h
 | label l'=>
  intro c h _
  cases c with
  | label l2=>
   simp only [bP,beq_iff_eq]at h;subst h;simp only [Km.findLabel,Go.findLabel];by_cases he:(l2 == l)=true
   ·simp only [he,if_true];exact⟨_,rfl,by simp [bP]⟩
   ·simp only [he,aw,if_false]
  | _=>simp [bP]at h
 | bad=>intro c h hs;simp [oQ]at hs
 | _=>intro c h _;cases c<;>simp_all [bP,Km.findLabel,Go.findLabel]
theorem Dq{n:Nat}(l:Nat):∀(k:List AItem) (ks:List Item),A2 (jF Q σ n X) k ks →
  match Km.gotoIn l k with
  | some k'=>∃ ks',Go.gotoIn l ks=some ks'∧A2 (jF Q σ n X) k' ks'
  | none=>Go.gotoIn l ks=none
 | [],ks,h=>by
  have:ks=[]:=av h.len.symm
  subst this;rfl
 | x::k,[],h=>by have:=h.len;simp at this
 | x::k,y::ks,h=>by
  obtain⟨h1,h2⟩:=h.of_cons;have ih:=Dq l k ks h2
  cases h1 with
  | inScope hm hs=>
   rename_i a c;have h3:=ER (Q:=Q) (σ:=σ) l a c hm hs;simp only [Km.gotoIn,Go.gotoIn]
   cases hf:Km.findLabel a l with
   | some r=>
    rw [hf]at h3;obtain⟨r',h4,h5⟩:=h3;simp only [h4]
    exact⟨_,rfl,A2.cons (.code h5) (A2.cons (.inScope hm hs) h2)⟩
   | none=>
    rw [hf]at h3;simp only [h3]
    exact ih
  | _=>exact ih
def aJR:Option ACode→List Item→Prop
 | none,items=>items=[]
 | some .ret,items=>∃ k,items=.code .ret::k
 | some (.exit id),items=>∃ k,items=.code (.exit id)::k∧Go.exitTo id k=none
 | _,_=>False
end
section
variable{Q:Program}{σ:Nat→FuncId}{X:Wd}{call:dD}
theorem uX{b:Nat}{L:Loc}(hS:SR Q σ X)(hL:X.rho b=some L){f:Nat}{t:T}{ps:List P}{as bd:ACode}{q:nU}{pend:Option ACode}{d:Nat}(hb:X.H[b]?=some (.lp f t ps as bd q pend d)) :
  ∃(n:Nat) (us:Array Value) (ps':Array Tmp) (as' bd':Code) (jg:Option Code) (Ld:Loc),
   X.w.heap[L.c]?=some (.loop { state:=q.of,pending:=jg,fn:=σ f,tmps:=us,params:=ps',assign:=as',body:=bd',defers:=Ld.c }) ∧
   n≤us.size∧RR σ X t us∧all2 (fun p (q:P)=>q.toNat == p&&decide (p<n)) ps'.toList ps=true∧bP Q σ n as' as=true∧bP Q σ n bd' bd=true∧Df Q σ n pend jg∧X.rho d=some Ld∧∃ o,X.H[d]?=some (.dfr o):=by
 obtain⟨_,_,blk,hb',hbr⟩:=hS.br b L hL;rw [hb]at hb';cases hb';exact hbr
theorem Eb(hS:SR Q σ X){b:Nat}{L:Loc}(hL:X.rho b=some L){f:Nat}{t:T}{ps:List P}{as bd:ACode}{q q':nU}{pend zH:Option ACode}{d:Nat}(hb:X.H[b]?=some (.lp f t ps as bd q pend d))
  {n:Nat} {us:Array Value} {ps':Array Tmp} {as' bd':Code} {jg:Option Code} {Ld:Loc}
  (h2:n≤us.size) (h3:RR σ X t us) (h4:all2 (fun p (q:P)=>q.toNat == p&&decide (p<n)) ps'.toList ps=true) (h5:bP Q σ n as' as=true) (h6:bP Q σ n bd' bd=true) (h7:Df Q σ n zH jg) (h8:X.rho d=some Ld) (h9:∃ o,X.H[d]?=some (.dfr o)) :
  SR Q σ { X with H:=X.H.set b (.lp f t ps as bd q' zH d),w:=X.w.putObj L.c (.loop { state:=q'.of,pending:=jg,fn:=σ f,tmps:=us,params:=ps',assign:=as',body:=bd',defers:=Ld.c }) } ∧
  Ext X.H.length X { X with H:=X.H.set b (.lp f t ps as bd q' zH d),w:=X.w.putObj L.c (.loop { state:=q'.of,pending:=jg,fn:=σ f,tmps:=us,params:=ps',assign:=as',body:=bd',defers:=Ld.c }) }:=by
 obtain⟨m,us0,ps0,as0,bd0,pd0,Ld0,qo,_⟩:=uX hS hL hb;have hlt:b<X.H.length:=(ab.1 hb).1
 refine SR.uH (o':=.loop { state:=q'.of,pending:=jg,fn:=σ f,tmps:=us,params:=ps',assign:=as',body:=bd',defers:=Ld.c }) (blk':=.lp f t ps as bd q' zH d) hS hb hL qo (by simp) (by simp)
  (fun blk hblk=>⟨.lp f t ps as bd q' zH d,by simp [hlt],by rw [hb]at hblk;cases hblk;exact⟨⟨rfl,rfl,rfl,rfl,rfl,rfl⟩,fun L h=>h⟩⟩)
  (fun X' hx' hw1 _ pG hH=>?_)
 obtain⟨o,h9⟩:=h9;refine⟨n,us,ps',as',bd',jg,Ld,hw1,h2,RR.ext' σ hx' h3,h4,h5,h6,h7,by rw [pG];exact h8,o,?_⟩
 have hne:b≠d:=fun e=>by rw [e,h9]at hb;cases hb
 rw [hH,al hne];exact h9
end
section
variable{Q:Program}{σ:Nat→FuncId}{call:dD}
structure Way(Q:Program)(σ:Nat→FuncId)(fn:Nat)(n:Nat)(b:Frame)(cs:List Frame)(ro:Option Nat)(todo:List AItem)(items:List Item)(s:St)(X:Wd)(a:Act):Prop where
 fr:Fr Q σ n X s a
 items:A2 (jF Q σ n X) todo items
 ro:RoR X ro b.roundOf
 kind:kQ b cs
 fn:b.fn=σ fn
theorem Way.ext{fn n:Nat}{b:Frame}{cs:List Frame}{ro:Option Nat}{todo:List AItem}{items:List Item}{s s':St}{X X':Wd}{a a':Act}(h:Way Q σ fn n b cs ro todo items s X a){todo':List AItem}{items':List Item}(hx:Ext X.H.length X X')(hF:Fr Q σ n X' s' a')
  (hi:A2 (jF Q σ n X) todo' items'):Way Q σ fn n b cs ro todo' items' s' X' a':=
 ⟨hF,hi.weak fun _ _ h=>h.ext hx,h.ro.ext hx,h.kind,h.fn⟩
theorem Way.to{fn n:Nat}{b:Frame}{cs:List Frame}{ro:Option Nat}{todo:List AItem}{items:List Item}{s:St}{X:Wd}{a:Act}(h:Way Q σ fn n b cs ro todo items s X a){todo':List AItem}{items':List Item}
  (hi:A2 (jF Q σ n X) todo' items'):Way Q σ fn n b cs ro todo' items' s X a:=⟨h.fr,hi,h.ro,h.kind,h.fn⟩
def aOs(Q:Program)(σ:Nat→FuncId)(call:dD)(fn m:Nat):Prop:=
 ∀(n:Nat) (b:Frame) (cs:List Frame) ro todo items s X a jump s',run call fn m ro todo s=some (jump,s')→Way Q σ fn n b cs ro todo items s X a →
  ∃ X' a' items',Steps Q (lone (b.atR a items) cs X.w) (lone (b.atR a' items') cs X'.w)∧Fr Q σ n X' s' a'∧Ext X.H.length X X'∧a'.tmps.size=a.tmps.size∧aJR jump items'
theorem BD{b:Frame}{a:Act}{k:List Item}{cs:List Frame}{w:World}{body:Code}:step Q (lone (b.atR a (.inScope body::k)) cs w)=.next (lone (b.atR a k) cs w):=
 step_lone_go (by simp [stepG,stepG.exec,Frame.atR])
theorem FY{b:Frame}{a:Act}{k:List Item}{cs:List Frame}{w:World}{body:Code}:step Q (lone (b.atR a (.code (.scope body)::k)) cs w)=.next (lone (b.atR a (.code body::.inScope body::k)) cs w):=
 step_lone_go (by simp [stepG,stepG.exec,Frame.atR])
theorem U0(hC:iG Q σ call)(Wu:Q.follows .mixedOrders=true)(fn:Nat):∀ m,aOs Q σ call fn m:=by
 intro m
 induction m with
 | zero=>intro n b cs ro todo items s X a jump s' h;simp [run]at h
 | succ m ih=>
  intro n b cs ro todo items s X a jump s' h hW
  have go:∀ {todo' items'},run call fn m ro todo' s=some (jump,s')→A2 (jF Q σ n X) todo' items'→step Q (lone (b.atR a items) cs X.w)=.next (lone (b.atR a items') cs X.w) →
    ∃ X' a' items',Steps Q (lone (b.atR a items) cs X.w) (lone (b.atR a' items') cs X'.w)∧Fr Q σ n X' s' a'∧Ext X.H.length X X'∧a'.tmps.size=a.tmps.size∧aJR jump items':=by
   intro todo' items' hr hi hst;obtain⟨X',a',it,g1,g2⟩:=ih n b cs ro todo' items' s X a jump s' hr (hW.to hi);exact⟨X',a',it,.head hst g1,g2⟩
  cases todo with
  | nil=>
   have:items=[]:=av hW.items.len.symm;subst this;simp only [run,aa,an]at h;obtain⟨rfl,rfl⟩:=h
   exact⟨X,a,[],Steps.refl _ _,hW.fr,Ext.refl _ _,rfl,rfl⟩
  | cons x k=>
   cases items with
   | nil=>have:=hW.items.len;simp at this
   | cons it ks=>
    obtain⟨hx,hks⟩:=hW.items.of_cons
    cases hx with
    | inBlock id=>exact go (by simpa [run]using h) hks stepR_inBlock
    | inLoop hm=>exact go (by simpa [run]using h) (A2.cons (.code hm) (A2.cons (.inLoop hm) hks)) stepR_inLoop
    | inScope hm hs=>exact go (by simpa [run]using h) hks BD
    | oL hb hl=>
     rename_i bb L;simp only [run]at h;split at h
     ·rename_i f t ps as bd q pend d hlp;split at h
      ·simp at h
      ·rename_i hq;rw [←hW.fr.heap]at hlp;obtain⟨m0,us,ps',as',bd',jg,Ld,qo,h2,h3,h4,h5,h6,h7,h8,h9⟩:=uX hW.fr.sr hb hlp;obtain⟨g1,g2⟩:=Eb hW.fr.sr hb hlp (q':=.exhausted) h2 h3 h4 h5 h6 h7 h8 h9;have hne:(q.of)≠LoopState.busy:=by cases q<;>simp [nU.of]at hq ⊢
       have hst:=stepR_endRangeFunc (P:=Q) (b:=b) (a:=a) (k:=ks) (cs:=cs) (run_endLoop (P:=Q) qo hne)
       have key:∀ {todo' items'},run call fn m ro todo' { s with heap:=s.heap.set bb (.lp f t ps as bd .exhausted pend d) }=some (jump,s')→A2 (jF Q σ n X) todo' items'→items'=(jg.map Item.code).toList++ks →
         ∃ X' a' items',Steps Q (lone (b.atR a (.endRangeFunc L.c::ks)) cs X.w) (lone (b.atR a' items') cs X'.w)∧Fr Q σ n X' s' a'∧Ext X.H.length X X'∧a'.tmps.size=a.tmps.size∧aJR jump items':=by
        intro todo' items' hr hi he;obtain⟨X',a',it,k1,k2,k3,k4,k5⟩:=ih n b cs ro todo' items' _ _ a jump s' hr (hW.ext (a':=a) g2 ⟨by rw [←hW.fr.heap],g1,by simpa [World.putObj]using hW.fr.b,hW.fr.regs.ext' σ g2,hW.fr.defs.ext' g2,hW.fr.size⟩ hi)
        rw [he]at k1;exact⟨X',a',it,.head hst k1,k2,g2.trans (k3.mono g2.len),k4,k5⟩
       split at h
       ·cases jg with
        | none=>exact key h hks rfl
        | some c=>exact h7.elim
       ·cases jg with
        | none=>exact h7.elim
        | some c=>
         have h7:bP Q σ m0 c .ret=true:=h7;cases c<;>simp [bP]at h7;exact key h (A2.cons (.code (by simp [bP])) hks) rfl
       ·rename_i id
        cases jg with
        | none=>exact h7.elim
        | some c=>
         have h7:bP Q σ m0 c (.exit id)=true:=h7;cases c<;>simp [bP]at h7;subst h7;exact key h (A2.cons (.code (by simp [bP])) hks) rfl
       ·simp at h
     ·simp at h
    | xA=>
     simp only [run]at h;split at h
     ·simp at h
     ·rename_i bb;split at h
      ·rename_i f t ps as bd pend d hlp;have hro:=hW.ro
       cases hbr:b.roundOf with
       | none=>rw [hbr]at hro;exact hro.elim
       | some l=>
        rw [hbr]at hro;obtain⟨L,hL,rfl,_⟩:=hro;rw [←hW.fr.heap]at hlp;obtain⟨m0,us,ps',as',bd',jg,Ld,qo,h2,h3,h4,h5,h6,h7,h8,h9⟩:=uX hW.fr.sr hL hlp;obtain⟨g1,g2⟩:=Eb hW.fr.sr hL hlp (q':=.busy) h2 h3 h4 h5 h6 h7 h8 h9;have hst:=stepR_beginRound (P:=Q) (b:=b) (a:=a) (k:=ks) (cs:=cs) hbr (run_beginRound (P:=Q) qo rfl);obtain⟨X',a',it,k1,k2,k3,k4,k5⟩:=ih n b cs _ k ks _ _ a jump s' h (hW.ext (a':=a) g2 ⟨by rw [←hW.fr.heap],g1,by simpa [World.putObj]using hW.fr.b,hW.fr.regs.ext' σ g2,hW.fr.defs.ext' g2,hW.fr.size⟩ hks)
        exact⟨X',a',it,.head hst k1,k2,g2.trans (k3.mono g2.len),k4,k5⟩
      ·simp at h
    | code hm=>
     rename_i ac c
     cases ac with
     | bad=>simp [run]at h
     | skip=>cases c<;>simp [bP]at hm;exact go (by simpa [run]using h) hks stepR_skip
     | label l=>cases c<;>simp [bP]at hm;exact go (by simpa [run]using h) hks stepR_label
     | scope p=>
      cases c<;>simp [bP]at hm
      exact go (by simpa [run]using h) (A2.cons (.code hm.1) (A2.cons (.inScope hm.1 hm.2) hks)) FY
     | goto l=>
      cases c<;>simp [bP]at hm;subst hm;rename_i l';have hex:=Dq (Q:=Q) (σ:=σ) (n:=n) (X:=X) l' k ks hks;simp only [run]at h;split at h
      ·rename_i k' hk';rw [hk']at hex;obtain⟨ks',he,aIG⟩:=hex;exact go h aIG (stepR_goto he)
      ·simp at h
     | ret=>
      cases c<;>simp [bP]at hm;simp only [run,aa,an]at h;obtain⟨rfl,rfl⟩:=h
      exact⟨X,a,_,Steps.refl _ _,hW.fr,Ext.refl _ _,rfl,ks,rfl⟩
     | seq p q=>
      cases c<;>simp [bP]at hm
      exact go (by simpa [run]using h) (A2.cons (.code hm.1) (A2.cons (.code hm.2) hks)) stepR_seq
     | block id p=>
      cases c<;>simp [bP]at hm;obtain⟨rfl,hm⟩:=hm
      exact go (by simpa [run]using h) (A2.cons (.code hm) (A2.cons (.inBlock _) hks)) stepR_block
     | loop p=>
      cases c<;>simp [bP]at hm
      exact go (by simpa [run]using h) (A2.cons (.code hm) (A2.cons (.inLoop hm) hks)) stepR_loop
     | exit id=>
      cases c<;>simp [bP]at hm;subst hm;rename_i id';have hex:=Dw (Q:=Q) (σ:=σ) (n:=n) (X:=X) id' k ks hks;simp only [run]at h;split at h
      ·rename_i k' hk';rw [hk']at hex;obtain⟨ks',he,aIG⟩:=hex;exact go h aIG (stepR_exit he)
      ·rename_i hk';rw [hk']at hex;split at h
       ·simp only [aa,an]at h;obtain⟨rfl,rfl⟩:=h;exact⟨X,a,_,Steps.refl _ _,hW.fr,Ext.refl _ _,rfl,ks,rfl,hex⟩
       ·simp at h
     | cond x p q=>
      cases c<;>simp [bP]at hm;simp only [run]at h;split at h
      ·rename_i v hv;have hx:=bH hW.fr.regs hm.1.1;rw [hv]at hx;have hx':FCR σ X.F X.w (.bool v) _:=hx;have he:∀ u,FCR σ X.F X.w (.bool v) u→u=.bool v:=fun u hu=>by cases hu;rfl
       refine go h ?_ (stepR_cond (he _ hx'));cases v
       ·exact A2.cons (.code hm.2) hks
       ·exact A2.cons (.code hm.1.2) hks
      ·simp at h
     | region aos chk=>
      cases c with
      | region id ops draw=>
       simp only [run]at h;split at h
       ·simp at h
       ·rename_i hro;split at h
        ·rename_i s1 h1
         have hnr:∀ y ∈ aos,jq y.op b:=by
          intro y hy;unfold jq
          cases ro with
          | none=>
           refine .inl ?_;have:=hW.ro
           cases hb:b.roundOf with
           | none=>rfl
           | some l=>rw [hb]at this;exact this.elim
          | some r=>
           simp only [Option.isSome_some,Bool.true_and,cM,Bool.not_eq_false]at hro;exact .inr (aR.1 hro y hy)
         obtain⟨X1,a1,g1,g2,g3,g4⟩:=PS hC Wu hm hW.kind hnr (k:=ks) hW.fr h1;obtain⟨X',a',it,k1,k2,k3,k4,k5⟩:=ih n b cs ro k ks s1 X1 a1 jump s' h (hW.ext g3 g2 hks);exact⟨X',a',it,g1.trans k1,k2,g3.trans (k3.mono g3.len),k4.trans g4,k5⟩
        ·simp at h
      | _=>simp [bP]at hm
     | tX f ps as bd=>
      cases c with
      | rangeFunc f' ps' as' bd'=>
       simp only [bP,ag]at hm;obtain⟨⟨⟨hm1,hm2⟩,hm3⟩,hm4⟩:=hm;simp only [run]at h;split at h
       ·simp at h
       ·rename_i hro
        have hrn:b.roundOf=none:=by
         have:=hW.ro
         cases ro with
         | some r=>simp at hro
         | none=>
          cases hb:b.roundOf with
          | none=>rfl
          | some l=>rw [hb]at this;exact this.elim
        split at h
        ·rename_i g args oH;split at h
         ·rename_i r2 H2 hcall
          obtain⟨X1,w1,H1,S1,E1,r1,B1⟩:=SR.new hW.fr.sr hW.fr.b (.dfr true) (Adds.alloc X.w (.deferred (some []))) 0 (fun X' hx hw hF hH=>by
           show X'.w.heap[X.w.heap.size]?=_
           rw [hw];exact(Adds.alloc X.w (.deferred (some []))).new)
          have hd1:X1.H[X.H.length]?=some (.dfr true):=by rw [H1];simp
          have aMO:X.H.length<X1.H.length:=by rw [H1];simp
          have hsz1:X1.w.heap.size=X.w.heap.size+1:=by rw [w1];simp
          obtain⟨X2,w2,H2',S2,E2,r2',B2⟩:=SR.new S1 B1 (.lp fn s.regs ps as bd .ready none s.heap.length)
           (Adds.alloc X1.w (.loop { state:=.ready,pending:=none,fn:=b.fn,tmps:=a.tmps,params:=ps',assign:=as',body:=bd',defers:=X.w.heap.size })) 0 (fun X' hx hw hF hH=>by
            obtain⟨blk',hb',hk'⟩:=hx.keep X.H.length aMO _ hd1;cases blk'<;>simp only at hk';refine⟨n,a.tmps,ps',as',bd',none,⟨X.w.heap.size,0⟩,?_,hW.fr.size,RR.ext' σ hx (RR.ext' σ E1 hW.fr.regs),hm2,hm3,hm4,trivial,?_,?_⟩
            ·show X'.w.heap[X1.w.heap.size]?=_
             rw [hw,(Adds.alloc X1.w (.loop { state:=.ready,pending:=none,fn:=b.fn,tmps:=a.tmps,params:=ps',assign:=as',body:=bd',defers:=X.w.heap.size })).new,hW.fn];rfl
            ·rw [←hW.fr.heap];exact hk' _ r1
            ·rw [←hW.fr.heap];exact⟨_,hb'⟩)
          have hx2:Ext X.H.length X X2:=E1.trans (E2.mono E1.len);have hH2:X2.H=s.heap++[.dfr true,.lp fn s.regs ps as bd .ready none s.heap.length]:=by rw [H2',H1,←hW.fr.heap];simp
          have hl1:X1.H.length=s.heap.length+1:=by rw [H1,←hW.fr.heap];simp
          have hlp:LK X2 (s.heap.length+1):=⟨fn,s.regs,ps,as,bd,.ready,none,s.heap.length,by rw [hH2,bc (by omega)];simp⟩
          rw [hl1,hsz1]at r2';have harg:A2 (VR σ X2) [.c (.yl (s.heap.length+1))] [.func (.yield (X.w.heap.size+1)) #[] #[]]:=A2.cons ⟨⟨X.w.heap.size+1,0⟩,r2',hlp,rfl⟩ A2.nil;obtain⟨fst,cap,hv1,hv2⟩:=uw oH (VR.ext' σ hx2 (bH hW.fr.regs hm1)) harg;rw [←hH2]at hcall;have hen:=hC.enters _ _ _ _ hcall
          let a1:Act:={ a with defers:={ target:=.collected X.w.heap.size,args:=#[] }::a.defers }
          obtain⟨fr,X3,u,q1,⟨l1,l2,l3,l4,fn',l5,l6⟩,q3,q4,q5,q6,q7⟩:=hC.fn g args _ r2 H2 hcall X2 _ .normal (b.atR a1 (.inRangeFunc (X.w.heap.size+1)::ks)::cs) rfl S2 B2 hv2 (.inl rfl)
          have hst:step Q (lone (b.atR a (.code (.rangeFunc f' ps' as' bd')::ks)) cs X.w)=.next (lone (Frame.enter Q (σ g) (fst.toArray++#[.func (.yield (X.w.heap.size+1)) #[] #[]]++cap.toArray) .normal) (b.atR a1 (.inRangeFunc (X.w.heap.size+1)::ks)::cs) X2.w):=by
           refine stepR_rangeFunc (P:=Q) (b:=b) (a:=a) (k:=ks) (cs:=cs) (l:=X.w.heap.size+1) (mark:=[{ target:=.collected X.w.heap.size,args:=#[] }]) (w₁:=X2.w) (w₁':=X2.w) (d:={ target:=.fn (.func (σ g)) cap.toArray,args:=fst.toArray++#[.func (.yield (X.w.heap.size+1)) #[] #[]] }) ?_ ?_ ?_
           ·rw [hrn,run_enterLoop_outer,w2,w1]
           ·simp only [resolve,hv1,Deferred.ofValue,Sem.run_bind,Sem.run_pure,Result.andThen_ok];simp [Act.eval]
           ·exact gZ hen
          have hx3:Ext X.H.length X X3:=hx2.trans (q6.mono hx2.len);have hback:=step_leave_returned (P:=Q) (c:=b.atR a1 (.inRangeFunc (X.w.heap.size+1)::ks)) (cs:=cs) (show fr.leaving Q X3.w (.returned u) from⟨l1,l2,l3,fn',by rw [l4];exact l5,l6⟩)
          rw [finish_atR_inRangeFunc]at hback;have aMJ:=hlp.ext q6
          have hdf:AZ σ X3 (.coll s.heap.length) { target:=.collected X.w.heap.size,args:=#[] }:=by
           obtain⟨blk',hb',hk'⟩:=(E2.trans (q6.mono E2.len)).keep X.H.length aMO _ hd1;cases blk'<;>simp only at hk';rw [←hW.fr.heap];exact⟨⟨X.w.heap.size,0⟩,_,hk' _ r1,hb',rfl⟩
          obtain⟨X',a',it,k1,k2,k3,k4,k5⟩:=ih n b cs ro (.oL (s.heap.length+1)::k) (.endRangeFunc (X.w.heap.size+1)::ks) _ X3 a1 jump s' h
           ⟨⟨q3,q4,q7,RR.ext' σ hx3 hW.fr.regs,A2.cons hdf (hW.fr.defs.ext' hx3),hW.fr.size⟩,A2.cons (.oL (aMJ.2 _ r2') aMJ.1) (hks.weak fun _ _ h=>h.ext hx3),hW.ro.ext hx3,hW.kind,hW.fn⟩
          refine⟨X',a',it,.head hst (Steps.trans ?_ (.head hback k1)),k2,hx3.trans (k3.mono hx3.len),k4,k5⟩;simpa using q1
         ·simp at h
        ·simp at h
      | _=>simp [bP]at hm
end
section
variable{Q:Program}{σ:Nat→FuncId}{X:Wd}{call:dD}
def Xt(Q:Program)(σ:Nat→FuncId)(prim:Nat→List V→Heap→Option (Option (V × Heap))):Prop:=
 ∀ f args H r H',prim f args H=some (some (r,H')) →
  (∀ as w,(callFunc (σ f) as).run Q w=.ok (.enter (σ f) as) w) ∧
  ∀(X:Wd) us kind cs,X.H=H→SR Q σ X→X.B≤X.w.heap.size→A2 (VR σ X) args us→tZ kind cs →
   ∃ fr X' u,Steps Q (lone (Frame.enter Q (σ f) us.toArray kind) cs X.w) (lone fr cs X'.w)∧Leaves Q (σ f) kind fr u X'.w∧Post Q σ X r H' X' u
structure Env(Q:Program)(σ:Nat→FuncId)(tab:Nat→Option AFunc)(prim:Nat→List V→Heap→Option (Option (V × Heap))):Prop where
 mix:Q.follows .mixedOrders=true
 fn:∀ f af,tab f=some af→∃ fn,Q.funcs[σ f]?=some fn∧Ov Q σ fn af=true
 prim:Xt Q σ prim
theorem zy:∀(ps:List P) (args:List V) (t:T) (s:Nat),ps.map P.toNat=List.range' s ps.length→args.length=ps.length→∀ q:P,
  (dI ps args t).get q=if s≤q.toNat then(args[q.toNat-s]?).getD (t.get q)else t.get q
 | [],args,t,s,_,hl,q=>by
  have:args=[]:=av hl;subst this
  simp [dI]
 | p::ps,[],t,s,_,hl,q=>by simp at hl
 | p::ps,v::vs,t,s,hp,hl,q=>by
  simp only [List.map_cons,List.length_cons,List.range'_succ,List.cons.injEq]at hp;have ih:=zy ps vs (t.set p v) (s+1) hp.2 (by simpa using hl) q
  simp only [dI,ih];by_cases hq:p=q
  ·subst hq;rw [if_neg (by omega),T.vI]
   simp [hp.1]
  ·have hne:q.toNat≠s:=fun e=>hq (P.toNat_inj (hp.1.trans e.symm))
   simp only [T.vI,hq,if_false];by_cases hs:s≤q.toNat
   ·have h1:s+1≤q.toNat:=by omega
    have h2:q.toNat-s=(q.toNat-(s+1))+1:=by omega
    simp [h1,hs,h2]
   ·have h1:¬ (s+1≤q.toNat):=by omega
    simp [h1,hs]
theorem RR.dI:∀(ps:List P) (ps':List Tmp) (args:List V) (us:List Value) (regs:T) (tmps:Array Value) (n:Nat),n≤tmps.size→RR σ X regs tmps→A2 (VR σ X) args us→args.length=ps.length →
  all2 (fun p (q:P)=>q.toNat == p&&decide (p<n)) ps' ps=true→RR σ X (Km.dI ps args regs) ((ps'.zip us).foldl (fun tmps (t,a)=>tmps.setIfInBounds t a) tmps)
 | [],ps',args,us,regs,tmps,n,hn,hR,hA,hl,h=>by
  have:args=[]:=av hl;subst this;have:us=[]:=av hA.len.symm;subst this
  simpa [Km.dI]using hR
 | p::ps,[],args,us,regs,tmps,n,hn,hR,hA,hl,h=>by simp [all2]at h
 | p::ps,p'::ps',[],us,regs,tmps,n,hn,hR,hA,hl,h=>by simp at hl
 | p::ps,p'::ps',v::vs,[],regs,tmps,n,hn,hR,hA,hl,h=>by have:=hA.len;simp at this
 | p::ps,p'::ps',v::vs,u::us,regs,tmps,n,hn,hR,hA,hl,h=>by
  simp only [all2,ag,beq_iff_eq,decide_eq_true_eq]at h;obtain⟨⟨h1,h2⟩,h3⟩:=h;obtain⟨hvu,hA⟩:=hA.of_cons;subst h1;refine RR.dI ps ps' vs us _ _ n (by simpa using hn) (RR.set σ hR (by omega) hvu) hA (by simpa using hl) h3
theorem xR:∀(l:List (Tmp × Value)) (tmps:Array Value),(l.foldl (fun tmps (t,a)=>tmps.setIfInBounds t a) tmps).size=tmps.size
 | [],_=>rfl
 | x::l,tmps=>by rw [List.foldl_cons,xR l];simp
theorem U2(fn:Nat):∀ m todo s jump s',run call fn m none todo s=some (jump,s')→jump=none∨jump=some .ret:=by
 intro m
 induction m with
 | zero=>intro todo s jump s' h;simp [run]at h
 | succ m ih=>
  intro todo s jump s' h;unfold run at h;split at h
  all_goals first
   | exact ih _ _ _ _ h
   | (simp at h;done)
   | skip
  ·simp only [aa,an]at h;exact .inl h.1.symm
  ·split at h
   ·split at h
    ·simp at h
    ·split at h
     ·exact ih _ _ _ _ h
     ·exact ih _ _ _ _ h
     ·exact ih _ _ _ _ h
     ·simp at h
   ·simp at h
  ·split at h
   ·exact ih _ _ _ _ h
   ·simp at h
  ·simp only [aa,an]at h;exact .inr h.1.symm
  ·split at h
   ·exact ih _ _ _ _ h
   ·simp at h
  ·split at h
   ·exact ih _ _ _ _ h
   ·simp at h
  ·split at h
   ·simp at h
   ·split at h
    ·exact ih _ _ _ _ h
    ·simp at h
  ·split at h
   ·simp at h
   ·simp only at h;split at h
    ·split at h
     ·exact ih _ _ _ _ h
     ·simp at h
    ·simp at h
theorem xW{fn:Func}{af:AFunc}(h:Ov Q σ fn af=true):∃ c,fn.name≠ "runtime.NumGoroutine"∧fn.body=some c∧bP Q σ fn.ntmps c af.body=true ∧
  all2 (EH Q fn.ntmps) fn.results.toList af.results=true∧af.ps.map P.toNat=List.range af.ps.length:=by
 simp only [Ov,ag,bne_iff_ne,ne_eq,decide_eq_true_eq]at h;obtain⟨⟨⟨h1,h2⟩,h3⟩,h4⟩:=h
 cases hb:fn.body with
 | none=>rw [hb]at h2;simp at h2
 | some c=>rw [hb]at h2;exact⟨c,h1,rfl,h2,h3,h4⟩
theorem Em{f:FuncId}{fn:Func}{c:Code}(hf:Q.funcs[f]?=some fn)(hn:fn.name≠ "runtime.NumGoroutine")(hb:fn.body=some c)(as:Array Value)(w:World):(callFunc f as).run Q w=.ok (.enter f as) w:=by
 simp [callFunc,hf,hn,hb]
def Returning(g:FuncId)(kind:CallKind)(tmps:Array Value)(ds:List Deferred)(fr:Frame):Prop:=
 fr.mode=.returning∧fr.defers=ds∧fr.kind=kind∧fr.fn=g∧fr.tmps=tmps
theorem step_collected{fr:Frame}{cs:List Frame}{w w':World}{b:Nat}{as:Array Value}{ds:List Deferred}(hm:fr.mode=.returning)(hd:fr.defers = { target:=.collected b,args:=as }::ds)
  (hr:(Instr.takeDeferred b).run Q w=.ok [] w'):step Q (lone fr cs w)=.next (lone { fr with defers:=ds } cs w'):=
 step_lone_go (by simp [stepG,unwind,hm,hd,Sem.runT_eq,hr])
theorem BA{fr:Frame}{cs:List Frame}{w:World}{f:FuncId}{cap as as':Array Value}{ds:List Deferred}(hm:fr.mode=.returning)(hd:fr.defers = { target:=.fn (.func f) cap,args:=as }::ds)
  (hr:(invoke (.fn (.func f) cap) as).run Q w=.ok (.enter f as') w):step Q (lone fr cs w)=.next (lone (Frame.enter Q f as' .deferred) ({ fr with defers:=ds }::cs) w):=
 step_lone_go (by simp [stepG,unwind,hm,hd,callDeferred,Sem.runT_eq,hr])
theorem sG{fr c:Frame}{cs:List Frame}{w:World}{v:Value}{f:FuncId}(h:Leaves Q f .deferred fr v w)(hc:c.mode=.returning) :
  step Q (lone fr (c::cs) w)=.next (lone c cs w):=by
 obtain⟨hm,hd,hk,hf,fn,h1,h2⟩:=h;rw [←hf]at h1;exact step_lone_go (by simp [stepG,unwind,doReturn,hm,hd,hk,h1,Sem.runT_eq,h2,hc])
theorem Returning.pop{g:FuncId}{kind:CallKind}{tmps:Array Value}{d:Deferred}{ds:List Deferred}{fr:Frame}(h:Returning g kind tmps (d::ds) fr):Returning g kind tmps ds { fr with defers:=ds }:=
 ⟨h.1,rfl,h.2.2.1,h.2.2.2.1,h.2.2.2.2⟩
theorem EU(hC:iG Q σ call){g:FuncId}{kind:CallKind}{tmps:Array Value}{cs:List Frame}:∀(ds:List fE) (X:Wd) (ms:List Deferred) (fr:Frame) (H':Heap),
  fV call ds X.H=some H'→SR Q σ X→X.B≤X.w.heap.size→iZ σ X ds ms→Returning g kind tmps ms fr →
  ∃ fr' X',Steps Q (lone fr cs X.w) (lone fr' cs X'.w)∧Returning g kind tmps [] fr'∧X'.H=H'∧SR Q σ X'∧X'.B≤X'.w.heap.size∧Ext X.H.length X X'
 | [],X,ms,fr,H',h,hS,hB,hD,hR=>by
  have:ms=[]:=av hD.len.symm;subst this;simp only [fV,aa]at h
  exact⟨fr,X,Steps.refl _ _,hR,h,hS,hB,Ext.refl _ _⟩
 | d::ds,X,[],fr,H',h,hS,hB,hD,hR=>by have:=hD.len;simp at this
 | .coll b::ds,X,m::ms,fr,H',h,hS,hB,hD,hR=>by
  obtain⟨⟨L,o,h1,h2,rfl⟩,hD'⟩:=A2.of_cons hD;simp only [fV]at h;split at h
  ·rename_i hb;obtain⟨_,_,blk,hb',hbr⟩:=hS.br b L h1;rw [hb]at hb';cases hb';have qo:X.w.heap[L.c]?=some (.deferred (some [])):=hbr
   obtain⟨g1,g2⟩:=SR.uH (o':=.deferred none) (blk':=.dfr false) hS hb h1 qo (by simp) (by simp)
    (fun blk hblk=>⟨.dfr false,by simp [(ab.1 hb).1],by rw [hb]at hblk;cases hblk;exact fun L h=>h⟩)
    (fun X' hx' hw1 _ pG hH=>hw1)
   obtain⟨fr',X',k1,k2,k3,k4,k5,k6⟩:=EU hC ds _ ms { fr with defers:=ms } H' h g1 (by simpa using hB) (iZ.ext' g2 hD') hR.pop
   exact⟨fr',X',.head (step_collected hR.1 hR.2.1 (run_takeDeferred qo)) k1,k2,k3,k4,k5,g2.trans (k6.mono g2.len)⟩
  ·simp at h
 | .fn f args::ds,X,m::ms,fr,H',h,hS,hB,hD,hR=>by
  obtain⟨⟨us,cap,rfl,hA⟩,hD'⟩:=A2.of_cons hD;simp only [fV]at h;split at h
  ·rename_i r H1 hcall;have hen:=hC.enters f args _ _ hcall;obtain⟨fr1,X1,u,q1,q2,q3,q4,q5,q6,q7⟩:=hC.fn f args _ r H1 hcall X _ .deferred ({ fr with defers:=ms }::cs) rfl hS hB hA (.inr ⟨rfl,_,_,rfl,hR.1⟩);rw [←q3]at h;obtain⟨fr',X',k1,k2,k3,k4,k5,k6⟩:=EU hC ds X1 ms { fr with defers:=ms } H' h q4 q7 (iZ.ext' q6 hD') hR.pop;refine⟨fr',X',.head (BA (as':=us++cap) hR.1 hR.2.1 (gZ hen)) (Steps.trans ?_ (.head (sG (c:={ fr with defers:=ms }) q2 hR.1) k1)),k2,k3,k4,k5,q6.trans (k6.mono q6.len)⟩;have e:(us.toList++cap.toList).toArray=us++cap:=by apply Array.ext';simp
   rw [e]at q1;exact q1
  ·simp at h
theorem aEQ(hS:SR Q σ X){n:Nat}{regs:T}{tmps:Array Value}(hR:RR σ X regs tmps){r:ResultVar}{a:nC}(hm:EH Q n r a=true){v:V}
  (h:bU regs X.H a=some v):∃ u,(match r with | .tmp t=>pure (tmps.getD t undef) | .cell a t=>do loadVar t (←asAddr (tmps.getD a undef)):Sem Value).run Q X.w=.ok u X.w∧VR1 σ X v u:=by
 cases r with
 | tmp t=>
  cases a with
  | tmp p=>
   simp only [EH,ag,beq_iff_eq,decide_eq_true_eq]at hm;have hv:=hR p;rw [hm.1]at hv;simp only [bU]at h;refine⟨_,rfl,?_⟩;split at h
   ·simp at h
   ·rename_i hne;simp only [aa]at h;rw [h]at hv
    cases v with
    | t vs=>exact absurd h (hne vs)
    | top=>trivial
    | c x=>exact hv
    | a xs=>exact hv
  | cell p k=>simp [EH]at hm
 | cell t ty=>
  cases a with
  | tmp p=>simp [EH]at hm
  | cell p k=>
   simp only [EH,ag,beq_iff_eq,decide_eq_true_eq]at hm;have hv:=hR p;rw [hm.1.1]at hv;simp only [bU]at h
   cases hx:regs.get p with
   | c x=>
    rw [hx]at h hv;simp only [ldV,ba]at h;obtain⟨cs,h1,h2⟩:=h;obtain⟨c,o,us,he,h3,h4⟩:=Aw hS hv h1;obtain⟨u,h5,h6⟩:=FX hm.2 h3 h4 h2;refine⟨u,by simp [he,asAddr,h5],?_⟩
    cases k with
    | none=>cases cs with
     | nil=>simp [aS]at h2
     | cons y ys=>simp only [aS,aa]at h2;subst h2;exact h6
    | some k=>
     simp only [aS]at h2;split at h2
     ·simp only [aa]at h2;subst h2;exact h6
     ·simp at h2
   | _=>rw [hx]at h;simp [ldV]at h
theorem Kw(hS:SR Q σ X){fn:Func}{rs:List nC}(hm:all2 (EH Q fn.ntmps) fn.results.toList rs=true){regs:T}{tmps:Array Value}(hR:RR σ X regs tmps){v:V}
  (h:Km.results regs X.H rs=some v):∃ u,(Go.results fn tmps).run Q X.w=.ok u X.w∧VR σ X v u:=by
 have key:∀(rs:List nC) (qs:List ResultVar) (vs:List V),all2 (EH Q fn.ntmps) qs rs=true→bC (bU regs X.H) rs=some vs →
   ∃ us:List Value,(qs.mapM (fun r=>match r with | .tmp t=>pure (tmps.getD t undef) | .cell a t=>do loadVar t (←asAddr (tmps.getD a undef)):ResultVar→Sem Value)).run Q X.w=.ok us X.w∧A2 (VR1 σ X) vs us:=by
  intro rs
  induction rs with
  | nil=>
   intro qs vs h1 h2
   cases qs with
   | nil=>simp only [bC,aa]at h2;subst h2;exact⟨[],rfl,A2.nil⟩
   | cons q qs=>simp [all2]at h1
  | cons a rs ih=>
   intro qs vs h1 h2
   cases qs with
   | nil=>simp [all2]at h1
   | cons q qs=>
    simp only [all2,ag]at h1;simp only [bC]at h2;split at h2
    ·simp at h2
    ·rename_i v1 e1;split at h2
     ·simp at h2
     ·rename_i vs1 e2;simp only [aa]at h2;subst h2;obtain⟨u,g1,g2⟩:=aEQ hS hR h1.1 e1;obtain⟨us,g3,g4⟩:=ih qs vs1 h1.2 e2;refine⟨u::us,?_,A2.cons g2 g4⟩;rw [List.mapM_cons,Sem.run_bind,g1];simp only [Result.andThen_ok,Sem.run_bind,g3,Sem.run_pure]
 unfold Km.results at h
 have fin:∀ vs,bC (bU regs X.H) rs=some vs→∃ us:List Value,(Go.results fn tmps).run Q X.w=.ok (if h:us.toArray.size=1 then us.toArray[0]else .tuple us.toArray) X.w∧A2 (VR1 σ X) vs us:=by
  intro vs hvs;obtain⟨us,g1,g2⟩:=key rs fn.results.toList vs hm hvs;refine⟨us,?_,g2⟩;unfold Go.results;rw [Array.mapM_eq_mapM_toList,Sem.run_bind,Sem.run_map];exact(congrArg (fun r:Result (List Value)=>(r.andThen fun a w'=>Result.ok a.toArray w').andThen fun a w'=>Sem.run Q (pure (if h:a.size=1 then a[0]else Value.tuple a)) w') g1).trans rfl
 split at h
 ·rename_i v1 hvs;simp only [aa]at h;subst h;obtain⟨us,g1,g2⟩:=fin _ hvs
  match us,g2 with
  | [u],g2=>exact⟨u,g1,VR.of1 σ g2.of_cons.1⟩
  | [],g2=>have:=g2.len;simp at this
  | _::_::_,g2=>have:=g2.len;simp at this
 ·rename_i vs hne hvs;simp only [aa]at h;subst h;obtain⟨us,g1,g2⟩:=fin _ hvs;refine⟨.tuple us.toArray,?_,us,rfl,g2⟩;rw [g1,dif_neg];intro hsz
  match us,hsz with
  | [u],_=>
   match vs,g2 with
   | [v1],_=>exact hne v1 rfl
   | [],g2=>have:=g2.len;simp at this
   | _::_::_,g2=>have:=g2.len;simp at this
  | [],hsz=>simp at hsz
  | _::_::_,hsz=>simp at hsz
 ·simp at h
end
section
variable{Q:Program}{σ:Nat→FuncId}{tab:Nat→Option AFunc}{prim:Nat→List V→Heap→Option (Option (V × Heap))}
theorem aMW(hE:Env Q σ tab prim){m:Nat}{call:dD}(hC:iG Q σ call){f:Nat}{af:AFunc}(htab:tab f=some af){args:List V}(hlen:args.length=af.ps.length){jump:Option ACode}{s':St}{X:Wd}
  (hrun:run call f m none [.code af.body] ⟨dI af.ps args .e,[],X.H⟩=some (jump,s')) {H':Heap} (vG:fV call s'.defs s'.heap=some H') {r:V} (hres:Km.results s'.regs H' af.results=some r)
  {us:List Value} {kind:CallKind} {cs:List Frame} (hS:SR Q σ X) (hB:X.B≤X.w.heap.size) (hA:A2 (VR σ X) args us) (hk:tZ kind cs) :
  ∃ fr X' u,Steps Q (lone (Frame.enter Q (σ f) us.toArray kind) cs X.w) (lone fr cs X'.w)∧Leaves Q (σ f) kind fr u X'.w∧Post Q σ X r H' X' u:=by
 obtain⟨fn,hf,hm⟩:=hE.fn f af htab;obtain⟨c,hname,hbody,hcode,hrs,hps⟩:=xW hm
 let b:Frame:=Frame.enter Q (σ f) us.toArray kind
 let a0:Act:={ tmps:=us.toArray++Array.replicate (fn.ntmps-us.toArray.size) undef,defers:=[] }
 have hb:b=b.atR a0 [.code c]:=by
  simp [b,a0,Frame.enter,Frame.atR,hf,hbody]
 have hsz:fn.ntmps≤a0.tmps.size:=by simp [a0];omega
 have hRR:RR σ X (dI af.ps args .e) a0.tmps:=by
  intro p;rw [zy af.ps args .e 0 (by rw [hps,List.range_eq_range']) hlen p]
  simp only [Nat.zero_le,if_true,Nat.sub_zero];by_cases hp:p.toNat<args.length
  ·have hx:=ai hp;have hp':p.toNat<us.length:=hA.len▸hp;have hy:=ai hp';have hv:=hA.2 _ _ _ hx hy;rw [hx]
   have:a0.tmps.getD p.toNat undef=us[p.toNat]:=by
    simp [a0,Array.getD_eq_getD_getElem?,Array.getElem?_append,hp']
   rw [this];exact hv
  ·rw [cV (by omega)]
   cases p<;>trivial
 have hF:Fr Q σ fn.ntmps X ⟨dI af.ps args .e,[],X.H⟩ a0:=⟨rfl,hS,hB,hRR,A2.nil,hsz⟩;have hW:Way Q σ f fn.ntmps b cs none [.code af.body] [.code c] ⟨dI af.ps args .e,[],X.H⟩ X a0:=⟨hF,A2.cons (.code hcode) A2.nil,trivial,hk,rfl⟩;obtain⟨X1,a1,items',s1,F1,E1,_,J1⟩:=U0 hC hE.mix f m fn.ntmps b cs none _ _ _ X a0 jump s' hrun hW
 have hret:∃ fr1,Steps Q (lone (b.atR a1 items') cs X1.w) (lone fr1 cs X1.w)∧Returning (σ f) kind a1.tmps a1.defers fr1:=by
  rcases U2 f m _ _ _ _ hrun with rfl | rfl
  ·have:items'=[]:=J1;subst this;exact⟨_,.one (stepR_end rfl),rfl,rfl,rfl,rfl,rfl⟩
  ·obtain⟨k,rfl⟩:=J1;exact⟨_,.one (stepR_ret rfl),rfl,rfl,rfl,rfl,rfl⟩
 obtain⟨fr1,s2,R1⟩:=hret;rw [←F1.heap]at vG;obtain⟨fr2,X2,s3,R2,h1,h2,h3,h4⟩:=EU hC (cs:=cs) s'.defs X1 a1.defers fr1 H' vG F1.sr F1.b F1.defs R1;rw [←h1]at hres;obtain⟨u,g1,g2⟩:=Kw h2 hrs (RR.ext' σ h4 F1.regs) hres;refine⟨fr2,X2,u,?_,⟨R2.1,R2.2.1,R2.2.2.1,R2.2.2.2.1,fn,hf,by rw [R2.2.2.2.2];exact g1⟩,h1,h2,g2,E1.trans (h4.mono E1.len),h3⟩
 show Steps Q (lone b cs X.w) _
 rw [hb];exact s1.trans (s2.trans s3)
theorem Uw(hE:Env Q σ tab prim){m:Nat}{call:dD}(hC:iG Q σ call){b:Nat}{f:Nat}{tmps:T}{ps:List P}{as bd:ACode}{q:nU}{pd:Option ACode}{d:Nat}{X:Wd}(hlp:X.H[b]?=some (.lp f tmps ps as bd q pd d))
  {args:List V} (hlen:args.length=ps.length) {jump:Option ACode} {s':St} (hrun:run call f m (some b) [.code as,.xA,.code bd] ⟨dI ps args tmps,[],X.H⟩=some (jump,s')) (vG:s'.defs.isEmpty=true)
  {f':Nat} {sU:T} {ps':List P} {as' bd':ACode} {q':nU} {pd':Option ACode} {d':Nat} (Wv:s'.heap[b]?=some (.lp f' sU ps' as' bd' q' pd' d'))
  {us:List Value} {c:Frame} {cs:List Frame} {L:Loc} (hS:SR Q σ X) (hB:X.B≤X.w.heap.size) (hA:A2 (VR σ X) args us) (hL:X.rho b=some L) :
  ∃ f tmps as bd X' u,(Instr.yield L.c us.toArray).run Q X.w=.ok (.round L.c f tmps as bd) X.w ∧
   Steps Q (lone (Frame.round L.c f tmps as bd .normal) (c::cs) X.w) (lone (c.finish u) cs X'.w)∧Post Q σ X (.bool jump.isNone) (s'.heap.set b (.lp f' sU ps' as' bd' (if jump.isNone then .ready else .done) jump d')) X' u:=by
 obtain⟨n,ts,qs,as0,bd0,aSo,Ld,qo,h2,h3,h4,h5,h6,h7,h8,h9⟩:=uX hS hL hlp;have hq:=(gQ h4).len
 have hsz:us.toArray.size=qs.size:=by
  have:=hA.len;simp only [Array.length_toList]at hq;simp;omega
 have hy:=run_yield (P:=Q) (args:=us.toArray) qo hsz
 let T0:Array Value:=(qs.zip us.toArray).foldl (fun tmps (t,a)=>tmps.setIfInBounds t a) ts
 have hT0:T0=(qs.toList.zip us).foldl (fun tmps (t,a)=>tmps.setIfInBounds t a) ts:=by
  simp only [T0];rw [←Array.foldl_toList];simp
 let a0:Act:={ tmps:=T0,defers:=[] }
 let B:Frame:=Frame.round L.c (σ f) T0 as0 bd0 .normal
 have hB0:B=B.atR a0 [.code as0,.beginRound,.code bd0]:=by simp [B,a0,Frame.round,Frame.atR]
 have hRR:RR σ X (dI ps args tmps) T0:=by
  rw [hT0];exact RR.dI ps qs.toList args us tmps ts n h2 h3 hA hlen h4
 have hn:n≤T0.size:=by rw [hT0,xR];exact h2
 have hF:Fr Q σ n X ⟨dI ps args tmps,[],X.H⟩ a0:=⟨rfl,hS,hB,hRR,A2.nil,hn⟩;have aML:LK X b:=⟨_,_,_,_,_,_,_,_,hlp⟩
 have hW:Way Q σ f n B (c::cs) (some b) [.code as,.xA,.code bd] [.code as0,.beginRound,.code bd0] ⟨dI ps args tmps,[],X.H⟩ X a0:=
  ⟨hF,A2.cons (.code h5) (A2.cons .xA (A2.cons (.code h6) A2.nil)),⟨L,hL,rfl,aML⟩,.inl rfl,rfl⟩
 obtain⟨X1,a1,items',s1,F1,E1,_,J1⟩:=U0 hC hE.mix f m n B (c::cs) (some b) _ _ _ X a0 jump s' hrun hW;have hL1:=(aML.ext E1).2 _ hL;rw [←F1.heap]at Wv;obtain⟨n1,ts1,qs1,as1,bd1,zH,Ld1,Wq,k2,k3,k4,k5,k6,k7,k8,k9⟩:=uX F1.sr hL1 Wv
 have fin:∀(uZ:Option Code),Df Q σ n1 jump uZ→uZ.isNone=jump.isNone→step Q (lone (B.atR a1 items') (c::cs) X1.w)=.next (lone (c.finish (.bool uZ.isNone)) cs (X1.w.putObj L.c (.loop { state:=if uZ.isNone then .ready else .done,pending:=uZ,fn:=σ f',tmps:=ts1,params:=qs1,assign:=as1,body:=bd1,defers:=Ld1.c }))) →
   ∃ f tmps as bd X' u,(Instr.yield L.c us.toArray).run Q X.w=.ok (.round L.c f tmps as bd) X.w ∧
   Steps Q (lone (Frame.round L.c f tmps as bd .normal) (c::cs) X.w) (lone (c.finish u) cs X'.w)∧Post Q σ X (.bool jump.isNone) (s'.heap.set b (.lp f' sU ps' as' bd' (if jump.isNone then .ready else .done) jump d')) X' u:=by
  intro uZ hj hn hst;obtain⟨g1,g2⟩:=Eb F1.sr hL1 Wv (q':=if jump.isNone then .ready else .done) (zH:=jump) (jg:=uZ) k2 k3 k4 k5 k6 hj k8 k9
  have hq:(if jump.isNone then nU.ready else nU.done).of=(if uZ.isNone then LoopState.ready else LoopState.done):=by
   rw [hn];cases jump<;>rfl
  rw [hq]at g1 g2;refine⟨σ f,T0,as0,bd0,_,.bool uZ.isNone,hy,?_,?_,g1,?_,E1.trans (g2.mono E1.len),?_⟩
  ·show Steps Q (lone B (c::cs) X.w) _
   rw [hB0];exact s1.trans (.one hst)
  ·rw [←F1.heap]
  ·rw [hn];exact VR.zU _
  ·have:=F1.b;simpa [World.putObj]using this
 cases jump with
 | none=>
  have:items'=[]:=J1;subst this
  exact fin none trivial rfl (stepR_round_end rfl rfl (run_endRound (P:=Q) none Wq))
 | some j=>
  cases j with
  | ret=>
   obtain⟨k,rfl⟩:=J1
   exact fin (some .ret) (by simp [Df,bP]) rfl (stepR_round_ret rfl rfl (run_endRound (P:=Q) (some .ret) Wq))
  | exit id=>
   obtain⟨k,rfl,hx⟩:=J1
   exact fin (some (.exit id)) (by simp [Df,bP]) rfl (stepR_round_exit rfl rfl hx (run_endRound (P:=Q) (some (.exit id)) Wq))
  | _=>exact J1.elim
theorem W9(hE:Env Q σ tab prim)(m:Nat):∀ d,iG Q σ (gG tab prim m d):=by
 intro d
 induction d with
 | zero=>exact⟨fun f args H r h=>by simp [gG]at h,fun f args H r H' h=>by simp [gG]at h,fun b args H r H' h=>by simp [gG]at h⟩
 | succ d hC=>
  refine⟨fun f args H r h=>?_,fun f args H r H' h X us kind cs hX hS hB hA hk=>?_,fun b args H r H' h X us c cs L hX hS hB hA hL=>?_⟩
  ·simp only [gG]at h;split at h
   ·rename_i r' hp;obtain⟨r0,H0⟩:=r;exact(hE.prim f args H r0 H0 (by rw [hp,h])).1
   ·split at h
    ·simp at h
    ·rename_i af htab;obtain⟨fn,hf,hm⟩:=hE.fn f af htab;obtain⟨c,hname,hbody,_⟩:=xW hm;exact Em hf hname hbody
  ·simp only [gG]at h;split at h
   ·rename_i r' hp;exact(hE.prim f args H r H' (by rw [hp,h])).2 X us kind cs hX hS hB hA hk
   ·split at h
    ·simp at h
    ·rename_i af htab;split at h
     ·rename_i hlen;split at h
      ·rename_i jump s' hrun;split at h
       ·rename_i H1 vG;simp only [am,an]at h;obtain⟨r1,hres,rfl,rfl⟩:=h;subst hX;exact aMW hE hC htab hlen hrun vG hres hS hB hA hk
       ·simp at h
      ·simp at h
     ·simp at h
  ·simp only [gG]at h;split at h
   ·rename_i f tmps ps as bd q pd d' hlp;split at h
    ·rename_i hlen;split at h
     ·rename_i jump s' hrun;split at h
      ·rename_i hd;split at h
       ·rename_i f' sU ps' as' bd' q' pd' d'' Wv;simp only [aa,an]at h;obtain⟨rfl,rfl⟩:=h;subst hX;exact Uw hE hC hlp hlen hrun hd Wv hS hB hA hL
       ·simp at h
      ·simp at h
     ·simp at h
    ·simp at h
   ·simp at h
end
section
inductive Eff where
 | no
 | set (b:Nat) (x:Blk)
 | push (x:Blk)
def Eff.app(H:Heap):Eff→Heap
 | .no=>H
 | .set b x=>H.set b x
 | .push x=>H++[x]
def Az(g:Nat→Option Blk):C→Option (List C)
 | .ptr b off ep=>match g b with
  | some (.box cs _)=>some (cs.drop off)
  | some (.opn _ cs _ e .loc)=>if ep=e then some (cs.drop off)else none
  | _=>none
 | .f (.fp cs off)=>some ((cs.drop off).map .f)
 | _=>none
def aIk(g:Nat→Option Blk)(n:Option Nat):V→Option V
 | .c x=>(Az g x).bind (aS n)
 | _=>none
def wJ(g:Nat→Option Blk):C→Option Nat
 | .sl b _ l _ ep sz=>match g b with
  | some (.box _ _)=>some l
  | some (.opn s _ _ e _)=>if ep=e∧sz=s then some l else none
  | _=>none
 | .f .au=>some 0
 | .f .es=>some 0
 | .f (.fs _ l)=>some l
 | _=>none
def uK(g:Nat→Option Blk)(sz:Nat):C→Option (List C)
 | .sl b o l _ ep s=>match g b with
  | some (.box cs _)=>if o+l*sz≤cs.length then some ((cs.drop o).take (l*sz))else none
  | some (.opn s' cs _ e _)=>if ep=e∧s=s'∧o+l*sz≤cs.length then some ((cs.drop o).take (l*sz))else none
  | _=>none
 | .f .au=>some []
 | .f .es=>some []
 | .f (.fs cs l)=>if cs.length=l*sz then some (cs.map .f)else none
 | _=>none
def wR(g:Nat→Option Blk):EqK→C→Option Bool
 | .ptr,.f .qj=>some true
 | .ptr,.f (.fp _ _)=>some false
 | .ptr,.ptr _ _ _=>some false
 | .sl,.f .au=>some true
 | .sl,.f .es=>some false
 | .sl,.f (.fs _ _)=>some false
 | .sl,.sl b _ _ _ ep sz=>match g b with
  | some (.box _ _)=>some false
  | some (.opn s _ _ e st)=>if ep=e∧sz=s then some (st == .nil)else none
  | _=>none
 | .fn,.f .nS=>some true
 | .fn,.f (.fn _ _)=>some false
 | .fn,.cl _ _=>some false
 | .fn,.bm _ _=>some false
 | .ifc,.f .qm=>some true
 | _,_=>none
def aIW(g:Nat→Option Blk):EqK→V→V→Option Bool
 | .bool,.c x,.c y=>eqP .bool x y
 | .st ks,.a xs,.a ys=>eqL ks xs ys
 | .ptr,.c x,.c (.f .qj)=>wR g .ptr x
 | .sl,.c x,.c (.f .au)=>wR g .sl x
 | .fn,.c x,.c (.f .nS)=>wR g .fn x
 | .ifc,.c x,.c (.f .qm)=>wR g .ifc x
 | _,_,_=>none
def yM(g:Nat→Option Blk)(sz:Nat)(x:V)(lo hi mx:Option V):Option V:=
 match x with
 | .c (.f .au)=>match dh 0 0 lo hi mx with
  | some _=>some (.c (.f .au))
  | none=>none
 | .c (.f .es)=>match dh 0 0 lo hi mx with
  | some _=>some (.c (.f .es))
  | none=>none
 | .c (.f (.fs cs n))=>match dh n n lo hi mx with
  | some (l,h,m)=>
   if mx.isSome∧m=l then some (.c (.f .es))else
   some (.c (.f (.fs ((cs.drop (l*sz)).take ((h-l)*sz)) (h-l))))
  | none=>none
 | .c (.sl b o n cap ep s)=>match g b with
  | some (.box _ _)=>match dh n cap lo hi mx with
   | some (l,h,m)=>if m=l then some (.c (.f .es))else some (.c (.sl b (o+l*sz) (h-l) (m-l) ep s))
   | none=>none
  | some (.opn s' _ _ e st)=>
   if ep=e∧s=sz∧s'=sz then
    match st with
    | .loc=>match dh n n lo hi mx with
     | some (l,h,m)=>
      if mx.isSome∧m=l then some (.c (.f .es))
      else if l=h∧0<l then some (.c (.f (.fs [] 0)))
      else if mx.isSome then none
      else some (.c (.sl b (o+l*sz) (h-l) 0 ep s))
     | none=>none
    | .nil=>match dh 0 0 lo hi mx with
     | some _=>some (.c (.f .au))
     | none=>none
    | .es=>match dh 0 0 lo hi mx with
     | some _=>some (.c (.f .es))
     | none=>none
   else none
  | _=>none
 | _=>none
def Eh(g:Nat→Option Blk)(n sz:Nat)(x:V)(lo hi mx:Option V):Option V:=
 match x with
 | .c (.ptr b off _)=>match g b with
  | some (.box cs _)=>match dh n n lo hi mx with
   | some (l,h,m)=>if off+n*sz≤cs.length then(if m=l then some (.c (.f .es))else some (.c (.sl b (off+l*sz) (h-l) (m-l) 0 sz)))else none
   | none=>none
  | _=>none
 | .c (.f (.fp cs off))=>match dh n n lo hi mx with
   | some (l,h,m)=>if off+n*sz≤cs.length then(if m=l then some (.c (.f .es))else some (.c (.f (.fs ((cs.drop (off+l*sz)).take ((h-l)*sz)) (h-l)))))else none
   | none=>none
 | _=>none
def Ac(g:Nat→Option Blk)(sz:Nat)(arr:Option Nat)(x i:V):Option V:=
 match gW i with
 | none=>none
 | some i=>
  if 0≤i then
   match arr,x with
   | none,.c (.sl b o l _ ep s)=>if i<l then
     (match g b with
      | some (.box _ _)=>some (.c (.ptr b (o+i.toNat*sz) ep))
      | some (.opn s' _ _ e .loc)=>if ep=e∧s=s' then some (.c (.ptr b (o+i.toNat*sz) ep))else none
      | _=>none)else none
   | none,.c (.f (.fs cs l))=>if i<l then some (.c (.f (.fp cs (i.toNat*sz))))else none
   | some n,.c (.ptr b o ep)=>if i<n then some (.c (.ptr b (o+i.toNat*sz) ep))else none
   | some n,.c (.f (.fp cs o))=>if i<n then some (.c (.f (.fp cs (o+i.toNat*sz))))else none
   | _,_=>none
  else none
def zW(g:Nat→Option Blk)(ck:CK)(z:FC):V→V→Option V
 | .c (.f .BX),.c (.f k)=>if isKey ck k then some (lkR z none)else none
 | .c (.mp b),.c (.f k)=>match g b with
  | some (.map es)=>if isKey ck k then(qM ck k es).map (lkR z)else none
  | _=>none
 | _,_=>none
def Me(g:Nat→Option Blk):V→Option V
 | .c x=>match wJ g x with
  | some _=>match uK g 1 x with
   | some cs=>(bC (fun c=>match c with | C.f (.int .u8 n)=>some (UInt8.ofNat n.toNat) | _=>none) cs).map fun l=>.c (.f (.str ⟨l.toArray⟩))
   | none=>none
  | none=>none
 | _=>none
def vU(g:Nat→Option Blk)(sz:Nat):V→Option (Nat × List C)
 | .c (.f (.str s))=>if sz=1 then some (s.size,s.toList.map fun b=>.f (.int .u8 b.toNat))else none
 | .c x=>match wJ g x,uK g sz x with
  | some l,some cs=>some (l,cs)
  | _,_=>none
 | _=>none
def Kr(g:Nat→Option Blk):C→Option Nat
 | .sl b _ _ c ep sz=>match g b with
  | some (.box _ _)=>some c
  | some (.opn s _ _ e .nil)=>if ep=e∧sz=s then some 0 else none
  | some (.opn s _ _ e .es)=>if ep=e∧sz=s then some 0 else none
  | _=>none
 | .f .au=>some 0
 | .f .es=>some 0
 | _=>none
def ET(g:Nat→Option Blk):V→Option V
 | .c (.mi b)=>match g b with
  | some (.mit m _ true)=>match g m with
   | some (.map [e])=>some (.t [.c (.f e.1),mV e.2])
   | _=>none
  | _=>none
 | _=>none
def UO(g:Nat→Option Blk)(x:C)(xs:List C):Option Eff:=
 match x with
 | .ptr b off ep=>match g b with
  | some (.box cs fl)=>if fl≤off∧off+xs.length≤cs.length then some (.set b (.box (over cs off xs) fl))else none
  | some (.opn sz cs fl e .loc)=>if ep=e∧fl≤off∧off+xs.length≤cs.length then some (.set b (.opn sz (over cs off xs) fl e .loc))else none
  | _=>none
 | _=>none
def KY(g:Nat→Option Blk):V→Option (V × Eff)
 | .c (.it b)=>match g b with
  | some (.it s pos)=>
   if pos<s.size then
    let r:=Utf8.decode s pos
    some (.t [.bool true,.int .i64 pos,.int .i32 r.1],.set b (.it s (pos+r.2)))
   else some (.t [.bool false],.no)
  | _=>none
 | _=>none
def AP(g:Nat→Option Blk)(n0:Nat)(sz bytes:Nat)(x y:V):Option (V × Eff):=
 match vU g sz y with
 | none=>none
 | some (m,ys)=>
  if sz=0 then none else
  match x with
  | .c (.f .au)=>if m=0 then some (.c (.f .au),.no)else
    if bK m bytes then some (.c (.sl n0 0 m 0 0 sz),.push (.opn sz ys 0 0 .loc))else none
  | .c (.f .es)=>if m=0 then some (.c (.f .es),.no)else
    if bK m bytes then some (.c (.sl n0 0 m 0 0 sz),.push (.opn sz ys 0 0 .loc))else none
  | .c (.sl b o l cap ep s)=>match g b with
   | some (.box cs fl)=>
    if l+m≤cap then
     if fl≤o+l*sz∧o+l*sz+ys.length≤cs.length then some (.c (.sl b o (l+m) cap ep s),.set b (.box (over cs (o+l*sz) ys) fl))else none
    else if bK (l+m) bytes∧o+l*sz≤cs.length then some (.c (.sl n0 0 (l+m) 0 0 sz),.push (.opn sz ((cs.drop o).take (l*sz)++ys) 0 0 .loc))else none
   | some (.opn s' cs fl e st)=>
    if ep=e∧s'=sz∧s=sz then
     if m=0 then some (x,.no)
     else if o=0∧l*sz=cs.length∧fl≤cs.length then
      if bK (l+m) bytes then some (.c (.sl b 0 (l+m) 0 (ep+1) sz),.set b (.opn sz (cs++ys) fl (e+1) .loc))else none
     else if st=.loc∧fl≤o+l*sz∧o+l*sz+ys.length≤cs.length then
      some (.c (.sl b o (l+m) 0 ep sz),.set b (.opn sz (over cs (o+l*sz) ys) fl e .loc))
     else none
    else none
   | _=>none
  | _=>none
def MB(g:Nat→Option Blk)(sz:Nat)(x y:V):Option (V × Eff):=
 match vU g sz y,x with
 | some _,.c (.f .au)=>some (.int .i64 0,.no)
 | some _,.c (.f .es)=>some (.int .i64 0,.no)
 | some (m,ys),.c (.sl b o l _ ep s')=>
  let n:=Nat.min m l
  match g b with
  | some (.box cs fl)=>if fl≤o∧o+n*sz≤cs.length then some (.int .i64 n,.set b (.box (over cs o (ys.take (n*sz))) fl))else none
  | some (.opn s cs fl e .loc)=>if ep=e∧s'=s∧s=sz∧fl≤o∧o+n*sz≤cs.length then some (.int .i64 n,.set b (.opn s (over cs o (ys.take (n*sz))) fl e .loc))else none
  | _=>none
 | _,_=>none
def EX(g:Nat→Option Blk)(sz:Nat)(zs:List FC)(x:V):Option Eff:=
 match x with
 | .c y=>match wJ g y with
  | some 0=>some .no
  | some l=>
   if zs.length=sz then
    match y with
    | .sl b o _ _ ep s=>match g b with
     | some (.box _ _)=>UO g (.ptr b o ep) ((dw l zs).map .f)
     | some (.opn s' _ _ e .loc)=>if ep=e∧s=s' then UO g (.ptr b o ep) ((dw l zs).map .f)else none
     | _=>none
    | _=>none
   else none
  | none=>none
 | _=>none
def J8(g:Nat→Option Blk)(sz:Nat)(x hi mx:V):Option (V × Eff):=
 match yM g sz x none (some hi) (some mx)with
 | some v=>some (v,.no)
 | none=>match x with
  | .c (.sl b o n _ ep s)=>match g b with
   | some (.opn s' cs fl e .loc)=>
    if ep=e∧s=sz∧s'=sz∧o=0 then
     match bnd hi n,bnd mx n with
     | some i,some j=>
      if i=j∧0<i∧i*sz≤cs.length then
       match bC fcC (cs.take (i*sz))with
       | some ys=>some (.c (.f (.fs ys i)),.set b (.opn s' cs (Nat.max fl (i*sz)) e .loc))
       | none=>none
      else none
     | _,_=>none
    else none
   | _=>none
  | _=>none
def ML(g:Nat→Option Blk)(n0:Nat)(sz bytes:Nat)(zs:List FC)(x n:V):Option (V × Eff):=
 match gW n with
 | some n=>
  if 0≤n∧zs.length=sz then
   match x with
   | .c (.f .au)=>if n.toNat=0 then some (.c (.f .au),.no)else
     if bK n.toNat bytes then some (.c (.sl n0 0 n.toNat 0 0 sz),.push (.opn sz ((dw n.toNat zs).map .f) 0 0 .loc))else none
   | .c (.f .es)=>if n.toNat=0 then some (.c (.f .es),.no)else
     if bK n.toNat bytes then some (.c (.sl n0 0 n.toNat 0 0 sz),.push (.opn sz ((dw n.toNat zs).map .f) 0 0 .loc))else none
   | _=>none
  else none
 | none=>none
def EC(g:Nat→Option Blk):V→Option (V × Eff)
 | .c (.mi b)=>match g b with
  | some (.mit m since done)=>match g m with
   | some (.map [])=>if done then none else some (.t [.bool false],.no)
   | some (.map [e])=>if done then some (.t [.bool false],.no)else if since=1 then some (.t [.bool true,.c (.f e.1),mV e.2],.set b (.mit m 1 true))else none
   | _=>none
  | _=>none
 | _=>none
def zD(g:Nat→Option Blk)(n0:Nat):V→Option (V × Eff)
 | .c (.mp b)=>match g b with
  | some (.map es)=>if es.length≤1 then some (.c (.mi n0),.push (.mit b es.length false))else none
  | _=>none
 | _=>none
def Uz(regs:T)(g:Nat→Option Blk)(n0:Nat):AOp→Option (V × Eff)
 | .mov x=>some (x.ev regs,.no)
 | .pre o sz=>if o=.loc∨sz=0 then none else some (.c (.sl n0 0 0 0 0 sz),.push (.opn sz [] 0 0 o))
 | .pick c a b=>match c.ev regs with
  | .c (.f (.bool v))=>some ((if v then a else b).ev regs,.no)
  | _=>none
 | .alloc zs=>some (.c (.ptr n0 0 0),.push (.box (zs.map .f) 0))
 | .box x=>match (x.ev regs).cells? with
  | some xs=>some (.c (.ptr n0 0 0),.push (.box xs 0))
  | none=>none
 | .build zs ps=>(eF regs (zs.map .f) ps).map fun cs=>(.a cs,.no)
 | .aP sz zs n ps=>
  if n=0 then(if ps.isEmpty then some (.c (.f .es),.no)else none)else
  (eF regs ((dw n zs).map .f) (ps.map fun p=>(p.1*sz,sz,p.2))).map fun cs=>(.c (.sl n0 0 n n 0 sz),.push (.box cs 0))
 | .load n x=>(aIk g n (x.ev regs)).map (·,.no)
 | .store n x y=>match x.ev regs,(y.ev regs).cells? with
  | .c p,some xs=>if xs.length=n then(UO g p xs).map (.top,·)else none
  | _,_=>none
 | .bG x=>match x.ev regs with
  | .c (.ptr b o e)=>some (.c (.ptr b o e),.no)
  | .c (.f (.fp cs o))=>some (.c (.f (.fp cs o)),.no)
  | _=>none
 | .bin op x y=>(dG op (x.ev regs) (y.ev regs)).map (·,.no)
 | .eq neg k x y=>(aIW g k (x.ev regs) (y.ev regs)).map fun b=>(.bool (if neg then !b else b),.no)
 | .un op x=>(unV op (x.ev regs)).map (·,.no)
 | .cvi k x=>match x.ev regs with
  | .c (.f (.int _ n))=>some (.int k (k.wrap n),.no)
  | _=>none
 | .EW x=>match x.ev regs with
  | .c (.f (.str s))=>some (.c (.f (.str s)),.no)
  | _=>none
 | .Ci x=>(Me g (x.ev regs)).map (·,.no)
 | .Md x=>match x.ev regs with
  | .c (.f (.str s))=>if s.size<2 ^ 48 then some (.c (.sl n0 0 s.size 0 0 1),.push (.opn 1 (s.toList.map fun b=>.f (.int .u8 b.toNat)) 0 0 .loc))else none
  | _=>none
 | .o9 f caps=>(bC yH (dZ regs caps)).map fun xs=>(.c (.cl f xs),.no)
 | .nJ=>some (.c (.mp n0),.push (.map []))
 | .lookup ck z m k=>(zW g ck z (m.ev regs) (k.ev regs)).map (·,.no)
 | .nK ck m k v=>match m.ev regs,k.ev regs,yh (v.ev regs)with
  | .c (.mp b),.c (.f k),some v=>match g b with
   | some (.map es)=>if isKey ck k then(CW ck k v es).map fun es=>(.top,.set b (.map es))else none
   | _=>none
  | _,_,_=>none
 | .dK sz bytes zs l c=>match gW (l.ev regs),gW (c.ev regs)with
  | some l,some c=>
   if 0≤l∧l≤c∧bK c.toNat bytes=true∧zs.length=sz then
    (if c=0 then some (.c (.f .es),.no)else
    some (.c (.sl n0 0 l.toNat c.toNat 0 sz),.push (.box ((dw c.toNat zs).map .f) 0)))
   else none
  | _,_=>none
 | .slice sz x lo hi mx=>(yM g sz (x.ev regs) (lo.map (·.ev regs)) (hi.map (·.ev regs)) (mx.map (·.ev regs))).map (·,.no)
 | .sV n sz x lo hi mx=>(Eh g n sz (x.ev regs) (lo.map (·.ev regs)) (hi.map (·.ev regs)) (mx.map (·.ev regs))).map (·,.no)
 | .uJ x lo hi=>(zq (x.ev regs) (lo.map (·.ev regs)) (hi.map (·.ev regs))).map (·,.no)
 | .aj off x=>(kS off (x.ev regs)).map (·,.no)
 | .field off n x=>(qY off n (x.ev regs)).map (·,.no)
 | .aT sz arr x i=>(Ac g sz arr (x.ev regs) (i.ev regs)).map (·,.no)
 | .idxs x i=>(G5 (x.ev regs) (i.ev regs)).map (·,.no)
 | .vw len sz n x i=>(vk len sz n (x.ev regs) (i.ev regs)).map (·,.no)
 | .range x=>match x.ev regs with
  | .c (.f (.str s))=>some (.c (.it n0),.push (.it s 0))
  | _=>none
 | .next x=>KY g (x.ev regs)
 | .extract x i=>match x.ev regs with
  | .t vs=>(vs[i]?).map (·,.no)
  | _=>none
 | .zX n=>some (.int .i64 n,.no)
 | .lens x=>match x.ev regs with
  | .c (.f (.str s))=>some (.int .i64 (s.size:Nat),.no)
  | _=>none
 | .len x=>match x.ev regs with
  | .c y=>match wJ g y with
   | some n=>some (.int .i64 (n:Nat),.no)
   | none=>none
  | _=>none
 | .append sz bytes x y=>AP g n0 sz bytes (x.ev regs) (y.ev regs)
 | .copy sz x y=>MB g sz (x.ev regs) (y.ev regs)
 | .sH lo xs=>(Qc lo (dZ regs xs)).map (·,.no)
 | .clear sz zs x=>(EX g sz zs (x.ev regs)).map (.t [],·)
 | .jK sz zs n ps=>((eF regs ((dw n zs).map .f) (ps.map fun p=>(p.1*sz,sz,p.2))).bind fun cs=>if n=0 then none else fcL cs).map fun fs=>(.c (.f (.fs fs n)),.no)
 | .BH sz x hi mx=>J8 g sz (x.ev regs) (hi.ev regs) (mx.ev regs)
 | .yJ sz bytes zs x n=>ML g n0 sz bytes zs (x.ev regs) (n.ev regs)
 | .oW x=>zD g n0 (x.ev regs)
 | .uT x=>EC g (x.ev regs)
 | .entry x=>(ET g (x.ev regs)).map (·,.no)
 | .Ce f xs=>(bC yH (dZ regs xs)).map fun xs=>(.c (.bm f xs),.no)
 | .cap x=>match x.ev regs with
  | .c y=>match Kr g y with
   | some n=>some (.int .i64 (n:Nat),.no)
   | none=>none
  | _=>none
 | _=>none
def gt(H:Heap):Nat→Option Blk:=fun b=>H[b]?
theorem Ho(H:Heap):Az (gt H)=aG H:=by funext x;unfold Az aG gt;rfl
theorem awm(H:Heap):aIk (gt H)=ldV H:=by funext n x;unfold aIk ldV;rw [Ho];rfl
theorem rO(H:Heap):wJ (gt H)=bV H:=by funext x;unfold wJ bV gt;rfl
theorem xQ(H:Heap):uK (gt H)=dF H:=by funext n x;unfold uK dF gt;rfl
theorem Qo(H:Heap):wR (gt H)=isNil H:=by funext k x;unfold wR isNil gt;rfl
theorem aw4(H:Heap):aIW (gt H)=eqV H:=by funext k x y;unfold aIW eqV;rw [Qo];rfl
theorem zu(H:Heap):yM (gt H)=jm H:=by funext n x a b c;unfold yM jm gt;rfl
theorem Ko(H:Heap):Eh (gt H)=nR H:=by funext m n x a b c;unfold Eh nR gt;rfl
theorem GZ(H:Heap):Ac (gt H)=aO H:=by funext n a x i;unfold Ac aO gt;rfl
theorem GU(H:Heap):zW (gt H)=jv H:=by funext k z x y;unfold zW jv gt;rfl
theorem QD(H:Heap):Me (gt H)=tq H:=by funext x;unfold Me tq;rw [rO,xQ];rfl
theorem uz(H:Heap):vU (gt H)=eY H:=by funext n x;unfold vU eY;rw [rO,xQ];rfl
theorem PN(H:Heap):Kr (gt H)=pX H:=by funext x;unfold Kr pX gt;rfl
theorem Mc(H:Heap):ET (gt H)=pK H:=by funext x;unfold ET pK gt;rfl
def mG(H:Heap)(r:Option (V × Eff)):Option (V × Heap):=r.map fun r=>(r.1,r.2.app H)
theorem Ee(H:Heap)(x:C)(xs:List C):(UO (gt H) x xs).map (·.app H)=stC H x xs:=by
 cases x with
 | ptr b off ep=>
  simp only [UO,stC,gt]
  cases h:H[b]? with
  | none=>rfl
  | some blk=>
   cases blk with
   | box cs fl=>simp only;split<;>rfl
   | opn sz cs fl e st=>cases st<;>simp only<;>first | rfl | (split<;>rfl)
   | _=>rfl
 | _=>rfl
theorem P7(H:Heap)(x:V):mG H (KY (gt H) x)=Ol H x:=by
 cases x with
 | c x=>
  cases x with
  | it b=>
   simp only [KY,Ol,gt,mG]
   cases h:H[b]? with
   | none=>rfl
   | some blk=>
    cases blk with
    | it s pos=>simp only;split<;>rfl
    | _=>rfl
  | _=>rfl
 | _=>rfl
theorem QE(H:Heap)(sz:Nat)(x y:V):mG H (MB (gt H) sz x y)=copyV H sz x y:=by
 unfold MB copyV mG;rw [uz]
 cases ha:eY H sz y with
 | none=>rfl
 | some r=>
  obtain⟨m,ys⟩:=r
  cases x with
  | c x=>
   cases x with
   | f x=>cases x<;>rfl
   | sl b o l cap ep s=>
    simp only [gt]
    cases h:H[b]? with
    | none=>rfl
    | some blk=>
     cases blk with
     | box cs fl=>simp only;split<;>rfl
     | opn sz cs fl e st=>cases st<;>simp only<;>first | rfl | (split<;>rfl)
     | _=>rfl
   | _=>rfl
  | _=>rfl
theorem Hz(H:Heap)(sz bytes:Nat)(x y:V):mG H (AP (gt H) H.length sz bytes x y)=dn H sz bytes x y:=by
 unfold AP dn mG;rw [uz]
 cases ha:eY H sz y with
 | none=>rfl
 | some r=>
  obtain⟨m,ys⟩:=r;simp only;by_cases h0:sz=0
  ·simp [h0]
  ·simp only [h0,if_false]
   cases x with
   | c x=>
    cases x with
    | f x=>cases x<;>first | rfl | (simp only;repeat' (first | rfl | split))
    | sl b o l cap ep s=>
     simp only [gt]
     cases h:H[b]? with
     | none=>rfl
     | some blk=>
      cases blk with
      | box cs fl=>simp only;repeat' (first | rfl | split)
      | opn sz cs fl e st=>simp only;repeat' (first | rfl | split)
      | _=>rfl
    | _=>rfl
   | _=>rfl
theorem MF(H:Heap)(sz:Nat)(zs:List FC)(x:V):(EX (gt H) sz zs x).map (·.app H)=Aq H sz zs x:=by
 unfold EX Aq
 cases x with
 | c y=>
  simp only [rO]
  cases bV H y with
  | none=>rfl
  | some l=>
   cases l with
   | zero=>rfl
   | succ l=>
    simp only;split
    ·cases y with
     | sl b o l' c ep s=>
      simp only [gt]
      cases h:H[b]? with
      | none=>rfl
      | some blk=>
       cases blk with
       | box cs fl=>exact Ee H _ _
       | opn s' cs fl e st=>
        cases st<;>simp only<;>first | rfl | skip
        split
        ·exact Ee H _ _
        ·rfl
       | _=>rfl
     | _=>rfl
    ·rfl
 | _=>rfl
theorem QK(H:Heap)(sz bytes:Nat)(zs:List FC)(x n:V):mG H (ML (gt H) H.length sz bytes zs x n)=OZ H sz bytes zs x n:=by
 unfold ML OZ mG
 cases gW n with
 | none=>rfl
 | some n=>
  simp only;split
  ·cases x with
   | c x=>
    cases x with
    | f x=>cases x<;>first | rfl | (simp only;repeat' (first | rfl | split))
    | _=>rfl
   | _=>rfl
  ·rfl
theorem PI(H:Heap)(sz:Nat)(x hi mx:V):mG H (J8 (gt H) sz x hi mx)=F6 H sz x hi mx:=by
 unfold J8 F6 mG;rw [zu]
 cases jm H sz x none (some hi) (some mx)with
 | some v=>rfl
 | none=>
  simp only
  cases x with
  | c x=>
   cases x with
   | sl b o n c ep s=>
    simp only [gt]
    cases H[b]? with
    | none=>rfl
    | some blk=>
     cases blk with
     | opn s' cs fl e st=>
      cases st<;>simp only<;>first | rfl | skip
      split
      ·cases bnd hi n<;>cases bnd mx n<;>simp only<;>first | rfl | skip
       split
       ·cases bC fcC (List.take _ cs)<;>rfl
       ·rfl
      ·rfl
     | _=>rfl
   | _=>rfl
  | _=>rfl
theorem KX(H:Heap)(x:V):mG H (EC (gt H) x)=ED H x:=by
 cases x with
 | c x=>
  cases x with
  | mi b=>
   simp only [EC,ED,gt,mG]
   cases h:H[b]? with
   | none=>rfl
   | some blk=>
    cases blk with
    | mit m since done=>
     simp only
     cases h2:H[m]? with
     | none=>rfl
     | some aRl=>
      cases aRl with
      | map es=>
       match es with
       | []=>simp only;split<;>rfl
       | [e]=>simp only;repeat' (first | rfl | split)
       | _::_::_=>rfl
      | _=>rfl
    | _=>rfl
  | _=>rfl
 | _=>rfl
theorem Gp(H:Heap)(x:V):mG H (zD (gt H) H.length x)=yO H x:=by
 cases x with
 | c x=>
  cases x with
  | mp b=>
   simp only [zD,yO,gt,mG]
   cases h:H[b]? with
   | none=>rfl
   | some blk=>
    cases blk with
    | map es=>simp only;split<;>rfl
    | _=>rfl
  | _=>rfl
 | _=>rfl
theorem O1{H:Heap}(o:Option V):mG H (o.map (·,.no))=o.map (·,H):=by cases o<;>rfl
theorem D9(regs:T)(H:Heap)(op:AOp):mG H (Uz regs (gt H) H.length op)=xOp regs H op:=by
 cases op<;>simp only [Uz,xOp,O1,awm,zu,Ko,GZ,GU,QD,Hz,QE,P7,QK,PI,KX,Gp,Mc]
 all_goals first | rfl | skip
 case pre o sz=>split<;>rfl
 case pick c a b=>
  generalize c.ev regs=v;cases v<;>try rfl
  rename_i x;cases x<;>try rfl
  rename_i x;cases x<;>rfl
 case box x=>generalize (x.ev regs).cells?=o;cases o<;>rfl
 case build zs ps=>cases eF regs (zs.map .f) ps<;>rfl
 case aP sz zs n ps=>
  split
  ·split<;>rfl
  ·simp only [mG,cP];rfl
 case jK sz zs n ps=>
  generalize (eF regs ((dw n zs).map .f) (ps.map fun p=>(p.1*sz,sz,p.2))).bind (fun cs=>if n=0 then none else fcL cs)=o
  cases o<;>rfl
 case store n x y=>
  generalize x.ev regs=v;generalize (y.ev regs).cells?=o;cases v<;>cases o<;>try rfl
  simp only;split
  ·rw [←Ee];simp only [mG,cP];rfl
  ·rfl
 case bG x=>
  generalize x.ev regs=v;cases v<;>try rfl
  rename_i x;cases x<;>try rfl
  rename_i x;cases x<;>rfl
 case eq neg k x y=>rw [aw4];simp only [mG,cP];rfl
 case cvi k x=>
  generalize x.ev regs=v;cases v<;>try rfl
  rename_i x;cases x<;>try rfl
  rename_i x;cases x<;>rfl
 case EW x=>
  generalize x.ev regs=v;cases v<;>try rfl
  rename_i x;cases x<;>try rfl
  rename_i x;cases x<;>rfl
 case Md x=>
  generalize x.ev regs=v;cases v<;>try rfl
  rename_i x;cases x<;>try rfl
  rename_i x;cases x<;>try rfl
  simp only;split<;>rfl
 case o9 f caps=>simp only [mG,cP];rfl
 case nK ck m k v=>
  generalize m.ev regs=m;generalize k.ev regs=k;generalize yh (v.ev regs)=v;cases m<;>try rfl
  rename_i m;cases m<;>try rfl
  cases k<;>try rfl
  rename_i k;cases k<;>try rfl
  cases v<;>try rfl
  simp only [gt];rename_i b k v
  cases H[b]? with
  | none=>rfl
  | some blk=>
   cases blk<;>try rfl
   simp only;split
   ·simp only [mG,cP];rfl
   ·rfl
 case dK sz bytes zs l c=>
  generalize gW (l.ev regs)=l;generalize gW (c.ev regs)=c;cases l<;>cases c<;>try rfl
  simp only;split
  ·split<;>rfl
  ·rfl
 case range x=>
  generalize x.ev regs=v;cases v<;>try rfl
  rename_i x;cases x<;>try rfl
  rename_i x;cases x<;>rfl
 case extract x i=>
  generalize x.ev regs=v;cases v<;>try rfl
  simp only [O1]
 case len x=>
  generalize x.ev regs=v;cases v<;>try rfl
  rw [rO];simp only;rename_i y;cases bV H y<;>rfl
 case lens x=>
  generalize x.ev regs=v;cases v<;>try rfl
  rename_i x;cases x<;>try rfl
  rename_i x;cases x<;>rfl
 case clear sz zs x=>rw [←MF];simp only [mG,cP];rfl
 case Ce f caps=>simp only [mG,cP];rfl
 case cap x=>
  generalize x.ev regs=v;cases v<;>try rfl
  rw [PN];simp only;rename_i y;cases pX H y<;>rfl
end
section
set_option linter.unusedVariables false
inductive BT(α:Type) where
 | e
 | n (l:BT α) (x:α) (r:BT α)
def BT.get{α:Type}:BT α→Nat→Option α
 | .e,_=>none
 | .n l x r,b=>match b with
  | 0=>some x
  | m+1=>if m % 2=0 then l.get (m / 2)else r.get (m / 2)
abbrev HT:=BT Blk
def jD{α:Type}(b:Nat)(t:BT α)(k:α→Prop):Prop:=
 BT.rec (motive:=fun _=>Nat→Prop) (fun _=>False)
  (fun _ x _ ihl ihr b=>Nat.rec (motive:=fun _=>Prop) (k x) (fun m _=>Nat.rec (motive:=fun _=>Prop) (ihl (Nat.div m 2)) (fun _ _=>ihr (Nat.div m 2)) (Nat.mod m 2)) b) t b
def jC{α:Type}(x:α)(t:BT α):Nat→(BT α→Prop)→Prop:=
 BT.rec (motive:=fun _=>Nat→(BT α→Prop)→Prop) (fun _ _=>False)
  (fun l y r ihl ihr b k=>Nat.rec (motive:=fun _=>Prop) (k (.n l x r))
   (fun m _=>Nat.rec (motive:=fun _=>Prop) (ihl (Nat.div m 2) fun l'=>k (.n l' y r)) (fun _ _=>ihr (Nat.div m 2) fun r'=>k (.n l y r')) (Nat.mod m 2)) b) t
def E8{α:Type}(x:α)(t:BT α):Nat→(BT α→Prop)→Prop:=
 BT.rec (motive:=fun _=>Nat→(BT α→Prop)→Prop) (fun b k=>Nat.rec (motive:=fun _=>Prop) (k (.n .e x .e)) (fun _ _=>False) b)
  (fun l y r ihl ihr b k=>Nat.rec (motive:=fun _=>Prop) False
   (fun m _=>Nat.rec (motive:=fun _=>Prop) (ihl (Nat.div m 2) fun l'=>k (.n l' y r)) (fun _ _=>ihr (Nat.div m 2) fun r'=>k (.n l y r')) (Nat.mod m 2)) b) t
theorem VL(m:Nat):m % 2=0∨m % 2=1:=by omega
theorem eu{α:Type}{t:BT α}:∀ {b:Nat} {k:α→Prop},jD b t k→∃ x,t.get b=some x∧k x:=by
 induction t with
 | e=>intro b k h;exact h.elim
 | n l x r ihl ihr=>
  intro b k h
  cases b with
  | zero=>exact⟨x,rfl,h⟩
  | succ m=>
   have h':Nat.rec (motive:=fun _=>Prop) (jD (m / 2) l k) (fun _ _=>jD (m / 2) r k) (m % 2):=h
   rcases VL m with e | e<;>rw [e]at h'
   ·obtain⟨y,g1,g2⟩:=ihl h';exact⟨y,by simp [BT.get,e,g1],g2⟩
   ·obtain⟨y,g1,g2⟩:=ihr h';exact⟨y,by simp [BT.get,e,g1],g2⟩
def tu{α:Type}(t t':BT α)(b:Nat)(x:α):Prop:=∀ i,t'.get i=if i=b then some x else t.get i
theorem tu.left{α:Type}{l l' r:BT α}{y x:α}{m:Nat}(e:m % 2=0)(h:tu l l' (m / 2) x):tu (.n l y r) (.n l' y r) (m+1) x:=by
 intro i
 cases i with
 | zero=>simp [BT.get]
 | succ j=>
  simp only [BT.get,h (j / 2)];rcases VL j with e' | e'
  ·have:(j / 2=m / 2)↔(j=m):=by omega
   simp [e',this]
  ·have:j≠m:=by omega
   simp [e',this]
theorem tu.right{α:Type}{l r' r:BT α}{y x:α}{m:Nat}(e:m % 2=1)(h:tu r r' (m / 2) x):tu (.n l y r) (.n l y r') (m+1) x:=by
 intro i
 cases i with
 | zero=>simp [BT.get]
 | succ j=>
  simp only [BT.get,h (j / 2)];rcases VL j with e' | e'
  ·have:j≠m:=by omega
   simp [e',this]
  ·have:(j / 2=m / 2)↔(j=m):=by omega
   simp [e',this]
theorem Xe{α:Type}{x:α}{t:BT α}:∀ {b:Nat} {k:BT α→Prop},jC x t b k→∃ t',tu t t' b x∧(∃ y,t.get b=some y)∧k t':=by
 induction t with
 | e=>intro b k h;exact h.elim
 | n l y r ihl ihr=>
  intro b k h
  cases b with
  | zero=>
   refine⟨.n l x r,fun i=>?_,⟨y,rfl⟩,h⟩
   cases i<;>simp [BT.get]
  | succ m=>
   have h':Nat.rec (motive:=fun _=>Prop) (jC x l (m / 2) fun l'=>k (.n l' y r)) (fun _ _=>jC x r (m / 2) fun r'=>k (.n l y r')) (m % 2):=h
   rcases VL m with e | e<;>rw [e]at h'
   ·obtain⟨l',g1,⟨z,g2⟩,g3⟩:=ihl h';exact⟨_,g1.left e,⟨z,by simp [BT.get,e,g2]⟩,g3⟩
   ·obtain⟨l',g1,⟨z,g2⟩,g3⟩:=ihr h';exact⟨_,g1.right e,⟨z,by simp [BT.get,e,g2]⟩,g3⟩
theorem QJ{α:Type}{x:α}{t:BT α}:∀ {b:Nat} {k:BT α→Prop},E8 x t b k→∃ t',tu t t' b x∧k t':=by
 induction t with
 | e=>
  intro b k h
  cases b with
  | zero=>
   refine⟨.n .e x .e,fun i=>?_,h⟩
   cases i<;>simp [BT.get]
  | succ m=>exact h.elim
 | n l y r ihl ihr=>
  intro b k h
  cases b with
  | zero=>exact h.elim
  | succ m=>
   have h':Nat.rec (motive:=fun _=>Prop) (E8 x l (m / 2) fun l'=>k (.n l' y r)) (fun _ _=>E8 x r (m / 2) fun r'=>k (.n l y r')) (m % 2):=h
   rcases VL m with e | e<;>rw [e]at h'
   ·obtain⟨l',g1,g3⟩:=ihl h';exact⟨_,g1.left e,g3⟩
   ·obtain⟨l',g1,g3⟩:=ihr h';exact⟨_,g1.right e,g3⟩
def dO(H:Heap)(t:HT):Prop:=t.get=gt H
theorem dO.nil:dO [] .e:=by funext b;simp [BT.get,gt]
theorem dO.set{H:Heap}{t t':HT}(h:dO H t){b:Nat}{x:Blk}(hp:tu t t' b x)(hb:∃ y,t.get b=some y):dO (H.set b x) t':=by
 funext i
 obtain⟨y,hy⟩:=hb;rw [h]at hy;have hlt:b<H.length:=(ab.1 hy).1;rw [hp i,h];simp only [gt];by_cases e:i=b
 ·subst e;simp [hlt]
 ·simp [e,al (Ne.symm e)]
theorem dO.push{H:Heap}{t t':HT}(h:dO H t){x:Blk}(hp:tu t t' H.length x):dO (H++[x]) t':=by
 funext i
 rw [hp i,h];simp only [gt];by_cases e:i=H.length
 ·subst e;simp
 ·by_cases hi:i<H.length
  ·simp [e,List.getElem?_append_left hi]
  ·rw [bc (by omega)]
   have:i-H.length≠0:=by omega
   simp [e,cV (l:=H) (i:=i) (by omega),this]
def bM(n:Nat)(k:Nat→Prop):Prop:=Nat.rec (motive:=fun _=>Prop) (k 0) (fun m _=>k (Nat.succ m)) n
def wY(n:Int)(k:Int→Prop):Prop:=Int.rec (motive:=fun _=>Prop) (fun n=>bM n fun n=>k (.ofNat n)) (fun n=>bM n fun n=>k (.negSucc n)) n
def qX(b:Bool)(k:Bool→Prop):Prop:=Bool.rec (motive:=fun _=>Prop) (k false) (k true) b
theorem bT(n:Nat)(k:Nat→Prop):bM n k=k n:=by cases n<;>rfl
theorem Dv(n:Int)(k:Int→Prop):wY n k=k n:=by cases n<;>simp only [wY,bT]
theorem jL(b:Bool)(k:Bool→Prop):qX b k=k b:=by cases b<;>rfl
def L6(x:FC)(k:FC→Prop):Prop:=match x with
 | .bool b=>qX b fun b=>k (.bool b)
 | .int j n=>wY n fun n=>k (.int j n)
 | .fp cs o=>bM o fun o=>k (.fp cs o)
 | .fs cs l=>bM l fun l=>k (.fs cs l)
 | x=>k x
theorem Qv(x:FC)(k:FC→Prop):L6 x k=k x:=by cases x<;>simp only [L6,bT,Dv,jL]
def xg(x:C)(k:C→Prop):Prop:=match x with
 | .f x=>L6 x fun x=>k (.f x)
 | .ptr b o e=>bM b fun b=>bM o fun o=>bM e fun e=>k (.ptr b o e)
 | .sl b o l c e s=>bM b fun b=>bM o fun o=>bM l fun l=>bM c fun c=>bM e fun e=>bM s fun s=>k (.sl b o l c e s)
 | x=>k x
theorem wZ(x:C)(k:C→Prop):xg x k=k x:=by cases x<;>simp only [xg,bT,Qv]
def qW(xs:List C):(List C→Prop)→Prop:=
 List.rec (motive:=fun _=>(List C→Prop)→Prop) (fun k=>k []) (fun x _ ih k=>xg x fun x=>ih fun xs=>k (x::xs)) xs
theorem oJ:∀(xs:List C) (k:List C→Prop),qW xs k=k xs
 | [],k=>rfl
 | x::xs,k=>by
  show xg x (fun x=>qW xs fun xs=>k (x::xs))=_
  rw [wZ,oJ xs]
def yU(v:V)(k:V→Prop):Prop:=match v with
 | .c x=>xg x fun x=>k (.c x)
 | .a xs=>qW xs fun xs=>k (.a xs)
 | v=>k v
theorem LZ(v:V)(k:V→Prop):yU v k=k v:=by cases v<;>simp only [yU,wZ,oJ]
def EO(xs:List V):(List V→Prop)→Prop:=
 List.rec (motive:=fun _=>(List V→Prop)→Prop) (fun k=>k []) (fun x _ ih k=>yU x fun x=>ih fun xs=>k (x::xs)) xs
theorem Ae:∀(xs:List V) (k:List V→Prop),EO xs k=k xs
 | [],k=>rfl
 | x::xs,k=>by
  show yU x (fun x=>EO xs fun xs=>k (x::xs))=_
  rw [LZ,Ae xs]
def pI(v:V)(k:V→Prop):Prop:=match v with
 | .c x=>xg x fun x=>k (.c x)
 | .a xs=>qW xs fun xs=>k (.a xs)
 | .t vs=>EO vs fun vs=>k (.t vs)
 | .top=>k .top
theorem wX(v:V)(k:V→Prop):pI v k=k v:=by cases v<;>simp only [pI,wZ,oJ,Ae]
def wW(x:Blk)(k:Blk→Prop):Prop:=match x with
 | .box cs fl=>qW cs fun cs=>bM fl fun fl=>k (.box cs fl)
 | .opn sz cs fl e st=>qW cs fun cs=>bM fl fun fl=>bM e fun e=>k (.opn sz cs fl e st)
 | .it s p=>bM p fun p=>k (.it s p)
 | x=>k x
theorem Du(x:Blk)(k:Blk→Prop):wW x k=k x:=by cases x<;>simp only [wW,bT,oJ]
def G6(p:P):T→(V→Prop)→Prop:=
 P.rec (motive:=fun _=>T→(V→Prop)→Prop)
  (fun t k=>T.rec (motive:=fun _=>Prop) (k .top) (fun _ v _ _ _=>k v) t)
  (fun _ ih t k=>T.rec (motive:=fun _=>Prop) (k .top) (fun l _ _ _ _=>ih l k) t)
  (fun _ ih t k=>T.rec (motive:=fun _=>Prop) (k .top) (fun _ _ r _ _=>ih r k) t) p
theorem rY:∀(p:P) (t:T) (k:V→Prop),G6 p t k=k (t.get p)
 | .h,.e,k=>rfl
 | .h,.n _ _ _,k=>rfl
 | .o p,.e,k=>rfl
 | .o p,.n l _ _,k=>rY p l k
 | .i p,.e,k=>rfl
 | .i p,.n _ _ r,k=>rY p r k
def asO(p:P)(w:V):T→(T→Prop)→Prop:=
 P.rec (motive:=fun _=>T→(T→Prop)→Prop)
  (fun t k=>T.rec (motive:=fun _=>Prop) (k (.n .e w .e)) (fun l _ r _ _=>k (.n l w r)) t)
  (fun _ ih t k=>T.rec (motive:=fun _=>Prop) (ih .e fun l=>k (.n l .top .e)) (fun l v r _ _=>ih l fun l=>k (.n l v r)) t)
  (fun _ ih t k=>T.rec (motive:=fun _=>Prop) (ih .e fun r=>k (.n .e .top r)) (fun l v r _ _=>ih r fun r=>k (.n l v r)) t) p
theorem rQ(w:V):∀(p:P) (t:T) (k:T→Prop),asO p w t k=k (t.set p w)
 | .h,.e,k=>rfl
 | .h,.n _ _ _,k=>rfl
 | .o p,.e,k=>rQ w p .e _
 | .o p,.n l _ _,k=>rQ w p l _
 | .i p,.e,k=>rQ w p .e _
 | .i p,.n _ _ r,k=>rQ w p r _
def evK(x:Arg)(r:T)(k:V→Prop):Prop:=Arg.rec (motive:=fun _=>Prop) (fun p=>G6 p r k) (fun v=>k v) x
theorem dV(x:Arg)(r:T)(k:V→Prop):evK x r k=k (x.ev r):=by cases x;exact rY _ _ _;rfl
def Hu(xs:List Arg)(r:T):(List V→Prop)→Prop:=
 List.rec (motive:=fun _=>(List V→Prop)→Prop) (fun k=>k []) (fun x _ ih k=>evK x r fun v=>ih fun vs=>k (v::vs)) xs
theorem vT(r:T):∀(xs:List Arg) (k:List V→Prop),Hu xs r k=k (dZ r xs)
 | [],k=>rfl
 | x::xs,k=>by
  show evK x r (fun v=>Hu xs r fun vs=>k (v::vs))=_
  rw [dV,vT r xs];rfl
def aFr(d:Option P)(r:T)(v:V)(k:T→Prop):Prop:=Option.rec (motive:=fun _=>Prop) (k r) (fun d=>asO d v r k) d
theorem Oc(d:Option P)(r:T)(v:V)(k:T→Prop):aFr d r v k=k (lY r d v):=by cases d;rfl;exact rQ _ _ _ _
def yN(ps:List P):List V→T→(T→Prop)→Prop:=
 List.rec (motive:=fun _=>List V→T→(T→Prop)→Prop) (fun _ r k=>k r)
  (fun p _ ih vs r k=>List.rec (motive:=fun _=>Prop) (k r) (fun v vs _=>asO p v r fun r=>ih vs r k) vs) ps
theorem tV:∀(ps:List P) (vs:List V) (r:T) (k:T→Prop),yN ps vs r k=k (dI ps vs r)
 | [],vs,r,k=>by cases vs<;>rfl
 | p::ps,[],r,k=>rfl
 | p::ps,v::vs,r,k=>by
  show asO p v r (fun r=>yN ps vs r k)=_
  rw [rQ,tV ps];rfl
def av5{α:Type}(n:Nat):List α→(α→Prop)→Prop:=
 Nat.rec (motive:=fun _=>List α→(α→Prop)→Prop) (fun xs k=>List.rec (motive:=fun _=>Prop) False (fun x _ _=>k x) xs)
  (fun _ ih xs k=>List.rec (motive:=fun _=>Prop) False (fun _ xs _=>ih xs k) xs) n
theorem yQ{α:Type}:∀ {n:Nat} {xs:List α} {k:α→Prop},av5 n xs k→∃ x,xs[n]?=some x∧k x
 | 0,[],_,h=>h.elim
 | 0,x::_,_,h=>⟨x,rfl,h⟩
 | n+1,[],_,h=>h.elim
 | n+1,_::xs,k,h=>yQ (n:=n) (xs:=xs) (k:=k) h
def Aj{α:Type}(n:Nat):List α→(List α→Prop)→Prop:=
 Nat.rec (motive:=fun _=>List α→(List α→Prop)→Prop) (fun xs k=>k xs)
  (fun _ ih xs k=>List.rec (motive:=fun _=>Prop) (k []) (fun _ xs _=>ih xs k) xs) n
theorem rD{α:Type}:∀(n:Nat) (xs:List α) (k:List α→Prop),Aj n xs k=k (xs.drop n)
 | 0,xs,k=>rfl
 | n+1,[],k=>rfl
 | n+1,_::xs,k=>rD n xs k
def xq{α:Type}(n:Nat):List α→(List α→Prop)→Prop:=
 Nat.rec (motive:=fun _=>List α→(List α→Prop)→Prop) (fun xs k=>k xs)
  (fun _ ih xs k=>List.rec (motive:=fun _=>Prop) False (fun _ xs _=>ih xs k) xs) n
theorem kW{α:Type}:∀ {n:Nat} {xs:List α} {k:List α→Prop},xq n xs k→n≤xs.length∧k (xs.drop n)
 | 0,xs,k,h=>⟨by simp,h⟩
 | n+1,[],k,h=>h.elim
 | n+1,x::xs,k,h=>by
  obtain⟨h1,h2⟩:=kW (n:=n) (xs:=xs) (k:=k) h;exact⟨by simp;omega,h2⟩
def pV{α:Type}(n:Nat):List α→(List α→Prop)→Prop:=
 Nat.rec (motive:=fun _=>List α→(List α→Prop)→Prop) (fun _ k=>k [])
  (fun _ ih xs k=>List.rec (motive:=fun _=>Prop) False (fun x xs _=>ih xs fun ys=>k (x::ys)) xs) n
theorem iY{α:Type}:∀ {n:Nat} {xs:List α} {k:List α→Prop},pV n xs k→n≤xs.length∧k (xs.take n)
 | 0,xs,k,h=>⟨by simp,by have h':k []:=h;simpa using h'⟩
 | n+1,[],k,h=>h.elim
 | n+1,x::xs,k,h=>by
  obtain⟨h1,h2⟩:=iY (n:=n) (xs:=xs) (k:=fun ys=>k (x::ys)) h
  exact⟨by simp;omega,by simpa using h2⟩
def aMl{α:Type}(xs:List α):List α→(List α→Prop)→Prop:=
 List.rec (motive:=fun _=>List α→(List α→Prop)→Prop) (fun cs k=>k cs)
  (fun x _ ih cs k=>List.rec (motive:=fun _=>Prop) False (fun _ cs _=>ih cs fun ys=>k (x::ys)) cs) xs
theorem Oz{α:Type}:∀ {xs cs:List α} {k:List α→Prop},aMl xs cs k→xs.length≤cs.length∧k (xs++cs.drop xs.length)
 | [],cs,k,h=>⟨by simp,by have h':k cs:=h;simpa using h'⟩
 | x::xs,[],k,h=>h.elim
 | x::xs,c::cs,k,h=>by
  obtain⟨h1,h2⟩:=Oz (xs:=xs) (cs:=cs) (k:=fun ys=>k (x::ys)) h
  exact⟨by simp;omega,by simpa using h2⟩
def zL{α:Type}(xs:List α)(off:Nat):List α→(List α→Prop)→Prop:=
 Nat.rec (motive:=fun _=>List α→(List α→Prop)→Prop) (fun cs k=>aMl xs cs k)
  (fun _ ih cs k=>List.rec (motive:=fun _=>Prop) False (fun c cs _=>ih cs fun ys=>k (c::ys)) cs) off
theorem oC{α:Type}{xs:List α}:∀ {off:Nat} {cs:List α} {k:List α→Prop},zL xs off cs k→off+xs.length≤cs.length∧k (over cs off xs)
 | 0,cs,k,h=>by
  obtain⟨h1,h2⟩:=Oz (xs:=xs) (cs:=cs) (k:=k) h
  exact⟨by omega,by simpa [over]using h2⟩
 | n+1,[],k,h=>h.elim
 | n+1,c::cs,k,h=>by
  obtain⟨h1,h2⟩:=oC (off:=n) (cs:=cs) (k:=fun ys=>k (c::ys)) h
  refine⟨by simp;omega,?_⟩
  have:n+1+xs.length=(n+xs.length)+1:=by omega
  simpa [over,this]using h2
def aI1{α:Type}(xs ys:List α):(List α→Prop)→Prop:=
 List.rec (motive:=fun _=>(List α→Prop)→Prop) (fun k=>k ys) (fun x _ ih k=>ih fun zs=>k (x::zs)) xs
theorem EY{α:Type}(ys:List α):∀(xs:List α) (k:List α→Prop),aI1 xs ys k=k (xs++ys)
 | [],k=>rfl
 | x::xs,k=>EY ys xs fun zs=>k (x::zs)
def fzK(zs:List FC):(List C→Prop)→Prop:=
 List.rec (motive:=fun _=>(List C→Prop)→Prop) (fun k=>k []) (fun z _ ih k=>ih fun cs=>k (.f z::cs)) zs
theorem wV:∀(zs:List FC) (k:List C→Prop),fzK zs k=k (zs.map .f)
 | [],k=>rfl
 | z::zs,k=>wV zs fun cs=>k (.f z::cs)
def ltB:Int→Int→Bool
 | .ofNat a,.ofNat b=>Nat.ble (Nat.succ a) b
 | .ofNat _,.negSucc _=>false
 | .negSucc _,.ofNat _=>true
 | .negSucc a,.negSucc b=>Nat.ble (Nat.succ b) a
theorem EJ(x y:Int):ltB x y=decide (x<y):=by
 have e:∀ n:Nat,Int.ofNat n=(n:Int):=fun _=>rfl
 cases x<;>cases y<;>simp only [ltB]<;>rw [Bool.eq_iff_iff]<;>simp only [Nat.ble_eq,decide_eq_true_eq,aw,false_iff,true_iff,e,Nat.succ_eq_add_one]<;>omega
def eqB:Int→Int→Bool
 | .ofNat a,.ofNat b=>Nat.beq a b
 | .negSucc a,.negSucc b=>Nat.beq a b
 | _,_=>false
theorem WL(x y:Int):eqB x y=(x == y):=by
 have e:∀ n:Nat,Int.ofNat n=(n:Int):=fun _=>rfl
 cases x<;>cases y<;>simp only [eqB]<;>rw [Bool.eq_iff_iff]<;>simp only [Nat.beq_eq,beq_iff_eq,aw,false_iff,e]<;>omega
def CB(j:IntKind)(n:Int)(k:Int→Prop):Prop:=match j with
 | .i64=>Int.rec (motive:=fun _=>Prop)
   (fun n=>bM n fun n=>Bool.rec (motive:=fun _=>Prop) (wY (IntKind.i64.wrap (.ofNat n)) k) (k (.ofNat n)) (Nat.ble n 9223372036854775807))
   (fun n=>bM n fun n=>Bool.rec (motive:=fun _=>Prop) (wY (IntKind.i64.wrap (.negSucc n)) k) (k (.negSucc n)) (Nat.ble n 9223372036854775807)) n
 | j=>wY (j.wrap n) k
theorem wrap64_in{n:Int}(h1:-9223372036854775808≤n)(h2:n≤9223372036854775807):IntKind.i64.wrap n=n:=by
 simp only [IntKind.wrap,IntKind.bits,IntKind.signed];have e1:(2 ^ 64:Int)=18446744073709551616:=by decide
 have e2:(2 ^ (64-1):Int)=9223372036854775808:=by decide
 simp only [e1,e2,Bool.true_and,decide_eq_true_eq];split<;>omega
theorem uF(j:IntKind)(n:Int)(k:Int→Prop):CB j n k=k (j.wrap n):=by
 cases j<;>simp only [CB,Dv]
 cases n with
 | ofNat n=>
  simp only [bT]
  cases h:Nat.ble n 9223372036854775807 with
  | false=>rfl
  | true=>
   have:=cJ h;have e:Int.ofNat n=(n:Int):=rfl
   rw [wrap64_in (by rw [e];omega) (by rw [e];omega)]
 | negSucc n=>
  simp only [bT]
  cases h:Nat.ble n 9223372036854775807 with
  | false=>rfl
  | true=>
   have:=cJ h;rw [wrap64_in (by omega) (by omega)]
end
section
set_option linter.unusedVariables false
def jX(a b:Nat)(p:Prop):Prop:=Bool.rec (motive:=fun _=>Prop) False p (Nat.beq a b)
def yI(a b:Nat)(p:Prop):Prop:=Bool.rec (motive:=fun _=>Prop) False p (Nat.ble a b)
def yj(b:Bool)(p:Prop):Prop:=Bool.rec (motive:=fun _=>Prop) False p b
def wO{α:Type}(o:Option α)(k:α→Prop):Prop:=Option.rec (motive:=fun _=>Prop) False k o
theorem dM{a b:Nat}{p:Prop}(h:jX a b p):a=b∧p:=by
 unfold jX at h
 cases e:Nat.beq a b with
 | false=>rw [e]at h;exact h.elim
 | true=>rw [e]at h;exact⟨cW e,h⟩
theorem jQ{a b:Nat}{p:Prop}(h:yI a b p):a≤b∧p:=by
 unfold yI at h
 cases e:Nat.ble a b with
 | false=>rw [e]at h;exact h.elim
 | true=>rw [e]at h;exact⟨cJ e,h⟩
theorem rE{b:Bool}{p:Prop}(h:yj b p):b=true∧p:=by cases b;exact h.elim;exact⟨rfl,h⟩
theorem nG{α:Type}{o:Option α}{k:α→Prop}(h:wO o k):∃ x,o=some x∧k x:=by cases o;exact h.elim;exact⟨_,rfl,h⟩
def sW(x:Blk)(t:HT)(n:Nat)(k:HT→Nat→Prop):Prop:=E8 x t n fun t=>bM (Nat.succ n) fun n=>k t n
theorem jT{H:Heap}{t:HT}(h:dO H t){x:Blk}{k:HT→Nat→Prop}(hk:sW x t H.length k):∃ t',dO (H++[x]) t'∧k t' (H++[x]).length:=by
 obtain⟨t',h1,h2⟩:=QJ hk;rw [bT]at h2;exact⟨t',h.push h1,by simpa using h2⟩
theorem fG{H:Heap}{t:HT}(h:dO H t){b:Nat}{x:Blk}{k:HT→Prop}(hk:jC x t b k):∃ t',dO (H.set b x) t'∧k t':=by
 obtain⟨t',h1,h2,h3⟩:=Xe hk;exact⟨t',h.set h1 h2,h3⟩
def aIX(e:Eff)(t:HT)(n:Nat)(k:HT→Nat→Prop):Prop:=
 Eff.rec (motive:=fun _=>Prop) (k t n) (fun b x=>wW x fun x=>jC x t b fun t=>k t n) (fun x=>wW x fun x=>sW x t n k) e
theorem aw9{H:Heap}{t:HT}(h:dO H t){e:Eff}{k:HT→Nat→Prop}(hk:aIX e t H.length k):∃ t',dO (e.app H) t'∧k t' (e.app H).length:=by
 cases e with
 | no=>exact⟨t,h,hk⟩
 | set b x=>
  have hk:wW x fun x=>jC x t b fun t=>k t H.length:=hk
  rw [Du]at hk;obtain⟨t',h1,h2⟩:=fG h hk
  exact⟨t',h1,by simpa [Eff.app]using h2⟩
 | push x=>
  have hk:wW x fun x=>sW x t H.length k:=hk
  rw [Du]at hk;exact jT h hk
def aMV(op:AOp)(r:T)(t:HT)(n:Nat)(k:V→HT→Nat→Prop):Prop:=
 wO (Uz r t.get n op) fun r=>Prod.rec (motive:=fun _=>Prop) (fun v e=>pI v fun v=>aIX e t n (k v)) r
def OpS(op:AOp)(r:T)(m:HT→Nat→(V→HT→Nat→Prop)→Prop):Prop:=
 ∀(H:Heap) (t:HT) (k:V→HT→Nat→Prop),dO H t→m t H.length k→∃ v H' t',xOp r H op=some (v,H')∧dO H' t'∧k v t' H'.length
theorem awW(op:AOp)(r:T):OpS op r (aMV op r):=by
 intro H t k h hk;obtain⟨⟨v,e⟩,h1,h2⟩:=nG hk;have h2:pI v fun v=>aIX e t H.length (k v):=h2
 rw [wX]at h2;obtain⟨t',h3,h4⟩:=aw9 h h2;refine⟨v,e.app H,t',?_,h3,h4⟩;rw [h]at h1;rw [←D9,h1];rfl
def Au(v:V)(k:List C→Prop):Prop:=match v with
 | .c x=>k [x]
 | .a xs=>k xs
 | _=>False
theorem xu{v:V}{k:List C→Prop}(h:Au v k):∃ xs,v.cells?=some xs∧k xs:=by
 cases v with
 | c x=>exact⟨_,rfl,h⟩
 | a xs=>exact⟨_,rfl,h⟩
 | _=>exact h.elim
def Oe(n:Option Nat)(off:Nat)(cs:List C)(k:V→Prop):Prop:=
 Option.rec (motive:=fun _=>Prop) (av5 off cs fun c=>k (.c c)) (fun m=>Aj off cs fun cs=>pV m cs fun cs=>k (.a cs)) n
theorem zG{n:Option Nat}{off:Nat}{cs:List C}{k:V→Prop}(h:Oe n off cs k):∃ v,aS n (cs.drop off)=some v∧k v:=by
 cases n with
 | none=>
  obtain⟨c,h1,h2⟩:=yQ h;refine⟨.c c,?_,h2⟩;rw [←Nat.add_zero off,←aM]at h1
  cases e:cs.drop off with
  | nil=>rw [e]at h1;simp at h1
  | cons y ys=>rw [e]at h1;simp at h1;subst h1;rfl
 | some m=>
  have h:Aj off cs fun cs=>pV m cs fun cs=>k (.a cs):=h
  rw [rD]at h;obtain⟨h1,h2⟩:=iY h;exact⟨_,if_pos h1,h2⟩
def Ve(n:Option Nat)(off:Nat)(cs:List FC)(k:V→Prop):Prop:=
 Option.rec (motive:=fun _=>Prop) (av5 off cs fun c=>k (.c (.f c))) (fun m=>Aj off cs fun cs=>pV m cs fun cs=>fzK cs fun cs=>k (.a cs)) n
theorem PW{n:Option Nat}{off:Nat}{cs:List FC}{k:V→Prop}(h:Ve n off cs k):∃ v,aS n ((cs.drop off).map .f)=some v∧k v:=by
 cases n with
 | none=>
  obtain⟨c,h1,h2⟩:=yQ h;refine⟨.c (.f c),?_,h2⟩;rw [←Nat.add_zero off,←aM]at h1
  cases e:cs.drop off with
  | nil=>rw [e]at h1;simp at h1
  | cons y ys=>rw [e]at h1;simp at h1;subst h1;rfl
 | some m=>
  have h:Aj off cs fun cs=>pV m cs fun cs=>fzK cs fun cs=>k (.a cs):=h
  rw [rD]at h;obtain⟨h1,h2⟩:=iY h;rw [wV]at h2;refine⟨_,if_pos (by simpa using h1),?_⟩
  rw [←List.map_take];exact h2
def ldK(t:HT)(n:Option Nat)(x:V)(k:V→Prop):Prop:=match x with
 | .c (.ptr b off ep)=>jD b t fun blk=>match blk with
  | .box cs _=>Oe n off cs k
  | .opn _ cs _ e .loc=>jX ep e (Oe n off cs k)
  | _=>False
 | .c (.f (.fp cs off))=>Ve n off cs k
 | _=>False
theorem V3{H:Heap}{t:HT}(h:dO H t){n:Option Nat}{x:V}{k:V→Prop}(hk:ldK t n x k):∃ v,ldV H n x=some v∧k v:=by
 unfold ldK at hk;split at hk
 ·rename_i b off ep;obtain⟨blk,h1,h2⟩:=eu hk;rw [h]at h1;have h1:H[b]?=some blk:=h1;split at h2
  ·obtain⟨v,h3,h4⟩:=zG h2;exact⟨v,by simp [ldV,aG,h1,h3],h4⟩
  ·obtain⟨h5,h2⟩:=dM h2;obtain⟨v,h3,h4⟩:=zG h2;exact⟨v,by simp [ldV,aG,h1,h3,h5],h4⟩
  ·exact h2.elim
 ·obtain⟨v,h3,h4⟩:=PW hk;exact⟨v,by simp only [ldV,aG,bh,h3],h4⟩
 ·exact hk.elim
def stK(t:HT)(x:C)(xs:List C)(k:HT→Prop):Prop:=match x with
 | .ptr b off ep=>jD b t fun blk=>match blk with
  | .box cs fl=>yI fl off (zL xs off cs fun cs=>jC (.box cs fl) t b k)
  | .opn sz cs fl e .loc=>jX ep e (yI fl off (zL xs off cs fun cs=>jC (.opn sz cs fl e .loc) t b k))
  | _=>False
 | _=>False
theorem aEs{H:Heap}{t:HT}(h:dO H t){x:C}{xs:List C}{k:HT→Prop}(hk:stK t x xs k):∃ H' t',stC H x xs=some H'∧dO H' t'∧H'.length=H.length∧k t':=by
 unfold stK at hk;split at hk
 ·rename_i b off ep;obtain⟨blk,h1,h2⟩:=eu hk;rw [h]at h1;have h1:H[b]?=some blk:=h1;split at h2
  ·obtain⟨h3,h2⟩:=jQ h2;obtain⟨h4,h2⟩:=oC h2;obtain⟨t',h5,h6⟩:=fG h h2;exact⟨_,t',by simp [stC,h1,h3,h4],h5,by simp,h6⟩
  ·obtain⟨h0,h2⟩:=dM h2;obtain⟨h3,h2⟩:=jQ h2;obtain⟨h4,h2⟩:=oC h2;obtain⟨t',h5,h6⟩:=fG h h2;exact⟨_,t',by simp [stC,h1,h0,h3,h4],h5,by simp,h6⟩
  ·exact h2.elim
 ·exact hk.elim
def pY(op:BinOp)(j:IntKind)(x y:Int)(k:V→Prop):Prop:=match op with
 | .add=>CB j (Int.add x y) fun n=>k (.c (.f (.int j n)))
 | .sub=>CB j (Int.sub x y) fun n=>k (.c (.f (.int j n)))
 | .mul=>CB j (Int.mul x y) fun n=>k (.c (.f (.int j n)))
 | .eql=>qX (eqB x y) fun b=>k (.c (.f (.bool b)))
 | .neq=>qX (!eqB x y) fun b=>k (.c (.f (.bool b)))
 | .lss=>qX (ltB x y) fun b=>k (.c (.f (.bool b)))
 | .leq=>qX (!ltB y x) fun b=>k (.c (.f (.bool b)))
 | .gtr=>qX (ltB y x) fun b=>k (.c (.f (.bool b)))
 | .geq=>qX (!ltB x y) fun b=>k (.c (.f (.bool b)))
 | op=>wO (qp op j x y) fun v=>pI v k
theorem zO(x y:Int):(!decide (x<y))=decide (y≤x):=by
 rw [Bool.eq_iff_iff];simp
theorem Xh{op:BinOp}{j:IntKind}{x y:Int}{k:V→Prop}(h:pY op j x y k):∃ v,qp op j x y=some v∧k v:=by
 cases op
 case add=>simp only [pY,uF]at h;exact⟨_,rfl,h⟩
 case sub=>simp only [pY,uF]at h;exact⟨_,rfl,h⟩
 case mul=>simp only [pY,uF]at h;exact⟨_,rfl,h⟩
 case eql=>simp only [pY,jL,WL]at h;exact⟨_,rfl,h⟩
 case neq=>simp only [pY,jL,WL]at h;exact⟨_,rfl,h⟩
 case lss=>simp only [pY,jL,EJ]at h;exact⟨_,rfl,h⟩
 case leq=>simp only [pY,jL,EJ,zO]at h;exact⟨_,rfl,h⟩
 case gtr=>simp only [pY,jL,EJ]at h;exact⟨_,rfl,h⟩
 case geq=>simp only [pY,jL,EJ,zO]at h;exact⟨_,rfl,h⟩
 all_goals
  simp only [pY]at h;obtain⟨v,h1,h2⟩:=nG h;rw [wX]at h2;exact⟨v,h1,h2⟩
def V6(j j':IntKind)(p:Prop):Prop:=match j,j' with
 | .i64,.i64=>p
 | j,j'=>yj (decide (j=j')) p
theorem V5{j j':IntKind}{p:Prop}(h:V6 j j' p):j=j'∧p:=by
 unfold V6 at h;split at h
 ·exact⟨rfl,h⟩
 ·obtain⟨h1,h2⟩:=rE h;exact⟨of_decide_eq_true h1,h2⟩
def Xg(op:BinOp)(x y:V)(k:V→Prop):Prop:=match x,y with
 | .c (.f (.int j a)),.c (.f (.int j' b))=>match op with
  | .shl=>wO (dG .shl x y) fun v=>pI v k
  | .shr=>wO (dG .shr x y) fun v=>pI v k
  | op=>V6 j j' (pY op j a b k)
 | x,y=>wO (dG op x y) fun v=>pI v k
theorem axg{op:BinOp}{x y:V}{k:V→Prop}(h:Xg op x y k):∃ v,dG op x y=some v∧k v:=by
 have gen:(wO (dG op x y) fun v=>pI v k)→∃ v,dG op x y=some v∧k v:=by
  intro h;obtain⟨v,h1,h2⟩:=nG h;rw [wX]at h2;exact⟨v,h1,h2⟩
 unfold Xg at h;split at h
 ·rename_i j a j' b;split at h
  ·exact gen h
  ·exact gen h
  ·rename_i h1 h2;obtain⟨e,h'⟩:=V5 h;subst e;obtain⟨v,h3,h4⟩:=Xh h';refine⟨v,?_,h4⟩;cases op<;>first | exact absurd rfl h1 | exact absurd rfl h2 | (simp only [dG,if_true];exact h3)
 ·exact gen h
def aH4(v:V)(k:Nat→Prop):Prop:=match v with
 | .c (.f (.int _ (.ofNat m)))=>k m
 | _=>False
theorem av9{v:V}{k:Nat→Prop}(h:aH4 v k):∃ m,gW v=some (Int.ofNat m)∧k m:=by
 unfold aH4 at h;split at h
 ·exact⟨_,rfl,h⟩
 ·exact h.elim
def V9(t:HT)(sz:Nat)(arr:Option Nat)(x i:V)(k:V→Prop):Prop:=aH4 i fun m=>match arr with
 | none=>match x with
  | .c (.sl b o l _ ep s)=>yI (Nat.succ m) l (jD b t fun blk=>match blk with
   | .box _ _=>bM (Nat.add o (Nat.mul m sz)) fun o=>k (.c (.ptr b o ep))
   | .opn s' _ _ e .loc=>jX ep e (jX s s' (bM (Nat.add o (Nat.mul m sz)) fun o=>k (.c (.ptr b o ep))))
   | _=>False)
  | .c (.f (.fs cs l))=>yI (Nat.succ m) l (bM (Nat.mul m sz) fun o=>k (.c (.f (.fp cs o))))
  | _=>False
 | some n=>match x with
  | .c (.ptr b o ep)=>yI (Nat.succ m) n (bM (Nat.add o (Nat.mul m sz)) fun o=>k (.c (.ptr b o ep)))
  | .c (.f (.fp cs o))=>yI (Nat.succ m) n (bM (Nat.add o (Nat.mul m sz)) fun o=>k (.c (.f (.fp cs o))))
  | _=>False
theorem Qq{H:Heap}{t:HT}(h:dO H t){sz:Nat}{arr:Option Nat}{x i:V}{k:V→Prop}(hk:V9 t sz arr x i k):∃ v,aO H sz arr x i=some v∧k v:=by
 obtain⟨m,hi,hk⟩:=av9 hk;have h0:(0:Int)≤Int.ofNat m:=Int.natCast_nonneg m;have hlt:∀ l:Nat,Nat.succ m≤l→Int.ofNat m<(l:Int):=fun l hl=>Int.ofNat_lt.2 hl
 have hto:(Int.ofNat m).toNat=m:=rfl;simp only at hk;split at hk
 ·split at hk
  ·rename_i b o l cap ep s _;obtain⟨h1,hk⟩:=jQ hk;obtain⟨blk,h2,h3⟩:=eu hk;rw [h]at h2;have h2:H[b]?=some blk:=h2;split at h3
   ·rw [bT]at h3;exact⟨_,by simp only [aO,hi,if_pos h0,if_pos (hlt _ h1),h2,hto];rfl,h3⟩
   ·obtain⟨h4,h3⟩:=dM h3;obtain⟨h5,h3⟩:=dM h3;rw [bT]at h3;exact⟨_,by simp only [aO,hi,if_pos h0,if_pos (hlt _ h1),h2,hto,h4,h5,and_self,if_true];rfl,h4▸h3⟩
   ·exact h3.elim
  ·obtain⟨h1,hk⟩:=jQ hk;rw [bT]at hk;exact⟨_,by simp only [aO,hi,if_pos h0,if_pos (hlt _ h1),hto];rfl,hk⟩
  ·exact hk.elim
 ·split at hk
  ·obtain⟨h1,hk⟩:=jQ hk;rw [bT]at hk;exact⟨_,by simp only [aO,hi,if_pos h0,if_pos (hlt _ h1),hto];rfl,hk⟩
  ·obtain⟨h1,hk⟩:=jQ hk;rw [bT]at hk;exact⟨_,by simp only [aO,hi,if_pos h0,if_pos (hlt _ h1),hto];rfl,hk⟩
  ·exact hk.elim
def aId(t:HT)(x:V)(k:Nat→Prop):Prop:=match x with
 | .c (.sl b _ l _ ep sz)=>jD b t fun blk=>match blk with
  | .box _ _=>k l
  | .opn s _ _ e _=>jX ep e (jX sz s (k l))
  | _=>False
 | .c (.f .au)=>k 0
 | .c (.f .es)=>k 0
 | .c (.f (.fs _ l))=>k l
 | _=>False
theorem awi{H:Heap}{t:HT}(h:dO H t){x:V}{k:Nat→Prop}(hk:aId t x k):∃ y n,x=.c y∧bV H y=some n∧k n:=by
 unfold aId at hk;split at hk
 ·rename_i b o l cap ep sz;obtain⟨blk,h2,h3⟩:=eu hk;rw [h]at h2;have h2:H[b]?=some blk:=h2;split at h3
  ·exact⟨_,l,rfl,by simp [bV,h2],h3⟩
  ·obtain⟨h4,h3⟩:=dM h3;obtain⟨h5,h3⟩:=dM h3;exact⟨_,l,rfl,by simp [bV,h2,h4,h5],h3⟩
  ·exact h3.elim
 ·exact⟨_,0,rfl,rfl,hk⟩
 ·exact⟨_,0,rfl,rfl,hk⟩
 ·exact⟨_,_,rfl,rfl,hk⟩
 ·exact hk.elim
def KH(r:T)(ps:List (Nat × Nat × Arg)):List C→(List C→Prop)→Prop:=
 List.rec (motive:=fun _=>List C→(List C→Prop)→Prop) (fun cs k=>k cs)
  (fun p _ ih cs k=>Prod.rec (motive:=fun _=>Prop) (fun off q=>Prod.rec (motive:=fun _=>Prop) (fun n x=>evK x r fun v=>Au v fun xs=>jX xs.length n (zL xs off cs fun cs=>ih cs k)) q) p) ps
theorem CS(r:T):∀ {ps:List (Nat × Nat × Arg)} {cs:List C} {k:List C→Prop},KH r ps cs k→∃ cs',eF r cs ps=some cs'∧k cs'
 | [],cs,k,h=>⟨cs,rfl,h⟩
 | (off,n,x)::ps,cs,k,h=>by
  have h:evK x r fun v=>Au v fun xs=>jX xs.length n (zL xs off cs fun cs=>KH r ps cs k):=h
  rw [dV]at h;obtain⟨xs,h1,h⟩:=xu h;obtain⟨h2,h⟩:=dM h;obtain⟨h3,h⟩:=oC h;obtain⟨cs',h4,h5⟩:=CS r h;exact⟨cs',by simp [eF,h1,h2,h4]at h3 ⊢;omega,h5⟩
def MP(t:HT)(sz:Nat)(y:V)(k:Nat→List C→Prop):Prop:=match y with
 | .c (.f .au)=>k 0 []
 | .c (.f .es)=>k 0 []
 | .c (.f (.fs cs l))=>jX cs.length (Nat.mul l sz) (fzK cs fun cs=>k l cs)
 | .c (.sl b o l _ ep s)=>jD b t fun blk=>match blk with
  | .box cs _=>xq o cs fun cs=>pV (Nat.mul l sz) cs fun cs=>k l cs
  | .opn s' cs _ e _=>jX ep e (jX s s' (jX s' sz (xq o cs fun cs=>pV (Nat.mul l sz) cs fun cs=>k l cs)))
  | _=>False
 | y=>wO (vU t.get sz y) fun r=>Prod.rec (motive:=fun _=>Prop) (fun n cs=>qW cs fun cs=>k n cs) r
theorem QO{H:Heap}{t:HT}(h:dO H t){sz:Nat}{y:V}{k:Nat→List C→Prop}(hk:MP t sz y k) :
  ∃ n cs,eY H sz y=some (n,cs)∧k n cs:=by
 unfold MP at hk;split at hk
 ·exact⟨0,[],rfl,hk⟩
 ·exact⟨0,[],rfl,hk⟩
 ·rename_i cs l;obtain⟨h1,hk⟩:=dM hk;rw [wV]at hk;have h1:cs.length=l*sz:=h1;exact⟨l,_,by simp only [eY,bV,dF,h1,if_true],hk⟩
 ·rename_i b o l cap ep s;obtain⟨blk,h2,h3⟩:=eu hk;rw [h]at h2;have h2:H[b]?=some blk:=h2;split at h3
  ·obtain⟨h8,h3⟩:=kW h3;obtain⟨h4,h5⟩:=iY h3;have h4:l*sz≤_:=h4;rw [cf]at h4;refine⟨l,_,?_,h5⟩;simp only [eY,bV,dF,h2];rw [if_pos (by omega)];rfl
  ·obtain⟨h4,h3⟩:=dM h3;obtain⟨h5,h3⟩:=dM h3;obtain⟨h6,h3⟩:=dM h3;obtain⟨h8,h3⟩:=kW h3;obtain⟨h9,h7⟩:=iY h3;have h9:l*sz≤_:=h9;rw [cf]at h9;subst h4 h5 h6;refine⟨l,_,?_,h7⟩;simp only [eY,bV,dF,h2,and_self,if_true];rw [if_pos ⟨trivial,trivial,by omega⟩];rfl
  ·exact h3.elim
 ·obtain⟨⟨n,cs⟩,h1,h2⟩:=nG hk;have h2:qW cs fun cs=>k n cs:=h2
  rw [oJ]at h2;rw [h,uz]at h1;exact⟨n,cs,h1,h2⟩
def Gj(need bytes:Nat)(p:Prop):Prop:=yI (Nat.mul (Nat.add (Nat.mul 2 need) 768) bytes) 281474976710656 (yI (Nat.succ need) 281474976710656 p)
theorem uN{need bytes:Nat}{p:Prop}(h:Gj need bytes p):bK need bytes=true∧p:=by
 obtain⟨h1,h⟩:=jQ h;obtain⟨h2,h⟩:=jQ h;refine⟨?_,h⟩;have e:(2:Nat) ^ 48=281474976710656:=by decide
 simp only [bK,ag,decide_eq_true_eq,e];exact⟨h1,h2⟩
def aNh(t:HT)(n:Nat)(sz bytes:Nat)(x y:V)(k:V→HT→Nat→Prop):Prop:=
 MP t sz y fun m ys=>Nat.rec (motive:=fun _=>Prop) False (fun _ _=>match x with
  | .c (.f .au)=>Nat.rec (motive:=fun _=>Prop) (k (.c (.f .au)) t n) (fun _ _=>Gj m bytes (bM m fun m=>sW (.opn sz ys 0 0 .loc) t n fun t n'=>k (.c (.sl n 0 m 0 0 sz)) t n')) m
  | .c (.f .es)=>Nat.rec (motive:=fun _=>Prop) (k (.c (.f .es)) t n) (fun _ _=>Gj m bytes (bM m fun m=>sW (.opn sz ys 0 0 .loc) t n fun t n'=>k (.c (.sl n 0 m 0 0 sz)) t n')) m
  | .c (.sl b o l cap ep s)=>jD b t fun blk=>match blk with
   | .box cs fl=>Bool.rec (motive:=fun _=>Prop)
     (bM (Nat.add l m) fun lm=>Gj lm bytes (xq o cs fun cs=>pV (Nat.mul l sz) cs fun cs=>aI1 cs ys fun cs=>sW (.opn sz cs 0 0 .loc) t n fun t n'=>k (.c (.sl n 0 lm 0 0 sz)) t n'))
     (bM (Nat.add l m) fun lm=>yI fl (Nat.add o (Nat.mul l sz)) (zL ys (Nat.add o (Nat.mul l sz)) cs fun cs=>jC (.box cs fl) t b fun t=>k (.c (.sl b o lm cap ep s)) t n))
     (Nat.ble (Nat.add l m) cap)
   | .opn s' cs fl e st=>jX ep e (jX s' sz (jX s sz (Nat.rec (motive:=fun _=>Prop) (k x t n) (fun _ _=>
     bM (Nat.add l m) fun lm=>Bool.rec (motive:=fun _=>Prop)
      (match st with
       | .loc=>yI fl (Nat.add o (Nat.mul l sz)) (zL ys (Nat.add o (Nat.mul l sz)) cs fun cs=>jC (.opn sz cs fl e .loc) t b fun t=>k (.c (.sl b o lm 0 ep sz)) t n)
       | _=>False)
      (Gj lm bytes (bM (Nat.succ e) fun e'=>aI1 cs ys fun cs=>jC (.opn sz cs fl e' .loc) t b fun t=>k (.c (.sl b 0 lm 0 e' sz)) t n))
      (and (and (Nat.beq o 0) (Nat.beq (Nat.mul l sz) cs.length)) (Nat.ble fl cs.length))) m)))
   | _=>False
  | _=>False) sz
theorem axk{H:Heap}{t:HT}(h:dO H t){sz bytes:Nat}{x y:V}{k:V→HT→Nat→Prop}(hk:aNh t H.length sz bytes x y k) :
  ∃ v H' t',dn H sz bytes x y=some (v,H')∧dO H' t'∧k v t' H'.length:=by
 obtain⟨m,ys,ha,hk⟩:=QO h hk;unfold dn;rw [ha]
 cases sz with
 | zero=>exact hk.elim
 | succ sz'=>
  simp only at hk ⊢;rw [if_neg (by omega)]
  split at hk
  ·cases m with
   | zero=>exact⟨_,H,t,rfl,h,hk⟩
   | succ m'=>
    simp only at hk;obtain⟨h1,hk⟩:=uN hk;rw [bT]at hk;obtain⟨t',h2,h3⟩:=jT h hk;exact⟨_,_,t',by simp only [Nat.add_one_ne_zero,if_false,h1,if_true],h2,h3⟩
  ·cases m with
   | zero=>exact⟨_,H,t,rfl,h,hk⟩
   | succ m'=>
    simp only at hk;obtain⟨h1,hk⟩:=uN hk;rw [bT]at hk;obtain⟨t',h2,h3⟩:=jT h hk;exact⟨_,_,t',by simp only [Nat.add_one_ne_zero,if_false,h1,if_true],h2,h3⟩
  ·rename_i b o l cap ep s _;obtain⟨blk,h2,hk⟩:=eu hk;rw [h]at h2;have h2:H[b]?=some blk:=h2;simp only [h2];split at hk
   ·rename_i cs fl _;simp only
    cases hc:Nat.ble (Nat.add l m) cap with
    | false=>
     rw [hc]at hk;have hc':¬ (l+m≤cap):=fun e=>by have:=Nat.ble_eq_true_of_le e;rw [show Nat.ble (Nat.add l m) cap=Nat.ble (l+m) cap from rfl,this]at hc;cases hc
     simp only [bT]at hk;obtain⟨h3,hk⟩:=uN hk;obtain⟨h4,hk⟩:=kW hk;obtain⟨h5,hk⟩:=iY hk;rw [EY]at hk;obtain⟨t',h6,h7⟩:=jT h hk;rw [cf]at h5;have h5:l*(sz'+1)≤_:=h5;rw [if_neg hc',if_pos ⟨h3,by omega⟩]
     exact⟨_,_,t',rfl,h6,h7⟩
    | true=>
     rw [hc]at hk;have hc':l+m≤cap:=cJ hc;simp only [bT]at hk;obtain⟨h3,hk⟩:=jQ hk;obtain⟨h4,hk⟩:=oC hk;obtain⟨t',h6,h7⟩:=fG h hk;rw [if_pos hc',if_pos ⟨h3,h4⟩];exact⟨_,_,t',rfl,h6,by simpa using h7⟩
   ·rename_i s' cs fl e st _;simp only;obtain⟨h3,hk⟩:=dM hk;obtain⟨h4,hk⟩:=dM hk;obtain⟨h5,hk⟩:=dM hk;rw [if_pos ⟨h3,h4,h5⟩]
    cases m with
    | zero=>rw [if_pos rfl];exact⟨_,H,t,rfl,h,hk⟩
    | succ m'=>
     rw [if_neg (by omega)]
     simp only [bT]at hk
     cases hc:and (and (Nat.beq o 0) (Nat.beq (Nat.mul l (sz'+1)) cs.length)) (Nat.ble fl cs.length)with
     | true=>
      rw [hc]at hk;simp only [ag]at hc;have c1:=cW hc.1.1;have c2:=cW hc.1.2;have c3:=cJ hc.2;simp only at hk;obtain⟨h6,hk⟩:=uN hk;rw [EY]at hk;obtain⟨t',h7,h8⟩:=fG h hk;have h6:bK (l+(m'+1)) bytes=true:=h6;rw [if_pos ⟨c1,c2,c3⟩,if_pos h6];subst h3
      exact⟨_,_,t',rfl,h7,by simpa using h8⟩
     | false=>
      rw [hc]at hk
      have hn:¬ (o=0∧l*(sz'+1)=cs.length∧fl≤cs.length):=by
       rintro⟨c1,c2,c3⟩;rw [c1,show Nat.mul l (sz'+1)=cs.length from c2,Nat.ble_eq_true_of_le c3]at hc
       simp at hc
      rw [if_neg hn];simp only at hk;split at hk
      ·obtain⟨h6,hk⟩:=jQ hk;obtain⟨h7,hk⟩:=oC hk;obtain⟨t',h8,h9⟩:=fG h hk;rw [if_pos ⟨rfl,h6,h7⟩];exact⟨_,_,t',rfl,h8,by simpa using h9⟩
      ·exact hk.elim
   ·exact hk.elim
  ·exact hk.elim
end
section
set_option linter.unusedVariables false
abbrev iT:=Callee→List V→HT→Nat→(V→HT→Nat→Prop)→Prop
def wz(call:dD)(bf:iT):Prop:=
 ∀(c:Callee) (args:List V) (H:Heap) (t:HT) (k:V→HT→Nat→Prop),dO H t→bf c args t H.length k→∃ v H' t',call c args H=some (v,H')∧dO H' t'∧k v t' H'.length
def ES{α β:Type}(g:α→(β→Prop)→Prop)(xs:List α):(List β→Prop)→Prop:=
 List.rec (motive:=fun _=>(List β→Prop)→Prop) (fun k=>k []) (fun x _ ih k=>g x fun y=>ih fun ys=>k (y::ys)) xs
theorem kT{α β:Type}{g:α→(β→Prop)→Prop}{f:α→Option β}(hg:∀ x k,g x k→∃ y,f x=some y∧k y):∀ {xs:List α} {k:List β→Prop},ES g xs k→∃ ys,bC f xs=some ys∧k ys
 | [],k,h=>⟨[],rfl,h⟩
 | x::xs,k,h=>by
  obtain⟨y,h1,h⟩:=hg x _ h;obtain⟨ys,h2,h3⟩:=kT hg (xs:=xs) h;exact⟨y::ys,by simp [bC,h1,h2],h3⟩
def exK(t:HT)(m:Nat):C→(FC→Prop)→Prop:=
 Nat.rec (motive:=fun _=>C→(FC→Prop)→Prop) (fun x k=>match x with
   | .f y=>k y
   | _=>False)
  (fun _ ih x k=>match x with
   | .f y=>k y
   | .ptr b off _=>jD b t fun blk=>match blk with
    | .box cs _=>ES ih cs fun fs=>k (.fp fs off)
    | _=>False
   | .sl b o l _ ep sz=>jD b t fun blk=>match blk with
    | .box cs _=>xq o cs fun cs=>pV (Nat.mul l sz) cs fun cs=>ES ih cs fun fs=>k (.fs fs l)
    | .opn s cs _ e .loc=>jX ep e (jX sz s (xq o cs fun cs=>pV (Nat.mul l sz) cs fun cs=>ES ih cs fun fs=>k (.fs fs l)))
    | .opn s cs _ e .nil=>jX ep e (jX sz s (k .au))
    | .opn s cs _ e .es=>jX ep e (jX sz s (k .es))
    | _=>False
   | .cl f caps=>ES ih caps fun fs=>k (.fn f fs)
   | _=>False) m
theorem WG{H:Heap}{t:HT}(h:dO H t):∀(m:Nat) (x:C) (k:FC→Prop),exK t m x k→∃ y,exC m H x=some y∧k y:=by
 intro m
 induction m with
 | zero=>
  intro x k hk
  cases x with
  | f y=>exact⟨y,rfl,hk⟩
  | _=>exact hk.elim
 | succ m ih=>
  intro x k hk
  cases x with
  | f y=>exact⟨y,rfl,hk⟩
  | ptr b off ep=>
   obtain⟨blk,h1,h2⟩:=eu hk;rw [h]at h1;have h1:H[b]?=some blk:=h1
   cases blk with
   | box cs fl=>
    obtain⟨fs,h3,h4⟩:=kT ih h2
    exact⟨_,by simp only [exC,h1,h3];rfl,h4⟩
   | _=>exact h2.elim
  | sl b o l cap ep sz=>
   obtain⟨blk,h1,h2⟩:=eu hk;rw [h]at h1;have h1:H[b]?=some blk:=h1
   cases blk with
   | box cs fl=>
    obtain⟨h5,h2⟩:=kW h2;obtain⟨h6,h2⟩:=iY h2;obtain⟨fs,h3,h4⟩:=kT ih h2;rw [cf]at h6;have h6:l*sz≤_:=h6;have h3:bC (exC m H) ((cs.drop o).take (l*sz))=some fs:=h3
    exact⟨_,by simp only [exC,h1];rw [if_pos (by omega),h3];rfl,h4⟩
   | opn s cs fl e st=>
    cases st with
    | loc=>
     obtain⟨h7,h2⟩:=dM h2;obtain⟨h8,h2⟩:=dM h2;obtain⟨h5,h2⟩:=kW h2;obtain⟨h6,h2⟩:=iY h2;obtain⟨fs,h3,h4⟩:=kT ih h2;rw [cf]at h6;have h6:l*sz≤_:=h6;have h3:bC (exC m H) ((cs.drop o).take (l*sz))=some fs:=h3
     exact⟨_,by simp only [exC,h1];rw [if_pos ⟨h7,h8,by omega⟩,h3];rfl,h4⟩
    | nil=>
     obtain⟨h7,h2⟩:=dM h2;obtain⟨h8,h2⟩:=dM h2
     exact⟨_,by simp only [exC,h1];rw [if_pos ⟨h7,h8⟩],h2⟩
    | es=>
     obtain⟨h7,h2⟩:=dM h2;obtain⟨h8,h2⟩:=dM h2
     exact⟨_,by simp only [exC,h1];rw [if_pos ⟨h7,h8⟩],h2⟩
   | _=>exact h2.elim
  | cl f caps=>
   obtain⟨fs,h3,h4⟩:=kT ih hk
   exact⟨_,by simp only [exC,h3];rfl,h4⟩
  | _=>exact hk.elim
def OO(t:HT)(v:V)(k:V→Prop):Prop:=match v with
 | .c x=>exK t deep x fun y=>k (.c (.f y))
 | .a xs=>ES (exK t deep) xs fun ys=>fzK ys fun cs=>k (.a cs)
 | _=>False
theorem vN{H:Heap}{t:HT}(h:dO H t)(v:V)(k:V→Prop)(hk:OO t v k):∃ y,dB deep H v=some y∧k y:=by
 cases v with
 | c x=>
  obtain⟨y,h1,h2⟩:=WG h deep x _ hk
  exact⟨_,by simp only [dB,h1];rfl,h2⟩
 | a xs=>
  obtain⟨ys,h1,h2⟩:=kT (WG h deep) hk;rw [wV]at h2
  exact⟨_,by simp only [dB,h1];rfl,h2⟩
 | _=>exact hk.elim
def aMZ(t:HT)(v:V)(k:V→Prop):Prop:=match v with
 | .t vs=>ES (OO t) vs fun vs=>k (.t vs)
 | v=>OO t v k
theorem aw0{H:Heap}{t:HT}(h:dO H t)(v:V)(k:V→Prop)(hk:aMZ t v k):∃ y,exV deep H v=some y∧k y:=by
 cases v with
 | t vs=>
  obtain⟨ys,h1,h2⟩:=kT (vN h) hk
  exact⟨_,by simp only [exV,h1];rfl,h2⟩
 | c x=>exact vN h (.c x) k hk
 | a xs=>exact vN h (.a xs) k hk
 | top=>exact hk.elim
def Lc{α:Type}(g:α→HT→(HT→Prop)→Prop)(xs:List α):HT→(HT→Prop)→Prop:=
 List.rec (motive:=fun _=>HT→(HT→Prop)→Prop) (fun t k=>k t) (fun x _ ih t k=>g x t fun t=>ih t k) xs
def MkS{α:Type}(g:α→HT→(HT→Prop)→Prop)(f:Heap→α→Heap):Prop:=∀(x:α) (H:Heap) (t:HT) (k:HT→Prop),dO H t→g x t k→∃ t',dO (f H x) t'∧k t'
theorem o8{α:Type}{g:α→HT→(HT→Prop)→Prop}{f:Heap→α→Heap}(hg:MkS g f):∀(xs:List α) (H:Heap) (t:HT) (k:HT→Prop),dO H t→Lc g xs t k→∃ t',dO (xs.foldl f H) t'∧k t'
 | [],H,t,k,h,hk=>⟨t,h,hk⟩
 | x::xs,H,t,k,h,hk=>by
  obtain⟨t1,h1,h2⟩:=hg x H t _ h hk;exact o8 hg xs _ t1 k h1 h2
def mkK(m:Nat):C→HT→(HT→Prop)→Prop:=
 Nat.rec (motive:=fun _=>C→HT→(HT→Prop)→Prop) (fun _ t k=>k t)
  (fun _ ih x t k=>match x with
   | .f _=>k t
   | .ptr b _ _=>jD b t fun blk=>match blk with
    | .box cs fl=>bM (Nat.max fl cs.length) fun fl=>jC (.box cs fl) t b fun t=>Lc ih cs t k
    | _=>k t
   | .sl b o l _ _ sz=>jD b t fun blk=>match blk with
    | .box cs fl=>bM (Nat.max fl (Nat.add o (Nat.mul l sz))) fun fl=>jC (.box cs fl) t b fun t=>Aj o cs fun cs=>pV (Nat.mul l sz) cs fun cs=>Lc ih cs t k
    | .opn s cs fl e st=>bM (Nat.max fl (Nat.add o (Nat.mul l sz))) fun fl=>jC (.opn s cs fl e st) t b fun t=>Aj o cs fun cs=>pV (Nat.mul l sz) cs fun cs=>Lc ih cs t k
    | _=>k t
   | .cl _ caps=>Lc ih caps t k
   | _=>k t) m
theorem VO:∀(m:Nat),MkS (mkK m) (fun H x=>mkC m x H):=by
 intro m
 induction m with
 | zero=>intro x H t k h hk;exact⟨t,by cases x<;>exact h,hk⟩
 | succ m ih=>
  intro x H t k h hk
  cases x with
  | f y=>exact⟨t,h,hk⟩
  | ptr b off ep=>
   obtain⟨blk,h1,h2⟩:=eu hk;rw [h]at h1;have h1:H[b]?=some blk:=h1
   cases blk with
   | box cs fl=>
    change bM _ _ at h2;rw [bT]at h2;obtain⟨t1,h3,h4⟩:=fG h h2;simp only [mkC,h1]
    exact o8 ih cs _ t1 k h3 h4
   | _=>simp only [mkC,h1];exact⟨t,h,h2⟩
  | sl b o l cap ep sz=>
   obtain⟨blk,h1,h2⟩:=eu hk;rw [h]at h1;have h1:H[b]?=some blk:=h1
   cases blk with
   | box cs fl=>
    change bM _ _ at h2;rw [bT]at h2;obtain⟨t1,h3,h4⟩:=fG h h2;rw [rD]at h4;obtain⟨_,h4⟩:=iY h4;simp only [mkC,h1]
    exact o8 ih _ _ t1 k h3 h4
   | opn s cs fl e st=>
    change bM _ _ at h2;rw [bT]at h2;obtain⟨t1,h3,h4⟩:=fG h h2;rw [rD]at h4;obtain⟨_,h4⟩:=iY h4;simp only [mkC,h1]
    exact o8 ih _ _ t1 k h3 h4
   | _=>simp only [mkC,h1];exact⟨t,h,h2⟩
  | cl f caps=>
   simp only [mkC]
   exact o8 ih _ _ t k h hk
  | _=>exact⟨t,h,hk⟩
def aL3(v:V)(t:HT)(k:HT→Prop):Prop:=match v with
 | .c x=>mkK deep x t k
 | .a xs=>Lc (mkK deep) xs t k
 | _=>k t
theorem awd:MkS aL3 (mkV deep):=by
 intro v H t k h hk
 cases v with
 | c x=>exact VO deep x H t k h hk
 | a xs=>exact o8 (VO deep) xs H t k h hk
 | _=>exact⟨t,h,hk⟩
def aD0(call:iT)(f:Nat)(vs:List V)(t:HT)(n:Nat)(k:V→HT→Nat→Prop):Prop:=
 ES (OO t) vs fun fs=>call (.fn f) fs .e 0 fun rv t' _=>aMZ t' rv fun rv=>Lc aL3 vs t fun t=>k rv t n
theorem Va{call:dD}{bf:iT}(hc:wz call bf){f:Nat}{vs:List V}{H:Heap}{t:HT}{k:V→HT→Nat→Prop}(h:dO H t)(hk:aD0 bf f vs t H.length k) :
  ∃ v H' t',fZ call f vs H=some (v,H')∧dO H' t'∧k v t' H'.length:=by
 obtain⟨fs,h1,hk⟩:=kT (vN h) hk;obtain⟨rv,H1,t1,h2,h3,hk⟩:=hc (.fn f) fs [] .e _ dO.nil hk;obtain⟨rv',h4,hk⟩:=aw0 h3 rv _ hk;obtain⟨t',h5,hk⟩:=o8 awd vs H t _ h hk;refine⟨rv',_,t',by simp only [fZ,h1,h2,h4],h5,?_⟩
 rw [←(rW deep vs H).1];exact hk
abbrev Arm:=iT→T→List fE→HT→Nat→(V→List fE→HT→Nat→Prop)→Prop
def iV(op:AOp):Arm:=fun _ r d t n k=>aMV op r t n fun v t n=>k v d t n
def aJs(x:Arg):Arm:=fun _ r d t n k=>evK x r fun v=>k v d t n
def Xo(c a b:Arg):Arm:=fun _ r d t n k=>evK c r fun v=>match v with
 | .c (.f (.bool v))=>Bool.rec (motive:=fun _=>Prop) (evK b r fun v=>k v d t n) (evK a r fun v=>k v d t n) v
 | _=>False
def MX(zs:List FC):Arm:=fun _ r d t n k=>fzK zs fun cs=>sW (.box cs 0) t n fun t n'=>k (.c (.ptr n 0 0)) d t n'
def aJv(x:Arg):Arm:=fun _ r d t n k=>evK x r fun v=>Au v fun xs=>sW (.box xs 0) t n fun t n'=>k (.c (.ptr n 0 0)) d t n'
def MW(zs:List FC)(ps:List (Nat × Nat × Arg)):Arm:=fun _ r d t n k=>fzK zs fun cs=>KH r ps cs fun cs=>k (.a cs) d t n
def Xp(m:Option Nat)(x:Arg):Arm:=fun _ r d t n k=>evK x r fun v=>ldK t m v fun v=>k v d t n
def MQ(m:Nat)(x y:Arg):Arm:=fun _ r d t n k=>evK x r fun v=>evK y r fun y=>Au y fun xs=>jX xs.length m (match v with
 | .c p=>stK t p xs fun t=>k .top d t n
 | _=>False)
def Fa(x:Arg):Arm:=fun _ r d t n k=>evK x r fun v=>match v with
 | .c (.ptr b o e)=>k (.c (.ptr b o e)) d t n
 | .c (.f (.fp cs o))=>k (.c (.f (.fp cs o))) d t n
 | _=>False
def aJw(op:BinOp)(x y:Arg):Arm:=fun _ r d t n k=>evK x r fun x=>evK y r fun y=>Xg op x y fun v=>k v d t n
def aJu(j:IntKind)(x:Arg):Arm:=fun _ r d t n k=>evK x r fun v=>match v with
 | .c (.f (.int _ m))=>CB j m fun m=>k (.c (.f (.int j m))) d t n
 | _=>False
def Fe(off:Nat)(x:Arg):Arm:=fun _ r d t n k=>evK x r fun v=>match v with
 | .c (.ptr b o e)=>bM (Nat.add o off) fun o=>k (.c (.ptr b o e)) d t n
 | .c (.f (.fp cs o))=>bM (Nat.add o off) fun o=>k (.c (.f (.fp cs o))) d t n
 | _=>False
def MR(off:Nat)(m:Option Nat)(x:Arg):Arm:=fun _ r d t n k=>evK x r fun v=>match v with
 | .a xs=>Oe m off xs fun v=>k v d t n
 | _=>False
def Fb(sz:Nat)(arr:Option Nat)(x i:Arg):Arm:=fun _ r d t n k=>evK x r fun x=>evK i r fun i=>V9 t sz arr x i fun v=>k v d t n
def AQ(x:Arg)(i:Nat):Arm:=fun _ r d t n k=>evK x r fun v=>match v with
 | .t vs=>av5 i vs fun v=>k v d t n
 | _=>False
def Xq(f:Nat)(args:List Arg)(h:Bool):Arm:=fun call r d t n k=>Hu args r fun vs=>
 Bool.rec (motive:=fun _=>Prop) (aD0 call f vs t n fun v t n=>k v d t n) (call (.fn f) vs t n fun v t n=>k v d t n) h
def MV(x:Arg)(args:List Arg)(_:Bool):Arm:=fun call r d t n k=>evK x r fun x=>Hu args r fun vs=>
 wO (fA x vs) fun ca=>Prod.rec (motive:=fun _=>Prop) (fun c vs=>call c vs t n fun v t n=>k v d t n) ca
def aEa(m:Nat):Arm:=fun _ r d t n k=>k (.c (.f (.int .i64 (.ofNat m)))) d t n
def aJt(x:Arg):Arm:=fun _ r d t n k=>evK x r fun v=>aId t v fun m=>k (.c (.f (.int .i64 (.ofNat m)))) d t n
def Fg(sz bytes:Nat)(x y:Arg):Arm:=fun _ r d t n k=>evK x r fun x=>evK y r fun y=>aNh t n sz bytes x y fun v t n=>k v d t n
def H8:Arm:=fun _ r d t n k=>k (.c (.f .qm)) d t n
def MS(x:Arg)(args:List Arg):Arm:=fun _ r d t n k=>evK x r fun x=>Hu args r fun vs=>
 wO (fA x vs) fun ca=>Prod.rec (motive:=fun _=>Prop) (fun c vs=>Callee.rec (motive:=fun _=>Prop) (fun f=>k .top (.fn f vs::d) t n) (fun _=>False) c) ca
def aLL(op:AOp):Arm:=
 AOp.rec (motive:=fun _=>Arm)
  aJs (fun o s=>iV (.pre o s)) Xo MX aJv MW (fun a b c e=>iV (.aP a b c e)) Xp MQ Fa aJw
  (fun a b c e=>iV (.eq a b c e)) (fun a b=>iV (.un a b)) aJu (fun a=>iV (.EW a)) (fun a=>iV (.Ci a)) (fun a=>iV (.Md a)) (fun a b=>iV (.o9 a b)) (iV .nJ)
  (fun a b c e=>iV (.lookup a b c e)) (fun a b c e=>iV (.nK a b c e)) (fun a b c e f=>iV (.dK a b c e f)) (fun a b c e f=>iV (.slice a b c e f)) (fun a b c e f g=>iV (.sV a b c e f g)) (fun a b c=>iV (.uJ a b c))
  Fe MR Fb (fun a b=>iV (.idxs a b)) (fun a b c e f=>iV (.vw a b c e f)) (fun a=>iV (.range a)) (fun a=>iV (.next a)) AQ Xq MV aJt aEa (fun a=>iV (.lens a)) (fun a=>iV (.cap a))
  Fg (fun a b c=>iV (.copy a b c)) (fun a b=>iV (.sH a b)) (fun a b c e f=>iV (.yJ a b c e f)) (fun a b c=>iV (.clear a b c)) (fun a=>iV (.oW a)) (fun a=>iV (.uT a)) (fun a=>iV (.entry a)) (fun a b=>iV (.Ce a b)) (fun a b c e=>iV (.BH a b c e)) (fun a b c e=>iV (.jK a b c e)) H8 MS (iV .bad) op
theorem av4{call:dD}{bf:iT}(hc:wz call bf)(op:AOp){r:T}{d:List fE}{H:Heap}{t:HT}{k:V→List fE→HT→Nat→Prop}(h:dO H t)(hk:aLL op bf r d t H.length k) :
  ∃ v d' H' t',gU call ⟨r,d,H⟩ op=some (v,⟨r,d',H'⟩)∧dO H' t'∧k v d' t' H'.length:=by
 have go:∀ {v H' t'},gU call ⟨r,d,H⟩ op=(xOp r H op).map (fun r'=>(r'.1,⟨r,d,r'.2⟩))→xOp r H op=some (v,H')→dO H' t'→k v d t' H'.length →
   ∃ v d' H' t',gU call ⟨r,d,H⟩ op=some (v,⟨r,d',H'⟩)∧dO H' t'∧k v d' t' H'.length:=
  fun h1 h2 h3 h4=>⟨_,d,_,_,by rw [h1,h2];rfl,h3,h4⟩
 have gen:gU call ⟨r,d,H⟩ op=(xOp r H op).map (fun r'=>(r'.1,⟨r,d,r'.2⟩))→iV op bf r d t H.length k →
   ∃ v d' H' t',gU call ⟨r,d,H⟩ op=some (v,⟨r,d',H'⟩)∧dO H' t'∧k v d' t' H'.length:=fun h1 h2=>by
  obtain⟨v,H',t',h3,h4,h5⟩:=awW op r H t _ h h2;exact go h1 h3 h4 h5
 cases op
 case mov x=>
  have hk:aJs x bf r d t H.length k:=hk;unfold aJs at hk;rw [dV]at hk;exact go rfl rfl h hk
 case pick c a b=>
  have hk:Xo c a b bf r d t H.length k:=hk;unfold Xo at hk;rw [dV]at hk;split at hk
  ·rename_i v hv
   cases v with
   | true=>
    simp only [dV]at hk
    exact go rfl (by simp only [xOp,hv];rfl) h hk
   | false=>
    simp only [dV]at hk;exact go rfl (by simp only [xOp,hv];rfl) h hk
  ·exact hk.elim
 case alloc zs=>
  have hk:MX zs bf r d t H.length k:=hk;unfold MX at hk;rw [wV]at hk;obtain⟨t',h1,h2⟩:=jT h hk;exact go rfl rfl h1 h2
 case box x=>
  have hk:aJv x bf r d t H.length k:=hk;unfold aJv at hk;rw [dV]at hk;obtain⟨xs,h3,hk⟩:=xu hk;obtain⟨t',h1,h2⟩:=jT h hk;exact go rfl (by simp only [xOp,h3]) h1 h2
 case build zs ps=>
  have hk:MW zs ps bf r d t H.length k:=hk;unfold MW at hk;rw [wV]at hk;obtain⟨cs,h3,hk⟩:=CS r hk;exact go rfl (by simp only [xOp,h3];rfl) h hk
 case load m x=>
  have hk:Xp m x bf r d t H.length k:=hk;unfold Xp at hk;rw [dV]at hk;obtain⟨v,h3,hk⟩:=V3 h hk;exact go rfl (by simp only [xOp,h3];rfl) h hk
 case store m x y=>
  have hk:MQ m x y bf r d t H.length k:=hk;unfold MQ at hk;rw [dV,dV]at hk;obtain⟨xs,h3,hk⟩:=xu hk;obtain⟨h4,hk⟩:=dM hk;split at hk
  ·rename_i p hp;obtain⟨H',t',h5,h6,h7,hk⟩:=aEs h hk;exact go rfl (by simp only [xOp,hp,h3,h4,if_true,h5];rfl) h6 (by rw [h7];exact hk)
  ·exact hk.elim
 case bG x=>
  have hk:Fa x bf r d t H.length k:=hk;unfold Fa at hk;rw [dV]at hk;split at hk
  ·rename_i hv;exact go rfl (by simp only [xOp,hv]) h hk
  ·rename_i hv;exact go rfl (by simp only [xOp,hv]) h hk
  ·exact hk.elim
 case bin op x y=>
  have hk:aJw op x y bf r d t H.length k:=hk;unfold aJw at hk;rw [dV,dV]at hk;obtain⟨v,h3,hk⟩:=axg hk;exact go rfl (by simp only [xOp,h3];rfl) h hk
 case cvi j x=>
  have hk:aJu j x bf r d t H.length k:=hk;unfold aJu at hk;rw [dV]at hk;split at hk
  ·rename_i hv;simp only [uF]at hk;exact go rfl (by simp only [xOp,hv];rfl) h hk
  ·exact hk.elim
 case aj off x=>
  have hk:Fe off x bf r d t H.length k:=hk;unfold Fe at hk;rw [dV]at hk;split at hk
  ·rename_i hv;rw [bT]at hk;exact go rfl (by simp only [xOp,hv,kS];rfl) h hk
  ·rename_i hv;rw [bT]at hk;exact go rfl (by simp only [xOp,hv,kS];rfl) h hk
  ·exact hk.elim
 case field off m x=>
  have hk:MR off m x bf r d t H.length k:=hk;unfold MR at hk;rw [dV]at hk;split at hk
  ·rename_i hv;obtain⟨v,h3,hk⟩:=zG hk;exact go rfl (by simp only [xOp,hv,qY,h3];rfl) h hk
  ·exact hk.elim
 case aT sz arr x i=>
  have hk:Fb sz arr x i bf r d t H.length k:=hk;unfold Fb at hk;rw [dV,dV]at hk;obtain⟨v,h3,hk⟩:=Qq h hk;exact go rfl (by simp only [xOp,h3];rfl) h hk
 case extract x i=>
  have hk:AQ x i bf r d t H.length k:=hk;unfold AQ at hk;rw [dV]at hk;split at hk
  ·rename_i hv;obtain⟨v,h3,hk⟩:=yQ hk;exact go rfl (by simp only [xOp,hv,h3];rfl) h hk
  ·exact hk.elim
 case call f args hh=>
  have hk:Xq f args hh bf r d t H.length k:=hk;unfold Xq at hk;rw [vT]at hk
  cases hh with
  | false=>
   obtain⟨v,H',t',h1,h2,h3⟩:=Va hc h hk
   exact⟨v,d,H',t',by simp only [gU,jo,aw,if_false,h1];rfl,h2,h3⟩
  | true=>
   obtain⟨v,H',t',h1,h2,h3⟩:=hc _ _ H t _ h hk;exact⟨v,d,H',t',by simp only [gU,jo,if_true,h1];rfl,h2,h3⟩
 case bW x args hh=>
  have hk:MV x args hh bf r d t H.length k:=hk;unfold MV at hk;rw [dV,vT]at hk;obtain⟨⟨c,vs⟩,h1,hk⟩:=nG hk;obtain⟨v,H',t',h2,h3,h4⟩:=hc c vs H t _ h hk;exact⟨v,d,H',t',by simp only [gU,h1,h2];rfl,h3,h4⟩
 case len x=>
  have hk:aJt x bf r d t H.length k:=hk;unfold aJt at hk;rw [dV]at hk;obtain⟨y,m,h1,h2,hk⟩:=awi h hk;exact go rfl (by simp only [xOp,h1,h2];rfl) h hk
 case zX m=>
  have hk:aEa m bf r d t H.length k:=hk;exact go rfl rfl h hk
 case append sz bytes x y=>
  have hk:Fg sz bytes x y bf r d t H.length k:=hk;unfold Fg at hk;rw [dV,dV]at hk;obtain⟨v,H',t',h1,h2,h3⟩:=axk h hk;exact go rfl (by simp only [xOp,h1]) h2 h3
 case recover=>
  have hk:H8 bf r d t H.length k:=hk;exact⟨_,d,H,t,rfl,h,hk⟩
 case defer x args=>
  have hk:MS x args bf r d t H.length k:=hk;unfold MS at hk;rw [dV,vT]at hk;obtain⟨⟨c,vs⟩,h1,hk⟩:=nG hk
  cases c with
  | fn f=>exact⟨_,.fn f vs::d,H,t,by simp only [gU,h1],h,hk⟩
  | yield b=>exact hk.elim
 all_goals exact gen rfl hk
end
section
set_option linter.unusedVariables false
def aDV(g:Option (P × Bool))(r:T)(yes no:Prop):Prop:=
 Option.rec (motive:=fun _=>Prop) yes (fun pw=>Prod.rec (motive:=fun _=>Prop) (fun p w=>G6 p r fun v=>match v with
  | .c (.f (.bool b))=>Bool.rec (motive:=fun _=>Prop) (Bool.rec (motive:=fun _=>Prop) yes no w) (Bool.rec (motive:=fun _=>Prop) no yes w) b
  | .t []=>no
  | _=>False) pw) g
theorem UD{g:Option (P × Bool)}{r:T}{yes no:Prop}(h:aDV g r yes no):(wanted r g=some true∧yes)∨(wanted r g=some false∧no):=by
 cases g with
 | none=>exact .inl ⟨rfl,h⟩
 | some pw=>
  obtain⟨p,w⟩:=pw;change G6 p r _ at h;rw [rY]at h;simp only [wanted];split at h
  ·rename_i b hv;rw [hv];cases b<;>cases w
   ·exact .inl ⟨rfl,h⟩
   ·exact .inr ⟨rfl,h⟩
   ·exact .inr ⟨rfl,h⟩
   ·exact .inl ⟨rfl,h⟩
  ·rename_i hv;rw [hv];exact .inr ⟨rfl,h⟩
  ·exact h.elim
abbrev KSt:=T→List fE→HT→Nat→Prop
def UM(o:AOper)(call:iT)(r:T)(d:List fE)(t:HT)(n:Nat)(k:KSt):Prop:=
 AOper.rec (motive:=fun _=>Prop) (fun dst op g=>aDV g r (aLL op call r d t n fun v d t n=>aFr dst r v fun r=>k r d t n) (aFr dst r (.t []) fun r=>k r d t n)) o
theorem FZ{call:dD}{bf:iT}(hc:wz call bf){o:AOper}{r:T}{d:List fE}{H:Heap}{t:HT}{k:KSt}(h:dO H t)(hk:UM o bf r d t H.length k) :
  ∃ s' t',je call ⟨r,d,H⟩ o=some s'∧dO s'.heap t'∧k s'.regs s'.defs t' s'.heap.length:=by
 obtain⟨dst,op,g⟩:=o;rcases UD hk with⟨hw,hk⟩ | ⟨hw,hk⟩
 ·obtain⟨v,d',H',t',h1,h2,h3⟩:=av4 hc op h hk;rw [Oc]at h3;exact⟨⟨lY r dst v,d',H'⟩,t',by simp only [je,hw,h1],h2,h3⟩
 ·rw [Oc]at hk;exact⟨⟨lY r dst (.t []),d,H⟩,t,by simp only [je,hw],h,hk⟩
def aLD(ops:List AOper)(call:iT):T→List fE→HT→Nat→KSt→Prop:=
 List.rec (motive:=fun _=>T→List fE→HT→Nat→KSt→Prop) (fun r d t n k=>k r d t n) (fun o _ ih r d t n k=>UM o call r d t n fun r d t n=>ih r d t n k) ops
theorem Oi{call:dD}{bf:iT}(hc:wz call bf):∀ {ops:List AOper} {r:T} {d:List fE} {H:Heap} {t:HT} {k:KSt},dO H t→aLD ops bf r d t H.length k →
  ∃ s' t',oP call ops ⟨r,d,H⟩=some s'∧dO s'.heap t'∧k s'.regs s'.defs t' s'.heap.length
 | [],r,d,H,t,k,h,hk=>⟨⟨r,d,H⟩,t,rfl,h,hk⟩
 | o::ops,r,d,H,t,k,h,hk=>by
  obtain⟨s1,t1,h1,h2,h3⟩:=FZ hc h hk;obtain⟨s2,t2,h4,h5,h6⟩:=Oi hc (r:=s1.regs) (d:=s1.defs) (H:=s1.heap) h2 h3;exact⟨s2,t2,by simp only [oP,h1];exact h4,h5,h6⟩
structure AV where
 r:T
 d:List fE
 t:HT
 n:Nat
def Ed(ops:List AOper)(call:iT):T→List fE→HT→Nat→(List AV→KSt)→Prop:=
 List.rec (motive:=fun _=>T→List fE→HT→Nat→(List AV→KSt)→Prop) (fun r d t n k=>k [⟨r,d,t,n⟩] r d t n)
  (fun o _ ih r d t n k=>UM o call r d t n fun r' d' t' n'=>ih r' d' t' n' fun ss r'' d'' t'' n''=>k (⟨r,d,t,n⟩::ss) r'' d'' t'' n'') ops
def aEc(s:St)(x:AV):Prop:=x.r=s.regs∧x.d=s.defs∧dO s.heap x.t∧x.n=s.heap.length
inductive AU:List St→List AV→Prop
 | nil:AU [] []
 | cons {s:St} {x:AV} {ss:List St} {xs:List AV} (h:aEc s x) (hs:AU ss xs):AU (s::ss) (x::xs)
theorem AU.get{ss:List St}{xs:List AV}(h:AU ss xs):∀(i:Nat) (x:AV),xs[i]?=some x→∃ s,ss[i]?=some s∧aEc s x:=by
 induction h with
 | nil=>intro i x hx;simp at hx
 | cons h hs ih=>
  intro i x hx
  cases i with
  | zero=>simp at hx;subst hx;exact⟨_,rfl,h⟩
  | succ i=>simpa using ih i x (by simpa using hx)
theorem zl{call:dD}{bf:iT}(hc:wz call bf):∀ {ops:List AOper} {r:T} {d:List fE} {H:Heap} {t:HT} {k:List AV→KSt},dO H t→Ed ops bf r d t H.length k →
  ∃ ss xs s' t',fU call ops ⟨r,d,H⟩=some ss∧AU ss xs∧ss.getLast?=some s'∧dO s'.heap t'∧k xs s'.regs s'.defs t' s'.heap.length
 | [],r,d,H,t,k,h,hk=>⟨[⟨r,d,H⟩],[⟨r,d,t,H.length⟩],⟨r,d,H⟩,t,rfl,.cons ⟨rfl,rfl,h,rfl⟩ .nil,rfl,h,hk⟩
 | o::ops,r,d,H,t,k,h,hk=>by
  obtain⟨s1,t1,h1,h2,h3⟩:=FZ hc h hk;obtain⟨ss,xs,s2,t2,h4,h5,h6,h7,h8⟩:=zl hc (r:=s1.regs) (d:=s1.defs) (H:=s1.heap) h2 h3;refine⟨⟨r,d,H⟩::ss,⟨r,d,t,H.length⟩::xs,s2,t2,by simp only [fU,h1];rw [h4],.cons ⟨rfl,rfl,h,rfl⟩ h5,?_,h7,h8⟩
  cases ss with
  | nil=>simp at h6
  | cons a as=>simpa using h6
def NV(ops:List AOper)(xs:List AV)(c:Nat × Nat):Bool:=
 match ops[c.1]?,xs[c.1]?,xs[c.2]? with
 | some o,some s,some s'=>match wanted s.r o.g with
  | some false=>true
  | _=>match Uz s.r s.t.get s.n o.op,Uz s.r s'.t.get s'.n o.op with
   | some (v,_),some (v',_)=>v.beq v'
   | _,_=>false
 | _,_,_=>false
theorem UZ{ops:List AOper}{ss:List St}{xs:List AV}(h:AU ss xs){c:Nat × Nat}(hc:NV ops xs c=true):sameAt ops ss c=true:=by
 unfold NV at hc;split at hc
 ·rename_i o x x' h1 h2 h3;obtain⟨s,g1,g2,g3,g4,g5⟩:=h.get _ _ h2;obtain⟨s',k1,k2,k3,k4,k5⟩:=h.get _ _ h3;unfold sameAt;rw [h1,g1,k1];simp only;rw [←g2];split at hc
  ·rename_i hw;rw [hw]
  ·split at hc
   ·rename_i v e v' e' h4 h5;rw [g4,g5]at h4;rw [k4,k5]at h5;have e1:=D9 x.r s.heap o.op;rw [h4]at e1;have e2:=D9 x.r s'.heap o.op;rw [h5]at e2;rw [←e1,←e2];split
    ·rfl
    ·exact hc
   ·simp at hc
 ·simp at hc
def uO(ops:List AOper)(chk:List (Nat × Nat))(call:iT)(r:T)(d:List fE)(t:HT)(n:Nat)(k:KSt):Prop:=
 List.rec (motive:=fun _=>Prop) (aLD ops call r d t n k) (fun _ _ _=>Ed ops call r d t n fun xs r d t n=>yj (chk.all (NV ops xs)) (k r d t n)) chk
theorem Kz{call:dD}{bf:iT}(hc:wz call bf){ops:List AOper}{chk:List (Nat × Nat)}{r:T}{d:List fE}{H:Heap}{t:HT}{k:KSt}(h:dO H t)(hk:uO ops chk bf r d t H.length k) :
  ∃ s' t',kH call ops chk ⟨r,d,H⟩=some s'∧dO s'.heap t'∧k s'.regs s'.defs t' s'.heap.length:=by
 cases chk with
 | nil=>exact Oi hc h hk
 | cons c cs=>
  have hk:Ed ops bf r d t H.length (fun xs r d t n=>yj ((c::cs).all (NV ops xs)) (k r d t n)):=hk
  obtain⟨ss,xs,s',t',h1,h2,h3,h4,h5⟩:=zl hc h hk;obtain⟨h6,h7⟩:=rE h5;refine⟨s',t',?_,h4,h7⟩;simp only [kH,h1];rw [if_pos,h3];rw [aR]at h6 ⊢;exact fun c hc=>UZ h2 (h6 c hc)
abbrev Go1:=Option Nat→List AItem→KSt
abbrev axq:=Option ACode→KSt
abbrev cu:=iT→Nat→axq→Go1→Option Nat→List AItem→KSt
def OW:cu:=fun _ _ _ go ro rest r d t n=>go ro rest r d t n
def axe(ops:List AOper)(chk:List (Nat × Nat)):cu:=fun call _ _ go ro rest r d t n=>
 Option.rec (motive:=fun _=>Prop) (uO ops chk call r d t n fun r d t n=>go ro rest r d t n)
  (fun _=>yj (ops.all (·.op.iy)) (uO ops chk call r d t n fun r d t n=>go ro rest r d t n)) ro
def aRi(a b:ACode)(_ _:cu):cu:=fun _ _ _ go ro rest r d t n=>go ro (.code a::.code b::rest) r d t n
def Xb(c:Arg)(a b:ACode)(_ _:cu):cu:=fun _ _ _ go ro rest r d t n=>evK c r fun v=>match v with
 | .c (.f (.bool v))=>Bool.rec (motive:=fun _=>Prop) (go ro (.code b::rest) r d t n) (go ro (.code a::rest) r d t n) v
 | _=>False
def aI5(id:Nat)(a:ACode)(_:cu):cu:=fun _ _ _ go ro rest r d t n=>go ro (.code a::.inBlock id::rest) r d t n
def aM5(a:ACode)(_:cu):cu:=fun _ _ _ go ro rest r d t n=>go ro (.code a::.inLoop a::rest) r d t n
def E5(f:Arg)(ps:List P)(as bd:ACode)(_ _:cu):cu:=fun call fn _ go ro rest r d t n=>
 Option.rec (motive:=fun _=>Prop)
  (sW (.dfr true) t n fun t n1=>sW (.lp fn r ps as bd .ready none n) t n1 fun t n2=>evK f r fun x=>
   wO (fA x [.c (.yl n1)]) fun ca=>Prod.rec (motive:=fun _=>Prop) (fun c vs=>Callee.rec (motive:=fun _=>Prop)
    (fun g=>call (.fn g) vs t n2 fun _ t n'=>go none (.oL n1::rest) r (.coll n::d) t n') (fun _=>False) c) ca)
  (fun _=>False) ro
def Xa(id:Nat):cu:=fun _ _ jy go ro rest r d t n=>
 Option.rec (motive:=fun _=>Prop) (Option.rec (motive:=fun _=>Prop) False (fun _=>jy (some (.exit id)) r d t n) ro) (fun k=>go ro k r d t n) (exitTo id rest)
def aRj:cu:=fun _ _ jy _ _ _ r d t n=>jy (some .ret) r d t n
def aRk:cu:=fun _ _ _ _ _ _ _ _ _ _=>False
def aI3(a:ACode)(_:cu):cu:=fun _ _ _ go ro rest r d t n=>go ro (.code a::.inScope a::rest) r d t n
def aI4(_:Nat):cu:=OW
def aM6(l:Nat):cu:=fun _ _ _ go ro rest r d t n=>wO (gotoIn l rest) fun k=>go ro k r d t n
def Hg(c:ACode):cu:=ACode.rec (motive:=fun _=>cu) OW axe aRi Xb aI5 aM5 E5 Xa aRj aRk aI3 aI4 aM6 c
def aID(_:Nat):cu:=OW
def aMz(c:ACode):cu:=fun _ _ _ go ro rest r d t n=>go ro (.code c::.inLoop c::rest) r d t n
def LU(b:Nat):cu:=fun _ _ _ go ro rest r d t n=>jD b t fun blk=>match blk with
 | .lp f tmps ps as bd st pending dd=>yj (match st with | .busy=>false | _=>true) (jC (.lp f tmps ps as bd .exhausted pending dd) t b fun t=>match pending with
  | none=>go ro rest r d t n
  | some .ret=>go ro (.code .ret::rest) r d t n
  | some (.exit id)=>go ro (.code (.exit id)::rest) r d t n
  | some _=>False)
 | _=>False
def aD5:cu:=fun _ _ _ go ro rest r d t n=>Option.rec (motive:=fun _=>Prop) False (fun b=>jD b t fun blk=>match blk with
 | .lp f tmps ps as bd .ready pending dd=>jC (.lp f tmps ps as bd .busy pending dd) t b fun t=>go ro rest r d t n
 | _=>False) ro
def aIC(_:ACode):cu:=OW
def aD4(x:AItem):cu:=AItem.rec (motive:=fun _=>cu) Hg aID aMz LU aD5 aIC x
def runK(call:iT)(fn:Nat)(jy:axq)(m:Nat):Go1:=
 Nat.rec (motive:=fun _=>Go1) (fun _ _ _ _ _ _=>False)
  (fun _ ih ro todo r d t n=>List.rec (motive:=fun _=>Prop) (jy none r d t n) (fun x rest _=>aD4 x call fn jy ih ro rest r d t n) todo) m
def aOA(call:dD)(fn m:Nat)(ro:Option Nat)(todo:List AItem)(s:St)(jy:axq):Prop:=
 ∃ jump s' t',run call fn m ro todo s=some (jump,s')∧dO s'.heap t'∧jy jump s'.regs s'.defs t' s'.heap.length
theorem N7{call:dD}{bf:iT}(hc:wz call bf)(fn:Nat)(jy:axq):∀(m:Nat) (ro:Option Nat) (todo:List AItem) (r:T) (d:List fE) (H:Heap) (t:HT),
  dO H t→runK bf fn jy m ro todo r d t H.length→aOA call fn m ro todo ⟨r,d,H⟩ jy:=by
 intro m
 induction m with
 | zero=>intro ro todo r d H t h hk;exact hk.elim
 | succ m ih=>
  intro ro todo r d H t h hk
  have go:∀ {todo'} {s':St} {t':HT},run call fn (m+1) ro todo ⟨r,d,H⟩=run call fn m ro todo' s'→dO s'.heap t'→runK bf fn jy m ro todo' s'.regs s'.defs t' s'.heap.length→aOA call fn (m+1) ro todo ⟨r,d,H⟩ jy:=by
   intro todo' s' t' h1 h2 h3;obtain⟨jump,s'',t'',g1,g2,g3⟩:=ih ro todo' s'.regs s'.defs s'.heap t' h2 h3;exact⟨jump,s'',t'',by rw [h1];exact g1,g2,g3⟩
  cases todo with
  | nil=>exact⟨none,⟨r,d,H⟩,t,rfl,h,hk⟩
  | cons x rest=>
   have hk:aD4 x bf fn jy (runK bf fn jy m) ro rest r d t H.length:=hk
   cases x with
   | inBlock id=>exact go (s':=⟨r,d,H⟩) (by simp only [run]) h hk
   | inLoop c=>exact go (s':=⟨r,d,H⟩) (by simp only [run]) h hk
   | inScope c=>exact go (s':=⟨r,d,H⟩) (by simp only [run]) h hk
   | oL b=>
    have hk:LU b bf fn jy (runK bf fn jy m) ro rest r d t H.length:=hk;unfold LU at hk;obtain⟨blk,h1,h2⟩:=eu hk;rw [h]at h1;have h1:H[b]?=some blk:=h1;split at h2
    ·rename_i f tmps ps as bd st pending dd _;obtain⟨h3,h2⟩:=rE h2;obtain⟨t',h4,h5⟩:=fG h h2;have hst:st≠.busy:=by rintro rfl;simp at h3
     have hl:H.length=(H.set b (.lp f tmps ps as bd .exhausted pending dd)).length:=by simp
     rw [hl]at h5;split at h5
     ·exact go (s':=⟨r,d,H.set b (.lp f tmps ps as bd .exhausted none dd)⟩) (by simp only [run,h1,if_neg hst]) h4 h5
     ·exact go (s':=⟨r,d,H.set b (.lp f tmps ps as bd .exhausted (some .ret) dd)⟩) (by simp only [run,h1,if_neg hst]) h4 h5
     ·exact go (s':=⟨r,d,H.set b (.lp f tmps ps as bd .exhausted (some (.exit _)) dd)⟩) (by simp only [run,h1,if_neg hst]) h4 h5
     ·exact h5.elim
    ·exact h2.elim
   | xA=>
    have hk:aD5 bf fn jy (runK bf fn jy m) ro rest r d t H.length:=hk
    cases ro with
    | none=>exact hk.elim
    | some b=>
     obtain⟨blk,h1,h2⟩:=eu hk;rw [h]at h1;have h1:H[b]?=some blk:=h1;split at h2
     ·rename_i f tmps ps as bd pending dd _;obtain⟨t',h4,h5⟩:=fG h h2;have hl:H.length=(H.set b (.lp f tmps ps as bd .busy pending dd)).length:=by simp
      rw [hl]at h5;exact go (s':=⟨r,d,H.set b (.lp f tmps ps as bd .busy pending dd)⟩) (by simp only [run,h1]) h4 h5
     ·exact h2.elim
   | code c=>
    cases c with
    | skip=>exact go (s':=⟨r,d,H⟩) (by simp only [run]) h hk
    | label l=>exact go (s':=⟨r,d,H⟩) (by simp only [run]) h hk
    | scope a=>exact go (s':=⟨r,d,H⟩) (by simp only [run]) h hk
    | goto l=>
     obtain⟨k',he,hk⟩:=nG (show wO (gotoIn l rest) (fun k'=>runK bf fn jy m ro k' r d t H.length) from hk)
     exact go (s':=⟨r,d,H⟩) (by simp only [run,he]) h hk
    | bad=>exact hk.elim
    | ret=>exact⟨some .ret,⟨r,d,H⟩,t,rfl,h,hk⟩
    | seq a b=>exact go (s':=⟨r,d,H⟩) (by simp only [run]) h hk
    | block id a=>exact go (s':=⟨r,d,H⟩) (by simp only [run]) h hk
    | loop a=>exact go (s':=⟨r,d,H⟩) (by simp only [run]) h hk
    | exit id=>
     have hk:Xa id bf fn jy (runK bf fn jy m) ro rest r d t H.length:=hk;unfold Xa at hk
     cases he:exitTo id rest with
     | some k'=>
      rw [he]at hk
      exact go (s':=⟨r,d,H⟩) (by simp only [run,he]) h hk
     | none=>
      rw [he]at hk
      cases ro with
      | none=>exact hk.elim
      | some b=>exact⟨some (.exit id),⟨r,d,H⟩,t,by simp only [run,he,Option.isSome_some,if_true],h,hk⟩
    | cond c a b=>
     have hk:Xb c a b (Hg a) (Hg b) bf fn jy (runK bf fn jy m) ro rest r d t H.length:=hk;unfold Xb at hk;rw [dV]at hk;split at hk
     ·rename_i v hv
      cases v with
      | true=>exact go (s':=⟨r,d,H⟩) (by simp only [run,hv,if_true]) h hk
      | false=>exact go (s':=⟨r,d,H⟩) (by simp only [run,hv,aw,if_false]) h hk
     ·exact hk.elim
    | region ops chk=>
     have key:(ro.isSome&&!ops.all (·.op.iy))=false∧uO ops chk bf r d t H.length (fun r d t n=>runK bf fn jy m ro rest r d t n):=by
      cases ro with
      | none=>exact⟨rfl,hk⟩
      | some b=>
       obtain⟨h1,h2⟩:=rE (show yj (ops.all (·.op.iy)) (uO ops chk bf r d t H.length (fun r d t n=>runK bf fn jy m (some b) rest r d t n)) from hk)
       exact⟨by rw [h1];rfl,h2⟩
     obtain⟨s',t',h1,h2,h3⟩:=Kz hc h key.2
     exact go (s':=s') (by simp only [run,key.1,aw,if_false,h1]) h2 h3
    | tX f ps as bd=>
     have hk:E5 f ps as bd (Hg as) (Hg bd) bf fn jy (runK bf fn jy m) ro rest r d t H.length:=hk
     cases ro with
     | some b=>exact hk.elim
     | none=>
      unfold E5 at hk;obtain⟨t1,h1,hk⟩:=jT h hk;obtain⟨t2,h2,hk⟩:=jT h1 hk;rw [dV]at hk;obtain⟨⟨c,vs⟩,h3,hk⟩:=nG hk;have e1:(H++[Blk.dfr true]).length=H.length+1:=by simp
      have e2:H++[Blk.dfr true]++[Blk.lp fn r ps as bd .ready none H.length]=H++[.dfr true,.lp fn r ps as bd .ready none H.length]:=by simp
      rw [e1]at h3;rw [e2]at h2
      cases c with
      | yield b=>exact hk.elim
      | fn g=>
       have hk:bf (.fn g) vs t2 (H++[Blk.dfr true]++[Blk.lp fn r ps as bd .ready none H.length]).length (fun _ t n'=>runK bf fn jy m none (.oL (H++[Blk.dfr true]).length::rest) r (.coll H.length::d) t n'):=hk
       rw [e2,e1]at hk;obtain⟨v,H',t',h4,h5,h6⟩:=hc _ _ _ _ _ h2 hk;exact go (s':=⟨r,.coll H.length::d,H'⟩) (by simp only [run,Option.isSome_none,aw,if_false,h3,h4]) h5 h6
def WR(call:iT)(ds:List fE):HT→Nat→(HT→Nat→Prop)→Prop:=
 List.rec (motive:=fun _=>HT→Nat→(HT→Nat→Prop)→Prop) (fun t n k=>k t n)
  (fun x _ ih t n k=>fE.rec (motive:=fun _=>Prop)
   (fun b=>jD b t fun blk=>match blk with
    | .dfr true=>jC (.dfr false) t b fun t=>ih t n k
    | _=>False)
   (fun f args=>call (.fn f) args t n fun _ t n=>ih t n k) x) ds
theorem Ak{call:dD}{bf:iT}(hc:wz call bf):∀ {ds:List fE} {H:Heap} {t:HT} {k:HT→Nat→Prop},dO H t→WR bf ds t H.length k→∃ H' t',fV call ds H=some H'∧dO H' t'∧k t' H'.length
 | [],H,t,k,h,hk=>⟨H,t,rfl,h,hk⟩
 | .coll b::ds,H,t,k,h,hk=>by
  obtain⟨blk,h1,h2⟩:=eu hk;rw [h]at h1;have h1:H[b]?=some blk:=h1;split at h2
  ·obtain⟨t1,h3,h4⟩:=fG h h2;have hl:H.length=(H.set b (.dfr false)).length:=by simp
   have h4:WR bf ds t1 H.length k:=h4;rw [hl]at h4;obtain⟨H',t',h5,h6,h7⟩:=Ak hc h3 h4;exact⟨H',t',by simp only [fV,h1];exact h5,h6,h7⟩
  ·exact h2.elim
 | .fn f args::ds,H,t,k,h,hk=>by
  obtain⟨v,H1,t1,h1,h2,h3⟩:=hc _ _ H t _ h hk;obtain⟨H',t',h5,h6,h7⟩:=Ak hc (ds:=ds) h2 h3;exact⟨H',t',by simp only [fV,h1];exact h5,h6,h7⟩
def aKG(r:T)(t:HT)(a:nC)(k:V→Prop):Prop:=nC.rec (motive:=fun _=>Prop)
 (fun p=>G6 p r fun v=>match v with
  | .t _=>False
  | v=>k v)
 (fun p m=>G6 p r fun v=>ldK t m v k) a
theorem asQ{H:Heap}{t:HT}(h:dO H t){r:T}(a:nC)(k:V→Prop)(hk:aKG r t a k):∃ v,bU r H a=some v∧k v:=by
 cases a with
 | tmp p=>
  change G6 p r _ at hk;rw [rY]at hk;simp only [bU]
  cases hv:r.get p with
  | t vs=>rw [hv]at hk;exact hk.elim
  | _=>rw [hv]at hk;exact⟨_,rfl,hk⟩
 | cell p m=>
  change G6 p r _ at hk;rw [rY]at hk;exact V3 h hk
def Gm(r:T)(t:HT)(rs:List nC)(k:V→Prop):Prop:=ES (aKG r t) rs fun vs=>match vs with
 | [v]=>k v
 | vs=>k (.t vs)
theorem Gl{H:Heap}{t:HT}(h:dO H t){r:T}{rs:List nC}{k:V→Prop}(hk:Gm r t rs k):∃ v,Km.results r H rs=some v∧k v:=by
 obtain⟨vs,h1,h2⟩:=kT (asQ h) hk;unfold Km.results;rw [h1];split at h2
 ·exact⟨_,rfl,h2⟩
 ·rename_i hne;refine⟨.t vs,?_,h2⟩
  match vs,hne with
  | [v],hne=>exact absurd rfl (hne v)
  | [],_=>rfl
  | _::_::_,_=>rfl
def fnK(tab:BT AFunc)(m:Nat)(call:iT)(f:Nat)(args:List V)(t:HT)(n:Nat)(k:V→HT→Nat→Prop):Prop:=
 jD f tab fun af=>AFunc.rec (motive:=fun _=>Prop) (fun ps rs body=>jX args.length ps.length (yN ps args .e fun r=>
  runK call f (fun _ r d t n=>WR call d t n fun t n=>Gm r t rs fun v=>k v t n) m none [.code body] r [] t n)) af
def Ux(m:Nat)(call:iT)(b:Nat)(args:List V)(t:HT)(n:Nat)(k:V→HT→Nat→Prop):Prop:=
 jD b t fun blk=>match blk with
  | .lp f tmps ps as bd _ _ _=>jX args.length ps.length (yN ps args tmps fun r=>
    runK call f (fun jump _ d t n=>yj d.isEmpty (jD b t fun blk=>match blk with
     | .lp f' sU ps' as' bd' _ _ d'=>match jump with
      | none=>jC (.lp f' sU ps' as' bd' .ready none d') t b fun t=>k (.c (.f (.bool true))) t n
      | some j=>jC (.lp f' sU ps' as' bd' .done (some j) d') t b fun t=>k (.c (.f (.bool false))) t n
     | _=>False)) m (some b) [.code as,.xA,.code bd] r [] t n)
  | _=>False
def bf(tab:BT AFunc)(m:Nat)(dep:Nat):iT:=
 Nat.rec (motive:=fun _=>iT) (fun _ _ _ _ _=>False)
  (fun _ ih c args t n k=>Callee.rec (motive:=fun _=>Prop) (fun f=>fnK tab m ih f args t n k) (fun b=>Ux m ih b args t n k) c) dep
def lZ:Nat→List V→Heap→Option (Option (V × Heap)):=fun _ _ _=>none
theorem WZ(tab:BT AFunc)(m:Nat):∀ dep,wz (gG tab.get lZ m dep) (bf tab m dep):=by
 intro dep
 induction dep with
 | zero=>intro c args H t k h hk;exact hk.elim
 | succ dep ih=>
  intro c args H t k h hk
  cases c with
  | fn f=>
   obtain⟨af,h1,hk⟩:=eu (show fnK tab m (bf tab m dep) f args t H.length k from hk)
   obtain⟨ps,rs,body⟩:=af;obtain⟨h2,hk⟩:=dM hk;rw [tV]at hk;obtain⟨jump,s',t',h3,h4,hk⟩:=N7 ih f _ m none [.code body] _ [] H t h hk;obtain⟨H',t'',h5,h6,hk⟩:=Ak ih h4 hk;obtain⟨v,h7,hk⟩:=Gl h6 hk
   exact⟨v,H',t'',by simp only [gG,lZ,h1,h2,if_true,h3,h5,h7];rfl,h6,hk⟩
  | yield b=>
   obtain⟨blk,h1,hk⟩:=eu (show Ux m (bf tab m dep) b args t H.length k from hk)
   rw [h]at h1;have h1:H[b]?=some blk:=h1;split at hk
   ·obtain⟨h2,hk⟩:=dM hk;rw [tV]at hk;obtain⟨jump,s',t',h3,h4,hk⟩:=N7 ih _ _ m (some b) _ _ [] H t h hk;obtain⟨h5,hk⟩:=rE hk;obtain⟨blk',h6,hk⟩:=eu hk;rw [h4]at h6;have h6:s'.heap[b]?=some blk':=h6;split at hk
    ·cases jump with
     | none=>
      obtain⟨t'',h7,h8⟩:=fG h4 hk
      exact⟨_,_,t'',by simp only [gG,h1,h2,if_true,h3,h5,h6];rfl,h7,by rw [List.length_set];exact h8⟩
     | some j=>
      obtain⟨t'',h7,h8⟩:=fG h4 hk;exact⟨_,_,t'',by simp only [gG,h1,h2,if_true,h3,h5,h6];rfl,h7,by rw [List.length_set];exact h8⟩
    ·exact hk.elim
   ·exact hk.elim
def isTrue(v:V)(_:HT)(_:Nat):Prop:=match v with
 | .c (.f (.bool b))=>Bool.rec (motive:=fun _=>Prop) False True b
 | _=>False
theorem MG{tab:BT AFunc}{m dep f:Nat}(h:bf tab m dep (.fn f) [] .e 0 isTrue):∃ H',gG tab.get lZ m dep (.fn f) [] []=some (.c (.f (.bool true)),H'):=by
 obtain⟨v,H',t',h1,h2,h3⟩:=WZ tab m dep (.fn f) [] [] .e isTrue dO.nil h;refine⟨H',?_⟩;rw [h1];unfold isTrue at h3;split at h3
 ·rename_i b
  cases b with
  | true=>rfl
  | false=>exact h3.elim
 ·exact h3.elim
end
section
theorem aH{P:Nat→AFunc→Prop}:∀ i a,(BT.e:BT AFunc).get i=some a→P i a:=fun i a h=>by cases i<;>cases h
theorem aI{P:Nat→AFunc→Prop}{l r:BT AFunc}{x:AFunc}(hl:∀ i a,l.get i=some a→P (2*i+1) a)(hx:P 0 x)
  (hr:∀ i a,r.get i=some a→P (2*i+2) a):∀ i a,(BT.n l x r).get i=some a→P i a:=by
 intro i a h
 cases i with
 | zero=>cases h;exact hx
 | succ m=>
  have h':(if m % 2=0 then l.get (m / 2)else r.get (m / 2))=some a:=h
  split at h'
  ·have:=hl _ _ h'
   rwa [show 2*(m / 2)+1=m+1 by omega]at this
  ·have:=hr _ _ h'
   rwa [show 2*(m / 2)+2=m+1 by omega]at this
theorem P6(Q:Program)(σ:Nat→FuncId):Xt Q σ lZ:=fun f args H r H' h=>by cases h
theorem reckoned{tab:BT AFunc}{f:Nat}(h:∃ m dep,bf tab m dep (.fn f) [] .e 0 isTrue=True):∃ m dep H',gG tab.get lZ m dep (.fn f) [] []=some (.c (.f (.bool true)),H'):=by
 obtain⟨m,dep,h⟩:=h;obtain⟨H',h'⟩:=MG (of_eq_true h);exact⟨m,dep,H',h'⟩
end
section
def Fp(c1 c2:dD):Prop:=∀ c args H r,c1 c args H=some r→c2 c args H=some r
section
variable{c1 c2:dD}(hc:Fp c1 c2)
include hc
theorem BK{c:Nat}{args:List V}{H:Heap}{r:V × Heap}(h:fZ c1 c args H=some r):fZ c2 c args H=some r:=by
 unfold fZ at h ⊢;split at h
 ·simp at h
 ·rename_i fs hfs;split at h
  ·simp at h
  ·rename_i r0 H0 h0;simp only [hc _ _ _ _ h0];exact h
theorem Ey{b:Bool}{c:Nat}{args:List V}{H:Heap}{r:V × Heap}(h:jo c1 b c args H=some r):jo c2 b c args H=some r:=by
 unfold jo at h ⊢;split at h
 ·rename_i hb;simp only [hb,if_true];exact hc _ _ _ _ h
 ·rename_i hb;simp only [hb];exact BK hc h
theorem Cm{s:St}{op:AOp}{r:V × St}(h:gU c1 s op=some r):gU c2 s op=some r:=by
 cases op with
 | call f args b=>
  simp only [gU,am]at h ⊢;obtain⟨a,ha,rfl⟩:=h
  exact⟨a,Ey hc ha,rfl⟩
 | bW x args b=>
  simp only [gU]at h ⊢;split at h
  ·simp only [am]at h ⊢;obtain⟨a,ha,rfl⟩:=h;exact⟨a,hc _ _ _ _ ha,rfl⟩
  ·simp at h
 | _=>exact h
theorem yZ{s s':St}{o:AOper}(h:je c1 s o=some s'):je c2 s o=some s':=by
 unfold je at h ⊢
 cases hw:wanted s.regs o.g with
 | none=>simp [hw]at h
 | some b=>
  cases b with
  | false=>simpa [hw]using h
  | true=>
   simp only [hw]at h ⊢
   cases h1:gU c1 s o.op with
   | none=>simp [h1]at h
   | some x=>
    obtain⟨v,s1⟩:=x;rw [Cm hc h1];rw [h1]at h;exact h
theorem rH:∀(os:List AOper) (s:St) {s':St},oP c1 os s=some s'→oP c2 os s=some s'
 | [],s,s',h=>h
 | o::os,s,s',h=>by
  simp only [oP]at h ⊢;split at h
  ·rename_i s1 h1;simp only [yZ hc h1];exact rH os s1 h
  ·simp at h
theorem uD:∀(os:List AOper) (s:St) {ss:List St},fU c1 os s=some ss→fU c2 os s=some ss
 | [],s,ss,h=>h
 | o::os,s,ss,h=>by
  simp only [fU]at h ⊢;split at h
  ·rename_i s1 h1;simp only [yZ hc h1];split at h
   ·rename_i ss1 h2;simp only [uD os s1 h2];exact h
   ·simp at h
  ·simp at h
theorem D8{ops:List AOper}{chk:List (Nat × Nat)}{s s':St}(h:kH c1 ops chk s=some s'):kH c2 ops chk s=some s':=by
 unfold kH at h ⊢;split at h
 ·exact rH hc _ _ h
 ·split at h
  ·rename_i ss hss;simp only [uD hc _ _ hss];exact h
  ·simp at h
theorem uM{fn:Nat}:∀(n n':Nat) (ro:Option Nat) (todo:List AItem) (s:St) {r:Option ACode × St},n≤n' →
  run c1 fn n ro todo s=some r→run c2 fn n' ro todo s=some r
 | 0,_,_,_,_,_,_,h=>by simp [run]at h
 | n+1,0,_,_,_,_,hn,_=>by omega
 | n+1,n'+1,ro,todo,s,r,hn,h=>by
  have ih:=fun ro todo s r h=>uM (fn:=fn) n n' ro todo s (r:=r) (by omega) h
  match todo,h with
  | [],h=>exact h
  | .inBlock _::k,h=>exact ih _ _ _ _ h
  | .inLoop c::k,h=>exact ih _ _ _ _ h
  | .oL b::k,h=>
   simp only [run]at h ⊢;split at h
   ·rename_i f tmps ps as bd st pending d hb
    try simp only [hb]
    split at h
    ·simp at h
    ·rename_i hst
     try simp only [hst,if_false]
     split at h
     ·exact ih _ _ _ _ h
     ·exact ih _ _ _ _ h
     ·exact ih _ _ _ _ h
     ·simp at h
   ·simp at h
  | .xA::k,h=>
   simp only [run]at h ⊢;split at h
   ·simp at h
   ·rename_i b;split at h
    ·rename_i hb
     try simp only [hb]
     exact ih _ _ _ _ h
    ·simp at h
  | .code .skip::k,h=>exact ih _ _ _ _ h
  | .inScope _::k,h=>exact ih _ _ _ _ h
  | .code (.label _)::k,h=>exact ih _ _ _ _ h
  | .code (.scope a)::k,h=>exact ih _ _ _ _ h
  | .code (.goto l)::k,h=>
   simp only [run]at h ⊢;split at h
   ·rename_i hk;(try simp only [hk]);exact ih _ _ _ _ h
   ·simp at h
  | .code .bad::_,h=>simp [run]at h
  | .code .ret::_,h=>exact h
  | .code (.exit id)::k,h=>
   simp only [run]at h ⊢;split at h
   ·rename_i hk;(try simp only [hk]);exact ih _ _ _ _ h
   ·rename_i hk;(try simp only [hk]);exact h
  | .code (.seq a b)::k,h=>exact ih _ _ _ _ h
  | .code (.block id a)::k,h=>exact ih _ _ _ _ h
  | .code (.loop a)::k,h=>exact ih _ _ _ _ h
  | .code (.cond c a b)::k,h=>
   simp only [run]at h ⊢;split at h
   ·rename_i v hv;(try simp only [hv]);exact ih _ _ _ _ h
   ·simp at h
  | .code (.region ops chk)::k,h=>
   simp only [run]at h ⊢;split at h
   ·simp at h
   ·rename_i hro
    try simp only [hro]
    split at h
    ·rename_i s1 h1
     try simp only [D8 hc h1]
     exact ih _ _ _ _ h
    ·simp at h
  | .code (.tX f ps as bd)::k,h=>
   simp only [run]at h ⊢;split at h
   ·simp at h
   ·rename_i hro
    try simp only [hro]
    split at h
    ·rename_i g args hg
     try simp only [hg]
     split at h
     ·rename_i v H1 h1
      try simp only [hc _ _ _ _ h1]
      exact ih _ _ _ _ h
     ·simp at h
    ·simp at h
theorem kM:∀(ds:List fE) (H:Heap) {H':Heap},fV c1 ds H=some H'→fV c2 ds H=some H'
 | [],H,H',h=>h
 | .coll b::ds,H,H',h=>by
  simp only [fV]at h ⊢;split at h
  ·rename_i hb;exact kM ds _ h
  ·simp at h
 | .fn f args::ds,H,H',h=>by
  simp only [fV]at h ⊢;split at h
  ·rename_i v H1 h1
   try simp only [hc _ _ _ _ h1]
   exact kM ds _ h
  ·simp at h
end
variable{tab:Nat→Option AFunc}{prim:Nat→List V→Heap→Option (Option (V × Heap))}
theorem AB{m m':Nat}(hm:m≤m'):∀(d d':Nat),d≤d'→Fp (gG tab prim m d) (gG tab prim m' d')
 | 0,_,_,_,_,_,_,h=>by simp [gG]at h
 | d+1,0,hd,_,_,_,_,_=>by omega
 | d+1,d'+1,hd,c,args,H,r,h=>by
  have ih:Fp (gG tab prim m d) (gG tab prim m' d'):=AB hm d d' (by omega)
  match c,h with
  | .fn f,h=>
   simp only [gG]at h ⊢;split at h
   ·rename_i r' hp;(try simp only [hp]);exact h
   ·rename_i hp
    try simp only [hp]
    split at h
    ·simp at h
    ·rename_i af haf
     try simp only [haf]
     split at h
     ·rename_i hl
      try simp only [hl,if_true]
      split at h
      ·rename_i j s hs
       try simp only [uM ih m m' _ _ _ hm hs]
       split at h
       ·rename_i H1 h1
        try simp only [kM ih _ _ h1]
        exact h
       ·simp at h
      ·simp at h
     ·simp at h
  | .yield b,h=>
   simp only [gG]at h ⊢;split at h
   ·rename_i f tmps ps as bd q1 q2 q3 hb
    try simp only [hb]
    split at h
    ·rename_i hl
     try simp only [hl,if_true]
     split at h
     ·rename_i j s hs
      try simp only [uM ih m m' _ _ _ hm hs]
      exact h
     ·simp at h
    ·simp at h
   ·simp at h
end
section
section
variable(tab:Nat→Option AFunc)
abbrev CF(m d:Nat):dD:=gG tab lZ m d
def Ev(c:Callee)(args:List V)(H:Heap)(r:V)(H':Heap):Prop:=∃ m d,CF tab m d c args H=some (r,H')
def Pure(f:Nat)(args:List V)(r:V):Prop:=∃ r0 H',Ev tab (.fn f) args [] r0 H'∧exV deep H' r0=some r
def WP(fn:Nat)(ro:Option Nat)(todo:List AItem)(s:St)(Q:Option ACode→St→Prop):Prop:=
 ∃ n m d j s',run (CF tab m d) fn n ro todo s=some (j,s')∧Q j s'
def ONE(s:St)(op:AOp)(K:V→St→Prop):Prop:=
 match op with
 | .call f args h=>
  if h then ∃ r H',Ev tab (.fn f) (dZ s.regs args) s.heap r H'∧K r { s with heap:=H' }
  else ∃ fs r,bC (dB deep s.heap) (dZ s.regs args)=some fs∧Pure tab f fs r∧K r { s with heap:=(dZ s.regs args).foldl (mkV deep) s.heap }
 | .bW x args _=>∃ c as r H',fA (x.ev s.regs) (dZ s.regs args)=some (c,as)∧Ev tab c as s.heap r H'∧K r { s with heap:=H' }
 | .recover=>K (.c (.f .qm)) s
 | .defer x args=>∃ f as,fA (x.ev s.regs) (dZ s.regs args)=some (.fn f,as)∧K .top { s with defs:=.fn f as::s.defs }
 | op=>∃ v H',xOp s.regs s.heap op=some (v,H')∧K v { s with heap:=H' }
def OPS:List AOper→St→(St→Prop)→Prop
 | [],s,K=>K s
 | o::os,s,K=>match wanted s.regs o.g with
  | some true=>ONE tab s o.op fun v s'=>OPS os { s' with regs:=lY s'.regs o.dst v } K
  | some false=>OPS os { s with regs:=lY s.regs o.dst (.t []) } K
  | none=>False
variable{tab}
variable{c:Callee}{args:List V}{H H':Heap}{r:V}
theorem Ar{m m' d d':Nat}(hm:m≤m')(hd:d≤d'):Fp (CF tab m d) (CF tab m' d'):=AB hm d d' hd
theorem Ev.det{r2:V}{H2:Heap}(h1:Ev tab c args H r H')(h2:Ev tab c args H r2 H2):r=r2∧H'=H2:=by
 obtain⟨m,d,h1⟩:=h1;obtain⟨m',d',h2⟩:=h2;have e1:=Ar (tab:=tab) (bS m m') (bS d d') _ _ _ _ h1;have e2:=Ar (tab:=tab) (bA m m') (bA d d') _ _ _ _ h2;rw [e1]at e2;simpa using e2
theorem Pure.det{f:Nat}{r2:V}(h1:Pure tab f args r)(h2:Pure tab f args r2):r=r2:=by
 obtain⟨a,H1,ha,h1⟩:=h1;obtain⟨b,H2,hb,h2⟩:=h2;obtain⟨rfl,rfl⟩:=ha.det hb;rw [h1]at h2;simpa using h2
theorem QS{s:St}{op:AOp}{K:V→St→Prop}(h:ONE tab s op K):∃ m d v s',gU (CF tab m d) s op=some (v,s')∧K v s':=by
 cases op with
 | call f args b=>
  simp only [ONE]at h;split at h
  ·rename_i hb;obtain⟨r,H',⟨m,d,h1⟩,h2⟩:=h;exact⟨m,d,r,_,by simp [gU,jo,hb,h1],h2⟩
  ·rename_i hb;obtain⟨fs,r,h0,⟨r0,H0,⟨m,d,h1⟩,h2⟩,h3⟩:=h
   exact⟨m,d,r,_,by simp [gU,jo,hb,fZ,h0,h1,h2],h3⟩
 | bW x args b=>
  obtain⟨c,as,r,H',h0,⟨m,d,h1⟩,h2⟩:=h
  exact⟨m,d,r,_,by simp [gU,h0,h1],h2⟩
 | recover=>exact⟨0,0,_,_,rfl,h⟩
 | «defer» x args=>
  obtain⟨f,as,h0,h1⟩:=h
  exact⟨0,0,.top,_,by simp [gU,h0],h1⟩
 | _=>
  obtain⟨v,H',h0,h1⟩:=h;exact⟨0,0,v,_,by simp [gU,h0],h1⟩
theorem xE:∀(os:List AOper) (s:St) {K:St→Prop},OPS tab os s K→∃ m d s',oP (CF tab m d) os s=some s'∧K s'
 | [],s,K,h=>⟨0,0,s,rfl,h⟩
 | o::os,s,K,h=>by
  simp only [OPS]at h;split at h
  ·rename_i hw;obtain⟨m,d,v,s1,h1,h2⟩:=QS h;obtain⟨m',d',s',h3,h4⟩:=xE os _ h2;refine⟨max m m',max d d',s',?_,h4⟩;have e1:=Cm (Ar (tab:=tab) (bS m m') (bS d d')) h1;have e3:=rH (Ar (tab:=tab) (bA m m') (bA d d')) os _ h3;simp only [oP,je,hw,e1,e3]
  ·rename_i hw;obtain⟨m',d',s',h3,h4⟩:=xE os _ h;exact⟨m',d',s',by simp only [oP,je,hw,h3],h4⟩
  ·exact h.elim
variable{fn:Nat}{ro:Option Nat}{k:List AItem}{s:St}{Q:Option ACode→St→Prop}{a b:ACode}
theorem xX{todo:List AItem}{todo':List AItem}{s':St}(h:WP tab fn ro todo' s' Q)
  (hs:∀ m d n,run (CF tab m d) fn (n+1) ro todo s=run (CF tab m d) fn n ro todo' s'):WP tab fn ro todo s Q:=by
 obtain⟨n,m,d,j,s1,h1,h2⟩:=h;exact⟨n+1,m,d,j,s1,by rw [hs,h1],h2⟩
theorem aIl(h:Q none s):WP tab fn ro [] s Q:=⟨1,0,0,none,s,rfl,h⟩
theorem aF{i:Nat}(h:WP tab fn ro k s Q):WP tab fn ro (.inBlock i::k) s Q:=xX h fun _ _ _=>rfl
theorem Qn(h:WP tab fn ro (.code a::.inLoop a::k) s Q):WP tab fn ro (.inLoop a::k) s Q:=xX h fun _ _ _=>rfl
theorem aW(h:WP tab fn ro k s Q):WP tab fn ro (.code .skip::k) s Q:=xX h fun _ _ _=>rfl
theorem kw_seq(h:WP tab fn ro (.code a::.code b::k) s Q):WP tab fn ro (.code (.seq a b)::k) s Q:=xX h fun _ _ _=>rfl
theorem aN{i:Nat}(h:WP tab fn ro (.code a::.inBlock i::k) s Q):WP tab fn ro (.code (.block i a)::k) s Q:=xX h fun _ _ _=>rfl
theorem aQ(h:Q (some .ret) s):WP tab fn ro (.code .ret::k) s Q:=⟨1,0,0,some .ret,s,rfl,h⟩
theorem iM{i:Nat}{k':List AItem}(he:exitTo i k=some k')(h:WP tab fn ro k' s Q):WP tab fn ro (.code (.exit i)::k) s Q:=
 xX h fun _ _ _=>by simp only [run,he]
theorem OA{c:Arg}{v:Bool}(hc:c.ev s.regs=.c (.f (.bool v)))(h:WP tab fn ro (.code (if v then a else b)::k) s Q) :
  WP tab fn ro (.code (.cond c a b)::k) s Q:=xX h fun _ _ _=>by simp only [run,hc]
theorem ak{c:Arg}(hc:c.ev s.regs=.c (.f (.bool true)))(h:WP tab fn ro (.code a::k) s Q) :
  WP tab fn ro (.code (.cond c a b)::k) s Q:=OA hc h
theorem ah{c:Arg}(hc:c.ev s.regs=.c (.f (.bool false)))(h:WP tab fn ro (.code b::k) s Q) :
  WP tab fn ro (.code (.cond c a b)::k) s Q:=OA hc h
theorem U1{m m' d d' n n':Nat}{todo:List AItem}{x:Option ACode × St}(hm:m≤m')(hd:d≤d')(hn:n≤n')
  (h:run (CF tab m d) fn n ro todo s=some x):run (CF tab m' d') fn n' ro todo s=some x:=
 uM (Ar hm hd) n n' ro todo s hn h
theorem kw_region{ops:List AOper}(hr:ro=none∨ops.all (·.op.iy)=true)(h:OPS tab ops s fun s'=>WP tab fn ro k s' Q) :
  WP tab fn ro (.code (.region ops [])::k) s Q:=by
 obtain⟨m,d,s',h1,n,m',d',j,s2,h2,h3⟩:=xE ops s h;refine⟨n+1,max m m',max d d',j,s2,?_,h3⟩;have e1:=rH (Ar (tab:=tab) (bS m m') (bS d d')) ops _ h1;have e2:=U1 (bA m m') (bA d d') (aq n) h2
 have hro:(ro.isSome&&!ops.all (·.op.iy))=false:=by
  rcases hr with rfl | hr
  ·rfl
  ·rw [hr];simp
 simp only [run,hro,kH,e1,e2];simp
theorem iL(I:Nat→St→Prop)(n:Nat)(h0:I n s)
  (step:∀ n s,I n s→(∀ n' s',n'<n→I n' s'→WP tab fn ro (.inLoop a::k) s' Q)→WP tab fn ro (.code a::.inLoop a::k) s Q) :
  WP tab fn ro (.code (.loop a)::k) s Q:=by
 have key:∀ n s,I n s→WP tab fn ro (.code a::.inLoop a::k) s Q:=by
  intro n
  induction n using Nat.strongRecOn with
  | _ n ih=>
   intro s hs;exact step n s hs fun n' s' hn hs'=>Qn (ih n' hn s' hs')
 exact xX (key n s h0) fun _ _ _=>rfl
def Fin(tab:Nat→Option AFunc)(af:AFunc)(r:V)(H':Heap)(s:St):Prop:=
 ∃ m d H1,fV (CF tab m d) s.defs s.heap=some H1∧results s.regs H1 af.results=some r∧H1=H'
theorem OQ{f:Nat}{af:AFunc}(ht:tab f=some af)(hl:args.length=af.ps.length)
  (h:WP tab f none [.code af.body] ⟨dI af.ps args .e,[],H⟩ fun _ s=>Fin tab af r H' s):Ev tab (.fn f) args H r H':=by
 obtain⟨n,m,d,j,s,h1,m',d',H1,h2,h3,rfl⟩:=h;obtain⟨M,hM1,hM2,hM3⟩:∃ M,m≤M∧m'≤M∧n≤M:=⟨max (max m m') n,by omega,by omega,by omega⟩
 obtain⟨E,hE1,hE2⟩:∃ E,d≤E∧d'≤E:=⟨max d d',by omega,by omega⟩
 refine⟨M,E+1,?_⟩;have e1:run (CF tab M E) f M none [.code af.body] ⟨dI af.ps args .e,[],H⟩=some (j,s):=U1 hM1 hE1 hM3 h1;have e2:=kM (Ar (tab:=tab) hM2 hE2) _ _ h2;have hp:lZ f args H=none:=rfl;simp only [CF]at e1 e2 ⊢;simp only [gG,hp,ht,hl,if_true,e1,e2,h3,bz]
def yK(res:List nC)(r:V)(s:St):Prop:=s.defs=[]∧∃ r0,results s.regs s.heap res=some r0∧exV deep s.heap r0=some r
theorem bZ{f:Nat}{ps:List P}{res:List nC}{body:ACode}(ht:tab f=some ⟨ps,res,body⟩)(hl:args.length=ps.length)
  (h:∀ Q:Option ACode→St→Prop,(∀ j s,yK res r s→Q j s)→WP tab f none [.code body] ⟨dI ps args .e,[],[]⟩ Q):Pure tab f args r:=by
 have h':=h (fun _ s=>yK res r s) fun _ _ h=>h
 obtain⟨n,m,d,j,s,h1,hd,r0,h2,h3⟩:=h';exact⟨r0,s.heap,OQ ht hl ⟨n,m,d,j,s,h1,0,0,s.heap,by rw [hd];rfl,h2,rfl⟩,h3⟩
end
theorem kw_sr{tab:Nat→Option AFunc}{fn:Nat}{ops:List AOper}{b:ACode}{k:List AItem}{s:St}{Q:Option ACode→St→Prop}(h:OPS tab ops s fun s'=>WP tab fn none (.code b::k) s' Q):WP tab fn none (.code (.seq (.region ops []) b)::k) s Q:=kw_seq (kw_region (.inl rfl) h)
theorem bQ{tab:Nat→Option AFunc}{fn:Nat}{ro:Option Nat}{a:ACode}{c:Arg}{k:List AItem}{s:St}{Q:Option ACode→St→Prop}(hc:c.ev s.regs=.c (.f (.bool false)))(h:WP tab fn ro k s Q):WP tab fn ro (.code (.cond c a .skip)::k) s Q:=ah hc (aW h)
end
end Km
