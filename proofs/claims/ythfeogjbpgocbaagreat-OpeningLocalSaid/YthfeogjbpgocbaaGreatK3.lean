/-
  Our own small machine for Go code by value, held against the model: part 3. No program in sight.
-/
import Derived.Test.YthfeogjbpgocbaaGreatK2
import Derived.Test.YthfeogjbpgocbaaGreatK1
open Bool renaming and_eq_true → am, false_eq_true → aE, not_eq_true' → c8
open List renaming all_eq_true → aL, mem_of_getElem? → aD, getElem?_eq_getElem → ae, getElem?_eq_some_iff → ai, eq_nil_of_length_eq_zero → az, getElem?_set_ne → ag, getElem?_append_right → bj, map_cons → aR, length_cons → cP, foldl_cons → cK, getElem?_eq_none → dk, getElem?_drop → aM, length_drop → cD, mem_cons_of_mem → bO, flatten_cons → cw, length_append → bN, mem_cons_self → bB, drop_eq_getElem_cons → cG, length_map → cC
open Option.some renaming injEq → ab
open Prod.mk renaming injEq → aq
open Option renaming bind_eq_some_iff → bu, map_eq_some_iff → an, map_map → c9, bind_some → bR, map_some → cn
open Nat renaming le_of_ble_eq_true → cM, eq_of_beq_eq_true → cX, le_max_left → bw, le_max_right → ba, le_refl → aw, add_mul → cm
set_option linter.unusedVariables false
set_option linter.unusedSimpArgs false
set_option linter.unusedSectionVars false
section
namespace Km
open Go
variable{Q:Program}{σ:Nat→FuncId}{X:Wd}{call:dn}
theorem JM{α:Type}{f:α→α→Bool}(hf:∀ x y,f x y=true→x=y):∀ {xs ys:List α},all2b f xs ys=true→xs=ys
 | [],[],_=>rfl
 | x::xs,y::ys,h=>by
  simp only [all2b,am]at h
  rw [hf x y h.1,JM hf h.2]
 | [],_::_,h=>by simp [all2b]at h
 | _::_,[],h=>by simp [all2b]at h
theorem FC.beq_eq:∀(n:Nat) (a b:FC),FC.beq n a b=true→a=b:=by
 intro n
 induction n with
 | zero=>
  intro a b h
  cases a<;>cases b<;>simp_all [FC.beq]
 | succ n ih=>
  intro a b h
  cases a<;>cases b<;>simp_all [FC.beq]
  all_goals exact JM ih h.2
theorem C.beq_eq{a b:C}(h:a.beq b=true):a=b:=by
 cases a<;>cases b<;>simp_all [C.beq]
 exact FC.beq_eq _ _ _ h
theorem V.beq_eq{a b:V}(h:a.beq b=true):a=b:=by
 cases a<;>cases b<;>simp only [V.beq,aE]at h
 ·rw [C.beq_eq h]
 ·rename_i xs ys
  simp only [am,beq_iff_eq,aL]at h
  congr 1
  refine List.ext_getElem h.1 fun i h1 h2=>C.beq_eq (h.2 (xs[i],ys[i]) ?_)
  exact aD (i:=i) (by rw [List.getElem?_zip_eq_some];exact⟨ae h1,ae h2⟩)
theorem Dc:∀ {aos:List aU} {s s':St},iI call aos s=some s'→∃ ss:List St,eU call aos s=some ss∧ss.getLast?=some s'
 | [],s,s',h=>by simp only [iI,ab]at h;subst h;exact⟨[s],rfl,rfl⟩
 | o::os,s,s',h=>by
  simp only [iI]at h
  split at h
  ·rename_i s1 h1
   obtain⟨ss,h2,h3⟩:=Dc h
   refine⟨s::ss,by simp [eU,h1,h2],?_⟩
   cases ss with
   | nil=>simp at h3
   | cons x xs=>simpa using h3
  ·simp at h
theorem ql:∀ {aos:List aU} {s:St} {ss:List St},eU call aos s=some ss→ss.length=aos.length+1∧ss[0]?=some s ∧
  ∀ i y,aos[i]?=some y→∃ u v,ss[i]?=some u∧ss[i+1]?=some v∧iT call u y=some v
 | [],s,ss,h=>by
  simp only [eU,ab]at h;subst h
  exact⟨rfl,rfl,fun i y h=>by simp at h⟩
 | o::os,s,ss,h=>by
  simp only [eU]at h
  split at h
  ·rename_i s1 h1
   split at h
   ·rename_i ss' h2
    simp only [ab]at h;subst h
    obtain⟨g1,g2,g3⟩:=ql h2
    refine⟨by simp [g1],rfl,fun i y hy=>?_⟩
    cases i with
    | zero=>
     simp only [List.getElem?_cons_zero,ab]at hy
     subst hy
     exact⟨s,s1,rfl,by simpa using g2,h1⟩
    | succ i=>simpa using g3 i y (by simpa using hy)
   ·simp at h
  ·simp at h
theorem zN:∀ {aos:List aU} {s:St} {ss:List St} {s':St},eU call aos s=some ss→ss.getLast?=some s'→iI call aos s=some s'
 | [],s,ss,s',h,hl=>by simp only [eU,ab]at h;subst h;simpa [iI]using hl
 | o::os,s,ss,s',h,hl=>by
  simp only [eU]at h
  split at h
  ·rename_i s1 h1
   split at h
   ·rename_i ss' h2
    simp only [ab]at h;subst h
    have:=(ql h2).1
    simp only [iI,h1]
    refine zN h2 ?_
    cases ss' with
    | nil=>simp at this
    | cons x xs=>simpa using hl
   ·simp at h
  ·simp at h
theorem QY(hC:iF Q σ call)(ajo:Q.follows .mixedOrders=true){n:Nat}{id:Nat}{ops:Array Oper}{draw:Bool}{aos:List aU}{chk:List (Nat × Nat)}(hm:bQ Q σ n (.region id ops draw) (.region aos chk)=true)
  {b:Frame} {k:List Item} {cs:List Frame} (hk:kZ b cs) (hnr:∀ y ∈ aos,jC y.op b) {X:Wd} {a:Act} {s s':St} (hF:Fr Q σ n X s a) (h:jd call aos chk s=some s') :
  ∃ X' a',Steps Q (lone (b.atR a (.code (.region id ops draw)::k)) cs X.w) (lone (b.atR a' k) cs X'.w)∧Fr Q σ n X' s' a'∧Ext X.H.length X X'∧a'.tmps.size=a.tmps.size:=by
 simp only [bQ,am,Bool.or_eq_true,c8]at hm
 obtain⟨hops,hord⟩:=hm
 obtain⟨ss,h1,h2,h3⟩:∃ ss:List St,eU call aos s=some ss∧ss.getLast?=some s'∧∀ c ∈ chk,sameAt aos ss c=true:=by
  unfold jd at h
  split at h
  ·obtain⟨ss,g1,g2⟩:=Dc h
   exact⟨ss,g1,g2,by simp⟩
  ·split at h
   ·rename_i ss hss
    split at h
    ·rename_i hall
     exact⟨ss,hss,h,aL.1 hall⟩
    ·simp at h
   ·simp at h
 cases draw with
 | false=>
  obtain⟨X',a',g1,g2⟩:=Pg hC hk (k:=k) aos 0 X s s' a hF (by simpa using hops) hnr (zN h1 h2)
  exact⟨X',a',.head stepR_region (by simpa using g1),g2⟩
 | true=>
  obtain⟨g1,g2,g3⟩:=ql h1
  let st:Nat→St:=fun i=>ss.getD i s
  have hst:∀ i u,ss[i]?=some u→st i=u:=fun i u hu=>by simp [st,List.getD_eq_getElem?_getD,hu]
  have R:Reg Q σ call n ops aos chk st:=by
   refine⟨hops,RF (hord.resolve_left (by simp)),fun i y hy=>?_,fun i e y hc hy hw=>?_⟩
   ·obtain⟨u,v,e1,e2,e3⟩:=g3 i y hy
    rw [hst _ _ e1,hst _ _ e2];exact e3
   ·have hs:=h3 _ hc
    simp only [sameAt,hy]at hs
    split at hs
    ·rename_i o s1 s2 e1 e2 e3
     cases e1
     rw [hst _ _ e2]at hw ⊢
     rw [hst _ _ e3]
     rw [hw]at hs
     simp only at hs
     split at hs
     ·rename_i v x1 v' x2 e4 e5
      rw [←V.beq_eq hs]at e5
      exact⟨v,x1,x2,e4,e5⟩
     ·simp at hs
    ·simp at hs
  have h0:st 0=s:=hst 0 s g2
  have hN:st aos.length=s':=hst _ _ (by rw [List.getLast?_eq_getElem?,g1]at h2;simpa using h2)
  rw [←h0]at hF
  rw [←hN]
  exact ajy hC ajo R hk hnr hF id
end Km
end
section
namespace Km
open Go
variable{Q:Program}{σ:Nat→FuncId}{X:Wd}{call:dn}
def Mc(X:Wd)(b:Nat):Prop:=∃ f t p a c s q d,X.H[b]?=some (.lp f t p a c s q d)
theorem Mc.ext{X X':Wd}(hx:Ext X.H.length X X'){b:Nat}(h:Mc X b):Mc X' b∧∀ L,X.rho b=some L→X'.rho b=some L:=by
 obtain⟨f,t,p,a,c,s,q,d,hb⟩:=h
 obtain⟨blk',hb',hk⟩:=hx.keep b (ai.1 hb).1 _ hb
 cases blk'<;>simp only at hk
 exact⟨⟨_,_,_,_,_,_,_,_,hb'⟩,hk.2⟩
inductive jQ(Q:Program)(σ:Nat→FuncId)(n:Nat)(X:Wd):cu→Item→Prop
 | code {a:ah} {c:Code} (h:bQ Q σ n c a=true):jQ Q σ n X (.code a) (.code c)
 | inBlock (id:Nat):jQ Q σ n X (.inBlock id) (.inBlock id)
 | inLoop {a:ah} {c:Code} (h:bQ Q σ n c a=true):jQ Q σ n X (.inLoop a) (.inLoop c)
 | kV {b:Nat} {L:Loc} (h:X.rho b=some L) (hl:Mc X b):jQ Q σ n X (.kV b) (.endRangeFunc L.c)
 | qN:jQ Q σ n X .qN .beginRound
 | inScope {a:ah} {c:Code} (h:bQ Q σ n c a=true) (hs:oI a=true):jQ Q σ n X (.inScope a) (.inScope c)
theorem jQ.ext{n:Nat}{X X':Wd}(hx:Ext X.H.length X X'){x:cu}{y:Item}(h:jQ Q σ n X x y):jQ Q σ n X' x y:=by
 cases h with
 | code h=>exact .code h
 | inBlock id=>exact .inBlock id
 | inLoop h=>exact .inLoop h
 | kV h hl=>exact .kV ((hl.ext hx).2 _ h) (hl.ext hx).1
 | qN=>exact .qN
 | inScope h hs=>exact .inScope h hs
def RoR(X:Wd):Option Nat→Option Nat→Prop
 | none,none=>True
 | some b,some l=>∃ L,X.rho b=some L∧L.c=l∧Mc X b
 | _,_=>False
theorem RoR.ext{X X':Wd}(hx:Ext X.H.length X X'){ro ro':Option Nat}(h:RoR X ro ro'):RoR X' ro ro':=by
 cases ro<;>cases ro'<;>simp only [RoR]at h ⊢
 obtain⟨L,h1,h2,h3⟩:=h
 exact⟨L,(h3.ext hx).2 _ h1,h2,(h3.ext hx).1⟩
theorem DU{n:Nat}(id:Nat):∀(k:List cu) (ks:List Item),A2 (jQ Q σ n X) k ks →
  match Km.exitTo id k with
  | some k'=>∃ ks',Go.exitTo id ks=some ks'∧A2 (jQ Q σ n X) k' ks'
  | none=>Go.exitTo id ks=none
 | [],ks,h=>by
  have:ks=[]:=az h.len.symm
  subst this;rfl
 | x::k,[],h=>by have:=h.len;simp at this
 | x::k,y::ks,h=>by
  obtain⟨h1,h2⟩:=h.of_cons
  have ih:=DU id k ks h2
  cases h1 with
  | inBlock id'=>
   simp only [Km.exitTo,Go.exitTo]
   by_cases he:(id' == id)=true
   ·simp only [he,if_true];exact⟨ks,rfl,h2⟩
   ·simp only [he,aE,if_false];exact ih
  | _=>exact ih
theorem Gu{n:Nat}(l:Nat):∀(a:ah) (c:Code),bQ Q σ n c a=true→oI a=true →
  match Km.findLabel a l with
  | some r=>∃ r',Go.findLabel c l=some r'∧bQ Q σ n r' r=true
  | none=>Go.findLabel c l=none:=by
 intro a
 induction a with
 | seq a b iha ihb=>
  intro c h hs
  simp only [oI,am]at hs
  cases c with
  | seq c d=>
   simp only [bQ,am]at h
   have h1:=iha c h.1 hs.1
   simp only [Km.findLabel,Go.findLabel]
   cases hf:Km.findLabel a l with
   | some r=>
    rw [hf]at h1
    obtain⟨r',h2,h3⟩:=h1
    simp only [h2]
    exact⟨_,rfl,by simp [bQ,h3,h.2]⟩
   | none=>
    rw [hf]at h1
    simp only [h1]
    exact ihb d h.2 hs.2
  | _=>simp [bQ]at h
 | label l'=>
  intro c h _
  cases c with
  | label l2=>
   simp only [bQ,beq_iff_eq]at h
   subst h
   simp only [Km.findLabel,Go.findLabel]
   by_cases he:(l2 == l)=true
   ·simp only [he,if_true];exact⟨_,rfl,by simp [bQ]⟩
   ·simp only [he,aE,if_false]
  | _=>simp [bQ]at h
 | bad=>intro c h hs;simp [oI]at hs
 | _=>intro c h _;cases c<;>simp_all [bQ,Km.findLabel,Go.findLabel]
theorem DN{n:Nat}(l:Nat):∀(k:List cu) (ks:List Item),A2 (jQ Q σ n X) k ks →
  match Km.gotoIn l k with
  | some k'=>∃ ks',Go.gotoIn l ks=some ks'∧A2 (jQ Q σ n X) k' ks'
  | none=>Go.gotoIn l ks=none
 | [],ks,h=>by
  have:ks=[]:=az h.len.symm
  subst this;rfl
 | x::k,[],h=>by have:=h.len;simp at this
 | x::k,y::ks,h=>by
  obtain⟨h1,h2⟩:=h.of_cons
  have ih:=DN l k ks h2
  cases h1 with
  | inScope hm hs=>
   rename_i a c
   have h3:=Gu (Q:=Q) (σ:=σ) l a c hm hs
   simp only [Km.gotoIn,Go.gotoIn]
   cases hf:Km.findLabel a l with
   | some r=>
    rw [hf]at h3
    obtain⟨r',h4,h5⟩:=h3
    simp only [h4]
    exact⟨_,rfl,A2.cons (.code h5) (A2.cons (.inScope hm hs) h2)⟩
   | none=>
    rw [hf]at h3
    simp only [h3]
    exact ih
  | _=>exact ih
def aIl:Option ah→List Item→Prop
 | none,items=>items=[]
 | some .ret,items=>∃ k,items=.code .ret::k
 | some (.exit id),items=>∃ k,items=.code (.exit id)::k∧Go.exitTo id k=none
 | _,_=>False
end Km
end
section
namespace Km
open Go
variable{Q:Program}{σ:Nat→FuncId}{X:Wd}{call:dn}
theorem vS{b:Nat}{L:Loc}(hS:SR Q σ X)(hL:X.rho b=some L){f:Nat}{t:T}{ps:List P}{as bd:ah}{q:jK}{pend:Option ah}{d:Nat}(hb:X.H[b]?=some (.lp f t ps as bd q pend d)) :
  ∃(n:Nat) (us:Array Value) (ps':Array Tmp) (as' bd':Code) (jo:Option Code) (Ld:Loc),
   X.w.heap[L.c]?=some (.loop { state:=q.of,pending:=jo,fn:=σ f,tmps:=us,params:=ps',assign:=as',body:=bd',defers:=Ld.c }) ∧
   n≤us.size∧RR σ X t us∧all2 (fun p (q:P)=>q.toNat == p&&decide (p<n)) ps'.toList ps=true∧bQ Q σ n as' as=true∧bQ Q σ n bd' bd=true∧DI Q σ n pend jo∧X.rho d=some Ld∧∃ o,X.H[d]?=some (.dfr o):=by
 obtain⟨_,_,blk,hb',hbr⟩:=hS.br b L hL
 rw [hb]at hb';cases hb'
 exact hbr
theorem EU(hS:SR Q σ X){b:Nat}{L:Loc}(hL:X.rho b=some L){f:Nat}{t:T}{ps:List P}{as bd:ah}{q q':jK}{pend Ae:Option ah}{d:Nat}(hb:X.H[b]?=some (.lp f t ps as bd q pend d))
  {n:Nat} {us:Array Value} {ps':Array Tmp} {as' bd':Code} {jo:Option Code} {Ld:Loc}
  (h2:n≤us.size) (h3:RR σ X t us) (h4:all2 (fun p (q:P)=>q.toNat == p&&decide (p<n)) ps'.toList ps=true) (h5:bQ Q σ n as' as=true) (h6:bQ Q σ n bd' bd=true) (h7:DI Q σ n Ae jo) (h8:X.rho d=some Ld) (h9:∃ o,X.H[d]?=some (.dfr o)) :
  SR Q σ { X with H:=X.H.set b (.lp f t ps as bd q' Ae d),w:=X.w.putObj L.c (.loop { state:=q'.of,pending:=jo,fn:=σ f,tmps:=us,params:=ps',assign:=as',body:=bd',defers:=Ld.c }) } ∧
  Ext X.H.length X { X with H:=X.H.set b (.lp f t ps as bd q' Ae d),w:=X.w.putObj L.c (.loop { state:=q'.of,pending:=jo,fn:=σ f,tmps:=us,params:=ps',assign:=as',body:=bd',defers:=Ld.c }) }:=by
 obtain⟨m,us0,ps0,as0,bd0,pd0,Ld0,qc,_⟩:=vS hS hL hb
 have hlt:b<X.H.length:=(ai.1 hb).1
 refine SR.uN (o':=.loop { state:=q'.of,pending:=jo,fn:=σ f,tmps:=us,params:=ps',assign:=as',body:=bd',defers:=Ld.c }) (blk':=.lp f t ps as bd q' Ae d) hS hb hL qc (by simp) (by simp)
  (fun blk hblk=>⟨.lp f t ps as bd q' Ae d,by simp [hlt],by rw [hb]at hblk;cases hblk;exact⟨⟨rfl,rfl,rfl,rfl,rfl,rfl⟩,fun L h=>h⟩⟩)
  (fun X' hx' hw1 _ oU hH=>?_)
 obtain⟨o,h9⟩:=h9
 refine⟨n,us,ps',as',bd',jo,Ld,hw1,h2,RR.ext' σ hx' h3,h4,h5,h6,h7,by rw [oU];exact h8,o,?_⟩
 have hne:b≠d:=fun e=>by rw [e,h9]at hb;cases hb
 rw [hH,ag hne];exact h9
end Km
end
section
namespace Km
open Go
variable{Q:Program}{σ:Nat→FuncId}{call:dn}
structure Way(Q:Program)(σ:Nat→FuncId)(fn:Nat)(n:Nat)(b:Frame)(cs:List Frame)(ro:Option Nat)(todo:List cu)(items:List Item)(s:St)(X:Wd)(a:Act):Prop where
 fr:Fr Q σ n X s a
 items:A2 (jQ Q σ n X) todo items
 ro:RoR X ro b.roundOf
 kind:kZ b cs
 fn:b.fn=σ fn
theorem Way.ext{fn n:Nat}{b:Frame}{cs:List Frame}{ro:Option Nat}{todo:List cu}{items:List Item}{s s':St}{X X':Wd}{a a':Act}(h:Way Q σ fn n b cs ro todo items s X a){todo':List cu}{items':List Item}(hx:Ext X.H.length X X')(hF:Fr Q σ n X' s' a')
  (hi:A2 (jQ Q σ n X) todo' items'):Way Q σ fn n b cs ro todo' items' s' X' a':=
 ⟨hF,hi.weak fun _ _ h=>h.ext hx,h.ro.ext hx,h.kind,h.fn⟩
theorem Way.to{fn n:Nat}{b:Frame}{cs:List Frame}{ro:Option Nat}{todo:List cu}{items:List Item}{s:St}{X:Wd}{a:Act}(h:Way Q σ fn n b cs ro todo items s X a){todo':List cu}{items':List Item}
  (hi:A2 (jQ Q σ n X) todo' items'):Way Q σ fn n b cs ro todo' items' s X a:=⟨h.fr,hi,h.ro,h.kind,h.fn⟩
def aM9(Q:Program)(σ:Nat→FuncId)(call:dn)(fn m:Nat):Prop:=
 ∀(n:Nat) (b:Frame) (cs:List Frame) ro todo items s X a jump s',run call fn m ro todo s=some (jump,s')→Way Q σ fn n b cs ro todo items s X a →
  ∃ X' a' items',Steps Q (lone (b.atR a items) cs X.w) (lone (b.atR a' items') cs X'.w)∧Fr Q σ n X' s' a'∧Ext X.H.length X X'∧a'.tmps.size=a.tmps.size∧aIl jump items'
theorem Cc{b:Frame}{a:Act}{k:List Item}{cs:List Frame}{w:World}{body:Code}:step Q (lone (b.atR a (.inScope body::k)) cs w)=.next (lone (b.atR a k) cs w):=
 step_lone_go (by simp [stepG,stepG.exec,Frame.atR])
theorem Ij{b:Frame}{a:Act}{k:List Item}{cs:List Frame}{w:World}{body:Code}:step Q (lone (b.atR a (.code (.scope body)::k)) cs w)=.next (lone (b.atR a (.code body::.inScope body::k)) cs w):=
 step_lone_go (by simp [stepG,stepG.exec,Frame.atR])
theorem ahT(hC:iF Q σ call)(ajo:Q.follows .mixedOrders=true)(fn:Nat):∀ m,aM9 Q σ call fn m:=by
 intro m
 induction m with
 | zero=>intro n b cs ro todo items s X a jump s' h;simp [run]at h
 | succ m ih=>
  intro n b cs ro todo items s X a jump s' h hW
  have go:∀ {todo' items'},run call fn m ro todo' s=some (jump,s')→A2 (jQ Q σ n X) todo' items'→step Q (lone (b.atR a items) cs X.w)=.next (lone (b.atR a items') cs X.w) →
    ∃ X' a' items',Steps Q (lone (b.atR a items) cs X.w) (lone (b.atR a' items') cs X'.w)∧Fr Q σ n X' s' a'∧Ext X.H.length X X'∧a'.tmps.size=a.tmps.size∧aIl jump items':=by
   intro todo' items' hr hi hst
   obtain⟨X',a',it,g1,g2⟩:=ih n b cs ro todo' items' s X a jump s' hr (hW.to hi)
   exact⟨X',a',it,.head hst g1,g2⟩
  cases todo with
  | nil=>
   have:items=[]:=az hW.items.len.symm
   subst this
   simp only [run,ab,aq]at h
   obtain⟨rfl,rfl⟩:=h
   exact⟨X,a,[],Steps.refl _ _,hW.fr,Ext.refl _ _,rfl,rfl⟩
  | cons x k=>
   cases items with
   | nil=>have:=hW.items.len;simp at this
   | cons it ks=>
    obtain⟨hx,hks⟩:=hW.items.of_cons
    cases hx with
    | inBlock id=>exact go (by simpa [run]using h) hks stepR_inBlock
    | inLoop hm=>exact go (by simpa [run]using h) (A2.cons (.code hm) (A2.cons (.inLoop hm) hks)) stepR_inLoop
    | inScope hm hs=>exact go (by simpa [run]using h) hks Cc
    | kV hb hl=>
     rename_i bb L
     simp only [run]at h
     split at h
     ·rename_i f t ps as bd q pend d hlp
      split at h
      ·simp at h
      ·rename_i hq
       rw [←hW.fr.heap]at hlp
       obtain⟨m0,us,ps',as',bd',jo,Ld,qc,h2,h3,h4,h5,h6,h7,h8,h9⟩:=vS hW.fr.sr hb hlp
       obtain⟨g1,g2⟩:=EU hW.fr.sr hb hlp (q':=.exhausted) h2 h3 h4 h5 h6 h7 h8 h9
       have hne:(q.of)≠LoopState.busy:=by cases q<;>simp [jK.of]at hq ⊢
       have hst:=stepR_endRangeFunc (P:=Q) (b:=b) (a:=a) (k:=ks) (cs:=cs) (run_endLoop (P:=Q) qc hne)
       have key:∀ {todo' items'},run call fn m ro todo' { s with heap:=s.heap.set bb (.lp f t ps as bd .exhausted pend d) }=some (jump,s')→A2 (jQ Q σ n X) todo' items'→items'=(jo.map Item.code).toList++ks →
         ∃ X' a' items',Steps Q (lone (b.atR a (.endRangeFunc L.c::ks)) cs X.w) (lone (b.atR a' items') cs X'.w)∧Fr Q σ n X' s' a'∧Ext X.H.length X X'∧a'.tmps.size=a.tmps.size∧aIl jump items':=by
        intro todo' items' hr hi he
        obtain⟨X',a',it,k1,k2,k3,k4,k5⟩:=ih n b cs ro todo' items' _ _ a jump s' hr (hW.ext (a':=a) g2 ⟨by rw [←hW.fr.heap],g1,by simpa [World.putObj]using hW.fr.b,hW.fr.regs.ext' σ g2,hW.fr.defs.ext' g2,hW.fr.size⟩ hi)
        rw [he]at k1
        exact⟨X',a',it,.head hst k1,k2,g2.trans (k3.mono g2.len),k4,k5⟩
       split at h
       ·cases jo with
        | none=>exact key h hks rfl
        | some c=>exact h7.elim
       ·cases jo with
        | none=>exact h7.elim
        | some c=>
         have h7:bQ Q σ m0 c .ret=true:=h7
         cases c<;>simp [bQ]at h7
         exact key h (A2.cons (.code (by simp [bQ])) hks) rfl
       ·rename_i id
        cases jo with
        | none=>exact h7.elim
        | some c=>
         have h7:bQ Q σ m0 c (.exit id)=true:=h7
         cases c<;>simp [bQ]at h7
         subst h7
         exact key h (A2.cons (.code (by simp [bQ])) hks) rfl
       ·simp at h
     ·simp at h
    | qN=>
     simp only [run]at h
     split at h
     ·simp at h
     ·rename_i bb
      split at h
      ·rename_i f t ps as bd pend d hlp
       have hro:=hW.ro
       cases hbr:b.roundOf with
       | none=>rw [hbr]at hro;exact hro.elim
       | some l=>
        rw [hbr]at hro
        obtain⟨L,hL,rfl,_⟩:=hro
        rw [←hW.fr.heap]at hlp
        obtain⟨m0,us,ps',as',bd',jo,Ld,qc,h2,h3,h4,h5,h6,h7,h8,h9⟩:=vS hW.fr.sr hL hlp
        obtain⟨g1,g2⟩:=EU hW.fr.sr hL hlp (q':=.busy) h2 h3 h4 h5 h6 h7 h8 h9
        have hst:=stepR_beginRound (P:=Q) (b:=b) (a:=a) (k:=ks) (cs:=cs) hbr (run_beginRound (P:=Q) qc rfl)
        obtain⟨X',a',it,k1,k2,k3,k4,k5⟩:=ih n b cs _ k ks _ _ a jump s' h (hW.ext (a':=a) g2 ⟨by rw [←hW.fr.heap],g1,by simpa [World.putObj]using hW.fr.b,hW.fr.regs.ext' σ g2,hW.fr.defs.ext' g2,hW.fr.size⟩ hks)
        exact⟨X',a',it,.head hst k1,k2,g2.trans (k3.mono g2.len),k4,k5⟩
      ·simp at h
    | code hm=>
     rename_i ac c
     cases ac with
     | bad=>simp [run]at h
     | skip=>cases c<;>simp [bQ]at hm;exact go (by simpa [run]using h) hks stepR_skip
     | label l=>cases c<;>simp [bQ]at hm;exact go (by simpa [run]using h) hks stepR_label
     | scope p=>
      cases c<;>simp [bQ]at hm
      exact go (by simpa [run]using h) (A2.cons (.code hm.1) (A2.cons (.inScope hm.1 hm.2) hks)) Ij
     | goto l=>
      cases c<;>simp [bQ]at hm
      subst hm
      rename_i l'
      have hex:=DN (Q:=Q) (σ:=σ) (n:=n) (X:=X) l' k ks hks
      simp only [run]at h
      split at h
      ·rename_i k' hk'
       rw [hk']at hex
       obtain⟨ks',he,aGi⟩:=hex
       exact go h aGi (stepR_goto he)
      ·simp at h
     | ret=>
      cases c<;>simp [bQ]at hm
      simp only [run,ab,aq]at h
      obtain⟨rfl,rfl⟩:=h
      exact⟨X,a,_,Steps.refl _ _,hW.fr,Ext.refl _ _,rfl,ks,rfl⟩
     | seq p q=>
      cases c<;>simp [bQ]at hm
      exact go (by simpa [run]using h) (A2.cons (.code hm.1) (A2.cons (.code hm.2) hks)) stepR_seq
     | block id p=>
      cases c<;>simp [bQ]at hm
      obtain⟨rfl,hm⟩:=hm
      exact go (by simpa [run]using h) (A2.cons (.code hm) (A2.cons (.inBlock _) hks)) stepR_block
     | loop p=>
      cases c<;>simp [bQ]at hm
      exact go (by simpa [run]using h) (A2.cons (.code hm) (A2.cons (.inLoop hm) hks)) stepR_loop
     | exit id=>
      cases c<;>simp [bQ]at hm
      subst hm
      rename_i id'
      have hex:=DU (Q:=Q) (σ:=σ) (n:=n) (X:=X) id' k ks hks
      simp only [run]at h
      split at h
      ·rename_i k' hk'
       rw [hk']at hex
       obtain⟨ks',he,aGi⟩:=hex
       exact go h aGi (stepR_exit he)
      ·rename_i hk'
       rw [hk']at hex
       split at h
       ·simp only [ab,aq]at h
        obtain⟨rfl,rfl⟩:=h
        exact⟨X,a,_,Steps.refl _ _,hW.fr,Ext.refl _ _,rfl,ks,rfl,hex⟩
       ·simp at h
     | cond x p q=>
      cases c<;>simp [bQ]at hm
      simp only [run]at h
      split at h
      ·rename_i v hv
       have hx:=bG hW.fr.regs hm.1.1
       rw [hv]at hx
       have hx':FCR σ X.F X.w (.bool v) _:=hx
       have he:∀ u,FCR σ X.F X.w (.bool v) u→u=.bool v:=fun u hu=>by cases hu;rfl
       refine go h ?_ (stepR_cond (he _ hx'))
       cases v
       ·exact A2.cons (.code hm.2) hks
       ·exact A2.cons (.code hm.1.2) hks
      ·simp at h
     | region aos chk=>
      cases c with
      | region id ops draw=>
       simp only [run]at h
       split at h
       ·simp at h
       ·rename_i hro
        split at h
        ·rename_i s1 h1
         have hnr:∀ y ∈ aos,jC y.op b:=by
          intro y hy
          unfold jC
          cases ro with
          | none=>
           refine .inl ?_
           have:=hW.ro
           cases hb:b.roundOf with
           | none=>rfl
           | some l=>rw [hb]at this;exact this.elim
          | some r=>
           simp only [Option.isSome_some,Bool.true_and,c8,Bool.not_eq_false]at hro
           exact .inr (aL.1 hro y hy)
         obtain⟨X1,a1,g1,g2,g3,g4⟩:=QY hC ajo hm hW.kind hnr (k:=ks) hW.fr h1
         obtain⟨X',a',it,k1,k2,k3,k4,k5⟩:=ih n b cs ro k ks s1 X1 a1 jump s' h (hW.ext g3 g2 hks)
         exact⟨X',a',it,g1.trans k1,k2,g3.trans (k3.mono g3.len),k4.trans g4,k5⟩
        ·simp at h
      | _=>simp [bQ]at hm
     | gK f ps as bd=>
      cases c with
      | rangeFunc f' ps' as' bd'=>
       simp only [bQ,am]at hm
       obtain⟨⟨⟨hm1,hm2⟩,hm3⟩,hm4⟩:=hm
       simp only [run]at h
       split at h
       ·simp at h
       ·rename_i hro
        have hrn:b.roundOf=none:=by
         have:=hW.ro
         cases ro with
         | some r=>simp at hro
         | none=>
          cases hb:b.roundOf with
          | none=>rfl
          | some l=>rw [hb]at this;exact this.elim
        split at h
        ·rename_i g args fD
         split at h
         ·rename_i r2 H2 hcall
          obtain⟨X1,w1,H1,S1,E1,r1,B1⟩:=SR.new hW.fr.sr hW.fr.b (.dfr true) (Adds.alloc X.w (.deferred (some []))) 0 (fun X' hx hw hF hH=>by
           show X'.w.heap[X.w.heap.size]?=_
           rw [hw];exact(Adds.alloc X.w (.deferred (some []))).new)
          have hd1:X1.H[X.H.length]?=some (.dfr true):=by rw [H1];simp
          have aLl:X.H.length<X1.H.length:=by rw [H1];simp
          have hsz1:X1.w.heap.size=X.w.heap.size+1:=by rw [w1];simp
          obtain⟨X2,w2,H2',S2,E2,r2',B2⟩:=SR.new S1 B1 (.lp fn s.regs ps as bd .ready none s.heap.length)
           (Adds.alloc X1.w (.loop { state:=.ready,pending:=none,fn:=b.fn,tmps:=a.tmps,params:=ps',assign:=as',body:=bd',defers:=X.w.heap.size })) 0 (fun X' hx hw hF hH=>by
            obtain⟨blk',hb',hk'⟩:=hx.keep X.H.length aLl _ hd1
            cases blk'<;>simp only at hk'
            refine⟨n,a.tmps,ps',as',bd',none,⟨X.w.heap.size,0⟩,?_,hW.fr.size,RR.ext' σ hx (RR.ext' σ E1 hW.fr.regs),hm2,hm3,hm4,trivial,?_,?_⟩
            ·show X'.w.heap[X1.w.heap.size]?=_
             rw [hw,(Adds.alloc X1.w (.loop { state:=.ready,pending:=none,fn:=b.fn,tmps:=a.tmps,params:=ps',assign:=as',body:=bd',defers:=X.w.heap.size })).new,hW.fn];rfl
            ·rw [←hW.fr.heap];exact hk' _ r1
            ·rw [←hW.fr.heap];exact⟨_,hb'⟩)
          have hx2:Ext X.H.length X X2:=E1.trans (E2.mono E1.len)
          have hH2:X2.H=s.heap++[.dfr true,.lp fn s.regs ps as bd .ready none s.heap.length]:=by rw [H2',H1,←hW.fr.heap];simp
          have hl1:X1.H.length=s.heap.length+1:=by rw [H1,←hW.fr.heap];simp
          have hlp:Mc X2 (s.heap.length+1):=⟨fn,s.regs,ps,as,bd,.ready,none,s.heap.length,by rw [hH2,bj (by omega)];simp⟩
          rw [hl1,hsz1]at r2'
          have harg:A2 (VR σ X2) [.c (.yl (s.heap.length+1))] [.func (.yield (X.w.heap.size+1)) #[] #[]]:=A2.cons ⟨⟨X.w.heap.size+1,0⟩,r2',hlp,rfl⟩ A2.nil
          obtain⟨fst,cap,hv1,hv2⟩:=uH fD (VR.ext' σ hx2 (bG hW.fr.regs hm1)) harg
          rw [←hH2]at hcall
          have hen:=hC.enters _ _ _ _ hcall
          let a1:Act:={ a with defers:={ target:=.collected X.w.heap.size,args:=#[] }::a.defers }
          obtain⟨fr,X3,u,q1,⟨l1,l2,l3,l4,fn',l5,l6⟩,q3,q4,q5,q6,q7⟩:=hC.fn g args _ r2 H2 hcall X2 _ .normal (b.atR a1 (.inRangeFunc (X.w.heap.size+1)::ks)::cs) rfl S2 B2 hv2 (.inl rfl)
          have hst:step Q (lone (b.atR a (.code (.rangeFunc f' ps' as' bd')::ks)) cs X.w)=.next (lone (Frame.enter Q (σ g) (fst.toArray++#[.func (.yield (X.w.heap.size+1)) #[] #[]]++cap.toArray) .normal) (b.atR a1 (.inRangeFunc (X.w.heap.size+1)::ks)::cs) X2.w):=by
           refine stepR_rangeFunc (P:=Q) (b:=b) (a:=a) (k:=ks) (cs:=cs) (l:=X.w.heap.size+1) (mark:=[{ target:=.collected X.w.heap.size,args:=#[] }]) (w₁:=X2.w) (w₁':=X2.w) (d:={ target:=.fn (.func (σ g)) cap.toArray,args:=fst.toArray++#[.func (.yield (X.w.heap.size+1)) #[] #[]] }) ?_ ?_ ?_
           ·rw [hrn,run_enterLoop_outer,w2,w1]
           ·simp only [resolve,hv1,Deferred.ofValue,Sem.run_bind,Sem.run_pure,Result.andThen_ok];simp [Act.eval]
           ·exact gW hen
          have hx3:Ext X.H.length X X3:=hx2.trans (q6.mono hx2.len)
          have hback:=step_leave_returned (P:=Q) (c:=b.atR a1 (.inRangeFunc (X.w.heap.size+1)::ks)) (cs:=cs) (show fr.leaving Q X3.w (.returned u) from⟨l1,l2,l3,fn',by rw [l4];exact l5,l6⟩)
          rw [finish_atR_inRangeFunc]at hback
          have aLe:=hlp.ext q6
          have hdf:BU σ X3 (.coll s.heap.length) { target:=.collected X.w.heap.size,args:=#[] }:=by
           obtain⟨blk',hb',hk'⟩:=(E2.trans (q6.mono E2.len)).keep X.H.length aLl _ hd1
           cases blk'<;>simp only at hk'
           rw [←hW.fr.heap]
           exact⟨⟨X.w.heap.size,0⟩,_,hk' _ r1,hb',rfl⟩
          obtain⟨X',a',it,k1,k2,k3,k4,k5⟩:=ih n b cs ro (.kV (s.heap.length+1)::k) (.endRangeFunc (X.w.heap.size+1)::ks) _ X3 a1 jump s' h
           ⟨⟨q3,q4,q7,RR.ext' σ hx3 hW.fr.regs,A2.cons hdf (hW.fr.defs.ext' hx3),hW.fr.size⟩,A2.cons (.kV (aLe.2 _ r2') aLe.1) (hks.weak fun _ _ h=>h.ext hx3),hW.ro.ext hx3,hW.kind,hW.fn⟩
          refine⟨X',a',it,.head hst (Steps.trans ?_ (.head hback k1)),k2,hx3.trans (k3.mono hx3.len),k4,k5⟩
          simpa using q1
         ·simp at h
        ·simp at h
      | _=>simp [bQ]at hm
end Km
end
section
namespace Km
open Go
variable{Q:Program}{σ:Nat→FuncId}{X:Wd}{call:dn}
def akb(Q:Program)(σ:Nat→FuncId)(prim:Nat→List V→Heap→Option (Option (V × Heap))):Prop:=
 ∀ f args H r H',prim f args H=some (some (r,H')) →
  (∀ as w,(callFunc (σ f) as).run Q w=.ok (.enter (σ f) as) w) ∧
  ∀(X:Wd) us kind cs,X.H=H→SR Q σ X→X.B≤X.w.heap.size→A2 (VR σ X) args us→uw kind cs →
   ∃ fr X' u,Steps Q (lone (Frame.enter Q (σ f) us.toArray kind) cs X.w) (lone fr cs X'.w)∧Leaves Q (σ f) kind fr u X'.w∧Post Q σ X r H' X' u
structure Env(Q:Program)(σ:Nat→FuncId)(tab:Nat→Option AFunc)(prim:Nat→List V→Heap→Option (Option (V × Heap))):Prop where
 mix:Q.follows .mixedOrders=true
 fn:∀ f af,tab f=some af→∃ fn,Q.funcs[σ f]?=some fn∧Qd Q σ fn af=true
 prim:akb Q σ prim
theorem zU:∀(ps:List P) (args:List V) (t:T) (s:Nat),ps.map P.toNat=List.range' s ps.length→args.length=ps.length→∀ q:P,
  (cO ps args t).get q=if s≤q.toNat then(args[q.toNat-s]?).getD (t.get q)else t.get q
 | [],args,t,s,_,hl,q=>by
  have:args=[]:=az hl
  subst this
  simp [cO]
 | p::ps,[],t,s,_,hl,q=>by simp at hl
 | p::ps,v::vs,t,s,hp,hl,q=>by
  simp only [aR,cP,List.range'_succ,List.cons.injEq]at hp
  have ih:=zU ps vs (t.set p v) (s+1) hp.2 (by simpa using hl) q
  simp only [cO,ih]
  by_cases hq:p=q
  ·subst hq
   rw [if_neg (by omega),T.wC]
   simp [hp.1]
  ·have hne:q.toNat≠s:=fun e=>hq (P.toNat_inj (hp.1.trans e.symm))
   simp only [T.wC,hq,if_false]
   by_cases hs:s≤q.toNat
   ·have h1:s+1≤q.toNat:=by omega
    have h2:q.toNat-s=(q.toNat-(s+1))+1:=by omega
    simp [h1,hs,h2]
   ·have h1:¬ (s+1≤q.toNat):=by omega
    simp [h1,hs]
theorem RR.cO:∀(ps:List P) (ps':List Tmp) (args:List V) (us:List Value) (regs:T) (tmps:Array Value) (n:Nat),n≤tmps.size→RR σ X regs tmps→A2 (VR σ X) args us→args.length=ps.length →
  all2 (fun p (q:P)=>q.toNat == p&&decide (p<n)) ps' ps=true→RR σ X (Km.cO ps args regs) ((ps'.zip us).foldl (fun tmps (t,a)=>tmps.setIfInBounds t a) tmps)
 | [],ps',args,us,regs,tmps,n,hn,hR,hA,hl,h=>by
  have:args=[]:=az hl
  subst this
  have:us=[]:=az hA.len.symm
  subst this
  simpa [Km.cO]using hR
 | p::ps,[],args,us,regs,tmps,n,hn,hR,hA,hl,h=>by simp [all2]at h
 | p::ps,p'::ps',[],us,regs,tmps,n,hn,hR,hA,hl,h=>by simp at hl
 | p::ps,p'::ps',v::vs,[],regs,tmps,n,hn,hR,hA,hl,h=>by have:=hA.len;simp at this
 | p::ps,p'::ps',v::vs,u::us,regs,tmps,n,hn,hR,hA,hl,h=>by
  simp only [all2,am,beq_iff_eq,decide_eq_true_eq]at h
  obtain⟨⟨h1,h2⟩,h3⟩:=h
  obtain⟨hvu,hA⟩:=hA.of_cons
  subst h1
  refine RR.cO ps ps' vs us _ _ n (by simpa using hn) (RR.set σ hR (by omega) hvu) hA (by simpa using hl) h3
theorem yL:∀(l:List (Tmp × Value)) (tmps:Array Value),(l.foldl (fun tmps (t,a)=>tmps.setIfInBounds t a) tmps).size=tmps.size
 | [],_=>rfl
 | x::l,tmps=>by rw [cK,yL l];simp
theorem ahU(fn:Nat):∀ m todo s jump s',run call fn m none todo s=some (jump,s')→jump=none∨jump=some .ret:=by
 intro m
 induction m with
 | zero=>intro todo s jump s' h;simp [run]at h
 | succ m ih=>
  intro todo s jump s' h
  unfold run at h
  split at h
  all_goals first
   | exact ih _ _ _ _ h
   | (simp at h;done)
   | skip
  ·simp only [ab,aq]at h;exact .inl h.1.symm
  ·split at h
   ·split at h
    ·simp at h
    ·split at h
     ·exact ih _ _ _ _ h
     ·exact ih _ _ _ _ h
     ·exact ih _ _ _ _ h
     ·simp at h
   ·simp at h
  ·split at h
   ·exact ih _ _ _ _ h
   ·simp at h
  ·simp only [ab,aq]at h;exact .inr h.1.symm
  ·split at h
   ·exact ih _ _ _ _ h
   ·simp at h
  ·split at h
   ·exact ih _ _ _ _ h
   ·simp at h
  ·split at h
   ·simp at h
   ·split at h
    ·exact ih _ _ _ _ h
    ·simp at h
  ·split at h
   ·simp at h
   ·simp only at h
    split at h
    ·split at h
     ·exact ih _ _ _ _ h
     ·simp at h
    ·simp at h
theorem yO{fn:Func}{af:AFunc}(h:Qd Q σ fn af=true):∃ c,fn.name≠ "runtime.NumGoroutine"∧fn.body=some c∧bQ Q σ fn.ntmps c af.body=true ∧
  all2 (F5 Q fn.ntmps) fn.results.toList af.results=true∧af.ps.map P.toNat=List.range af.ps.length:=by
 simp only [Qd,am,bne_iff_ne,ne_eq,decide_eq_true_eq]at h
 obtain⟨⟨⟨h1,h2⟩,h3⟩,h4⟩:=h
 cases hb:fn.body with
 | none=>rw [hb]at h2;simp at h2
 | some c=>rw [hb]at h2;exact⟨c,h1,rfl,h2,h3,h4⟩
theorem Fb{f:FuncId}{fn:Func}{c:Code}(hf:Q.funcs[f]?=some fn)(hn:fn.name≠ "runtime.NumGoroutine")(hb:fn.body=some c)(as:Array Value)(w:World):(callFunc f as).run Q w=.ok (.enter f as) w:=by
 simp [callFunc,hf,hn,hb]
def Returning(g:FuncId)(kind:CallKind)(tmps:Array Value)(ds:List Deferred)(fr:Frame):Prop:=
 fr.mode=.returning∧fr.defers=ds∧fr.kind=kind∧fr.fn=g∧fr.tmps=tmps
theorem step_collected{fr:Frame}{cs:List Frame}{w w':World}{b:Nat}{as:Array Value}{ds:List Deferred}(hm:fr.mode=.returning)(hd:fr.defers = { target:=.collected b,args:=as }::ds)
  (hr:(Instr.takeDeferred b).run Q w=.ok [] w'):step Q (lone fr cs w)=.next (lone { fr with defers:=ds } cs w'):=
 step_lone_go (by simp [stepG,unwind,hm,hd,Sem.runT_eq,hr])
theorem Cb{fr:Frame}{cs:List Frame}{w:World}{f:FuncId}{cap as as':Array Value}{ds:List Deferred}(hm:fr.mode=.returning)(hd:fr.defers = { target:=.fn (.func f) cap,args:=as }::ds)
  (hr:(invoke (.fn (.func f) cap) as).run Q w=.ok (.enter f as') w):step Q (lone fr cs w)=.next (lone (Frame.enter Q f as' .deferred) ({ fr with defers:=ds }::cs) w):=
 step_lone_go (by simp [stepG,unwind,hm,hd,callDeferred,Sem.runT_eq,hr])
theorem rO{fr c:Frame}{cs:List Frame}{w:World}{v:Value}{f:FuncId}(h:Leaves Q f .deferred fr v w)(hc:c.mode=.returning) :
  step Q (lone fr (c::cs) w)=.next (lone c cs w):=by
 obtain⟨hm,hd,hk,hf,fn,h1,h2⟩:=h
 rw [←hf]at h1
 exact step_lone_go (by simp [stepG,unwind,doReturn,hm,hd,hk,h1,Sem.runT_eq,h2,hc])
theorem Returning.pop{g:FuncId}{kind:CallKind}{tmps:Array Value}{d:Deferred}{ds:List Deferred}{fr:Frame}(h:Returning g kind tmps (d::ds) fr):Returning g kind tmps ds { fr with defers:=ds }:=
 ⟨h.1,rfl,h.2.2.1,h.2.2.2.1,h.2.2.2.2⟩
theorem Gx(hC:iF Q σ call){g:FuncId}{kind:CallKind}{tmps:Array Value}{cs:List Frame}:∀(ds:List eP) (X:Wd) (ms:List Deferred) (fr:Frame) (H':Heap),
  fG call ds X.H=some H'→SR Q σ X→X.B≤X.w.heap.size→jc σ X ds ms→Returning g kind tmps ms fr →
  ∃ fr' X',Steps Q (lone fr cs X.w) (lone fr' cs X'.w)∧Returning g kind tmps [] fr'∧X'.H=H'∧SR Q σ X'∧X'.B≤X'.w.heap.size∧Ext X.H.length X X'
 | [],X,ms,fr,H',h,hS,hB,hD,hR=>by
  have:ms=[]:=az hD.len.symm
  subst this
  simp only [fG,ab]at h
  exact⟨fr,X,Steps.refl _ _,hR,h,hS,hB,Ext.refl _ _⟩
 | d::ds,X,[],fr,H',h,hS,hB,hD,hR=>by have:=hD.len;simp at this
 | .coll b::ds,X,m::ms,fr,H',h,hS,hB,hD,hR=>by
  obtain⟨⟨L,o,h1,h2,rfl⟩,hD'⟩:=A2.of_cons hD
  simp only [fG]at h
  split at h
  ·rename_i hb
   obtain⟨_,_,blk,hb',hbr⟩:=hS.br b L h1
   rw [hb]at hb';cases hb'
   have qc:X.w.heap[L.c]?=some (.deferred (some [])):=hbr
   obtain⟨g1,g2⟩:=SR.uN (o':=.deferred none) (blk':=.dfr false) hS hb h1 qc (by simp) (by simp)
    (fun blk hblk=>⟨.dfr false,by simp [(ai.1 hb).1],by rw [hb]at hblk;cases hblk;exact fun L h=>h⟩)
    (fun X' hx' hw1 _ oU hH=>hw1)
   obtain⟨fr',X',k1,k2,k3,k4,k5,k6⟩:=Gx hC ds _ ms { fr with defers:=ms } H' h g1 (by simpa using hB) (jc.ext' g2 hD') hR.pop
   exact⟨fr',X',.head (step_collected hR.1 hR.2.1 (run_takeDeferred qc)) k1,k2,k3,k4,k5,g2.trans (k6.mono g2.len)⟩
  ·simp at h
 | .fn f args::ds,X,m::ms,fr,H',h,hS,hB,hD,hR=>by
  obtain⟨⟨us,cap,rfl,hA⟩,hD'⟩:=A2.of_cons hD
  simp only [fG]at h
  split at h
  ·rename_i r H1 hcall
   have hen:=hC.enters f args _ _ hcall
   obtain⟨fr1,X1,u,q1,q2,q3,q4,q5,q6,q7⟩:=hC.fn f args _ r H1 hcall X _ .deferred ({ fr with defers:=ms }::cs) rfl hS hB hA (.inr ⟨rfl,_,_,rfl,hR.1⟩)
   rw [←q3]at h
   obtain⟨fr',X',k1,k2,k3,k4,k5,k6⟩:=Gx hC ds X1 ms { fr with defers:=ms } H' h q4 q7 (jc.ext' q6 hD') hR.pop
   refine⟨fr',X',.head (Cb (as':=us++cap) hR.1 hR.2.1 (gW hen)) (Steps.trans ?_ (.head (rO (c:={ fr with defers:=ms }) q2 hR.1) k1)),k2,k3,k4,k5,q6.trans (k6.mono q6.len)⟩
   have e:(us.toList++cap.toList).toArray=us++cap:=by apply Array.ext';simp
   rw [e]at q1
   exact q1
  ·simp at h
theorem aCo(hS:SR Q σ X){n:Nat}{regs:T}{tmps:Array Value}(hR:RR σ X regs tmps){r:ResultVar}{a:ARes}(hm:F5 Q n r a=true){v:V}
  (h:resOne regs X.H a=some v):∃ u,(match r with | .tmp t=>pure (tmps.getD t undef) | .cell a t=>do loadVar t (←asAddr (tmps.getD a undef)):Sem Value).run Q X.w=.ok u X.w∧VR1 σ X v u:=by
 cases r with
 | tmp t=>
  cases a with
  | tmp p=>
   simp only [F5,am,beq_iff_eq,decide_eq_true_eq]at hm
   have hv:=hR p
   rw [hm.1]at hv
   simp only [resOne]at h
   refine⟨_,rfl,?_⟩
   split at h
   ·simp at h
   ·rename_i hne
    simp only [ab]at h
    rw [h]at hv
    cases v with
    | t vs=>exact absurd h (hne vs)
    | top=>trivial
    | c x=>exact hv
    | a xs=>exact hv
  | cell p k=>simp [F5]at hm
 | cell t ty=>
  cases a with
  | tmp p=>simp [F5]at hm
  | cell p k=>
   simp only [F5,am,beq_iff_eq,decide_eq_true_eq]at hm
   have hv:=hR p
   rw [hm.1.1]at hv
   simp only [resOne]at h
   cases hx:regs.get p with
   | c x=>
    rw [hx]at h hv
    simp only [ldV,bu]at h
    obtain⟨cs,h1,h2⟩:=h
    obtain⟨c,o,us,he,h3,h4⟩:=Bl hS hv h1
    obtain⟨u,h5,h6⟩:=Ih hm.2 h3 h4 h2
    refine⟨u,by simp [he,asAddr,h5],?_⟩
    cases k with
    | none=>cases cs with
     | nil=>simp [aQ]at h2
     | cons y ys=>simp only [aQ,ab]at h2;subst h2;exact h6
    | some k=>
     simp only [aQ]at h2
     split at h2
     ·simp only [ab]at h2;subst h2;exact h6
     ·simp at h2
   | _=>rw [hx]at h;simp [ldV]at h
theorem KJ(hS:SR Q σ X){fn:Func}{rs:List ARes}(hm:all2 (F5 Q fn.ntmps) fn.results.toList rs=true){regs:T}{tmps:Array Value}(hR:RR σ X regs tmps){v:V}
  (h:Km.results regs X.H rs=some v):∃ u,(Go.results fn tmps).run Q X.w=.ok u X.w∧VR σ X v u:=by
 have key:∀(rs:List ARes) (qs:List ResultVar) (vs:List V),all2 (F5 Q fn.ntmps) qs rs=true→bf (resOne regs X.H) rs=some vs →
   ∃ us:List Value,(qs.mapM (fun r=>match r with | .tmp t=>pure (tmps.getD t undef) | .cell a t=>do loadVar t (←asAddr (tmps.getD a undef)):ResultVar→Sem Value)).run Q X.w=.ok us X.w∧A2 (VR1 σ X) vs us:=by
  intro rs
  induction rs with
  | nil=>
   intro qs vs h1 h2
   cases qs with
   | nil=>simp only [bf,ab]at h2;subst h2;exact⟨[],rfl,A2.nil⟩
   | cons q qs=>simp [all2]at h1
  | cons a rs ih=>
   intro qs vs h1 h2
   cases qs with
   | nil=>simp [all2]at h1
   | cons q qs=>
    simp only [all2,am]at h1
    simp only [bf]at h2
    split at h2
    ·simp at h2
    ·rename_i v1 e1
     split at h2
     ·simp at h2
     ·rename_i vs1 e2
      simp only [ab]at h2;subst h2
      obtain⟨u,g1,g2⟩:=aCo hS hR h1.1 e1
      obtain⟨us,g3,g4⟩:=ih qs vs1 h1.2 e2
      refine⟨u::us,?_,A2.cons g2 g4⟩
      rw [List.mapM_cons,Sem.run_bind,g1]
      simp only [Result.andThen_ok,Sem.run_bind,g3,Sem.run_pure]
 unfold Km.results at h
 have fin:∀ vs,bf (resOne regs X.H) rs=some vs→∃ us:List Value,(Go.results fn tmps).run Q X.w=.ok (if h:us.toArray.size=1 then us.toArray[0]else .tuple us.toArray) X.w∧A2 (VR1 σ X) vs us:=by
  intro vs hvs
  obtain⟨us,g1,g2⟩:=key rs fn.results.toList vs hm hvs
  refine⟨us,?_,g2⟩
  unfold Go.results
  rw [Array.mapM_eq_mapM_toList,Sem.run_bind,Sem.run_map]
  exact(congrArg (fun r:Result (List Value)=>(r.andThen fun a w'=>Result.ok a.toArray w').andThen fun a w'=>Sem.run Q (pure (if h:a.size=1 then a[0]else Value.tuple a)) w') g1).trans rfl
 split at h
 ·rename_i v1 hvs
  simp only [ab]at h;subst h
  obtain⟨us,g1,g2⟩:=fin _ hvs
  match us,g2 with
  | [u],g2=>exact⟨u,g1,VR.of1 σ g2.of_cons.1⟩
  | [],g2=>have:=g2.len;simp at this
  | _::_::_,g2=>have:=g2.len;simp at this
 ·rename_i vs hne hvs
  simp only [ab]at h;subst h
  obtain⟨us,g1,g2⟩:=fin _ hvs
  refine⟨.tuple us.toArray,?_,us,rfl,g2⟩
  rw [g1,dif_neg]
  intro hsz
  match us,hsz with
  | [u],_=>
   match vs,g2 with
   | [v1],_=>exact hne v1 rfl
   | [],g2=>have:=g2.len;simp at this
   | _::_::_,g2=>have:=g2.len;simp at this
  | [],hsz=>simp at hsz
  | _::_::_,hsz=>simp at hsz
 ·simp at h
end Km
end
section
namespace Km
open Go
variable{Q:Program}{σ:Nat→FuncId}{tab:Nat→Option AFunc}{prim:Nat→List V→Heap→Option (Option (V × Heap))}
theorem aLu(hE:Env Q σ tab prim){m:Nat}{call:dn}(hC:iF Q σ call){f:Nat}{af:AFunc}(htab:tab f=some af){args:List V}(hlen:args.length=af.ps.length){jump:Option ah}{s':St}{X:Wd}
  (hrun:run call f m none [.code af.body] ⟨cO af.ps args .e,[],X.H⟩=some (jump,s')) {H':Heap} (wz:fG call s'.defs s'.heap=some H') {r:V} (hres:Km.results s'.regs H' af.results=some r)
  {us:List Value} {kind:CallKind} {cs:List Frame} (hS:SR Q σ X) (hB:X.B≤X.w.heap.size) (hA:A2 (VR σ X) args us) (hk:uw kind cs) :
  ∃ fr X' u,Steps Q (lone (Frame.enter Q (σ f) us.toArray kind) cs X.w) (lone fr cs X'.w)∧Leaves Q (σ f) kind fr u X'.w∧Post Q σ X r H' X' u:=by
 obtain⟨fn,hf,hm⟩:=hE.fn f af htab
 obtain⟨c,hname,hbody,hcode,hrs,hps⟩:=yO hm
 let b:Frame:=Frame.enter Q (σ f) us.toArray kind
 let a0:Act:={ tmps:=us.toArray++Array.replicate (fn.ntmps-us.toArray.size) undef,defers:=[] }
 have hb:b=b.atR a0 [.code c]:=by
  simp [b,a0,Frame.enter,Frame.atR,hf,hbody]
 have hsz:fn.ntmps≤a0.tmps.size:=by simp [a0];omega
 have hRR:RR σ X (cO af.ps args .e) a0.tmps:=by
  intro p
  rw [zU af.ps args .e 0 (by rw [hps,List.range_eq_range']) hlen p]
  simp only [Nat.zero_le,if_true,Nat.sub_zero]
  by_cases hp:p.toNat<args.length
  ·have hx:=ae hp
   have hp':p.toNat<us.length:=hA.len▸hp
   have hy:=ae hp'
   have hv:=hA.2 _ _ _ hx hy
   rw [hx]
   have:a0.tmps.getD p.toNat undef=us[p.toNat]:=by
    simp [a0,Array.getD_eq_getD_getElem?,Array.getElem?_append,hp']
   rw [this];exact hv
  ·rw [dk (by omega)]
   cases p<;>trivial
 have hF:Fr Q σ fn.ntmps X ⟨cO af.ps args .e,[],X.H⟩ a0:=⟨rfl,hS,hB,hRR,A2.nil,hsz⟩
 have hW:Way Q σ f fn.ntmps b cs none [.code af.body] [.code c] ⟨cO af.ps args .e,[],X.H⟩ X a0:=⟨hF,A2.cons (.code hcode) A2.nil,trivial,hk,rfl⟩
 obtain⟨X1,a1,items',s1,F1,E1,_,J1⟩:=ahT hC hE.mix f m fn.ntmps b cs none _ _ _ X a0 jump s' hrun hW
 have hret:∃ fr1,Steps Q (lone (b.atR a1 items') cs X1.w) (lone fr1 cs X1.w)∧Returning (σ f) kind a1.tmps a1.defers fr1:=by
  rcases ahU f m _ _ _ _ hrun with rfl | rfl
  ·have:items'=[]:=J1
   subst this
   exact⟨_,.one (stepR_end rfl),rfl,rfl,rfl,rfl,rfl⟩
  ·obtain⟨k,rfl⟩:=J1
   exact⟨_,.one (stepR_ret rfl),rfl,rfl,rfl,rfl,rfl⟩
 obtain⟨fr1,s2,R1⟩:=hret
 rw [←F1.heap]at wz
 obtain⟨fr2,X2,s3,R2,h1,h2,h3,h4⟩:=Gx hC (cs:=cs) s'.defs X1 a1.defers fr1 H' wz F1.sr F1.b F1.defs R1
 rw [←h1]at hres
 obtain⟨u,g1,g2⟩:=KJ h2 hrs (RR.ext' σ h4 F1.regs) hres
 refine⟨fr2,X2,u,?_,⟨R2.1,R2.2.1,R2.2.2.1,R2.2.2.2.1,fn,hf,by rw [R2.2.2.2.2];exact g1⟩,h1,h2,g2,E1.trans (h4.mono E1.len),h3⟩
 show Steps Q (lone b cs X.w) _
 rw [hb]
 exact s1.trans (s2.trans s3)
theorem ahr(hE:Env Q σ tab prim){m:Nat}{call:dn}(hC:iF Q σ call){b:Nat}{f:Nat}{tmps:T}{ps:List P}{as bd:ah}{q:jK}{pd:Option ah}{d:Nat}{X:Wd}(hlp:X.H[b]?=some (.lp f tmps ps as bd q pd d))
  {args:List V} (hlen:args.length=ps.length) {jump:Option ah} {s':St} (hrun:run call f m (some b) [.code as,.qN,.code bd] ⟨cO ps args tmps,[],X.H⟩=some (jump,s')) (wz:s'.defs.isEmpty=true)
  {f':Nat} {rX:T} {ps':List P} {as' bd':ah} {q':jK} {pd':Option ah} {d':Nat} (ajp:s'.heap[b]?=some (.lp f' rX ps' as' bd' q' pd' d'))
  {us:List Value} {c:Frame} {cs:List Frame} {L:Loc} (hS:SR Q σ X) (hB:X.B≤X.w.heap.size) (hA:A2 (VR σ X) args us) (hL:X.rho b=some L) :
  ∃ f tmps as bd X' u,(Instr.yield L.c us.toArray).run Q X.w=.ok (.round L.c f tmps as bd) X.w ∧
   Steps Q (lone (Frame.round L.c f tmps as bd .normal) (c::cs) X.w) (lone (c.finish u) cs X'.w)∧Post Q σ X (.bool jump.isNone) (s'.heap.set b (.lp f' rX ps' as' bd' (if jump.isNone then .ready else .done) jump d')) X' u:=by
 obtain⟨n,ts,qs,as0,bd0,aRl,Ld,qc,h2,h3,h4,h5,h6,h7,h8,h9⟩:=vS hS hL hlp
 have hq:=(iq h4).len
 have hsz:us.toArray.size=qs.size:=by
  have:=hA.len
  simp only [Array.length_toList]at hq
  simp;omega
 have hy:=run_yield (P:=Q) (args:=us.toArray) qc hsz
 let T0:Array Value:=(qs.zip us.toArray).foldl (fun tmps (t,a)=>tmps.setIfInBounds t a) ts
 have hT0:T0=(qs.toList.zip us).foldl (fun tmps (t,a)=>tmps.setIfInBounds t a) ts:=by
  simp only [T0]
  rw [←Array.foldl_toList]
  simp
 let a0:Act:={ tmps:=T0,defers:=[] }
 let B:Frame:=Frame.round L.c (σ f) T0 as0 bd0 .normal
 have hB0:B=B.atR a0 [.code as0,.beginRound,.code bd0]:=by simp [B,a0,Frame.round,Frame.atR]
 have hRR:RR σ X (cO ps args tmps) T0:=by
  rw [hT0];exact RR.cO ps qs.toList args us tmps ts n h2 h3 hA hlen h4
 have hn:n≤T0.size:=by rw [hT0,yL];exact h2
 have hF:Fr Q σ n X ⟨cO ps args tmps,[],X.H⟩ a0:=⟨rfl,hS,hB,hRR,A2.nil,hn⟩
 have aLh:Mc X b:=⟨_,_,_,_,_,_,_,_,hlp⟩
 have hW:Way Q σ f n B (c::cs) (some b) [.code as,.qN,.code bd] [.code as0,.beginRound,.code bd0] ⟨cO ps args tmps,[],X.H⟩ X a0:=
  ⟨hF,A2.cons (.code h5) (A2.cons .qN (A2.cons (.code h6) A2.nil)),⟨L,hL,rfl,aLh⟩,.inl rfl,rfl⟩
 obtain⟨X1,a1,items',s1,F1,E1,_,J1⟩:=ahT hC hE.mix f m n B (c::cs) (some b) _ _ _ X a0 jump s' hrun hW
 have hL1:=(aLh.ext E1).2 _ hL
 rw [←F1.heap]at ajp
 obtain⟨n1,ts1,qs1,as1,bd1,Ae,Ld1,ajn,k2,k3,k4,k5,k6,k7,k8,k9⟩:=vS F1.sr hL1 ajp
 have fin:∀(vW:Option Code),DI Q σ n1 jump vW→vW.isNone=jump.isNone→step Q (lone (B.atR a1 items') (c::cs) X1.w)=.next (lone (c.finish (.bool vW.isNone)) cs (X1.w.putObj L.c (.loop { state:=if vW.isNone then .ready else .done,pending:=vW,fn:=σ f',tmps:=ts1,params:=qs1,assign:=as1,body:=bd1,defers:=Ld1.c }))) →
   ∃ f tmps as bd X' u,(Instr.yield L.c us.toArray).run Q X.w=.ok (.round L.c f tmps as bd) X.w ∧
   Steps Q (lone (Frame.round L.c f tmps as bd .normal) (c::cs) X.w) (lone (c.finish u) cs X'.w)∧Post Q σ X (.bool jump.isNone) (s'.heap.set b (.lp f' rX ps' as' bd' (if jump.isNone then .ready else .done) jump d')) X' u:=by
  intro vW hj hn hst
  obtain⟨g1,g2⟩:=EU F1.sr hL1 ajp (q':=if jump.isNone then .ready else .done) (Ae:=jump) (jo:=vW) k2 k3 k4 k5 k6 hj k8 k9
  have hq:(if jump.isNone then jK.ready else jK.done).of=(if vW.isNone then LoopState.ready else LoopState.done):=by
   rw [hn];cases jump<;>rfl
  rw [hq]at g1 g2
  refine⟨σ f,T0,as0,bd0,_,.bool vW.isNone,hy,?_,?_,g1,?_,E1.trans (g2.mono E1.len),?_⟩
  ·show Steps Q (lone B (c::cs) X.w) _
   rw [hB0]
   exact s1.trans (.one hst)
  ·rw [←F1.heap]
  ·rw [hn];exact VR.Ar _
  ·have:=F1.b
   simpa [World.putObj]using this
 cases jump with
 | none=>
  have:items'=[]:=J1
  subst this
  exact fin none trivial rfl (stepR_round_end rfl rfl (run_endRound (P:=Q) none ajn))
 | some j=>
  cases j with
  | ret=>
   obtain⟨k,rfl⟩:=J1
   exact fin (some .ret) (by simp [DI,bQ]) rfl (stepR_round_ret rfl rfl (run_endRound (P:=Q) (some .ret) ajn))
  | exit id=>
   obtain⟨k,rfl,hx⟩:=J1
   exact fin (some (.exit id)) (by simp [DI,bQ]) rfl (stepR_round_exit rfl rfl hx (run_endRound (P:=Q) (some (.exit id)) ajn))
  | _=>exact J1.elim
theorem ajI(hE:Env Q σ tab prim)(m:Nat):∀ d,iF Q σ (gB tab prim m d):=by
 intro d
 induction d with
 | zero=>exact⟨fun f args H r h=>by simp [gB]at h,fun f args H r H' h=>by simp [gB]at h,fun b args H r H' h=>by simp [gB]at h⟩
 | succ d hC=>
  refine⟨fun f args H r h=>?_,fun f args H r H' h X us kind cs hX hS hB hA hk=>?_,fun b args H r H' h X us c cs L hX hS hB hA hL=>?_⟩
  ·simp only [gB]at h
   split at h
   ·rename_i r' hp
    obtain⟨r0,H0⟩:=r
    exact(hE.prim f args H r0 H0 (by rw [hp,h])).1
   ·split at h
    ·simp at h
    ·rename_i af htab
     obtain⟨fn,hf,hm⟩:=hE.fn f af htab
     obtain⟨c,hname,hbody,_⟩:=yO hm
     exact Fb hf hname hbody
  ·simp only [gB]at h
   split at h
   ·rename_i r' hp
    exact(hE.prim f args H r H' (by rw [hp,h])).2 X us kind cs hX hS hB hA hk
   ·split at h
    ·simp at h
    ·rename_i af htab
     split at h
     ·rename_i hlen
      split at h
      ·rename_i jump s' hrun
       split at h
       ·rename_i H1 wz
        simp only [an,aq]at h
        obtain⟨r1,hres,rfl,rfl⟩:=h
        subst hX
        exact aLu hE hC htab hlen hrun wz hres hS hB hA hk
       ·simp at h
      ·simp at h
     ·simp at h
  ·simp only [gB]at h
   split at h
   ·rename_i f tmps ps as bd q pd d' hlp
    split at h
    ·rename_i hlen
     split at h
     ·rename_i jump s' hrun
      split at h
      ·rename_i hd
       split at h
       ·rename_i f' rX ps' as' bd' q' pd' d'' ajp
        simp only [ab,aq]at h
        obtain⟨rfl,rfl⟩:=h
        subst hX
        exact ahr hE hC hlp hlen hrun hd ajp hS hB hA hL
       ·simp at h
      ·simp at h
     ·simp at h
    ·simp at h
   ·simp at h
end Km
end
section
namespace Km
open Go
inductive Eff where
 | no
 | set (b:Nat) (x:Blk)
 | push (x:Blk)
def Eff.app(H:Heap):Eff→Heap
 | .no=>H
 | .set b x=>H.set b x
 | .push x=>H++[x]
def Bo(g:Nat→Option Blk):C→Option (List C)
 | .ptr b off ep=>match g b with
  | some (.box cs _)=>some (cs.drop off)
  | some (.opn _ cs _ e .loc)=>if ep=e then some (cs.drop off)else none
  | _=>none
 | .f (.fp cs off)=>some ((cs.drop off).map .f)
 | _=>none
def aFR(g:Nat→Option Blk)(n:Option Nat):V→Option V
 | .c x=>(Bo g x).bind (aQ n)
 | _=>none
def xu(g:Nat→Option Blk):C→Option Nat
 | .sl b _ l _ ep sz=>match g b with
  | some (.box _ _)=>some l
  | some (.opn s _ _ e _)=>if ep=e∧sz=s then some l else none
  | _=>none
 | .f .aB=>some 0
 | .f .es=>some 0
 | .f (.fs _ l)=>some l
 | _=>none
def uQ(g:Nat→Option Blk)(sz:Nat):C→Option (List C)
 | .sl b o l _ ep s=>match g b with
  | some (.box cs _)=>if o+l*sz≤cs.length then some ((cs.drop o).take (l*sz))else none
  | some (.opn s' cs _ e _)=>if ep=e∧s=s'∧o+l*sz≤cs.length then some ((cs.drop o).take (l*sz))else none
  | _=>none
 | .f .aB=>some []
 | .f .es=>some []
 | .f (.fs cs l)=>if cs.length=l*sz then some (cs.map .f)else none
 | _=>none
def xK(g:Nat→Option Blk):EqK→C→Option Bool
 | .ptr,.f .kF=>some true
 | .ptr,.f (.fp _ _)=>some false
 | .ptr,.ptr _ _ _=>some false
 | .sl,.f .aB=>some true
 | .sl,.f .es=>some false
 | .sl,.f (.fs _ _)=>some false
 | .sl,.sl b _ _ _ ep sz=>match g b with
  | some (.box _ _)=>some false
  | some (.opn s _ _ e st)=>if ep=e∧sz=s then some (st == .nil)else none
  | _=>none
 | .fn,.f .iY=>some true
 | .fn,.f (.fn _ _)=>some false
 | .fn,.cl _ _=>some false
 | .fn,.bm _ _=>some false
 | .ifc,.f .qw=>some true
 | _,_=>none
def aGz(g:Nat→Option Blk):EqK→V→V→Option Bool
 | .bool,.c x,.c y=>eqP .bool x y
 | .st ks,.a xs,.a ys=>eqL ks xs ys
 | .ptr,.c x,.c (.f .kF)=>xK g .ptr x
 | .sl,.c x,.c (.f .aB)=>xK g .sl x
 | .fn,.c x,.c (.f .iY)=>xK g .fn x
 | .ifc,.c x,.c (.f .qw)=>xK g .ifc x
 | _,_,_=>none
def zk(g:Nat→Option Blk)(sz:Nat)(x:V)(lo hi mx:Option V):Option V:=
 match x with
 | .c (.f .aB)=>match cZ 0 0 lo hi mx with
  | some _=>some (.c (.f .aB))
  | none=>none
 | .c (.f .es)=>match cZ 0 0 lo hi mx with
  | some _=>some (.c (.f .es))
  | none=>none
 | .c (.f (.fs cs n))=>match cZ n n lo hi mx with
  | some (l,h,m)=>
   if mx.isSome∧m=l then some (.c (.f .es))else
   some (.c (.f (.fs ((cs.drop (l*sz)).take ((h-l)*sz)) (h-l))))
  | none=>none
 | .c (.sl b o n cap ep s)=>match g b with
  | some (.box _ _)=>match cZ n cap lo hi mx with
   | some (l,h,m)=>if m=l then some (.c (.f .es))else some (.c (.sl b (o+l*sz) (h-l) (m-l) ep s))
   | none=>none
  | some (.opn s' _ _ e st)=>
   if ep=e∧s=sz∧s'=sz then
    match st with
    | .loc=>match cZ n n lo hi mx with
     | some (l,h,m)=>
      if mx.isSome∧m=l then some (.c (.f .es))
      else if l=h∧0<l then some (.c (.f (.fs [] 0)))
      else if mx.isSome then none
      else some (.c (.sl b (o+l*sz) (h-l) 0 ep s))
     | none=>none
    | .nil=>match cZ 0 0 lo hi mx with
     | some _=>some (.c (.f .aB))
     | none=>none
    | .es=>match cZ 0 0 lo hi mx with
     | some _=>some (.c (.f .es))
     | none=>none
   else none
  | _=>none
 | _=>none
def E8(g:Nat→Option Blk)(n sz:Nat)(x:V)(lo hi mx:Option V):Option V:=
 match x with
 | .c (.ptr b off _)=>match g b with
  | some (.box cs _)=>match cZ n n lo hi mx with
   | some (l,h,m)=>if off+n*sz≤cs.length then(if m=l then some (.c (.f .es))else some (.c (.sl b (off+l*sz) (h-l) (m-l) 0 sz)))else none
   | none=>none
  | _=>none
 | .c (.f (.fp cs off))=>match cZ n n lo hi mx with
   | some (l,h,m)=>if off+n*sz≤cs.length then(if m=l then some (.c (.f .es))else some (.c (.f (.fs ((cs.drop (off+l*sz)).take ((h-l)*sz)) (h-l)))))else none
   | none=>none
 | _=>none
def AL(g:Nat→Option Blk)(sz:Nat)(arr:Option Nat)(x i:V):Option V:=
 match jm i with
 | none=>none
 | some i=>
  if 0≤i then
   match arr,x with
   | none,.c (.sl b o l _ ep s)=>if i<l then
     (match g b with
      | some (.box _ _)=>some (.c (.ptr b (o+i.toNat*sz) ep))
      | some (.opn s' _ _ e .loc)=>if ep=e∧s=s' then some (.c (.ptr b (o+i.toNat*sz) ep))else none
      | _=>none)else none
   | none,.c (.f (.fs cs l))=>if i<l then some (.c (.f (.fp cs (i.toNat*sz))))else none
   | some n,.c (.ptr b o ep)=>if i<n then some (.c (.ptr b (o+i.toNat*sz) ep))else none
   | some n,.c (.f (.fp cs o))=>if i<n then some (.c (.f (.fp cs (o+i.toNat*sz))))else none
   | _,_=>none
  else none
def Aw(g:Nat→Option Blk)(ck:CK)(z:FC):V→V→Option V
 | .c (.f .vK),.c (.f k)=>if isKey ck k then some (lkR z none)else none
 | .c (.mp b),.c (.f k)=>match g b with
  | some (.map es)=>if isKey ck k then(xE ck k es).map (lkR z)else none
  | _=>none
 | _,_=>none
def MQ(g:Nat→Option Blk):V→Option V
 | .c x=>match xu g x with
  | some _=>match uQ g 1 x with
   | some cs=>(bf (fun c=>match c with | C.f (.int .u8 n)=>some (UInt8.ofNat n.toNat) | _=>none) cs).map fun l=>.c (.f (.str ⟨l.toArray⟩))
   | none=>none
  | none=>none
 | _=>none
def wP(g:Nat→Option Blk)(sz:Nat):V→Option (Nat × List C)
 | .c (.f (.str s))=>if sz=1 then some (s.size,s.toList.map fun b=>.f (.int .u8 b.toNat))else none
 | .c x=>match xu g x,uQ g sz x with
  | some l,some cs=>some (l,cs)
  | _,_=>none
 | _=>none
def KH(g:Nat→Option Blk):C→Option Nat
 | .sl b _ _ c ep sz=>match g b with
  | some (.box _ _)=>some c
  | some (.opn s _ _ e .nil)=>if ep=e∧sz=s then some 0 else none
  | some (.opn s _ _ e .es)=>if ep=e∧sz=s then some 0 else none
  | _=>none
 | .f .aB=>some 0
 | .f .es=>some 0
 | _=>none
def Gw(g:Nat→Option Blk):V→Option V
 | .c (.mi b)=>match g b with
  | some (.mit m _ true)=>match g m with
   | some (.map [e])=>some (.t [.c (.f e.1),mV e.2])
   | _=>none
  | _=>none
 | _=>none
def ahH(g:Nat→Option Blk)(x:C)(xs:List C):Option Eff:=
 match x with
 | .ptr b off ep=>match g b with
  | some (.box cs fl)=>if fl≤off∧off+xs.length≤cs.length then some (.set b (.box (over cs off xs) fl))else none
  | some (.opn sz cs fl e .loc)=>if ep=e∧fl≤off∧off+xs.length≤cs.length then some (.set b (.opn sz (over cs off xs) fl e .loc))else none
  | _=>none
 | _=>none
def Ls(g:Nat→Option Blk):V→Option (V × Eff)
 | .c (.it b)=>match g b with
  | some (.it s pos)=>
   if pos<s.size then
    let r:=Utf8.decode s pos
    some (.t [.bool true,.int .i64 pos,.int .i32 r.1],.set b (.it s (pos+r.2)))
   else some (.t [.bool false],.no)
  | _=>none
 | _=>none
def BD(g:Nat→Option Blk)(n0:Nat)(sz bytes:Nat)(x y:V):Option (V × Eff):=
 match wP g sz y with
 | none=>none
 | some (m,ys)=>
  if sz=0 then none else
  match x with
  | .c (.f .aB)=>if m=0 then some (.c (.f .aB),.no)else
    if dh m bytes then some (.c (.sl n0 0 m 0 0 sz),.push (.opn sz ys 0 0 .loc))else none
  | .c (.f .es)=>if m=0 then some (.c (.f .es),.no)else
    if dh m bytes then some (.c (.sl n0 0 m 0 0 sz),.push (.opn sz ys 0 0 .loc))else none
  | .c (.sl b o l cap ep s)=>match g b with
   | some (.box cs fl)=>
    if l+m≤cap then
     if fl≤o+l*sz∧o+l*sz+ys.length≤cs.length then some (.c (.sl b o (l+m) cap ep s),.set b (.box (over cs (o+l*sz) ys) fl))else none
    else if dh (l+m) bytes∧o+l*sz≤cs.length then some (.c (.sl n0 0 (l+m) 0 0 sz),.push (.opn sz ((cs.drop o).take (l*sz)++ys) 0 0 .loc))else none
   | some (.opn s' cs fl e st)=>
    if ep=e∧s'=sz∧s=sz then
     if m=0 then some (x,.no)
     else if o=0∧l*sz=cs.length∧fl≤cs.length then
      if dh (l+m) bytes then some (.c (.sl b 0 (l+m) 0 (ep+1) sz),.set b (.opn sz (cs++ys) fl (e+1) .loc))else none
     else if st=.loc∧fl≤o+l*sz∧o+l*sz+ys.length≤cs.length then
      some (.c (.sl b o (l+m) 0 ep sz),.set b (.opn sz (over cs (o+l*sz) ys) fl e .loc))
     else none
    else none
   | _=>none
  | _=>none
def MR(g:Nat→Option Blk)(sz:Nat)(x y:V):Option (V × Eff):=
 match wP g sz y,x with
 | some _,.c (.f .aB)=>some (.int .i64 0,.no)
 | some _,.c (.f .es)=>some (.int .i64 0,.no)
 | some (m,ys),.c (.sl b o l _ ep s')=>
  let n:=Nat.min m l
  match g b with
  | some (.box cs fl)=>if fl≤o∧o+n*sz≤cs.length then some (.int .i64 n,.set b (.box (over cs o (ys.take (n*sz))) fl))else none
  | some (.opn s cs fl e .loc)=>if ep=e∧s'=s∧s=sz∧fl≤o∧o+n*sz≤cs.length then some (.int .i64 n,.set b (.opn s (over cs o (ys.take (n*sz))) fl e .loc))else none
  | _=>none
 | _,_=>none
def GI(g:Nat→Option Blk)(sz:Nat)(zs:List FC)(x:V):Option Eff:=
 match x with
 | .c y=>match xu g y with
  | some 0=>some .no
  | some l=>
   if zs.length=sz then
    match y with
    | .sl b o _ _ ep s=>match g b with
     | some (.box _ _)=>ahH g (.ptr b o ep) ((dM l zs).map .f)
     | some (.opn s' _ _ e .loc)=>if ep=e∧s=s' then ahH g (.ptr b o ep) ((dM l zs).map .f)else none
     | _=>none
    | _=>none
   else none
  | none=>none
 | _=>none
def Kz(g:Nat→Option Blk)(sz:Nat)(x hi mx:V):Option (V × Eff):=
 match zk g sz x none (some hi) (some mx)with
 | some v=>some (v,.no)
 | none=>match x with
  | .c (.sl b o n _ ep s)=>match g b with
   | some (.opn s' cs fl e .loc)=>
    if ep=e∧s=sz∧s'=sz∧o=0 then
     match bnd hi n,bnd mx n with
     | some i,some j=>
      if i=j∧0<i∧i*sz≤cs.length then
       match bf fcC (cs.take (i*sz))with
       | some ys=>some (.c (.f (.fs ys i)),.set b (.opn s' cs (Nat.max fl (i*sz)) e .loc))
       | none=>none
      else none
     | _,_=>none
    else none
   | _=>none
  | _=>none
def Na(g:Nat→Option Blk)(n0:Nat)(sz bytes:Nat)(zs:List FC)(x n:V):Option (V × Eff):=
 match jm n with
 | some n=>
  if 0≤n∧zs.length=sz then
   match x with
   | .c (.f .aB)=>if n.toNat=0 then some (.c (.f .aB),.no)else
     if dh n.toNat bytes then some (.c (.sl n0 0 n.toNat 0 0 sz),.push (.opn sz ((dM n.toNat zs).map .f) 0 0 .loc))else none
   | .c (.f .es)=>if n.toNat=0 then some (.c (.f .es),.no)else
     if dh n.toNat bytes then some (.c (.sl n0 0 n.toNat 0 0 sz),.push (.opn sz ((dM n.toNat zs).map .f) 0 0 .loc))else none
   | _=>none
  else none
 | none=>none
def FT(g:Nat→Option Blk):V→Option (V × Eff)
 | .c (.mi b)=>match g b with
  | some (.mit m since done)=>match g m with
   | some (.map [])=>if done then none else some (.t [.bool false],.no)
   | some (.map [e])=>if done then some (.t [.bool false],.no)else if since=1 then some (.t [.bool true,.c (.f e.1),mV e.2],.set b (.mit m 1 true))else none
   | _=>none
  | _=>none
 | _=>none
def zZ(g:Nat→Option Blk)(n0:Nat):V→Option (V × Eff)
 | .c (.mp b)=>match g b with
  | some (.map es)=>if es.length≤1 then some (.c (.mi n0),.push (.mit b es.length false))else none
  | _=>none
 | _=>none
def ahv(regs:T)(g:Nat→Option Blk)(n0:Nat):AOp→Option (V × Eff)
 | .mov x=>some (x.ev regs,.no)
 | .pre o sz=>if o=.loc∨sz=0 then none else some (.c (.sl n0 0 0 0 0 sz),.push (.opn sz [] 0 0 o))
 | .pick c a b=>match c.ev regs with
  | .c (.f (.bool v))=>some ((if v then a else b).ev regs,.no)
  | _=>none
 | .alloc zs=>some (.c (.ptr n0 0 0),.push (.box (zs.map .f) 0))
 | .box x=>match (x.ev regs).cells? with
  | some xs=>some (.c (.ptr n0 0 0),.push (.box xs 0))
  | none=>none
 | .build zs ps=>(fV regs (zs.map .f) ps).map fun cs=>(.a cs,.no)
 | .aY sz zs n ps=>
  if n=0 then(if ps.isEmpty then some (.c (.f .es),.no)else none)else
  (fV regs ((dM n zs).map .f) (ps.map fun p=>(p.1*sz,sz,p.2))).map fun cs=>(.c (.sl n0 0 n n 0 sz),.push (.box cs 0))
 | .load n x=>(aFR g n (x.ev regs)).map (·,.no)
 | .store n x y=>match x.ev regs,(y.ev regs).cells? with
  | .c p,some xs=>if xs.length=n then(ahH g p xs).map (.top,·)else none
  | _,_=>none
 | .bD x=>match x.ev regs with
  | .c (.ptr b o e)=>some (.c (.ptr b o e),.no)
  | .c (.f (.fp cs o))=>some (.c (.f (.fp cs o)),.no)
  | _=>none
 | .bin op x y=>(bM op (x.ev regs) (y.ev regs)).map (·,.no)
 | .eq neg k x y=>(aGz g k (x.ev regs) (y.ev regs)).map fun b=>(.bool (if neg then !b else b),.no)
 | .un op x=>(unV op (x.ev regs)).map (·,.no)
 | .cvi k x=>match x.ev regs with
  | .c (.f (.int _ n))=>some (.int k (k.wrap n),.no)
  | _=>none
 | .Gz x=>match x.ev regs with
  | .c (.f (.str s))=>some (.c (.f (.str s)),.no)
  | _=>none
 | .GH x=>(MQ g (x.ev regs)).map (·,.no)
 | .MP x=>match x.ev regs with
  | .c (.f (.str s))=>if s.size<2 ^ 48 then some (.c (.sl n0 0 s.size 0 0 1),.push (.opn 1 (s.toList.map fun b=>.f (.int .u8 b.toNat)) 0 0 .loc))else none
  | _=>none
 | .ji f caps=>(bf zh (dS regs caps)).map fun xs=>(.c (.cl f xs),.no)
 | .pR=>some (.c (.mp n0),.push (.map []))
 | .lookup ck z m k=>(Aw g ck z (m.ev regs) (k.ev regs)).map (·,.no)
 | .pU ck m k v=>match m.ev regs,k.ev regs,Bq (v.ev regs)with
  | .c (.mp b),.c (.f k),some v=>match g b with
   | some (.map es)=>if isKey ck k then(Dw ck k v es).map fun es=>(.top,.set b (.map es))else none
   | _=>none
  | _,_,_=>none
 | .fA sz bytes zs l c=>match jm (l.ev regs),jm (c.ev regs)with
  | some l,some c=>
   if 0≤l∧l≤c∧dh c.toNat bytes=true∧zs.length=sz then
    (if c=0 then some (.c (.f .es),.no)else
    some (.c (.sl n0 0 l.toNat c.toNat 0 sz),.push (.box ((dM c.toNat zs).map .f) 0)))
   else none
  | _,_=>none
 | .slice sz x lo hi mx=>(zk g sz (x.ev regs) (lo.map (·.ev regs)) (hi.map (·.ev regs)) (mx.map (·.ev regs))).map (·,.no)
 | .rZ n sz x lo hi mx=>(E8 g n sz (x.ev regs) (lo.map (·.ev regs)) (hi.map (·.ev regs)) (mx.map (·.ev regs))).map (·,.no)
 | .uP x lo hi=>(zQ (x.ev regs) (lo.map (·.ev regs)) (hi.map (·.ev regs))).map (·,.no)
 | .au off x=>(lC off (x.ev regs)).map (·,.no)
 | .field off n x=>(xY off n (x.ev regs)).map (·,.no)
 | .aC sz arr x i=>(AL g sz arr (x.ev regs) (i.ev regs)).map (·,.no)
 | .idxs x i=>(Jq (x.ev regs) (i.ev regs)).map (·,.no)
 | .y9 len sz n x i=>(DK len sz n (x.ev regs) (i.ev regs)).map (·,.no)
 | .range x=>match x.ev regs with
  | .c (.f (.str s))=>some (.c (.it n0),.push (.it s 0))
  | _=>none
 | .next x=>Ls g (x.ev regs)
 | .extract x i=>match x.ev regs with
  | .t vs=>(vs[i]?).map (·,.no)
  | _=>none
 | .Az n=>some (.int .i64 n,.no)
 | .lens x=>match x.ev regs with
  | .c (.f (.str s))=>some (.int .i64 (s.size:Nat),.no)
  | _=>none
 | .len x=>match x.ev regs with
  | .c y=>match xu g y with
   | some n=>some (.int .i64 (n:Nat),.no)
   | none=>none
  | _=>none
 | .append sz bytes x y=>BD g n0 sz bytes (x.ev regs) (y.ev regs)
 | .copy sz x y=>MR g sz (x.ev regs) (y.ev regs)
 | .jV lo xs=>(Jf lo (dS regs xs)).map (·,.no)
 | .clear sz zs x=>(GI g sz zs (x.ev regs)).map (.t [],·)
 | .yX sz x hi mx=>Kz g sz (x.ev regs) (hi.ev regs) (mx.ev regs)
 | .wM sz bytes zs x n=>Na g n0 sz bytes zs (x.ev regs) (n.ev regs)
 | .nI x=>zZ g n0 (x.ev regs)
 | .sD x=>FT g (x.ev regs)
 | .entry x=>(Gw g (x.ev regs)).map (·,.no)
 | .CO f xs=>(bf zh (dS regs xs)).map fun xs=>(.c (.bm f xs),.no)
 | .cap x=>match x.ev regs with
  | .c y=>match KH g y with
   | some n=>some (.int .i64 (n:Nat),.no)
   | none=>none
  | _=>none
 | _=>none
def gt(H:Heap):Nat→Option Blk:=fun b=>H[b]?
theorem JD(H:Heap):Bo (gt H)=aP H:=by funext x;unfold Bo aP gt;rfl
theorem axK(H:Heap):aFR (gt H)=ldV H:=by funext n x;unfold aFR ldV;rw [JD];rfl
theorem qX(H:Heap):xu (gt H)=bJ H:=by funext x;unfold xu bJ gt;rfl
theorem yK(H:Heap):uQ (gt H)=dX H:=by funext n x;unfold uQ dX gt;rfl
theorem SC(H:Heap):xK (gt H)=isNil H:=by funext k x;unfold xK isNil gt;rfl
theorem ayn(H:Heap):aGz (gt H)=eqV H:=by funext k x y;unfold aGz eqV;rw [SC];rfl
theorem zS(H:Heap):zk (gt H)=kN H:=by funext n x a b c;unfold zk kN gt;rfl
theorem KF(H:Heap):E8 (gt H)=nG H:=by funext m n x a b c;unfold E8 nG gt;rfl
theorem Jp(H:Heap):AL (gt H)=aV H:=by funext n a x i;unfold AL aV gt;rfl
theorem Jj(H:Heap):Aw (gt H)=lq H:=by funext k z x y;unfold Aw lq gt;rfl
theorem Tf(H:Heap):MQ (gt H)=sG H:=by funext x;unfold MQ sG;rw [qX,yK];rfl
theorem uI(H:Heap):wP (gt H)=gY H:=by funext n x;unfold wP gY;rw [qX,yK];rfl
theorem QW(H:Heap):KH (gt H)=pO H:=by funext x;unfold KH pO gt;rfl
theorem MO(H:Heap):Gw (gt H)=o7 H:=by funext x;unfold Gw o7 gt;rfl
def mF(H:Heap)(r:Option (V × Eff)):Option (V × Heap):=r.map fun r=>(r.1,r.2.app H)
theorem EZ(H:Heap)(x:C)(xs:List C):(ahH (gt H) x xs).map (·.app H)=stC H x xs:=by
 cases x with
 | ptr b off ep=>
  simp only [ahH,stC,gt]
  cases h:H[b]? with
  | none=>rfl
  | some blk=>
   cases blk with
   | box cs fl=>simp only;split<;>rfl
   | opn sz cs fl e st=>cases st<;>simp only<;>first | rfl | (split<;>rfl)
   | _=>rfl
 | _=>rfl
theorem RQ(H:Heap)(x:V):mF H (Ls (gt H) x)=P9 H x:=by
 cases x with
 | c x=>
  cases x with
  | it b=>
   simp only [Ls,P9,gt,mF]
   cases h:H[b]? with
   | none=>rfl
   | some blk=>
    cases blk with
    | it s pos=>simp only;split<;>rfl
    | _=>rfl
  | _=>rfl
 | _=>rfl
theorem Ti(H:Heap)(sz:Nat)(x y:V):mF H (MR (gt H) sz x y)=copyV H sz x y:=by
 unfold MR copyV mF
 rw [uI]
 cases ha:gY H sz y with
 | none=>rfl
 | some r=>
  obtain⟨m,ys⟩:=r
  cases x with
  | c x=>
   cases x with
   | f x=>cases x<;>rfl
   | sl b o l cap ep s=>
    simp only [gt]
    cases h:H[b]? with
    | none=>rfl
    | some blk=>
     cases blk with
     | box cs fl=>simp only;split<;>rfl
     | opn sz cs fl e st=>cases st<;>simp only<;>first | rfl | (split<;>rfl)
     | _=>rfl
   | _=>rfl
  | _=>rfl
theorem JK(H:Heap)(sz bytes:Nat)(x y:V):mF H (BD (gt H) H.length sz bytes x y)=dI H sz bytes x y:=by
 unfold BD dI mF
 rw [uI]
 cases ha:gY H sz y with
 | none=>rfl
 | some r=>
  obtain⟨m,ys⟩:=r
  simp only
  by_cases h0:sz=0
  ·simp [h0]
  ·simp only [h0,if_false]
   cases x with
   | c x=>
    cases x with
    | f x=>cases x<;>first | rfl | (simp only;repeat' (first | rfl | split))
    | sl b o l cap ep s=>
     simp only [gt]
     cases h:H[b]? with
     | none=>rfl
     | some blk=>
      cases blk with
      | box cs fl=>simp only;repeat' (first | rfl | split)
      | opn sz cs fl e st=>simp only;repeat' (first | rfl | split)
      | _=>rfl
    | _=>rfl
   | _=>rfl
theorem MV(H:Heap)(sz:Nat)(zs:List FC)(x:V):(GI (gt H) sz zs x).map (·.app H)=Bh H sz zs x:=by
 unfold GI Bh
 cases x with
 | c y=>
  simp only [qX]
  cases bJ H y with
  | none=>rfl
  | some l=>
   cases l with
   | zero=>rfl
   | succ l=>
    simp only
    split
    ·cases y with
     | sl b o l' c ep s=>
      simp only [gt]
      cases h:H[b]? with
      | none=>rfl
      | some blk=>
       cases blk with
       | box cs fl=>exact EZ H _ _
       | opn s' cs fl e st=>
        cases st<;>simp only<;>first | rfl | skip
        split
        ·exact EZ H _ _
        ·rfl
       | _=>rfl
     | _=>rfl
    ·rfl
 | _=>rfl
theorem Tt(H:Heap)(sz bytes:Nat)(zs:List FC)(x n:V):mF H (Na (gt H) H.length sz bytes zs x n)=Qz H sz bytes zs x n:=by
 unfold Na Qz mF
 cases jm n with
 | none=>rfl
 | some n=>
  simp only
  split
  ·cases x with
   | c x=>
    cases x with
    | f x=>cases x<;>first | rfl | (simp only;repeat' (first | rfl | split))
    | _=>rfl
   | _=>rfl
  ·rfl
theorem QT(H:Heap)(sz:Nat)(x hi mx:V):mF H (Kz (gt H) sz x hi mx)=Ip H sz x hi mx:=by
 unfold Kz Ip mF
 rw [zS]
 cases kN H sz x none (some hi) (some mx)with
 | some v=>rfl
 | none=>
  simp only
  cases x with
  | c x=>
   cases x with
   | sl b o n c ep s=>
    simp only [gt]
    cases H[b]? with
    | none=>rfl
    | some blk=>
     cases blk with
     | opn s' cs fl e st=>
      cases st<;>simp only<;>first | rfl | skip
      split
      ·cases bnd hi n<;>cases bnd mx n<;>simp only<;>first | rfl | skip
       split
       ·cases bf fcC (List.take _ cs)<;>rfl
       ·rfl
      ·rfl
     | _=>rfl
   | _=>rfl
  | _=>rfl
theorem Lr(H:Heap)(x:V):mF H (FT (gt H) x)=FU H x:=by
 cases x with
 | c x=>
  cases x with
  | mi b=>
   simp only [FT,FU,gt,mF]
   cases h:H[b]? with
   | none=>rfl
   | some blk=>
    cases blk with
    | mit m since done=>
     simp only
     cases h2:H[m]? with
     | none=>rfl
     | some aQj=>
      cases aQj with
      | map es=>
       match es with
       | []=>simp only;split<;>rfl
       | [e]=>simp only;repeat' (first | rfl | split)
       | _::_::_=>rfl
      | _=>rfl
    | _=>rfl
  | _=>rfl
 | _=>rfl
theorem IJ(H:Heap)(x:V):mF H (zZ (gt H) H.length x)=zo H x:=by
 cases x with
 | c x=>
  cases x with
  | mp b=>
   simp only [zZ,zo,gt,mF]
   cases h:H[b]? with
   | none=>rfl
   | some blk=>
    cases blk with
    | map es=>simp only;split<;>rfl
    | _=>rfl
  | _=>rfl
 | _=>rfl
theorem QA{H:Heap}(o:Option V):mF H (o.map (·,.no))=o.map (·,H):=by cases o<;>rfl
theorem ES(regs:T)(H:Heap)(op:AOp):mF H (ahv regs (gt H) H.length op)=xOp regs H op:=by
 cases op<;>simp only [ahv,xOp,QA,axK,zS,KF,Jp,Jj,Tf,JK,Ti,RQ,Tt,QT,Lr,IJ,MO]
 all_goals first | rfl | skip
 case pre o sz=>split<;>rfl
 case pick c a b=>
  generalize c.ev regs=v
  cases v<;>try rfl
  rename_i x;cases x<;>try rfl
  rename_i x;cases x<;>rfl
 case box x=>generalize (x.ev regs).cells?=o;cases o<;>rfl
 case build zs ps=>cases fV regs (zs.map .f) ps<;>rfl
 case aY sz zs n ps=>
  split
  ·split<;>rfl
  ·simp only [mF,c9];rfl
 case store n x y=>
  generalize x.ev regs=v
  generalize (y.ev regs).cells?=o
  cases v<;>cases o<;>try rfl
  simp only
  split
  ·rw [←EZ];simp only [mF,c9];rfl
  ·rfl
 case bD x=>
  generalize x.ev regs=v
  cases v<;>try rfl
  rename_i x;cases x<;>try rfl
  rename_i x;cases x<;>rfl
 case eq neg k x y=>rw [ayn];simp only [mF,c9];rfl
 case cvi k x=>
  generalize x.ev regs=v
  cases v<;>try rfl
  rename_i x;cases x<;>try rfl
  rename_i x;cases x<;>rfl
 case Gz x=>
  generalize x.ev regs=v
  cases v<;>try rfl
  rename_i x;cases x<;>try rfl
  rename_i x;cases x<;>rfl
 case MP x=>
  generalize x.ev regs=v
  cases v<;>try rfl
  rename_i x;cases x<;>try rfl
  rename_i x;cases x<;>try rfl
  simp only
  split<;>rfl
 case ji f caps=>simp only [mF,c9];rfl
 case pU ck m k v=>
  generalize m.ev regs=m
  generalize k.ev regs=k
  generalize Bq (v.ev regs)=v
  cases m<;>try rfl
  rename_i m;cases m<;>try rfl
  cases k<;>try rfl
  rename_i k;cases k<;>try rfl
  cases v<;>try rfl
  simp only [gt]
  rename_i b k v
  cases H[b]? with
  | none=>rfl
  | some blk=>
   cases blk<;>try rfl
   simp only
   split
   ·simp only [mF,c9];rfl
   ·rfl
 case fA sz bytes zs l c=>
  generalize jm (l.ev regs)=l
  generalize jm (c.ev regs)=c
  cases l<;>cases c<;>try rfl
  simp only
  split
  ·split<;>rfl
  ·rfl
 case range x=>
  generalize x.ev regs=v
  cases v<;>try rfl
  rename_i x;cases x<;>try rfl
  rename_i x;cases x<;>rfl
 case extract x i=>
  generalize x.ev regs=v
  cases v<;>try rfl
  simp only [QA]
 case len x=>
  generalize x.ev regs=v
  cases v<;>try rfl
  rw [qX]
  simp only
  rename_i y
  cases bJ H y<;>rfl
 case lens x=>
  generalize x.ev regs=v
  cases v<;>try rfl
  rename_i x;cases x<;>try rfl
  rename_i x;cases x<;>rfl
 case clear sz zs x=>rw [←MV];simp only [mF,c9];rfl
 case CO f caps=>simp only [mF,c9];rfl
 case cap x=>
  generalize x.ev regs=v
  cases v<;>try rfl
  rw [QW]
  simp only
  rename_i y
  cases pO H y<;>rfl
end Km
end
section
set_option linter.unusedVariables false
namespace Km
open Go
inductive BT(α:Type) where
 | e
 | n (l:BT α) (x:α) (r:BT α)
def BT.get{α:Type}:BT α→Nat→Option α
 | .e,_=>none
 | .n l x r,b=>match b with
  | 0=>some x
  | m+1=>if m % 2=0 then l.get (m / 2)else r.get (m / 2)
abbrev HT:=BT Blk
def jJ{α:Type}(b:Nat)(t:BT α)(k:α→Prop):Prop:=
 BT.rec (motive:=fun _=>Nat→Prop) (fun _=>False)
  (fun _ x _ ihl ihr b=>Nat.rec (motive:=fun _=>Prop) (k x) (fun m _=>Nat.rec (motive:=fun _=>Prop) (ihl (Nat.div m 2)) (fun _ _=>ihr (Nat.div m 2)) (Nat.mod m 2)) b) t b
def jI{α:Type}(x:α)(t:BT α):Nat→(BT α→Prop)→Prop:=
 BT.rec (motive:=fun _=>Nat→(BT α→Prop)→Prop) (fun _ _=>False)
  (fun l y r ihl ihr b k=>Nat.rec (motive:=fun _=>Prop) (k (.n l x r))
   (fun m _=>Nat.rec (motive:=fun _=>Prop) (ihl (Nat.div m 2) fun l'=>k (.n l' y r)) (fun _ _=>ihr (Nat.div m 2) fun r'=>k (.n l y r')) (Nat.mod m 2)) b) t
def GR{α:Type}(x:α)(t:BT α):Nat→(BT α→Prop)→Prop:=
 BT.rec (motive:=fun _=>Nat→(BT α→Prop)→Prop) (fun b k=>Nat.rec (motive:=fun _=>Prop) (k (.n .e x .e)) (fun _ _=>False) b)
  (fun l y r ihl ihr b k=>Nat.rec (motive:=fun _=>Prop) False
   (fun m _=>Nat.rec (motive:=fun _=>Prop) (ihl (Nat.div m 2) fun l'=>k (.n l' y r)) (fun _ _=>ihr (Nat.div m 2) fun r'=>k (.n l y r')) (Nat.mod m 2)) b) t
theorem aiS(m:Nat):m % 2=0∨m % 2=1:=by omega
theorem dV{α:Type}{t:BT α}:∀ {b:Nat} {k:α→Prop},jJ b t k→∃ x,t.get b=some x∧k x:=by
 induction t with
 | e=>intro b k h;exact h.elim
 | n l x r ihl ihr=>
  intro b k h
  cases b with
  | zero=>exact⟨x,rfl,h⟩
  | succ m=>
   have h':Nat.rec (motive:=fun _=>Prop) (jJ (m / 2) l k) (fun _ _=>jJ (m / 2) r k) (m % 2):=h
   rcases aiS m with e | e<;>rw [e]at h'
   ·obtain⟨y,g1,g2⟩:=ihl h'
    exact⟨y,by simp [BT.get,e,g1],g2⟩
   ·obtain⟨y,g1,g2⟩:=ihr h'
    exact⟨y,by simp [BT.get,e,g1],g2⟩
def sJ{α:Type}(t t':BT α)(b:Nat)(x:α):Prop:=∀ i,t'.get i=if i=b then some x else t.get i
theorem sJ.left{α:Type}{l l' r:BT α}{y x:α}{m:Nat}(e:m % 2=0)(h:sJ l l' (m / 2) x):sJ (.n l y r) (.n l' y r) (m+1) x:=by
 intro i
 cases i with
 | zero=>simp [BT.get]
 | succ j=>
  simp only [BT.get,h (j / 2)]
  rcases aiS j with e' | e'
  ·have:(j / 2=m / 2)↔(j=m):=by omega
   simp [e',this]
  ·have:j≠m:=by omega
   simp [e',this]
theorem sJ.right{α:Type}{l r' r:BT α}{y x:α}{m:Nat}(e:m % 2=1)(h:sJ r r' (m / 2) x):sJ (.n l y r) (.n l y r') (m+1) x:=by
 intro i
 cases i with
 | zero=>simp [BT.get]
 | succ j=>
  simp only [BT.get,h (j / 2)]
  rcases aiS j with e' | e'
  ·have:j≠m:=by omega
   simp [e',this]
  ·have:(j / 2=m / 2)↔(j=m):=by omega
   simp [e',this]
theorem ajL{α:Type}{x:α}{t:BT α}:∀ {b:Nat} {k:BT α→Prop},jI x t b k→∃ t',sJ t t' b x∧(∃ y,t.get b=some y)∧k t':=by
 induction t with
 | e=>intro b k h;exact h.elim
 | n l y r ihl ihr=>
  intro b k h
  cases b with
  | zero=>
   refine⟨.n l x r,fun i=>?_,⟨y,rfl⟩,h⟩
   cases i<;>simp [BT.get]
  | succ m=>
   have h':Nat.rec (motive:=fun _=>Prop) (jI x l (m / 2) fun l'=>k (.n l' y r)) (fun _ _=>jI x r (m / 2) fun r'=>k (.n l y r')) (m % 2):=h
   rcases aiS m with e | e<;>rw [e]at h'
   ·obtain⟨l',g1,⟨z,g2⟩,g3⟩:=ihl h'
    exact⟨_,g1.left e,⟨z,by simp [BT.get,e,g2]⟩,g3⟩
   ·obtain⟨l',g1,⟨z,g2⟩,g3⟩:=ihr h'
    exact⟨_,g1.right e,⟨z,by simp [BT.get,e,g2]⟩,g3⟩
theorem Tq{α:Type}{x:α}{t:BT α}:∀ {b:Nat} {k:BT α→Prop},GR x t b k→∃ t',sJ t t' b x∧k t':=by
 induction t with
 | e=>
  intro b k h
  cases b with
  | zero=>
   refine⟨.n .e x .e,fun i=>?_,h⟩
   cases i<;>simp [BT.get]
  | succ m=>exact h.elim
 | n l y r ihl ihr=>
  intro b k h
  cases b with
  | zero=>exact h.elim
  | succ m=>
   have h':Nat.rec (motive:=fun _=>Prop) (GR x l (m / 2) fun l'=>k (.n l' y r)) (fun _ _=>GR x r (m / 2) fun r'=>k (.n l y r')) (m % 2):=h
   rcases aiS m with e | e<;>rw [e]at h'
   ·obtain⟨l',g1,g3⟩:=ihl h'
    exact⟨_,g1.left e,g3⟩
   ·obtain⟨l',g1,g3⟩:=ihr h'
    exact⟨_,g1.right e,g3⟩
def dK(H:Heap)(t:HT):Prop:=t.get=gt H
theorem dK.nil:dK [] .e:=by funext b;simp [BT.get,gt]
theorem dK.set{H:Heap}{t t':HT}(h:dK H t){b:Nat}{x:Blk}(hp:sJ t t' b x)(hb:∃ y,t.get b=some y):dK (H.set b x) t':=by
 funext i
 obtain⟨y,hy⟩:=hb
 rw [h]at hy
 have hlt:b<H.length:=(ai.1 hy).1
 rw [hp i,h]
 simp only [gt]
 by_cases e:i=b
 ·subst e;simp [hlt]
 ·simp [e,ag (Ne.symm e)]
theorem dK.push{H:Heap}{t t':HT}(h:dK H t){x:Blk}(hp:sJ t t' H.length x):dK (H++[x]) t':=by
 funext i
 rw [hp i,h]
 simp only [gt]
 by_cases e:i=H.length
 ·subst e;simp
 ·by_cases hi:i<H.length
  ·simp [e,List.getElem?_append_left hi]
  ·rw [bj (by omega)]
   have:i-H.length≠0:=by omega
   simp [e,dk (l:=H) (i:=i) (by omega),this]
def bP(n:Nat)(k:Nat→Prop):Prop:=Nat.rec (motive:=fun _=>Prop) (k 0) (fun m _=>k (Nat.succ m)) n
def xU(n:Int)(k:Int→Prop):Prop:=Int.rec (motive:=fun _=>Prop) (fun n=>bP n fun n=>k (.ofNat n)) (fun n=>bP n fun n=>k (.negSucc n)) n
def qC(b:Bool)(k:Bool→Prop):Prop:=Bool.rec (motive:=fun _=>Prop) (k false) (k true) b
theorem bT(n:Nat)(k:Nat→Prop):bP n k=k n:=by cases n<;>rfl
theorem DT(n:Int)(k:Int→Prop):xU n k=k n:=by cases n<;>simp only [xU,bT]
theorem jY(b:Bool)(k:Bool→Prop):qC b k=k b:=by cases b<;>rfl
def MK(x:FC)(k:FC→Prop):Prop:=match x with
 | .bool b=>qC b fun b=>k (.bool b)
 | .int j n=>xU n fun n=>k (.int j n)
 | .fp cs o=>bP o fun o=>k (.fp cs o)
 | .fs cs l=>bP l fun l=>k (.fs cs l)
 | x=>k x
theorem SN(x:FC)(k:FC→Prop):MK x k=k x:=by cases x<;>simp only [MK,bT,DT,jY]
def xX(x:C)(k:C→Prop):Prop:=match x with
 | .f x=>MK x fun x=>k (.f x)
 | .ptr b o e=>bP b fun b=>bP o fun o=>bP e fun e=>k (.ptr b o e)
 | .sl b o l c e s=>bP b fun b=>bP o fun o=>bP l fun l=>bP c fun c=>bP e fun e=>bP s fun s=>k (.sl b o l c e s)
 | x=>k x
theorem xW(x:C)(k:C→Prop):xX x k=k x:=by cases x<;>simp only [xX,bT,SN]
def qB(xs:List C):(List C→Prop)→Prop:=
 List.rec (motive:=fun _=>(List C→Prop)→Prop) (fun k=>k []) (fun x _ ih k=>xX x fun x=>ih fun xs=>k (x::xs)) xs
theorem oC:∀(xs:List C) (k:List C→Prop),qB xs k=k xs
 | [],k=>rfl
 | x::xs,k=>by
  show xX x (fun x=>qB xs fun xs=>k (x::xs))=_
  rw [xW,oC xs]
def zA(v:V)(k:V→Prop):Prop:=match v with
 | .c x=>xX x fun x=>k (.c x)
 | .a xs=>qB xs fun xs=>k (.a xs)
 | v=>k v
theorem MJ(v:V)(k:V→Prop):zA v k=k v:=by cases v<;>simp only [zA,xW,oC]
def Gq(xs:List V):(List V→Prop)→Prop:=
 List.rec (motive:=fun _=>(List V→Prop)→Prop) (fun k=>k []) (fun x _ ih k=>zA x fun x=>ih fun xs=>k (x::xs)) xs
theorem AU:∀(xs:List V) (k:List V→Prop),Gq xs k=k xs
 | [],k=>rfl
 | x::xs,k=>by
  show zA x (fun x=>Gq xs fun xs=>k (x::xs))=_
  rw [MJ,AU xs]
def oV(v:V)(k:V→Prop):Prop:=match v with
 | .c x=>xX x fun x=>k (.c x)
 | .a xs=>qB xs fun xs=>k (.a xs)
 | .t vs=>Gq vs fun vs=>k (.t vs)
 | .top=>k .top
theorem xR(v:V)(k:V→Prop):oV v k=k v:=by cases v<;>simp only [oV,xW,oC,AU]
def xQ(x:Blk)(k:Blk→Prop):Prop:=match x with
 | .box cs fl=>qB cs fun cs=>bP fl fun fl=>k (.box cs fl)
 | .opn sz cs fl e st=>qB cs fun cs=>bP fl fun fl=>bP e fun e=>k (.opn sz cs fl e st)
 | .it s p=>bP p fun p=>k (.it s p)
 | x=>k x
theorem DR(x:Blk)(k:Blk→Prop):xQ x k=k x:=by cases x<;>simp only [xQ,bT,oC]
def Jt(p:P):T→(V→Prop)→Prop:=
 P.rec (motive:=fun _=>T→(V→Prop)→Prop)
  (fun t k=>T.rec (motive:=fun _=>Prop) (k .top) (fun _ v _ _ _=>k v) t)
  (fun _ ih t k=>T.rec (motive:=fun _=>Prop) (k .top) (fun l _ _ _ _=>ih l k) t)
  (fun _ ih t k=>T.rec (motive:=fun _=>Prop) (k .top) (fun _ _ r _ _=>ih r k) t) p
theorem rG:∀(p:P) (t:T) (k:V→Prop),Jt p t k=k (t.get p)
 | .h,.e,k=>rfl
 | .h,.n _ _ _,k=>rfl
 | .o p,.e,k=>rfl
 | .o p,.n l _ _,k=>rG p l k
 | .i p,.e,k=>rfl
 | .i p,.n _ _ r,k=>rG p r k
def auv(p:P)(w:V):T→(T→Prop)→Prop:=
 P.rec (motive:=fun _=>T→(T→Prop)→Prop)
  (fun t k=>T.rec (motive:=fun _=>Prop) (k (.n .e w .e)) (fun l _ r _ _=>k (.n l w r)) t)
  (fun _ ih t k=>T.rec (motive:=fun _=>Prop) (ih .e fun l=>k (.n l .top .e)) (fun l v r _ _=>ih l fun l=>k (.n l v r)) t)
  (fun _ ih t k=>T.rec (motive:=fun _=>Prop) (ih .e fun r=>k (.n .e .top r)) (fun l v r _ _=>ih r fun r=>k (.n l v r)) t) p
theorem qY(w:V):∀(p:P) (t:T) (k:T→Prop),auv p w t k=k (t.set p w)
 | .h,.e,k=>rfl
 | .h,.n _ _ _,k=>rfl
 | .o p,.e,k=>qY w p .e _
 | .o p,.n l _ _,k=>qY w p l _
 | .i p,.e,k=>qY w p .e _
 | .i p,.n _ _ r,k=>qY w p r _
def evK(x:Arg)(r:T)(k:V→Prop):Prop:=Arg.rec (motive:=fun _=>Prop) (fun p=>Jt p r k) (fun v=>k v) x
theorem dQ(x:Arg)(r:T)(k:V→Prop):evK x r k=k (x.ev r):=by cases x;exact rG _ _ _;rfl
def JI(xs:List Arg)(r:T):(List V→Prop)→Prop:=
 List.rec (motive:=fun _=>(List V→Prop)→Prop) (fun k=>k []) (fun x _ ih k=>evK x r fun v=>ih fun vs=>k (v::vs)) xs
theorem wL(r:T):∀(xs:List Arg) (k:List V→Prop),JI xs r k=k (dS r xs)
 | [],k=>rfl
 | x::xs,k=>by
  show evK x r (fun v=>JI xs r fun vs=>k (v::vs))=_
  rw [dQ,wL r xs];rfl
def aCZ(d:Option P)(r:T)(v:V)(k:T→Prop):Prop:=Option.rec (motive:=fun _=>Prop) (k r) (fun d=>auv d v r k) d
theorem PN(d:Option P)(r:T)(v:V)(k:T→Prop):aCZ d r v k=k (lW r d v):=by cases d;rfl;exact qY _ _ _ _
def zl(ps:List P):List V→T→(T→Prop)→Prop:=
 List.rec (motive:=fun _=>List V→T→(T→Prop)→Prop) (fun _ r k=>k r)
  (fun p _ ih vs r k=>List.rec (motive:=fun _=>Prop) (k r) (fun v vs _=>auv p v r fun r=>ih vs r k) vs) ps
theorem sQ:∀(ps:List P) (vs:List V) (r:T) (k:T→Prop),zl ps vs r k=k (cO ps vs r)
 | [],vs,r,k=>by cases vs<;>rfl
 | p::ps,[],r,k=>rfl
 | p::ps,v::vs,r,k=>by
  show auv p v r (fun r=>zl ps vs r k)=_
  rw [qY,sQ ps];rfl
def axx{α:Type}(n:Nat):List α→(α→Prop)→Prop:=
 Nat.rec (motive:=fun _=>List α→(α→Prop)→Prop) (fun xs k=>List.rec (motive:=fun _=>Prop) False (fun x _ _=>k x) xs)
  (fun _ ih xs k=>List.rec (motive:=fun _=>Prop) False (fun _ xs _=>ih xs k) xs) n
theorem zu{α:Type}:∀ {n:Nat} {xs:List α} {k:α→Prop},axx n xs k→∃ x,xs[n]?=some x∧k x
 | 0,[],_,h=>h.elim
 | 0,x::_,_,h=>⟨x,rfl,h⟩
 | n+1,[],_,h=>h.elim
 | n+1,_::xs,k,h=>zu (n:=n) (xs:=xs) (k:=k) h
def A8{α:Type}(n:Nat):List α→(List α→Prop)→Prop:=
 Nat.rec (motive:=fun _=>List α→(List α→Prop)→Prop) (fun xs k=>k xs)
  (fun _ ih xs k=>List.rec (motive:=fun _=>Prop) (k []) (fun _ xs _=>ih xs k) xs) n
theorem qI{α:Type}:∀(n:Nat) (xs:List α) (k:List α→Prop),A8 n xs k=k (xs.drop n)
 | 0,xs,k=>rfl
 | n+1,[],k=>rfl
 | n+1,_::xs,k=>qI n xs k
def xZ{α:Type}(n:Nat):List α→(List α→Prop)→Prop:=
 Nat.rec (motive:=fun _=>List α→(List α→Prop)→Prop) (fun xs k=>k xs)
  (fun _ ih xs k=>List.rec (motive:=fun _=>Prop) False (fun _ xs _=>ih xs k) xs) n
theorem lG{α:Type}:∀ {n:Nat} {xs:List α} {k:List α→Prop},xZ n xs k→n≤xs.length∧k (xs.drop n)
 | 0,xs,k,h=>⟨by simp,h⟩
 | n+1,[],k,h=>h.elim
 | n+1,x::xs,k,h=>by
  obtain⟨h1,h2⟩:=lG (n:=n) (xs:=xs) (k:=k) h
  exact⟨by simp;omega,h2⟩
def pI{α:Type}(n:Nat):List α→(List α→Prop)→Prop:=
 Nat.rec (motive:=fun _=>List α→(List α→Prop)→Prop) (fun _ k=>k [])
  (fun _ ih xs k=>List.rec (motive:=fun _=>Prop) False (fun x xs _=>ih xs fun ys=>k (x::ys)) xs) n
theorem iW{α:Type}:∀ {n:Nat} {xs:List α} {k:List α→Prop},pI n xs k→n≤xs.length∧k (xs.take n)
 | 0,xs,k,h=>⟨by simp,by have h':k []:=h;simpa using h'⟩
 | n+1,[],k,h=>h.elim
 | n+1,x::xs,k,h=>by
  obtain⟨h1,h2⟩:=iW (n:=n) (xs:=xs) (k:=fun ys=>k (x::ys)) h
  exact⟨by simp;omega,by simpa using h2⟩
def aKT{α:Type}(xs:List α):List α→(List α→Prop)→Prop:=
 List.rec (motive:=fun _=>List α→(List α→Prop)→Prop) (fun cs k=>k cs)
  (fun x _ ih cs k=>List.rec (motive:=fun _=>Prop) False (fun _ cs _=>ih cs fun ys=>k (x::ys)) cs) xs
theorem Qg{α:Type}:∀ {xs cs:List α} {k:List α→Prop},aKT xs cs k→xs.length≤cs.length∧k (xs++cs.drop xs.length)
 | [],cs,k,h=>⟨by simp,by have h':k cs:=h;simpa using h'⟩
 | x::xs,[],k,h=>h.elim
 | x::xs,c::cs,k,h=>by
  obtain⟨h1,h2⟩:=Qg (xs:=xs) (cs:=cs) (k:=fun ys=>k (x::ys)) h
  exact⟨by simp;omega,by simpa using h2⟩
def Ag{α:Type}(xs:List α)(off:Nat):List α→(List α→Prop)→Prop:=
 Nat.rec (motive:=fun _=>List α→(List α→Prop)→Prop) (fun cs k=>aKT xs cs k)
  (fun _ ih cs k=>List.rec (motive:=fun _=>Prop) False (fun c cs _=>ih cs fun ys=>k (c::ys)) cs) off
theorem oh{α:Type}{xs:List α}:∀ {off:Nat} {cs:List α} {k:List α→Prop},Ag xs off cs k→off+xs.length≤cs.length∧k (over cs off xs)
 | 0,cs,k,h=>by
  obtain⟨h1,h2⟩:=Qg (xs:=xs) (cs:=cs) (k:=k) h
  exact⟨by omega,by simpa [over]using h2⟩
 | n+1,[],k,h=>h.elim
 | n+1,c::cs,k,h=>by
  obtain⟨h1,h2⟩:=oh (off:=n) (cs:=cs) (k:=fun ys=>k (c::ys)) h
  refine⟨by simp;omega,?_⟩
  have:n+1+xs.length=(n+xs.length)+1:=by omega
  simpa [over,this]using h2
def aGD{α:Type}(xs ys:List α):(List α→Prop)→Prop:=
 List.rec (motive:=fun _=>(List α→Prop)→Prop) (fun k=>k ys) (fun x _ ih k=>ih fun zs=>k (x::zs)) xs
theorem GK{α:Type}(ys:List α):∀(xs:List α) (k:List α→Prop),aGD xs ys k=k (xs++ys)
 | [],k=>rfl
 | x::xs,k=>GK ys xs fun zs=>k (x::zs)
def fzK(zs:List FC):(List C→Prop)→Prop:=
 List.rec (motive:=fun _=>(List C→Prop)→Prop) (fun k=>k []) (fun z _ ih k=>ih fun cs=>k (.f z::cs)) zs
theorem xP:∀(zs:List FC) (k:List C→Prop),fzK zs k=k (zs.map .f)
 | [],k=>rfl
 | z::zs,k=>xP zs fun cs=>k (.f z::cs)
def ltB:Int→Int→Bool
 | .ofNat a,.ofNat b=>Nat.ble (Nat.succ a) b
 | .ofNat _,.negSucc _=>false
 | .negSucc _,.ofNat _=>true
 | .negSucc a,.negSucc b=>Nat.ble (Nat.succ b) a
theorem F7(x y:Int):ltB x y=decide (x<y):=by
 have e:∀ n:Nat,Int.ofNat n=(n:Int):=fun _=>rfl
 cases x<;>cases y<;>simp only [ltB]<;>rw [Bool.eq_iff_iff]<;>simp only [Nat.ble_eq,decide_eq_true_eq,aE,false_iff,true_iff,e,Nat.succ_eq_add_one]<;>omega
def eqB:Int→Int→Bool
 | .ofNat a,.ofNat b=>Nat.beq a b
 | .negSucc a,.negSucc b=>Nat.beq a b
 | _,_=>false
theorem ajw(x y:Int):eqB x y=(x == y):=by
 have e:∀ n:Nat,Int.ofNat n=(n:Int):=fun _=>rfl
 cases x<;>cases y<;>simp only [eqB]<;>rw [Bool.eq_iff_iff]<;>simp only [Nat.beq_eq,beq_iff_eq,aE,false_iff,e]<;>omega
def C9(j:IntKind)(n:Int)(k:Int→Prop):Prop:=match j with
 | .i64=>Int.rec (motive:=fun _=>Prop)
   (fun n=>bP n fun n=>Bool.rec (motive:=fun _=>Prop) (xU (IntKind.i64.wrap (.ofNat n)) k) (k (.ofNat n)) (Nat.ble n 9223372036854775807))
   (fun n=>bP n fun n=>Bool.rec (motive:=fun _=>Prop) (xU (IntKind.i64.wrap (.negSucc n)) k) (k (.negSucc n)) (Nat.ble n 9223372036854775807)) n
 | j=>xU (j.wrap n) k
theorem wrap64_in{n:Int}(h1:-9223372036854775808≤n)(h2:n≤9223372036854775807):IntKind.i64.wrap n=n:=by
 simp only [IntKind.wrap,IntKind.bits,IntKind.signed]
 have e1:(2 ^ 64:Int)=18446744073709551616:=by decide
 have e2:(2 ^ (64-1):Int)=9223372036854775808:=by decide
 simp only [e1,e2,Bool.true_and,decide_eq_true_eq]
 split<;>omega
theorem uM(j:IntKind)(n:Int)(k:Int→Prop):C9 j n k=k (j.wrap n):=by
 cases j<;>simp only [C9,DT]
 cases n with
 | ofNat n=>
  simp only [bT]
  cases h:Nat.ble n 9223372036854775807 with
  | false=>rfl
  | true=>
   have:=cM h
   have e:Int.ofNat n=(n:Int):=rfl
   rw [wrap64_in (by rw [e];omega) (by rw [e];omega)]
 | negSucc n=>
  simp only [bT]
  cases h:Nat.ble n 9223372036854775807 with
  | false=>rfl
  | true=>
   have:=cM h
   rw [wrap64_in (by omega) (by omega)]
end Km
end
section
set_option linter.unusedVariables false
namespace Km
open Go
def kK(a b:Nat)(p:Prop):Prop:=Bool.rec (motive:=fun _=>Prop) False p (Nat.beq a b)
def zi(a b:Nat)(p:Prop):Prop:=Bool.rec (motive:=fun _=>Prop) False p (Nat.ble a b)
def yU(b:Bool)(p:Prop):Prop:=Bool.rec (motive:=fun _=>Prop) False p b
def xB{α:Type}(o:Option α)(k:α→Prop):Prop:=Option.rec (motive:=fun _=>Prop) False k o
theorem dH{a b:Nat}{p:Prop}(h:kK a b p):a=b∧p:=by
 unfold kK at h
 cases e:Nat.beq a b with
 | false=>rw [e]at h;exact h.elim
 | true=>rw [e]at h;exact⟨cX e,h⟩
theorem kC{a b:Nat}{p:Prop}(h:zi a b p):a≤b∧p:=by
 unfold zi at h
 cases e:Nat.ble a b with
 | false=>rw [e]at h;exact h.elim
 | true=>rw [e]at h;exact⟨cM e,h⟩
theorem qL{b:Bool}{p:Prop}(h:yU b p):b=true∧p:=by cases b;exact h.elim;exact⟨rfl,h⟩
theorem mW{α:Type}{o:Option α}{k:α→Prop}(h:xB o k):∃ x,o=some x∧k x:=by cases o;exact h.elim;exact⟨_,rfl,h⟩
def su(x:Blk)(t:HT)(n:Nat)(k:HT→Nat→Prop):Prop:=GR x t n fun t=>bP (Nat.succ n) fun n=>k t n
theorem kE{H:Heap}{t:HT}(h:dK H t){x:Blk}{k:HT→Nat→Prop}(hk:su x t H.length k):∃ t',dK (H++[x]) t'∧k t' (H++[x]).length:=by
 obtain⟨t',h1,h2⟩:=Tq hk
 rw [bT]at h2
 exact⟨t',h.push h1,by simpa using h2⟩
theorem fF{H:Heap}{t:HT}(h:dK H t){b:Nat}{x:Blk}{k:HT→Prop}(hk:jI x t b k):∃ t',dK (H.set b x) t'∧k t':=by
 obtain⟨t',h1,h2,h3⟩:=ajL hk
 exact⟨t',h.set h1 h2,h3⟩
def aGA(e:Eff)(t:HT)(n:Nat)(k:HT→Nat→Prop):Prop:=
 Eff.rec (motive:=fun _=>Prop) (k t n) (fun b x=>xQ x fun x=>jI x t b fun t=>k t n) (fun x=>xQ x fun x=>su x t n k) e
theorem ays{H:Heap}{t:HT}(h:dK H t){e:Eff}{k:HT→Nat→Prop}(hk:aGA e t H.length k):∃ t',dK (e.app H) t'∧k t' (e.app H).length:=by
 cases e with
 | no=>exact⟨t,h,hk⟩
 | set b x=>
  have hk:xQ x fun x=>jI x t b fun t=>k t H.length:=hk
  rw [DR]at hk
  obtain⟨t',h1,h2⟩:=fF h hk
  exact⟨t',h1,by simpa [Eff.app]using h2⟩
 | push x=>
  have hk:xQ x fun x=>su x t H.length k:=hk
  rw [DR]at hk
  exact kE h hk
def aLs(op:AOp)(r:T)(t:HT)(n:Nat)(k:V→HT→Nat→Prop):Prop:=
 xB (ahv r t.get n op) fun r=>Prod.rec (motive:=fun _=>Prop) (fun v e=>oV v fun v=>aGA e t n (k v)) r
def OpS(op:AOp)(r:T)(m:HT→Nat→(V→HT→Nat→Prop)→Prop):Prop:=
 ∀(H:Heap) (t:HT) (k:V→HT→Nat→Prop),dK H t→m t H.length k→∃ v H' t',xOp r H op=some (v,H')∧dK H' t'∧k v t' H'.length
theorem ayg(op:AOp)(r:T):OpS op r (aLs op r):=by
 intro H t k h hk
 obtain⟨⟨v,e⟩,h1,h2⟩:=mW hk
 have h2:oV v fun v=>aGA e t H.length (k v):=h2
 rw [xR]at h2
 obtain⟨t',h3,h4⟩:=ays h h2
 refine⟨v,e.app H,t',?_,h3,h4⟩
 rw [h]at h1
 rw [←ES,h1];rfl
def Bj(v:V)(k:List C→Prop):Prop:=match v with
 | .c x=>k [x]
 | .a xs=>k xs
 | _=>False
theorem x9{v:V}{k:List C→Prop}(h:Bj v k):∃ xs,v.cells?=some xs∧k xs:=by
 cases v with
 | c x=>exact⟨_,rfl,h⟩
 | a xs=>exact⟨_,rfl,h⟩
 | _=>exact h.elim
def PW(n:Option Nat)(off:Nat)(cs:List C)(k:V→Prop):Prop:=
 Option.rec (motive:=fun _=>Prop) (axx off cs fun c=>k (.c c)) (fun m=>A8 off cs fun cs=>pI m cs fun cs=>k (.a cs)) n
theorem Ac{n:Option Nat}{off:Nat}{cs:List C}{k:V→Prop}(h:PW n off cs k):∃ v,aQ n (cs.drop off)=some v∧k v:=by
 cases n with
 | none=>
  obtain⟨c,h1,h2⟩:=zu h
  refine⟨.c c,?_,h2⟩
  rw [←Nat.add_zero off,←aM]at h1
  cases e:cs.drop off with
  | nil=>rw [e]at h1;simp at h1
  | cons y ys=>rw [e]at h1;simp at h1;subst h1;rfl
 | some m=>
  have h:A8 off cs fun cs=>pI m cs fun cs=>k (.a cs):=h
  rw [qI]at h
  obtain⟨h1,h2⟩:=iW h
  exact⟨_,if_pos h1,h2⟩
def ail(n:Option Nat)(off:Nat)(cs:List FC)(k:V→Prop):Prop:=
 Option.rec (motive:=fun _=>Prop) (axx off cs fun c=>k (.c (.f c))) (fun m=>A8 off cs fun cs=>pI m cs fun cs=>fzK cs fun cs=>k (.a cs)) n
theorem Rh{n:Option Nat}{off:Nat}{cs:List FC}{k:V→Prop}(h:ail n off cs k):∃ v,aQ n ((cs.drop off).map .f)=some v∧k v:=by
 cases n with
 | none=>
  obtain⟨c,h1,h2⟩:=zu h
  refine⟨.c (.f c),?_,h2⟩
  rw [←Nat.add_zero off,←aM]at h1
  cases e:cs.drop off with
  | nil=>rw [e]at h1;simp at h1
  | cons y ys=>rw [e]at h1;simp at h1;subst h1;rfl
 | some m=>
  have h:A8 off cs fun cs=>pI m cs fun cs=>fzK cs fun cs=>k (.a cs):=h
  rw [qI]at h
  obtain⟨h1,h2⟩:=iW h
  rw [xP]at h2
  refine⟨_,if_pos (by simpa using h1),?_⟩
  rw [←List.map_take];exact h2
def ldK(t:HT)(n:Option Nat)(x:V)(k:V→Prop):Prop:=match x with
 | .c (.ptr b off ep)=>jJ b t fun blk=>match blk with
  | .box cs _=>PW n off cs k
  | .opn _ cs _ e .loc=>kK ep e (PW n off cs k)
  | _=>False
 | .c (.f (.fp cs off))=>ail n off cs k
 | _=>False
theorem ajc{H:Heap}{t:HT}(h:dK H t){n:Option Nat}{x:V}{k:V→Prop}(hk:ldK t n x k):∃ v,ldV H n x=some v∧k v:=by
 unfold ldK at hk
 split at hk
 ·rename_i b off ep
  obtain⟨blk,h1,h2⟩:=dV hk
  rw [h]at h1
  have h1:H[b]?=some blk:=h1
  split at h2
  ·obtain⟨v,h3,h4⟩:=Ac h2
   exact⟨v,by simp [ldV,aP,h1,h3],h4⟩
  ·obtain⟨h5,h2⟩:=dH h2
   obtain⟨v,h3,h4⟩:=Ac h2
   exact⟨v,by simp [ldV,aP,h1,h3,h5],h4⟩
  ·exact h2.elim
 ·obtain⟨v,h3,h4⟩:=Rh hk
  exact⟨v,by simp only [ldV,aP,bR,h3],h4⟩
 ·exact hk.elim
def stK(t:HT)(x:C)(xs:List C)(k:HT→Prop):Prop:=match x with
 | .ptr b off ep=>jJ b t fun blk=>match blk with
  | .box cs fl=>zi fl off (Ag xs off cs fun cs=>jI (.box cs fl) t b k)
  | .opn sz cs fl e .loc=>kK ep e (zi fl off (Ag xs off cs fun cs=>jI (.opn sz cs fl e .loc) t b k))
  | _=>False
 | _=>False
theorem aB2{H:Heap}{t:HT}(h:dK H t){x:C}{xs:List C}{k:HT→Prop}(hk:stK t x xs k):∃ H' t',stC H x xs=some H'∧dK H' t'∧H'.length=H.length∧k t':=by
 unfold stK at hk
 split at hk
 ·rename_i b off ep
  obtain⟨blk,h1,h2⟩:=dV hk
  rw [h]at h1
  have h1:H[b]?=some blk:=h1
  split at h2
  ·obtain⟨h3,h2⟩:=kC h2
   obtain⟨h4,h2⟩:=oh h2
   obtain⟨t',h5,h6⟩:=fF h h2
   exact⟨_,t',by simp [stC,h1,h3,h4],h5,by simp,h6⟩
  ·obtain⟨h0,h2⟩:=dH h2
   obtain⟨h3,h2⟩:=kC h2
   obtain⟨h4,h2⟩:=oh h2
   obtain⟨t',h5,h6⟩:=fF h h2
   exact⟨_,t',by simp [stC,h1,h0,h3,h4],h5,by simp,h6⟩
  ·exact h2.elim
 ·exact hk.elim
def pX(op:BinOp)(j:IntKind)(x y:Int)(k:V→Prop):Prop:=match op with
 | .add=>C9 j (Int.add x y) fun n=>k (.c (.f (.int j n)))
 | .sub=>C9 j (Int.sub x y) fun n=>k (.c (.f (.int j n)))
 | .mul=>C9 j (Int.mul x y) fun n=>k (.c (.f (.int j n)))
 | .eql=>qC (eqB x y) fun b=>k (.c (.f (.bool b)))
 | .neq=>qC (!eqB x y) fun b=>k (.c (.f (.bool b)))
 | .lss=>qC (ltB x y) fun b=>k (.c (.f (.bool b)))
 | .leq=>qC (!ltB y x) fun b=>k (.c (.f (.bool b)))
 | .gtr=>qC (ltB y x) fun b=>k (.c (.f (.bool b)))
 | .geq=>qC (!ltB x y) fun b=>k (.c (.f (.bool b)))
 | op=>xB (mM op j x y) fun v=>oV v k
theorem Ak(x y:Int):(!decide (x<y))=decide (y≤x):=by
 rw [Bool.eq_iff_iff];simp
theorem ajQ{op:BinOp}{j:IntKind}{x y:Int}{k:V→Prop}(h:pX op j x y k):∃ v,mM op j x y=some v∧k v:=by
 cases op
 case add=>simp only [pX,uM]at h;exact⟨_,rfl,h⟩
 case sub=>simp only [pX,uM]at h;exact⟨_,rfl,h⟩
 case mul=>simp only [pX,uM]at h;exact⟨_,rfl,h⟩
 case eql=>simp only [pX,jY,ajw]at h;exact⟨_,rfl,h⟩
 case neq=>simp only [pX,jY,ajw]at h;exact⟨_,rfl,h⟩
 case lss=>simp only [pX,jY,F7]at h;exact⟨_,rfl,h⟩
 case leq=>simp only [pX,jY,F7,Ak]at h;exact⟨_,rfl,h⟩
 case gtr=>simp only [pX,jY,F7]at h;exact⟨_,rfl,h⟩
 case geq=>simp only [pX,jY,F7,Ak]at h;exact⟨_,rfl,h⟩
 all_goals
  simp only [pX]at h
  obtain⟨v,h1,h2⟩:=mW h
  rw [xR]at h2
  exact⟨v,h1,h2⟩
def ajf(j j':IntKind)(p:Prop):Prop:=match j,j' with
 | .i64,.i64=>p
 | j,j'=>yU (decide (j=j')) p
theorem aje{j j':IntKind}{p:Prop}(h:ajf j j' p):j=j'∧p:=by
 unfold ajf at h
 split at h
 ·exact⟨rfl,h⟩
 ·obtain⟨h1,h2⟩:=qL h
  exact⟨of_decide_eq_true h1,h2⟩
def aHe(op:BinOp)(x y:V)(k:V→Prop):Prop:=match x,y with
 | .c (.f (.int j a)),.c (.f (.int j' b))=>match op with
  | .shl=>xB (bM .shl x y) fun v=>oV v k
  | .shr=>xB (bM .shr x y) fun v=>oV v k
  | op=>ajf j j' (pX op j a b k)
 | x,y=>xB (bM op x y) fun v=>oV v k
theorem ayA{op:BinOp}{x y:V}{k:V→Prop}(h:aHe op x y k):∃ v,bM op x y=some v∧k v:=by
 have gen:(xB (bM op x y) fun v=>oV v k)→∃ v,bM op x y=some v∧k v:=by
  intro h
  obtain⟨v,h1,h2⟩:=mW h
  rw [xR]at h2
  exact⟨v,h1,h2⟩
 unfold aHe at h
 split at h
 ·rename_i j a j' b
  split at h
  ·exact gen h
  ·exact gen h
  ·rename_i h1 h2
   obtain⟨e,h'⟩:=aje h
   subst e
   obtain⟨v,h3,h4⟩:=ajQ h'
   refine⟨v,?_,h4⟩
   cases op<;>first | exact absurd rfl h1 | exact absurd rfl h2 | (simp only [bM,if_true];exact h3)
 ·exact gen h
def aFE(v:V)(k:Nat→Prop):Prop:=match v with
 | .c (.f (.int _ (.ofNat m)))=>k m
 | _=>False
theorem axz{v:V}{k:Nat→Prop}(h:aFE v k):∃ m,jm v=some (Int.ofNat m)∧k m:=by
 unfold aFE at h
 split at h
 ·exact⟨_,rfl,h⟩
 ·exact h.elim
def ajj(t:HT)(sz:Nat)(arr:Option Nat)(x i:V)(k:V→Prop):Prop:=aFE i fun m=>match arr with
 | none=>match x with
  | .c (.sl b o l _ ep s)=>zi (Nat.succ m) l (jJ b t fun blk=>match blk with
   | .box _ _=>bP (Nat.add o (Nat.mul m sz)) fun o=>k (.c (.ptr b o ep))
   | .opn s' _ _ e .loc=>kK ep e (kK s s' (bP (Nat.add o (Nat.mul m sz)) fun o=>k (.c (.ptr b o ep))))
   | _=>False)
  | .c (.f (.fs cs l))=>zi (Nat.succ m) l (bP (Nat.mul m sz) fun o=>k (.c (.f (.fp cs o))))
  | _=>False
 | some n=>match x with
  | .c (.ptr b o ep)=>zi (Nat.succ m) n (bP (Nat.add o (Nat.mul m sz)) fun o=>k (.c (.ptr b o ep)))
  | .c (.f (.fp cs o))=>zi (Nat.succ m) n (bP (Nat.add o (Nat.mul m sz)) fun o=>k (.c (.f (.fp cs o))))
  | _=>False
theorem SG{H:Heap}{t:HT}(h:dK H t){sz:Nat}{arr:Option Nat}{x i:V}{k:V→Prop}(hk:ajj t sz arr x i k):∃ v,aV H sz arr x i=some v∧k v:=by
 obtain⟨m,hi,hk⟩:=axz hk
 have h0:(0:Int)≤Int.ofNat m:=Int.natCast_nonneg m
 have hlt:∀ l:Nat,Nat.succ m≤l→Int.ofNat m<(l:Int):=fun l hl=>Int.ofNat_lt.2 hl
 have hto:(Int.ofNat m).toNat=m:=rfl
 simp only at hk
 split at hk
 ·split at hk
  ·rename_i b o l cap ep s _
   obtain⟨h1,hk⟩:=kC hk
   obtain⟨blk,h2,h3⟩:=dV hk
   rw [h]at h2
   have h2:H[b]?=some blk:=h2
   split at h3
   ·rw [bT]at h3
    exact⟨_,by simp only [aV,hi,if_pos h0,if_pos (hlt _ h1),h2,hto];rfl,h3⟩
   ·obtain⟨h4,h3⟩:=dH h3
    obtain⟨h5,h3⟩:=dH h3
    rw [bT]at h3
    exact⟨_,by simp only [aV,hi,if_pos h0,if_pos (hlt _ h1),h2,hto,h4,h5,and_self,if_true];rfl,h4▸h3⟩
   ·exact h3.elim
  ·obtain⟨h1,hk⟩:=kC hk
   rw [bT]at hk
   exact⟨_,by simp only [aV,hi,if_pos h0,if_pos (hlt _ h1),hto];rfl,hk⟩
  ·exact hk.elim
 ·split at hk
  ·obtain⟨h1,hk⟩:=kC hk
   rw [bT]at hk
   exact⟨_,by simp only [aV,hi,if_pos h0,if_pos (hlt _ h1),hto];rfl,hk⟩
  ·obtain⟨h1,hk⟩:=kC hk
   rw [bT]at hk
   exact⟨_,by simp only [aV,hi,if_pos h0,if_pos (hlt _ h1),hto];rfl,hk⟩
  ·exact hk.elim
def aFO(t:HT)(x:V)(k:Nat→Prop):Prop:=match x with
 | .c (.sl b _ l _ ep sz)=>jJ b t fun blk=>match blk with
  | .box _ _=>k l
  | .opn s _ _ e _=>kK ep e (kK sz s (k l))
  | _=>False
 | .c (.f .aB)=>k 0
 | .c (.f .es)=>k 0
 | .c (.f (.fs _ l))=>k l
 | _=>False
theorem axH{H:Heap}{t:HT}(h:dK H t){x:V}{k:Nat→Prop}(hk:aFO t x k):∃ y n,x=.c y∧bJ H y=some n∧k n:=by
 unfold aFO at hk
 split at hk
 ·rename_i b o l cap ep sz
  obtain⟨blk,h2,h3⟩:=dV hk
  rw [h]at h2
  have h2:H[b]?=some blk:=h2
  split at h3
  ·exact⟨_,l,rfl,by simp [bJ,h2],h3⟩
  ·obtain⟨h4,h3⟩:=dH h3
   obtain⟨h5,h3⟩:=dH h3
   exact⟨_,l,rfl,by simp [bJ,h2,h4,h5],h3⟩
  ·exact h3.elim
 ·exact⟨_,0,rfl,rfl,hk⟩
 ·exact⟨_,0,rfl,rfl,hk⟩
 ·exact⟨_,_,rfl,rfl,hk⟩
 ·exact hk.elim
def La(r:T)(ps:List (Nat × Nat × Arg)):List C→(List C→Prop)→Prop:=
 List.rec (motive:=fun _=>List C→(List C→Prop)→Prop) (fun cs k=>k cs)
  (fun p _ ih cs k=>Prod.rec (motive:=fun _=>Prop) (fun off q=>Prod.rec (motive:=fun _=>Prop) (fun n x=>evK x r fun v=>Bj v fun xs=>kK xs.length n (Ag xs off cs fun cs=>ih cs k)) q) p) ps
theorem Dp(r:T):∀ {ps:List (Nat × Nat × Arg)} {cs:List C} {k:List C→Prop},La r ps cs k→∃ cs',fV r cs ps=some cs'∧k cs'
 | [],cs,k,h=>⟨cs,rfl,h⟩
 | (off,n,x)::ps,cs,k,h=>by
  have h:evK x r fun v=>Bj v fun xs=>kK xs.length n (Ag xs off cs fun cs=>La r ps cs k):=h
  rw [dQ]at h
  obtain⟨xs,h1,h⟩:=x9 h
  obtain⟨h2,h⟩:=dH h
  obtain⟨h3,h⟩:=oh h
  obtain⟨cs',h4,h5⟩:=Dp r h
  exact⟨cs',by simp [fV,h1,h2,h4]at h3 ⊢;omega,h5⟩
def Nj(t:HT)(sz:Nat)(y:V)(k:Nat→List C→Prop):Prop:=match y with
 | .c (.f .aB)=>k 0 []
 | .c (.f .es)=>k 0 []
 | .c (.f (.fs cs l))=>kK cs.length (Nat.mul l sz) (fzK cs fun cs=>k l cs)
 | .c (.sl b o l _ ep s)=>jJ b t fun blk=>match blk with
  | .box cs _=>xZ o cs fun cs=>pI (Nat.mul l sz) cs fun cs=>k l cs
  | .opn s' cs _ e _=>kK ep e (kK s s' (kK s' sz (xZ o cs fun cs=>pI (Nat.mul l sz) cs fun cs=>k l cs)))
  | _=>False
 | y=>xB (wP t.get sz y) fun r=>Prod.rec (motive:=fun _=>Prop) (fun n cs=>qB cs fun cs=>k n cs) r
theorem TD{H:Heap}{t:HT}(h:dK H t){sz:Nat}{y:V}{k:Nat→List C→Prop}(hk:Nj t sz y k) :
  ∃ n cs,gY H sz y=some (n,cs)∧k n cs:=by
 unfold Nj at hk
 split at hk
 ·exact⟨0,[],rfl,hk⟩
 ·exact⟨0,[],rfl,hk⟩
 ·rename_i cs l
  obtain⟨h1,hk⟩:=dH hk
  rw [xP]at hk
  have h1:cs.length=l*sz:=h1
  exact⟨l,_,by simp only [gY,bJ,dX,h1,if_true],hk⟩
 ·rename_i b o l cap ep s
  obtain⟨blk,h2,h3⟩:=dV hk
  rw [h]at h2
  have h2:H[b]?=some blk:=h2
  split at h3
  ·obtain⟨h8,h3⟩:=lG h3
   obtain⟨h4,h5⟩:=iW h3
   have h4:l*sz≤_:=h4
   rw [cD]at h4
   refine⟨l,_,?_,h5⟩
   simp only [gY,bJ,dX,h2]
   rw [if_pos (by omega)];rfl
  ·obtain⟨h4,h3⟩:=dH h3
   obtain⟨h5,h3⟩:=dH h3
   obtain⟨h6,h3⟩:=dH h3
   obtain⟨h8,h3⟩:=lG h3
   obtain⟨h9,h7⟩:=iW h3
   have h9:l*sz≤_:=h9
   rw [cD]at h9
   subst h4 h5 h6
   refine⟨l,_,?_,h7⟩
   simp only [gY,bJ,dX,h2,and_self,if_true]
   rw [if_pos ⟨trivial,trivial,by omega⟩];rfl
  ·exact h3.elim
 ·obtain⟨⟨n,cs⟩,h1,h2⟩:=mW hk
  have h2:qB cs fun cs=>k n cs:=h2
  rw [oC]at h2
  rw [h,uI]at h1
  exact⟨n,cs,h1,h2⟩
def IB(need bytes:Nat)(p:Prop):Prop:=zi (Nat.mul (Nat.add (Nat.mul 2 need) 768) bytes) 281474976710656 (zi (Nat.succ need) 281474976710656 p)
theorem uU{need bytes:Nat}{p:Prop}(h:IB need bytes p):dh need bytes=true∧p:=by
 obtain⟨h1,h⟩:=kC h
 obtain⟨h2,h⟩:=kC h
 refine⟨?_,h⟩
 have e:(2:Nat) ^ 48=281474976710656:=by decide
 simp only [dh,am,decide_eq_true_eq,e]
 exact⟨h1,h2⟩
def aLZ(t:HT)(n:Nat)(sz bytes:Nat)(x y:V)(k:V→HT→Nat→Prop):Prop:=
 Nj t sz y fun m ys=>Nat.rec (motive:=fun _=>Prop) False (fun _ _=>match x with
  | .c (.f .aB)=>Nat.rec (motive:=fun _=>Prop) (k (.c (.f .aB)) t n) (fun _ _=>IB m bytes (bP m fun m=>su (.opn sz ys 0 0 .loc) t n fun t n'=>k (.c (.sl n 0 m 0 0 sz)) t n')) m
  | .c (.f .es)=>Nat.rec (motive:=fun _=>Prop) (k (.c (.f .es)) t n) (fun _ _=>IB m bytes (bP m fun m=>su (.opn sz ys 0 0 .loc) t n fun t n'=>k (.c (.sl n 0 m 0 0 sz)) t n')) m
  | .c (.sl b o l cap ep s)=>jJ b t fun blk=>match blk with
   | .box cs fl=>Bool.rec (motive:=fun _=>Prop)
     (bP (Nat.add l m) fun lm=>IB lm bytes (xZ o cs fun cs=>pI (Nat.mul l sz) cs fun cs=>aGD cs ys fun cs=>su (.opn sz cs 0 0 .loc) t n fun t n'=>k (.c (.sl n 0 lm 0 0 sz)) t n'))
     (bP (Nat.add l m) fun lm=>zi fl (Nat.add o (Nat.mul l sz)) (Ag ys (Nat.add o (Nat.mul l sz)) cs fun cs=>jI (.box cs fl) t b fun t=>k (.c (.sl b o lm cap ep s)) t n))
     (Nat.ble (Nat.add l m) cap)
   | .opn s' cs fl e st=>kK ep e (kK s' sz (kK s sz (Nat.rec (motive:=fun _=>Prop) (k x t n) (fun _ _=>
     bP (Nat.add l m) fun lm=>Bool.rec (motive:=fun _=>Prop)
      (match st with
       | .loc=>zi fl (Nat.add o (Nat.mul l sz)) (Ag ys (Nat.add o (Nat.mul l sz)) cs fun cs=>jI (.opn sz cs fl e .loc) t b fun t=>k (.c (.sl b o lm 0 ep sz)) t n)
       | _=>False)
      (IB lm bytes (bP (Nat.succ e) fun e'=>aGD cs ys fun cs=>jI (.opn sz cs fl e' .loc) t b fun t=>k (.c (.sl b 0 lm 0 e' sz)) t n))
      (and (and (Nat.beq o 0) (Nat.beq (Nat.mul l sz) cs.length)) (Nat.ble fl cs.length))) m)))
   | _=>False
  | _=>False) sz
theorem ayE{H:Heap}{t:HT}(h:dK H t){sz bytes:Nat}{x y:V}{k:V→HT→Nat→Prop}(hk:aLZ t H.length sz bytes x y k) :
  ∃ v H' t',dI H sz bytes x y=some (v,H')∧dK H' t'∧k v t' H'.length:=by
 obtain⟨m,ys,ha,hk⟩:=TD h hk
 unfold dI
 rw [ha]
 cases sz with
 | zero=>exact hk.elim
 | succ sz'=>
  simp only at hk ⊢
  rw [if_neg (by omega)]
  split at hk
  ·cases m with
   | zero=>exact⟨_,H,t,rfl,h,hk⟩
   | succ m'=>
    simp only at hk
    obtain⟨h1,hk⟩:=uU hk
    rw [bT]at hk
    obtain⟨t',h2,h3⟩:=kE h hk
    exact⟨_,_,t',by simp only [Nat.add_one_ne_zero,if_false,h1,if_true],h2,h3⟩
  ·cases m with
   | zero=>exact⟨_,H,t,rfl,h,hk⟩
   | succ m'=>
    simp only at hk
    obtain⟨h1,hk⟩:=uU hk
    rw [bT]at hk
    obtain⟨t',h2,h3⟩:=kE h hk
    exact⟨_,_,t',by simp only [Nat.add_one_ne_zero,if_false,h1,if_true],h2,h3⟩
  ·rename_i b o l cap ep s _
   obtain⟨blk,h2,hk⟩:=dV hk
   rw [h]at h2
   have h2:H[b]?=some blk:=h2
   simp only [h2]
   split at hk
   ·rename_i cs fl _
    simp only
    cases hc:Nat.ble (Nat.add l m) cap with
    | false=>
     rw [hc]at hk
     have hc':¬ (l+m≤cap):=fun e=>by have:=Nat.ble_eq_true_of_le e;rw [show Nat.ble (Nat.add l m) cap=Nat.ble (l+m) cap from rfl,this]at hc;cases hc
     simp only [bT]at hk
     obtain⟨h3,hk⟩:=uU hk
     obtain⟨h4,hk⟩:=lG hk
     obtain⟨h5,hk⟩:=iW hk
     rw [GK]at hk
     obtain⟨t',h6,h7⟩:=kE h hk
     rw [cD]at h5
     have h5:l*(sz'+1)≤_:=h5
     rw [if_neg hc',if_pos ⟨h3,by omega⟩]
     exact⟨_,_,t',rfl,h6,h7⟩
    | true=>
     rw [hc]at hk
     have hc':l+m≤cap:=cM hc
     simp only [bT]at hk
     obtain⟨h3,hk⟩:=kC hk
     obtain⟨h4,hk⟩:=oh hk
     obtain⟨t',h6,h7⟩:=fF h hk
     rw [if_pos hc',if_pos ⟨h3,h4⟩]
     exact⟨_,_,t',rfl,h6,by simpa using h7⟩
   ·rename_i s' cs fl e st _
    simp only
    obtain⟨h3,hk⟩:=dH hk
    obtain⟨h4,hk⟩:=dH hk
    obtain⟨h5,hk⟩:=dH hk
    rw [if_pos ⟨h3,h4,h5⟩]
    cases m with
    | zero=>rw [if_pos rfl];exact⟨_,H,t,rfl,h,hk⟩
    | succ m'=>
     rw [if_neg (by omega)]
     simp only [bT]at hk
     cases hc:and (and (Nat.beq o 0) (Nat.beq (Nat.mul l (sz'+1)) cs.length)) (Nat.ble fl cs.length)with
     | true=>
      rw [hc]at hk
      simp only [am]at hc
      have c1:=cX hc.1.1
      have c2:=cX hc.1.2
      have c3:=cM hc.2
      simp only at hk
      obtain⟨h6,hk⟩:=uU hk
      rw [GK]at hk
      obtain⟨t',h7,h8⟩:=fF h hk
      have h6:dh (l+(m'+1)) bytes=true:=h6
      rw [if_pos ⟨c1,c2,c3⟩,if_pos h6]
      subst h3
      exact⟨_,_,t',rfl,h7,by simpa using h8⟩
     | false=>
      rw [hc]at hk
      have hn:¬ (o=0∧l*(sz'+1)=cs.length∧fl≤cs.length):=by
       rintro⟨c1,c2,c3⟩
       rw [c1,show Nat.mul l (sz'+1)=cs.length from c2,Nat.ble_eq_true_of_le c3]at hc
       simp at hc
      rw [if_neg hn]
      simp only at hk
      split at hk
      ·obtain⟨h6,hk⟩:=kC hk
       obtain⟨h7,hk⟩:=oh hk
       obtain⟨t',h8,h9⟩:=fF h hk
       rw [if_pos ⟨rfl,h6,h7⟩]
       exact⟨_,_,t',rfl,h8,by simpa using h9⟩
      ·exact hk.elim
   ·exact hk.elim
  ·exact hk.elim
end Km
end
section
set_option linter.unusedVariables false
namespace Km
open Go
abbrev iU:=Callee→List V→HT→Nat→(V→HT→Nat→Prop)→Prop
def wU(call:dn)(bC:iU):Prop:=
 ∀(c:Callee) (args:List V) (H:Heap) (t:HT) (k:V→HT→Nat→Prop),dK H t→bC c args t H.length k→∃ v H' t',call c args H=some (v,H')∧dK H' t'∧k v t' H'.length
def Gv{α β:Type}(g:α→(β→Prop)→Prop)(xs:List α):(List β→Prop)→Prop:=
 List.rec (motive:=fun _=>(List β→Prop)→Prop) (fun k=>k []) (fun x _ ih k=>g x fun y=>ih fun ys=>k (y::ys)) xs
theorem lD{α β:Type}{g:α→(β→Prop)→Prop}{f:α→Option β}(hg:∀ x k,g x k→∃ y,f x=some y∧k y):∀ {xs:List α} {k:List β→Prop},Gv g xs k→∃ ys,bf f xs=some ys∧k ys
 | [],k,h=>⟨[],rfl,h⟩
 | x::xs,k,h=>by
  obtain⟨y,h1,h⟩:=hg x _ h
  obtain⟨ys,h2,h3⟩:=lD hg (xs:=xs) h
  exact⟨y::ys,by simp [bf,h1,h2],h3⟩
def exK(t:HT)(m:Nat):C→(FC→Prop)→Prop:=
 Nat.rec (motive:=fun _=>C→(FC→Prop)→Prop) (fun x k=>match x with
   | .f y=>k y
   | _=>False)
  (fun _ ih x k=>match x with
   | .f y=>k y
   | .ptr b off _=>jJ b t fun blk=>match blk with
    | .box cs _=>Gv ih cs fun fs=>k (.fp fs off)
    | _=>False
   | .sl b o l _ ep sz=>jJ b t fun blk=>match blk with
    | .box cs _=>xZ o cs fun cs=>pI (Nat.mul l sz) cs fun cs=>Gv ih cs fun fs=>k (.fs fs l)
    | .opn s cs _ e .loc=>kK ep e (kK sz s (xZ o cs fun cs=>pI (Nat.mul l sz) cs fun cs=>Gv ih cs fun fs=>k (.fs fs l)))
    | .opn s cs _ e .nil=>kK ep e (kK sz s (k .aB))
    | .opn s cs _ e .es=>kK ep e (kK sz s (k .es))
    | _=>False
   | .cl f caps=>Gv ih caps fun fs=>k (.fn f fs)
   | _=>False) m
theorem ajt{H:Heap}{t:HT}(h:dK H t):∀(m:Nat) (x:C) (k:FC→Prop),exK t m x k→∃ y,exC m H x=some y∧k y:=by
 intro m
 induction m with
 | zero=>
  intro x k hk
  cases x with
  | f y=>exact⟨y,rfl,hk⟩
  | _=>exact hk.elim
 | succ m ih=>
  intro x k hk
  cases x with
  | f y=>exact⟨y,rfl,hk⟩
  | ptr b off ep=>
   obtain⟨blk,h1,h2⟩:=dV hk
   rw [h]at h1
   have h1:H[b]?=some blk:=h1
   cases blk with
   | box cs fl=>
    obtain⟨fs,h3,h4⟩:=lD ih h2
    exact⟨_,by simp only [exC,h1,h3];rfl,h4⟩
   | _=>exact h2.elim
  | sl b o l cap ep sz=>
   obtain⟨blk,h1,h2⟩:=dV hk
   rw [h]at h1
   have h1:H[b]?=some blk:=h1
   cases blk with
   | box cs fl=>
    obtain⟨h5,h2⟩:=lG h2
    obtain⟨h6,h2⟩:=iW h2
    obtain⟨fs,h3,h4⟩:=lD ih h2
    rw [cD]at h6
    have h6:l*sz≤_:=h6
    have h3:bf (exC m H) ((cs.drop o).take (l*sz))=some fs:=h3
    exact⟨_,by simp only [exC,h1];rw [if_pos (by omega),h3];rfl,h4⟩
   | opn s cs fl e st=>
    cases st with
    | loc=>
     obtain⟨h7,h2⟩:=dH h2
     obtain⟨h8,h2⟩:=dH h2
     obtain⟨h5,h2⟩:=lG h2
     obtain⟨h6,h2⟩:=iW h2
     obtain⟨fs,h3,h4⟩:=lD ih h2
     rw [cD]at h6
     have h6:l*sz≤_:=h6
     have h3:bf (exC m H) ((cs.drop o).take (l*sz))=some fs:=h3
     exact⟨_,by simp only [exC,h1];rw [if_pos ⟨h7,h8,by omega⟩,h3];rfl,h4⟩
    | nil=>
     obtain⟨h7,h2⟩:=dH h2
     obtain⟨h8,h2⟩:=dH h2
     exact⟨_,by simp only [exC,h1];rw [if_pos ⟨h7,h8⟩],h2⟩
    | es=>
     obtain⟨h7,h2⟩:=dH h2
     obtain⟨h8,h2⟩:=dH h2
     exact⟨_,by simp only [exC,h1];rw [if_pos ⟨h7,h8⟩],h2⟩
   | _=>exact h2.elim
  | cl f caps=>
   obtain⟨fs,h3,h4⟩:=lD ih hk
   exact⟨_,by simp only [exC,h3];rfl,h4⟩
  | _=>exact hk.elim
def Qu(t:HT)(v:V)(k:V→Prop):Prop:=match v with
 | .c x=>exK t deep x fun y=>k (.c (.f y))
 | .a xs=>Gv (exK t deep) xs fun ys=>fzK ys fun cs=>k (.a cs)
 | _=>False
theorem wH{H:Heap}{t:HT}(h:dK H t)(v:V)(k:V→Prop)(hk:Qu t v k):∃ y,dw deep H v=some y∧k y:=by
 cases v with
 | c x=>
  obtain⟨y,h1,h2⟩:=ajt h deep x _ hk
  exact⟨_,by simp only [dw,h1];rfl,h2⟩
 | a xs=>
  obtain⟨ys,h1,h2⟩:=lD (ajt h deep) hk
  rw [xP]at h2
  exact⟨_,by simp only [dw,h1];rfl,h2⟩
 | _=>exact hk.elim
def aLw(t:HT)(v:V)(k:V→Prop):Prop:=match v with
 | .t vs=>Gv (Qu t) vs fun vs=>k (.t vs)
 | v=>Qu t v k
theorem ayk{H:Heap}{t:HT}(h:dK H t)(v:V)(k:V→Prop)(hk:aLw t v k):∃ y,exV deep H v=some y∧k y:=by
 cases v with
 | t vs=>
  obtain⟨ys,h1,h2⟩:=lD (wH h) hk
  exact⟨_,by simp only [exV,h1];rfl,h2⟩
 | c x=>exact wH h (.c x) k hk
 | a xs=>exact wH h (.a xs) k hk
 | top=>exact hk.elim
def LG{α:Type}(g:α→HT→(HT→Prop)→Prop)(xs:List α):HT→(HT→Prop)→Prop:=
 List.rec (motive:=fun _=>HT→(HT→Prop)→Prop) (fun t k=>k t) (fun x _ ih t k=>g x t fun t=>ih t k) xs
def MkS{α:Type}(g:α→HT→(HT→Prop)→Prop)(f:Heap→α→Heap):Prop:=∀(x:α) (H:Heap) (t:HT) (k:HT→Prop),dK H t→g x t k→∃ t',dK (f H x) t'∧k t'
theorem oN{α:Type}{g:α→HT→(HT→Prop)→Prop}{f:Heap→α→Heap}(hg:MkS g f):∀(xs:List α) (H:Heap) (t:HT) (k:HT→Prop),dK H t→LG g xs t k→∃ t',dK (xs.foldl f H) t'∧k t'
 | [],H,t,k,h,hk=>⟨t,h,hk⟩
 | x::xs,H,t,k,h,hk=>by
  obtain⟨t1,h1,h2⟩:=hg x H t _ h hk
  exact oN hg xs _ t1 k h1 h2
def mkK(m:Nat):C→HT→(HT→Prop)→Prop:=
 Nat.rec (motive:=fun _=>C→HT→(HT→Prop)→Prop) (fun _ t k=>k t)
  (fun _ ih x t k=>match x with
   | .f _=>k t
   | .ptr b _ _=>jJ b t fun blk=>match blk with
    | .box cs fl=>bP (Nat.max fl cs.length) fun fl=>jI (.box cs fl) t b fun t=>LG ih cs t k
    | _=>k t
   | .sl b o l _ _ sz=>jJ b t fun blk=>match blk with
    | .box cs fl=>bP (Nat.max fl (Nat.add o (Nat.mul l sz))) fun fl=>jI (.box cs fl) t b fun t=>A8 o cs fun cs=>pI (Nat.mul l sz) cs fun cs=>LG ih cs t k
    | .opn s cs fl e st=>bP (Nat.max fl (Nat.add o (Nat.mul l sz))) fun fl=>jI (.opn s cs fl e st) t b fun t=>A8 o cs fun cs=>pI (Nat.mul l sz) cs fun cs=>LG ih cs t k
    | _=>k t
   | .cl _ caps=>LG ih caps t k
   | _=>k t) m
theorem aiV:∀(m:Nat),MkS (mkK m) (fun H x=>mkC m x H):=by
 intro m
 induction m with
 | zero=>intro x H t k h hk;exact⟨t,by cases x<;>exact h,hk⟩
 | succ m ih=>
  intro x H t k h hk
  cases x with
  | f y=>exact⟨t,h,hk⟩
  | ptr b off ep=>
   obtain⟨blk,h1,h2⟩:=dV hk
   rw [h]at h1
   have h1:H[b]?=some blk:=h1
   cases blk with
   | box cs fl=>
    change bP _ _ at h2
    rw [bT]at h2
    obtain⟨t1,h3,h4⟩:=fF h h2
    simp only [mkC,h1]
    exact oN ih cs _ t1 k h3 h4
   | _=>simp only [mkC,h1];exact⟨t,h,h2⟩
  | sl b o l cap ep sz=>
   obtain⟨blk,h1,h2⟩:=dV hk
   rw [h]at h1
   have h1:H[b]?=some blk:=h1
   cases blk with
   | box cs fl=>
    change bP _ _ at h2
    rw [bT]at h2
    obtain⟨t1,h3,h4⟩:=fF h h2
    rw [qI]at h4
    obtain⟨_,h4⟩:=iW h4
    simp only [mkC,h1]
    exact oN ih _ _ t1 k h3 h4
   | opn s cs fl e st=>
    change bP _ _ at h2
    rw [bT]at h2
    obtain⟨t1,h3,h4⟩:=fF h h2
    rw [qI]at h4
    obtain⟨_,h4⟩:=iW h4
    simp only [mkC,h1]
    exact oN ih _ _ t1 k h3 h4
   | _=>simp only [mkC,h1];exact⟨t,h,h2⟩
  | cl f caps=>
   simp only [mkC]
   exact oN ih _ _ t k h hk
  | _=>exact⟨t,h,hk⟩
def aKz(v:V)(t:HT)(k:HT→Prop):Prop:=match v with
 | .c x=>mkK deep x t k
 | .a xs=>LG (mkK deep) xs t k
 | _=>k t
theorem axC:MkS aKz (mkV deep):=by
 intro v H t k h hk
 cases v with
 | c x=>exact aiV deep x H t k h hk
 | a xs=>exact oN (aiV deep) xs H t k h hk
 | _=>exact⟨t,h,hk⟩
def aBy(call:iU)(f:Nat)(vs:List V)(t:HT)(n:Nat)(k:V→HT→Nat→Prop):Prop:=
 Gv (Qu t) vs fun fs=>call (.fn f) fs .e 0 fun rv t' _=>aLw t' rv fun rv=>LG aKz vs t fun t=>k rv t n
theorem aii{call:dn}{bC:iU}(hc:wU call bC){f:Nat}{vs:List V}{H:Heap}{t:HT}{k:V→HT→Nat→Prop}(h:dK H t)(hk:aBy bC f vs t H.length k) :
  ∃ v H' t',fU call f vs H=some (v,H')∧dK H' t'∧k v t' H'.length:=by
 obtain⟨fs,h1,hk⟩:=lD (wH h) hk
 obtain⟨rv,H1,t1,h2,h3,hk⟩:=hc (.fn f) fs [] .e _ dK.nil hk
 obtain⟨rv',h4,hk⟩:=ayk h3 rv _ hk
 obtain⟨t',h5,hk⟩:=oN axC vs H t _ h hk
 refine⟨rv',_,t',by simp only [fU,h1,h2,h4],h5,?_⟩
 rw [←(rC deep vs H).1];exact hk
abbrev Arm:=iU→T→List eP→HT→Nat→(V→List eP→HT→Nat→Prop)→Prop
def iZ(op:AOp):Arm:=fun _ r d t n k=>aLs op r t n fun v t n=>k v d t n
def aHj(x:Arg):Arm:=fun _ r d t n k=>evK x r fun v=>k v d t n
def aj0(c a b:Arg):Arm:=fun _ r d t n k=>evK c r fun v=>match v with
 | .c (.f (.bool v))=>Bool.rec (motive:=fun _=>Prop) (evK b r fun v=>k v d t n) (evK a r fun v=>k v d t n) v
 | _=>False
def Ns(zs:List FC):Arm:=fun _ r d t n k=>fzK zs fun cs=>su (.box cs 0) t n fun t n'=>k (.c (.ptr n 0 0)) d t n'
def aHm(x:Arg):Arm:=fun _ r d t n k=>evK x r fun v=>Bj v fun xs=>su (.box xs 0) t n fun t n'=>k (.c (.ptr n 0 0)) d t n'
def Nr(zs:List FC)(ps:List (Nat × Nat × Arg)):Arm:=fun _ r d t n k=>fzK zs fun cs=>La r ps cs fun cs=>k (.a cs) d t n
def aj1(m:Option Nat)(x:Arg):Arm:=fun _ r d t n k=>evK x r fun v=>ldK t m v fun v=>k v d t n
def Nk(m:Nat)(x y:Arg):Arm:=fun _ r d t n k=>evK x r fun v=>evK y r fun y=>Bj y fun xs=>kK xs.length m (match v with
 | .c p=>stK t p xs fun t=>k .top d t n
 | _=>False)
def GZ(x:Arg):Arm:=fun _ r d t n k=>evK x r fun v=>match v with
 | .c (.ptr b o e)=>k (.c (.ptr b o e)) d t n
 | .c (.f (.fp cs o))=>k (.c (.f (.fp cs o))) d t n
 | _=>False
def aHn(op:BinOp)(x y:Arg):Arm:=fun _ r d t n k=>evK x r fun x=>evK y r fun y=>aHe op x y fun v=>k v d t n
def aHl(j:IntKind)(x:Arg):Arm:=fun _ r d t n k=>evK x r fun v=>match v with
 | .c (.f (.int _ m))=>C9 j m fun m=>k (.c (.f (.int j m))) d t n
 | _=>False
def G6(off:Nat)(x:Arg):Arm:=fun _ r d t n k=>evK x r fun v=>match v with
 | .c (.ptr b o e)=>bP (Nat.add o off) fun o=>k (.c (.ptr b o e)) d t n
 | .c (.f (.fp cs o))=>bP (Nat.add o off) fun o=>k (.c (.f (.fp cs o))) d t n
 | _=>False
def Nl(off:Nat)(m:Option Nat)(x:Arg):Arm:=fun _ r d t n k=>evK x r fun v=>match v with
 | .a xs=>PW m off xs fun v=>k v d t n
 | _=>False
def G5(sz:Nat)(arr:Option Nat)(x i:Arg):Arm:=fun _ r d t n k=>evK x r fun x=>evK i r fun i=>ajj t sz arr x i fun v=>k v d t n
def BF(x:Arg)(i:Nat):Arm:=fun _ r d t n k=>evK x r fun v=>match v with
 | .t vs=>axx i vs fun v=>k v d t n
 | _=>False
def aj2(f:Nat)(args:List Arg)(h:Bool):Arm:=fun call r d t n k=>JI args r fun vs=>
 Bool.rec (motive:=fun _=>Prop) (aBy call f vs t n fun v t n=>k v d t n) (call (.fn f) vs t n fun v t n=>k v d t n) h
def Nq(x:Arg)(args:List Arg)(_:Bool):Arm:=fun call r d t n k=>evK x r fun x=>JI args r fun vs=>
 xB (bV x vs) fun ca=>Prod.rec (motive:=fun _=>Prop) (fun c vs=>call c vs t n fun v t n=>k v d t n) ca
def aBP(m:Nat):Arm:=fun _ r d t n k=>k (.c (.f (.int .i64 (.ofNat m)))) d t n
def aHk(x:Arg):Arm:=fun _ r d t n k=>evK x r fun v=>aFO t v fun m=>k (.c (.f (.int .i64 (.ofNat m)))) d t n
def G7(sz bytes:Nat)(x y:Arg):Arm:=fun _ r d t n k=>evK x r fun x=>evK y r fun y=>aLZ t n sz bytes x y fun v t n=>k v d t n
def JQ:Arm:=fun _ r d t n k=>k (.c (.f .qw)) d t n
def Np(x:Arg)(args:List Arg):Arm:=fun _ r d t n k=>evK x r fun x=>JI args r fun vs=>
 xB (bV x vs) fun ca=>Prod.rec (motive:=fun _=>Prop) (fun c vs=>Callee.rec (motive:=fun _=>Prop) (fun f=>k .top (.fn f vs::d) t n) (fun _=>False) c) ca
def aKh(op:AOp):Arm:=
 AOp.rec (motive:=fun _=>Arm)
  aHj (fun o s=>iZ (.pre o s)) aj0 Ns aHm Nr (fun a b c e=>iZ (.aY a b c e)) aj1 Nk GZ aHn
  (fun a b c e=>iZ (.eq a b c e)) (fun a b=>iZ (.un a b)) aHl (fun a=>iZ (.Gz a)) (fun a=>iZ (.GH a)) (fun a=>iZ (.MP a)) (fun a b=>iZ (.ji a b)) (iZ .pR)
  (fun a b c e=>iZ (.lookup a b c e)) (fun a b c e=>iZ (.pU a b c e)) (fun a b c e f=>iZ (.fA a b c e f)) (fun a b c e f=>iZ (.slice a b c e f)) (fun a b c e f g=>iZ (.rZ a b c e f g)) (fun a b c=>iZ (.uP a b c))
  G6 Nl G5 (fun a b=>iZ (.idxs a b)) (fun a b c e f=>iZ (.y9 a b c e f)) (fun a=>iZ (.range a)) (fun a=>iZ (.next a)) BF aj2 Nq aHk aBP (fun a=>iZ (.lens a)) (fun a=>iZ (.cap a))
  G7 (fun a b c=>iZ (.copy a b c)) (fun a b=>iZ (.jV a b)) (fun a b c e f=>iZ (.wM a b c e f)) (fun a b c=>iZ (.clear a b c)) (fun a=>iZ (.nI a)) (fun a=>iZ (.sD a)) (fun a=>iZ (.entry a)) (fun a b=>iZ (.CO a b)) (fun a b c e=>iZ (.yX a b c e)) JQ Np (iZ .bad) op
theorem axv{call:dn}{bC:iU}(hc:wU call bC)(op:AOp){r:T}{d:List eP}{H:Heap}{t:HT}{k:V→List eP→HT→Nat→Prop}(h:dK H t)(hk:aKh op bC r d t H.length k) :
  ∃ v d' H' t',gU call ⟨r,d,H⟩ op=some (v,⟨r,d',H'⟩)∧dK H' t'∧k v d' t' H'.length:=by
 have go:∀ {v H' t'},gU call ⟨r,d,H⟩ op=(xOp r H op).map (fun r'=>(r'.1,⟨r,d,r'.2⟩))→xOp r H op=some (v,H')→dK H' t'→k v d t' H'.length →
   ∃ v d' H' t',gU call ⟨r,d,H⟩ op=some (v,⟨r,d',H'⟩)∧dK H' t'∧k v d' t' H'.length:=
  fun h1 h2 h3 h4=>⟨_,d,_,_,by rw [h1,h2];rfl,h3,h4⟩
 have gen:gU call ⟨r,d,H⟩ op=(xOp r H op).map (fun r'=>(r'.1,⟨r,d,r'.2⟩))→iZ op bC r d t H.length k →
   ∃ v d' H' t',gU call ⟨r,d,H⟩ op=some (v,⟨r,d',H'⟩)∧dK H' t'∧k v d' t' H'.length:=fun h1 h2=>by
  obtain⟨v,H',t',h3,h4,h5⟩:=ayg op r H t _ h h2
  exact go h1 h3 h4 h5
 cases op
 case mov x=>
  have hk:aHj x bC r d t H.length k:=hk
  unfold aHj at hk;rw [dQ]at hk
  exact go rfl rfl h hk
 case pick c a b=>
  have hk:aj0 c a b bC r d t H.length k:=hk
  unfold aj0 at hk;rw [dQ]at hk
  split at hk
  ·rename_i v hv
   cases v with
   | true=>
    simp only [dQ]at hk
    exact go rfl (by simp only [xOp,hv];rfl) h hk
   | false=>
    simp only [dQ]at hk
    exact go rfl (by simp only [xOp,hv];rfl) h hk
  ·exact hk.elim
 case alloc zs=>
  have hk:Ns zs bC r d t H.length k:=hk
  unfold Ns at hk;rw [xP]at hk
  obtain⟨t',h1,h2⟩:=kE h hk
  exact go rfl rfl h1 h2
 case box x=>
  have hk:aHm x bC r d t H.length k:=hk
  unfold aHm at hk;rw [dQ]at hk
  obtain⟨xs,h3,hk⟩:=x9 hk
  obtain⟨t',h1,h2⟩:=kE h hk
  exact go rfl (by simp only [xOp,h3]) h1 h2
 case build zs ps=>
  have hk:Nr zs ps bC r d t H.length k:=hk
  unfold Nr at hk;rw [xP]at hk
  obtain⟨cs,h3,hk⟩:=Dp r hk
  exact go rfl (by simp only [xOp,h3];rfl) h hk
 case load m x=>
  have hk:aj1 m x bC r d t H.length k:=hk
  unfold aj1 at hk;rw [dQ]at hk
  obtain⟨v,h3,hk⟩:=ajc h hk
  exact go rfl (by simp only [xOp,h3];rfl) h hk
 case store m x y=>
  have hk:Nk m x y bC r d t H.length k:=hk
  unfold Nk at hk;rw [dQ,dQ]at hk
  obtain⟨xs,h3,hk⟩:=x9 hk
  obtain⟨h4,hk⟩:=dH hk
  split at hk
  ·rename_i p hp
   obtain⟨H',t',h5,h6,h7,hk⟩:=aB2 h hk
   exact go rfl (by simp only [xOp,hp,h3,h4,if_true,h5];rfl) h6 (by rw [h7];exact hk)
  ·exact hk.elim
 case bD x=>
  have hk:GZ x bC r d t H.length k:=hk
  unfold GZ at hk;rw [dQ]at hk
  split at hk
  ·rename_i hv;exact go rfl (by simp only [xOp,hv]) h hk
  ·rename_i hv;exact go rfl (by simp only [xOp,hv]) h hk
  ·exact hk.elim
 case bin op x y=>
  have hk:aHn op x y bC r d t H.length k:=hk
  unfold aHn at hk;rw [dQ,dQ]at hk
  obtain⟨v,h3,hk⟩:=ayA hk
  exact go rfl (by simp only [xOp,h3];rfl) h hk
 case cvi j x=>
  have hk:aHl j x bC r d t H.length k:=hk
  unfold aHl at hk;rw [dQ]at hk
  split at hk
  ·rename_i hv
   simp only [uM]at hk
   exact go rfl (by simp only [xOp,hv];rfl) h hk
  ·exact hk.elim
 case au off x=>
  have hk:G6 off x bC r d t H.length k:=hk
  unfold G6 at hk;rw [dQ]at hk
  split at hk
  ·rename_i hv;rw [bT]at hk;exact go rfl (by simp only [xOp,hv,lC];rfl) h hk
  ·rename_i hv;rw [bT]at hk;exact go rfl (by simp only [xOp,hv,lC];rfl) h hk
  ·exact hk.elim
 case field off m x=>
  have hk:Nl off m x bC r d t H.length k:=hk
  unfold Nl at hk;rw [dQ]at hk
  split at hk
  ·rename_i hv
   obtain⟨v,h3,hk⟩:=Ac hk
   exact go rfl (by simp only [xOp,hv,xY,h3];rfl) h hk
  ·exact hk.elim
 case aC sz arr x i=>
  have hk:G5 sz arr x i bC r d t H.length k:=hk
  unfold G5 at hk;rw [dQ,dQ]at hk
  obtain⟨v,h3,hk⟩:=SG h hk
  exact go rfl (by simp only [xOp,h3];rfl) h hk
 case extract x i=>
  have hk:BF x i bC r d t H.length k:=hk
  unfold BF at hk;rw [dQ]at hk
  split at hk
  ·rename_i hv
   obtain⟨v,h3,hk⟩:=zu hk
   exact go rfl (by simp only [xOp,hv,h3];rfl) h hk
  ·exact hk.elim
 case call f args hh=>
  have hk:aj2 f args hh bC r d t H.length k:=hk
  unfold aj2 at hk;rw [wL]at hk
  cases hh with
  | false=>
   obtain⟨v,H',t',h1,h2,h3⟩:=aii hc h hk
   exact⟨v,d,H',t',by simp only [gU,jB,aE,if_false,h1];rfl,h2,h3⟩
  | true=>
   obtain⟨v,H',t',h1,h2,h3⟩:=hc _ _ H t _ h hk
   exact⟨v,d,H',t',by simp only [gU,jB,if_true,h1];rfl,h2,h3⟩
 case bH x args hh=>
  have hk:Nq x args hh bC r d t H.length k:=hk
  unfold Nq at hk;rw [dQ,wL]at hk
  obtain⟨⟨c,vs⟩,h1,hk⟩:=mW hk
  obtain⟨v,H',t',h2,h3,h4⟩:=hc c vs H t _ h hk
  exact⟨v,d,H',t',by simp only [gU,h1,h2];rfl,h3,h4⟩
 case len x=>
  have hk:aHk x bC r d t H.length k:=hk
  unfold aHk at hk;rw [dQ]at hk
  obtain⟨y,m,h1,h2,hk⟩:=axH h hk
  exact go rfl (by simp only [xOp,h1,h2];rfl) h hk
 case Az m=>
  have hk:aBP m bC r d t H.length k:=hk
  exact go rfl rfl h hk
 case append sz bytes x y=>
  have hk:G7 sz bytes x y bC r d t H.length k:=hk
  unfold G7 at hk;rw [dQ,dQ]at hk
  obtain⟨v,H',t',h1,h2,h3⟩:=ayE h hk
  exact go rfl (by simp only [xOp,h1]) h2 h3
 case recover=>
  have hk:JQ bC r d t H.length k:=hk
  exact⟨_,d,H,t,rfl,h,hk⟩
 case defer x args=>
  have hk:Np x args bC r d t H.length k:=hk
  unfold Np at hk;rw [dQ,wL]at hk
  obtain⟨⟨c,vs⟩,h1,hk⟩:=mW hk
  cases c with
  | fn f=>exact⟨_,.fn f vs::d,H,t,by simp only [gU,h1],h,hk⟩
  | yield b=>exact hk.elim
 all_goals exact gen rfl hk
end Km
end
section
set_option linter.unusedVariables false
namespace Km
open Go
def aBp(g:Option (P × Bool))(r:T)(yes no:Prop):Prop:=
 Option.rec (motive:=fun _=>Prop) yes (fun pw=>Prod.rec (motive:=fun _=>Prop) (fun p w=>Jt p r fun v=>match v with
  | .c (.f (.bool b))=>Bool.rec (motive:=fun _=>Prop) (Bool.rec (motive:=fun _=>Prop) yes no w) (Bool.rec (motive:=fun _=>Prop) no yes w) b
  | .t []=>no
  | _=>False) pw) g
theorem ahy{g:Option (P × Bool)}{r:T}{yes no:Prop}(h:aBp g r yes no):(wanted r g=some true∧yes)∨(wanted r g=some false∧no):=by
 cases g with
 | none=>exact .inl ⟨rfl,h⟩
 | some pw=>
  obtain⟨p,w⟩:=pw
  change Jt p r _ at h
  rw [rG]at h
  simp only [wanted]
  split at h
  ·rename_i b hv
   rw [hv]
   cases b<;>cases w
   ·exact .inl ⟨rfl,h⟩
   ·exact .inr ⟨rfl,h⟩
   ·exact .inr ⟨rfl,h⟩
   ·exact .inl ⟨rfl,h⟩
  ·rename_i hv;rw [hv];exact .inr ⟨rfl,h⟩
  ·exact h.elim
abbrev KSt:=T→List eP→HT→Nat→Prop
def ahF(o:aU)(call:iU)(r:T)(d:List eP)(t:HT)(n:Nat)(k:KSt):Prop:=
 aU.rec (motive:=fun _=>Prop) (fun dst op g=>aBp g r (aKh op call r d t n fun v d t n=>aCZ dst r v fun r=>k r d t n) (aCZ dst r (.t []) fun r=>k r d t n)) o
theorem Ik{call:dn}{bC:iU}(hc:wU call bC){o:aU}{r:T}{d:List eP}{H:Heap}{t:HT}{k:KSt}(h:dK H t)(hk:ahF o bC r d t H.length k) :
  ∃ s' t',iT call ⟨r,d,H⟩ o=some s'∧dK s'.heap t'∧k s'.regs s'.defs t' s'.heap.length:=by
 obtain⟨dst,op,g⟩:=o
 rcases ahy hk with⟨hw,hk⟩ | ⟨hw,hk⟩
 ·obtain⟨v,d',H',t',h1,h2,h3⟩:=axv hc op h hk
  rw [PN]at h3
  exact⟨⟨lW r dst v,d',H'⟩,t',by simp only [iT,hw,h1],h2,h3⟩
 ·rw [PN]at hk
  exact⟨⟨lW r dst (.t []),d,H⟩,t,by simp only [iT,hw],h,hk⟩
def aKa(ops:List aU)(call:iU):T→List eP→HT→Nat→KSt→Prop:=
 List.rec (motive:=fun _=>T→List eP→HT→Nat→KSt→Prop) (fun r d t n k=>k r d t n) (fun o _ ih r d t n k=>ahF o call r d t n fun r d t n=>ih r d t n k) ops
theorem P6{call:dn}{bC:iU}(hc:wU call bC):∀ {ops:List aU} {r:T} {d:List eP} {H:Heap} {t:HT} {k:KSt},dK H t→aKa ops bC r d t H.length k →
  ∃ s' t',iI call ops ⟨r,d,H⟩=some s'∧dK s'.heap t'∧k s'.regs s'.defs t' s'.heap.length
 | [],r,d,H,t,k,h,hk=>⟨⟨r,d,H⟩,t,rfl,h,hk⟩
 | o::ops,r,d,H,t,k,h,hk=>by
  obtain⟨s1,t1,h1,h2,h3⟩:=Ik hc h hk
  obtain⟨s2,t2,h4,h5,h6⟩:=P6 hc (r:=s1.regs) (d:=s1.defs) (H:=s1.heap) h2 h3
  exact⟨s2,t2,by simp only [iI,h1];exact h4,h5,h6⟩
structure BH where
 r:T
 d:List eP
 t:HT
 n:Nat
def EY(ops:List aU)(call:iU):T→List eP→HT→Nat→(List BH→KSt)→Prop:=
 List.rec (motive:=fun _=>T→List eP→HT→Nat→(List BH→KSt)→Prop) (fun r d t n k=>k [⟨r,d,t,n⟩] r d t n)
  (fun o _ ih r d t n k=>ahF o call r d t n fun r' d' t' n'=>ih r' d' t' n' fun ss r'' d'' t'' n''=>k (⟨r,d,t,n⟩::ss) r'' d'' t'' n'') ops
def aBQ(s:St)(x:BH):Prop:=x.r=s.regs∧x.d=s.defs∧dK s.heap x.t∧x.n=s.heap.length
inductive BG:List St→List BH→Prop
 | nil:BG [] []
 | cons {s:St} {x:BH} {ss:List St} {xs:List BH} (h:aBQ s x) (hs:BG ss xs):BG (s::ss) (x::xs)
theorem BG.get{ss:List St}{xs:List BH}(h:BG ss xs):∀(i:Nat) (x:BH),xs[i]?=some x→∃ s,ss[i]?=some s∧aBQ s x:=by
 induction h with
 | nil=>intro i x hx;simp at hx
 | cons h hs ih=>
  intro i x hx
  cases i with
  | zero=>simp at hx;subst hx;exact⟨_,rfl,h⟩
  | succ i=>simpa using ih i x (by simpa using hx)
theorem zO{call:dn}{bC:iU}(hc:wU call bC):∀ {ops:List aU} {r:T} {d:List eP} {H:Heap} {t:HT} {k:List BH→KSt},dK H t→EY ops bC r d t H.length k →
  ∃ ss xs s' t',eU call ops ⟨r,d,H⟩=some ss∧BG ss xs∧ss.getLast?=some s'∧dK s'.heap t'∧k xs s'.regs s'.defs t' s'.heap.length
 | [],r,d,H,t,k,h,hk=>⟨[⟨r,d,H⟩],[⟨r,d,t,H.length⟩],⟨r,d,H⟩,t,rfl,.cons ⟨rfl,rfl,h,rfl⟩ .nil,rfl,h,hk⟩
 | o::ops,r,d,H,t,k,h,hk=>by
  obtain⟨s1,t1,h1,h2,h3⟩:=Ik hc h hk
  obtain⟨ss,xs,s2,t2,h4,h5,h6,h7,h8⟩:=zO hc (r:=s1.regs) (d:=s1.defs) (H:=s1.heap) h2 h3
  refine⟨⟨r,d,H⟩::ss,⟨r,d,t,H.length⟩::xs,s2,t2,by simp only [eU,h1];rw [h4],.cons ⟨rfl,rfl,h,rfl⟩ h5,?_,h7,h8⟩
  cases ss with
  | nil=>simp at h6
  | cons a as=>simpa using h6
def Pz(ops:List aU)(xs:List BH)(c:Nat × Nat):Bool:=
 match ops[c.1]?,xs[c.1]?,xs[c.2]? with
 | some o,some s,some s'=>match wanted s.r o.g with
  | some false=>true
  | _=>match ahv s.r s.t.get s.n o.op,ahv s.r s'.t.get s'.n o.op with
   | some (v,_),some (v',_)=>v.beq v'
   | _,_=>false
 | _,_,_=>false
theorem ahS{ops:List aU}{ss:List St}{xs:List BH}(h:BG ss xs){c:Nat × Nat}(hc:Pz ops xs c=true):sameAt ops ss c=true:=by
 unfold Pz at hc
 split at hc
 ·rename_i o x x' h1 h2 h3
  obtain⟨s,g1,g2,g3,g4,g5⟩:=h.get _ _ h2
  obtain⟨s',k1,k2,k3,k4,k5⟩:=h.get _ _ h3
  unfold sameAt
  rw [h1,g1,k1]
  simp only
  rw [←g2]
  split at hc
  ·rename_i hw;rw [hw]
  ·split at hc
   ·rename_i v e v' e' h4 h5
    rw [g4,g5]at h4
    rw [k4,k5]at h5
    have e1:=ES x.r s.heap o.op
    rw [h4]at e1
    have e2:=ES x.r s'.heap o.op
    rw [h5]at e2
    rw [←e1,←e2]
    split
    ·rfl
    ·exact hc
   ·simp at hc
 ·simp at hc
def uV(ops:List aU)(chk:List (Nat × Nat))(call:iU)(r:T)(d:List eP)(t:HT)(n:Nat)(k:KSt):Prop:=
 List.rec (motive:=fun _=>Prop) (aKa ops call r d t n k) (fun _ _ _=>EY ops call r d t n fun xs r d t n=>yU (chk.all (Pz ops xs)) (k r d t n)) chk
theorem KL{call:dn}{bC:iU}(hc:wU call bC){ops:List aU}{chk:List (Nat × Nat)}{r:T}{d:List eP}{H:Heap}{t:HT}{k:KSt}(h:dK H t)(hk:uV ops chk bC r d t H.length k) :
  ∃ s' t',jd call ops chk ⟨r,d,H⟩=some s'∧dK s'.heap t'∧k s'.regs s'.defs t' s'.heap.length:=by
 cases chk with
 | nil=>exact P6 hc h hk
 | cons c cs=>
  have hk:EY ops bC r d t H.length (fun xs r d t n=>yU ((c::cs).all (Pz ops xs)) (k r d t n)):=hk
  obtain⟨ss,xs,s',t',h1,h2,h3,h4,h5⟩:=zO hc h hk
  obtain⟨h6,h7⟩:=qL h5
  refine⟨s',t',?_,h4,h7⟩
  simp only [jd,h1]
  rw [if_pos,h3]
  rw [aL]at h6 ⊢
  exact fun c hc=>ahS h2 (h6 c hc)
abbrev Go1:=Option Nat→List cu→KSt
abbrev ayJ:=Option ah→KSt
abbrev bW:=iU→Nat→ayJ→Go1→Option Nat→List cu→KSt
def Qx:bW:=fun _ _ _ go ro rest r d t n=>go ro rest r d t n
def ayy(ops:List aU)(chk:List (Nat × Nat)):bW:=fun call _ _ go ro rest r d t n=>
 Option.rec (motive:=fun _=>Prop) (uV ops chk call r d t n fun r d t n=>go ro rest r d t n)
  (fun _=>yU (ops.all (·.op.fO)) (uV ops chk call r d t n fun r d t n=>go ro rest r d t n)) ro
def aQg(a b:ah)(_ _:bW):bW:=fun _ _ _ go ro rest r d t n=>go ro (.code a::.code b::rest) r d t n
def ajK(c:Arg)(a b:ah)(_ _:bW):bW:=fun _ _ _ go ro rest r d t n=>evK c r fun v=>match v with
 | .c (.f (.bool v))=>Bool.rec (motive:=fun _=>Prop) (go ro (.code b::rest) r d t n) (go ro (.code a::rest) r d t n) v
 | _=>False
def aGG(id:Nat)(a:ah)(_:bW):bW:=fun _ _ _ go ro rest r d t n=>go ro (.code a::.inBlock id::rest) r d t n
def aLD(a:ah)(_:bW):bW:=fun _ _ _ go ro rest r d t n=>go ro (.code a::.inLoop a::rest) r d t n
def GN(f:Arg)(ps:List P)(as bd:ah)(_ _:bW):bW:=fun call fn _ go ro rest r d t n=>
 Option.rec (motive:=fun _=>Prop)
  (su (.dfr true) t n fun t n1=>su (.lp fn r ps as bd .ready none n) t n1 fun t n2=>evK f r fun x=>
   xB (bV x [.c (.yl n1)]) fun ca=>Prod.rec (motive:=fun _=>Prop) (fun c vs=>Callee.rec (motive:=fun _=>Prop)
    (fun g=>call (.fn g) vs t n2 fun _ t n'=>go none (.kV n1::rest) r (.coll n::d) t n') (fun _=>False) c) ca)
  (fun _=>False) ro
def ajJ(id:Nat):bW:=fun _ _ jE go ro rest r d t n=>
 Option.rec (motive:=fun _=>Prop) (Option.rec (motive:=fun _=>Prop) False (fun _=>jE (some (.exit id)) r d t n) ro) (fun k=>go ro k r d t n) (exitTo id rest)
def aQh:bW:=fun _ _ jE _ _ _ r d t n=>jE (some .ret) r d t n
def aQi:bW:=fun _ _ _ _ _ _ _ _ _ _=>False
def aGE(a:ah)(_:bW):bW:=fun _ _ _ go ro rest r d t n=>go ro (.code a::.inScope a::rest) r d t n
def aGF(_:Nat):bW:=Qx
def aLE(l:Nat):bW:=fun _ _ _ go ro rest r d t n=>xB (gotoIn l rest) fun k=>go ro k r d t n
def JB(c:ah):bW:=ah.rec (motive:=fun _=>bW) Qx ayy aQg ajK aGG aLD GN ajJ aQh aQi aGE aGF aLE c
def aGb(_:Nat):bW:=Qx
def aK8(c:ah):bW:=fun _ _ _ go ro rest r d t n=>go ro (.code c::.inLoop c::rest) r d t n
def Me(b:Nat):bW:=fun _ _ _ go ro rest r d t n=>jJ b t fun blk=>match blk with
 | .lp f tmps ps as bd st pending dd=>yU (match st with | .busy=>false | _=>true) (jI (.lp f tmps ps as bd .exhausted pending dd) t b fun t=>match pending with
  | none=>go ro rest r d t n
  | some .ret=>go ro (.code .ret::rest) r d t n
  | some (.exit id)=>go ro (.code (.exit id)::rest) r d t n
  | some _=>False)
 | _=>False
def aBH:bW:=fun _ _ _ go ro rest r d t n=>Option.rec (motive:=fun _=>Prop) False (fun b=>jJ b t fun blk=>match blk with
 | .lp f tmps ps as bd .ready pending dd=>jI (.lp f tmps ps as bd .busy pending dd) t b fun t=>go ro rest r d t n
 | _=>False) ro
def aGa(_:ah):bW:=Qx
def aBG(x:cu):bW:=cu.rec (motive:=fun _=>bW) JB aGb aK8 Me aBH aGa x
def runK(call:iU)(fn:Nat)(jE:ayJ)(m:Nat):Go1:=
 Nat.rec (motive:=fun _=>Go1) (fun _ _ _ _ _ _=>False)
  (fun _ ih ro todo r d t n=>List.rec (motive:=fun _=>Prop) (jE none r d t n) (fun x rest _=>aBG x call fn jE ih ro rest r d t n) todo) m
def aNi(call:dn)(fn m:Nat)(ro:Option Nat)(todo:List cu)(s:St)(jE:ayJ):Prop:=
 ∃ jump s' t',run call fn m ro todo s=some (jump,s')∧dK s'.heap t'∧jE jump s'.regs s'.defs t' s'.heap.length
theorem PI{call:dn}{bC:iU}(hc:wU call bC)(fn:Nat)(jE:ayJ):∀(m:Nat) (ro:Option Nat) (todo:List cu) (r:T) (d:List eP) (H:Heap) (t:HT),
  dK H t→runK bC fn jE m ro todo r d t H.length→aNi call fn m ro todo ⟨r,d,H⟩ jE:=by
 intro m
 induction m with
 | zero=>intro ro todo r d H t h hk;exact hk.elim
 | succ m ih=>
  intro ro todo r d H t h hk
  have go:∀ {todo'} {s':St} {t':HT},run call fn (m+1) ro todo ⟨r,d,H⟩=run call fn m ro todo' s'→dK s'.heap t'→runK bC fn jE m ro todo' s'.regs s'.defs t' s'.heap.length→aNi call fn (m+1) ro todo ⟨r,d,H⟩ jE:=by
   intro todo' s' t' h1 h2 h3
   obtain⟨jump,s'',t'',g1,g2,g3⟩:=ih ro todo' s'.regs s'.defs s'.heap t' h2 h3
   exact⟨jump,s'',t'',by rw [h1];exact g1,g2,g3⟩
  cases todo with
  | nil=>exact⟨none,⟨r,d,H⟩,t,rfl,h,hk⟩
  | cons x rest=>
   have hk:aBG x bC fn jE (runK bC fn jE m) ro rest r d t H.length:=hk
   cases x with
   | inBlock id=>exact go (s':=⟨r,d,H⟩) (by simp only [run]) h hk
   | inLoop c=>exact go (s':=⟨r,d,H⟩) (by simp only [run]) h hk
   | inScope c=>exact go (s':=⟨r,d,H⟩) (by simp only [run]) h hk
   | kV b=>
    have hk:Me b bC fn jE (runK bC fn jE m) ro rest r d t H.length:=hk
    unfold Me at hk
    obtain⟨blk,h1,h2⟩:=dV hk
    rw [h]at h1
    have h1:H[b]?=some blk:=h1
    split at h2
    ·rename_i f tmps ps as bd st pending dd _
     obtain⟨h3,h2⟩:=qL h2
     obtain⟨t',h4,h5⟩:=fF h h2
     have hst:st≠.busy:=by rintro rfl;simp at h3
     have hl:H.length=(H.set b (.lp f tmps ps as bd .exhausted pending dd)).length:=by simp
     rw [hl]at h5
     split at h5
     ·exact go (s':=⟨r,d,H.set b (.lp f tmps ps as bd .exhausted none dd)⟩) (by simp only [run,h1,if_neg hst]) h4 h5
     ·exact go (s':=⟨r,d,H.set b (.lp f tmps ps as bd .exhausted (some .ret) dd)⟩) (by simp only [run,h1,if_neg hst]) h4 h5
     ·exact go (s':=⟨r,d,H.set b (.lp f tmps ps as bd .exhausted (some (.exit _)) dd)⟩) (by simp only [run,h1,if_neg hst]) h4 h5
     ·exact h5.elim
    ·exact h2.elim
   | qN=>
    have hk:aBH bC fn jE (runK bC fn jE m) ro rest r d t H.length:=hk
    cases ro with
    | none=>exact hk.elim
    | some b=>
     obtain⟨blk,h1,h2⟩:=dV hk
     rw [h]at h1
     have h1:H[b]?=some blk:=h1
     split at h2
     ·rename_i f tmps ps as bd pending dd _
      obtain⟨t',h4,h5⟩:=fF h h2
      have hl:H.length=(H.set b (.lp f tmps ps as bd .busy pending dd)).length:=by simp
      rw [hl]at h5
      exact go (s':=⟨r,d,H.set b (.lp f tmps ps as bd .busy pending dd)⟩) (by simp only [run,h1]) h4 h5
     ·exact h2.elim
   | code c=>
    cases c with
    | skip=>exact go (s':=⟨r,d,H⟩) (by simp only [run]) h hk
    | label l=>exact go (s':=⟨r,d,H⟩) (by simp only [run]) h hk
    | scope a=>exact go (s':=⟨r,d,H⟩) (by simp only [run]) h hk
    | goto l=>
     obtain⟨k',he,hk⟩:=mW (show xB (gotoIn l rest) (fun k'=>runK bC fn jE m ro k' r d t H.length) from hk)
     exact go (s':=⟨r,d,H⟩) (by simp only [run,he]) h hk
    | bad=>exact hk.elim
    | ret=>exact⟨some .ret,⟨r,d,H⟩,t,rfl,h,hk⟩
    | seq a b=>exact go (s':=⟨r,d,H⟩) (by simp only [run]) h hk
    | block id a=>exact go (s':=⟨r,d,H⟩) (by simp only [run]) h hk
    | loop a=>exact go (s':=⟨r,d,H⟩) (by simp only [run]) h hk
    | exit id=>
     have hk:ajJ id bC fn jE (runK bC fn jE m) ro rest r d t H.length:=hk
     unfold ajJ at hk
     cases he:exitTo id rest with
     | some k'=>
      rw [he]at hk
      exact go (s':=⟨r,d,H⟩) (by simp only [run,he]) h hk
     | none=>
      rw [he]at hk
      cases ro with
      | none=>exact hk.elim
      | some b=>exact⟨some (.exit id),⟨r,d,H⟩,t,by simp only [run,he,Option.isSome_some,if_true],h,hk⟩
    | cond c a b=>
     have hk:ajK c a b (JB a) (JB b) bC fn jE (runK bC fn jE m) ro rest r d t H.length:=hk
     unfold ajK at hk
     rw [dQ]at hk
     split at hk
     ·rename_i v hv
      cases v with
      | true=>exact go (s':=⟨r,d,H⟩) (by simp only [run,hv,if_true]) h hk
      | false=>exact go (s':=⟨r,d,H⟩) (by simp only [run,hv,aE,if_false]) h hk
     ·exact hk.elim
    | region ops chk=>
     have key:(ro.isSome&&!ops.all (·.op.fO))=false∧uV ops chk bC r d t H.length (fun r d t n=>runK bC fn jE m ro rest r d t n):=by
      cases ro with
      | none=>exact⟨rfl,hk⟩
      | some b=>
       obtain⟨h1,h2⟩:=qL (show yU (ops.all (·.op.fO)) (uV ops chk bC r d t H.length (fun r d t n=>runK bC fn jE m (some b) rest r d t n)) from hk)
       exact⟨by rw [h1];rfl,h2⟩
     obtain⟨s',t',h1,h2,h3⟩:=KL hc h key.2
     exact go (s':=s') (by simp only [run,key.1,aE,if_false,h1]) h2 h3
    | gK f ps as bd=>
     have hk:GN f ps as bd (JB as) (JB bd) bC fn jE (runK bC fn jE m) ro rest r d t H.length:=hk
     cases ro with
     | some b=>exact hk.elim
     | none=>
      unfold GN at hk
      obtain⟨t1,h1,hk⟩:=kE h hk
      obtain⟨t2,h2,hk⟩:=kE h1 hk
      rw [dQ]at hk
      obtain⟨⟨c,vs⟩,h3,hk⟩:=mW hk
      have e1:(H++[Blk.dfr true]).length=H.length+1:=by simp
      have e2:H++[Blk.dfr true]++[Blk.lp fn r ps as bd .ready none H.length]=H++[.dfr true,.lp fn r ps as bd .ready none H.length]:=by simp
      rw [e1]at h3
      rw [e2]at h2
      cases c with
      | yield b=>exact hk.elim
      | fn g=>
       have hk:bC (.fn g) vs t2 (H++[Blk.dfr true]++[Blk.lp fn r ps as bd .ready none H.length]).length (fun _ t n'=>runK bC fn jE m none (.kV (H++[Blk.dfr true]).length::rest) r (.coll H.length::d) t n'):=hk
       rw [e2,e1]at hk
       obtain⟨v,H',t',h4,h5,h6⟩:=hc _ _ _ _ _ h2 hk
       exact go (s':=⟨r,.coll H.length::d,H'⟩) (by simp only [run,Option.isSome_none,aE,if_false,h3,h4]) h5 h6
def ajA(call:iU)(ds:List eP):HT→Nat→(HT→Nat→Prop)→Prop:=
 List.rec (motive:=fun _=>HT→Nat→(HT→Nat→Prop)→Prop) (fun t n k=>k t n)
  (fun x _ ih t n k=>eP.rec (motive:=fun _=>Prop)
   (fun b=>jJ b t fun blk=>match blk with
    | .dfr true=>jI (.dfr false) t b fun t=>ih t n k
    | _=>False)
   (fun f args=>call (.fn f) args t n fun _ t n=>ih t n k) x) ds
theorem Ba{call:dn}{bC:iU}(hc:wU call bC):∀ {ds:List eP} {H:Heap} {t:HT} {k:HT→Nat→Prop},dK H t→ajA bC ds t H.length k→∃ H' t',fG call ds H=some H'∧dK H' t'∧k t' H'.length
 | [],H,t,k,h,hk=>⟨H,t,rfl,h,hk⟩
 | .coll b::ds,H,t,k,h,hk=>by
  obtain⟨blk,h1,h2⟩:=dV hk
  rw [h]at h1
  have h1:H[b]?=some blk:=h1
  split at h2
  ·obtain⟨t1,h3,h4⟩:=fF h h2
   have hl:H.length=(H.set b (.dfr false)).length:=by simp
   have h4:ajA bC ds t1 H.length k:=h4
   rw [hl]at h4
   obtain⟨H',t',h5,h6,h7⟩:=Ba hc h3 h4
   exact⟨H',t',by simp only [fG,h1];exact h5,h6,h7⟩
  ·exact h2.elim
 | .fn f args::ds,H,t,k,h,hk=>by
  obtain⟨v,H1,t1,h1,h2,h3⟩:=hc _ _ H t _ h hk
  obtain⟨H',t',h5,h6,h7⟩:=Ba hc (ds:=ds) h2 h3
  exact⟨H',t',by simp only [fG,h1];exact h5,h6,h7⟩
def aJa(r:T)(t:HT)(a:ARes)(k:V→Prop):Prop:=ARes.rec (motive:=fun _=>Prop)
 (fun p=>Jt p r fun v=>match v with
  | .t _=>False
  | v=>k v)
 (fun p m=>Jt p r fun v=>ldK t m v k) a
theorem auw{H:Heap}{t:HT}(h:dK H t){r:T}(a:ARes)(k:V→Prop)(hk:aJa r t a k):∃ v,resOne r H a=some v∧k v:=by
 cases a with
 | tmp p=>
  change Jt p r _ at hk
  rw [rG]at hk
  simp only [resOne]
  cases hv:r.get p with
  | t vs=>rw [hv]at hk;exact hk.elim
  | _=>rw [hv]at hk;exact⟨_,rfl,hk⟩
 | cell p m=>
  change Jt p r _ at hk
  rw [rG]at hk
  exact ajc h hk
def IE(r:T)(t:HT)(rs:List ARes)(k:V→Prop):Prop:=Gv (aJa r t) rs fun vs=>match vs with
 | [v]=>k v
 | vs=>k (.t vs)
theorem IC{H:Heap}{t:HT}(h:dK H t){r:T}{rs:List ARes}{k:V→Prop}(hk:IE r t rs k):∃ v,Km.results r H rs=some v∧k v:=by
 obtain⟨vs,h1,h2⟩:=lD (auw h) hk
 unfold Km.results
 rw [h1]
 split at h2
 ·exact⟨_,rfl,h2⟩
 ·rename_i hne
  refine⟨.t vs,?_,h2⟩
  match vs,hne with
  | [v],hne=>exact absurd rfl (hne v)
  | [],_=>rfl
  | _::_::_,_=>rfl
def fnK(tab:BT AFunc)(m:Nat)(call:iU)(f:Nat)(args:List V)(t:HT)(n:Nat)(k:V→HT→Nat→Prop):Prop:=
 jJ f tab fun af=>AFunc.rec (motive:=fun _=>Prop) (fun ps rs body=>kK args.length ps.length (zl ps args .e fun r=>
  runK call f (fun _ r d t n=>ajA call d t n fun t n=>IE r t rs fun v=>k v t n) m none [.code body] r [] t n)) af
def ahs(m:Nat)(call:iU)(b:Nat)(args:List V)(t:HT)(n:Nat)(k:V→HT→Nat→Prop):Prop:=
 jJ b t fun blk=>match blk with
  | .lp f tmps ps as bd _ _ _=>kK args.length ps.length (zl ps args tmps fun r=>
    runK call f (fun jump _ d t n=>yU d.isEmpty (jJ b t fun blk=>match blk with
     | .lp f' rX ps' as' bd' _ _ d'=>match jump with
      | none=>jI (.lp f' rX ps' as' bd' .ready none d') t b fun t=>k (.c (.f (.bool true))) t n
      | some j=>jI (.lp f' rX ps' as' bd' .done (some j) d') t b fun t=>k (.c (.f (.bool false))) t n
     | _=>False)) m (some b) [.code as,.qN,.code bd] r [] t n)
  | _=>False
def bC(tab:BT AFunc)(m:Nat)(dep:Nat):iU:=
 Nat.rec (motive:=fun _=>iU) (fun _ _ _ _ _=>False)
  (fun _ ih c args t n k=>Callee.rec (motive:=fun _=>Prop) (fun f=>fnK tab m ih f args t n k) (fun b=>ahs m ih b args t n k) c) dep
def lZ:Nat→List V→Heap→Option (Option (V × Heap)):=fun _ _ _=>none
theorem ajH(tab:BT AFunc)(m:Nat):∀ dep,wU (gB tab.get lZ m dep) (bC tab m dep):=by
 intro dep
 induction dep with
 | zero=>intro c args H t k h hk;exact hk.elim
 | succ dep ih=>
  intro c args H t k h hk
  cases c with
  | fn f=>
   obtain⟨af,h1,hk⟩:=dV (show fnK tab m (bC tab m dep) f args t H.length k from hk)
   obtain⟨ps,rs,body⟩:=af
   obtain⟨h2,hk⟩:=dH hk
   rw [sQ]at hk
   obtain⟨jump,s',t',h3,h4,hk⟩:=PI ih f _ m none [.code body] _ [] H t h hk
   obtain⟨H',t'',h5,h6,hk⟩:=Ba ih h4 hk
   obtain⟨v,h7,hk⟩:=IC h6 hk
   exact⟨v,H',t'',by simp only [gB,lZ,h1,h2,if_true,h3,h5,h7];rfl,h6,hk⟩
  | yield b=>
   obtain⟨blk,h1,hk⟩:=dV (show ahs m (bC tab m dep) b args t H.length k from hk)
   rw [h]at h1
   have h1:H[b]?=some blk:=h1
   split at hk
   ·obtain⟨h2,hk⟩:=dH hk
    rw [sQ]at hk
    obtain⟨jump,s',t',h3,h4,hk⟩:=PI ih _ _ m (some b) _ _ [] H t h hk
    obtain⟨h5,hk⟩:=qL hk
    obtain⟨blk',h6,hk⟩:=dV hk
    rw [h4]at h6
    have h6:s'.heap[b]?=some blk':=h6
    split at hk
    ·cases jump with
     | none=>
      obtain⟨t'',h7,h8⟩:=fF h4 hk
      exact⟨_,_,t'',by simp only [gB,h1,h2,if_true,h3,h5,h6];rfl,h7,by rw [List.length_set];exact h8⟩
     | some j=>
      obtain⟨t'',h7,h8⟩:=fF h4 hk
      exact⟨_,_,t'',by simp only [gB,h1,h2,if_true,h3,h5,h6];rfl,h7,by rw [List.length_set];exact h8⟩
    ·exact hk.elim
   ·exact hk.elim
def isTrue(v:V)(_:HT)(_:Nat):Prop:=match v with
 | .c (.f (.bool b))=>Bool.rec (motive:=fun _=>Prop) False True b
 | _=>False
theorem MW{tab:BT AFunc}{m dep f:Nat}(h:bC tab m dep (.fn f) [] .e 0 isTrue):∃ H',gB tab.get lZ m dep (.fn f) [] []=some (.c (.f (.bool true)),H'):=by
 obtain⟨v,H',t',h1,h2,h3⟩:=ajH tab m dep (.fn f) [] [] .e isTrue dK.nil h
 refine⟨H',?_⟩
 rw [h1]
 unfold isTrue at h3
 split at h3
 ·rename_i b
  cases b with
  | true=>rfl
  | false=>exact h3.elim
 ·exact h3.elim
end Km
end
section
namespace Km
open Go
theorem aJ{P:Nat→AFunc→Prop}:∀ i a,(BT.e:BT AFunc).get i=some a→P i a:=fun i a h=>by cases i<;>cases h
theorem aK{P:Nat→AFunc→Prop}{l r:BT AFunc}{x:AFunc}(hl:∀ i a,l.get i=some a→P (2*i+1) a)(hx:P 0 x)
  (hr:∀ i a,r.get i=some a→P (2*i+2) a):∀ i a,(BT.n l x r).get i=some a→P i a:=by
 intro i a h
 cases i with
 | zero=>cases h;exact hx
 | succ m=>
  have h':(if m % 2=0 then l.get (m / 2)else r.get (m / 2))=some a:=h
  split at h'
  ·have:=hl _ _ h'
   rwa [show 2*(m / 2)+1=m+1 by omega]at this
  ·have:=hr _ _ h'
   rwa [show 2*(m / 2)+2=m+1 by omega]at this
theorem RP(Q:Program)(σ:Nat→FuncId):akb Q σ lZ:=fun f args H r H' h=>by cases h
theorem reckoned{tab:BT AFunc}{f:Nat}(h:∃ m dep,bC tab m dep (.fn f) [] .e 0 isTrue=True):∃ m dep H',gB tab.get lZ m dep (.fn f) [] []=some (.c (.f (.bool true)),H'):=by
 obtain⟨m,dep,h⟩:=h
 obtain⟨H',h'⟩:=MW (of_eq_true h)
 exact⟨m,dep,H',h'⟩
end Km
end
section
namespace Km
open Go
def Hz(c1 c2:dn):Prop:=∀ c args H r,c1 c args H=some r→c2 c args H=some r
section
variable{c1 c2:dn}(hc:Hz c1 c2)
include hc
theorem Cm{c:Nat}{args:List V}{H:Heap}{r:V × Heap}(h:fU c1 c args H=some r):fU c2 c args H=some r:=by
 unfold fU at h ⊢
 split at h
 ·simp at h
 ·rename_i fs hfs
  split at h
  ·simp at h
  ·rename_i r0 H0 h0
   simp only [hc _ _ _ _ h0]
   exact h
theorem FQ{b:Bool}{c:Nat}{args:List V}{H:Heap}{r:V × Heap}(h:jB c1 b c args H=some r):jB c2 b c args H=some r:=by
 unfold jB at h ⊢
 split at h
 ·rename_i hb;simp only [hb,if_true];exact hc _ _ _ _ h
 ·rename_i hb;simp only [hb];exact Cm hc h
theorem CY{s:St}{op:AOp}{r:V × St}(h:gU c1 s op=some r):gU c2 s op=some r:=by
 cases op with
 | call f args b=>
  simp only [gU,an]at h ⊢
  obtain⟨a,ha,rfl⟩:=h
  exact⟨a,FQ hc ha,rfl⟩
 | bH x args b=>
  simp only [gU]at h ⊢
  split at h
  ·simp only [an]at h ⊢
   obtain⟨a,ha,rfl⟩:=h
   exact⟨a,hc _ _ _ _ ha,rfl⟩
  ·simp at h
 | _=>exact h
theorem zG{s s':St}{o:aU}(h:iT c1 s o=some s'):iT c2 s o=some s':=by
 unfold iT at h ⊢
 cases hw:wanted s.regs o.g with
 | none=>simp [hw]at h
 | some b=>
  cases b with
  | false=>simpa [hw]using h
  | true=>
   simp only [hw]at h ⊢
   cases h1:gU c1 s o.op with
   | none=>simp [h1]at h
   | some x=>
    obtain⟨v,s1⟩:=x
    rw [CY hc h1]
    rw [h1]at h
    exact h
theorem eu:∀(os:List aU) (s:St) {s':St},iI c1 os s=some s'→iI c2 os s=some s'
 | [],s,s',h=>h
 | o::os,s,s',h=>by
  simp only [iI]at h ⊢
  split at h
  ·rename_i s1 h1
   simp only [zG hc h1]
   exact eu os s1 h
  ·simp at h
theorem uK:∀(os:List aU) (s:St) {ss:List St},eU c1 os s=some ss→eU c2 os s=some ss
 | [],s,ss,h=>h
 | o::os,s,ss,h=>by
  simp only [eU]at h ⊢
  split at h
  ·rename_i s1 h1
   simp only [zG hc h1]
   split at h
   ·rename_i ss1 h2
    simp only [uK os s1 h2]
    exact h
   ·simp at h
  ·simp at h
theorem ER{ops:List aU}{chk:List (Nat × Nat)}{s s':St}(h:jd c1 ops chk s=some s'):jd c2 ops chk s=some s':=by
 unfold jd at h ⊢
 split at h
 ·exact eu hc _ _ h
 ·split at h
  ·rename_i ss hss
   simp only [uK hc _ _ hss]
   exact h
  ·simp at h
theorem uS{fn:Nat}:∀(n n':Nat) (ro:Option Nat) (todo:List cu) (s:St) {r:Option ah × St},n≤n' →
  run c1 fn n ro todo s=some r→run c2 fn n' ro todo s=some r
 | 0,_,_,_,_,_,_,h=>by simp [run]at h
 | n+1,0,_,_,_,_,hn,_=>by omega
 | n+1,n'+1,ro,todo,s,r,hn,h=>by
  have ih:=fun ro todo s r h=>uS (fn:=fn) n n' ro todo s (r:=r) (by omega) h
  match todo,h with
  | [],h=>exact h
  | .inBlock _::k,h=>exact ih _ _ _ _ h
  | .inLoop c::k,h=>exact ih _ _ _ _ h
  | .kV b::k,h=>
   simp only [run]at h ⊢
   split at h
   ·rename_i f tmps ps as bd st pending d hb
    try simp only [hb]
    split at h
    ·simp at h
    ·rename_i hst
     try simp only [hst,if_false]
     split at h
     ·exact ih _ _ _ _ h
     ·exact ih _ _ _ _ h
     ·exact ih _ _ _ _ h
     ·simp at h
   ·simp at h
  | .qN::k,h=>
   simp only [run]at h ⊢
   split at h
   ·simp at h
   ·rename_i b
    split at h
    ·rename_i hb
     try simp only [hb]
     exact ih _ _ _ _ h
    ·simp at h
  | .code .skip::k,h=>exact ih _ _ _ _ h
  | .inScope _::k,h=>exact ih _ _ _ _ h
  | .code (.label _)::k,h=>exact ih _ _ _ _ h
  | .code (.scope a)::k,h=>exact ih _ _ _ _ h
  | .code (.goto l)::k,h=>
   simp only [run]at h ⊢
   split at h
   ·rename_i hk;(try simp only [hk]);exact ih _ _ _ _ h
   ·simp at h
  | .code .bad::_,h=>simp [run]at h
  | .code .ret::_,h=>exact h
  | .code (.exit id)::k,h=>
   simp only [run]at h ⊢
   split at h
   ·rename_i hk;(try simp only [hk]);exact ih _ _ _ _ h
   ·rename_i hk;(try simp only [hk]);exact h
  | .code (.seq a b)::k,h=>exact ih _ _ _ _ h
  | .code (.block id a)::k,h=>exact ih _ _ _ _ h
  | .code (.loop a)::k,h=>exact ih _ _ _ _ h
  | .code (.cond c a b)::k,h=>
   simp only [run]at h ⊢
   split at h
   ·rename_i v hv;(try simp only [hv]);exact ih _ _ _ _ h
   ·simp at h
  | .code (.region ops chk)::k,h=>
   simp only [run]at h ⊢
   split at h
   ·simp at h
   ·rename_i hro
    try simp only [hro]
    split at h
    ·rename_i s1 h1
     try simp only [ER hc h1]
     exact ih _ _ _ _ h
    ·simp at h
  | .code (.gK f ps as bd)::k,h=>
   simp only [run]at h ⊢
   split at h
   ·simp at h
   ·rename_i hro
    try simp only [hro]
    split at h
    ·rename_i g args hg
     try simp only [hg]
     split at h
     ·rename_i v H1 h1
      try simp only [hc _ _ _ _ h1]
      exact ih _ _ _ _ h
     ·simp at h
    ·simp at h
theorem kX:∀(ds:List eP) (H:Heap) {H':Heap},fG c1 ds H=some H'→fG c2 ds H=some H'
 | [],H,H',h=>h
 | .coll b::ds,H,H',h=>by
  simp only [fG]at h ⊢
  split at h
  ·rename_i hb;exact kX ds _ h
  ·simp at h
 | .fn f args::ds,H,H',h=>by
  simp only [fG]at h ⊢
  split at h
  ·rename_i v H1 h1
   try simp only [hc _ _ _ _ h1]
   exact kX ds _ h
  ·simp at h
end
variable{tab:Nat→Option AFunc}{prim:Nat→List V→Heap→Option (Option (V × Heap))}
theorem Bv{m m':Nat}(hm:m≤m'):∀(d d':Nat),d≤d'→Hz (gB tab prim m d) (gB tab prim m' d')
 | 0,_,_,_,_,_,_,h=>by simp [gB]at h
 | d+1,0,hd,_,_,_,_,_=>by omega
 | d+1,d'+1,hd,c,args,H,r,h=>by
  have ih:Hz (gB tab prim m d) (gB tab prim m' d'):=Bv hm d d' (by omega)
  match c,h with
  | .fn f,h=>
   simp only [gB]at h ⊢
   split at h
   ·rename_i r' hp;(try simp only [hp]);exact h
   ·rename_i hp
    try simp only [hp]
    split at h
    ·simp at h
    ·rename_i af haf
     try simp only [haf]
     split at h
     ·rename_i hl
      try simp only [hl,if_true]
      split at h
      ·rename_i j s hs
       try simp only [uS ih m m' _ _ _ hm hs]
       split at h
       ·rename_i H1 h1
        try simp only [kX ih _ _ h1]
        exact h
       ·simp at h
      ·simp at h
     ·simp at h
  | .yield b,h=>
   simp only [gB]at h ⊢
   split at h
   ·rename_i f tmps ps as bd q1 q2 q3 hb
    try simp only [hb]
    split at h
    ·rename_i hl
     try simp only [hl,if_true]
     split at h
     ·rename_i j s hs
      try simp only [uS ih m m' _ _ _ hm hs]
      exact h
     ·simp at h
    ·simp at h
   ·simp at h
end Km
end
section
namespace Km
open Go
section
variable(tab:Nat→Option AFunc)
abbrev CF(m d:Nat):dn:=gB tab lZ m d
def Ev(c:Callee)(args:List V)(H:Heap)(r:V)(H':Heap):Prop:=∃ m d,CF tab m d c args H=some (r,H')
def Pure(f:Nat)(args:List V)(r:V):Prop:=∃ r0 H',Ev tab (.fn f) args [] r0 H'∧exV deep H' r0=some r
def WP(fn:Nat)(ro:Option Nat)(todo:List cu)(s:St)(Q:Option ah→St→Prop):Prop:=
 ∃ n m d j s',run (CF tab m d) fn n ro todo s=some (j,s')∧Q j s'
def ONE(s:St)(op:AOp)(K:V→St→Prop):Prop:=
 match op with
 | .call f args h=>
  if h then ∃ r H',Ev tab (.fn f) (dS s.regs args) s.heap r H'∧K r { s with heap:=H' }
  else ∃ fs r,bf (dw deep s.heap) (dS s.regs args)=some fs∧Pure tab f fs r∧K r { s with heap:=(dS s.regs args).foldl (mkV deep) s.heap }
 | .bH x args _=>∃ c as r H',bV (x.ev s.regs) (dS s.regs args)=some (c,as)∧Ev tab c as s.heap r H'∧K r { s with heap:=H' }
 | .recover=>K (.c (.f .qw)) s
 | .defer x args=>∃ f as,bV (x.ev s.regs) (dS s.regs args)=some (.fn f,as)∧K .top { s with defs:=.fn f as::s.defs }
 | op=>∃ v H',xOp s.regs s.heap op=some (v,H')∧K v { s with heap:=H' }
def OPS:List aU→St→(St→Prop)→Prop
 | [],s,K=>K s
 | o::os,s,K=>match wanted s.regs o.g with
  | some true=>ONE tab s o.op fun v s'=>OPS os { s' with regs:=lW s'.regs o.dst v } K
  | some false=>OPS os { s with regs:=lW s.regs o.dst (.t []) } K
  | none=>False
variable{tab}
variable{c:Callee}{args:List V}{H H':Heap}{r:V}
theorem ny{m m' d d':Nat}(hm:m≤m')(hd:d≤d'):Hz (CF tab m d) (CF tab m' d'):=Bv hm d d' hd
theorem Ev.det{r2:V}{H2:Heap}(h1:Ev tab c args H r H')(h2:Ev tab c args H r2 H2):r=r2∧H'=H2:=by
 obtain⟨m,d,h1⟩:=h1
 obtain⟨m',d',h2⟩:=h2
 have e1:=ny (tab:=tab) (bw m m') (bw d d') _ _ _ _ h1
 have e2:=ny (tab:=tab) (ba m m') (ba d d') _ _ _ _ h2
 rw [e1]at e2
 simpa using e2
theorem Pure.det{f:Nat}{r2:V}(h1:Pure tab f args r)(h2:Pure tab f args r2):r=r2:=by
 obtain⟨a,H1,ha,h1⟩:=h1
 obtain⟨b,H2,hb,h2⟩:=h2
 obtain⟨rfl,rfl⟩:=ha.det hb
 rw [h1]at h2
 simpa using h2
theorem TG{s:St}{op:AOp}{K:V→St→Prop}(h:ONE tab s op K):∃ m d v s',gU (CF tab m d) s op=some (v,s')∧K v s':=by
 cases op with
 | call f args b=>
  simp only [ONE]at h
  split at h
  ·rename_i hb
   obtain⟨r,H',⟨m,d,h1⟩,h2⟩:=h
   exact⟨m,d,r,_,by simp [gU,jB,hb,h1],h2⟩
  ·rename_i hb
   obtain⟨fs,r,h0,⟨r0,H0,⟨m,d,h1⟩,h2⟩,h3⟩:=h
   exact⟨m,d,r,_,by simp [gU,jB,hb,fU,h0,h1,h2],h3⟩
 | bH x args b=>
  obtain⟨c,as,r,H',h0,⟨m,d,h1⟩,h2⟩:=h
  exact⟨m,d,r,_,by simp [gU,h0,h1],h2⟩
 | recover=>exact⟨0,0,_,_,rfl,h⟩
 | «defer» x args=>
  obtain⟨f,as,h0,h1⟩:=h
  exact⟨0,0,.top,_,by simp [gU,h0],h1⟩
 | _=>
  obtain⟨v,H',h0,h1⟩:=h
  exact⟨0,0,v,_,by simp [gU,h0],h1⟩
theorem lI:∀(os:List aU) (s:St) {K:St→Prop},OPS tab os s K→∃ m d s',iI (CF tab m d) os s=some s'∧K s'
 | [],s,K,h=>⟨0,0,s,rfl,h⟩
 | o::os,s,K,h=>by
  simp only [OPS]at h
  split at h
  ·rename_i hw
   obtain⟨m,d,v,s1,h1,h2⟩:=TG h
   obtain⟨m',d',s',h3,h4⟩:=lI os _ h2
   refine⟨max m m',max d d',s',?_,h4⟩
   have e1:=CY (ny (tab:=tab) (bw m m') (bw d d')) h1
   have e3:=eu (ny (tab:=tab) (ba m m') (ba d d')) os _ h3
   simp only [iI,iT,hw,e1,e3]
  ·rename_i hw
   obtain⟨m',d',s',h3,h4⟩:=lI os _ h
   exact⟨m',d',s',by simp only [iI,iT,hw,h3],h4⟩
  ·exact h.elim
variable{fn:Nat}{ro:Option Nat}{k:List cu}{s:St}{Q:Option ah→St→Prop}{a b:ah}
theorem pV{todo:List cu}{todo':List cu}{s':St}(h:WP tab fn ro todo' s' Q)
  (hs:∀ m d n,run (CF tab m d) fn (n+1) ro todo s=run (CF tab m d) fn n ro todo' s'):WP tab fn ro todo s Q:=by
 obtain⟨n,m,d,j,s1,h1,h2⟩:=h
 exact⟨n+1,m,d,j,s1,by rw [hs,h1],h2⟩
theorem kR(h:Q none s):WP tab fn ro [] s Q:=⟨1,0,0,none,s,rfl,h⟩
theorem aI{i:Nat}(h:WP tab fn ro k s Q):WP tab fn ro (.inBlock i::k) s Q:=pV h fun _ _ _=>rfl
theorem xJ(h:WP tab fn ro (.code a::.inLoop a::k) s Q):WP tab fn ro (.inLoop a::k) s Q:=pV h fun _ _ _=>rfl
theorem aF(h:WP tab fn ro k s Q):WP tab fn ro (.code .skip::k) s Q:=pV h fun _ _ _=>rfl
theorem ak(h:WP tab fn ro (.code a::.code b::k) s Q):WP tab fn ro (.code (.seq a b)::k) s Q:=pV h fun _ _ _=>rfl
theorem aH{i:Nat}(h:WP tab fn ro (.code a::.inBlock i::k) s Q):WP tab fn ro (.code (.block i a)::k) s Q:=pV h fun _ _ _=>rfl
theorem aO(h:Q (some .ret) s):WP tab fn ro (.code .ret::k) s Q:=⟨1,0,0,some .ret,s,rfl,h⟩
theorem aZ{i:Nat}{k':List cu}(he:exitTo i k=some k')(h:WP tab fn ro k' s Q):WP tab fn ro (.code (.exit i)::k) s Q:=
 pV h fun _ _ _=>by simp only [run,he]
theorem Qh{c:Arg}{v:Bool}(hc:c.ev s.regs=.c (.f (.bool v)))(h:WP tab fn ro (.code (if v then a else b)::k) s Q) :
  WP tab fn ro (.code (.cond c a b)::k) s Q:=pV h fun _ _ _=>by simp only [run,hc]
theorem aA{c:Arg}(hc:c.ev s.regs=.c (.f (.bool true)))(h:WP tab fn ro (.code a::k) s Q) :
  WP tab fn ro (.code (.cond c a b)::k) s Q:=Qh hc h
theorem ay{c:Arg}(hc:c.ev s.regs=.c (.f (.bool false)))(h:WP tab fn ro (.code b::k) s Q) :
  WP tab fn ro (.code (.cond c a b)::k) s Q:=Qh hc h
theorem zW{m m' d d' n n':Nat}{todo:List cu}{x:Option ah × St}(hm:m≤m')(hd:d≤d')(hn:n≤n')
  (h:run (CF tab m d) fn n ro todo s=some x):run (CF tab m' d') fn n' ro todo s=some x:=
 uS (ny hm hd) n n' ro todo s hn h
theorem aj{ops:List aU}(hr:ro=none∨ops.all (·.op.fO)=true)(h:OPS tab ops s fun s'=>WP tab fn ro k s' Q) :
  WP tab fn ro (.code (.region ops [])::k) s Q:=by
 obtain⟨m,d,s',h1,n,m',d',j,s2,h2,h3⟩:=lI ops s h
 refine⟨n+1,max m m',max d d',j,s2,?_,h3⟩
 have e1:=eu (ny (tab:=tab) (bw m m') (bw d d')) ops _ h1
 have e2:=zW (ba m m') (ba d d') (aw n) h2
 have hro:(ro.isSome&&!ops.all (·.op.fO))=false:=by
  rcases hr with rfl | hr
  ·rfl
  ·rw [hr];simp
 simp only [run,hro,jd,e1,e2]
 simp
theorem bF(I:Nat→St→Prop)(n:Nat)(h0:I n s)
  (step:∀ n s,I n s→(∀ n' s',n'<n→I n' s'→WP tab fn ro (.inLoop a::k) s' Q)→WP tab fn ro (.code a::.inLoop a::k) s Q) :
  WP tab fn ro (.code (.loop a)::k) s Q:=by
 have key:∀ n s,I n s→WP tab fn ro (.code a::.inLoop a::k) s Q:=by
  intro n
  induction n using Nat.strongRecOn with
  | _ n ih=>
   intro s hs
   exact step n s hs fun n' s' hn hs'=>xJ (ih n' hn s' hs')
 exact pV (key n s h0) fun _ _ _=>rfl
def Fin(tab:Nat→Option AFunc)(af:AFunc)(r:V)(H':Heap)(s:St):Prop:=
 ∃ m d H1,fG (CF tab m d) s.defs s.heap=some H1∧results s.regs H1 af.results=some r∧H1=H'
theorem DW{f:Nat}{af:AFunc}(ht:tab f=some af)(hl:args.length=af.ps.length)
  (h:WP tab f none [.code af.body] ⟨cO af.ps args .e,[],H⟩ fun _ s=>Fin tab af r H' s):Ev tab (.fn f) args H r H':=by
 obtain⟨n,m,d,j,s,h1,m',d',H1,h2,h3,rfl⟩:=h
 obtain⟨M,hM1,hM2,hM3⟩:∃ M,m≤M∧m'≤M∧n≤M:=⟨max (max m m') n,by omega,by omega,by omega⟩
 obtain⟨E,hE1,hE2⟩:∃ E,d≤E∧d'≤E:=⟨max d d',by omega,by omega⟩
 refine⟨M,E+1,?_⟩
 have e1:run (CF tab M E) f M none [.code af.body] ⟨cO af.ps args .e,[],H⟩=some (j,s):=zW hM1 hE1 hM3 h1
 have e2:=kX (ny (tab:=tab) hM2 hE2) _ _ h2
 have hp:lZ f args H=none:=rfl
 simp only [CF]at e1 e2 ⊢
 simp only [gB,hp,ht,hl,if_true,e1,e2,h3,cn]
def wR(res:List ARes)(r:V)(s:St):Prop:=s.defs=[]∧∃ r0,results s.regs s.heap res=some r0∧exV deep s.heap r0=some r
theorem dD{f:Nat}{ps:List P}{res:List ARes}{body:ah}(ht:tab f=some ⟨ps,res,body⟩)(hl:args.length=ps.length)
  (h:∀ Q:Option ah→St→Prop,(∀ j s,wR res r s→Q j s)→WP tab f none [.code body] ⟨cO ps args .e,[],[]⟩ Q):Pure tab f args r:=by
 have h':=h (fun _ s=>wR res r s) fun _ _ h=>h
 obtain⟨n,m,d,j,s,h1,hd,r0,h2,h3⟩:=h'
 exact⟨r0,s.heap,DW ht hl ⟨n,m,d,j,s,h1,0,0,s.heap,by rw [hd];rfl,h2,rfl⟩,h3⟩
end
end Km
end
section
namespace Km
open Go
def P.RS:Nat→Nat→P
 | 0,_=>.h
 | k+1,n=>if n=0 then .h else if n % 2=1 then .o (RS k ((n-1) / 2))else .i (RS k ((n-2) / 2))
def P.nat(n:Nat):P:=P.RS n n
theorem uD:∀(k n:Nat),n≤k→(P.RS k n).toNat=n
 | 0,n,hn=>by simp [P.RS,P.toNat];omega
 | k+1,n,hn=>by
  unfold P.RS
  split
  ·simp [P.toNat, *]
  ·split
   ·simp [P.toNat];rw [uD k _ (by omega)];omega
   ·simp [P.toNat];rw [uD k _ (by omega)];omega
theorem Du(n:Nat):(P.nat n).toNat=n:=uD n n (aw n)
theorem nat_ne{a b:Nat}(hab:a≠b):P.nat a≠P.nat b:=fun e=>hab (by rw [←Du a,←Du b,e])
theorem T.jG(v:V):∀(p:P) (t:T),(t.set p v).get p=v
 | .h,.e=>rfl
 | .h,.n _ _ _=>rfl
 | .o p,.e=>T.jG v p .e
 | .o p,.n l _ _=>T.jG v p l
 | .i p,.e=>T.jG v p .e
 | .i p,.n _ _ r=>T.jG v p r
theorem T.mg(v:V):∀(p q:P) (t:T),p≠q→(t.set p v).get q=t.get q
 | .h,.h,_,h=>absurd rfl h
 | .h,.o q,.e,_=>by cases q<;>rfl
 | .h,.i q,.e,_=>by cases q<;>rfl
 | .h,.o _,.n _ _ _,_=>rfl
 | .h,.i _,.n _ _ _,_=>rfl
 | .o _,.h,.e,_=>rfl
 | .o _,.h,.n _ _ _,_=>rfl
 | .i _,.h,.e,_=>rfl
 | .i _,.h,.n _ _ _,_=>rfl
 | .o p,.o q,.e,h=>by
  show(T.set .e p v).get q=_
  rw [T.mg v p q .e (fun e=>h (by rw [e]))]
  cases q<;>rfl
 | .o p,.o q,.n l _ _,h=>T.mg v p q l (fun e=>h (by rw [e]))
 | .o p,.i q,.e,h=>by
  show T.get .e q=_
  cases q<;>rfl
 | .o _,.i _,.n _ _ _,_=>rfl
 | .i p,.o q,.e,h=>by
  show T.get .e q=_
  cases q<;>rfl
 | .i _,.o _,.n _ _ _,_=>rfl
 | .i p,.i q,.e,h=>by
  show(T.set .e p v).get q=_
  rw [T.mg v p q .e (fun e=>h (by rw [e]))]
  cases q<;>rfl
 | .i p,.i q,.n _ _ r,h=>T.mg v p q r (fun e=>h (by rw [e]))
def T.g(t:T)(n:Nat):V:=t.get (P.nat n)
def T.s(t:T)(n:Nat)(v:V):T:=t.set (P.nat n) v
@[simp] theorem T.g_s (t:T) (n m:Nat) (v:V):(t.s n v).g m=if n=m then v else t.g m:=by
 unfold T.g T.s
 split
 ·rename_i h;subst h;exact T.jG v _ t
 ·rename_i h;exact T.mg v _ _ t (nat_ne h)
def R(n:Nat):Arg:=.r (P.nat n)
def D(n:Nat):Option P:=some (P.nat n)
def G(n:Nat)(w:Bool):Option (P × Bool):=some (P.nat n,w)
abbrev vi(n:Int):V:=.c (.f (.int .i64 n))
abbrev vb(b:Bool):V:=.c (.f (.bool b))
abbrev fi(n:Int):FC:=.int .i64 n
@[simp] theorem aIh (t:T) (n:Nat):(R n).ev t=t.g n:=rfl
@[simp] theorem aSP (t:T) (v:V):(Arg.k v).ev t=v:=rfl
@[simp] theorem aPD (t:T) (n:Nat) (v:V):lW t (D n) v=t.s n v:=rfl
@[simp] theorem aIo (t:T) (v:V):lW t none v=t:=rfl
@[simp] theorem ayf (t:T) (n:Nat):t.get (P.nat n)=t.g n:=rfl
@[simp] theorem aBs (n:Nat) (ps:List P) (v:V) (vs:List V) (t:T):cO (P.nat n::ps) (v::vs) t=cO ps vs (t.s n v):=rfl
@[simp] theorem aCe (vs:List V) (t:T):cO [] vs t=t:=rfl
@[simp] theorem aBo (t:T):wanted t none=some true:=rfl
@[simp] theorem aIR (t:T) (n:Nat) (w:Bool):wanted t (G n w)=match t.g n with
  | .c (.f (.bool b))=>some (b == w)
  | .t []=>some false
  | _=>none:=rfl
attribute [simp] dS
def KO(o:Option (V × Heap))(t:T)(ds:List eP)(K:V→St→Prop):Prop:=∃ p,o=some p∧K p.1 ⟨t,ds,p.2⟩
@[simp] theorem aN0 (v:V) (H:Heap) (t:T) (ds:List eP) (K:V→St→Prop):KO (some (v,H)) t ds K↔K v ⟨t,ds,H⟩:=⟨fun⟨_,h,k⟩=>by cases h;exact k,fun k=>⟨_,rfl,k⟩⟩
def KP(P:V→Prop)(t:T)(ds:List eP)(H:Heap)(K:V→St→Prop):Prop:=∃ x,P x∧K x ⟨t,ds,H⟩
@[simp] theorem aNc (x:V) (t:T) (ds:List eP) (H:Heap) (K:V→St→Prop):KP (Eq x) t ds H K↔K x ⟨t,ds,H⟩:=⟨fun⟨_,h,k⟩=>by cases h;exact k,fun k=>⟨x,rfl,k⟩⟩
def E2(x:V)(H:Heap)(y:V)(H':Heap):Prop:=x=y∧H=H'
def KE(P:V→Heap→Prop)(t:T)(ds:List eP)(K:V→St→Prop):Prop:=∃ x H,P x H∧K x ⟨t,ds,H⟩
@[simp] theorem aRw (x:V) (H:Heap) (t:T) (ds:List eP) (K:V→St→Prop):KE (E2 x H) t ds K↔K x ⟨t,ds,H⟩:=⟨fun⟨_,_,⟨h1,h2⟩,k⟩=>by cases h1;cases h2;exact k,fun k=>⟨x,H,⟨rfl,rfl⟩,k⟩⟩
section
variable(tab:Nat→Option AFunc)
def KC(fs:Option (List V))(f:Nat)(t:T)(ds:List eP)(H:Heap)(K:V→St→Prop):Prop:=∃ a,fs=some a∧KP (Pure tab f a) t ds H K
def KD(c:Option (Callee × List V))(t:T)(ds:List eP)(H:Heap)(K:V→St→Prop):Prop:=∃ a,c=some a∧KE (Ev tab a.1 a.2 H) t ds K
def KS(os:List aU)(L:St→Prop)(s:St):Prop:=OPS tab os s L
def FS(s:St)(K:St→Prop):Prop:=K s
def KV(o:Option P)(os:List aU)(L:St→Prop)(v:V)(s:St):Prop:=FS ⟨lW s.regs o v,s.defs,s.heap⟩ (KS tab os L)
def GRD(w:Option Bool)(op:AOp)(o:Option P)(os:List aU)(L:St→Prop)(s:St):Prop:=
 match w with
 | some true=>ONE tab s op (KV tab o os L)
 | some false=>FS ⟨lW s.regs o (.t []),s.defs,s.heap⟩ (KS tab os L)
 | none=>False
end
section
variable{tab:Nat→Option AFunc}{t:T}{ds:List eP}{H:Heap}{K:V→St→Prop}{L:St→Prop}
@[simp] theorem ayK (a:List V) (f:Nat):KC tab (some a) f t ds H K↔KP (Pure tab f a) t ds H K:=⟨fun⟨_,h,k⟩=>by cases h;exact k,fun k=>⟨_,rfl,k⟩⟩
@[simp] theorem aN1 (c:Callee) (a:List V):KD tab (some (c,a)) t ds H K↔KE (Ev tab c a H) t ds K:=⟨fun⟨_,h,k⟩=>by cases h;exact k,fun k=>⟨_,rfl,k⟩⟩
@[simp] theorem aSD (s:St) (K:St→Prop):FS s K↔K s:=Iff.rfl
@[simp ↓] theorem aRv (os:List aU) (s:St):KS tab os L s↔OPS tab os s L:=Iff.rfl
@[simp ↓] theorem aRu (o:Option P) (os:List aU) (v:V):KV tab o os L v ⟨t,ds,H⟩↔FS ⟨lW t o v,ds,H⟩ (KS tab os L):=Iff.rfl
@[simp ↓] theorem aRx (op:AOp) (o:Option P) (os:List aU) (s:St):GRD tab (some true) op o os L s↔ONE tab s op (KV tab o os L):=Iff.rfl
@[simp ↓] theorem aRy (op:AOp) (o:Option P) (os:List aU):GRD tab (some false) op o os L ⟨t,ds,H⟩↔FS ⟨lW t o (.t []),ds,H⟩ (KS tab os L):=Iff.rfl
@[simp ↓] theorem aNY (s:St):OPS tab [] s L↔L s:=Iff.rfl
@[simp ↓] theorem aNa (o:Option P) (op:AOp) (os:List aU):OPS tab (⟨o,op,none⟩::os) ⟨t,ds,H⟩ L↔ONE tab ⟨t,ds,H⟩ op (KV tab o os L):=Iff.rfl
@[simp ↓] theorem aIF (o:Option P) (op:AOp) (n:Nat) (w:Bool) (os:List aU) :
  OPS tab (⟨o,op,G n w⟩::os) ⟨t,ds,H⟩ L↔GRD tab (wanted t (G n w)) op o os L ⟨t,ds,H⟩:=by
 simp only [OPS]
 rcases hw:wanted t (G n w)with _ | _ | _<;>exact Iff.rfl
def AOp.plain:AOp→Bool
 | .call _ _ _ | .bH _ _ _ | .recover | .defer _ _=>false
 | _=>true
theorem dR{op:AOp}(h:op.plain=true):ONE tab ⟨t,ds,H⟩ op K↔KO (xOp t H op) t ds K:=by
 have:ONE tab ⟨t,ds,H⟩ op K↔∃ v H',xOp t H op=some (v,H')∧K v ⟨t,ds,H'⟩:=by
  cases op<;>first | exact Iff.rfl | simp [AOp.plain]at h
 rw [this]
 exact⟨fun⟨v,H',h,k⟩=>⟨(v,H'),h,k⟩,fun⟨p,h,k⟩=>⟨p.1,p.2,h,k⟩⟩
@[simp ↓] theorem aNw (x:Arg):ONE tab ⟨t,ds,H⟩ (.mov x) K↔KO (xOp t H (.mov x)) t ds K:=dR rfl
@[simp ↓] theorem aKb (c a b:Arg):ONE tab ⟨t,ds,H⟩ (.pick c a b) K↔KO (xOp t H (.pick c a b)) t ds K:=dR rfl
@[simp ↓] theorem aIt (zs:List FC):ONE tab ⟨t,ds,H⟩ (.alloc zs) K↔KO (xOp t H (.alloc zs)) t ds K:=dR rfl
@[simp ↓] theorem aNz (x:Arg):ONE tab ⟨t,ds,H⟩ (.box x) K↔KO (xOp t H (.box x)) t ds K:=dR rfl
@[simp ↓] theorem aIs (zs:List FC) (parts:List (Nat × Nat × Arg)):ONE tab ⟨t,ds,H⟩ (.build zs parts) K↔KO (xOp t H (.build zs parts)) t ds K:=dR rfl
@[simp ↓] theorem aFx (sz:Nat) (zs:List FC) (len:Nat) (parts:List (Nat × Arg)):ONE tab ⟨t,ds,H⟩ (.aY sz zs len parts) K↔KO (xOp t H (.aY sz zs len parts)) t ds K:=dR rfl
@[simp ↓] theorem aKe (n:Option Nat) (x:Arg):ONE tab ⟨t,ds,H⟩ (.load n x) K↔KO (xOp t H (.load n x)) t ds K:=dR rfl
@[simp ↓] theorem aIp (n:Nat) (x y:Arg):ONE tab ⟨t,ds,H⟩ (.store n x y) K↔KO (xOp t H (.store n x y)) t ds K:=dR rfl
@[simp ↓] theorem aFu (x:Arg):ONE tab ⟨t,ds,H⟩ (.bD x) K↔KO (xOp t H (.bD x)) t ds K:=dR rfl
@[simp ↓] theorem aNA (op:BinOp) (x y:Arg):ONE tab ⟨t,ds,H⟩ (.bin op x y) K↔KO (xOp t H (.bin op x y)) t ds K:=dR rfl
@[simp ↓] theorem aPL (op:UnOp) (x:Arg):ONE tab ⟨t,ds,H⟩ (.un op x) K↔KO (xOp t H (.un op x)) t ds K:=dR rfl
@[simp ↓] theorem aNy (k:IntKind) (x:Arg):ONE tab ⟨t,ds,H⟩ (.cvi k x) K↔KO (xOp t H (.cvi k x)) t ds K:=dR rfl
@[simp ↓] theorem aKc (f:Nat) (caps:List Arg):ONE tab ⟨t,ds,H⟩ (.ji f caps) K↔KO (xOp t H (.ji f caps)) t ds K:=dR rfl
@[simp ↓] theorem aFw (off:Nat) (x:Arg):ONE tab ⟨t,ds,H⟩ (.au off x) K↔KO (xOp t H (.au off x)) t ds K:=dR rfl
@[simp ↓] theorem aFv (sz:Nat) (arr:Option Nat) (x i:Arg):ONE tab ⟨t,ds,H⟩ (.aC sz arr x i) K↔KO (xOp t H (.aC sz arr x i)) t ds K:=dR rfl
@[simp ↓] theorem aKf (len sz:Nat) (n:Option Nat) (x i:Arg):ONE tab ⟨t,ds,H⟩ (.y9 len sz n x i) K↔KO (xOp t H (.y9 len sz n x i)) t ds K:=dR rfl
@[simp ↓] theorem aBB (x:Arg) (i:Nat):ONE tab ⟨t,ds,H⟩ (.extract x i) K↔KO (xOp t H (.extract x i)) t ds K:=dR rfl
@[simp ↓] theorem aNx (x:Arg):ONE tab ⟨t,ds,H⟩ (.len x) K↔KO (xOp t H (.len x)) t ds K:=dR rfl
@[simp ↓] theorem aFy (sz bytes:Nat) (x y:Arg):ONE tab ⟨t,ds,H⟩ (.append sz bytes x y) K↔KO (xOp t H (.append sz bytes x y)) t ds K:=dR rfl
@[simp ↓] theorem aKd (lo:Bool) (xs:List Arg):ONE tab ⟨t,ds,H⟩ (.jV lo xs) K↔KO (xOp t H (.jV lo xs)) t ds K:=dR rfl
@[simp ↓] theorem aKg (f:Nat) (args:List Arg):ONE tab ⟨t,ds,H⟩ (.call f args false) K ↔
  KC tab (bf (dw deep H) (dS t args)) f t ds ((dS t args).foldl (mkV deep) H) K:=by
 simp only [ONE,KC,KP]
 constructor
 ·intro h;rw [if_neg (by simp)]at h;obtain⟨fs,r,h1,h2,h3⟩:=h;exact⟨fs,h1,r,h2,h3⟩
 ·rintro⟨fs,h1,r,h2,h3⟩;rw [if_neg (by simp)];exact⟨fs,r,h1,h2,h3⟩
@[simp ↓] theorem aIq (f:Nat) (args:List Arg):ONE tab ⟨t,ds,H⟩ (.call f args true) K↔KD tab (some (.fn f,dS t args)) t ds H K:=by simp [ONE,KD,KE]
@[simp ↓] theorem aIr (x:Arg) (args:List Arg) (h:Bool):ONE tab ⟨t,ds,H⟩ (.bH x args h) K↔KD tab (bV (x.ev t) (dS t args)) t ds H K:=by
 simp only [ONE,KD,KE]
 constructor
 ·rintro⟨c,as,r,H',h1,h2,h3⟩;exact⟨(c,as),h1,r,H',h2,h3⟩
 ·rintro⟨⟨c,as⟩,h1,r,H',h2,h3⟩;exact⟨c,as,r,H',h1,h2,h3⟩
end
def MZ:V→Option Bool
 | .c (.f (.bool b))=>some b
 | _=>none
@[simp] theorem aIE (b:Bool):MZ (.c (.f (.bool b)))=some b:=rfl
section
variable{t:T}{H:Heap}
@[simp] theorem aRd (x:Arg):xOp t H (.mov x)=some (x.ev t,H):=rfl
@[simp] theorem aRc (o:Os) (sz:Nat):xOp t H (.pre o sz)=if o=.loc∨sz=0 then none else some (.c (.sl H.length 0 0 0 0 sz),H++[.opn sz [] 0 0 o]):=rfl
@[simp] theorem aN4 (c x y:Arg):xOp t H (.pick c x y)=(MZ (c.ev t)).map fun b=>(if b then x.ev t else y.ev t,H):=by
 simp only [xOp,MZ]
 split
 ·rename_i b h;simp only [h];cases b<;>rfl
 ·rename_i h
  split
  ·rename_i b h';exact absurd h' (h b)
  ·rfl
@[simp] theorem aNr (zs:List FC):xOp t H (.alloc zs)=some (.c (.ptr H.length 0 0),H++[.box (zs.map .f) 0]):=rfl
@[simp] theorem aRf (x:Arg):xOp t H (.box x)=(x.ev t).cells?.map fun xs=>(.c (.ptr H.length 0 0),H++[.box xs 0]):=by
 simp only [xOp];cases (x.ev t).cells?<;>rfl
@[simp] theorem aNq (zs:List FC) (ps:List (Nat × Nat × Arg)):xOp t H (.build zs ps)=(fV t (zs.map .f) ps).map fun cs=>(.a cs,H):=rfl
@[simp] theorem aIO (sz:Nat) (zs:List FC) (n:Nat) (ps:List (Nat × Arg)):xOp t H (.aY sz zs n ps) =
  if n=0 then(if ps.isEmpty then some (.c (.f .es),H)else none)else
  (fV t ((dM n zs).map .f) (ps.map fun p=>(p.1*sz,sz,p.2))).map fun cs=>(.c (.sl H.length 0 n n 0 sz),H++[.box cs 0]):=rfl
@[simp] theorem aN8 (n:Option Nat) (x:Arg):xOp t H (.load n x)=(ldV H n (x.ev t)).map (·,H):=rfl
def EX(H:Heap)(n:Nat)(x y:V):Option Heap:=
 match x,y.cells? with
 | .c p,some xs=>if xs.length=n then stC H p xs else none
 | _,_=>none
@[simp] theorem aNk (n:Nat) (x y:Arg):xOp t H (.store n x y)=(EX H n (x.ev t) (y.ev t)).map (.top,·):=by
 simp only [xOp,EX]
 cases x.ev t with
 | c p=>cases (y.ev t).cells? with
  | none=>rfl
  | some xs=>by_cases h:xs.length=n<;>simp [h]
 | _=>rfl
@[simp] theorem aIS (n:Nat) (p:C) (y:V):EX H n (.c p) y=y.cells?.bind fun xs=>if xs.length=n then stC H p xs else none:=by
 simp only [EX];cases y.cells?<;>rfl
@[simp] theorem aRg (op:BinOp) (x y:Arg):xOp t H (.bin op x y)=(bM op (x.ev t) (y.ev t)).map (·,H):=rfl
@[simp] theorem x_eq (neg:Bool) (k:EqK) (x y:Arg):xOp t H (.eq neg k x y)=(eqV H k (x.ev t) (y.ev t)).map fun b=>(vb (if neg then !b else b),H):=rfl
@[simp] theorem aSE (op:UnOp) (x:Arg):xOp t H (.un op x)=(unV op (x.ev t)).map (·,H):=rfl
def aGB(k:IntKind):V→Option V
 | .c (.f (.int _ n))=>some (.c (.f (.int k (k.wrap n))))
 | _=>none
@[simp] theorem aQd (k j:IntKind) (n:Int):aGB k (.c (.f (.int j n)))=some (.c (.f (.int k (k.wrap n)))):=rfl
@[simp] theorem aRe (k:IntKind) (x:Arg):xOp t H (.cvi k x)=(aGB k (x.ev t)).map (·,H):=by
 simp only [xOp,aGB]
 split
 ·rename_i h;simp only [h];rfl
 ·rename_i h
  split
  ·rename_i h';exact absurd h' (h _ _)
  ·rfl
@[simp] theorem aN5 (f:Nat) (caps:List Arg):xOp t H (.ji f caps)=(bf zh (dS t caps)).map fun xs=>(.c (.cl f xs),H):=rfl
@[simp] theorem aN6 (f:Nat) (caps:List Arg):xOp t H (.CO f caps)=(bf zh (dS t caps)).map fun xs=>(.c (.bm f xs),H):=rfl
@[simp] theorem aNm (sz:Nat) (x:Arg) (lo hi mx:Option Arg):xOp t H (.slice sz x lo hi mx)=(kN H sz (x.ev t) (lo.map (·.ev t)) (hi.map (·.ev t)) (mx.map (·.ev t))).map (·,H):=rfl
@[simp] theorem aN3 (sz:Nat) (x hi mx:Arg):xOp t H (.yX sz x hi mx)=Ip H sz (x.ev t) (hi.ev t) (mx.ev t):=rfl
@[simp] theorem aNn (n sz:Nat) (x:Arg) (lo hi mx:Option Arg):xOp t H (.rZ n sz x lo hi mx)=(nG H n sz (x.ev t) (lo.map (·.ev t)) (hi.map (·.ev t)) (mx.map (·.ev t))).map (·,H):=rfl
@[simp] theorem aNl (x:Arg) (lo hi:Option Arg):xOp t H (.uP x lo hi)=(zQ (x.ev t) (lo.map (·.ev t)) (hi.map (·.ev t))).map (·,H):=rfl
@[simp] theorem aIN (o:Nat) (x:Arg):xOp t H (.au o x)=(lC o (x.ev t)).map (·,H):=rfl
@[simp] theorem aNo (o:Nat) (n:Option Nat) (x:Arg):xOp t H (.field o n x)=(xY o n (x.ev t)).map (·,H):=rfl
@[simp] theorem aIM (sz:Nat) (arr:Option Nat) (x i:Arg):xOp t H (.aC sz arr x i)=(aV H sz arr (x.ev t) (i.ev t)).map (·,H):=rfl
@[simp] theorem aOa (x i:Arg):xOp t H (.idxs x i)=(Jq (x.ev t) (i.ev t)).map (·,H):=rfl
@[simp] theorem aOb (len sz:Nat) (n:Option Nat) (x i:Arg):xOp t H (.y9 len sz n x i)=(DK len sz n (x.ev t) (i.ev t)).map (·,H):=rfl
def cOf:V→Option C
 | .c x=>some x
 | _=>none
@[simp] theorem aRq (x:C):cOf (.c x)=some x:=rfl
@[simp] theorem x_len (x:Arg):xOp t H (.len x)=((cOf (x.ev t)).bind (bJ H)).map fun n=>(vi (n:Nat),H):=by
 simp only [xOp,cOf]
 cases x.ev t with
 | c y=>simp only [bR];cases bJ H y<;>rfl
 | _=>rfl
def strOf:V→Option ByteArray
 | .c (.f (.str s))=>some s
 | _=>none
@[simp] theorem aNu (s:ByteArray):strOf (.c (.f (.str s)))=some s:=rfl
@[simp] theorem aN9 (n:Nat):xOp t H (.Az n)=some (vi (n:Nat),H):=rfl
@[simp] theorem aIP (sz bytes:Nat) (x y:Arg):xOp t H (.append sz bytes x y)=dI H sz bytes (x.ev t) (y.ev t):=rfl
@[simp] theorem aOc (sz:Nat) (x y:Arg):xOp t H (.copy sz x y)=copyV H sz (x.ev t) (y.ev t):=rfl
@[simp] theorem aN7 (lo:Bool) (xs:List Arg):xOp t H (.jV lo xs)=(Jf lo (dS t xs)).map (·,H):=rfl
def tOf:V→Option (List V)
 | .t vs=>some vs
 | _=>none
@[simp] theorem aRi (vs:List V):tOf (.t vs)=some vs:=rfl
@[simp] theorem aIn (x:Arg) (i:Nat):xOp t H (.extract x i)=(tOf (x.ev t)).bind fun vs=>vs[i]?.map (·,H):=by
 simp only [xOp,tOf]
 split
 ·rename_i h;simp only [h];rfl
 ·rename_i h
  split
  ·rename_i h';exact absurd h' (h _)
  ·rfl
def zx:V→Option V
 | .c (.ptr b o e)=>some (.c (.ptr b o e))
 | .c (.f (.fp cs o))=>some (.c (.f (.fp cs o)))
 | _=>none
@[simp] theorem aFD (b o e:Nat):zx (.c (.ptr b o e))=some (.c (.ptr b o e)):=rfl
@[simp] theorem aIu (cs:List FC) (o:Nat):zx (.c (.f (.fp cs o)))=some (.c (.f (.fp cs o))):=rfl
@[simp] theorem aIL (x:Arg):xOp t H (.bD x)=(zx (x.ev t)).map (·,H):=by
 simp only [xOp,zx]
 split
 ·rename_i h;simp only [h];rfl
 ·rename_i h;simp only [h];rfl
 ·rename_i h1 h2
  split
  ·rename_i h;exact absurd h (h1 _ _ _)
  ·rename_i h;exact absurd h (h2 _ _)
  ·rfl
@[simp] theorem aIA (f:Nat) (caps:List FC) (args:List V):bV (.c (.f (.fn f caps))) args=some (.fn f,args++caps.map fun x=>.c (.f x)):=rfl
@[simp] theorem aIB (f:Nat) (caps:List C) (args:List V):bV (.c (.cl f caps)) args=some (.fn f,args++caps.map .c):=rfl
@[simp] theorem aIC (f:Nat) (first:List C) (args:List V):bV (.c (.bm f first)) args=some (.fn f,first.map .c++args):=rfl
end
section
variable{k:IntKind}{a b:Int}{H:Heap}
@[simp] theorem aNV:bM .add (.c (.f (.int k a))) (.c (.f (.int k b)))=some (.c (.f (.int k (k.wrap (a+b))))):=by simp [bM,mM,V.int]
@[simp] theorem aNN:bM .sub (.c (.f (.int k a))) (.c (.f (.int k b)))=some (.c (.f (.int k (k.wrap (a-b))))):=by simp [bM,mM,V.int]
@[simp] theorem aNP:bM .mul (.c (.f (.int k a))) (.c (.f (.int k b)))=some (.c (.f (.int k (k.wrap (a*b))))):=by simp [bM,mM,V.int]
theorem GU(h:b≠0):bM .quo (.c (.f (.int k a))) (.c (.f (.int k b)))=some (.c (.f (.int k (k.wrap (a.tdiv b))))):=by simp [bM,mM,V.int,h]
theorem Qy(h:b≠0):bM .rem (.c (.f (.int k a))) (.c (.f (.int k b)))=some (.c (.f (.int k (a.tmod b)))):=by simp [bM,mM,V.int,h]
@[simp] theorem aNU:bM .eql (.c (.f (.int k a))) (.c (.f (.int k b)))=some (vb (decide (a=b))):=by simp [bM,mM,V.bool];rfl
@[simp] theorem aNO:bM .neq (.c (.f (.int k a))) (.c (.f (.int k b)))=some (vb (!decide (a=b))):=by simp [bM,mM,V.bool];rfl
@[simp] theorem aNQ:bM .lss (.c (.f (.int k a))) (.c (.f (.int k b)))=some (vb (decide (a<b))):=by simp [bM,mM,V.bool]
@[simp] theorem aNR:bM .leq (.c (.f (.int k a))) (.c (.f (.int k b)))=some (vb (decide (a≤b))):=by simp [bM,mM,V.bool]
@[simp] theorem aNS:bM .gtr (.c (.f (.int k a))) (.c (.f (.int k b)))=some (vb (decide (b<a))):=by simp [bM,mM,V.bool]
@[simp] theorem aNT:bM .geq (.c (.f (.int k a))) (.c (.f (.int k b)))=some (vb (decide (b≤a))):=by simp [bM,mM,V.bool]
@[simp] theorem aLy {x y:Bool}:eqP .bool (.f (.bool x)) (.f (.bool y))=some (x == y):=rfl
@[simp] theorem aNH {x y:ByteArray}:eqP .str (.f (.str x)) (.f (.str y))=some (x == y):=rfl
@[simp] theorem aNI:eqL [] [] []=some true:=rfl
@[simp] theorem aLx {x y:Bool}:eqV H .bool (.c (.f (.bool x))) (.c (.f (.bool y)))=some (x == y):=rfl
@[simp] theorem aQc {ks:List CK} {xs ys:List C}:eqV H (.st ks) (.a xs) (.a ys)=eqL ks xs ys:=rfl
@[simp] theorem aOd {x:Bool}:unV .not (.c (.f (.bool x)))=some (vb (!x)):=rfl
@[simp] theorem aGw {o c o' ep:Nat}:lC o (.c (.ptr c o' ep))=some (.c (.ptr c (o'+o) ep)):=rfl
@[simp] theorem aIx {o o':Nat} {cs:List FC}:lC o (.c (.f (.fp cs o')))=some (.c (.f (.fp cs (o'+o)))):=rfl
@[simp] theorem aNK {x:C}:(V.c x).cells?=some [x]:=rfl
@[simp] theorem aNL {xs:List C}:(V.a xs).cells?=some xs:=rfl
@[simp] theorem aSR {n:Nat} {x:FC}:exC n H (.f x)=some x:=by cases n<;>rfl
@[simp] theorem aRo {n:Nat} {x:C}:dw n H (.c x)=(exC n H x).map fun y=>.c (.f y):=rfl
@[simp] theorem aRm {n f:Nat} {caps:List C}:exC (n+1) H (.cl f caps)=(bf (exC n H) caps).map (.fn f):=rfl
@[simp] theorem aQa {n b o e:Nat}:exC (n+1) H (.ptr b o e)=match H[b]? with
  | some (.box cs _)=>(bf (exC n H) cs).map (.fp · o)
  | _=>none:=rfl
theorem DV{n b o l c ep sz:Nat}:exC (n+1) H (.sl b o l c ep sz)=match H[b]? with
  | some (.box cs _)=>if o+l*sz≤cs.length then(bf (exC n H) ((cs.drop o).take (l*sz))).map (.fs · l)else none
  | some (.opn s cs _ e .loc)=>if ep=e∧sz=s∧o+l*sz≤cs.length then(bf (exC n H) ((cs.drop o).take (l*sz))).map (.fs · l)else none
  | some (.opn s _ _ e .nil)=>if ep=e∧sz=s then some .aB else none
  | some (.opn s _ _ e .es)=>if ep=e∧sz=s then some .es else none
  | _=>none:=rfl
theorem aiU{n b o e:Nat}:mkC (n+1) (.ptr b o e) H=match H[b]? with
  | some (.box cs fl)=>cs.foldl (fun H x=>mkC n x H) (H.set b (.box cs (Nat.max fl cs.length)))
  | _=>H:=rfl
theorem aBD{n b o l c e sz:Nat}:mkC (n+1) (.sl b o l c e sz) H=match H[b]? with
  | some (.box cs fl)=>((cs.drop o).take (l*sz)).foldl (fun H x=>mkC n x H) (H.set b (.box cs (Nat.max fl (o+l*sz))))
  | some (.opn s cs fl e st)=>((cs.drop o).take (l*sz)).foldl (fun H x=>mkC n x H) (H.set b (.opn s cs (Nat.max fl (o+l*sz)) e st))
  | _=>H:=rfl
theorem aBE{n f:Nat}{caps:List C}:mkC (n+1) (.cl f caps) H=caps.foldl (fun H x=>mkC n x H) H:=rfl
@[simp] theorem aSN {n:Nat} {x:C}:mkV n H (.c x)=mkC n x H:=rfl
@[simp] theorem aRn {n:Nat} {x:C}:exV n H (.c x)=(exC n H x).map fun y=>.c (.f y):=rfl
theorem xH{n:Nat}:∀(xs:List FC),bf (exC n H) (xs.map .f)=some xs
 | []=>rfl
 | x::xs=>by simp [bf,xH xs]
@[simp] theorem aRp {n:Nat} {xs:List C}:dw n H (.a xs)=(bf (exC n H) xs).map fun ys=>.a (ys.map .f):=rfl
@[simp] theorem aND {n:Nat} (xs:List FC):bf (exC n H) (xs.map .f)=some xs:=xH xs
@[simp] theorem aSO {n:Nat} {xs:List C}:mkV n H (.a xs)=xs.foldl (fun H x=>mkC n x H) H:=rfl
@[simp] theorem Qa {n:Nat} {x:FC}:mkC n (.f x) H=H:=by cases n<;>rfl
@[simp] theorem aIw {n:Nat} (xs:List FC):(xs.map C.f).foldl (fun H x=>mkC n x H) H=H:=by
 induction xs with
 | nil=>rfl
 | cons x xs ih=>simp only [aR,cK];rw [Qa];exact ih
end
theorem wrapu8{n:Int}(h1:0≤n)(h2:n≤255):IntKind.wrap .u8 n=n:=by
 simp only [IntKind.wrap,IntKind.bits,IntKind.signed]
 simp
 omega
theorem wrap64{n:Int}(h1:-9223372036854775808≤n)(h2:n≤9223372036854775807):IntKind.wrap .i64 n=n:=by
 simp only [IntKind.wrap,IntKind.bits,IntKind.signed]
 simp
 omega
@[simp] theorem cast_eq (a b:Nat):((a:Int)=(b:Int))=(a=b):=propext Int.natCast_inj
@[simp] theorem aKK {α β:Type} (g:α→Option β):bf g []=some []:=rfl
@[simp] theorem aIv {α β:Type} (g:α→Option β) (x:α) (xs:List α):bf g (x::xs)=(g x).bind fun y=>(bf g xs).map (y::·):=by
 simp only [bf]
 cases g x<;>cases bf g xs<;>simp
@[simp] theorem aNt (x:C) (xs:List C):aQ none (x::xs)=some (.c x):=rfl
@[simp] theorem aNs (n:Nat) (xs:List C):aQ (some n) xs=if n≤xs.length then some (.a (xs.take n))else none:=rfl
@[simp] theorem aG (H:Heap) (n:Option Nat) (b o ep:Nat):ldV H n (.c (.ptr b o ep))=match H[b]? with
  | some (.box cs _)=>aQ n (cs.drop o)
  | some (.opn _ cs _ e .loc)=>if ep=e then aQ n (cs.drop o)else none
  | _=>none:=by
 simp only [ldV,aP]
 split
 ·rename_i h;simp only [h];rfl
 ·rename_i h;simp only [h];split<;>rfl
 ·rename_i h1 h2
  split
  ·rename_i h;exact absurd h (h1 _ _)
  ·rename_i h;exact absurd h (h2 _ _ _ _)
  ·rfl
@[simp] theorem bI (H:Heap) (b o ep:Nat) (xs:List C):stC H (.ptr b o ep) xs=match H[b]? with
  | some (.box cs fl)=>if fl≤o∧o+xs.length≤cs.length then some (H.set b (.box (over cs o xs) fl))else none
  | some (.opn sz cs fl e .loc)=>if ep=e∧fl≤o∧o+xs.length≤cs.length then some (H.set b (.opn sz (over cs o xs) fl e .loc))else none
  | _=>none:=rfl
attribute [simp] over dM
@[simp] theorem aE8 (t:T) (cs:List C):fV t cs []=some cs:=rfl
@[simp] theorem aBA (t:T) (cs:List C) (o n:Nat) (x:Arg) (ps:List (Nat × Nat × Arg)):fV t cs ((o,n,x)::ps)=(x.ev t).cells?.bind fun xs=>if xs.length=n∧o+xs.length≤cs.length then fV t (over cs o xs) ps else none:=by
 simp only [fV];cases (x.ev t).cells?<;>rfl
@[simp] theorem aQf (x:FC):zh (.c (.f x))=some (.f x):=rfl
@[simp] theorem aLB (b o e:Nat):zh (.c (.ptr b o e))=some (.ptr b o e):=rfl
@[simp] theorem aNM (b o l c e s:Nat):zh (.c (.sl b o l c e s))=some (.sl b o l c e s):=rfl
def aB0:V→Option V
 | .t _=>none
 | v=>some v
@[simp] theorem aOe (x:C):aB0 (.c x)=some (.c x):=rfl
@[simp] theorem aOf (x:List C):aB0 (.a x)=some (.a x):=rfl
@[simp] theorem aNv (t:T) (H:Heap) (n:Nat):resOne t H (.tmp (P.nat n))=aB0 (t.g n):=by
 simp only [resOne,ayf]
 cases t.g n<;>rfl
@[simp] theorem aI9 (t:T) (H:Heap) (n:Nat) (k:Option Nat):resOne t H (.cell (P.nat n) k)=ldV H k (t.g n):=rfl
@[simp] theorem aNG {t:T} {H:Heap} {x:ARes} {r:V}:wR [x] r ⟨t,[],H⟩↔∃ r0,resOne t H x=some r0∧exV deep H r0=some r:=by
 simp only [wR,results,true_and,bf]
 cases resOne t H x<;>simp
@[simp] theorem aNF {t:T} {H:Heap} {x y:ARes} {a b:V}:wR [x,y] (.t [a,b]) ⟨t,[],H⟩ ↔
  (∃ r0,resOne t H x=some r0∧dw deep H r0=some a)∧∃ r0,resOne t H y=some r0∧dw deep H r0=some b:=by
 simp only [wR,results,true_and,bf]
 cases resOne t H x with
 | none=>simp
 | some u=>cases resOne t H y with
  | none=>simp
  | some w=>cases h1:dw deep H u<;>cases h2:dw deep H w<;>simp [exV,h1,h2]
inductive Tg where | nil | es | fs
 deriving DecidableEq
def Tg.fc:Tg→FC
 | .nil=>.aB
 | .es=>.es
 | .fs=>.fs [] 0
def sl(g:Tg)(rows:List (List FC)):FC:=if rows.isEmpty then g.fc else .fs rows.flatten rows.length
def Grid(sz:Nat)(rows:List (List FC)):Prop:=∀ r ∈ rows,r.length=sz
theorem kH{sz:Nat}:∀ {rows:List (List FC)},Grid sz rows→rows.flatten.length=rows.length*sz
 | [],_=>by simp
 | r::rows,h=>by
  have:=kH (rows:=rows) fun x hx=>h x (bO _ hx)
  simp only [cw,bN,cP,this,h r bB,cm,Nat.one_mul]
  omega
theorem DX{sz:Nat}:∀ {rows:List (List FC)} (j:Nat),Grid sz rows→rows.flatten.drop (j*sz)=(rows.drop j).flatten
 | rows,0,_=>by simp
 | [],j+1,_=>by simp
 | r::rows,j+1,h=>by
  have hr:=h r bB
  have:=DX (rows:=rows) j fun x hx=>h x (bO _ hx)
  rw [cw,List.drop_succ_cons,←this,cm,Nat.one_mul,List.drop_append,hr]
  simp [hr,show j*sz+sz-sz=j*sz by omega]
theorem Grid.map{α:Type}{sz:Nat}{l:List α}{g:α→List FC}(h:∀ x,(g x).length=sz):Grid sz (l.map g):=fun r hr=>by
 obtain⟨x,_,rfl⟩:=List.mem_map.1 hr;exact h x
theorem AZ{sz j k:Nat}{rows:List (List FC)}{row:List FC}(hg:Grid sz rows)(hj:rows[j]?=some row)(hk:k≤sz) :
  rows.flatten.drop (j*sz+k)=row.drop k++(rows.drop (j+1)).flatten:=by
 have hl:j<rows.length:=(ai.1 hj).1
 have hr:row.length=sz:=hg row (aD hj)
 rw [←List.drop_drop,DX j hg,cG hl,cw]
 have:rows[j]=row:=by simpa [ae hl]using hj
 rw [this,List.drop_append,show k-row.length=0 by omega]
 simp
variable{H:Heap}
theorem L9{sz j k:Nat}{rows:List (List FC)}{row:List FC}{x:FC}(hg:Grid sz rows)(hj:rows[j]?=some row)(hx:row[k]?=some x) :
  ldV H none (.c (.f (.fp rows.flatten (j*sz+k))))=some (.c (.f x)):=by
 have hr:row.length=sz:=hg row (aD hj)
 have hk:k<row.length:=(ai.1 hx).1
 have e:=AZ (k:=k) hg hj (by omega)
 simp only [ldV,aP,bR,e]
 rw [cG hk]
 have:row[k]=x:=by simpa [ae hk]using hx
 simp [aQ,this]
theorem axI{sz j k n:Nat}{rows:List (List FC)}{row:List FC}(hg:Grid sz rows)(hj:rows[j]?=some row)(hk:k+n≤sz) :
  ldV H (some n) (.c (.f (.fp rows.flatten (j*sz+k))))=some (.a (((row.drop k).take n).map .f)):=by
 have hr:row.length=sz:=hg row (aD hj)
 have e:=AZ (k:=k) hg hj (by omega)
 simp only [ldV,aP,bR,e]
 simp only [aQ]
 rw [if_pos (by simp only [cC,bN,cD];omega)]
 rw [List.map_append,List.take_append_of_le_length (by simp only [cC,cD];omega),List.map_take]
theorem mZ{sz j:Nat}{rows:List (List FC)}{row:List FC}(hg:Grid sz rows)(hj:rows[j]?=some row) :
  ldV H (some sz) (.c (.f (.fp rows.flatten (j*sz))))=some (.a (row.map .f)):=by
 have hr:row.length=sz:=hg row (aD hj)
 have:=axI (H:=H) (k:=0) (n:=sz) hg hj (by omega)
 simp only [Nat.add_zero,List.drop_zero]at this
 rw [this,List.take_of_length_le (by omega)]
theorem rD{sz j:Nat}{rows:List (List FC)}{row:List FC}{x:FC}(hg:Grid sz rows)(hj:rows[j]?=some row)(hx:row[0]?=some x) :
  ldV H none (.c (.f (.fp rows.flatten (j*sz))))=some (.c (.f x)):=L9 (k:=0) hg hj hx
theorem Gg{j:Nat}{l:List Int}{x:Int}(hj:l[j]?=some x) :
  ldV H none (.c (.f (.fp (l.map fun n=>[fi n]).flatten (j*1))))=some (vi x):=
 rD (row:=[fi x]) (Grid.map fun _=>rfl) (by rw [List.getElem?_map,hj];rfl) rfl
@[simp] theorem F9 (g:Tg) (rows:List (List FC)):bJ H (.f (sl g rows))=some rows.length:=by
 cases rows with
 | nil=>cases g<;>rfl
 | cons r rows=>rfl
theorem iD{g:Tg}{rows:List (List FC)}{sz:Nat}{k:IntKind}{i:Int}(h0:0≤i)(h1:i<rows.length) :
  aV H sz none (.c (.f (sl g rows))) (.c (.f (.int k i)))=some (.c (.f (.fp rows.flatten (i.toNat*sz)))):=by
 cases rows with
 | nil=>simp at h1;omega
 | cons r rows=>
  simp only [cP]at h1
  simp [aV,jm,sl,h0]
  omega
end Km
end
