/-
  Our own small machine for Go code by value, held against the model: part 3. No program in sight.
-/
import Derived.Test.YthfeogjbpgocbaaGreatK2
import Derived.Test.YthfeogjbpgocbaaGreatK1
open Bool renaming and_eq_true → am, false_eq_true → aL, not_eq_true' → di, eq_iff_iff → dp
open List renaming all_eq_true → aM, mem_of_getElem? → aD, getElem?_eq_getElem → ae, getElem?_eq_some_iff → al, eq_nil_of_length_eq_zero → az, getElem?_set_ne → ag, getElem?_append_right → bA, map_cons → a8, length_cons → cK, foldl_cons → cP, getElem?_eq_none → dt, getElem?_drop → ba, length_drop → cF, mem_cons_of_mem → aR, flatten_cons → b5, length_append → bz, mem_cons_self → aE, drop_eq_getElem_cons → cJ, length_map → a9
open Option.some renaming injEq → ab
open Prod.mk renaming injEq → aq
open Option renaming bind_eq_some_iff → bB, map_eq_some_iff → an, map_map → dj, bind_some → bS, map_some → co
open Nat renaming le_of_ble_eq_true → cG, eq_of_beq_eq_true → cT, le_max_left → bE, le_max_right → bk, le_refl → aw, add_mul → bR
set_option linter.unusedVariables false
set_option linter.unusedSimpArgs false
set_option linter.unusedSectionVars false
section
namespace Km
open Go
variable{Q:Program}{σ:Nat→FuncId}{X:Wd}{call:dL}
theorem KW{α:Type}{f:α→α→Bool}(hf:∀ x y,f x y=true→x=y):∀ {xs ys:List α},all2b f xs ys=true→xs=ys
 | [],[],_=>rfl
 | x::xs,y::ys,h=>by
  simp only [all2b,am]at h
  rw [hf x y h.1,KW hf h.2]
 | [],_::_,h=>by simp [all2b]at h
 | _::_,[],h=>by simp [all2b]at h
theorem FC.beq_eq:∀(n:Nat) (a b:FC),FC.beq n a b=true→a=b:=by
 intro n
 induction n with
 | zero=>
  intro a b h
  cases a<;>cases b<;>simp_all [FC.beq]
 | succ n ih=>
  intro a b h
  cases a<;>cases b<;>simp_all [FC.beq]
  all_goals exact KW ih h.2
theorem C.beq_eq{a b:C}(h:a.beq b=true):a=b:=by
 cases a<;>cases b<;>simp_all [C.beq]
 exact FC.beq_eq _ _ _ h
theorem V.beq_eq{a b:V}(h:a.beq b=true):a=b:=by
 cases a<;>cases b<;>simp only [V.beq,aL]at h
 ·rw [C.beq_eq h]
 ·rename_i xs ys
  simp only [am,beq_iff_eq,aM]at h
  congr 1
  refine List.ext_getElem h.1 fun i h1 h2=>C.beq_eq (h.2 (xs[i],ys[i]) ?_)
  exact aD (i:=i) (by rw [List.getElem?_zip_eq_some];exact⟨ae h1,ae h2⟩)
theorem DT:∀ {aos:List aV} {s s':St},iU call aos s=some s'→∃ ss:List St,fG call aos s=some ss∧ss.getLast?=some s'
 | [],s,s',h=>by simp only [iU,ab]at h;subst h;exact⟨[s],rfl,rfl⟩
 | o::os,s,s',h=>by
  simp only [iU]at h
  split at h
  ·rename_i s1 h1
   obtain⟨ss,h2,h3⟩:=DT h
   refine⟨s::ss,by simp [fG,h1,h2],?_⟩
   cases ss with
   | nil=>simp at h3
   | cons x xs=>simpa using h3
  ·simp at h
theorem qH:∀ {aos:List aV} {s:St} {ss:List St},fG call aos s=some ss→ss.length=aos.length+1∧ss[0]?=some s ∧
  ∀ i y,aos[i]?=some y→∃ u v,ss[i]?=some u∧ss[i+1]?=some v∧jh call u y=some v
 | [],s,ss,h=>by
  simp only [fG,ab]at h;subst h
  exact⟨rfl,rfl,fun i y h=>by simp at h⟩
 | o::os,s,ss,h=>by
  simp only [fG]at h
  split at h
  ·rename_i s1 h1
   split at h
   ·rename_i ss' h2
    simp only [ab]at h;subst h
    obtain⟨g1,g2,g3⟩:=qH h2
    refine⟨by simp [g1],rfl,fun i y hy=>?_⟩
    cases i with
    | zero=>
     simp only [List.getElem?_cons_zero,ab]at hy
     subst hy
     exact⟨s,s1,rfl,by simpa using g2,h1⟩
    | succ i=>simpa using g3 i y (by simpa using hy)
   ·simp at h
  ·simp at h
theorem Ar:∀ {aos:List aV} {s:St} {ss:List St} {s':St},fG call aos s=some ss→ss.getLast?=some s'→iU call aos s=some s'
 | [],s,ss,s',h,hl=>by simp only [fG,ab]at h;subst h;simpa [iU]using hl
 | o::os,s,ss,s',h,hl=>by
  simp only [fG]at h
  split at h
  ·rename_i s1 h1
   split at h
   ·rename_i ss' h2
    simp only [ab]at h;subst h
    have:=(qH h2).1
    simp only [iU,h1]
    refine Ar h2 ?_
    cases ss' with
    | nil=>simp at this
    | cons x xs=>simpa using hl
   ·simp at h
  ·simp at h
theorem TW(hC:iQ Q σ call)(ako:Q.follows .mixedOrders=true){n:Nat}{id:Nat}{ops:Array Oper}{draw:Bool}{aos:List aV}{chk:List (Nat × Nat)}(hm:bV Q σ n (.region id ops draw) (.region aos chk)=true)
  {b:Frame} {k:List Item} {cs:List Frame} (hk:lQ b cs) (hnr:∀ y ∈ aos,jR y.op b) {X:Wd} {a:Act} {s s':St} (hF:Fr Q σ n X s a) (h:jB call aos chk s=some s') :
  ∃ X' a',Steps Q (lone (b.atR a (.code (.region id ops draw)::k)) cs X.w) (lone (b.atR a' k) cs X'.w)∧Fr Q σ n X' s' a'∧Ext X.H.length X X'∧a'.tmps.size=a.tmps.size:=by
 simp only [bV,am,Bool.or_eq_true,di]at hm
 obtain⟨hops,hord⟩:=hm
 obtain⟨ss,h1,h2,h3⟩:∃ ss:List St,fG call aos s=some ss∧ss.getLast?=some s'∧∀ c ∈ chk,sameAt aos ss c=true:=by
  unfold jB at h
  split at h
  ·obtain⟨ss,g1,g2⟩:=DT h
   exact⟨ss,g1,g2,by simp⟩
  ·split at h
   ·rename_i ss hss
    split at h
    ·rename_i hall
     exact⟨ss,hss,h,aM.1 hall⟩
    ·simp at h
   ·simp at h
 cases draw with
 | false=>
  obtain⟨X',a',g1,g2⟩:=QU hC hk (k:=k) aos 0 X s s' a hF (by simpa using hops) hnr (Ar h1 h2)
  exact⟨X',a',.head stepR_region (by simpa using g1),g2⟩
 | true=>
  obtain⟨g1,g2,g3⟩:=qH h1
  let st:Nat→St:=fun i=>ss.getD i s
  have hst:∀ i u,ss[i]?=some u→st i=u:=fun i u hu=>by simp [st,List.getD_eq_getElem?_getD,hu]
  have R:Reg Q σ call n ops aos chk st:=by
   refine⟨hops,Ux (hord.resolve_left (by simp)),fun i y hy=>?_,fun i e y hc hy hw=>?_⟩
   ·obtain⟨u,v,e1,e2,e3⟩:=g3 i y hy
    rw [hst _ _ e1,hst _ _ e2];exact e3
   ·have hs:=h3 _ hc
    simp only [sameAt,hy]at hs
    split at hs
    ·rename_i o s1 s2 e1 e2 e3
     cases e1
     rw [hst _ _ e2]at hw ⊢
     rw [hst _ _ e3]
     rw [hw]at hs
     simp only at hs
     split at hs
     ·rename_i v x1 v' x2 e4 e5
      rw [←V.beq_eq hs]at e5
      exact⟨v,x1,x2,e4,e5⟩
     ·simp at hs
    ·simp at hs
  have h0:st 0=s:=hst 0 s g2
  have hN:st aos.length=s':=hst _ _ (by rw [List.getLast?_eq_getElem?,g1]at h2;simpa using h2)
  rw [←h0]at hF
  rw [←hN]
  exact akA hC ako R hk hnr hF id
end Km
end
section
namespace Km
open Go
variable{Q:Program}{σ:Nat→FuncId}{X:Wd}{call:dL}
def Nz(X:Wd)(b:Nat):Prop:=∃ f t p a c s q d,X.H[b]?=some (.lp f t p a c s q d)
theorem Nz.ext{X X':Wd}(hx:Ext X.H.length X X'){b:Nat}(h:Nz X b):Nz X' b∧∀ L,X.rho b=some L→X'.rho b=some L:=by
 obtain⟨f,t,p,a,c,s,q,d,hb⟩:=h
 obtain⟨blk',hb',hk⟩:=hx.keep b (al.1 hb).1 _ hb
 cases blk'<;>simp only at hk
 exact⟨⟨_,_,_,_,_,_,_,_,hb'⟩,hk.2⟩
inductive kE(Q:Program)(σ:Nat→FuncId)(n:Nat)(X:Wd):dI→Item→Prop
 | code {a:ah} {c:Code} (h:bV Q σ n c a=true):kE Q σ n X (.code a) (.code c)
 | inBlock (id:Nat):kE Q σ n X (.inBlock id) (.inBlock id)
 | inLoop {a:ah} {c:Code} (h:bV Q σ n c a=true):kE Q σ n X (.inLoop a) (.inLoop c)
 | lF {b:Nat} {L:Loc} (h:X.rho b=some L) (hl:Nz X b):kE Q σ n X (.lF b) (.endRangeFunc L.c)
 | rE:kE Q σ n X .rE .beginRound
 | inScope {a:ah} {c:Code} (h:bV Q σ n c a=true) (hs:oZ a=true):kE Q σ n X (.inScope a) (.inScope c)
theorem kE.ext{n:Nat}{X X':Wd}(hx:Ext X.H.length X X'){x:dI}{y:Item}(h:kE Q σ n X x y):kE Q σ n X' x y:=by
 cases h with
 | code h=>exact .code h
 | inBlock id=>exact .inBlock id
 | inLoop h=>exact .inLoop h
 | lF h hl=>exact .lF ((hl.ext hx).2 _ h) (hl.ext hx).1
 | rE=>exact .rE
 | inScope h hs=>exact .inScope h hs
def RoR(X:Wd):Option Nat→Option Nat→Prop
 | none,none=>True
 | some b,some l=>∃ L,X.rho b=some L∧L.c=l∧Nz X b
 | _,_=>False
theorem RoR.ext{X X':Wd}(hx:Ext X.H.length X X'){ro ro':Option Nat}(h:RoR X ro ro'):RoR X' ro ro':=by
 cases ro<;>cases ro'<;>simp only [RoR]at h ⊢
 obtain⟨L,h1,h2,h3⟩:=h
 exact⟨L,(h3.ext hx).2 _ h1,h2,(h3.ext hx).1⟩
theorem Et{n:Nat}(id:Nat):∀(k:List dI) (ks:List Item),A2 (kE Q σ n X) k ks →
  match Km.exitTo id k with
  | some k'=>∃ ks',Go.exitTo id ks=some ks'∧A2 (kE Q σ n X) k' ks'
  | none=>Go.exitTo id ks=none
 | [],ks,h=>by
  have:ks=[]:=az h.len.symm
  subst this;rfl
 | x::k,[],h=>by have:=h.len;simp at this
 | x::k,y::ks,h=>by
  obtain⟨h1,h2⟩:=h.of_cons
  have ih:=Et id k ks h2
  cases h1 with
  | inBlock id'=>
   simp only [Km.exitTo,Go.exitTo]
   by_cases he:(id' == id)=true
   ·simp only [he,if_true];exact⟨ks,rfl,h2⟩
   ·simp only [he,aL,if_false];exact ih
  | _=>exact ih
theorem Hl{n:Nat}(l:Nat):∀(a:ah) (c:Code),bV Q σ n c a=true→oZ a=true →
  match Km.findLabel a l with
  | some r=>∃ r',Go.findLabel c l=some r'∧bV Q σ n r' r=true
  | none=>Go.findLabel c l=none:=by
 intro a
 induction a with
 | seq a b iha ihb=>
  intro c h hs
  simp only [oZ,am]at hs
  cases c with
  | seq c d=>
   simp only [bV,am]at h
   have h1:=iha c h.1 hs.1
   simp only [Km.findLabel,Go.findLabel]
   cases hf:Km.findLabel a l with
   | some r=>
    rw [hf]at h1
    obtain⟨r',h2,h3⟩:=h1
    simp only [h2]
    exact⟨_,rfl,by simp [bV,h3,h.2]⟩
   | none=>
    rw [hf]at h1
    simp only [h1]
    exact ihb d h.2 hs.2
  | _=>simp [bV]at h
 | label l'=>
  intro c h _
  cases c with
  | label l2=>
   simp only [bV,beq_iff_eq]at h
   subst h
   simp only [Km.findLabel,Go.findLabel]
   by_cases he:(l2 == l)=true
   ·simp only [he,if_true];exact⟨_,rfl,by simp [bV]⟩
   ·simp only [he,aL,if_false]
  | _=>simp [bV]at h
 | bad=>intro c h hs;simp [oZ]at hs
 | _=>intro c h _;cases c<;>simp_all [bV,Km.findLabel,Go.findLabel]
theorem Eo{n:Nat}(l:Nat):∀(k:List dI) (ks:List Item),A2 (kE Q σ n X) k ks →
  match Km.gotoIn l k with
  | some k'=>∃ ks',Go.gotoIn l ks=some ks'∧A2 (kE Q σ n X) k' ks'
  | none=>Go.gotoIn l ks=none
 | [],ks,h=>by
  have:ks=[]:=az h.len.symm
  subst this;rfl
 | x::k,[],h=>by have:=h.len;simp at this
 | x::k,y::ks,h=>by
  obtain⟨h1,h2⟩:=h.of_cons
  have ih:=Eo l k ks h2
  cases h1 with
  | inScope hm hs=>
   rename_i a c
   have h3:=Hl (Q:=Q) (σ:=σ) l a c hm hs
   simp only [Km.gotoIn,Go.gotoIn]
   cases hf:Km.findLabel a l with
   | some r=>
    rw [hf]at h3
    obtain⟨r',h4,h5⟩:=h3
    simp only [h4]
    exact⟨_,rfl,A2.cons (.code h5) (A2.cons (.inScope hm hs) h2)⟩
   | none=>
    rw [hf]at h3
    simp only [h3]
    exact ih
  | _=>exact ih
def aK8:Option ah→List Item→Prop
 | none,items=>items=[]
 | some .ret,items=>∃ k,items=.code .ret::k
 | some (.exit id),items=>∃ k,items=.code (.exit id)::k∧Go.exitTo id k=none
 | _,_=>False
end Km
end
section
namespace Km
open Go
variable{Q:Program}{σ:Nat→FuncId}{X:Wd}{call:dL}
theorem wK{b:Nat}{L:Loc}(hS:SR Q σ X)(hL:X.rho b=some L){f:Nat}{t:T}{ps:List P}{as bd:ah}{q:jZ}{pend:Option ah}{d:Nat}(hb:X.H[b]?=some (.lp f t ps as bd q pend d)) :
  ∃(n:Nat) (us:Array Value) (ps':Array Tmp) (as' bd':Code) (jI:Option Code) (Ld:Loc),
   X.w.heap[L.c]?=some (.loop { state:=q.of,pending:=jI,fn:=σ f,tmps:=us,params:=ps',assign:=as',body:=bd',defers:=Ld.c }) ∧
   n≤us.size∧RR σ X t us∧all2 (fun p (q:P)=>q.toNat == p&&decide (p<n)) ps'.toList ps=true∧bV Q σ n as' as=true∧bV Q σ n bd' bd=true∧Eh Q σ n pend jI∧X.rho d=some Ld∧∃ o,X.H[d]?=some (.dfr o):=by
 obtain⟨_,_,blk,hb',hbr⟩:=hS.br b L hL
 rw [hb]at hb';cases hb'
 exact hbr
theorem FW(hS:SR Q σ X){b:Nat}{L:Loc}(hL:X.rho b=some L){f:Nat}{t:T}{ps:List P}{as bd:ah}{q q':jZ}{pend A8:Option ah}{d:Nat}(hb:X.H[b]?=some (.lp f t ps as bd q pend d))
  {n:Nat} {us:Array Value} {ps':Array Tmp} {as' bd':Code} {jI:Option Code} {Ld:Loc}
  (h2:n≤us.size) (h3:RR σ X t us) (h4:all2 (fun p (q:P)=>q.toNat == p&&decide (p<n)) ps'.toList ps=true) (h5:bV Q σ n as' as=true) (h6:bV Q σ n bd' bd=true) (h7:Eh Q σ n A8 jI) (h8:X.rho d=some Ld) (h9:∃ o,X.H[d]?=some (.dfr o)) :
  SR Q σ { X with H:=X.H.set b (.lp f t ps as bd q' A8 d),w:=X.w.putObj L.c (.loop { state:=q'.of,pending:=jI,fn:=σ f,tmps:=us,params:=ps',assign:=as',body:=bd',defers:=Ld.c }) } ∧
  Ext X.H.length X { X with H:=X.H.set b (.lp f t ps as bd q' A8 d),w:=X.w.putObj L.c (.loop { state:=q'.of,pending:=jI,fn:=σ f,tmps:=us,params:=ps',assign:=as',body:=bd',defers:=Ld.c }) }:=by
 obtain⟨m,us0,ps0,as0,bd0,pd0,Ld0,qC,_⟩:=wK hS hL hb
 have hlt:b<X.H.length:=(al.1 hb).1
 refine SR.vU (o':=.loop { state:=q'.of,pending:=jI,fn:=σ f,tmps:=us,params:=ps',assign:=as',body:=bd',defers:=Ld.c }) (blk':=.lp f t ps as bd q' A8 d) hS hb hL qC (by simp) (by simp)
  (fun blk hblk=>⟨.lp f t ps as bd q' A8 d,by simp [hlt],by rw [hb]at hblk;cases hblk;exact⟨⟨rfl,rfl,rfl,rfl,rfl,rfl⟩,fun L h=>h⟩⟩)
  (fun X' hx' hw1 _ pR hH=>?_)
 obtain⟨o,h9⟩:=h9
 refine⟨n,us,ps',as',bd',jI,Ld,hw1,h2,RR.ext' σ hx' h3,h4,h5,h6,h7,by rw [pR];exact h8,o,?_⟩
 have hne:b≠d:=fun e=>by rw [e,h9]at hb;cases hb
 rw [hH,ag hne];exact h9
end Km
end
section
namespace Km
open Go
variable{Q:Program}{σ:Nat→FuncId}{call:dL}
structure Way(Q:Program)(σ:Nat→FuncId)(fn:Nat)(n:Nat)(b:Frame)(cs:List Frame)(ro:Option Nat)(todo:List dI)(items:List Item)(s:St)(X:Wd)(a:Act):Prop where
 fr:Fr Q σ n X s a
 items:A2 (kE Q σ n X) todo items
 ro:RoR X ro b.roundOf
 kind:lQ b cs
 fn:b.fn=σ fn
theorem Way.ext{fn n:Nat}{b:Frame}{cs:List Frame}{ro:Option Nat}{todo:List dI}{items:List Item}{s s':St}{X X':Wd}{a a':Act}(h:Way Q σ fn n b cs ro todo items s X a){todo':List dI}{items':List Item}(hx:Ext X.H.length X X')(hF:Fr Q σ n X' s' a')
  (hi:A2 (kE Q σ n X) todo' items'):Way Q σ fn n b cs ro todo' items' s' X' a':=
 ⟨hF,hi.weak fun _ _ h=>h.ext hx,h.ro.ext hx,h.kind,h.fn⟩
theorem Way.to{fn n:Nat}{b:Frame}{cs:List Frame}{ro:Option Nat}{todo:List dI}{items:List Item}{s:St}{X:Wd}{a:Act}(h:Way Q σ fn n b cs ro todo items s X a){todo':List dI}{items':List Item}
  (hi:A2 (kE Q σ n X) todo' items'):Way Q σ fn n b cs ro todo' items' s X a:=⟨h.fr,hi,h.ro,h.kind,h.fn⟩
def aP1(Q:Program)(σ:Nat→FuncId)(call:dL)(fn m:Nat):Prop:=
 ∀(n:Nat) (b:Frame) (cs:List Frame) ro todo items s X a jump s',run call fn m ro todo s=some (jump,s')→Way Q σ fn n b cs ro todo items s X a →
  ∃ X' a' items',Steps Q (lone (b.atR a items) cs X.w) (lone (b.atR a' items') cs X'.w)∧Fr Q σ n X' s' a'∧Ext X.H.length X X'∧a'.tmps.size=a.tmps.size∧aK8 jump items'
theorem Dk{b:Frame}{a:Act}{k:List Item}{cs:List Frame}{w:World}{body:Code}:step Q (lone (b.atR a (.inScope body::k)) cs w)=.next (lone (b.atR a k) cs w):=
 step_lone_go (by simp [stepG,stepG.exec,Frame.atR])
theorem I8{b:Frame}{a:Act}{k:List Item}{cs:List Frame}{w:World}{body:Code}:step Q (lone (b.atR a (.code (.scope body)::k)) cs w)=.next (lone (b.atR a (.code body::.inScope body::k)) cs w):=
 step_lone_go (by simp [stepG,stepG.exec,Frame.atR])
theorem aiT(hC:iQ Q σ call)(ako:Q.follows .mixedOrders=true)(fn:Nat):∀ m,aP1 Q σ call fn m:=by
 intro m
 induction m with
 | zero=>intro n b cs ro todo items s X a jump s' h;simp [run]at h
 | succ m ih=>
  intro n b cs ro todo items s X a jump s' h hW
  have go:∀ {todo' items'},run call fn m ro todo' s=some (jump,s')→A2 (kE Q σ n X) todo' items'→step Q (lone (b.atR a items) cs X.w)=.next (lone (b.atR a items') cs X.w) →
    ∃ X' a' items',Steps Q (lone (b.atR a items) cs X.w) (lone (b.atR a' items') cs X'.w)∧Fr Q σ n X' s' a'∧Ext X.H.length X X'∧a'.tmps.size=a.tmps.size∧aK8 jump items':=by
   intro todo' items' hr hi hst
   obtain⟨X',a',it,g1,g2⟩:=ih n b cs ro todo' items' s X a jump s' hr (hW.to hi)
   exact⟨X',a',it,.head hst g1,g2⟩
  cases todo with
  | nil=>
   have:items=[]:=az hW.items.len.symm
   subst this
   simp only [run,ab,aq]at h
   obtain⟨rfl,rfl⟩:=h
   exact⟨X,a,[],Steps.refl _ _,hW.fr,Ext.refl _ _,rfl,rfl⟩
  | cons x k=>
   cases items with
   | nil=>have:=hW.items.len;simp at this
   | cons it ks=>
    obtain⟨hx,hks⟩:=hW.items.of_cons
    cases hx with
    | inBlock id=>exact go (by simpa [run]using h) hks stepR_inBlock
    | inLoop hm=>exact go (by simpa [run]using h) (A2.cons (.code hm) (A2.cons (.inLoop hm) hks)) stepR_inLoop
    | inScope hm hs=>exact go (by simpa [run]using h) hks Dk
    | lF hb hl=>
     rename_i bb L
     simp only [run]at h
     split at h
     ·rename_i f t ps as bd q pend d hlp
      split at h
      ·simp at h
      ·rename_i hq
       rw [←hW.fr.heap]at hlp
       obtain⟨m0,us,ps',as',bd',jI,Ld,qC,h2,h3,h4,h5,h6,h7,h8,h9⟩:=wK hW.fr.sr hb hlp
       obtain⟨g1,g2⟩:=FW hW.fr.sr hb hlp (q':=.exhausted) h2 h3 h4 h5 h6 h7 h8 h9
       have hne:(q.of)≠LoopState.busy:=by cases q<;>simp [jZ.of]at hq ⊢
       have hst:=stepR_endRangeFunc (P:=Q) (b:=b) (a:=a) (k:=ks) (cs:=cs) (run_endLoop (P:=Q) qC hne)
       have key:∀ {todo' items'},run call fn m ro todo' { s with heap:=s.heap.set bb (.lp f t ps as bd .exhausted pend d) }=some (jump,s')→A2 (kE Q σ n X) todo' items'→items'=(jI.map Item.code).toList++ks →
         ∃ X' a' items',Steps Q (lone (b.atR a (.endRangeFunc L.c::ks)) cs X.w) (lone (b.atR a' items') cs X'.w)∧Fr Q σ n X' s' a'∧Ext X.H.length X X'∧a'.tmps.size=a.tmps.size∧aK8 jump items':=by
        intro todo' items' hr hi he
        obtain⟨X',a',it,k1,k2,k3,k4,k5⟩:=ih n b cs ro todo' items' _ _ a jump s' hr (hW.ext (a':=a) g2 ⟨by rw [←hW.fr.heap],g1,by simpa [World.putObj]using hW.fr.b,hW.fr.regs.ext' σ g2,hW.fr.defs.ext' g2,hW.fr.size⟩ hi)
        rw [he]at k1
        exact⟨X',a',it,.head hst k1,k2,g2.trans (k3.mono g2.len),k4,k5⟩
       split at h
       ·cases jI with
        | none=>exact key h hks rfl
        | some c=>exact h7.elim
       ·cases jI with
        | none=>exact h7.elim
        | some c=>
         have h7:bV Q σ m0 c .ret=true:=h7
         cases c<;>simp [bV]at h7
         exact key h (A2.cons (.code (by simp [bV])) hks) rfl
       ·rename_i id
        cases jI with
        | none=>exact h7.elim
        | some c=>
         have h7:bV Q σ m0 c (.exit id)=true:=h7
         cases c<;>simp [bV]at h7
         subst h7
         exact key h (A2.cons (.code (by simp [bV])) hks) rfl
       ·simp at h
     ·simp at h
    | rE=>
     simp only [run]at h
     split at h
     ·simp at h
     ·rename_i bb
      split at h
      ·rename_i f t ps as bd pend d hlp
       have hro:=hW.ro
       cases hbr:b.roundOf with
       | none=>rw [hbr]at hro;exact hro.elim
       | some l=>
        rw [hbr]at hro
        obtain⟨L,hL,rfl,_⟩:=hro
        rw [←hW.fr.heap]at hlp
        obtain⟨m0,us,ps',as',bd',jI,Ld,qC,h2,h3,h4,h5,h6,h7,h8,h9⟩:=wK hW.fr.sr hL hlp
        obtain⟨g1,g2⟩:=FW hW.fr.sr hL hlp (q':=.busy) h2 h3 h4 h5 h6 h7 h8 h9
        have hst:=stepR_beginRound (P:=Q) (b:=b) (a:=a) (k:=ks) (cs:=cs) hbr (run_beginRound (P:=Q) qC rfl)
        obtain⟨X',a',it,k1,k2,k3,k4,k5⟩:=ih n b cs _ k ks _ _ a jump s' h (hW.ext (a':=a) g2 ⟨by rw [←hW.fr.heap],g1,by simpa [World.putObj]using hW.fr.b,hW.fr.regs.ext' σ g2,hW.fr.defs.ext' g2,hW.fr.size⟩ hks)
        exact⟨X',a',it,.head hst k1,k2,g2.trans (k3.mono g2.len),k4,k5⟩
      ·simp at h
    | code hm=>
     rename_i ac c
     cases ac with
     | bad=>simp [run]at h
     | skip=>cases c<;>simp [bV]at hm;exact go (by simpa [run]using h) hks stepR_skip
     | label l=>cases c<;>simp [bV]at hm;exact go (by simpa [run]using h) hks stepR_label
     | scope p=>
      cases c<;>simp [bV]at hm
      exact go (by simpa [run]using h) (A2.cons (.code hm.1) (A2.cons (.inScope hm.1 hm.2) hks)) I8
     | goto l=>
      cases c<;>simp [bV]at hm
      subst hm
      rename_i l'
      have hex:=Eo (Q:=Q) (σ:=σ) (n:=n) (X:=X) l' k ks hks
      simp only [run]at h
      split at h
      ·rename_i k' hk'
       rw [hk']at hex
       obtain⟨ks',he,aIJ⟩:=hex
       exact go h aIJ (stepR_goto he)
      ·simp at h
     | ret=>
      cases c<;>simp [bV]at hm
      simp only [run,ab,aq]at h
      obtain⟨rfl,rfl⟩:=h
      exact⟨X,a,_,Steps.refl _ _,hW.fr,Ext.refl _ _,rfl,ks,rfl⟩
     | seq p q=>
      cases c<;>simp [bV]at hm
      exact go (by simpa [run]using h) (A2.cons (.code hm.1) (A2.cons (.code hm.2) hks)) stepR_seq
     | block id p=>
      cases c<;>simp [bV]at hm
      obtain⟨rfl,hm⟩:=hm
      exact go (by simpa [run]using h) (A2.cons (.code hm) (A2.cons (.inBlock _) hks)) stepR_block
     | loop p=>
      cases c<;>simp [bV]at hm
      exact go (by simpa [run]using h) (A2.cons (.code hm) (A2.cons (.inLoop hm) hks)) stepR_loop
     | exit id=>
      cases c<;>simp [bV]at hm
      subst hm
      rename_i id'
      have hex:=Et (Q:=Q) (σ:=σ) (n:=n) (X:=X) id' k ks hks
      simp only [run]at h
      split at h
      ·rename_i k' hk'
       rw [hk']at hex
       obtain⟨ks',he,aIJ⟩:=hex
       exact go h aIJ (stepR_exit he)
      ·rename_i hk'
       rw [hk']at hex
       split at h
       ·simp only [ab,aq]at h
        obtain⟨rfl,rfl⟩:=h
        exact⟨X,a,_,Steps.refl _ _,hW.fr,Ext.refl _ _,rfl,ks,rfl,hex⟩
       ·simp at h
     | cond x p q=>
      cases c<;>simp [bV]at hm
      simp only [run]at h
      split at h
      ·rename_i v hv
       have hx:=bI hW.fr.regs hm.1.1
       rw [hv]at hx
       have hx':FCR σ X.F X.w (.bool v) _:=hx
       have he:∀ u,FCR σ X.F X.w (.bool v) u→u=.bool v:=fun u hu=>by cases hu;rfl
       refine go h ?_ (stepR_cond (he _ hx'))
       cases v
       ·exact A2.cons (.code hm.2) hks
       ·exact A2.cons (.code hm.1.2) hks
      ·simp at h
     | region aos chk=>
      cases c with
      | region id ops draw=>
       simp only [run]at h
       split at h
       ·simp at h
       ·rename_i hro
        split at h
        ·rename_i s1 h1
         have hnr:∀ y ∈ aos,jR y.op b:=by
          intro y hy
          unfold jR
          cases ro with
          | none=>
           refine .inl ?_
           have:=hW.ro
           cases hb:b.roundOf with
           | none=>rfl
           | some l=>rw [hb]at this;exact this.elim
          | some r=>
           simp only [Option.isSome_some,Bool.true_and,di,Bool.not_eq_false]at hro
           exact .inr (aM.1 hro y hy)
         obtain⟨X1,a1,g1,g2,g3,g4⟩:=TW hC ako hm hW.kind hnr (k:=ks) hW.fr h1
         obtain⟨X',a',it,k1,k2,k3,k4,k5⟩:=ih n b cs ro k ks s1 X1 a1 jump s' h (hW.ext g3 g2 hks)
         exact⟨X',a',it,g1.trans k1,k2,g3.trans (k3.mono g3.len),k4.trans g4,k5⟩
        ·simp at h
      | _=>simp [bV]at hm
     | ig f ps as bd=>
      cases c with
      | rangeFunc f' ps' as' bd'=>
       simp only [bV,am]at hm
       obtain⟨⟨⟨hm1,hm2⟩,hm3⟩,hm4⟩:=hm
       simp only [run]at h
       split at h
       ·simp at h
       ·rename_i hro
        have hrn:b.roundOf=none:=by
         have:=hW.ro
         cases ro with
         | some r=>simp at hro
         | none=>
          cases hb:b.roundOf with
          | none=>rfl
          | some l=>rw [hb]at this;exact this.elim
        split at h
        ·rename_i g args fK
         split at h
         ·rename_i r2 H2 hcall
          obtain⟨X1,w1,H1,S1,E1,r1,B1⟩:=SR.new hW.fr.sr hW.fr.b (.dfr true) (Adds.alloc X.w (.deferred (some []))) 0 (fun X' hx hw hF hH=>by
           show X'.w.heap[X.w.heap.size]?=_
           rw [hw];exact(Adds.alloc X.w (.deferred (some []))).new)
          have hd1:X1.H[X.H.length]?=some (.dfr true):=by rw [H1];simp
          have aN7:X.H.length<X1.H.length:=by rw [H1];simp
          have hsz1:X1.w.heap.size=X.w.heap.size+1:=by rw [w1];simp
          obtain⟨X2,w2,H2',S2,E2,r2',B2⟩:=SR.new S1 B1 (.lp fn s.regs ps as bd .ready none s.heap.length)
           (Adds.alloc X1.w (.loop { state:=.ready,pending:=none,fn:=b.fn,tmps:=a.tmps,params:=ps',assign:=as',body:=bd',defers:=X.w.heap.size })) 0 (fun X' hx hw hF hH=>by
            obtain⟨blk',hb',hk'⟩:=hx.keep X.H.length aN7 _ hd1
            cases blk'<;>simp only at hk'
            refine⟨n,a.tmps,ps',as',bd',none,⟨X.w.heap.size,0⟩,?_,hW.fr.size,RR.ext' σ hx (RR.ext' σ E1 hW.fr.regs),hm2,hm3,hm4,trivial,?_,?_⟩
            ·show X'.w.heap[X1.w.heap.size]?=_
             rw [hw,(Adds.alloc X1.w (.loop { state:=.ready,pending:=none,fn:=b.fn,tmps:=a.tmps,params:=ps',assign:=as',body:=bd',defers:=X.w.heap.size })).new,hW.fn];rfl
            ·rw [←hW.fr.heap];exact hk' _ r1
            ·rw [←hW.fr.heap];exact⟨_,hb'⟩)
          have hx2:Ext X.H.length X X2:=E1.trans (E2.mono E1.len)
          have hH2:X2.H=s.heap++[.dfr true,.lp fn s.regs ps as bd .ready none s.heap.length]:=by rw [H2',H1,←hW.fr.heap];simp
          have hl1:X1.H.length=s.heap.length+1:=by rw [H1,←hW.fr.heap];simp
          have hlp:Nz X2 (s.heap.length+1):=⟨fn,s.regs,ps,as,bd,.ready,none,s.heap.length,by rw [hH2,bA (by omega)];simp⟩
          rw [hl1,hsz1]at r2'
          have harg:A2 (VR σ X2) [.c (.yl (s.heap.length+1))] [.func (.yield (X.w.heap.size+1)) #[] #[]]:=A2.cons ⟨⟨X.w.heap.size+1,0⟩,r2',hlp,rfl⟩ A2.nil
          obtain⟨fst,cap,hv1,hv2⟩:=vK fK (VR.ext' σ hx2 (bI hW.fr.regs hm1)) harg
          rw [←hH2]at hcall
          have hen:=hC.enters _ _ _ _ hcall
          let a1:Act:={ a with defers:={ target:=.collected X.w.heap.size,args:=#[] }::a.defers }
          obtain⟨fr,X3,u,q1,⟨l1,l2,l3,l4,fn',l5,l6⟩,q3,q4,q5,q6,q7⟩:=hC.fn g args _ r2 H2 hcall X2 _ .normal (b.atR a1 (.inRangeFunc (X.w.heap.size+1)::ks)::cs) rfl S2 B2 hv2 (.inl rfl)
          have hst:step Q (lone (b.atR a (.code (.rangeFunc f' ps' as' bd')::ks)) cs X.w)=.next (lone (Frame.enter Q (σ g) (fst.toArray++#[.func (.yield (X.w.heap.size+1)) #[] #[]]++cap.toArray) .normal) (b.atR a1 (.inRangeFunc (X.w.heap.size+1)::ks)::cs) X2.w):=by
           refine stepR_rangeFunc (P:=Q) (b:=b) (a:=a) (k:=ks) (cs:=cs) (l:=X.w.heap.size+1) (mark:=[{ target:=.collected X.w.heap.size,args:=#[] }]) (w₁:=X2.w) (w₁':=X2.w) (d:={ target:=.fn (.func (σ g)) cap.toArray,args:=fst.toArray++#[.func (.yield (X.w.heap.size+1)) #[] #[]] }) ?_ ?_ ?_
           ·rw [hrn,run_enterLoop_outer,w2,w1]
           ·simp only [resolve,hv1,Deferred.ofValue,Sem.run_bind,Sem.run_pure,Result.andThen_ok];simp [Act.eval]
           ·exact iE hen
          have hx3:Ext X.H.length X X3:=hx2.trans (q6.mono hx2.len)
          have hback:=step_leave_returned (P:=Q) (c:=b.atR a1 (.inRangeFunc (X.w.heap.size+1)::ks)) (cs:=cs) (show fr.leaving Q X3.w (.returned u) from⟨l1,l2,l3,fn',by rw [l4];exact l5,l6⟩)
          rw [finish_atR_inRangeFunc]at hback
          have aN0:=hlp.ext q6
          have hdf:Dh σ X3 (.coll s.heap.length) { target:=.collected X.w.heap.size,args:=#[] }:=by
           obtain⟨blk',hb',hk'⟩:=(E2.trans (q6.mono E2.len)).keep X.H.length aN7 _ hd1
           cases blk'<;>simp only at hk'
           rw [←hW.fr.heap]
           exact⟨⟨X.w.heap.size,0⟩,_,hk' _ r1,hb',rfl⟩
          obtain⟨X',a',it,k1,k2,k3,k4,k5⟩:=ih n b cs ro (.lF (s.heap.length+1)::k) (.endRangeFunc (X.w.heap.size+1)::ks) _ X3 a1 jump s' h
           ⟨⟨q3,q4,q7,RR.ext' σ hx3 hW.fr.regs,A2.cons hdf (hW.fr.defs.ext' hx3),hW.fr.size⟩,A2.cons (.lF (aN0.2 _ r2') aN0.1) (hks.weak fun _ _ h=>h.ext hx3),hW.ro.ext hx3,hW.kind,hW.fn⟩
          refine⟨X',a',it,.head hst (Steps.trans ?_ (.head hback k1)),k2,hx3.trans (k3.mono hx3.len),k4,k5⟩
          simpa using q1
         ·simp at h
        ·simp at h
      | _=>simp [bV]at hm
end Km
end
section
namespace Km
open Go
variable{Q:Program}{σ:Nat→FuncId}{X:Wd}{call:dL}
def ale(Q:Program)(σ:Nat→FuncId)(prim:Nat→List V→Heap→Option (Option (V × Heap))):Prop:=
 ∀ f args H r H',prim f args H=some (some (r,H')) →
  (∀ as w,(callFunc (σ f) as).run Q w=.ok (.enter (σ f) as) w) ∧
  ∀(X:Wd) us kind cs,X.H=H→SR Q σ X→X.B≤X.w.heap.size→A2 (VR σ X) args us→vw kind cs →
   ∃ fr X' u,Steps Q (lone (Frame.enter Q (σ f) us.toArray kind) cs X.w) (lone fr cs X'.w)∧Leaves Q (σ f) kind fr u X'.w∧Post Q σ X r H' X' u
structure Env(Q:Program)(σ:Nat→FuncId)(tab:Nat→Option AFunc)(prim:Nat→List V→Heap→Option (Option (V × Heap))):Prop where
 mix:Q.follows .mixedOrders=true
 fn:∀ f af,tab f=some af→∃ fn,Q.funcs[σ f]?=some fn∧Sl Q σ fn af=true
 prim:ale Q σ prim
theorem AO:∀(ps:List P) (args:List V) (t:T) (s:Nat),ps.map P.toNat=List.range' s ps.length→args.length=ps.length→∀ q:P,
  (dJ ps args t).get q=if s≤q.toNat then(args[q.toNat-s]?).getD (t.get q)else t.get q
 | [],args,t,s,_,hl,q=>by
  have:args=[]:=az hl
  subst this
  simp [dJ]
 | p::ps,[],t,s,_,hl,q=>by simp at hl
 | p::ps,v::vs,t,s,hp,hl,q=>by
  simp only [a8,cK,List.range'_succ,List.cons.injEq]at hp
  have ih:=AO ps vs (t.set p v) (s+1) hp.2 (by simpa using hl) q
  simp only [dJ,ih]
  by_cases hq:p=q
  ·subst hq
   rw [if_neg (by omega),T.wW]
   simp [hp.1]
  ·have hne:q.toNat≠s:=fun e=>hq (P.toNat_inj (hp.1.trans e.symm))
   simp only [T.wW,hq,if_false]
   by_cases hs:s≤q.toNat
   ·have h1:s+1≤q.toNat:=by omega
    have h2:q.toNat-s=(q.toNat-(s+1))+1:=by omega
    simp [h1,hs,h2]
   ·have h1:¬ (s+1≤q.toNat):=by omega
    simp [h1,hs]
theorem RR.dJ:∀(ps:List P) (ps':List Tmp) (args:List V) (us:List Value) (regs:T) (tmps:Array Value) (n:Nat),n≤tmps.size→RR σ X regs tmps→A2 (VR σ X) args us→args.length=ps.length →
  all2 (fun p (q:P)=>q.toNat == p&&decide (p<n)) ps' ps=true→RR σ X (Km.dJ ps args regs) ((ps'.zip us).foldl (fun tmps (t,a)=>tmps.setIfInBounds t a) tmps)
 | [],ps',args,us,regs,tmps,n,hn,hR,hA,hl,h=>by
  have:args=[]:=az hl
  subst this
  have:us=[]:=az hA.len.symm
  subst this
  simpa [Km.dJ]using hR
 | p::ps,[],args,us,regs,tmps,n,hn,hR,hA,hl,h=>by simp [all2]at h
 | p::ps,p'::ps',[],us,regs,tmps,n,hn,hR,hA,hl,h=>by simp at hl
 | p::ps,p'::ps',v::vs,[],regs,tmps,n,hn,hR,hA,hl,h=>by have:=hA.len;simp at this
 | p::ps,p'::ps',v::vs,u::us,regs,tmps,n,hn,hR,hA,hl,h=>by
  simp only [all2,am,beq_iff_eq,decide_eq_true_eq]at h
  obtain⟨⟨h1,h2⟩,h3⟩:=h
  obtain⟨hvu,hA⟩:=hA.of_cons
  subst h1
  refine RR.dJ ps ps' vs us _ _ n (by simpa using hn) (RR.set σ hR (by omega) hvu) hA (by simpa using hl) h3
theorem zk:∀(l:List (Tmp × Value)) (tmps:Array Value),(l.foldl (fun tmps (t,a)=>tmps.setIfInBounds t a) tmps).size=tmps.size
 | [],_=>rfl
 | x::l,tmps=>by rw [cP,zk l];simp
theorem aiU(fn:Nat):∀ m todo s jump s',run call fn m none todo s=some (jump,s')→jump=none∨jump=some .ret:=by
 intro m
 induction m with
 | zero=>intro todo s jump s' h;simp [run]at h
 | succ m ih=>
  intro todo s jump s' h
  unfold run at h
  split at h
  all_goals first
   | exact ih _ _ _ _ h
   | (simp at h;done)
   | skip
  ·simp only [ab,aq]at h;exact .inl h.1.symm
  ·split at h
   ·split at h
    ·simp at h
    ·split at h
     ·exact ih _ _ _ _ h
     ·exact ih _ _ _ _ h
     ·exact ih _ _ _ _ h
     ·simp at h
   ·simp at h
  ·split at h
   ·exact ih _ _ _ _ h
   ·simp at h
  ·simp only [ab,aq]at h;exact .inr h.1.symm
  ·split at h
   ·exact ih _ _ _ _ h
   ·simp at h
  ·split at h
   ·exact ih _ _ _ _ h
   ·simp at h
  ·split at h
   ·simp at h
   ·split at h
    ·exact ih _ _ _ _ h
    ·simp at h
  ·split at h
   ·simp at h
   ·simp only at h
    split at h
    ·split at h
     ·exact ih _ _ _ _ h
     ·simp at h
    ·simp at h
theorem zo{fn:Func}{af:AFunc}(h:Sl Q σ fn af=true):∃ c,fn.name≠ "runtime.NumGoroutine"∧fn.body=some c∧bV Q σ fn.ntmps c af.body=true ∧
  all2 (GL Q fn.ntmps) fn.results.toList af.results=true∧af.ps.map P.toNat=List.range af.ps.length:=by
 simp only [Sl,am,bne_iff_ne,ne_eq,decide_eq_true_eq]at h
 obtain⟨⟨⟨h1,h2⟩,h3⟩,h4⟩:=h
 cases hb:fn.body with
 | none=>rw [hb]at h2;simp at h2
 | some c=>rw [hb]at h2;exact⟨c,h1,rfl,h2,h3,h4⟩
theorem Gg{f:FuncId}{fn:Func}{c:Code}(hf:Q.funcs[f]?=some fn)(hn:fn.name≠ "runtime.NumGoroutine")(hb:fn.body=some c)(as:Array Value)(w:World):(callFunc f as).run Q w=.ok (.enter f as) w:=by
 simp [callFunc,hf,hn,hb]
def Returning(g:FuncId)(kind:CallKind)(tmps:Array Value)(ds:List Deferred)(fr:Frame):Prop:=
 fr.mode=.returning∧fr.defers=ds∧fr.kind=kind∧fr.fn=g∧fr.tmps=tmps
theorem step_collected{fr:Frame}{cs:List Frame}{w w':World}{b:Nat}{as:Array Value}{ds:List Deferred}(hm:fr.mode=.returning)(hd:fr.defers = { target:=.collected b,args:=as }::ds)
  (hr:(Instr.takeDeferred b).run Q w=.ok [] w'):step Q (lone fr cs w)=.next (lone { fr with defers:=ds } cs w'):=
 step_lone_go (by simp [stepG,unwind,hm,hd,Sem.runT_eq,hr])
theorem Dj{fr:Frame}{cs:List Frame}{w:World}{f:FuncId}{cap as as':Array Value}{ds:List Deferred}(hm:fr.mode=.returning)(hd:fr.defers = { target:=.fn (.func f) cap,args:=as }::ds)
  (hr:(invoke (.fn (.func f) cap) as).run Q w=.ok (.enter f as') w):step Q (lone fr cs w)=.next (lone (Frame.enter Q f as' .deferred) ({ fr with defers:=ds }::cs) w):=
 step_lone_go (by simp [stepG,unwind,hm,hd,callDeferred,Sem.runT_eq,hr])
theorem sJ{fr c:Frame}{cs:List Frame}{w:World}{v:Value}{f:FuncId}(h:Leaves Q f .deferred fr v w)(hc:c.mode=.returning) :
  step Q (lone fr (c::cs) w)=.next (lone c cs w):=by
 obtain⟨hm,hd,hk,hf,fn,h1,h2⟩:=h
 rw [←hf]at h1
 exact step_lone_go (by simp [stepG,unwind,doReturn,hm,hd,hk,h1,Sem.runT_eq,h2,hc])
theorem Returning.pop{g:FuncId}{kind:CallKind}{tmps:Array Value}{d:Deferred}{ds:List Deferred}{fr:Frame}(h:Returning g kind tmps (d::ds) fr):Returning g kind tmps ds { fr with defers:=ds }:=
 ⟨h.1,rfl,h.2.2.1,h.2.2.2.1,h.2.2.2.2⟩
theorem Hr(hC:iQ Q σ call){g:FuncId}{kind:CallKind}{tmps:Array Value}{cs:List Frame}:∀(ds:List fF) (X:Wd) (ms:List Deferred) (fr:Frame) (H':Heap),
  fQ call ds X.H=some H'→SR Q σ X→X.B≤X.w.heap.size→jA σ X ds ms→Returning g kind tmps ms fr →
  ∃ fr' X',Steps Q (lone fr cs X.w) (lone fr' cs X'.w)∧Returning g kind tmps [] fr'∧X'.H=H'∧SR Q σ X'∧X'.B≤X'.w.heap.size∧Ext X.H.length X X'
 | [],X,ms,fr,H',h,hS,hB,hD,hR=>by
  have:ms=[]:=az hD.len.symm
  subst this
  simp only [fQ,ab]at h
  exact⟨fr,X,Steps.refl _ _,hR,h,hS,hB,Ext.refl _ _⟩
 | d::ds,X,[],fr,H',h,hS,hB,hD,hR=>by have:=hD.len;simp at this
 | .coll b::ds,X,m::ms,fr,H',h,hS,hB,hD,hR=>by
  obtain⟨⟨L,o,h1,h2,rfl⟩,hD'⟩:=A2.of_cons hD
  simp only [fQ]at h
  split at h
  ·rename_i hb
   obtain⟨_,_,blk,hb',hbr⟩:=hS.br b L h1
   rw [hb]at hb';cases hb'
   have qC:X.w.heap[L.c]?=some (.deferred (some [])):=hbr
   obtain⟨g1,g2⟩:=SR.vU (o':=.deferred none) (blk':=.dfr false) hS hb h1 qC (by simp) (by simp)
    (fun blk hblk=>⟨.dfr false,by simp [(al.1 hb).1],by rw [hb]at hblk;cases hblk;exact fun L h=>h⟩)
    (fun X' hx' hw1 _ pR hH=>hw1)
   obtain⟨fr',X',k1,k2,k3,k4,k5,k6⟩:=Hr hC ds _ ms { fr with defers:=ms } H' h g1 (by simpa using hB) (jA.ext' g2 hD') hR.pop
   exact⟨fr',X',.head (step_collected hR.1 hR.2.1 (run_takeDeferred qC)) k1,k2,k3,k4,k5,g2.trans (k6.mono g2.len)⟩
  ·simp at h
 | .fn f args::ds,X,m::ms,fr,H',h,hS,hB,hD,hR=>by
  obtain⟨⟨us,cap,rfl,hA⟩,hD'⟩:=A2.of_cons hD
  simp only [fQ]at h
  split at h
  ·rename_i r H1 hcall
   have hen:=hC.enters f args _ _ hcall
   obtain⟨fr1,X1,u,q1,q2,q3,q4,q5,q6,q7⟩:=hC.fn f args _ r H1 hcall X _ .deferred ({ fr with defers:=ms }::cs) rfl hS hB hA (.inr ⟨rfl,_,_,rfl,hR.1⟩)
   rw [←q3]at h
   obtain⟨fr',X',k1,k2,k3,k4,k5,k6⟩:=Hr hC ds X1 ms { fr with defers:=ms } H' h q4 q7 (jA.ext' q6 hD') hR.pop
   refine⟨fr',X',.head (Dj (as':=us++cap) hR.1 hR.2.1 (iE hen)) (Steps.trans ?_ (.head (sJ (c:={ fr with defers:=ms }) q2 hR.1) k1)),k2,k3,k4,k5,q6.trans (k6.mono q6.len)⟩
   have e:(us.toList++cap.toList).toArray=us++cap:=by apply Array.ext';simp
   rw [e]at q1
   exact q1
  ·simp at h
theorem aEO(hS:SR Q σ X){n:Nat}{regs:T}{tmps:Array Value}(hR:RR σ X regs tmps){r:ResultVar}{a:l9}(hm:GL Q n r a=true){v:V}
  (h:dF regs X.H a=some v):∃ u,(match r with | .tmp t=>pure (tmps.getD t undef) | .cell a t=>do loadVar t (←asAddr (tmps.getD a undef)):Sem Value).run Q X.w=.ok u X.w∧VR1 σ X v u:=by
 cases r with
 | tmp t=>
  cases a with
  | tmp p=>
   simp only [GL,am,beq_iff_eq,decide_eq_true_eq]at hm
   have hv:=hR p
   rw [hm.1]at hv
   simp only [dF]at h
   refine⟨_,rfl,?_⟩
   split at h
   ·simp at h
   ·rename_i hne
    simp only [ab]at h
    rw [h]at hv
    cases v with
    | t vs=>exact absurd h (hne vs)
    | top=>trivial
    | c x=>exact hv
    | a xs=>exact hv
  | cell p k=>simp [GL]at hm
 | cell t ty=>
  cases a with
  | tmp p=>simp [GL]at hm
  | cell p k=>
   simp only [GL,am,beq_iff_eq,decide_eq_true_eq]at hm
   have hv:=hR p
   rw [hm.1.1]at hv
   simp only [dF]at h
   cases hx:regs.get p with
   | c x=>
    rw [hx]at h hv
    simp only [ldV,bB]at h
    obtain⟨cs,h1,h2⟩:=h
    obtain⟨c,o,us,he,h3,h4⟩:=Ce hS hv h1
    obtain⟨u,h5,h6⟩:=I4 hm.2 h3 h4 h2
    refine⟨u,by simp [he,asAddr,h5],?_⟩
    cases k with
    | none=>cases cs with
     | nil=>simp [aS]at h2
     | cons y ys=>simp only [aS,ab]at h2;subst h2;exact h6
    | some k=>
     simp only [aS]at h2
     split at h2
     ·simp only [ab]at h2;subst h2;exact h6
     ·simp at h2
   | _=>rw [hx]at h;simp [ldV]at h
theorem L8(hS:SR Q σ X){fn:Func}{rs:List l9}(hm:all2 (GL Q fn.ntmps) fn.results.toList rs=true){regs:T}{tmps:Array Value}(hR:RR σ X regs tmps){v:V}
  (h:Km.results regs X.H rs=some v):∃ u,(Go.results fn tmps).run Q X.w=.ok u X.w∧VR σ X v u:=by
 have key:∀(rs:List l9) (qs:List ResultVar) (vs:List V),all2 (GL Q fn.ntmps) qs rs=true→bC (dF regs X.H) rs=some vs →
   ∃ us:List Value,(qs.mapM (fun r=>match r with | .tmp t=>pure (tmps.getD t undef) | .cell a t=>do loadVar t (←asAddr (tmps.getD a undef)):ResultVar→Sem Value)).run Q X.w=.ok us X.w∧A2 (VR1 σ X) vs us:=by
  intro rs
  induction rs with
  | nil=>
   intro qs vs h1 h2
   cases qs with
   | nil=>simp only [bC,ab]at h2;subst h2;exact⟨[],rfl,A2.nil⟩
   | cons q qs=>simp [all2]at h1
  | cons a rs ih=>
   intro qs vs h1 h2
   cases qs with
   | nil=>simp [all2]at h1
   | cons q qs=>
    simp only [all2,am]at h1
    simp only [bC]at h2
    split at h2
    ·simp at h2
    ·rename_i v1 e1
     split at h2
     ·simp at h2
     ·rename_i vs1 e2
      simp only [ab]at h2;subst h2
      obtain⟨u,g1,g2⟩:=aEO hS hR h1.1 e1
      obtain⟨us,g3,g4⟩:=ih qs vs1 h1.2 e2
      refine⟨u::us,?_,A2.cons g2 g4⟩
      rw [List.mapM_cons,Sem.run_bind,g1]
      simp only [Result.andThen_ok,Sem.run_bind,g3,Sem.run_pure]
 unfold Km.results at h
 have fin:∀ vs,bC (dF regs X.H) rs=some vs→∃ us:List Value,(Go.results fn tmps).run Q X.w=.ok (if h:us.toArray.size=1 then us.toArray[0]else .tuple us.toArray) X.w∧A2 (VR1 σ X) vs us:=by
  intro vs hvs
  obtain⟨us,g1,g2⟩:=key rs fn.results.toList vs hm hvs
  refine⟨us,?_,g2⟩
  unfold Go.results
  rw [Array.mapM_eq_mapM_toList,Sem.run_bind,Sem.run_map]
  exact(congrArg (fun r:Result (List Value)=>(r.andThen fun a w'=>Result.ok a.toArray w').andThen fun a w'=>Sem.run Q (pure (if h:a.size=1 then a[0]else Value.tuple a)) w') g1).trans rfl
 split at h
 ·rename_i v1 hvs
  simp only [ab]at h;subst h
  obtain⟨us,g1,g2⟩:=fin _ hvs
  match us,g2 with
  | [u],g2=>exact⟨u,g1,VR.of1 σ g2.of_cons.1⟩
  | [],g2=>have:=g2.len;simp at this
  | _::_::_,g2=>have:=g2.len;simp at this
 ·rename_i vs hne hvs
  simp only [ab]at h;subst h
  obtain⟨us,g1,g2⟩:=fin _ hvs
  refine⟨.tuple us.toArray,?_,us,rfl,g2⟩
  rw [g1,dif_neg]
  intro hsz
  match us,hsz with
  | [u],_=>
   match vs,g2 with
   | [v1],_=>exact hne v1 rfl
   | [],g2=>have:=g2.len;simp at this
   | _::_::_,g2=>have:=g2.len;simp at this
  | [],hsz=>simp at hsz
  | _::_::_,hsz=>simp at hsz
 ·simp at h
end Km
end
section
namespace Km
open Go
variable{Q:Program}{σ:Nat→FuncId}{tab:Nat→Option AFunc}{prim:Nat→List V→Heap→Option (Option (V × Heap))}
theorem aOk(hE:Env Q σ tab prim){m:Nat}{call:dL}(hC:iQ Q σ call){f:Nat}{af:AFunc}(htab:tab f=some af){args:List V}(hlen:args.length=af.ps.length){jump:Option ah}{s':St}{X:Wd}
  (hrun:run call f m none [.code af.body] ⟨dJ af.ps args .e,[],X.H⟩=some (jump,s')) {H':Heap} (wU:fQ call s'.defs s'.heap=some H') {r:V} (hres:Km.results s'.regs H' af.results=some r)
  {us:List Value} {kind:CallKind} {cs:List Frame} (hS:SR Q σ X) (hB:X.B≤X.w.heap.size) (hA:A2 (VR σ X) args us) (hk:vw kind cs) :
  ∃ fr X' u,Steps Q (lone (Frame.enter Q (σ f) us.toArray kind) cs X.w) (lone fr cs X'.w)∧Leaves Q (σ f) kind fr u X'.w∧Post Q σ X r H' X' u:=by
 obtain⟨fn,hf,hm⟩:=hE.fn f af htab
 obtain⟨c,hname,hbody,hcode,hrs,hps⟩:=zo hm
 let b:Frame:=Frame.enter Q (σ f) us.toArray kind
 let a0:Act:={ tmps:=us.toArray++Array.replicate (fn.ntmps-us.toArray.size) undef,defers:=[] }
 have hb:b=b.atR a0 [.code c]:=by
  simp [b,a0,Frame.enter,Frame.atR,hf,hbody]
 have hsz:fn.ntmps≤a0.tmps.size:=by simp [a0];omega
 have hRR:RR σ X (dJ af.ps args .e) a0.tmps:=by
  intro p
  rw [AO af.ps args .e 0 (by rw [hps,List.range_eq_range']) hlen p]
  simp only [Nat.zero_le,if_true,Nat.sub_zero]
  by_cases hp:p.toNat<args.length
  ·have hx:=ae hp
   have hp':p.toNat<us.length:=hA.len▸hp
   have hy:=ae hp'
   have hv:=hA.2 _ _ _ hx hy
   rw [hx]
   have:a0.tmps.getD p.toNat undef=us[p.toNat]:=by
    simp [a0,Array.getD_eq_getD_getElem?,Array.getElem?_append,hp']
   rw [this];exact hv
  ·rw [dt (by omega)]
   cases p<;>trivial
 have hF:Fr Q σ fn.ntmps X ⟨dJ af.ps args .e,[],X.H⟩ a0:=⟨rfl,hS,hB,hRR,A2.nil,hsz⟩
 have hW:Way Q σ f fn.ntmps b cs none [.code af.body] [.code c] ⟨dJ af.ps args .e,[],X.H⟩ X a0:=⟨hF,A2.cons (.code hcode) A2.nil,trivial,hk,rfl⟩
 obtain⟨X1,a1,items',s1,F1,E1,_,J1⟩:=aiT hC hE.mix f m fn.ntmps b cs none _ _ _ X a0 jump s' hrun hW
 have hret:∃ fr1,Steps Q (lone (b.atR a1 items') cs X1.w) (lone fr1 cs X1.w)∧Returning (σ f) kind a1.tmps a1.defers fr1:=by
  rcases aiU f m _ _ _ _ hrun with rfl | rfl
  ·have:items'=[]:=J1
   subst this
   exact⟨_,.one (stepR_end rfl),rfl,rfl,rfl,rfl,rfl⟩
  ·obtain⟨k,rfl⟩:=J1
   exact⟨_,.one (stepR_ret rfl),rfl,rfl,rfl,rfl,rfl⟩
 obtain⟨fr1,s2,R1⟩:=hret
 rw [←F1.heap]at wU
 obtain⟨fr2,X2,s3,R2,h1,h2,h3,h4⟩:=Hr hC (cs:=cs) s'.defs X1 a1.defers fr1 H' wU F1.sr F1.b F1.defs R1
 rw [←h1]at hres
 obtain⟨u,g1,g2⟩:=L8 h2 hrs (RR.ext' σ h4 F1.regs) hres
 refine⟨fr2,X2,u,?_,⟨R2.1,R2.2.1,R2.2.2.1,R2.2.2.2.1,fn,hf,by rw [R2.2.2.2.2];exact g1⟩,h1,h2,g2,E1.trans (h4.mono E1.len),h3⟩
 show Steps Q (lone b cs X.w) _
 rw [hb]
 exact s1.trans (s2.trans s3)
theorem ain(hE:Env Q σ tab prim){m:Nat}{call:dL}(hC:iQ Q σ call){b:Nat}{f:Nat}{tmps:T}{ps:List P}{as bd:ah}{q:jZ}{pd:Option ah}{d:Nat}{X:Wd}(hlp:X.H[b]?=some (.lp f tmps ps as bd q pd d))
  {args:List V} (hlen:args.length=ps.length) {jump:Option ah} {s':St} (hrun:run call f m (some b) [.code as,.rE,.code bd] ⟨dJ ps args tmps,[],X.H⟩=some (jump,s')) (wU:s'.defs.isEmpty=true)
  {f':Nat} {uo:T} {ps':List P} {as' bd':ah} {q':jZ} {pd':Option ah} {d':Nat} (akp:s'.heap[b]?=some (.lp f' uo ps' as' bd' q' pd' d'))
  {us:List Value} {c:Frame} {cs:List Frame} {L:Loc} (hS:SR Q σ X) (hB:X.B≤X.w.heap.size) (hA:A2 (VR σ X) args us) (hL:X.rho b=some L) :
  ∃ f tmps as bd X' u,(Instr.yield L.c us.toArray).run Q X.w=.ok (.round L.c f tmps as bd) X.w ∧
   Steps Q (lone (Frame.round L.c f tmps as bd .normal) (c::cs) X.w) (lone (c.finish u) cs X'.w)∧Post Q σ X (.bool jump.isNone) (s'.heap.set b (.lp f' uo ps' as' bd' (if jump.isNone then .ready else .done) jump d')) X' u:=by
 obtain⟨n,ts,qs,as0,bd0,aUi,Ld,qC,h2,h3,h4,h5,h6,h7,h8,h9⟩:=wK hS hL hlp
 have hq:=(iI h4).len
 have hsz:us.toArray.size=qs.size:=by
  have:=hA.len
  simp only [Array.length_toList]at hq
  simp;omega
 have hy:=run_yield (P:=Q) (args:=us.toArray) qC hsz
 let T0:Array Value:=(qs.zip us.toArray).foldl (fun tmps (t,a)=>tmps.setIfInBounds t a) ts
 have hT0:T0=(qs.toList.zip us).foldl (fun tmps (t,a)=>tmps.setIfInBounds t a) ts:=by
  simp only [T0]
  rw [←Array.foldl_toList]
  simp
 let a0:Act:={ tmps:=T0,defers:=[] }
 let B:Frame:=Frame.round L.c (σ f) T0 as0 bd0 .normal
 have hB0:B=B.atR a0 [.code as0,.beginRound,.code bd0]:=by simp [B,a0,Frame.round,Frame.atR]
 have hRR:RR σ X (dJ ps args tmps) T0:=by
  rw [hT0];exact RR.dJ ps qs.toList args us tmps ts n h2 h3 hA hlen h4
 have hn:n≤T0.size:=by rw [hT0,zk];exact h2
 have hF:Fr Q σ n X ⟨dJ ps args tmps,[],X.H⟩ a0:=⟨rfl,hS,hB,hRR,A2.nil,hn⟩
 have aN3:Nz X b:=⟨_,_,_,_,_,_,_,_,hlp⟩
 have hW:Way Q σ f n B (c::cs) (some b) [.code as,.rE,.code bd] [.code as0,.beginRound,.code bd0] ⟨dJ ps args tmps,[],X.H⟩ X a0:=
  ⟨hF,A2.cons (.code h5) (A2.cons .rE (A2.cons (.code h6) A2.nil)),⟨L,hL,rfl,aN3⟩,.inl rfl,rfl⟩
 obtain⟨X1,a1,items',s1,F1,E1,_,J1⟩:=aiT hC hE.mix f m n B (c::cs) (some b) _ _ _ X a0 jump s' hrun hW
 have hL1:=(aN3.ext E1).2 _ hL
 rw [←F1.heap]at akp
 obtain⟨n1,ts1,qs1,as1,bd1,A8,Ld1,akn,k2,k3,k4,k5,k6,k7,k8,k9⟩:=wK F1.sr hL1 akp
 have fin:∀(wP:Option Code),Eh Q σ n1 jump wP→wP.isNone=jump.isNone→step Q (lone (B.atR a1 items') (c::cs) X1.w)=.next (lone (c.finish (.bool wP.isNone)) cs (X1.w.putObj L.c (.loop { state:=if wP.isNone then .ready else .done,pending:=wP,fn:=σ f',tmps:=ts1,params:=qs1,assign:=as1,body:=bd1,defers:=Ld1.c }))) →
   ∃ f tmps as bd X' u,(Instr.yield L.c us.toArray).run Q X.w=.ok (.round L.c f tmps as bd) X.w ∧
   Steps Q (lone (Frame.round L.c f tmps as bd .normal) (c::cs) X.w) (lone (c.finish u) cs X'.w)∧Post Q σ X (.bool jump.isNone) (s'.heap.set b (.lp f' uo ps' as' bd' (if jump.isNone then .ready else .done) jump d')) X' u:=by
  intro wP hj hn hst
  obtain⟨g1,g2⟩:=FW F1.sr hL1 akp (q':=if jump.isNone then .ready else .done) (A8:=jump) (jI:=wP) k2 k3 k4 k5 k6 hj k8 k9
  have hq:(if jump.isNone then jZ.ready else jZ.done).of=(if wP.isNone then LoopState.ready else LoopState.done):=by
   rw [hn];cases jump<;>rfl
  rw [hq]at g1 g2
  refine⟨σ f,T0,as0,bd0,_,.bool wP.isNone,hy,?_,?_,g1,?_,E1.trans (g2.mono E1.len),?_⟩
  ·show Steps Q (lone B (c::cs) X.w) _
   rw [hB0]
   exact s1.trans (.one hst)
  ·rw [←F1.heap]
  ·rw [hn];exact VR.Bv _
  ·have:=F1.b
   simpa [World.putObj]using this
 cases jump with
 | none=>
  have:items'=[]:=J1
  subst this
  exact fin none trivial rfl (stepR_round_end rfl rfl (run_endRound (P:=Q) none akn))
 | some j=>
  cases j with
  | ret=>
   obtain⟨k,rfl⟩:=J1
   exact fin (some .ret) (by simp [Eh,bV]) rfl (stepR_round_ret rfl rfl (run_endRound (P:=Q) (some .ret) akn))
  | exit id=>
   obtain⟨k,rfl,hx⟩:=J1
   exact fin (some (.exit id)) (by simp [Eh,bV]) rfl (stepR_round_exit rfl rfl hx (run_endRound (P:=Q) (some (.exit id)) akn))
  | _=>exact J1.elim
theorem akM(hE:Env Q σ tab prim)(m:Nat):∀ d,iQ Q σ (gW tab prim m d):=by
 intro d
 induction d with
 | zero=>exact⟨fun f args H r h=>by simp [gW]at h,fun f args H r H' h=>by simp [gW]at h,fun b args H r H' h=>by simp [gW]at h⟩
 | succ d hC=>
  refine⟨fun f args H r h=>?_,fun f args H r H' h X us kind cs hX hS hB hA hk=>?_,fun b args H r H' h X us c cs L hX hS hB hA hL=>?_⟩
  ·simp only [gW]at h
   split at h
   ·rename_i r' hp
    obtain⟨r0,H0⟩:=r
    exact(hE.prim f args H r0 H0 (by rw [hp,h])).1
   ·split at h
    ·simp at h
    ·rename_i af htab
     obtain⟨fn,hf,hm⟩:=hE.fn f af htab
     obtain⟨c,hname,hbody,_⟩:=zo hm
     exact Gg hf hname hbody
  ·simp only [gW]at h
   split at h
   ·rename_i r' hp
    exact(hE.prim f args H r H' (by rw [hp,h])).2 X us kind cs hX hS hB hA hk
   ·split at h
    ·simp at h
    ·rename_i af htab
     split at h
     ·rename_i hlen
      split at h
      ·rename_i jump s' hrun
       split at h
       ·rename_i H1 wU
        simp only [an,aq]at h
        obtain⟨r1,hres,rfl,rfl⟩:=h
        subst hX
        exact aOk hE hC htab hlen hrun wU hres hS hB hA hk
       ·simp at h
      ·simp at h
     ·simp at h
  ·simp only [gW]at h
   split at h
   ·rename_i f tmps ps as bd q pd d' hlp
    split at h
    ·rename_i hlen
     split at h
     ·rename_i jump s' hrun
      split at h
      ·rename_i hd
       split at h
       ·rename_i f' uo ps' as' bd' q' pd' d'' akp
        simp only [ab,aq]at h
        obtain⟨rfl,rfl⟩:=h
        subst hX
        exact ain hE hC hlp hlen hrun hd akp hS hB hA hL
       ·simp at h
      ·simp at h
     ·simp at h
    ·simp at h
   ·simp at h
end Km
end
section
namespace Km
open Go
inductive Eff where
 | no
 | set (b:Nat) (x:Blk)
 | push (x:Blk)
def Eff.app(H:Heap):Eff→Heap
 | .no=>H
 | .set b x=>H.set b x
 | .push x=>H++[x]
def Ci(g:Nat→Option Blk):C→Option (List C)
 | .ptr b off ep=>match g b with
  | some (.box cs _)=>some (cs.drop off)
  | some (.opn _ cs _ e .loc)=>if ep=e then some (cs.drop off)else none
  | _=>none
 | .f (.fp cs off)=>some ((cs.drop off).map .f)
 | _=>none
def aIi(g:Nat→Option Blk)(n:Option Nat):V→Option V
 | .c x=>(Ci g x).bind (aS n)
 | _=>none
def xY(g:Nat→Option Blk):C→Option Nat
 | .sl b _ l _ ep sz=>match g b with
  | some (.box _ _)=>some l
  | some (.opn s _ _ e _)=>if ep=e∧sz=s then some l else none
  | _=>none
 | .f .aA=>some 0
 | .f .es=>some 0
 | .f (.fs _ l)=>some l
 | _=>none
def vY(g:Nat→Option Blk)(sz:Nat):C→Option (List C)
 | .sl b o l _ ep s=>match g b with
  | some (.box cs _)=>if o+l*sz≤cs.length then some ((cs.drop o).take (l*sz))else none
  | some (.opn s' cs _ e _)=>if ep=e∧s=s'∧o+l*sz≤cs.length then some ((cs.drop o).take (l*sz))else none
  | _=>none
 | .f .aA=>some []
 | .f .es=>some []
 | .f (.fs cs l)=>if cs.length=l*sz then some (cs.map .f)else none
 | _=>none
def yu(g:Nat→Option Blk):EqK→C→Option Bool
 | .ptr,.f .kV=>some true
 | .ptr,.f (.fp _ _)=>some false
 | .ptr,.ptr _ _ _=>some false
 | .sl,.f .aA=>some true
 | .sl,.f .es=>some false
 | .sl,.f (.fs _ _)=>some false
 | .sl,.sl b _ _ _ ep sz=>match g b with
  | some (.box _ _)=>some false
  | some (.opn s _ _ e st)=>if ep=e∧sz=s then some (st == .nil)else none
  | _=>none
 | .fn,.f .jr=>some true
 | .fn,.f (.fn _ _)=>some false
 | .fn,.cl _ _=>some false
 | .fn,.bm _ _=>some false
 | .ifc,.f .qL=>some true
 | _,_=>none
def aI1(g:Nat→Option Blk):EqK→V→V→Option Bool
 | .bool,.c x,.c y=>eqP .bool x y
 | .st ks,.a xs,.a ys=>eqL ks xs ys
 | .ptr,.c x,.c (.f .kV)=>yu g .ptr x
 | .sl,.c x,.c (.f .aA)=>yu g .sl x
 | .fn,.c x,.c (.f .jr)=>yu g .fn x
 | .ifc,.c x,.c (.f .qL)=>yu g .ifc x
 | _,_,_=>none
def zN(g:Nat→Option Blk)(sz:Nat)(x:V)(lo hi mx:Option V):Option V:=
 match x with
 | .c (.f .aA)=>match dh 0 0 lo hi mx with
  | some _=>some (.c (.f .aA))
  | none=>none
 | .c (.f .es)=>match dh 0 0 lo hi mx with
  | some _=>some (.c (.f .es))
  | none=>none
 | .c (.f (.fs cs n))=>match dh n n lo hi mx with
  | some (l,h,m)=>
   if mx.isSome∧m=l then some (.c (.f .es))else
   some (.c (.f (.fs ((cs.drop (l*sz)).take ((h-l)*sz)) (h-l))))
  | none=>none
 | .c (.sl b o n cap ep s)=>match g b with
  | some (.box _ _)=>match dh n cap lo hi mx with
   | some (l,h,m)=>if m=l then some (.c (.f .es))else some (.c (.sl b (o+l*sz) (h-l) (m-l) ep s))
   | none=>none
  | some (.opn s' _ _ e st)=>
   if ep=e∧s=sz∧s'=sz then
    match st with
    | .loc=>match dh n n lo hi mx with
     | some (l,h,m)=>
      if mx.isSome∧m=l then some (.c (.f .es))
      else if l=h∧0<l then some (.c (.f (.fs [] 0)))
      else if mx.isSome then none
      else some (.c (.sl b (o+l*sz) (h-l) 0 ep s))
     | none=>none
    | .nil=>match dh 0 0 lo hi mx with
     | some _=>some (.c (.f .aA))
     | none=>none
    | .es=>match dh 0 0 lo hi mx with
     | some _=>some (.c (.f .es))
     | none=>none
   else none
  | _=>none
 | _=>none
def F9(g:Nat→Option Blk)(n sz:Nat)(x:V)(lo hi mx:Option V):Option V:=
 match x with
 | .c (.ptr b off _)=>match g b with
  | some (.box cs _)=>match dh n n lo hi mx with
   | some (l,h,m)=>if off+n*sz≤cs.length then(if m=l then some (.c (.f .es))else some (.c (.sl b (off+l*sz) (h-l) (m-l) 0 sz)))else none
   | none=>none
  | _=>none
 | .c (.f (.fp cs off))=>match dh n n lo hi mx with
   | some (l,h,m)=>if off+n*sz≤cs.length then(if m=l then some (.c (.f .es))else some (.c (.f (.fs ((cs.drop (off+l*sz)).take ((h-l)*sz)) (h-l)))))else none
   | none=>none
 | _=>none
def BI(g:Nat→Option Blk)(sz:Nat)(arr:Option Nat)(x i:V):Option V:=
 match iO i with
 | none=>none
 | some i=>
  if 0≤i then
   match arr,x with
   | none,.c (.sl b o l _ ep s)=>if i<l then
     (match g b with
      | some (.box _ _)=>some (.c (.ptr b (o+i.toNat*sz) ep))
      | some (.opn s' _ _ e .loc)=>if ep=e∧s=s' then some (.c (.ptr b (o+i.toNat*sz) ep))else none
      | _=>none)else none
   | none,.c (.f (.fs cs l))=>if i<l then some (.c (.f (.fp cs (i.toNat*sz))))else none
   | some n,.c (.ptr b o ep)=>if i<n then some (.c (.ptr b (o+i.toNat*sz) ep))else none
   | some n,.c (.f (.fp cs o))=>if i<n then some (.c (.f (.fp cs (o+i.toNat*sz))))else none
   | _,_=>none
  else none
def BF(g:Nat→Option Blk)(ck:CK)(z:FC):V→V→Option V
 | .c (.f .wF),.c (.f k)=>if isKey ck k then some (lkR z none)else none
 | .c (.mp b),.c (.f k)=>match g b with
  | some (.map es)=>if isKey ck k then(yc ck k es).map (lkR z)else none
  | _=>none
 | _,_=>none
def NY(g:Nat→Option Blk):V→Option V
 | .c x=>match xY g x with
  | some _=>match vY g 1 x with
   | some cs=>(bC (fun c=>match c with | C.f (.int .u8 n)=>some (UInt8.ofNat n.toNat) | _=>none) cs).map fun l=>.c (.f (.str ⟨l.toArray⟩))
   | none=>none
  | none=>none
 | _=>none
def xE(g:Nat→Option Blk)(sz:Nat):V→Option (Nat × List C)
 | .c (.f (.str s))=>if sz=1 then some (s.size,s.toList.map fun b=>.f (.int .u8 b.toNat))else none
 | .c x=>match xY g x,vY g sz x with
  | some l,some cs=>some (l,cs)
  | _,_=>none
 | _=>none
def LZ(g:Nat→Option Blk):C→Option Nat
 | .sl b _ _ c ep sz=>match g b with
  | some (.box _ _)=>some c
  | some (.opn s _ _ e .nil)=>if ep=e∧sz=s then some 0 else none
  | some (.opn s _ _ e .es)=>if ep=e∧sz=s then some 0 else none
  | _=>none
 | .f .aA=>some 0
 | .f .es=>some 0
 | _=>none
def Hq(g:Nat→Option Blk):V→Option V
 | .c (.mi b)=>match g b with
  | some (.mit m _ true)=>match g m with
   | some (.map [e])=>some (.t [.c (.f e.1),mV e.2])
   | _=>none
  | _=>none
 | _=>none
def aiH(g:Nat→Option Blk)(x:C)(xs:List C):Option Eff:=
 match x with
 | .ptr b off ep=>match g b with
  | some (.box cs fl)=>if fl≤off∧off+xs.length≤cs.length then some (.set b (.box (over cs off xs) fl))else none
  | some (.opn sz cs fl e .loc)=>if ep=e∧fl≤off∧off+xs.length≤cs.length then some (.set b (.opn sz (over cs off xs) fl e .loc))else none
  | _=>none
 | _=>none
def MW(g:Nat→Option Blk):V→Option (V × Eff)
 | .c (.it b)=>match g b with
  | some (.it s pos)=>
   if pos<s.size then
    let r:=Utf8.decode s pos
    some (.t [.bool true,.int .i64 pos,.int .i32 r.1],.set b (.it s (pos+r.2)))
   else some (.t [.bool false],.no)
  | _=>none
 | _=>none
def CG(g:Nat→Option Blk)(n0:Nat)(sz bytes:Nat)(x y:V):Option (V × Eff):=
 match xE g sz y with
 | none=>none
 | some (m,ys)=>
  if sz=0 then none else
  match x with
  | .c (.f .aA)=>if m=0 then some (.c (.f .aA),.no)else
    if bY m bytes then some (.c (.sl n0 0 m 0 0 sz),.push (.opn sz ys 0 0 .loc))else none
  | .c (.f .es)=>if m=0 then some (.c (.f .es),.no)else
    if bY m bytes then some (.c (.sl n0 0 m 0 0 sz),.push (.opn sz ys 0 0 .loc))else none
  | .c (.sl b o l cap ep s)=>match g b with
   | some (.box cs fl)=>
    if l+m≤cap then
     if fl≤o+l*sz∧o+l*sz+ys.length≤cs.length then some (.c (.sl b o (l+m) cap ep s),.set b (.box (over cs (o+l*sz) ys) fl))else none
    else if bY (l+m) bytes∧o+l*sz≤cs.length then some (.c (.sl n0 0 (l+m) 0 0 sz),.push (.opn sz ((cs.drop o).take (l*sz)++ys) 0 0 .loc))else none
   | some (.opn s' cs fl e st)=>
    if ep=e∧s'=sz∧s=sz then
     if m=0 then some (x,.no)
     else if o=0∧l*sz=cs.length∧fl≤cs.length then
      if bY (l+m) bytes then some (.c (.sl b 0 (l+m) 0 (ep+1) sz),.set b (.opn sz (cs++ys) fl (e+1) .loc))else none
     else if st=.loc∧fl≤o+l*sz∧o+l*sz+ys.length≤cs.length then
      some (.c (.sl b o (l+m) 0 ep sz),.set b (.opn sz (over cs (o+l*sz) ys) fl e .loc))
     else none
    else none
   | _=>none
  | _=>none
def NZ(g:Nat→Option Blk)(sz:Nat)(x y:V):Option (V × Eff):=
 match xE g sz y,x with
 | some _,.c (.f .aA)=>some (.int .i64 0,.no)
 | some _,.c (.f .es)=>some (.int .i64 0,.no)
 | some (m,ys),.c (.sl b o l _ ep s')=>
  let n:=Nat.min m l
  match g b with
  | some (.box cs fl)=>if fl≤o∧o+n*sz≤cs.length then some (.int .i64 n,.set b (.box (over cs o (ys.take (n*sz))) fl))else none
  | some (.opn s cs fl e .loc)=>if ep=e∧s'=s∧s=sz∧fl≤o∧o+n*sz≤cs.length then some (.int .i64 n,.set b (.opn s (over cs o (ys.take (n*sz))) fl e .loc))else none
  | _=>none
 | _,_=>none
def Hz(g:Nat→Option Blk)(sz:Nat)(zs:List FC)(x:V):Option Eff:=
 match x with
 | .c y=>match xY g y with
  | some 0=>some .no
  | some l=>
   if zs.length=sz then
    match y with
    | .sl b o _ _ ep s=>match g b with
     | some (.box _ _)=>aiH g (.ptr b o ep) ((dO l zs).map .f)
     | some (.opn s' _ _ e .loc)=>if ep=e∧s=s' then aiH g (.ptr b o ep) ((dO l zs).map .f)else none
     | _=>none
    | _=>none
   else none
  | none=>none
 | _=>none
def LV(g:Nat→Option Blk)(sz:Nat)(x hi mx:V):Option (V × Eff):=
 match zN g sz x none (some hi) (some mx)with
 | some v=>some (v,.no)
 | none=>match x with
  | .c (.sl b o n _ ep s)=>match g b with
   | some (.opn s' cs fl e .loc)=>
    if ep=e∧s=sz∧s'=sz∧o=0 then
     match bnd hi n,bnd mx n with
     | some i,some j=>
      if i=j∧0<i∧i*sz≤cs.length then
       match bC fcC (cs.take (i*sz))with
       | some ys=>some (.c (.f (.fs ys i)),.set b (.opn s' cs (Nat.max fl (i*sz)) e .loc))
       | none=>none
      else none
     | _,_=>none
    else none
   | _=>none
  | _=>none
def Oh(g:Nat→Option Blk)(n0:Nat)(sz bytes:Nat)(zs:List FC)(x n:V):Option (V × Eff):=
 match iO n with
 | some n=>
  if 0≤n∧zs.length=sz then
   match x with
   | .c (.f .aA)=>if n.toNat=0 then some (.c (.f .aA),.no)else
     if bY n.toNat bytes then some (.c (.sl n0 0 n.toNat 0 0 sz),.push (.opn sz ((dO n.toNat zs).map .f) 0 0 .loc))else none
   | .c (.f .es)=>if n.toNat=0 then some (.c (.f .es),.no)else
     if bY n.toNat bytes then some (.c (.sl n0 0 n.toNat 0 0 sz),.push (.opn sz ((dO n.toNat zs).map .f) 0 0 .loc))else none
   | _=>none
  else none
 | none=>none
def Gy(g:Nat→Option Blk):V→Option (V × Eff)
 | .c (.mi b)=>match g b with
  | some (.mit m since done)=>match g m with
   | some (.map [])=>if done then none else some (.t [.bool false],.no)
   | some (.map [e])=>if done then some (.t [.bool false],.no)else if since=1 then some (.t [.bool true,.c (.f e.1),mV e.2],.set b (.mit m 1 true))else none
   | _=>none
  | _=>none
 | _=>none
def AV(g:Nat→Option Blk)(n0:Nat):V→Option (V × Eff)
 | .c (.mp b)=>match g b with
  | some (.map es)=>if es.length≤1 then some (.c (.mi n0),.push (.mit b es.length false))else none
  | _=>none
 | _=>none
def air(regs:T)(g:Nat→Option Blk)(n0:Nat):AOp→Option (V × Eff)
 | .mov x=>some (x.ev regs,.no)
 | .pre o sz=>if o=.loc∨sz=0 then none else some (.c (.sl n0 0 0 0 0 sz),.push (.opn sz [] 0 0 o))
 | .pick c a b=>match c.ev regs with
  | .c (.f (.bool v))=>some ((if v then a else b).ev regs,.no)
  | _=>none
 | .alloc zs=>some (.c (.ptr n0 0 0),.push (.box (zs.map .f) 0))
 | .box x=>match (x.ev regs).cells? with
  | some xs=>some (.c (.ptr n0 0 0),.push (.box xs 0))
  | none=>none
 | .build zs ps=>(gK regs (zs.map .f) ps).map fun cs=>(.a cs,.no)
 | .aY sz zs n ps=>
  if n=0 then(if ps.isEmpty then some (.c (.f .es),.no)else none)else
  (gK regs ((dO n zs).map .f) (ps.map fun p=>(p.1*sz,sz,p.2))).map fun cs=>(.c (.sl n0 0 n n 0 sz),.push (.box cs 0))
 | .load n x=>(aIi g n (x.ev regs)).map (·,.no)
 | .store n x y=>match x.ev regs,(y.ev regs).cells? with
  | .c p,some xs=>if xs.length=n then(aiH g p xs).map (.top,·)else none
  | _,_=>none
 | .bF x=>match x.ev regs with
  | .c (.ptr b o e)=>some (.c (.ptr b o e),.no)
  | .c (.f (.fp cs o))=>some (.c (.f (.fp cs o)),.no)
  | _=>none
 | .bin op x y=>(bM op (x.ev regs) (y.ev regs)).map (·,.no)
 | .eq neg k x y=>(aI1 g k (x.ev regs) (y.ev regs)).map fun b=>(.bool (if neg then !b else b),.no)
 | .un op x=>(unV op (x.ev regs)).map (·,.no)
 | .cvi k x=>match x.ev regs with
  | .c (.f (.int _ n))=>some (.int k (k.wrap n),.no)
  | _=>none
 | .Hu x=>match x.ev regs with
  | .c (.f (.str s))=>some (.c (.f (.str s)),.no)
  | _=>none
 | .Hw x=>(NY g (x.ev regs)).map (·,.no)
 | .NW x=>match x.ev regs with
  | .c (.f (.str s))=>if s.size<2 ^ 48 then some (.c (.sl n0 0 s.size 0 0 1),.push (.opn 1 (s.toList.map fun b=>.f (.int .u8 b.toNat)) 0 0 .loc))else none
  | _=>none
 | .jG f caps=>(bC zL (eG regs caps)).map fun xs=>(.c (.cl f xs),.no)
 | .qp=>some (.c (.mp n0),.push (.map []))
 | .lookup ck z m k=>(BF g ck z (m.ev regs) (k.ev regs)).map (·,.no)
 | .qw ck m k v=>match m.ev regs,k.ev regs,Cj (v.ev regs)with
  | .c (.mp b),.c (.f k),some v=>match g b with
   | some (.map es)=>if isKey ck k then(Ea ck k v es).map fun es=>(.top,.set b (.map es))else none
   | _=>none
  | _,_,_=>none
 | .dX sz bytes zs l c=>match iO (l.ev regs),iO (c.ev regs)with
  | some l,some c=>
   if 0≤l∧l≤c∧bY c.toNat bytes=true∧zs.length=sz then
    (if c=0 then some (.c (.f .es),.no)else
    some (.c (.sl n0 0 l.toNat c.toNat 0 sz),.push (.box ((dO c.toNat zs).map .f) 0)))
   else none
  | _,_=>none
 | .slice sz x lo hi mx=>(zN g sz (x.ev regs) (lo.map (·.ev regs)) (hi.map (·.ev regs)) (mx.map (·.ev regs))).map (·,.no)
 | .uw n sz x lo hi mx=>(F9 g n sz (x.ev regs) (lo.map (·.ev regs)) (hi.map (·.ev regs)) (mx.map (·.ev regs))).map (·,.no)
 | .vW x lo hi=>(Aw (x.ev regs) (lo.map (·.ev regs)) (hi.map (·.ev regs))).map (·,.no)
 | .au off x=>(lW off (x.ev regs)).map (·,.no)
 | .field off n x=>(yF off n (x.ev regs)).map (·,.no)
 | .aC sz arr x i=>(BI g sz arr (x.ev regs) (i.ev regs)).map (·,.no)
 | .idxs x i=>(JX (x.ev regs) (i.ev regs)).map (·,.no)
 | .G5 len sz n x i=>(JY len sz n (x.ev regs) (i.ev regs)).map (·,.no)
 | .range x=>match x.ev regs with
  | .c (.f (.str s))=>some (.c (.it n0),.push (.it s 0))
  | _=>none
 | .next x=>MW g (x.ev regs)
 | .extract x i=>match x.ev regs with
  | .t vs=>(vs[i]?).map (·,.no)
  | _=>none
 | .BG n=>some (.int .i64 n,.no)
 | .lens x=>match x.ev regs with
  | .c (.f (.str s))=>some (.int .i64 (s.size:Nat),.no)
  | _=>none
 | .len x=>match x.ev regs with
  | .c y=>match xY g y with
   | some n=>some (.int .i64 (n:Nat),.no)
   | none=>none
  | _=>none
 | .append sz bytes x y=>CG g n0 sz bytes (x.ev regs) (y.ev regs)
 | .copy sz x y=>NZ g sz (x.ev regs) (y.ev regs)
 | .kJ lo xs=>(JK lo (eG regs xs)).map (·,.no)
 | .clear sz zs x=>(Hz g sz zs (x.ev regs)).map (.t [],·)
 | .vX sz x hi mx=>LV g sz (x.ev regs) (hi.ev regs) (mx.ev regs)
 | .xB sz bytes zs x n=>Oh g n0 sz bytes zs (x.ev regs) (n.ev regs)
 | .nT x=>AV g n0 (x.ev regs)
 | .uD x=>Gy g (x.ev regs)
 | .entry x=>(Hq g (x.ev regs)).map (·,.no)
 | .Dv f xs=>(bC zL (eG regs xs)).map fun xs=>(.c (.bm f xs),.no)
 | .cap x=>match x.ev regs with
  | .c y=>match LZ g y with
   | some n=>some (.int .i64 (n:Nat),.no)
   | none=>none
  | _=>none
 | _=>none
def gt(H:Heap):Nat→Option Blk:=fun b=>H[b]?
theorem KH(H:Heap):Ci (gt H)=aP H:=by funext x;unfold Ci aP gt;rfl
theorem azH(H:Heap):aIi (gt H)=ldV H:=by funext n x;unfold aIi ldV;rw [KH];rfl
theorem rU(H:Heap):xY (gt H)=bK H:=by funext x;unfold xY bK gt;rfl
theorem zh(H:Heap):vY (gt H)=dZ H:=by funext n x;unfold vY dZ gt;rfl
theorem U0(H:Heap):yu (gt H)=isNil H:=by funext k x;unfold yu isNil gt;rfl
theorem aAo(H:Heap):aI1 (gt H)=eqV H:=by funext k x y;unfold aI1 eqV;rw [U0];rfl
theorem Az(H:Heap):zN (gt H)=jF H:=by funext n x a b c;unfold zN jF gt;rfl
theorem LX(H:Heap):F9 (gt H)=nR H:=by funext m n x a b c;unfold F9 nR gt;rfl
theorem JW(H:Heap):BI (gt H)=aU H:=by funext n a x i;unfold BI aU gt;rfl
theorem JQ(H:Heap):BF (gt H)=lS H:=by funext k z x y;unfold BF lS gt;rfl
theorem Vj(H:Heap):NY (gt H)=uG H:=by funext x;unfold NY uG;rw [rU,zh];rfl
theorem vN(H:Heap):xE (gt H)=fZ H:=by funext n x;unfold xE fZ;rw [rU,zh];rfl
theorem TU(H:Heap):LZ (gt H)=qo H:=by funext x;unfold LZ qo gt;rfl
theorem NV(H:Heap):Hq (gt H)=pX H:=by funext x;unfold Hq pX gt;rfl
def ny(H:Heap)(r:Option (V × Eff)):Option (V × Heap):=r.map fun r=>(r.1,r.2.app H)
theorem F6(H:Heap)(x:C)(xs:List C):(aiH (gt H) x xs).map (·.app H)=stC H x xs:=by
 cases x with
 | ptr b off ep=>
  simp only [aiH,stC,gt]
  cases h:H[b]? with
  | none=>rfl
  | some blk=>
   cases blk with
   | box cs fl=>simp only;split<;>rfl
   | opn sz cs fl e st=>cases st<;>simp only<;>first | rfl | (split<;>rfl)
   | _=>rfl
 | _=>rfl
theorem UG(H:Heap)(x:V):ny H (MW (gt H) x)=RU H x:=by
 cases x with
 | c x=>
  cases x with
  | it b=>
   simp only [MW,RU,gt,ny]
   cases h:H[b]? with
   | none=>rfl
   | some blk=>
    cases blk with
    | it s pos=>simp only;split<;>rfl
    | _=>rfl
  | _=>rfl
 | _=>rfl
theorem Vk(H:Heap)(sz:Nat)(x y:V):ny H (NZ (gt H) sz x y)=copyV H sz x y:=by
 unfold NZ copyV ny
 rw [vN]
 cases ha:fZ H sz y with
 | none=>rfl
 | some r=>
  obtain⟨m,ys⟩:=r
  cases x with
  | c x=>
   cases x with
   | f x=>cases x<;>rfl
   | sl b o l cap ep s=>
    simp only [gt]
    cases h:H[b]? with
    | none=>rfl
    | some blk=>
     cases blk with
     | box cs fl=>simp only;split<;>rfl
     | opn sz cs fl e st=>cases st<;>simp only<;>first | rfl | (split<;>rfl)
     | _=>rfl
   | _=>rfl
  | _=>rfl
theorem KT(H:Heap)(sz bytes:Nat)(x y:V):ny H (CG (gt H) H.length sz bytes x y)=dn H sz bytes x y:=by
 unfold CG dn ny
 rw [vN]
 cases ha:fZ H sz y with
 | none=>rfl
 | some r=>
  obtain⟨m,ys⟩:=r
  simp only
  by_cases h0:sz=0
  ·simp [h0]
  ·simp only [h0,if_false]
   cases x with
   | c x=>
    cases x with
    | f x=>cases x<;>first | rfl | (simp only;repeat' (first | rfl | split))
    | sl b o l cap ep s=>
     simp only [gt]
     cases h:H[b]? with
     | none=>rfl
     | some blk=>
      cases blk with
      | box cs fl=>simp only;repeat' (first | rfl | split)
      | opn sz cs fl e st=>simp only;repeat' (first | rfl | split)
      | _=>rfl
    | _=>rfl
   | _=>rfl
theorem N8(H:Heap)(sz:Nat)(zs:List FC)(x:V):(Hz (gt H) sz zs x).map (·.app H)=Cb H sz zs x:=by
 unfold Hz Cb
 cases x with
 | c y=>
  simp only [rU]
  cases bK H y with
  | none=>rfl
  | some l=>
   cases l with
   | zero=>rfl
   | succ l=>
    simp only
    split
    ·cases y with
     | sl b o l' c ep s=>
      simp only [gt]
      cases h:H[b]? with
      | none=>rfl
      | some blk=>
       cases blk with
       | box cs fl=>exact F6 H _ _
       | opn s' cs fl e st=>
        cases st<;>simp only<;>first | rfl | skip
        split
        ·exact F6 H _ _
        ·rfl
       | _=>rfl
     | _=>rfl
    ·rfl
 | _=>rfl
theorem Vs(H:Heap)(sz bytes:Nat)(zs:List FC)(x n:V):ny H (Oh (gt H) H.length sz bytes zs x n)=Tj H sz bytes zs x n:=by
 unfold Oh Tj ny
 cases iO n with
 | none=>rfl
 | some n=>
  simp only
  split
  ·cases x with
   | c x=>
    cases x with
    | f x=>cases x<;>first | rfl | (simp only;repeat' (first | rfl | split))
    | _=>rfl
   | _=>rfl
  ·rfl
theorem TR(H:Heap)(sz:Nat)(x hi mx:V):ny H (LV (gt H) sz x hi mx)=AA H sz x hi mx:=by
 unfold LV AA ny
 rw [Az]
 cases jF H sz x none (some hi) (some mx)with
 | some v=>rfl
 | none=>
  simp only
  cases x with
  | c x=>
   cases x with
   | sl b o n c ep s=>
    simp only [gt]
    cases H[b]? with
    | none=>rfl
    | some blk=>
     cases blk with
     | opn s' cs fl e st=>
      cases st<;>simp only<;>first | rfl | skip
      split
      ·cases bnd hi n<;>cases bnd mx n<;>simp only<;>first | rfl | skip
       split
       ·cases bC fcC (List.take _ cs)<;>rfl
       ·rfl
      ·rfl
     | _=>rfl
   | _=>rfl
  | _=>rfl
theorem MV(H:Heap)(x:V):ny H (Gy (gt H) x)=Gz H x:=by
 cases x with
 | c x=>
  cases x with
  | mi b=>
   simp only [Gy,Gz,gt,ny]
   cases h:H[b]? with
   | none=>rfl
   | some blk=>
    cases blk with
    | mit m since done=>
     simp only
     cases h2:H[m]? with
     | none=>rfl
     | some aTq=>
      cases aTq with
      | map es=>
       match es with
       | []=>simp only;split<;>rfl
       | [e]=>simp only;repeat' (first | rfl | split)
       | _::_::_=>rfl
      | _=>rfl
    | _=>rfl
  | _=>rfl
 | _=>rfl
theorem Jp(H:Heap)(x:V):ny H (AV (gt H) H.length x)=zS H x:=by
 cases x with
 | c x=>
  cases x with
  | mp b=>
   simp only [AV,zS,gt,ny]
   cases h:H[b]? with
   | none=>rfl
   | some blk=>
    cases blk with
    | map es=>simp only;split<;>rfl
    | _=>rfl
  | _=>rfl
 | _=>rfl
theorem Tm{H:Heap}(o:Option V):ny H (o.map (·,.no))=o.map (·,H):=by cases o<;>rfl
theorem FT(regs:T)(H:Heap)(op:AOp):ny H (air regs (gt H) H.length op)=xOp regs H op:=by
 cases op<;>simp only [air,xOp,Tm,azH,Az,LX,JW,JQ,Vj,KT,Vk,UG,Vs,TR,MV,Jp,NV]
 all_goals first | rfl | skip
 case pre o sz=>split<;>rfl
 case pick c a b=>
  generalize c.ev regs=v
  cases v<;>try rfl
  rename_i x;cases x<;>try rfl
  rename_i x;cases x<;>rfl
 case box x=>generalize (x.ev regs).cells?=o;cases o<;>rfl
 case build zs ps=>cases gK regs (zs.map .f) ps<;>rfl
 case aY sz zs n ps=>
  split
  ·split<;>rfl
  ·simp only [ny,dj];rfl
 case store n x y=>
  generalize x.ev regs=v
  generalize (y.ev regs).cells?=o
  cases v<;>cases o<;>try rfl
  simp only
  split
  ·rw [←F6];simp only [ny,dj];rfl
  ·rfl
 case bF x=>
  generalize x.ev regs=v
  cases v<;>try rfl
  rename_i x;cases x<;>try rfl
  rename_i x;cases x<;>rfl
 case eq neg k x y=>rw [aAo];simp only [ny,dj];rfl
 case cvi k x=>
  generalize x.ev regs=v
  cases v<;>try rfl
  rename_i x;cases x<;>try rfl
  rename_i x;cases x<;>rfl
 case Hu x=>
  generalize x.ev regs=v
  cases v<;>try rfl
  rename_i x;cases x<;>try rfl
  rename_i x;cases x<;>rfl
 case NW x=>
  generalize x.ev regs=v
  cases v<;>try rfl
  rename_i x;cases x<;>try rfl
  rename_i x;cases x<;>try rfl
  simp only
  split<;>rfl
 case jG f caps=>simp only [ny,dj];rfl
 case qw ck m k v=>
  generalize m.ev regs=m
  generalize k.ev regs=k
  generalize Cj (v.ev regs)=v
  cases m<;>try rfl
  rename_i m;cases m<;>try rfl
  cases k<;>try rfl
  rename_i k;cases k<;>try rfl
  cases v<;>try rfl
  simp only [gt]
  rename_i b k v
  cases H[b]? with
  | none=>rfl
  | some blk=>
   cases blk<;>try rfl
   simp only
   split
   ·simp only [ny,dj];rfl
   ·rfl
 case dX sz bytes zs l c=>
  generalize iO (l.ev regs)=l
  generalize iO (c.ev regs)=c
  cases l<;>cases c<;>try rfl
  simp only
  split
  ·split<;>rfl
  ·rfl
 case range x=>
  generalize x.ev regs=v
  cases v<;>try rfl
  rename_i x;cases x<;>try rfl
  rename_i x;cases x<;>rfl
 case extract x i=>
  generalize x.ev regs=v
  cases v<;>try rfl
  simp only [Tm]
 case len x=>
  generalize x.ev regs=v
  cases v<;>try rfl
  rw [rU]
  simp only
  rename_i y
  cases bK H y<;>rfl
 case lens x=>
  generalize x.ev regs=v
  cases v<;>try rfl
  rename_i x;cases x<;>try rfl
  rename_i x;cases x<;>rfl
 case clear sz zs x=>rw [←N8];simp only [ny,dj];rfl
 case Dv f caps=>simp only [ny,dj];rfl
 case cap x=>
  generalize x.ev regs=v
  cases v<;>try rfl
  rw [TU]
  simp only
  rename_i y
  cases qo H y<;>rfl
end Km
end
section
set_option linter.unusedVariables false
namespace Km
open Go
inductive BT(α:Type) where
 | e
 | n (l:BT α) (x:α) (r:BT α)
def BT.get{α:Type}:BT α→Nat→Option α
 | .e,_=>none
 | .n l x r,b=>match b with
  | 0=>some x
  | m+1=>if m % 2=0 then l.get (m / 2)else r.get (m / 2)
abbrev HT:=BT Blk
def jY{α:Type}(b:Nat)(t:BT α)(k:α→Prop):Prop:=
 BT.rec (motive:=fun _=>Nat→Prop) (fun _=>False)
  (fun _ x _ ihl ihr b=>Nat.rec (motive:=fun _=>Prop) (k x) (fun m _=>Nat.rec (motive:=fun _=>Prop) (ihl (Nat.div m 2)) (fun _ _=>ihr (Nat.div m 2)) (Nat.mod m 2)) b) t b
def jX{α:Type}(x:α)(t:BT α):Nat→(BT α→Prop)→Prop:=
 BT.rec (motive:=fun _=>Nat→(BT α→Prop)→Prop) (fun _ _=>False)
  (fun l y r ihl ihr b k=>Nat.rec (motive:=fun _=>Prop) (k (.n l x r))
   (fun m _=>Nat.rec (motive:=fun _=>Prop) (ihl (Nat.div m 2) fun l'=>k (.n l' y r)) (fun _ _=>ihr (Nat.div m 2) fun r'=>k (.n l y r')) (Nat.mod m 2)) b) t
def H9{α:Type}(x:α)(t:BT α):Nat→(BT α→Prop)→Prop:=
 BT.rec (motive:=fun _=>Nat→(BT α→Prop)→Prop) (fun b k=>Nat.rec (motive:=fun _=>Prop) (k (.n .e x .e)) (fun _ _=>False) b)
  (fun l y r ihl ihr b k=>Nat.rec (motive:=fun _=>Prop) False
   (fun m _=>Nat.rec (motive:=fun _=>Prop) (ihl (Nat.div m 2) fun l'=>k (.n l' y r)) (fun _ _=>ihr (Nat.div m 2) fun r'=>k (.n l y r')) (Nat.mod m 2)) b) t
theorem ajN(m:Nat):m % 2=0∨m % 2=1:=by omega
theorem eP{α:Type}{t:BT α}:∀ {b:Nat} {k:α→Prop},jY b t k→∃ x,t.get b=some x∧k x:=by
 induction t with
 | e=>intro b k h;exact h.elim
 | n l x r ihl ihr=>
  intro b k h
  cases b with
  | zero=>exact⟨x,rfl,h⟩
  | succ m=>
   have h':Nat.rec (motive:=fun _=>Prop) (jY (m / 2) l k) (fun _ _=>jY (m / 2) r k) (m % 2):=h
   rcases ajN m with e | e<;>rw [e]at h'
   ·obtain⟨y,g1,g2⟩:=ihl h'
    exact⟨y,by simp [BT.get,e,g1],g2⟩
   ·obtain⟨y,g1,g2⟩:=ihr h'
    exact⟨y,by simp [BT.get,e,g1],g2⟩
def uI{α:Type}(t t':BT α)(b:Nat)(x:α):Prop:=∀ i,t'.get i=if i=b then some x else t.get i
theorem uI.left{α:Type}{l l' r:BT α}{y x:α}{m:Nat}(e:m % 2=0)(h:uI l l' (m / 2) x):uI (.n l y r) (.n l' y r) (m+1) x:=by
 intro i
 cases i with
 | zero=>simp [BT.get]
 | succ j=>
  simp only [BT.get,h (j / 2)]
  rcases ajN j with e' | e'
  ·have:(j / 2=m / 2)↔(j=m):=by omega
   simp [e',this]
  ·have:j≠m:=by omega
   simp [e',this]
theorem uI.right{α:Type}{l r' r:BT α}{y x:α}{m:Nat}(e:m % 2=1)(h:uI r r' (m / 2) x):uI (.n l y r) (.n l y r') (m+1) x:=by
 intro i
 cases i with
 | zero=>simp [BT.get]
 | succ j=>
  simp only [BT.get,h (j / 2)]
  rcases ajN j with e' | e'
  ·have:j≠m:=by omega
   simp [e',this]
  ·have:(j / 2=m / 2)↔(j=m):=by omega
   simp [e',this]
theorem akP{α:Type}{x:α}{t:BT α}:∀ {b:Nat} {k:BT α→Prop},jX x t b k→∃ t',uI t t' b x∧(∃ y,t.get b=some y)∧k t':=by
 induction t with
 | e=>intro b k h;exact h.elim
 | n l y r ihl ihr=>
  intro b k h
  cases b with
  | zero=>
   refine⟨.n l x r,fun i=>?_,⟨y,rfl⟩,h⟩
   cases i<;>simp [BT.get]
  | succ m=>
   have h':Nat.rec (motive:=fun _=>Prop) (jX x l (m / 2) fun l'=>k (.n l' y r)) (fun _ _=>jX x r (m / 2) fun r'=>k (.n l y r')) (m % 2):=h
   rcases ajN m with e | e<;>rw [e]at h'
   ·obtain⟨l',g1,⟨z,g2⟩,g3⟩:=ihl h'
    exact⟨_,g1.left e,⟨z,by simp [BT.get,e,g2]⟩,g3⟩
   ·obtain⟨l',g1,⟨z,g2⟩,g3⟩:=ihr h'
    exact⟨_,g1.right e,⟨z,by simp [BT.get,e,g2]⟩,g3⟩
theorem Vq{α:Type}{x:α}{t:BT α}:∀ {b:Nat} {k:BT α→Prop},H9 x t b k→∃ t',uI t t' b x∧k t':=by
 induction t with
 | e=>
  intro b k h
  cases b with
  | zero=>
   refine⟨.n .e x .e,fun i=>?_,h⟩
   cases i<;>simp [BT.get]
  | succ m=>exact h.elim
 | n l y r ihl ihr=>
  intro b k h
  cases b with
  | zero=>exact h.elim
  | succ m=>
   have h':Nat.rec (motive:=fun _=>Prop) (H9 x l (m / 2) fun l'=>k (.n l' y r)) (fun _ _=>H9 x r (m / 2) fun r'=>k (.n l y r')) (m % 2):=h
   rcases ajN m with e | e<;>rw [e]at h'
   ·obtain⟨l',g1,g3⟩:=ihl h'
    exact⟨_,g1.left e,g3⟩
   ·obtain⟨l',g1,g3⟩:=ihr h'
    exact⟨_,g1.right e,g3⟩
def dS(H:Heap)(t:HT):Prop:=t.get=gt H
theorem dS.nil:dS [] .e:=by funext b;simp [BT.get,gt]
theorem dS.set{H:Heap}{t t':HT}(h:dS H t){b:Nat}{x:Blk}(hp:uI t t' b x)(hb:∃ y,t.get b=some y):dS (H.set b x) t':=by
 funext i
 obtain⟨y,hy⟩:=hb
 rw [h]at hy
 have hlt:b<H.length:=(al.1 hy).1
 rw [hp i,h]
 simp only [gt]
 by_cases e:i=b
 ·subst e;simp [hlt]
 ·simp [e,ag (Ne.symm e)]
theorem dS.push{H:Heap}{t t':HT}(h:dS H t){x:Blk}(hp:uI t t' H.length x):dS (H++[x]) t':=by
 funext i
 rw [hp i,h]
 simp only [gt]
 by_cases e:i=H.length
 ·subst e;simp
 ·by_cases hi:i<H.length
  ·simp [e,List.getElem?_append_left hi]
  ·rw [bA (by omega)]
   have:i-H.length≠0:=by omega
   simp [e,dt (l:=H) (i:=i) (by omega),this]
def bU(n:Nat)(k:Nat→Prop):Prop:=Nat.rec (motive:=fun _=>Prop) (k 0) (fun m _=>k (Nat.succ m)) n
def yC(n:Int)(k:Int→Prop):Prop:=Int.rec (motive:=fun _=>Prop) (fun n=>bU n fun n=>k (.ofNat n)) (fun n=>bU n fun n=>k (.negSucc n)) n
def qU(b:Bool)(k:Bool→Prop):Prop:=Bool.rec (motive:=fun _=>Prop) (k false) (k true) b
theorem bW(n:Nat)(k:Nat→Prop):bU n k=k n:=by cases n<;>rfl
theorem Es(n:Int)(k:Int→Prop):yC n k=k n:=by cases n<;>simp only [yC,bW]
theorem kM(b:Bool)(k:Bool→Prop):qU b k=k b:=by cases b<;>rfl
def NP(x:FC)(k:FC→Prop):Prop:=match x with
 | .bool b=>qU b fun b=>k (.bool b)
 | .int j n=>yC n fun n=>k (.int j n)
 | .fp cs o=>bU o fun o=>k (.fp cs o)
 | .fs cs l=>bU l fun l=>k (.fs cs l)
 | x=>k x
theorem U6(x:FC)(k:FC→Prop):NP x k=k x:=by cases x<;>simp only [NP,bW,Es,kM]
def yE(x:C)(k:C→Prop):Prop:=match x with
 | .f x=>NP x fun x=>k (.f x)
 | .ptr b o e=>bU b fun b=>bU o fun o=>bU e fun e=>k (.ptr b o e)
 | .sl b o l c e s=>bU b fun b=>bU o fun o=>bU l fun l=>bU c fun c=>bU e fun e=>bU s fun s=>k (.sl b o l c e s)
 | x=>k x
theorem yD(x:C)(k:C→Prop):yE x k=k x:=by cases x<;>simp only [yE,bW,U6]
def qR(xs:List C):(List C→Prop)→Prop:=
 List.rec (motive:=fun _=>(List C→Prop)→Prop) (fun k=>k []) (fun x _ ih k=>yE x fun x=>ih fun xs=>k (x::xs)) xs
theorem oO:∀(xs:List C) (k:List C→Prop),qR xs k=k xs
 | [],k=>rfl
 | x::xs,k=>by
  show yE x (fun x=>qR xs fun xs=>k (x::xs))=_
  rw [yD,oO xs]
def zZ(v:V)(k:V→Prop):Prop:=match v with
 | .c x=>yE x fun x=>k (.c x)
 | .a xs=>qR xs fun xs=>k (.a xs)
 | v=>k v
theorem NM(v:V)(k:V→Prop):zZ v k=k v:=by cases v<;>simp only [zZ,yD,oO]
def He(xs:List V):(List V→Prop)→Prop:=
 List.rec (motive:=fun _=>(List V→Prop)→Prop) (fun k=>k []) (fun x _ ih k=>zZ x fun x=>ih fun xs=>k (x::xs)) xs
theorem BL:∀(xs:List V) (k:List V→Prop),He xs k=k xs
 | [],k=>rfl
 | x::xs,k=>by
  show zZ x (fun x=>He xs fun xs=>k (x::xs))=_
  rw [NM,BL xs]
def pU(v:V)(k:V→Prop):Prop:=match v with
 | .c x=>yE x fun x=>k (.c x)
 | .a xs=>qR xs fun xs=>k (.a xs)
 | .t vs=>He vs fun vs=>k (.t vs)
 | .top=>k .top
theorem yB(v:V)(k:V→Prop):pU v k=k v:=by cases v<;>simp only [pU,yD,oO,BL]
def yA(x:Blk)(k:Blk→Prop):Prop:=match x with
 | .box cs fl=>qR cs fun cs=>bU fl fun fl=>k (.box cs fl)
 | .opn sz cs fl e st=>qR cs fun cs=>bU fl fun fl=>bU e fun e=>k (.opn sz cs fl e st)
 | .it s p=>bU p fun p=>k (.it s p)
 | x=>k x
theorem Ep(x:Blk)(k:Blk→Prop):yA x k=k x:=by cases x<;>simp only [yA,bW,oO]
def Kq(p:P):T→(V→Prop)→Prop:=
 P.rec (motive:=fun _=>T→(V→Prop)→Prop)
  (fun t k=>T.rec (motive:=fun _=>Prop) (k .top) (fun _ v _ _ _=>k v) t)
  (fun _ ih t k=>T.rec (motive:=fun _=>Prop) (k .top) (fun l _ _ _ _=>ih l k) t)
  (fun _ ih t k=>T.rec (motive:=fun _=>Prop) (k .top) (fun _ _ r _ _=>ih r k) t) p
theorem sF:∀(p:P) (t:T) (k:V→Prop),Kq p t k=k (t.get p)
 | .h,.e,k=>rfl
 | .h,.n _ _ _,k=>rfl
 | .o p,.e,k=>rfl
 | .o p,.n l _ _,k=>sF p l k
 | .i p,.e,k=>rfl
 | .i p,.n _ _ r,k=>sF p r k
def aww(p:P)(w:V):T→(T→Prop)→Prop:=
 P.rec (motive:=fun _=>T→(T→Prop)→Prop)
  (fun t k=>T.rec (motive:=fun _=>Prop) (k (.n .e w .e)) (fun l _ r _ _=>k (.n l w r)) t)
  (fun _ ih t k=>T.rec (motive:=fun _=>Prop) (ih .e fun l=>k (.n l .top .e)) (fun l v r _ _=>ih l fun l=>k (.n l v r)) t)
  (fun _ ih t k=>T.rec (motive:=fun _=>Prop) (ih .e fun r=>k (.n .e .top r)) (fun l v r _ _=>ih r fun r=>k (.n l v r)) t) p
theorem rV(w:V):∀(p:P) (t:T) (k:T→Prop),aww p w t k=k (t.set p w)
 | .h,.e,k=>rfl
 | .h,.n _ _ _,k=>rfl
 | .o p,.e,k=>rV w p .e _
 | .o p,.n l _ _,k=>rV w p l _
 | .i p,.e,k=>rV w p .e _
 | .i p,.n _ _ r,k=>rV w p r _
def evK(x:Arg)(r:T)(k:V→Prop):Prop:=Arg.rec (motive:=fun _=>Prop) (fun p=>Kq p r k) (fun v=>k v) x
theorem eu(x:Arg)(r:T)(k:V→Prop):evK x r k=k (x.ev r):=by cases x;exact sF _ _ _;rfl
def KQ(xs:List Arg)(r:T):(List V→Prop)→Prop:=
 List.rec (motive:=fun _=>(List V→Prop)→Prop) (fun k=>k []) (fun x _ ih k=>evK x r fun v=>ih fun vs=>k (v::vs)) xs
theorem xA(r:T):∀(xs:List Arg) (k:List V→Prop),KQ xs r k=k (eG r xs)
 | [],k=>rfl
 | x::xs,k=>by
  show evK x r (fun v=>KQ xs r fun vs=>k (v::vs))=_
  rw [eu,xA r xs];rfl
def aFq(d:Option P)(r:T)(v:V)(k:T→Prop):Prop:=Option.rec (motive:=fun _=>Prop) (k r) (fun d=>aww d v r k) d
theorem Ro(d:Option P)(r:T)(v:V)(k:T→Prop):aFq d r v k=k (mP r d v):=by cases d;rfl;exact rV _ _ _ _
def zO(ps:List P):List V→T→(T→Prop)→Prop:=
 List.rec (motive:=fun _=>List V→T→(T→Prop)→Prop) (fun _ r k=>k r)
  (fun p _ ih vs r k=>List.rec (motive:=fun _=>Prop) (k r) (fun v vs _=>aww p v r fun r=>ih vs r k) vs) ps
theorem uO:∀(ps:List P) (vs:List V) (r:T) (k:T→Prop),zO ps vs r k=k (dJ ps vs r)
 | [],vs,r,k=>by cases vs<;>rfl
 | p::ps,[],r,k=>rfl
 | p::ps,v::vs,r,k=>by
  show aww p v r (fun r=>zO ps vs r k)=_
  rw [rV,uO ps];rfl
def azt{α:Type}(n:Nat):List α→(α→Prop)→Prop:=
 Nat.rec (motive:=fun _=>List α→(α→Prop)→Prop) (fun xs k=>List.rec (motive:=fun _=>Prop) False (fun x _ _=>k x) xs)
  (fun _ ih xs k=>List.rec (motive:=fun _=>Prop) False (fun _ xs _=>ih xs k) xs) n
theorem zU{α:Type}:∀ {n:Nat} {xs:List α} {k:α→Prop},azt n xs k→∃ x,xs[n]?=some x∧k x
 | 0,[],_,h=>h.elim
 | 0,x::_,_,h=>⟨x,rfl,h⟩
 | n+1,[],_,h=>h.elim
 | n+1,_::xs,k,h=>zU (n:=n) (xs:=xs) (k:=k) h
def BP{α:Type}(n:Nat):List α→(List α→Prop)→Prop:=
 Nat.rec (motive:=fun _=>List α→(List α→Prop)→Prop) (fun xs k=>k xs)
  (fun _ ih xs k=>List.rec (motive:=fun _=>Prop) (k []) (fun _ xs _=>ih xs k) xs) n
theorem qZ{α:Type}:∀(n:Nat) (xs:List α) (k:List α→Prop),BP n xs k=k (xs.drop n)
 | 0,xs,k=>rfl
 | n+1,[],k=>rfl
 | n+1,_::xs,k=>qZ n xs k
def yG{α:Type}(n:Nat):List α→(List α→Prop)→Prop:=
 Nat.rec (motive:=fun _=>List α→(List α→Prop)→Prop) (fun xs k=>k xs)
  (fun _ ih xs k=>List.rec (motive:=fun _=>Prop) False (fun _ xs _=>ih xs k) xs) n
theorem mg{α:Type}:∀ {n:Nat} {xs:List α} {k:List α→Prop},yG n xs k→n≤xs.length∧k (xs.drop n)
 | 0,xs,k,h=>⟨by simp,h⟩
 | n+1,[],k,h=>h.elim
 | n+1,x::xs,k,h=>by
  obtain⟨h1,h2⟩:=mg (n:=n) (xs:=xs) (k:=k) h
  exact⟨by simp;omega,h2⟩
def qj{α:Type}(n:Nat):List α→(List α→Prop)→Prop:=
 Nat.rec (motive:=fun _=>List α→(List α→Prop)→Prop) (fun _ k=>k [])
  (fun _ ih xs k=>List.rec (motive:=fun _=>Prop) False (fun x xs _=>ih xs fun ys=>k (x::ys)) xs) n
theorem jq{α:Type}:∀ {n:Nat} {xs:List α} {k:List α→Prop},qj n xs k→n≤xs.length∧k (xs.take n)
 | 0,xs,k,h=>⟨by simp,by have h':k []:=h;simpa using h'⟩
 | n+1,[],k,h=>h.elim
 | n+1,x::xs,k,h=>by
  obtain⟨h1,h2⟩:=jq (n:=n) (xs:=xs) (k:=fun ys=>k (x::ys)) h
  exact⟨by simp;omega,by simpa using h2⟩
def aNG{α:Type}(xs:List α):List α→(List α→Prop)→Prop:=
 List.rec (motive:=fun _=>List α→(List α→Prop)→Prop) (fun cs k=>k cs)
  (fun x _ ih cs k=>List.rec (motive:=fun _=>Prop) False (fun _ cs _=>ih cs fun ys=>k (x::ys)) cs) xs
theorem Sz{α:Type}:∀ {xs cs:List α} {k:List α→Prop},aNG xs cs k→xs.length≤cs.length∧k (xs++cs.drop xs.length)
 | [],cs,k,h=>⟨by simp,by have h':k cs:=h;simpa using h'⟩
 | x::xs,[],k,h=>h.elim
 | x::xs,c::cs,k,h=>by
  obtain⟨h1,h2⟩:=Sz (xs:=xs) (cs:=cs) (k:=fun ys=>k (x::ys)) h
  exact⟨by simp;omega,by simpa using h2⟩
def Ba{α:Type}(xs:List α)(off:Nat):List α→(List α→Prop)→Prop:=
 Nat.rec (motive:=fun _=>List α→(List α→Prop)→Prop) (fun cs k=>aNG xs cs k)
  (fun _ ih cs k=>List.rec (motive:=fun _=>Prop) False (fun c cs _=>ih cs fun ys=>k (c::ys)) cs) off
theorem oK{α:Type}{xs:List α}:∀ {off:Nat} {cs:List α} {k:List α→Prop},Ba xs off cs k→off+xs.length≤cs.length∧k (over cs off xs)
 | 0,cs,k,h=>by
  obtain⟨h1,h2⟩:=Sz (xs:=xs) (cs:=cs) (k:=k) h
  exact⟨by omega,by simpa [over]using h2⟩
 | n+1,[],k,h=>h.elim
 | n+1,c::cs,k,h=>by
  obtain⟨h1,h2⟩:=oK (off:=n) (cs:=cs) (k:=fun ys=>k (c::ys)) h
  refine⟨by simp;omega,?_⟩
  have:n+1+xs.length=(n+xs.length)+1:=by omega
  simpa [over,this]using h2
def aI6{α:Type}(xs ys:List α):(List α→Prop)→Prop:=
 List.rec (motive:=fun _=>(List α→Prop)→Prop) (fun k=>k ys) (fun x _ ih k=>ih fun zs=>k (x::zs)) xs
theorem HY{α:Type}(ys:List α):∀(xs:List α) (k:List α→Prop),aI6 xs ys k=k (xs++ys)
 | [],k=>rfl
 | x::xs,k=>HY ys xs fun zs=>k (x::zs)
def fzK(zs:List FC):(List C→Prop)→Prop:=
 List.rec (motive:=fun _=>(List C→Prop)→Prop) (fun k=>k []) (fun z _ ih k=>ih fun cs=>k (.f z::cs)) zs
theorem yx:∀(zs:List FC) (k:List C→Prop),fzK zs k=k (zs.map .f)
 | [],k=>rfl
 | z::zs,k=>yx zs fun cs=>k (.f z::cs)
def ltB:Int→Int→Bool
 | .ofNat a,.ofNat b=>Nat.ble (Nat.succ a) b
 | .ofNat _,.negSucc _=>false
 | .negSucc _,.ofNat _=>true
 | .negSucc a,.negSucc b=>Nat.ble (Nat.succ b) a
theorem GR(x y:Int):ltB x y=decide (x<y):=by
 have e:∀ n:Nat,Int.ofNat n=(n:Int):=fun _=>rfl
 cases x<;>cases y<;>simp only [ltB]<;>rw [dp]<;>simp only [Nat.ble_eq,decide_eq_true_eq,aL,false_iff,true_iff,e,Nat.succ_eq_add_one]<;>omega
def eqB:Int→Int→Bool
 | .ofNat a,.ofNat b=>Nat.beq a b
 | .negSucc a,.negSucc b=>Nat.beq a b
 | _,_=>false
theorem aky(x y:Int):eqB x y=(x == y):=by
 have e:∀ n:Nat,Int.ofNat n=(n:Int):=fun _=>rfl
 cases x<;>cases y<;>simp only [eqB]<;>rw [dp]<;>simp only [Nat.beq_eq,beq_iff_eq,aL,false_iff,e]<;>omega
def DL(j:IntKind)(n:Int)(k:Int→Prop):Prop:=match j with
 | .i64=>Int.rec (motive:=fun _=>Prop)
   (fun n=>bU n fun n=>Bool.rec (motive:=fun _=>Prop) (yC (IntKind.i64.wrap (.ofNat n)) k) (k (.ofNat n)) (Nat.ble n 9223372036854775807))
   (fun n=>bU n fun n=>Bool.rec (motive:=fun _=>Prop) (yC (IntKind.i64.wrap (.negSucc n)) k) (k (.negSucc n)) (Nat.ble n 9223372036854775807)) n
 | j=>yC (j.wrap n) k
theorem wrap64_in{n:Int}(h1:-9223372036854775808≤n)(h2:n≤9223372036854775807):IntKind.i64.wrap n=n:=by
 simp only [IntKind.wrap,IntKind.bits,IntKind.signed]
 have e1:(2 ^ 64:Int)=18446744073709551616:=by decide
 have e2:(2 ^ (64-1):Int)=9223372036854775808:=by decide
 simp only [e1,e2,Bool.true_and,decide_eq_true_eq]
 split<;>omega
theorem vT(j:IntKind)(n:Int)(k:Int→Prop):DL j n k=k (j.wrap n):=by
 cases j<;>simp only [DL,Es]
 cases n with
 | ofNat n=>
  simp only [bW]
  cases h:Nat.ble n 9223372036854775807 with
  | false=>rfl
  | true=>
   have:=cG h
   have e:Int.ofNat n=(n:Int):=rfl
   rw [wrap64_in (by rw [e];omega) (by rw [e];omega)]
 | negSucc n=>
  simp only [bW]
  cases h:Nat.ble n 9223372036854775807 with
  | false=>rfl
  | true=>
   have:=cG h
   rw [wrap64_in (by omega) (by omega)]
end Km
end
section
set_option linter.unusedVariables false
namespace Km
open Go
def kY(a b:Nat)(p:Prop):Prop:=Bool.rec (motive:=fun _=>Prop) False p (Nat.beq a b)
def zM(a b:Nat)(p:Prop):Prop:=Bool.rec (motive:=fun _=>Prop) False p (Nat.ble a b)
def zC(b:Bool)(p:Prop):Prop:=Bool.rec (motive:=fun _=>Prop) False p b
def x9{α:Type}(o:Option α)(k:α→Prop):Prop:=Option.rec (motive:=fun _=>Prop) False k o
theorem dQ{a b:Nat}{p:Prop}(h:kY a b p):a=b∧p:=by
 unfold kY at h
 cases e:Nat.beq a b with
 | false=>rw [e]at h;exact h.elim
 | true=>rw [e]at h;exact⟨cT e,h⟩
theorem kR{a b:Nat}{p:Prop}(h:zM a b p):a≤b∧p:=by
 unfold zM at h
 cases e:Nat.ble a b with
 | false=>rw [e]at h;exact h.elim
 | true=>rw [e]at h;exact⟨cG e,h⟩
theorem rC{b:Bool}{p:Prop}(h:zC b p):b=true∧p:=by cases b;exact h.elim;exact⟨rfl,h⟩
theorem nH{α:Type}{o:Option α}{k:α→Prop}(h:x9 o k):∃ x,o=some x∧k x:=by cases o;exact h.elim;exact⟨_,rfl,h⟩
def uz(x:Blk)(t:HT)(n:Nat)(k:HT→Nat→Prop):Prop:=H9 x t n fun t=>bU (Nat.succ n) fun n=>k t n
theorem kU{H:Heap}{t:HT}(h:dS H t){x:Blk}{k:HT→Nat→Prop}(hk:uz x t H.length k):∃ t',dS (H++[x]) t'∧k t' (H++[x]).length:=by
 obtain⟨t',h1,h2⟩:=Vq hk
 rw [bW]at h2
 exact⟨t',h.push h1,by simpa using h2⟩
theorem fP{H:Heap}{t:HT}(h:dS H t){b:Nat}{x:Blk}{k:HT→Prop}(hk:jX x t b k):∃ t',dS (H.set b x) t'∧k t':=by
 obtain⟨t',h1,h2,h3⟩:=akP hk
 exact⟨t',h.set h1 h2,h3⟩
def aI2(e:Eff)(t:HT)(n:Nat)(k:HT→Nat→Prop):Prop:=
 Eff.rec (motive:=fun _=>Prop) (k t n) (fun b x=>yA x fun x=>jX x t b fun t=>k t n) (fun x=>yA x fun x=>uz x t n k) e
theorem aAt{H:Heap}{t:HT}(h:dS H t){e:Eff}{k:HT→Nat→Prop}(hk:aI2 e t H.length k):∃ t',dS (e.app H) t'∧k t' (e.app H).length:=by
 cases e with
 | no=>exact⟨t,h,hk⟩
 | set b x=>
  have hk:yA x fun x=>jX x t b fun t=>k t H.length:=hk
  rw [Ep]at hk
  obtain⟨t',h1,h2⟩:=fP h hk
  exact⟨t',h1,by simpa [Eff.app]using h2⟩
 | push x=>
  have hk:yA x fun x=>uz x t H.length k:=hk
  rw [Ep]at hk
  exact kU h hk
def aOi(op:AOp)(r:T)(t:HT)(n:Nat)(k:V→HT→Nat→Prop):Prop:=
 x9 (air r t.get n op) fun r=>Prod.rec (motive:=fun _=>Prop) (fun v e=>pU v fun v=>aI2 e t n (k v)) r
def OpS(op:AOp)(r:T)(m:HT→Nat→(V→HT→Nat→Prop)→Prop):Prop:=
 ∀(H:Heap) (t:HT) (k:V→HT→Nat→Prop),dS H t→m t H.length k→∃ v H' t',xOp r H op=some (v,H')∧dS H' t'∧k v t' H'.length
theorem aAh(op:AOp)(r:T):OpS op r (aOi op r):=by
 intro H t k h hk
 obtain⟨⟨v,e⟩,h1,h2⟩:=nH hk
 have h2:pU v fun v=>aI2 e t H.length (k v):=h2
 rw [yB]at h2
 obtain⟨t',h3,h4⟩:=aAt h h2
 refine⟨v,e.app H,t',?_,h3,h4⟩
 rw [h]at h1
 rw [←FT,h1];rfl
def Cc(v:V)(k:List C→Prop):Prop:=match v with
 | .c x=>k [x]
 | .a xs=>k xs
 | _=>False
theorem yH{v:V}{k:List C→Prop}(h:Cc v k):∃ xs,v.cells?=some xs∧k xs:=by
 cases v with
 | c x=>exact⟨_,rfl,h⟩
 | a xs=>exact⟨_,rfl,h⟩
 | _=>exact h.elim
def Ry(n:Option Nat)(off:Nat)(cs:List C)(k:V→Prop):Prop:=
 Option.rec (motive:=fun _=>Prop) (azt off cs fun c=>k (.c c)) (fun m=>BP off cs fun cs=>qj m cs fun cs=>k (.a cs)) n
theorem AY{n:Option Nat}{off:Nat}{cs:List C}{k:V→Prop}(h:Ry n off cs k):∃ v,aS n (cs.drop off)=some v∧k v:=by
 cases n with
 | none=>
  obtain⟨c,h1,h2⟩:=zU h
  refine⟨.c c,?_,h2⟩
  rw [←Nat.add_zero off,←ba]at h1
  cases e:cs.drop off with
  | nil=>rw [e]at h1;simp at h1
  | cons y ys=>rw [e]at h1;simp at h1;subst h1;rfl
 | some m=>
  have h:BP off cs fun cs=>qj m cs fun cs=>k (.a cs):=h
  rw [qZ]at h
  obtain⟨h1,h2⟩:=jq h
  exact⟨_,if_pos h1,h2⟩
def ajg(n:Option Nat)(off:Nat)(cs:List FC)(k:V→Prop):Prop:=
 Option.rec (motive:=fun _=>Prop) (azt off cs fun c=>k (.c (.f c))) (fun m=>BP off cs fun cs=>qj m cs fun cs=>fzK cs fun cs=>k (.a cs)) n
theorem Uf{n:Option Nat}{off:Nat}{cs:List FC}{k:V→Prop}(h:ajg n off cs k):∃ v,aS n ((cs.drop off).map .f)=some v∧k v:=by
 cases n with
 | none=>
  obtain⟨c,h1,h2⟩:=zU h
  refine⟨.c (.f c),?_,h2⟩
  rw [←Nat.add_zero off,←ba]at h1
  cases e:cs.drop off with
  | nil=>rw [e]at h1;simp at h1
  | cons y ys=>rw [e]at h1;simp at h1;subst h1;rfl
 | some m=>
  have h:BP off cs fun cs=>qj m cs fun cs=>fzK cs fun cs=>k (.a cs):=h
  rw [qZ]at h
  obtain⟨h1,h2⟩:=jq h
  rw [yx]at h2
  refine⟨_,if_pos (by simpa using h1),?_⟩
  rw [←List.map_take];exact h2
def ldK(t:HT)(n:Option Nat)(x:V)(k:V→Prop):Prop:=match x with
 | .c (.ptr b off ep)=>jY b t fun blk=>match blk with
  | .box cs _=>Ry n off cs k
  | .opn _ cs _ e .loc=>kY ep e (Ry n off cs k)
  | _=>False
 | .c (.f (.fp cs off))=>ajg n off cs k
 | _=>False
theorem akb{H:Heap}{t:HT}(h:dS H t){n:Option Nat}{x:V}{k:V→Prop}(hk:ldK t n x k):∃ v,ldV H n x=some v∧k v:=by
 unfold ldK at hk
 split at hk
 ·rename_i b off ep
  obtain⟨blk,h1,h2⟩:=eP hk
  rw [h]at h1
  have h1:H[b]?=some blk:=h1
  split at h2
  ·obtain⟨v,h3,h4⟩:=AY h2
   exact⟨v,by simp [ldV,aP,h1,h3],h4⟩
  ·obtain⟨h5,h2⟩:=dQ h2
   obtain⟨v,h3,h4⟩:=AY h2
   exact⟨v,by simp [ldV,aP,h1,h3,h5],h4⟩
  ·exact h2.elim
 ·obtain⟨v,h3,h4⟩:=Uf hk
  exact⟨v,by simp only [ldV,aP,bS,h3],h4⟩
 ·exact hk.elim
def stK(t:HT)(x:C)(xs:List C)(k:HT→Prop):Prop:=match x with
 | .ptr b off ep=>jY b t fun blk=>match blk with
  | .box cs fl=>zM fl off (Ba xs off cs fun cs=>jX (.box cs fl) t b k)
  | .opn sz cs fl e .loc=>kY ep e (zM fl off (Ba xs off cs fun cs=>jX (.opn sz cs fl e .loc) t b k))
  | _=>False
 | _=>False
theorem aEs{H:Heap}{t:HT}(h:dS H t){x:C}{xs:List C}{k:HT→Prop}(hk:stK t x xs k):∃ H' t',stC H x xs=some H'∧dS H' t'∧H'.length=H.length∧k t':=by
 unfold stK at hk
 split at hk
 ·rename_i b off ep
  obtain⟨blk,h1,h2⟩:=eP hk
  rw [h]at h1
  have h1:H[b]?=some blk:=h1
  split at h2
  ·obtain⟨h3,h2⟩:=kR h2
   obtain⟨h4,h2⟩:=oK h2
   obtain⟨t',h5,h6⟩:=fP h h2
   exact⟨_,t',by simp [stC,h1,h3,h4],h5,by simp,h6⟩
  ·obtain⟨h0,h2⟩:=dQ h2
   obtain⟨h3,h2⟩:=kR h2
   obtain⟨h4,h2⟩:=oK h2
   obtain⟨t',h5,h6⟩:=fP h h2
   exact⟨_,t',by simp [stC,h1,h0,h3,h4],h5,by simp,h6⟩
  ·exact h2.elim
 ·exact hk.elim
def qy(op:BinOp)(j:IntKind)(x y:Int)(k:V→Prop):Prop:=match op with
 | .add=>DL j (Int.add x y) fun n=>k (.c (.f (.int j n)))
 | .sub=>DL j (Int.sub x y) fun n=>k (.c (.f (.int j n)))
 | .mul=>DL j (Int.mul x y) fun n=>k (.c (.f (.int j n)))
 | .eql=>qU (eqB x y) fun b=>k (.c (.f (.bool b)))
 | .neq=>qU (!eqB x y) fun b=>k (.c (.f (.bool b)))
 | .lss=>qU (ltB x y) fun b=>k (.c (.f (.bool b)))
 | .leq=>qU (!ltB y x) fun b=>k (.c (.f (.bool b)))
 | .gtr=>qU (ltB y x) fun b=>k (.c (.f (.bool b)))
 | .geq=>qU (!ltB x y) fun b=>k (.c (.f (.bool b)))
 | op=>x9 (l7 op j x y) fun v=>pU v k
theorem Bj(x y:Int):(!decide (x<y))=decide (y≤x):=by
 rw [dp];simp
theorem akT{op:BinOp}{j:IntKind}{x y:Int}{k:V→Prop}(h:qy op j x y k):∃ v,l7 op j x y=some v∧k v:=by
 cases op
 case add=>simp only [qy,vT]at h;exact⟨_,rfl,h⟩
 case sub=>simp only [qy,vT]at h;exact⟨_,rfl,h⟩
 case mul=>simp only [qy,vT]at h;exact⟨_,rfl,h⟩
 case eql=>simp only [qy,kM,aky]at h;exact⟨_,rfl,h⟩
 case neq=>simp only [qy,kM,aky]at h;exact⟨_,rfl,h⟩
 case lss=>simp only [qy,kM,GR]at h;exact⟨_,rfl,h⟩
 case leq=>simp only [qy,kM,GR,Bj]at h;exact⟨_,rfl,h⟩
 case gtr=>simp only [qy,kM,GR]at h;exact⟨_,rfl,h⟩
 case geq=>simp only [qy,kM,GR,Bj]at h;exact⟨_,rfl,h⟩
 all_goals
  simp only [qy]at h
  obtain⟨v,h1,h2⟩:=nH h
  rw [yB]at h2
  exact⟨v,h1,h2⟩
def ake(j j':IntKind)(p:Prop):Prop:=match j,j' with
 | .i64,.i64=>p
 | j,j'=>zC (decide (j=j')) p
theorem akd{j j':IntKind}{p:Prop}(h:ake j j' p):j=j'∧p:=by
 unfold ake at h
 split at h
 ·exact⟨rfl,h⟩
 ·obtain⟨h1,h2⟩:=rC h
  exact⟨of_decide_eq_true h1,h2⟩
def aJH(op:BinOp)(x y:V)(k:V→Prop):Prop:=match x,y with
 | .c (.f (.int j a)),.c (.f (.int j' b))=>match op with
  | .shl=>x9 (bM .shl x y) fun v=>pU v k
  | .shr=>x9 (bM .shr x y) fun v=>pU v k
  | op=>ake j j' (qy op j a b k)
 | x,y=>x9 (bM op x y) fun v=>pU v k
theorem aAC{op:BinOp}{x y:V}{k:V→Prop}(h:aJH op x y k):∃ v,bM op x y=some v∧k v:=by
 have gen:(x9 (bM op x y) fun v=>pU v k)→∃ v,bM op x y=some v∧k v:=by
  intro h
  obtain⟨v,h1,h2⟩:=nH h
  rw [yB]at h2
  exact⟨v,h1,h2⟩
 unfold aJH at h
 split at h
 ·rename_i j a j' b
  split at h
  ·exact gen h
  ·exact gen h
  ·rename_i h1 h2
   obtain⟨e,h'⟩:=akd h
   subst e
   obtain⟨v,h3,h4⟩:=akT h'
   refine⟨v,?_,h4⟩
   cases op<;>first | exact absurd rfl h1 | exact absurd rfl h2 | (simp only [bM,if_true];exact h3)
 ·exact gen h
def aH5(v:V)(k:Nat→Prop):Prop:=match v with
 | .c (.f (.int _ (.ofNat m)))=>k m
 | _=>False
theorem azx{v:V}{k:Nat→Prop}(h:aH5 v k):∃ m,iO v=some (Int.ofNat m)∧k m:=by
 unfold aH5 at h
 split at h
 ·exact⟨_,rfl,h⟩
 ·exact h.elim
def akh(t:HT)(sz:Nat)(arr:Option Nat)(x i:V)(k:V→Prop):Prop:=aH5 i fun m=>match arr with
 | none=>match x with
  | .c (.sl b o l _ ep s)=>zM (Nat.succ m) l (jY b t fun blk=>match blk with
   | .box _ _=>bU (Nat.add o (Nat.mul m sz)) fun o=>k (.c (.ptr b o ep))
   | .opn s' _ _ e .loc=>kY ep e (kY s s' (bU (Nat.add o (Nat.mul m sz)) fun o=>k (.c (.ptr b o ep))))
   | _=>False)
  | .c (.f (.fs cs l))=>zM (Nat.succ m) l (bU (Nat.mul m sz) fun o=>k (.c (.f (.fp cs o))))
  | _=>False
 | some n=>match x with
  | .c (.ptr b o ep)=>zM (Nat.succ m) n (bU (Nat.add o (Nat.mul m sz)) fun o=>k (.c (.ptr b o ep)))
  | .c (.f (.fp cs o))=>zM (Nat.succ m) n (bU (Nat.add o (Nat.mul m sz)) fun o=>k (.c (.f (.fp cs o))))
  | _=>False
theorem U2{H:Heap}{t:HT}(h:dS H t){sz:Nat}{arr:Option Nat}{x i:V}{k:V→Prop}(hk:akh t sz arr x i k):∃ v,aU H sz arr x i=some v∧k v:=by
 obtain⟨m,hi,hk⟩:=azx hk
 have h0:(0:Int)≤Int.ofNat m:=Int.natCast_nonneg m
 have hlt:∀ l:Nat,Nat.succ m≤l→Int.ofNat m<(l:Int):=fun l hl=>Int.ofNat_lt.2 hl
 have hto:(Int.ofNat m).toNat=m:=rfl
 simp only at hk
 split at hk
 ·split at hk
  ·rename_i b o l cap ep s _
   obtain⟨h1,hk⟩:=kR hk
   obtain⟨blk,h2,h3⟩:=eP hk
   rw [h]at h2
   have h2:H[b]?=some blk:=h2
   split at h3
   ·rw [bW]at h3
    exact⟨_,by simp only [aU,hi,if_pos h0,if_pos (hlt _ h1),h2,hto];rfl,h3⟩
   ·obtain⟨h4,h3⟩:=dQ h3
    obtain⟨h5,h3⟩:=dQ h3
    rw [bW]at h3
    exact⟨_,by simp only [aU,hi,if_pos h0,if_pos (hlt _ h1),h2,hto,h4,h5,and_self,if_true];rfl,h4▸h3⟩
   ·exact h3.elim
  ·obtain⟨h1,hk⟩:=kR hk
   rw [bW]at hk
   exact⟨_,by simp only [aU,hi,if_pos h0,if_pos (hlt _ h1),hto];rfl,hk⟩
  ·exact hk.elim
 ·split at hk
  ·obtain⟨h1,hk⟩:=kR hk
   rw [bW]at hk
   exact⟨_,by simp only [aU,hi,if_pos h0,if_pos (hlt _ h1),hto];rfl,hk⟩
  ·obtain⟨h1,hk⟩:=kR hk
   rw [bW]at hk
   exact⟨_,by simp only [aU,hi,if_pos h0,if_pos (hlt _ h1),hto];rfl,hk⟩
  ·exact hk.elim
def aIf(t:HT)(x:V)(k:Nat→Prop):Prop:=match x with
 | .c (.sl b _ l _ ep sz)=>jY b t fun blk=>match blk with
  | .box _ _=>k l
  | .opn s _ _ e _=>kY ep e (kY sz s (k l))
  | _=>False
 | .c (.f .aA)=>k 0
 | .c (.f .es)=>k 0
 | .c (.f (.fs _ l))=>k l
 | _=>False
theorem azE{H:Heap}{t:HT}(h:dS H t){x:V}{k:Nat→Prop}(hk:aIf t x k):∃ y n,x=.c y∧bK H y=some n∧k n:=by
 unfold aIf at hk
 split at hk
 ·rename_i b o l cap ep sz
  obtain⟨blk,h2,h3⟩:=eP hk
  rw [h]at h2
  have h2:H[b]?=some blk:=h2
  split at h3
  ·exact⟨_,l,rfl,by simp [bK,h2],h3⟩
  ·obtain⟨h4,h3⟩:=dQ h3
   obtain⟨h5,h3⟩:=dQ h3
   exact⟨_,l,rfl,by simp [bK,h2,h4,h5],h3⟩
  ·exact h3.elim
 ·exact⟨_,0,rfl,rfl,hk⟩
 ·exact⟨_,0,rfl,rfl,hk⟩
 ·exact⟨_,_,rfl,rfl,hk⟩
 ·exact hk.elim
def MN(r:T)(ps:List (Nat × Nat × Arg)):List C→(List C→Prop)→Prop:=
 List.rec (motive:=fun _=>List C→(List C→Prop)→Prop) (fun cs k=>k cs)
  (fun p _ ih cs k=>Prod.rec (motive:=fun _=>Prop) (fun off q=>Prod.rec (motive:=fun _=>Prop) (fun n x=>evK x r fun v=>Cc v fun xs=>kY xs.length n (Ba xs off cs fun cs=>ih cs k)) q) p) ps
theorem D6(r:T):∀ {ps:List (Nat × Nat × Arg)} {cs:List C} {k:List C→Prop},MN r ps cs k→∃ cs',gK r cs ps=some cs'∧k cs'
 | [],cs,k,h=>⟨cs,rfl,h⟩
 | (off,n,x)::ps,cs,k,h=>by
  have h:evK x r fun v=>Cc v fun xs=>kY xs.length n (Ba xs off cs fun cs=>MN r ps cs k):=h
  rw [eu]at h
  obtain⟨xs,h1,h⟩:=yH h
  obtain⟨h2,h⟩:=dQ h
  obtain⟨h3,h⟩:=oK h
  obtain⟨cs',h4,h5⟩:=D6 r h
  exact⟨cs',by simp [gK,h1,h2,h4]at h3 ⊢;omega,h5⟩
def Oo(t:HT)(sz:Nat)(y:V)(k:Nat→List C→Prop):Prop:=match y with
 | .c (.f .aA)=>k 0 []
 | .c (.f .es)=>k 0 []
 | .c (.f (.fs cs l))=>kY cs.length (Nat.mul l sz) (fzK cs fun cs=>k l cs)
 | .c (.sl b o l _ ep s)=>jY b t fun blk=>match blk with
  | .box cs _=>yG o cs fun cs=>qj (Nat.mul l sz) cs fun cs=>k l cs
  | .opn s' cs _ e _=>kY ep e (kY s s' (kY s' sz (yG o cs fun cs=>qj (Nat.mul l sz) cs fun cs=>k l cs)))
  | _=>False
 | y=>x9 (xE t.get sz y) fun r=>Prod.rec (motive:=fun _=>Prop) (fun n cs=>qR cs fun cs=>k n cs) r
theorem Vx{H:Heap}{t:HT}(h:dS H t){sz:Nat}{y:V}{k:Nat→List C→Prop}(hk:Oo t sz y k) :
  ∃ n cs,fZ H sz y=some (n,cs)∧k n cs:=by
 unfold Oo at hk
 split at hk
 ·exact⟨0,[],rfl,hk⟩
 ·exact⟨0,[],rfl,hk⟩
 ·rename_i cs l
  obtain⟨h1,hk⟩:=dQ hk
  rw [yx]at hk
  have h1:cs.length=l*sz:=h1
  exact⟨l,_,by simp only [fZ,bK,dZ,h1,if_true],hk⟩
 ·rename_i b o l cap ep s
  obtain⟨blk,h2,h3⟩:=eP hk
  rw [h]at h2
  have h2:H[b]?=some blk:=h2
  split at h3
  ·obtain⟨h8,h3⟩:=mg h3
   obtain⟨h4,h5⟩:=jq h3
   have h4:l*sz≤_:=h4
   rw [cF]at h4
   refine⟨l,_,?_,h5⟩
   simp only [fZ,bK,dZ,h2]
   rw [if_pos (by omega)];rfl
  ·obtain⟨h4,h3⟩:=dQ h3
   obtain⟨h5,h3⟩:=dQ h3
   obtain⟨h6,h3⟩:=dQ h3
   obtain⟨h8,h3⟩:=mg h3
   obtain⟨h9,h7⟩:=jq h3
   have h9:l*sz≤_:=h9
   rw [cF]at h9
   subst h4 h5 h6
   refine⟨l,_,?_,h7⟩
   simp only [fZ,bK,dZ,h2,and_self,if_true]
   rw [if_pos ⟨trivial,trivial,by omega⟩];rfl
  ·exact h3.elim
 ·obtain⟨⟨n,cs⟩,h1,h2⟩:=nH hk
  have h2:qR cs fun cs=>k n cs:=h2
  rw [oO]at h2
  rw [h,vN]at h1
  exact⟨n,cs,h1,h2⟩
def Jj(need bytes:Nat)(p:Prop):Prop:=zM (Nat.mul (Nat.add (Nat.mul 2 need) 768) bytes) 281474976710656 (zM (Nat.succ need) 281474976710656 p)
theorem wu{need bytes:Nat}{p:Prop}(h:Jj need bytes p):bY need bytes=true∧p:=by
 obtain⟨h1,h⟩:=kR h
 obtain⟨h2,h⟩:=kR h
 refine⟨?_,h⟩
 have e:(2:Nat) ^ 48=281474976710656:=by decide
 simp only [bY,am,decide_eq_true_eq,e]
 exact⟨h1,h2⟩
def aOQ(t:HT)(n:Nat)(sz bytes:Nat)(x y:V)(k:V→HT→Nat→Prop):Prop:=
 Oo t sz y fun m ys=>Nat.rec (motive:=fun _=>Prop) False (fun _ _=>match x with
  | .c (.f .aA)=>Nat.rec (motive:=fun _=>Prop) (k (.c (.f .aA)) t n) (fun _ _=>Jj m bytes (bU m fun m=>uz (.opn sz ys 0 0 .loc) t n fun t n'=>k (.c (.sl n 0 m 0 0 sz)) t n')) m
  | .c (.f .es)=>Nat.rec (motive:=fun _=>Prop) (k (.c (.f .es)) t n) (fun _ _=>Jj m bytes (bU m fun m=>uz (.opn sz ys 0 0 .loc) t n fun t n'=>k (.c (.sl n 0 m 0 0 sz)) t n')) m
  | .c (.sl b o l cap ep s)=>jY b t fun blk=>match blk with
   | .box cs fl=>Bool.rec (motive:=fun _=>Prop)
     (bU (Nat.add l m) fun lm=>Jj lm bytes (yG o cs fun cs=>qj (Nat.mul l sz) cs fun cs=>aI6 cs ys fun cs=>uz (.opn sz cs 0 0 .loc) t n fun t n'=>k (.c (.sl n 0 lm 0 0 sz)) t n'))
     (bU (Nat.add l m) fun lm=>zM fl (Nat.add o (Nat.mul l sz)) (Ba ys (Nat.add o (Nat.mul l sz)) cs fun cs=>jX (.box cs fl) t b fun t=>k (.c (.sl b o lm cap ep s)) t n))
     (Nat.ble (Nat.add l m) cap)
   | .opn s' cs fl e st=>kY ep e (kY s' sz (kY s sz (Nat.rec (motive:=fun _=>Prop) (k x t n) (fun _ _=>
     bU (Nat.add l m) fun lm=>Bool.rec (motive:=fun _=>Prop)
      (match st with
       | .loc=>zM fl (Nat.add o (Nat.mul l sz)) (Ba ys (Nat.add o (Nat.mul l sz)) cs fun cs=>jX (.opn sz cs fl e .loc) t b fun t=>k (.c (.sl b o lm 0 ep sz)) t n)
       | _=>False)
      (Jj lm bytes (bU (Nat.succ e) fun e'=>aI6 cs ys fun cs=>jX (.opn sz cs fl e' .loc) t b fun t=>k (.c (.sl b 0 lm 0 e' sz)) t n))
      (and (and (Nat.beq o 0) (Nat.beq (Nat.mul l sz) cs.length)) (Nat.ble fl cs.length))) m)))
   | _=>False
  | _=>False) sz
theorem aAG{H:Heap}{t:HT}(h:dS H t){sz bytes:Nat}{x y:V}{k:V→HT→Nat→Prop}(hk:aOQ t H.length sz bytes x y k) :
  ∃ v H' t',dn H sz bytes x y=some (v,H')∧dS H' t'∧k v t' H'.length:=by
 obtain⟨m,ys,ha,hk⟩:=Vx h hk
 unfold dn
 rw [ha]
 cases sz with
 | zero=>exact hk.elim
 | succ sz'=>
  simp only at hk ⊢
  rw [if_neg (by omega)]
  split at hk
  ·cases m with
   | zero=>exact⟨_,H,t,rfl,h,hk⟩
   | succ m'=>
    simp only at hk
    obtain⟨h1,hk⟩:=wu hk
    rw [bW]at hk
    obtain⟨t',h2,h3⟩:=kU h hk
    exact⟨_,_,t',by simp only [Nat.add_one_ne_zero,if_false,h1,if_true],h2,h3⟩
  ·cases m with
   | zero=>exact⟨_,H,t,rfl,h,hk⟩
   | succ m'=>
    simp only at hk
    obtain⟨h1,hk⟩:=wu hk
    rw [bW]at hk
    obtain⟨t',h2,h3⟩:=kU h hk
    exact⟨_,_,t',by simp only [Nat.add_one_ne_zero,if_false,h1,if_true],h2,h3⟩
  ·rename_i b o l cap ep s _
   obtain⟨blk,h2,hk⟩:=eP hk
   rw [h]at h2
   have h2:H[b]?=some blk:=h2
   simp only [h2]
   split at hk
   ·rename_i cs fl _
    simp only
    cases hc:Nat.ble (Nat.add l m) cap with
    | false=>
     rw [hc]at hk
     have hc':¬ (l+m≤cap):=fun e=>by have:=Nat.ble_eq_true_of_le e;rw [show Nat.ble (Nat.add l m) cap=Nat.ble (l+m) cap from rfl,this]at hc;cases hc
     simp only [bW]at hk
     obtain⟨h3,hk⟩:=wu hk
     obtain⟨h4,hk⟩:=mg hk
     obtain⟨h5,hk⟩:=jq hk
     rw [HY]at hk
     obtain⟨t',h6,h7⟩:=kU h hk
     rw [cF]at h5
     have h5:l*(sz'+1)≤_:=h5
     rw [if_neg hc',if_pos ⟨h3,by omega⟩]
     exact⟨_,_,t',rfl,h6,h7⟩
    | true=>
     rw [hc]at hk
     have hc':l+m≤cap:=cG hc
     simp only [bW]at hk
     obtain⟨h3,hk⟩:=kR hk
     obtain⟨h4,hk⟩:=oK hk
     obtain⟨t',h6,h7⟩:=fP h hk
     rw [if_pos hc',if_pos ⟨h3,h4⟩]
     exact⟨_,_,t',rfl,h6,by simpa using h7⟩
   ·rename_i s' cs fl e st _
    simp only
    obtain⟨h3,hk⟩:=dQ hk
    obtain⟨h4,hk⟩:=dQ hk
    obtain⟨h5,hk⟩:=dQ hk
    rw [if_pos ⟨h3,h4,h5⟩]
    cases m with
    | zero=>rw [if_pos rfl];exact⟨_,H,t,rfl,h,hk⟩
    | succ m'=>
     rw [if_neg (by omega)]
     simp only [bW]at hk
     cases hc:and (and (Nat.beq o 0) (Nat.beq (Nat.mul l (sz'+1)) cs.length)) (Nat.ble fl cs.length)with
     | true=>
      rw [hc]at hk
      simp only [am]at hc
      have c1:=cT hc.1.1
      have c2:=cT hc.1.2
      have c3:=cG hc.2
      simp only at hk
      obtain⟨h6,hk⟩:=wu hk
      rw [HY]at hk
      obtain⟨t',h7,h8⟩:=fP h hk
      have h6:bY (l+(m'+1)) bytes=true:=h6
      rw [if_pos ⟨c1,c2,c3⟩,if_pos h6]
      subst h3
      exact⟨_,_,t',rfl,h7,by simpa using h8⟩
     | false=>
      rw [hc]at hk
      have hn:¬ (o=0∧l*(sz'+1)=cs.length∧fl≤cs.length):=by
       rintro⟨c1,c2,c3⟩
       rw [c1,show Nat.mul l (sz'+1)=cs.length from c2,Nat.ble_eq_true_of_le c3]at hc
       simp at hc
      rw [if_neg hn]
      simp only at hk
      split at hk
      ·obtain⟨h6,hk⟩:=kR hk
       obtain⟨h7,hk⟩:=oK hk
       obtain⟨t',h8,h9⟩:=fP h hk
       rw [if_pos ⟨rfl,h6,h7⟩]
       exact⟨_,_,t',rfl,h8,by simpa using h9⟩
      ·exact hk.elim
   ·exact hk.elim
  ·exact hk.elim
end Km
end
section
set_option linter.unusedVariables false
namespace Km
open Go
abbrev ji:=Callee→List V→HT→Nat→(V→HT→Nat→Prop)→Prop
def xJ(call:dL)(bD:ji):Prop:=
 ∀(c:Callee) (args:List V) (H:Heap) (t:HT) (k:V→HT→Nat→Prop),dS H t→bD c args t H.length k→∃ v H' t',call c args H=some (v,H')∧dS H' t'∧k v t' H'.length
def Ho{α β:Type}(g:α→(β→Prop)→Prop)(xs:List α):(List β→Prop)→Prop:=
 List.rec (motive:=fun _=>(List β→Prop)→Prop) (fun k=>k []) (fun x _ ih k=>g x fun y=>ih fun ys=>k (y::ys)) xs
theorem lY{α β:Type}{g:α→(β→Prop)→Prop}{f:α→Option β}(hg:∀ x k,g x k→∃ y,f x=some y∧k y):∀ {xs:List α} {k:List β→Prop},Ho g xs k→∃ ys,bC f xs=some ys∧k ys
 | [],k,h=>⟨[],rfl,h⟩
 | x::xs,k,h=>by
  obtain⟨y,h1,h⟩:=hg x _ h
  obtain⟨ys,h2,h3⟩:=lY hg (xs:=xs) h
  exact⟨y::ys,by simp [bC,h1,h2],h3⟩
def exK(t:HT)(m:Nat):C→(FC→Prop)→Prop:=
 Nat.rec (motive:=fun _=>C→(FC→Prop)→Prop) (fun x k=>match x with
   | .f y=>k y
   | _=>False)
  (fun _ ih x k=>match x with
   | .f y=>k y
   | .ptr b off _=>jY b t fun blk=>match blk with
    | .box cs _=>Ho ih cs fun fs=>k (.fp fs off)
    | _=>False
   | .sl b o l _ ep sz=>jY b t fun blk=>match blk with
    | .box cs _=>yG o cs fun cs=>qj (Nat.mul l sz) cs fun cs=>Ho ih cs fun fs=>k (.fs fs l)
    | .opn s cs _ e .loc=>kY ep e (kY sz s (yG o cs fun cs=>qj (Nat.mul l sz) cs fun cs=>Ho ih cs fun fs=>k (.fs fs l)))
    | .opn s cs _ e .nil=>kY ep e (kY sz s (k .aA))
    | .opn s cs _ e .es=>kY ep e (kY sz s (k .es))
    | _=>False
   | .cl f caps=>Ho ih caps fun fs=>k (.fn f fs)
   | _=>False) m
theorem akv{H:Heap}{t:HT}(h:dS H t):∀(m:Nat) (x:C) (k:FC→Prop),exK t m x k→∃ y,exC m H x=some y∧k y:=by
 intro m
 induction m with
 | zero=>
  intro x k hk
  cases x with
  | f y=>exact⟨y,rfl,hk⟩
  | _=>exact hk.elim
 | succ m ih=>
  intro x k hk
  cases x with
  | f y=>exact⟨y,rfl,hk⟩
  | ptr b off ep=>
   obtain⟨blk,h1,h2⟩:=eP hk
   rw [h]at h1
   have h1:H[b]?=some blk:=h1
   cases blk with
   | box cs fl=>
    obtain⟨fs,h3,h4⟩:=lY ih h2
    exact⟨_,by simp only [exC,h1,h3];rfl,h4⟩
   | _=>exact h2.elim
  | sl b o l cap ep sz=>
   obtain⟨blk,h1,h2⟩:=eP hk
   rw [h]at h1
   have h1:H[b]?=some blk:=h1
   cases blk with
   | box cs fl=>
    obtain⟨h5,h2⟩:=mg h2
    obtain⟨h6,h2⟩:=jq h2
    obtain⟨fs,h3,h4⟩:=lY ih h2
    rw [cF]at h6
    have h6:l*sz≤_:=h6
    have h3:bC (exC m H) ((cs.drop o).take (l*sz))=some fs:=h3
    exact⟨_,by simp only [exC,h1];rw [if_pos (by omega),h3];rfl,h4⟩
   | opn s cs fl e st=>
    cases st with
    | loc=>
     obtain⟨h7,h2⟩:=dQ h2
     obtain⟨h8,h2⟩:=dQ h2
     obtain⟨h5,h2⟩:=mg h2
     obtain⟨h6,h2⟩:=jq h2
     obtain⟨fs,h3,h4⟩:=lY ih h2
     rw [cF]at h6
     have h6:l*sz≤_:=h6
     have h3:bC (exC m H) ((cs.drop o).take (l*sz))=some fs:=h3
     exact⟨_,by simp only [exC,h1];rw [if_pos ⟨h7,h8,by omega⟩,h3];rfl,h4⟩
    | nil=>
     obtain⟨h7,h2⟩:=dQ h2
     obtain⟨h8,h2⟩:=dQ h2
     exact⟨_,by simp only [exC,h1];rw [if_pos ⟨h7,h8⟩],h2⟩
    | es=>
     obtain⟨h7,h2⟩:=dQ h2
     obtain⟨h8,h2⟩:=dQ h2
     exact⟨_,by simp only [exC,h1];rw [if_pos ⟨h7,h8⟩],h2⟩
   | _=>exact h2.elim
  | cl f caps=>
   obtain⟨fs,h3,h4⟩:=lY ih hk
   exact⟨_,by simp only [exC,h3];rfl,h4⟩
  | _=>exact hk.elim
def SY(t:HT)(v:V)(k:V→Prop):Prop:=match v with
 | .c x=>exK t deep x fun y=>k (.c (.f y))
 | .a xs=>Ho (exK t deep) xs fun ys=>fzK ys fun cs=>k (.a cs)
 | _=>False
theorem xg{H:Heap}{t:HT}(h:dS H t)(v:V)(k:V→Prop)(hk:SY t v k):∃ y,dM deep H v=some y∧k y:=by
 cases v with
 | c x=>
  obtain⟨y,h1,h2⟩:=akv h deep x _ hk
  exact⟨_,by simp only [dM,h1];rfl,h2⟩
 | a xs=>
  obtain⟨ys,h1,h2⟩:=lY (akv h deep) hk
  rw [yx]at h2
  exact⟨_,by simp only [dM,h1];rfl,h2⟩
 | _=>exact hk.elim
def aOm(t:HT)(v:V)(k:V→Prop):Prop:=match v with
 | .t vs=>Ho (SY t) vs fun vs=>k (.t vs)
 | v=>SY t v k
theorem aAl{H:Heap}{t:HT}(h:dS H t)(v:V)(k:V→Prop)(hk:aOm t v k):∃ y,exV deep H v=some y∧k y:=by
 cases v with
 | t vs=>
  obtain⟨ys,h1,h2⟩:=lY (xg h) hk
  exact⟨_,by simp only [exV,h1];rfl,h2⟩
 | c x=>exact xg h (.c x) k hk
 | a xs=>exact xg h (.a xs) k hk
 | top=>exact hk.elim
def Na{α:Type}(g:α→HT→(HT→Prop)→Prop)(xs:List α):HT→(HT→Prop)→Prop:=
 List.rec (motive:=fun _=>HT→(HT→Prop)→Prop) (fun t k=>k t) (fun x _ ih t k=>g x t fun t=>ih t k) xs
def MkS{α:Type}(g:α→HT→(HT→Prop)→Prop)(f:Heap→α→Heap):Prop:=∀(x:α) (H:Heap) (t:HT) (k:HT→Prop),dS H t→g x t k→∃ t',dS (f H x) t'∧k t'
theorem pF{α:Type}{g:α→HT→(HT→Prop)→Prop}{f:Heap→α→Heap}(hg:MkS g f):∀(xs:List α) (H:Heap) (t:HT) (k:HT→Prop),dS H t→Na g xs t k→∃ t',dS (xs.foldl f H) t'∧k t'
 | [],H,t,k,h,hk=>⟨t,h,hk⟩
 | x::xs,H,t,k,h,hk=>by
  obtain⟨t1,h1,h2⟩:=hg x H t _ h hk
  exact pF hg xs _ t1 k h1 h2
def mkK(m:Nat):C→HT→(HT→Prop)→Prop:=
 Nat.rec (motive:=fun _=>C→HT→(HT→Prop)→Prop) (fun _ t k=>k t)
  (fun _ ih x t k=>match x with
   | .f _=>k t
   | .ptr b _ _=>jY b t fun blk=>match blk with
    | .box cs fl=>bU (Nat.max fl cs.length) fun fl=>jX (.box cs fl) t b fun t=>Na ih cs t k
    | _=>k t
   | .sl b o l _ _ sz=>jY b t fun blk=>match blk with
    | .box cs fl=>bU (Nat.max fl (Nat.add o (Nat.mul l sz))) fun fl=>jX (.box cs fl) t b fun t=>BP o cs fun cs=>qj (Nat.mul l sz) cs fun cs=>Na ih cs t k
    | .opn s cs fl e st=>bU (Nat.max fl (Nat.add o (Nat.mul l sz))) fun fl=>jX (.opn s cs fl e st) t b fun t=>BP o cs fun cs=>qj (Nat.mul l sz) cs fun cs=>Na ih cs t k
    | _=>k t
   | .cl _ caps=>Na ih caps t k
   | _=>k t) m
theorem ajR:∀(m:Nat),MkS (mkK m) (fun H x=>mkC m x H):=by
 intro m
 induction m with
 | zero=>intro x H t k h hk;exact⟨t,by cases x<;>exact h,hk⟩
 | succ m ih=>
  intro x H t k h hk
  cases x with
  | f y=>exact⟨t,h,hk⟩
  | ptr b off ep=>
   obtain⟨blk,h1,h2⟩:=eP hk
   rw [h]at h1
   have h1:H[b]?=some blk:=h1
   cases blk with
   | box cs fl=>
    change bU _ _ at h2
    rw [bW]at h2
    obtain⟨t1,h3,h4⟩:=fP h h2
    simp only [mkC,h1]
    exact pF ih cs _ t1 k h3 h4
   | _=>simp only [mkC,h1];exact⟨t,h,h2⟩
  | sl b o l cap ep sz=>
   obtain⟨blk,h1,h2⟩:=eP hk
   rw [h]at h1
   have h1:H[b]?=some blk:=h1
   cases blk with
   | box cs fl=>
    change bU _ _ at h2
    rw [bW]at h2
    obtain⟨t1,h3,h4⟩:=fP h h2
    rw [qZ]at h4
    obtain⟨_,h4⟩:=jq h4
    simp only [mkC,h1]
    exact pF ih _ _ t1 k h3 h4
   | opn s cs fl e st=>
    change bU _ _ at h2
    rw [bW]at h2
    obtain⟨t1,h3,h4⟩:=fP h h2
    rw [qZ]at h4
    obtain⟨_,h4⟩:=jq h4
    simp only [mkC,h1]
    exact pF ih _ _ t1 k h3 h4
   | _=>simp only [mkC,h1];exact⟨t,h,h2⟩
  | cl f caps=>
   simp only [mkC]
   exact pF ih _ _ t k h hk
  | _=>exact⟨t,h,hk⟩
def aNm(v:V)(t:HT)(k:HT→Prop):Prop:=match v with
 | .c x=>mkK deep x t k
 | .a xs=>Na (mkK deep) xs t k
 | _=>k t
theorem azA:MkS aNm (mkV deep):=by
 intro v H t k h hk
 cases v with
 | c x=>exact ajR deep x H t k h hk
 | a xs=>exact pF (ajR deep) xs H t k h hk
 | _=>exact⟨t,h,hk⟩
def aDX(call:ji)(f:Nat)(vs:List V)(t:HT)(n:Nat)(k:V→HT→Nat→Prop):Prop:=
 Ho (SY t) vs fun fs=>call (.fn f) fs .e 0 fun rv t' _=>aOm t' rv fun rv=>Na aNm vs t fun t=>k rv t n
theorem aje{call:dL}{bD:ji}(hc:xJ call bD){f:Nat}{vs:List V}{H:Heap}{t:HT}{k:V→HT→Nat→Prop}(h:dS H t)(hk:aDX bD f vs t H.length k) :
  ∃ v H' t',gJ call f vs H=some (v,H')∧dS H' t'∧k v t' H'.length:=by
 obtain⟨fs,h1,hk⟩:=lY (xg h) hk
 obtain⟨rv,H1,t1,h2,h3,hk⟩:=hc (.fn f) fs [] .e _ dS.nil hk
 obtain⟨rv',h4,hk⟩:=aAl h3 rv _ hk
 obtain⟨t',h5,hk⟩:=pF azA vs H t _ h hk
 refine⟨rv',_,t',by simp only [gJ,h1,h2,h4],h5,?_⟩
 rw [←(rY deep vs H).1];exact hk
abbrev Arm:=ji→T→List fF→HT→Nat→(V→List fF→HT→Nat→Prop)→Prop
def jy(op:AOp):Arm:=fun _ r d t n k=>aOi op r t n fun v t n=>k v d t n
def aJM(x:Arg):Arm:=fun _ r d t n k=>evK x r fun v=>k v d t n
def ak4(c a b:Arg):Arm:=fun _ r d t n k=>evK c r fun v=>match v with
 | .c (.f (.bool v))=>Bool.rec (motive:=fun _=>Prop) (evK b r fun v=>k v d t n) (evK a r fun v=>k v d t n) v
 | _=>False
def Oy(zs:List FC):Arm:=fun _ r d t n k=>fzK zs fun cs=>uz (.box cs 0) t n fun t n'=>k (.c (.ptr n 0 0)) d t n'
def aJP(x:Arg):Arm:=fun _ r d t n k=>evK x r fun v=>Cc v fun xs=>uz (.box xs 0) t n fun t n'=>k (.c (.ptr n 0 0)) d t n'
def Ox(zs:List FC)(ps:List (Nat × Nat × Arg)):Arm:=fun _ r d t n k=>fzK zs fun cs=>MN r ps cs fun cs=>k (.a cs) d t n
def ak5(m:Option Nat)(x:Arg):Arm:=fun _ r d t n k=>evK x r fun v=>ldK t m v fun v=>k v d t n
def Oq(m:Nat)(x y:Arg):Arm:=fun _ r d t n k=>evK x r fun v=>evK y r fun y=>Cc y fun xs=>kY xs.length m (match v with
 | .c p=>stK t p xs fun t=>k .top d t n
 | _=>False)
def Ih(x:Arg):Arm:=fun _ r d t n k=>evK x r fun v=>match v with
 | .c (.ptr b o e)=>k (.c (.ptr b o e)) d t n
 | .c (.f (.fp cs o))=>k (.c (.f (.fp cs o))) d t n
 | _=>False
def aJQ(op:BinOp)(x y:Arg):Arm:=fun _ r d t n k=>evK x r fun x=>evK y r fun y=>aJH op x y fun v=>k v d t n
def aJO(j:IntKind)(x:Arg):Arm:=fun _ r d t n k=>evK x r fun v=>match v with
 | .c (.f (.int _ m))=>DL j m fun m=>k (.c (.f (.int j m))) d t n
 | _=>False
def Ij(off:Nat)(x:Arg):Arm:=fun _ r d t n k=>evK x r fun v=>match v with
 | .c (.ptr b o e)=>bU (Nat.add o off) fun o=>k (.c (.ptr b o e)) d t n
 | .c (.f (.fp cs o))=>bU (Nat.add o off) fun o=>k (.c (.f (.fp cs o))) d t n
 | _=>False
def Ot(off:Nat)(m:Option Nat)(x:Arg):Arm:=fun _ r d t n k=>evK x r fun v=>match v with
 | .a xs=>Ry m off xs fun v=>k v d t n
 | _=>False
def Ii(sz:Nat)(arr:Option Nat)(x i:Arg):Arm:=fun _ r d t n k=>evK x r fun x=>evK i r fun i=>akh t sz arr x i fun v=>k v d t n
def CJ(x:Arg)(i:Nat):Arm:=fun _ r d t n k=>evK x r fun v=>match v with
 | .t vs=>azt i vs fun v=>k v d t n
 | _=>False
def ak6(f:Nat)(args:List Arg)(h:Bool):Arm:=fun call r d t n k=>KQ args r fun vs=>
 Bool.rec (motive:=fun _=>Prop) (aDX call f vs t n fun v t n=>k v d t n) (call (.fn f) vs t n fun v t n=>k v d t n) h
def Ov(x:Arg)(args:List Arg)(_:Bool):Arm:=fun call r d t n k=>evK x r fun x=>KQ args r fun vs=>
 x9 (cZ x vs) fun ca=>Prod.rec (motive:=fun _=>Prop) (fun c vs=>call c vs t n fun v t n=>k v d t n) ca
def aEf(m:Nat):Arm:=fun _ r d t n k=>k (.c (.f (.int .i64 (.ofNat m)))) d t n
def aJN(x:Arg):Arm:=fun _ r d t n k=>evK x r fun v=>aIf t v fun m=>k (.c (.f (.int .i64 (.ofNat m)))) d t n
def Ik(sz bytes:Nat)(x y:Arg):Arm:=fun _ r d t n k=>evK x r fun x=>evK y r fun y=>aOQ t n sz bytes x y fun v t n=>k v d t n
def KY:Arm:=fun _ r d t n k=>k (.c (.f .qL)) d t n
def Ou(x:Arg)(args:List Arg):Arm:=fun _ r d t n k=>evK x r fun x=>KQ args r fun vs=>
 x9 (cZ x vs) fun ca=>Prod.rec (motive:=fun _=>Prop) (fun c vs=>Callee.rec (motive:=fun _=>Prop) (fun f=>k .top (.fn f vs::d) t n) (fun _=>False) c) ca
def aM5(op:AOp):Arm:=
 AOp.rec (motive:=fun _=>Arm)
  aJM (fun o s=>jy (.pre o s)) ak4 Oy aJP Ox (fun a b c e=>jy (.aY a b c e)) ak5 Oq Ih aJQ
  (fun a b c e=>jy (.eq a b c e)) (fun a b=>jy (.un a b)) aJO (fun a=>jy (.Hu a)) (fun a=>jy (.Hw a)) (fun a=>jy (.NW a)) (fun a b=>jy (.jG a b)) (jy .qp)
  (fun a b c e=>jy (.lookup a b c e)) (fun a b c e=>jy (.qw a b c e)) (fun a b c e f=>jy (.dX a b c e f)) (fun a b c e f=>jy (.slice a b c e f)) (fun a b c e f g=>jy (.uw a b c e f g)) (fun a b c=>jy (.vW a b c))
  Ij Ot Ii (fun a b=>jy (.idxs a b)) (fun a b c e f=>jy (.G5 a b c e f)) (fun a=>jy (.range a)) (fun a=>jy (.next a)) CJ ak6 Ov aJN aEf (fun a=>jy (.lens a)) (fun a=>jy (.cap a))
  Ik (fun a b c=>jy (.copy a b c)) (fun a b=>jy (.kJ a b)) (fun a b c e f=>jy (.xB a b c e f)) (fun a b c=>jy (.clear a b c)) (fun a=>jy (.nT a)) (fun a=>jy (.uD a)) (fun a=>jy (.entry a)) (fun a b=>jy (.Dv a b)) (fun a b c e=>jy (.vX a b c e)) KY Ou (jy .bad) op
theorem azr{call:dL}{bD:ji}(hc:xJ call bD)(op:AOp){r:T}{d:List fF}{H:Heap}{t:HT}{k:V→List fF→HT→Nat→Prop}(h:dS H t)(hk:aM5 op bD r d t H.length k) :
  ∃ v d' H' t',iC call ⟨r,d,H⟩ op=some (v,⟨r,d',H'⟩)∧dS H' t'∧k v d' t' H'.length:=by
 have go:∀ {v H' t'},iC call ⟨r,d,H⟩ op=(xOp r H op).map (fun r'=>(r'.1,⟨r,d,r'.2⟩))→xOp r H op=some (v,H')→dS H' t'→k v d t' H'.length →
   ∃ v d' H' t',iC call ⟨r,d,H⟩ op=some (v,⟨r,d',H'⟩)∧dS H' t'∧k v d' t' H'.length:=
  fun h1 h2 h3 h4=>⟨_,d,_,_,by rw [h1,h2];rfl,h3,h4⟩
 have gen:iC call ⟨r,d,H⟩ op=(xOp r H op).map (fun r'=>(r'.1,⟨r,d,r'.2⟩))→jy op bD r d t H.length k →
   ∃ v d' H' t',iC call ⟨r,d,H⟩ op=some (v,⟨r,d',H'⟩)∧dS H' t'∧k v d' t' H'.length:=fun h1 h2=>by
  obtain⟨v,H',t',h3,h4,h5⟩:=aAh op r H t _ h h2
  exact go h1 h3 h4 h5
 cases op
 case mov x=>
  have hk:aJM x bD r d t H.length k:=hk
  unfold aJM at hk;rw [eu]at hk
  exact go rfl rfl h hk
 case pick c a b=>
  have hk:ak4 c a b bD r d t H.length k:=hk
  unfold ak4 at hk;rw [eu]at hk
  split at hk
  ·rename_i v hv
   cases v with
   | true=>
    simp only [eu]at hk
    exact go rfl (by simp only [xOp,hv];rfl) h hk
   | false=>
    simp only [eu]at hk
    exact go rfl (by simp only [xOp,hv];rfl) h hk
  ·exact hk.elim
 case alloc zs=>
  have hk:Oy zs bD r d t H.length k:=hk
  unfold Oy at hk;rw [yx]at hk
  obtain⟨t',h1,h2⟩:=kU h hk
  exact go rfl rfl h1 h2
 case box x=>
  have hk:aJP x bD r d t H.length k:=hk
  unfold aJP at hk;rw [eu]at hk
  obtain⟨xs,h3,hk⟩:=yH hk
  obtain⟨t',h1,h2⟩:=kU h hk
  exact go rfl (by simp only [xOp,h3]) h1 h2
 case build zs ps=>
  have hk:Ox zs ps bD r d t H.length k:=hk
  unfold Ox at hk;rw [yx]at hk
  obtain⟨cs,h3,hk⟩:=D6 r hk
  exact go rfl (by simp only [xOp,h3];rfl) h hk
 case load m x=>
  have hk:ak5 m x bD r d t H.length k:=hk
  unfold ak5 at hk;rw [eu]at hk
  obtain⟨v,h3,hk⟩:=akb h hk
  exact go rfl (by simp only [xOp,h3];rfl) h hk
 case store m x y=>
  have hk:Oq m x y bD r d t H.length k:=hk
  unfold Oq at hk;rw [eu,eu]at hk
  obtain⟨xs,h3,hk⟩:=yH hk
  obtain⟨h4,hk⟩:=dQ hk
  split at hk
  ·rename_i p hp
   obtain⟨H',t',h5,h6,h7,hk⟩:=aEs h hk
   exact go rfl (by simp only [xOp,hp,h3,h4,if_true,h5];rfl) h6 (by rw [h7];exact hk)
  ·exact hk.elim
 case bF x=>
  have hk:Ih x bD r d t H.length k:=hk
  unfold Ih at hk;rw [eu]at hk
  split at hk
  ·rename_i hv;exact go rfl (by simp only [xOp,hv]) h hk
  ·rename_i hv;exact go rfl (by simp only [xOp,hv]) h hk
  ·exact hk.elim
 case bin op x y=>
  have hk:aJQ op x y bD r d t H.length k:=hk
  unfold aJQ at hk;rw [eu,eu]at hk
  obtain⟨v,h3,hk⟩:=aAC hk
  exact go rfl (by simp only [xOp,h3];rfl) h hk
 case cvi j x=>
  have hk:aJO j x bD r d t H.length k:=hk
  unfold aJO at hk;rw [eu]at hk
  split at hk
  ·rename_i hv
   simp only [vT]at hk
   exact go rfl (by simp only [xOp,hv];rfl) h hk
  ·exact hk.elim
 case au off x=>
  have hk:Ij off x bD r d t H.length k:=hk
  unfold Ij at hk;rw [eu]at hk
  split at hk
  ·rename_i hv;rw [bW]at hk;exact go rfl (by simp only [xOp,hv,lW];rfl) h hk
  ·rename_i hv;rw [bW]at hk;exact go rfl (by simp only [xOp,hv,lW];rfl) h hk
  ·exact hk.elim
 case field off m x=>
  have hk:Ot off m x bD r d t H.length k:=hk
  unfold Ot at hk;rw [eu]at hk
  split at hk
  ·rename_i hv
   obtain⟨v,h3,hk⟩:=AY hk
   exact go rfl (by simp only [xOp,hv,yF,h3];rfl) h hk
  ·exact hk.elim
 case aC sz arr x i=>
  have hk:Ii sz arr x i bD r d t H.length k:=hk
  unfold Ii at hk;rw [eu,eu]at hk
  obtain⟨v,h3,hk⟩:=U2 h hk
  exact go rfl (by simp only [xOp,h3];rfl) h hk
 case extract x i=>
  have hk:CJ x i bD r d t H.length k:=hk
  unfold CJ at hk;rw [eu]at hk
  split at hk
  ·rename_i hv
   obtain⟨v,h3,hk⟩:=zU hk
   exact go rfl (by simp only [xOp,hv,h3];rfl) h hk
  ·exact hk.elim
 case call f args hh=>
  have hk:ak6 f args hh bD r d t H.length k:=hk
  unfold ak6 at hk;rw [xA]at hk
  cases hh with
  | false=>
   obtain⟨v,H',t',h1,h2,h3⟩:=aje hc h hk
   exact⟨v,d,H',t',by simp only [iC,jQ,aL,if_false,h1];rfl,h2,h3⟩
  | true=>
   obtain⟨v,H',t',h1,h2,h3⟩:=hc _ _ H t _ h hk
   exact⟨v,d,H',t',by simp only [iC,jQ,if_true,h1];rfl,h2,h3⟩
 case bP x args hh=>
  have hk:Ov x args hh bD r d t H.length k:=hk
  unfold Ov at hk;rw [eu,xA]at hk
  obtain⟨⟨c,vs⟩,h1,hk⟩:=nH hk
  obtain⟨v,H',t',h2,h3,h4⟩:=hc c vs H t _ h hk
  exact⟨v,d,H',t',by simp only [iC,h1,h2];rfl,h3,h4⟩
 case len x=>
  have hk:aJN x bD r d t H.length k:=hk
  unfold aJN at hk;rw [eu]at hk
  obtain⟨y,m,h1,h2,hk⟩:=azE h hk
  exact go rfl (by simp only [xOp,h1,h2];rfl) h hk
 case BG m=>
  have hk:aEf m bD r d t H.length k:=hk
  exact go rfl rfl h hk
 case append sz bytes x y=>
  have hk:Ik sz bytes x y bD r d t H.length k:=hk
  unfold Ik at hk;rw [eu,eu]at hk
  obtain⟨v,H',t',h1,h2,h3⟩:=aAG h hk
  exact go rfl (by simp only [xOp,h1]) h2 h3
 case recover=>
  have hk:KY bD r d t H.length k:=hk
  exact⟨_,d,H,t,rfl,h,hk⟩
 case defer x args=>
  have hk:Ou x args bD r d t H.length k:=hk
  unfold Ou at hk;rw [eu,xA]at hk
  obtain⟨⟨c,vs⟩,h1,hk⟩:=nH hk
  cases c with
  | fn f=>exact⟨_,.fn f vs::d,H,t,by simp only [iC,h1],h,hk⟩
  | yield b=>exact hk.elim
 all_goals exact gen rfl hk
end Km
end
section
set_option linter.unusedVariables false
namespace Km
open Go
def aDO(g:Option (P × Bool))(r:T)(yes no:Prop):Prop:=
 Option.rec (motive:=fun _=>Prop) yes (fun pw=>Prod.rec (motive:=fun _=>Prop) (fun p w=>Kq p r fun v=>match v with
  | .c (.f (.bool b))=>Bool.rec (motive:=fun _=>Prop) (Bool.rec (motive:=fun _=>Prop) yes no w) (Bool.rec (motive:=fun _=>Prop) no yes w) b
  | .t []=>no
  | _=>False) pw) g
theorem aiu{g:Option (P × Bool)}{r:T}{yes no:Prop}(h:aDO g r yes no):(wanted r g=some true∧yes)∨(wanted r g=some false∧no):=by
 cases g with
 | none=>exact .inl ⟨rfl,h⟩
 | some pw=>
  obtain⟨p,w⟩:=pw
  change Kq p r _ at h
  rw [sF]at h
  simp only [wanted]
  split at h
  ·rename_i b hv
   rw [hv]
   cases b<;>cases w
   ·exact .inl ⟨rfl,h⟩
   ·exact .inr ⟨rfl,h⟩
   ·exact .inr ⟨rfl,h⟩
   ·exact .inl ⟨rfl,h⟩
  ·rename_i hv;rw [hv];exact .inr ⟨rfl,h⟩
  ·exact h.elim
abbrev KSt:=T→List fF→HT→Nat→Prop
def aiF(o:aV)(call:ji)(r:T)(d:List fF)(t:HT)(n:Nat)(k:KSt):Prop:=
 aV.rec (motive:=fun _=>Prop) (fun dst op g=>aDO g r (aM5 op call r d t n fun v d t n=>aFq dst r v fun r=>k r d t n) (aFq dst r (.t []) fun r=>k r d t n)) o
theorem I9{call:dL}{bD:ji}(hc:xJ call bD){o:aV}{r:T}{d:List fF}{H:Heap}{t:HT}{k:KSt}(h:dS H t)(hk:aiF o bD r d t H.length k) :
  ∃ s' t',jh call ⟨r,d,H⟩ o=some s'∧dS s'.heap t'∧k s'.regs s'.defs t' s'.heap.length:=by
 obtain⟨dst,op,g⟩:=o
 rcases aiu hk with⟨hw,hk⟩ | ⟨hw,hk⟩
 ·obtain⟨v,d',H',t',h1,h2,h3⟩:=azr hc op h hk
  rw [Ro]at h3
  exact⟨⟨mP r dst v,d',H'⟩,t',by simp only [jh,hw,h1],h2,h3⟩
 ·rw [Ro]at hk
  exact⟨⟨mP r dst (.t []),d,H⟩,t,by simp only [jh,hw],h,hk⟩
def aMY(ops:List aV)(call:ji):T→List fF→HT→Nat→KSt→Prop:=
 List.rec (motive:=fun _=>T→List fF→HT→Nat→KSt→Prop) (fun r d t n k=>k r d t n) (fun o _ ih r d t n k=>aiF o call r d t n fun r d t n=>ih r d t n k) ops
theorem RJ{call:dL}{bD:ji}(hc:xJ call bD):∀ {ops:List aV} {r:T} {d:List fF} {H:Heap} {t:HT} {k:KSt},dS H t→aMY ops bD r d t H.length k →
  ∃ s' t',iU call ops ⟨r,d,H⟩=some s'∧dS s'.heap t'∧k s'.regs s'.defs t' s'.heap.length
 | [],r,d,H,t,k,h,hk=>⟨⟨r,d,H⟩,t,rfl,h,hk⟩
 | o::ops,r,d,H,t,k,h,hk=>by
  obtain⟨s1,t1,h1,h2,h3⟩:=I9 hc h hk
  obtain⟨s2,t2,h4,h5,h6⟩:=RJ hc (r:=s1.regs) (d:=s1.defs) (H:=s1.heap) h2 h3
  exact⟨s2,t2,by simp only [iU,h1];exact h4,h5,h6⟩
structure CP where
 r:T
 d:List fF
 t:HT
 n:Nat
def F5(ops:List aV)(call:ji):T→List fF→HT→Nat→(List CP→KSt)→Prop:=
 List.rec (motive:=fun _=>T→List fF→HT→Nat→(List CP→KSt)→Prop) (fun r d t n k=>k [⟨r,d,t,n⟩] r d t n)
  (fun o _ ih r d t n k=>aiF o call r d t n fun r' d' t' n'=>ih r' d' t' n' fun ss r'' d'' t'' n''=>k (⟨r,d,t,n⟩::ss) r'' d'' t'' n'') ops
def aEg(s:St)(x:CP):Prop:=x.r=s.regs∧x.d=s.defs∧dS s.heap x.t∧x.n=s.heap.length
inductive CO:List St→List CP→Prop
 | nil:CO [] []
 | cons {s:St} {x:CP} {ss:List St} {xs:List CP} (h:aEg s x) (hs:CO ss xs):CO (s::ss) (x::xs)
theorem CO.get{ss:List St}{xs:List CP}(h:CO ss xs):∀(i:Nat) (x:CP),xs[i]?=some x→∃ s,ss[i]?=some s∧aEg s x:=by
 induction h with
 | nil=>intro i x hx;simp at hx
 | cons h hs ih=>
  intro i x hx
  cases i with
  | zero=>simp at hx;subst hx;exact⟨_,rfl,h⟩
  | succ i=>simpa using ih i x (by simpa using hx)
theorem Au{call:dL}{bD:ji}(hc:xJ call bD):∀ {ops:List aV} {r:T} {d:List fF} {H:Heap} {t:HT} {k:List CP→KSt},dS H t→F5 ops bD r d t H.length k →
  ∃ ss xs s' t',fG call ops ⟨r,d,H⟩=some ss∧CO ss xs∧ss.getLast?=some s'∧dS s'.heap t'∧k xs s'.regs s'.defs t' s'.heap.length
 | [],r,d,H,t,k,h,hk=>⟨[⟨r,d,H⟩],[⟨r,d,t,H.length⟩],⟨r,d,H⟩,t,rfl,.cons ⟨rfl,rfl,h,rfl⟩ .nil,rfl,h,hk⟩
 | o::ops,r,d,H,t,k,h,hk=>by
  obtain⟨s1,t1,h1,h2,h3⟩:=I9 hc h hk
  obtain⟨ss,xs,s2,t2,h4,h5,h6,h7,h8⟩:=Au hc (r:=s1.regs) (d:=s1.defs) (H:=s1.heap) h2 h3
  refine⟨⟨r,d,H⟩::ss,⟨r,d,t,H.length⟩::xs,s2,t2,by simp only [fG,h1];rw [h4],.cons ⟨rfl,rfl,h,rfl⟩ h5,?_,h7,h8⟩
  cases ss with
  | nil=>simp at h6
  | cons a as=>simpa using h6
def Q9(ops:List aV)(xs:List CP)(c:Nat × Nat):Bool:=
 match ops[c.1]?,xs[c.1]?,xs[c.2]? with
 | some o,some s,some s'=>match wanted s.r o.g with
  | some false=>true
  | _=>match air s.r s.t.get s.n o.op,air s.r s'.t.get s'.n o.op with
   | some (v,_),some (v',_)=>v.beq v'
   | _,_=>false
 | _,_,_=>false
theorem aiS{ops:List aV}{ss:List St}{xs:List CP}(h:CO ss xs){c:Nat × Nat}(hc:Q9 ops xs c=true):sameAt ops ss c=true:=by
 unfold Q9 at hc
 split at hc
 ·rename_i o x x' h1 h2 h3
  obtain⟨s,g1,g2,g3,g4,g5⟩:=h.get _ _ h2
  obtain⟨s',k1,k2,k3,k4,k5⟩:=h.get _ _ h3
  unfold sameAt
  rw [h1,g1,k1]
  simp only
  rw [←g2]
  split at hc
  ·rename_i hw;rw [hw]
  ·split at hc
   ·rename_i v e v' e' h4 h5
    rw [g4,g5]at h4
    rw [k4,k5]at h5
    have e1:=FT x.r s.heap o.op
    rw [h4]at e1
    have e2:=FT x.r s'.heap o.op
    rw [h5]at e2
    rw [←e1,←e2]
    split
    ·rfl
    ·exact hc
   ·simp at hc
 ·simp at hc
def wz(ops:List aV)(chk:List (Nat × Nat))(call:ji)(r:T)(d:List fF)(t:HT)(n:Nat)(k:KSt):Prop:=
 List.rec (motive:=fun _=>Prop) (aMY ops call r d t n k) (fun _ _ _=>F5 ops call r d t n fun xs r d t n=>zC (chk.all (Q9 ops xs)) (k r d t n)) chk
theorem L9{call:dL}{bD:ji}(hc:xJ call bD){ops:List aV}{chk:List (Nat × Nat)}{r:T}{d:List fF}{H:Heap}{t:HT}{k:KSt}(h:dS H t)(hk:wz ops chk bD r d t H.length k) :
  ∃ s' t',jB call ops chk ⟨r,d,H⟩=some s'∧dS s'.heap t'∧k s'.regs s'.defs t' s'.heap.length:=by
 cases chk with
 | nil=>exact RJ hc h hk
 | cons c cs=>
  have hk:F5 ops bD r d t H.length (fun xs r d t n=>zC ((c::cs).all (Q9 ops xs)) (k r d t n)):=hk
  obtain⟨ss,xs,s',t',h1,h2,h3,h4,h5⟩:=Au hc h hk
  obtain⟨h6,h7⟩:=rC h5
  refine⟨s',t',?_,h4,h7⟩
  simp only [jB,h1]
  rw [if_pos,h3]
  rw [aM]at h6 ⊢
  exact fun c hc=>aiS h2 (h6 c hc)
abbrev Go1:=Option Nat→List dI→KSt
abbrev aAM:=Option ah→KSt
abbrev dw:=ji→Nat→aAM→Go1→Option Nat→List dI→KSt
def Td:dw:=fun _ _ _ go ro rest r d t n=>go ro rest r d t n
def aAA(ops:List aV)(chk:List (Nat × Nat)):dw:=fun call _ _ go ro rest r d t n=>
 Option.rec (motive:=fun _=>Prop) (wz ops chk call r d t n fun r d t n=>go ro rest r d t n)
  (fun _=>zC (ops.all (·.op.gy)) (wz ops chk call r d t n fun r d t n=>go ro rest r d t n)) ro
def aTn(a b:ah)(_ _:dw):dw:=fun _ _ _ go ro rest r d t n=>go ro (.code a::.code b::rest) r d t n
def akO(c:Arg)(a b:ah)(_ _:dw):dw:=fun _ _ _ go ro rest r d t n=>evK c r fun v=>match v with
 | .c (.f (.bool v))=>Bool.rec (motive:=fun _=>Prop) (go ro (.code b::rest) r d t n) (go ro (.code a::rest) r d t n) v
 | _=>False
def aI9(id:Nat)(a:ah)(_:dw):dw:=fun _ _ _ go ro rest r d t n=>go ro (.code a::.inBlock id::rest) r d t n
def aOu(a:ah)(_:dw):dw:=fun _ _ _ go ro rest r d t n=>go ro (.code a::.inLoop a::rest) r d t n
def H8(f:Arg)(ps:List P)(as bd:ah)(_ _:dw):dw:=fun call fn _ go ro rest r d t n=>
 Option.rec (motive:=fun _=>Prop)
  (uz (.dfr true) t n fun t n1=>uz (.lp fn r ps as bd .ready none n) t n1 fun t n2=>evK f r fun x=>
   x9 (cZ x [.c (.yl n1)]) fun ca=>Prod.rec (motive:=fun _=>Prop) (fun c vs=>Callee.rec (motive:=fun _=>Prop)
    (fun g=>call (.fn g) vs t n2 fun _ t n'=>go none (.lF n1::rest) r (.coll n::d) t n') (fun _=>False) c) ca)
  (fun _=>False) ro
def akN(id:Nat):dw:=fun _ _ jT go ro rest r d t n=>
 Option.rec (motive:=fun _=>Prop) (Option.rec (motive:=fun _=>Prop) False (fun _=>jT (some (.exit id)) r d t n) ro) (fun k=>go ro k r d t n) (exitTo id rest)
def aTo:dw:=fun _ _ jT _ _ _ r d t n=>jT (some .ret) r d t n
def aTp:dw:=fun _ _ _ _ _ _ _ _ _ _=>False
def aI7(a:ah)(_:dw):dw:=fun _ _ _ go ro rest r d t n=>go ro (.code a::.inScope a::rest) r d t n
def aI8(_:Nat):dw:=Td
def aOv(l:Nat):dw:=fun _ _ _ go ro rest r d t n=>x9 (gotoIn l rest) fun k=>go ro k r d t n
def KA(c:ah):dw:=ah.rec (motive:=fun _=>dw) Td aAA aTn akO aI9 aOu H8 akN aTo aTp aI7 aI8 aOv c
def aIB(_:Nat):dw:=Td
def aNU(c:ah):dw:=fun _ _ _ go ro rest r d t n=>go ro (.code c::.inLoop c::rest) r d t n
def ND(b:Nat):dw:=fun _ _ _ go ro rest r d t n=>jY b t fun blk=>match blk with
 | .lp f tmps ps as bd st pending dd=>zC (match st with | .busy=>false | _=>true) (jX (.lp f tmps ps as bd .exhausted pending dd) t b fun t=>match pending with
  | none=>go ro rest r d t n
  | some .ret=>go ro (.code .ret::rest) r d t n
  | some (.exit id)=>go ro (.code (.exit id)::rest) r d t n
  | some _=>False)
 | _=>False
def aD6:dw:=fun _ _ _ go ro rest r d t n=>Option.rec (motive:=fun _=>Prop) False (fun b=>jY b t fun blk=>match blk with
 | .lp f tmps ps as bd .ready pending dd=>jX (.lp f tmps ps as bd .busy pending dd) t b fun t=>go ro rest r d t n
 | _=>False) ro
def aIA(_:ah):dw:=Td
def aD5(x:dI):dw:=dI.rec (motive:=fun _=>dw) KA aIB aNU ND aD6 aIA x
def runK(call:ji)(fn:Nat)(jT:aAM)(m:Nat):Go1:=
 Nat.rec (motive:=fun _=>Go1) (fun _ _ _ _ _ _=>False)
  (fun _ ih ro todo r d t n=>List.rec (motive:=fun _=>Prop) (jT none r d t n) (fun x rest _=>aD5 x call fn jT ih ro rest r d t n) todo) m
def aP9(call:dL)(fn m:Nat)(ro:Option Nat)(todo:List dI)(s:St)(jT:aAM):Prop:=
 ∃ jump s' t',run call fn m ro todo s=some (jump,s')∧dS s'.heap t'∧jT jump s'.regs s'.defs t' s'.heap.length
theorem Rj{call:dL}{bD:ji}(hc:xJ call bD)(fn:Nat)(jT:aAM):∀(m:Nat) (ro:Option Nat) (todo:List dI) (r:T) (d:List fF) (H:Heap) (t:HT),
  dS H t→runK bD fn jT m ro todo r d t H.length→aP9 call fn m ro todo ⟨r,d,H⟩ jT:=by
 intro m
 induction m with
 | zero=>intro ro todo r d H t h hk;exact hk.elim
 | succ m ih=>
  intro ro todo r d H t h hk
  have go:∀ {todo'} {s':St} {t':HT},run call fn (m+1) ro todo ⟨r,d,H⟩=run call fn m ro todo' s'→dS s'.heap t'→runK bD fn jT m ro todo' s'.regs s'.defs t' s'.heap.length→aP9 call fn (m+1) ro todo ⟨r,d,H⟩ jT:=by
   intro todo' s' t' h1 h2 h3
   obtain⟨jump,s'',t'',g1,g2,g3⟩:=ih ro todo' s'.regs s'.defs s'.heap t' h2 h3
   exact⟨jump,s'',t'',by rw [h1];exact g1,g2,g3⟩
  cases todo with
  | nil=>exact⟨none,⟨r,d,H⟩,t,rfl,h,hk⟩
  | cons x rest=>
   have hk:aD5 x bD fn jT (runK bD fn jT m) ro rest r d t H.length:=hk
   cases x with
   | inBlock id=>exact go (s':=⟨r,d,H⟩) (by simp only [run]) h hk
   | inLoop c=>exact go (s':=⟨r,d,H⟩) (by simp only [run]) h hk
   | inScope c=>exact go (s':=⟨r,d,H⟩) (by simp only [run]) h hk
   | lF b=>
    have hk:ND b bD fn jT (runK bD fn jT m) ro rest r d t H.length:=hk
    unfold ND at hk
    obtain⟨blk,h1,h2⟩:=eP hk
    rw [h]at h1
    have h1:H[b]?=some blk:=h1
    split at h2
    ·rename_i f tmps ps as bd st pending dd _
     obtain⟨h3,h2⟩:=rC h2
     obtain⟨t',h4,h5⟩:=fP h h2
     have hst:st≠.busy:=by rintro rfl;simp at h3
     have hl:H.length=(H.set b (.lp f tmps ps as bd .exhausted pending dd)).length:=by simp
     rw [hl]at h5
     split at h5
     ·exact go (s':=⟨r,d,H.set b (.lp f tmps ps as bd .exhausted none dd)⟩) (by simp only [run,h1,if_neg hst]) h4 h5
     ·exact go (s':=⟨r,d,H.set b (.lp f tmps ps as bd .exhausted (some .ret) dd)⟩) (by simp only [run,h1,if_neg hst]) h4 h5
     ·exact go (s':=⟨r,d,H.set b (.lp f tmps ps as bd .exhausted (some (.exit _)) dd)⟩) (by simp only [run,h1,if_neg hst]) h4 h5
     ·exact h5.elim
    ·exact h2.elim
   | rE=>
    have hk:aD6 bD fn jT (runK bD fn jT m) ro rest r d t H.length:=hk
    cases ro with
    | none=>exact hk.elim
    | some b=>
     obtain⟨blk,h1,h2⟩:=eP hk
     rw [h]at h1
     have h1:H[b]?=some blk:=h1
     split at h2
     ·rename_i f tmps ps as bd pending dd _
      obtain⟨t',h4,h5⟩:=fP h h2
      have hl:H.length=(H.set b (.lp f tmps ps as bd .busy pending dd)).length:=by simp
      rw [hl]at h5
      exact go (s':=⟨r,d,H.set b (.lp f tmps ps as bd .busy pending dd)⟩) (by simp only [run,h1]) h4 h5
     ·exact h2.elim
   | code c=>
    cases c with
    | skip=>exact go (s':=⟨r,d,H⟩) (by simp only [run]) h hk
    | label l=>exact go (s':=⟨r,d,H⟩) (by simp only [run]) h hk
    | scope a=>exact go (s':=⟨r,d,H⟩) (by simp only [run]) h hk
    | goto l=>
     obtain⟨k',he,hk⟩:=nH (show x9 (gotoIn l rest) (fun k'=>runK bD fn jT m ro k' r d t H.length) from hk)
     exact go (s':=⟨r,d,H⟩) (by simp only [run,he]) h hk
    | bad=>exact hk.elim
    | ret=>exact⟨some .ret,⟨r,d,H⟩,t,rfl,h,hk⟩
    | seq a b=>exact go (s':=⟨r,d,H⟩) (by simp only [run]) h hk
    | block id a=>exact go (s':=⟨r,d,H⟩) (by simp only [run]) h hk
    | loop a=>exact go (s':=⟨r,d,H⟩) (by simp only [run]) h hk
    | exit id=>
     have hk:akN id bD fn jT (runK bD fn jT m) ro rest r d t H.length:=hk
     unfold akN at hk
     cases he:exitTo id rest with
     | some k'=>
      rw [he]at hk
      exact go (s':=⟨r,d,H⟩) (by simp only [run,he]) h hk
     | none=>
      rw [he]at hk
      cases ro with
      | none=>exact hk.elim
      | some b=>exact⟨some (.exit id),⟨r,d,H⟩,t,by simp only [run,he,Option.isSome_some,if_true],h,hk⟩
    | cond c a b=>
     have hk:akO c a b (KA a) (KA b) bD fn jT (runK bD fn jT m) ro rest r d t H.length:=hk
     unfold akO at hk
     rw [eu]at hk
     split at hk
     ·rename_i v hv
      cases v with
      | true=>exact go (s':=⟨r,d,H⟩) (by simp only [run,hv,if_true]) h hk
      | false=>exact go (s':=⟨r,d,H⟩) (by simp only [run,hv,aL,if_false]) h hk
     ·exact hk.elim
    | region ops chk=>
     have key:(ro.isSome&&!ops.all (·.op.gy))=false∧wz ops chk bD r d t H.length (fun r d t n=>runK bD fn jT m ro rest r d t n):=by
      cases ro with
      | none=>exact⟨rfl,hk⟩
      | some b=>
       obtain⟨h1,h2⟩:=rC (show zC (ops.all (·.op.gy)) (wz ops chk bD r d t H.length (fun r d t n=>runK bD fn jT m (some b) rest r d t n)) from hk)
       exact⟨by rw [h1];rfl,h2⟩
     obtain⟨s',t',h1,h2,h3⟩:=L9 hc h key.2
     exact go (s':=s') (by simp only [run,key.1,aL,if_false,h1]) h2 h3
    | ig f ps as bd=>
     have hk:H8 f ps as bd (KA as) (KA bd) bD fn jT (runK bD fn jT m) ro rest r d t H.length:=hk
     cases ro with
     | some b=>exact hk.elim
     | none=>
      unfold H8 at hk
      obtain⟨t1,h1,hk⟩:=kU h hk
      obtain⟨t2,h2,hk⟩:=kU h1 hk
      rw [eu]at hk
      obtain⟨⟨c,vs⟩,h3,hk⟩:=nH hk
      have e1:(H++[Blk.dfr true]).length=H.length+1:=by simp
      have e2:H++[Blk.dfr true]++[Blk.lp fn r ps as bd .ready none H.length]=H++[.dfr true,.lp fn r ps as bd .ready none H.length]:=by simp
      rw [e1]at h3
      rw [e2]at h2
      cases c with
      | yield b=>exact hk.elim
      | fn g=>
       have hk:bD (.fn g) vs t2 (H++[Blk.dfr true]++[Blk.lp fn r ps as bd .ready none H.length]).length (fun _ t n'=>runK bD fn jT m none (.lF (H++[Blk.dfr true]).length::rest) r (.coll H.length::d) t n'):=hk
       rw [e2,e1]at hk
       obtain⟨v,H',t',h4,h5,h6⟩:=hc _ _ _ _ _ h2 hk
       exact go (s':=⟨r,.coll H.length::d,H'⟩) (by simp only [run,Option.isSome_none,aL,if_false,h3,h4]) h5 h6
def akC(call:ji)(ds:List fF):HT→Nat→(HT→Nat→Prop)→Prop:=
 List.rec (motive:=fun _=>HT→Nat→(HT→Nat→Prop)→Prop) (fun t n k=>k t n)
  (fun x _ ih t n k=>fF.rec (motive:=fun _=>Prop)
   (fun b=>jY b t fun blk=>match blk with
    | .dfr true=>jX (.dfr false) t b fun t=>ih t n k
    | _=>False)
   (fun f args=>call (.fn f) args t n fun _ t n=>ih t n k) x) ds
theorem BQ{call:dL}{bD:ji}(hc:xJ call bD):∀ {ds:List fF} {H:Heap} {t:HT} {k:HT→Nat→Prop},dS H t→akC bD ds t H.length k→∃ H' t',fQ call ds H=some H'∧dS H' t'∧k t' H'.length
 | [],H,t,k,h,hk=>⟨H,t,rfl,h,hk⟩
 | .coll b::ds,H,t,k,h,hk=>by
  obtain⟨blk,h1,h2⟩:=eP hk
  rw [h]at h1
  have h1:H[b]?=some blk:=h1
  split at h2
  ·obtain⟨t1,h3,h4⟩:=fP h h2
   have hl:H.length=(H.set b (.dfr false)).length:=by simp
   have h4:akC bD ds t1 H.length k:=h4
   rw [hl]at h4
   obtain⟨H',t',h5,h6,h7⟩:=BQ hc h3 h4
   exact⟨H',t',by simp only [fQ,h1];exact h5,h6,h7⟩
  ·exact h2.elim
 | .fn f args::ds,H,t,k,h,hk=>by
  obtain⟨v,H1,t1,h1,h2,h3⟩:=hc _ _ H t _ h hk
  obtain⟨H',t',h5,h6,h7⟩:=BQ hc (ds:=ds) h2 h3
  exact⟨H',t',by simp only [fQ,h1];exact h5,h6,h7⟩
def aLY(r:T)(t:HT)(a:l9)(k:V→Prop):Prop:=l9.rec (motive:=fun _=>Prop)
 (fun p=>Kq p r fun v=>match v with
  | .t _=>False
  | v=>k v)
 (fun p m=>Kq p r fun v=>ldK t m v k) a
theorem awx{H:Heap}{t:HT}(h:dS H t){r:T}(a:l9)(k:V→Prop)(hk:aLY r t a k):∃ v,dF r H a=some v∧k v:=by
 cases a with
 | tmp p=>
  change Kq p r _ at hk
  rw [sF]at hk
  simp only [dF]
  cases hv:r.get p with
  | t vs=>rw [hv]at hk;exact hk.elim
  | _=>rw [hv]at hk;exact⟨_,rfl,hk⟩
 | cell p m=>
  change Kq p r _ at hk
  rw [sF]at hk
  exact akb h hk
def Jl(r:T)(t:HT)(rs:List l9)(k:V→Prop):Prop:=Ho (aLY r t) rs fun vs=>match vs with
 | [v]=>k v
 | vs=>k (.t vs)
theorem Jk{H:Heap}{t:HT}(h:dS H t){r:T}{rs:List l9}{k:V→Prop}(hk:Jl r t rs k):∃ v,Km.results r H rs=some v∧k v:=by
 obtain⟨vs,h1,h2⟩:=lY (awx h) hk
 unfold Km.results
 rw [h1]
 split at h2
 ·exact⟨_,rfl,h2⟩
 ·rename_i hne
  refine⟨.t vs,?_,h2⟩
  match vs,hne with
  | [v],hne=>exact absurd rfl (hne v)
  | [],_=>rfl
  | _::_::_,_=>rfl
def fnK(tab:BT AFunc)(m:Nat)(call:ji)(f:Nat)(args:List V)(t:HT)(n:Nat)(k:V→HT→Nat→Prop):Prop:=
 jY f tab fun af=>AFunc.rec (motive:=fun _=>Prop) (fun ps rs body=>kY args.length ps.length (zO ps args .e fun r=>
  runK call f (fun _ r d t n=>akC call d t n fun t n=>Jl r t rs fun v=>k v t n) m none [.code body] r [] t n)) af
def aio(m:Nat)(call:ji)(b:Nat)(args:List V)(t:HT)(n:Nat)(k:V→HT→Nat→Prop):Prop:=
 jY b t fun blk=>match blk with
  | .lp f tmps ps as bd _ _ _=>kY args.length ps.length (zO ps args tmps fun r=>
    runK call f (fun jump _ d t n=>zC d.isEmpty (jY b t fun blk=>match blk with
     | .lp f' uo ps' as' bd' _ _ d'=>match jump with
      | none=>jX (.lp f' uo ps' as' bd' .ready none d') t b fun t=>k (.c (.f (.bool true))) t n
      | some j=>jX (.lp f' uo ps' as' bd' .done (some j) d') t b fun t=>k (.c (.f (.bool false))) t n
     | _=>False)) m (some b) [.code as,.rE,.code bd] r [] t n)
  | _=>False
def bD(tab:BT AFunc)(m:Nat)(dep:Nat):ji:=
 Nat.rec (motive:=fun _=>ji) (fun _ _ _ _ _=>False)
  (fun _ ih c args t n k=>Callee.rec (motive:=fun _=>Prop) (fun f=>fnK tab m ih f args t n k) (fun b=>aio m ih b args t n k) c) dep
def mW:Nat→List V→Heap→Option (Option (V × Heap)):=fun _ _ _=>none
theorem akL(tab:BT AFunc)(m:Nat):∀ dep,xJ (gW tab.get mW m dep) (bD tab m dep):=by
 intro dep
 induction dep with
 | zero=>intro c args H t k h hk;exact hk.elim
 | succ dep ih=>
  intro c args H t k h hk
  cases c with
  | fn f=>
   obtain⟨af,h1,hk⟩:=eP (show fnK tab m (bD tab m dep) f args t H.length k from hk)
   obtain⟨ps,rs,body⟩:=af
   obtain⟨h2,hk⟩:=dQ hk
   rw [uO]at hk
   obtain⟨jump,s',t',h3,h4,hk⟩:=Rj ih f _ m none [.code body] _ [] H t h hk
   obtain⟨H',t'',h5,h6,hk⟩:=BQ ih h4 hk
   obtain⟨v,h7,hk⟩:=Jk h6 hk
   exact⟨v,H',t'',by simp only [gW,mW,h1,h2,if_true,h3,h5,h7];rfl,h6,hk⟩
  | yield b=>
   obtain⟨blk,h1,hk⟩:=eP (show aio m (bD tab m dep) b args t H.length k from hk)
   rw [h]at h1
   have h1:H[b]?=some blk:=h1
   split at hk
   ·obtain⟨h2,hk⟩:=dQ hk
    rw [uO]at hk
    obtain⟨jump,s',t',h3,h4,hk⟩:=Rj ih _ _ m (some b) _ _ [] H t h hk
    obtain⟨h5,hk⟩:=rC hk
    obtain⟨blk',h6,hk⟩:=eP hk
    rw [h4]at h6
    have h6:s'.heap[b]?=some blk':=h6
    split at hk
    ·cases jump with
     | none=>
      obtain⟨t'',h7,h8⟩:=fP h4 hk
      exact⟨_,_,t'',by simp only [gW,h1,h2,if_true,h3,h5,h6];rfl,h7,by rw [List.length_set];exact h8⟩
     | some j=>
      obtain⟨t'',h7,h8⟩:=fP h4 hk
      exact⟨_,_,t'',by simp only [gW,h1,h2,if_true,h3,h5,h6];rfl,h7,by rw [List.length_set];exact h8⟩
    ·exact hk.elim
   ·exact hk.elim
def isTrue(v:V)(_:HT)(_:Nat):Prop:=match v with
 | .c (.f (.bool b))=>Bool.rec (motive:=fun _=>Prop) False True b
 | _=>False
theorem N9{tab:BT AFunc}{m dep f:Nat}(h:bD tab m dep (.fn f) [] .e 0 isTrue):∃ H',gW tab.get mW m dep (.fn f) [] []=some (.c (.f (.bool true)),H'):=by
 obtain⟨v,H',t',h1,h2,h3⟩:=akL tab m dep (.fn f) [] [] .e isTrue dS.nil h
 refine⟨H',?_⟩
 rw [h1]
 unfold isTrue at h3
 split at h3
 ·rename_i b
  cases b with
  | true=>rfl
  | false=>exact h3.elim
 ·exact h3.elim
end Km
end
section
namespace Km
open Go
theorem aI{P:Nat→AFunc→Prop}:∀ i a,(BT.e:BT AFunc).get i=some a→P i a:=fun i a h=>by cases i<;>cases h
theorem aJ{P:Nat→AFunc→Prop}{l r:BT AFunc}{x:AFunc}(hl:∀ i a,l.get i=some a→P (2*i+1) a)(hx:P 0 x)
  (hr:∀ i a,r.get i=some a→P (2*i+2) a):∀ i a,(BT.n l x r).get i=some a→P i a:=by
 intro i a h
 cases i with
 | zero=>cases h;exact hx
 | succ m=>
  have h':(if m % 2=0 then l.get (m / 2)else r.get (m / 2))=some a:=h
  split at h'
  ·have:=hl _ _ h'
   rwa [show 2*(m / 2)+1=m+1 by omega]at this
  ·have:=hr _ _ h'
   rwa [show 2*(m / 2)+2=m+1 by omega]at this
theorem UF(Q:Program)(σ:Nat→FuncId):ale Q σ mW:=fun f args H r H' h=>by cases h
theorem reckoned{tab:BT AFunc}{f:Nat}(h:∃ m dep,bD tab m dep (.fn f) [] .e 0 isTrue=True):∃ m dep H',gW tab.get mW m dep (.fn f) [] []=some (.c (.f (.bool true)),H'):=by
 obtain⟨m,dep,h⟩:=h
 obtain⟨H',h'⟩:=N9 (of_eq_true h)
 exact⟨m,dep,H',h'⟩
end Km
end
section
namespace Km
open Go
def IJ(c1 c2:dL):Prop:=∀ c args H r,c1 c args H=some r→c2 c args H=some r
section
variable{c1 c2:dL}(hc:IJ c1 c2)
include hc
theorem Dp{c:Nat}{args:List V}{H:Heap}{r:V × Heap}(h:gJ c1 c args H=some r):gJ c2 c args H=some r:=by
 unfold gJ at h ⊢
 split at h
 ·simp at h
 ·rename_i fs hfs
  split at h
  ·simp at h
  ·rename_i r0 H0 h0
   simp only [hc _ _ _ _ h0]
   exact h
theorem Gx{b:Bool}{c:Nat}{args:List V}{H:Heap}{r:V × Heap}(h:jQ c1 b c args H=some r):jQ c2 b c args H=some r:=by
 unfold jQ at h ⊢
 split at h
 ·rename_i hb;simp only [hb,if_true];exact hc _ _ _ _ h
 ·rename_i hb;simp only [hb];exact Dp hc h
theorem DI{s:St}{op:AOp}{r:V × St}(h:iC c1 s op=some r):iC c2 s op=some r:=by
 cases op with
 | call f args b=>
  simp only [iC,an]at h ⊢
  obtain⟨a,ha,rfl⟩:=h
  exact⟨a,Gx hc ha,rfl⟩
 | bP x args b=>
  simp only [iC]at h ⊢
  split at h
  ·simp only [an]at h ⊢
   obtain⟨a,ha,rfl⟩:=h
   exact⟨a,hc _ _ _ _ ha,rfl⟩
  ·simp at h
 | _=>exact h
theorem Af{s s':St}{o:aV}(h:jh c1 s o=some s'):jh c2 s o=some s':=by
 unfold jh at h ⊢
 cases hw:wanted s.regs o.g with
 | none=>simp [hw]at h
 | some b=>
  cases b with
  | false=>simpa [hw]using h
  | true=>
   simp only [hw]at h ⊢
   cases h1:iC c1 s o.op with
   | none=>simp [h1]at h
   | some x=>
    obtain⟨v,s1⟩:=x
    rw [DI hc h1]
    rw [h1]at h
    exact h
theorem fD:∀(os:List aV) (s:St) {s':St},iU c1 os s=some s'→iU c2 os s=some s'
 | [],s,s',h=>h
 | o::os,s,s',h=>by
  simp only [iU]at h ⊢
  split at h
  ·rename_i s1 h1
   simp only [Af hc h1]
   exact fD os s1 h
  ·simp at h
theorem vS:∀(os:List aV) (s:St) {ss:List St},fG c1 os s=some ss→fG c2 os s=some ss
 | [],s,ss,h=>h
 | o::os,s,ss,h=>by
  simp only [fG]at h ⊢
  split at h
  ·rename_i s1 h1
   simp only [Af hc h1]
   split at h
   ·rename_i ss1 h2
    simp only [vS os s1 h2]
    exact h
   ·simp at h
  ·simp at h
theorem FQ{ops:List aV}{chk:List (Nat × Nat)}{s s':St}(h:jB c1 ops chk s=some s'):jB c2 ops chk s=some s':=by
 unfold jB at h ⊢
 split at h
 ·exact fD hc _ _ h
 ·split at h
  ·rename_i ss hss
   simp only [vS hc _ _ hss]
   exact h
  ·simp at h
theorem vZ{fn:Nat}:∀(n n':Nat) (ro:Option Nat) (todo:List dI) (s:St) {r:Option ah × St},n≤n' →
  run c1 fn n ro todo s=some r→run c2 fn n' ro todo s=some r
 | 0,_,_,_,_,_,_,h=>by simp [run]at h
 | n+1,0,_,_,_,_,hn,_=>by omega
 | n+1,n'+1,ro,todo,s,r,hn,h=>by
  have ih:=fun ro todo s r h=>vZ (fn:=fn) n n' ro todo s (r:=r) (by omega) h
  match todo,h with
  | [],h=>exact h
  | .inBlock _::k,h=>exact ih _ _ _ _ h
  | .inLoop c::k,h=>exact ih _ _ _ _ h
  | .lF b::k,h=>
   simp only [run]at h ⊢
   split at h
   ·rename_i f tmps ps as bd st pending d hb
    try simp only [hb]
    split at h
    ·simp at h
    ·rename_i hst
     try simp only [hst,if_false]
     split at h
     ·exact ih _ _ _ _ h
     ·exact ih _ _ _ _ h
     ·exact ih _ _ _ _ h
     ·simp at h
   ·simp at h
  | .rE::k,h=>
   simp only [run]at h ⊢
   split at h
   ·simp at h
   ·rename_i b
    split at h
    ·rename_i hb
     try simp only [hb]
     exact ih _ _ _ _ h
    ·simp at h
  | .code .skip::k,h=>exact ih _ _ _ _ h
  | .inScope _::k,h=>exact ih _ _ _ _ h
  | .code (.label _)::k,h=>exact ih _ _ _ _ h
  | .code (.scope a)::k,h=>exact ih _ _ _ _ h
  | .code (.goto l)::k,h=>
   simp only [run]at h ⊢
   split at h
   ·rename_i hk;(try simp only [hk]);exact ih _ _ _ _ h
   ·simp at h
  | .code .bad::_,h=>simp [run]at h
  | .code .ret::_,h=>exact h
  | .code (.exit id)::k,h=>
   simp only [run]at h ⊢
   split at h
   ·rename_i hk;(try simp only [hk]);exact ih _ _ _ _ h
   ·rename_i hk;(try simp only [hk]);exact h
  | .code (.seq a b)::k,h=>exact ih _ _ _ _ h
  | .code (.block id a)::k,h=>exact ih _ _ _ _ h
  | .code (.loop a)::k,h=>exact ih _ _ _ _ h
  | .code (.cond c a b)::k,h=>
   simp only [run]at h ⊢
   split at h
   ·rename_i v hv;(try simp only [hv]);exact ih _ _ _ _ h
   ·simp at h
  | .code (.region ops chk)::k,h=>
   simp only [run]at h ⊢
   split at h
   ·simp at h
   ·rename_i hro
    try simp only [hro]
    split at h
    ·rename_i s1 h1
     try simp only [FQ hc h1]
     exact ih _ _ _ _ h
    ·simp at h
  | .code (.ig f ps as bd)::k,h=>
   simp only [run]at h ⊢
   split at h
   ·simp at h
   ·rename_i hro
    try simp only [hro]
    split at h
    ·rename_i g args hg
     try simp only [hg]
     split at h
     ·rename_i v H1 h1
      try simp only [hc _ _ _ _ h1]
      exact ih _ _ _ _ h
     ·simp at h
    ·simp at h
theorem lJ:∀(ds:List fF) (H:Heap) {H':Heap},fQ c1 ds H=some H'→fQ c2 ds H=some H'
 | [],H,H',h=>h
 | .coll b::ds,H,H',h=>by
  simp only [fQ]at h ⊢
  split at h
  ·rename_i hb;exact lJ ds _ h
  ·simp at h
 | .fn f args::ds,H,H',h=>by
  simp only [fQ]at h ⊢
  split at h
  ·rename_i v H1 h1
   try simp only [hc _ _ _ _ h1]
   exact lJ ds _ h
  ·simp at h
end
variable{tab:Nat→Option AFunc}{prim:Nat→List V→Heap→Option (Option (V × Heap))}
theorem Cm{m m':Nat}(hm:m≤m'):∀(d d':Nat),d≤d'→IJ (gW tab prim m d) (gW tab prim m' d')
 | 0,_,_,_,_,_,_,h=>by simp [gW]at h
 | d+1,0,hd,_,_,_,_,_=>by omega
 | d+1,d'+1,hd,c,args,H,r,h=>by
  have ih:IJ (gW tab prim m d) (gW tab prim m' d'):=Cm hm d d' (by omega)
  match c,h with
  | .fn f,h=>
   simp only [gW]at h ⊢
   split at h
   ·rename_i r' hp;(try simp only [hp]);exact h
   ·rename_i hp
    try simp only [hp]
    split at h
    ·simp at h
    ·rename_i af haf
     try simp only [haf]
     split at h
     ·rename_i hl
      try simp only [hl,if_true]
      split at h
      ·rename_i j s hs
       try simp only [vZ ih m m' _ _ _ hm hs]
       split at h
       ·rename_i H1 h1
        try simp only [lJ ih _ _ h1]
        exact h
       ·simp at h
      ·simp at h
     ·simp at h
  | .yield b,h=>
   simp only [gW]at h ⊢
   split at h
   ·rename_i f tmps ps as bd q1 q2 q3 hb
    try simp only [hb]
    split at h
    ·rename_i hl
     try simp only [hl,if_true]
     split at h
     ·rename_i j s hs
      try simp only [vZ ih m m' _ _ _ hm hs]
      exact h
     ·simp at h
    ·simp at h
   ·simp at h
end Km
end
section
namespace Km
open Go
section
variable(tab:Nat→Option AFunc)
abbrev CF(m d:Nat):dL:=gW tab mW m d
def Ev(c:Callee)(args:List V)(H:Heap)(r:V)(H':Heap):Prop:=∃ m d,CF tab m d c args H=some (r,H')
def Pure(f:Nat)(args:List V)(r:V):Prop:=∃ r0 H',Ev tab (.fn f) args [] r0 H'∧exV deep H' r0=some r
def WP(fn:Nat)(ro:Option Nat)(todo:List dI)(s:St)(Q:Option ah→St→Prop):Prop:=
 ∃ n m d j s',run (CF tab m d) fn n ro todo s=some (j,s')∧Q j s'
def ONE(s:St)(op:AOp)(K:V→St→Prop):Prop:=
 match op with
 | .call f args h=>
  if h then ∃ r H',Ev tab (.fn f) (eG s.regs args) s.heap r H'∧K r { s with heap:=H' }
  else ∃ fs r,bC (dM deep s.heap) (eG s.regs args)=some fs∧Pure tab f fs r∧K r { s with heap:=(eG s.regs args).foldl (mkV deep) s.heap }
 | .bP x args _=>∃ c as r H',cZ (x.ev s.regs) (eG s.regs args)=some (c,as)∧Ev tab c as s.heap r H'∧K r { s with heap:=H' }
 | .recover=>K (.c (.f .qL)) s
 | .defer x args=>∃ f as,cZ (x.ev s.regs) (eG s.regs args)=some (.fn f,as)∧K .top { s with defs:=.fn f as::s.defs }
 | op=>∃ v H',xOp s.regs s.heap op=some (v,H')∧K v { s with heap:=H' }
def OPS:List aV→St→(St→Prop)→Prop
 | [],s,K=>K s
 | o::os,s,K=>match wanted s.regs o.g with
  | some true=>ONE tab s o.op fun v s'=>OPS os { s' with regs:=mP s'.regs o.dst v } K
  | some false=>OPS os { s with regs:=mP s.regs o.dst (.t []) } K
  | none=>False
variable{tab}
variable{c:Callee}{args:List V}{H H':Heap}{r:V}
theorem nN{m m' d d':Nat}(hm:m≤m')(hd:d≤d'):IJ (CF tab m d) (CF tab m' d'):=Cm hm d d' hd
theorem Ev.det{r2:V}{H2:Heap}(h1:Ev tab c args H r H')(h2:Ev tab c args H r2 H2):r=r2∧H'=H2:=by
 obtain⟨m,d,h1⟩:=h1
 obtain⟨m',d',h2⟩:=h2
 have e1:=nN (tab:=tab) (bE m m') (bE d d') _ _ _ _ h1
 have e2:=nN (tab:=tab) (bk m m') (bk d d') _ _ _ _ h2
 rw [e1]at e2
 simpa using e2
theorem Pure.det{f:Nat}{r2:V}(h1:Pure tab f args r)(h2:Pure tab f args r2):r=r2:=by
 obtain⟨a,H1,ha,h1⟩:=h1
 obtain⟨b,H2,hb,h2⟩:=h2
 obtain⟨rfl,rfl⟩:=ha.det hb
 rw [h1]at h2
 simpa using h2
theorem Vz{s:St}{op:AOp}{K:V→St→Prop}(h:ONE tab s op K):∃ m d v s',iC (CF tab m d) s op=some (v,s')∧K v s':=by
 cases op with
 | call f args b=>
  simp only [ONE]at h
  split at h
  ·rename_i hb
   obtain⟨r,H',⟨m,d,h1⟩,h2⟩:=h
   exact⟨m,d,r,_,by simp [iC,jQ,hb,h1],h2⟩
  ·rename_i hb
   obtain⟨fs,r,h0,⟨r0,H0,⟨m,d,h1⟩,h2⟩,h3⟩:=h
   exact⟨m,d,r,_,by simp [iC,jQ,hb,gJ,h0,h1,h2],h3⟩
 | bP x args b=>
  obtain⟨c,as,r,H',h0,⟨m,d,h1⟩,h2⟩:=h
  exact⟨m,d,r,_,by simp [iC,h0,h1],h2⟩
 | recover=>exact⟨0,0,_,_,rfl,h⟩
 | «defer» x args=>
  obtain⟨f,as,h0,h1⟩:=h
  exact⟨0,0,.top,_,by simp [iC,h0],h1⟩
 | _=>
  obtain⟨v,H',h0,h1⟩:=h
  exact⟨0,0,v,_,by simp [iC,h0],h1⟩
theorem mD:∀(os:List aV) (s:St) {K:St→Prop},OPS tab os s K→∃ m d s',iU (CF tab m d) os s=some s'∧K s'
 | [],s,K,h=>⟨0,0,s,rfl,h⟩
 | o::os,s,K,h=>by
  simp only [OPS]at h
  split at h
  ·rename_i hw
   obtain⟨m,d,v,s1,h1,h2⟩:=Vz h
   obtain⟨m',d',s',h3,h4⟩:=mD os _ h2
   refine⟨max m m',max d d',s',?_,h4⟩
   have e1:=DI (nN (tab:=tab) (bE m m') (bE d d')) h1
   have e3:=fD (nN (tab:=tab) (bk m m') (bk d d')) os _ h3
   simp only [iU,jh,hw,e1,e3]
  ·rename_i hw
   obtain⟨m',d',s',h3,h4⟩:=mD os _ h
   exact⟨m',d',s',by simp only [iU,jh,hw,h3],h4⟩
  ·exact h.elim
variable{fn:Nat}{ro:Option Nat}{k:List dI}{s:St}{Q:Option ah→St→Prop}{a b:ah}
theorem qQ{todo:List dI}{todo':List dI}{s':St}(h:WP tab fn ro todo' s' Q)
  (hs:∀ m d n,run (CF tab m d) fn (n+1) ro todo s=run (CF tab m d) fn n ro todo' s'):WP tab fn ro todo s Q:=by
 obtain⟨n,m,d,j,s1,h1,h2⟩:=h
 exact⟨n+1,m,d,j,s1,by rw [hs,h1],h2⟩
theorem pO(h:Q none s):WP tab fn ro [] s Q:=⟨1,0,0,none,s,rfl,h⟩
theorem aK{i:Nat}(h:WP tab fn ro k s Q):WP tab fn ro (.inBlock i::k) s Q:=qQ h fun _ _ _=>rfl
theorem UZ(h:WP tab fn ro (.code a::.inLoop a::k) s Q):WP tab fn ro (.inLoop a::k) s Q:=qQ h fun _ _ _=>rfl
theorem aF(h:WP tab fn ro k s Q):WP tab fn ro (.code .skip::k) s Q:=qQ h fun _ _ _=>rfl
theorem ak(h:WP tab fn ro (.code a::.code b::k) s Q):WP tab fn ro (.code (.seq a b)::k) s Q:=qQ h fun _ _ _=>rfl
theorem aN{i:Nat}(h:WP tab fn ro (.code a::.inBlock i::k) s Q):WP tab fn ro (.code (.block i a)::k) s Q:=qQ h fun _ _ _=>rfl
theorem aO(h:Q (some .ret) s):WP tab fn ro (.code .ret::k) s Q:=⟨1,0,0,some .ret,s,rfl,h⟩
theorem bf{i:Nat}{k':List dI}(he:exitTo i k=some k')(h:WP tab fn ro k' s Q):WP tab fn ro (.code (.exit i)::k) s Q:=
 qQ h fun _ _ _=>by simp only [run,he]
theorem SA{c:Arg}{v:Bool}(hc:c.ev s.regs=.c (.f (.bool v)))(h:WP tab fn ro (.code (if v then a else b)::k) s Q) :
  WP tab fn ro (.code (.cond c a b)::k) s Q:=qQ h fun _ _ _=>by simp only [run,hc]
theorem aB{c:Arg}(hc:c.ev s.regs=.c (.f (.bool true)))(h:WP tab fn ro (.code a::k) s Q) :
  WP tab fn ro (.code (.cond c a b)::k) s Q:=SA hc h
theorem ay{c:Arg}(hc:c.ev s.regs=.c (.f (.bool false)))(h:WP tab fn ro (.code b::k) s Q) :
  WP tab fn ro (.code (.cond c a b)::k) s Q:=SA hc h
theorem AP{m m' d d' n n':Nat}{todo:List dI}{x:Option ah × St}(hm:m≤m')(hd:d≤d')(hn:n≤n')
  (h:run (CF tab m d) fn n ro todo s=some x):run (CF tab m' d') fn n' ro todo s=some x:=
 vZ (nN hm hd) n n' ro todo s hn h
theorem aj{ops:List aV}(hr:ro=none∨ops.all (·.op.gy)=true)(h:OPS tab ops s fun s'=>WP tab fn ro k s' Q) :
  WP tab fn ro (.code (.region ops [])::k) s Q:=by
 obtain⟨m,d,s',h1,n,m',d',j,s2,h2,h3⟩:=mD ops s h
 refine⟨n+1,max m m',max d d',j,s2,?_,h3⟩
 have e1:=fD (nN (tab:=tab) (bE m m') (bE d d')) ops _ h1
 have e2:=AP (bk m m') (bk d d') (aw n) h2
 have hro:(ro.isSome&&!ops.all (·.op.gy))=false:=by
  rcases hr with rfl | hr
  ·rfl
  ·rw [hr];simp
 simp only [run,hro,jB,e1,e2]
 simp
theorem bJ(I:Nat→St→Prop)(n:Nat)(h0:I n s)
  (step:∀ n s,I n s→(∀ n' s',n'<n→I n' s'→WP tab fn ro (.inLoop a::k) s' Q)→WP tab fn ro (.code a::.inLoop a::k) s Q) :
  WP tab fn ro (.code (.loop a)::k) s Q:=by
 have key:∀ n s,I n s→WP tab fn ro (.code a::.inLoop a::k) s Q:=by
  intro n
  induction n using Nat.strongRecOn with
  | _ n ih=>
   intro s hs
   exact step n s hs fun n' s' hn hs'=>UZ (ih n' hn s' hs')
 exact qQ (key n s h0) fun _ _ _=>rfl
def Fin(tab:Nat→Option AFunc)(af:AFunc)(r:V)(H':Heap)(s:St):Prop:=
 ∃ m d H1,fQ (CF tab m d) s.defs s.heap=some H1∧results s.regs H1 af.results=some r∧H1=H'
theorem Eu{f:Nat}{af:AFunc}(ht:tab f=some af)(hl:args.length=af.ps.length)
  (h:WP tab f none [.code af.body] ⟨dJ af.ps args .e,[],H⟩ fun _ s=>Fin tab af r H' s):Ev tab (.fn f) args H r H':=by
 obtain⟨n,m,d,j,s,h1,m',d',H1,h2,h3,rfl⟩:=h
 obtain⟨M,hM1,hM2,hM3⟩:∃ M,m≤M∧m'≤M∧n≤M:=⟨max (max m m') n,by omega,by omega,by omega⟩
 obtain⟨E,hE1,hE2⟩:∃ E,d≤E∧d'≤E:=⟨max d d',by omega,by omega⟩
 refine⟨M,E+1,?_⟩
 have e1:run (CF tab M E) f M none [.code af.body] ⟨dJ af.ps args .e,[],H⟩=some (j,s):=AP hM1 hE1 hM3 h1
 have e2:=lJ (nN (tab:=tab) hM2 hE2) _ _ h2
 have hp:mW f args H=none:=rfl
 simp only [CF]at e1 e2 ⊢
 simp only [gW,hp,ht,hl,if_true,e1,e2,h3,co]
def xH(res:List l9)(r:V)(s:St):Prop:=s.defs=[]∧∃ r0,results s.regs s.heap res=some r0∧exV deep s.heap r0=some r
theorem bQ{f:Nat}{ps:List P}{res:List l9}{body:ah}(ht:tab f=some ⟨ps,res,body⟩)(hl:args.length=ps.length)
  (h:∀ Q:Option ah→St→Prop,(∀ j s,xH res r s→Q j s)→WP tab f none [.code body] ⟨dJ ps args .e,[],[]⟩ Q):Pure tab f args r:=by
 have h':=h (fun _ s=>xH res r s) fun _ _ h=>h
 obtain⟨n,m,d,j,s,h1,hd,r0,h2,h3⟩:=h'
 exact⟨r0,s.heap,Eu ht hl ⟨n,m,d,j,s,h1,0,0,s.heap,by rw [hd];rfl,h2,rfl⟩,h3⟩
end
end Km
end
section
namespace Km
open Go
def P.UH:Nat→Nat→P
 | 0,_=>.h
 | k+1,n=>if n=0 then .h else if n % 2=1 then .o (UH k ((n-1) / 2))else .i (UH k ((n-2) / 2))
def P.nat(n:Nat):P:=P.UH n n
theorem vF:∀(k n:Nat),n≤k→(P.UH k n).toNat=n
 | 0,n,hn=>by simp [P.UH,P.toNat];omega
 | k+1,n,hn=>by
  unfold P.UH
  split
  ·simp [P.toNat, *]
  ·split
   ·simp [P.toNat];rw [vF k _ (by omega)];omega
   ·simp [P.toNat];rw [vF k _ (by omega)];omega
theorem D8(n:Nat):(P.nat n).toNat=n:=vF n n (aw n)
theorem nat_ne{a b:Nat}(hab:a≠b):P.nat a≠P.nat b:=fun e=>hab (by rw [←D8 a,←D8 b,e])
theorem T.jV(v:V):∀(p:P) (t:T),(t.set p v).get p=v
 | .h,.e=>rfl
 | .h,.n _ _ _=>rfl
 | .o p,.e=>T.jV v p .e
 | .o p,.n l _ _=>T.jV v p l
 | .i p,.e=>T.jV v p .e
 | .i p,.n _ _ r=>T.jV v p r
theorem T.mZ(v:V):∀(p q:P) (t:T),p≠q→(t.set p v).get q=t.get q
 | .h,.h,_,h=>absurd rfl h
 | .h,.o q,.e,_=>by cases q<;>rfl
 | .h,.i q,.e,_=>by cases q<;>rfl
 | .h,.o _,.n _ _ _,_=>rfl
 | .h,.i _,.n _ _ _,_=>rfl
 | .o _,.h,.e,_=>rfl
 | .o _,.h,.n _ _ _,_=>rfl
 | .i _,.h,.e,_=>rfl
 | .i _,.h,.n _ _ _,_=>rfl
 | .o p,.o q,.e,h=>by
  show(T.set .e p v).get q=_
  rw [T.mZ v p q .e (fun e=>h (by rw [e]))]
  cases q<;>rfl
 | .o p,.o q,.n l _ _,h=>T.mZ v p q l (fun e=>h (by rw [e]))
 | .o p,.i q,.e,h=>by
  show T.get .e q=_
  cases q<;>rfl
 | .o _,.i _,.n _ _ _,_=>rfl
 | .i p,.o q,.e,h=>by
  show T.get .e q=_
  cases q<;>rfl
 | .i _,.o _,.n _ _ _,_=>rfl
 | .i p,.i q,.e,h=>by
  show(T.set .e p v).get q=_
  rw [T.mZ v p q .e (fun e=>h (by rw [e]))]
  cases q<;>rfl
 | .i p,.i q,.n _ _ r,h=>T.mZ v p q r (fun e=>h (by rw [e]))
def T.g(t:T)(n:Nat):V:=t.get (P.nat n)
def T.s(t:T)(n:Nat)(v:V):T:=t.set (P.nat n) v
@[simp] theorem T.g_s (t:T) (n m:Nat) (v:V):(t.s n v).g m=if n=m then v else t.g m:=by
 unfold T.g T.s
 split
 ·rename_i h;subst h;exact T.jV v _ t
 ·rename_i h;exact T.mZ v _ _ t (nat_ne h)
def R(n:Nat):Arg:=.r (P.nat n)
def D(n:Nat):Option P:=some (P.nat n)
def G(n:Nat)(w:Bool):Option (P × Bool):=some (P.nat n,w)
abbrev vi(n:Int):V:=.c (.f (.int .i64 n))
abbrev vb(b:Bool):V:=.c (.f (.bool b))
abbrev fi(n:Int):FC:=.int .i64 n
@[simp] theorem aK4 (t:T) (n:Nat):(R n).ev t=t.g n:=rfl
@[simp] theorem aVI (t:T) (v:V):(Arg.k v).ev t=v:=rfl
@[simp] theorem aSz (t:T) (n:Nat) (v:V):mP t (D n) v=t.s n v:=rfl
@[simp] theorem aLb (t:T) (v:V):mP t none v=t:=rfl
@[simp] theorem aAg (t:T) (n:Nat):t.get (P.nat n)=t.g n:=rfl
@[simp] theorem aDR (n:Nat) (ps:List P) (v:V) (vs:List V) (t:T):dJ (P.nat n::ps) (v::vs) t=dJ ps vs (t.s n v):=rfl
@[simp] theorem aEE (vs:List V) (t:T):dJ [] vs t=t:=rfl
@[simp] theorem aDN (t:T):wanted t none=some true:=rfl
@[simp] theorem aLE (t:T) (n:Nat) (w:Bool):wanted t (G n w)=match t.g n with
  | .c (.f (.bool b))=>some (b == w)
  | .t []=>some false
  | _=>none:=rfl
attribute [simp] eG
def KO(o:Option (V × Heap))(t:T)(ds:List fF)(K:V→St→Prop):Prop:=∃ p,o=some p∧K p.1 ⟨t,ds,p.2⟩
@[simp] theorem aQR (v:V) (H:Heap) (t:T) (ds:List fF) (K:V→St→Prop):KO (some (v,H)) t ds K↔K v ⟨t,ds,H⟩:=⟨fun⟨_,h,k⟩=>by cases h;exact k,fun k=>⟨_,rfl,k⟩⟩
def KP(P:V→Prop)(t:T)(ds:List fF)(H:Heap)(K:V→St→Prop):Prop:=∃ x,P x∧K x ⟨t,ds,H⟩
@[simp] theorem aP3 (x:V) (t:T) (ds:List fF) (H:Heap) (K:V→St→Prop):KP (Eq x) t ds H K↔K x ⟨t,ds,H⟩:=⟨fun⟨_,h,k⟩=>by cases h;exact k,fun k=>⟨x,rfl,k⟩⟩
def E2(x:V)(H:Heap)(y:V)(H':Heap):Prop:=x=y∧H=H'
def KE(P:V→Heap→Prop)(t:T)(ds:List fF)(K:V→St→Prop):Prop:=∃ x H,P x H∧K x ⟨t,ds,H⟩
@[simp] theorem aUs (x:V) (H:Heap) (t:T) (ds:List fF) (K:V→St→Prop):KE (E2 x H) t ds K↔K x ⟨t,ds,H⟩:=⟨fun⟨_,_,⟨h1,h2⟩,k⟩=>by cases h1;cases h2;exact k,fun k=>⟨x,H,⟨rfl,rfl⟩,k⟩⟩
section
variable(tab:Nat→Option AFunc)
def KC(fs:Option (List V))(f:Nat)(t:T)(ds:List fF)(H:Heap)(K:V→St→Prop):Prop:=∃ a,fs=some a∧KP (Pure tab f a) t ds H K
def KD(c:Option (Callee × List V))(t:T)(ds:List fF)(H:Heap)(K:V→St→Prop):Prop:=∃ a,c=some a∧KE (Ev tab a.1 a.2 H) t ds K
def KS(os:List aV)(L:St→Prop)(s:St):Prop:=OPS tab os s L
def FS(s:St)(K:St→Prop):Prop:=K s
def KV(o:Option P)(os:List aV)(L:St→Prop)(v:V)(s:St):Prop:=FS ⟨mP s.regs o v,s.defs,s.heap⟩ (KS tab os L)
def GRD(w:Option Bool)(op:AOp)(o:Option P)(os:List aV)(L:St→Prop)(s:St):Prop:=
 match w with
 | some true=>ONE tab s op (KV tab o os L)
 | some false=>FS ⟨mP s.regs o (.t []),s.defs,s.heap⟩ (KS tab os L)
 | none=>False
end
section
variable{tab:Nat→Option AFunc}{t:T}{ds:List fF}{H:Heap}{K:V→St→Prop}{L:St→Prop}
@[simp] theorem aAN (a:List V) (f:Nat):KC tab (some a) f t ds H K↔KP (Pure tab f a) t ds H K:=⟨fun⟨_,h,k⟩=>by cases h;exact k,fun k=>⟨_,rfl,k⟩⟩
@[simp] theorem aQS (c:Callee) (a:List V):KD tab (some (c,a)) t ds H K↔KE (Ev tab c a H) t ds K:=⟨fun⟨_,h,k⟩=>by cases h;exact k,fun k=>⟨_,rfl,k⟩⟩
@[simp] theorem aVw (s:St) (K:St→Prop):FS s K↔K s:=Iff.rfl
@[simp ↓] theorem aUr (os:List aV) (s:St):KS tab os L s↔OPS tab os s L:=Iff.rfl
@[simp ↓] theorem aUq (o:Option P) (os:List aV) (v:V):KV tab o os L v ⟨t,ds,H⟩↔FS ⟨mP t o v,ds,H⟩ (KS tab os L):=Iff.rfl
@[simp ↓] theorem aUt (op:AOp) (o:Option P) (os:List aV) (s:St):GRD tab (some true) op o os L s↔ONE tab s op (KV tab o os L):=Iff.rfl
@[simp ↓] theorem aUu (op:AOp) (o:Option P) (os:List aV):GRD tab (some false) op o os L ⟨t,ds,H⟩↔FS ⟨mP t o (.t []),ds,H⟩ (KS tab os L):=Iff.rfl
@[simp ↓] theorem aQP (s:St):OPS tab [] s L↔L s:=Iff.rfl
@[simp ↓] theorem aP2 (o:Option P) (op:AOp) (os:List aV):OPS tab (⟨o,op,none⟩::os) ⟨t,ds,H⟩ L↔ONE tab ⟨t,ds,H⟩ op (KV tab o os L):=Iff.rfl
@[simp ↓] theorem aLs (o:Option P) (op:AOp) (n:Nat) (w:Bool) (os:List aV) :
  OPS tab (⟨o,op,G n w⟩::os) ⟨t,ds,H⟩ L↔GRD tab (wanted t (G n w)) op o os L ⟨t,ds,H⟩:=by
 simp only [OPS]
 rcases hw:wanted t (G n w)with _ | _ | _<;>exact Iff.rfl
def AOp.plain:AOp→Bool
 | .call _ _ _ | .bP _ _ _ | .recover | .defer _ _=>false
 | _=>true
theorem dW{op:AOp}(h:op.plain=true):ONE tab ⟨t,ds,H⟩ op K↔KO (xOp t H op) t ds K:=by
 have:ONE tab ⟨t,ds,H⟩ op K↔∃ v H',xOp t H op=some (v,H')∧K v ⟨t,ds,H'⟩:=by
  cases op<;>first | exact Iff.rfl | simp [AOp.plain]at h
 rw [this]
 exact⟨fun⟨v,H',h,k⟩=>⟨(v,H'),h,k⟩,fun⟨p,h,k⟩=>⟨p.1,p.2,h,k⟩⟩
@[simp ↓] theorem aQn (x:Arg):ONE tab ⟨t,ds,H⟩ (.mov x) K↔KO (xOp t H (.mov x)) t ds K:=dW rfl
@[simp ↓] theorem aM0 (c a b:Arg):ONE tab ⟨t,ds,H⟩ (.pick c a b) K↔KO (xOp t H (.pick c a b)) t ds K:=dW rfl
@[simp ↓] theorem aLg (zs:List FC):ONE tab ⟨t,ds,H⟩ (.alloc zs) K↔KO (xOp t H (.alloc zs)) t ds K:=dW rfl
@[simp ↓] theorem aQq (x:Arg):ONE tab ⟨t,ds,H⟩ (.box x) K↔KO (xOp t H (.box x)) t ds K:=dW rfl
@[simp ↓] theorem aLf (zs:List FC) (parts:List (Nat × Nat × Arg)):ONE tab ⟨t,ds,H⟩ (.build zs parts) K↔KO (xOp t H (.build zs parts)) t ds K:=dW rfl
@[simp ↓] theorem aHX (sz:Nat) (zs:List FC) (len:Nat) (parts:List (Nat × Arg)):ONE tab ⟨t,ds,H⟩ (.aY sz zs len parts) K↔KO (xOp t H (.aY sz zs len parts)) t ds K:=dW rfl
@[simp ↓] theorem aM3 (n:Option Nat) (x:Arg):ONE tab ⟨t,ds,H⟩ (.load n x) K↔KO (xOp t H (.load n x)) t ds K:=dW rfl
@[simp ↓] theorem aLc (n:Nat) (x y:Arg):ONE tab ⟨t,ds,H⟩ (.store n x y) K↔KO (xOp t H (.store n x y)) t ds K:=dW rfl
@[simp ↓] theorem aHU (x:Arg):ONE tab ⟨t,ds,H⟩ (.bF x) K↔KO (xOp t H (.bF x)) t ds K:=dW rfl
@[simp ↓] theorem aQr (op:BinOp) (x y:Arg):ONE tab ⟨t,ds,H⟩ (.bin op x y) K↔KO (xOp t H (.bin op x y)) t ds K:=dW rfl
@[simp ↓] theorem aSI (neg:Bool) (k:EqK) (x y:Arg):ONE tab ⟨t,ds,H⟩ (.eq neg k x y) K↔KO (xOp t H (.eq neg k x y)) t ds K:=dW rfl
@[simp ↓] theorem aSH (op:UnOp) (x:Arg):ONE tab ⟨t,ds,H⟩ (.un op x) K↔KO (xOp t H (.un op x)) t ds K:=dW rfl
@[simp ↓] theorem aQp (k:IntKind) (x:Arg):ONE tab ⟨t,ds,H⟩ (.cvi k x) K↔KO (xOp t H (.cvi k x)) t ds K:=dW rfl
@[simp ↓] theorem aM1 (f:Nat) (caps:List Arg):ONE tab ⟨t,ds,H⟩ (.jG f caps) K↔KO (xOp t H (.jG f caps)) t ds K:=dW rfl
@[simp ↓] theorem aD0 (sz bytes:Nat) (zs:List FC) (l c:Arg):ONE tab ⟨t,ds,H⟩ (.dX sz bytes zs l c) K↔KO (xOp t H (.dX sz bytes zs l c)) t ds K:=dW rfl
@[simp ↓] theorem aHW (off:Nat) (x:Arg):ONE tab ⟨t,ds,H⟩ (.au off x) K↔KO (xOp t H (.au off x)) t ds K:=dW rfl
@[simp ↓] theorem aHV (sz:Nat) (arr:Option Nat) (x i:Arg):ONE tab ⟨t,ds,H⟩ (.aC sz arr x i) K↔KO (xOp t H (.aC sz arr x i)) t ds K:=dW rfl
@[simp ↓] theorem aD1 (x:Arg) (i:Nat):ONE tab ⟨t,ds,H⟩ (.extract x i) K↔KO (xOp t H (.extract x i)) t ds K:=dW rfl
@[simp ↓] theorem aQo (x:Arg):ONE tab ⟨t,ds,H⟩ (.len x) K↔KO (xOp t H (.len x)) t ds K:=dW rfl
@[simp ↓] theorem aHY (sz bytes:Nat) (x y:Arg):ONE tab ⟨t,ds,H⟩ (.append sz bytes x y) K↔KO (xOp t H (.append sz bytes x y)) t ds K:=dW rfl
@[simp ↓] theorem aM2 (lo:Bool) (xs:List Arg):ONE tab ⟨t,ds,H⟩ (.kJ lo xs) K↔KO (xOp t H (.kJ lo xs)) t ds K:=dW rfl
@[simp ↓] theorem aMZ (sz:Nat) (x hi mx:Arg):ONE tab ⟨t,ds,H⟩ (.vX sz x hi mx) K↔KO (xOp t H (.vX sz x hi mx)) t ds K:=dW rfl
@[simp ↓] theorem aM4 (f:Nat) (args:List Arg):ONE tab ⟨t,ds,H⟩ (.call f args false) K ↔
  KC tab (bC (dM deep H) (eG t args)) f t ds ((eG t args).foldl (mkV deep) H) K:=by
 simp only [ONE,KC,KP]
 constructor
 ·intro h;rw [if_neg (by simp)]at h;obtain⟨fs,r,h1,h2,h3⟩:=h;exact⟨fs,h1,r,h2,h3⟩
 ·rintro⟨fs,h1,r,h2,h3⟩;rw [if_neg (by simp)];exact⟨fs,r,h1,h2,h3⟩
@[simp ↓] theorem aLd (f:Nat) (args:List Arg):ONE tab ⟨t,ds,H⟩ (.call f args true) K↔KD tab (some (.fn f,eG t args)) t ds H K:=by simp [ONE,KD,KE]
@[simp ↓] theorem aLe (x:Arg) (args:List Arg) (h:Bool):ONE tab ⟨t,ds,H⟩ (.bP x args h) K↔KD tab (cZ (x.ev t) (eG t args)) t ds H K:=by
 simp only [ONE,KD,KE]
 constructor
 ·rintro⟨c,as,r,H',h1,h2,h3⟩;exact⟨(c,as),h1,r,H',h2,h3⟩
 ·rintro⟨⟨c,as⟩,h1,r,H',h2,h3⟩;exact⟨c,as,r,H',h1,h2,h3⟩
end
def Oc:V→Option Bool
 | .c (.f (.bool b))=>some b
 | _=>none
@[simp] theorem aLr (b:Bool):Oc (.c (.f (.bool b)))=some b:=rfl
section
variable{t:T}{H:Heap}
@[simp] theorem aUa (x:Arg):xOp t H (.mov x)=some (x.ev t,H):=rfl
@[simp] theorem aT9 (o:Os) (sz:Nat):xOp t H (.pre o sz)=if o=.loc∨sz=0 then none else some (.c (.sl H.length 0 0 0 0 sz),H++[.opn sz [] 0 0 o]):=rfl
@[simp] theorem aQV (c x y:Arg):xOp t H (.pick c x y)=(Oc (c.ev t)).map fun b=>(if b then x.ev t else y.ev t,H):=by
 simp only [xOp,Oc]
 split
 ·rename_i b h;simp only [h];cases b<;>rfl
 ·rename_i h
  split
  ·rename_i b h';exact absurd h' (h b)
  ·rfl
@[simp] theorem aQi (zs:List FC):xOp t H (.alloc zs)=some (.c (.ptr H.length 0 0),H++[.box (zs.map .f) 0]):=rfl
@[simp] theorem aUc (x:Arg):xOp t H (.box x)=(x.ev t).cells?.map fun xs=>(.c (.ptr H.length 0 0),H++[.box xs 0]):=by
 simp only [xOp];cases (x.ev t).cells?<;>rfl
@[simp] theorem aQh (zs:List FC) (ps:List (Nat × Nat × Arg)):xOp t H (.build zs ps)=(gK t (zs.map .f) ps).map fun cs=>(.a cs,H):=rfl
@[simp] theorem aLB (sz:Nat) (zs:List FC) (n:Nat) (ps:List (Nat × Arg)):xOp t H (.aY sz zs n ps) =
  if n=0 then(if ps.isEmpty then some (.c (.f .es),H)else none)else
  (gK t ((dO n zs).map .f) (ps.map fun p=>(p.1*sz,sz,p.2))).map fun cs=>(.c (.sl H.length 0 n n 0 sz),H++[.box cs 0]):=rfl
@[simp] theorem aQZ (n:Option Nat) (x:Arg):xOp t H (.load n x)=(ldV H n (x.ev t)).map (·,H):=rfl
def FZ(H:Heap)(n:Nat)(x y:V):Option Heap:=
 match x,y.cells? with
 | .c p,some xs=>if xs.length=n then stC H p xs else none
 | _,_=>none
@[simp] theorem aQb (n:Nat) (x y:Arg):xOp t H (.store n x y)=(FZ H n (x.ev t) (y.ev t)).map (.top,·):=by
 simp only [xOp,FZ]
 cases x.ev t with
 | c p=>cases (y.ev t).cells? with
  | none=>rfl
  | some xs=>by_cases h:xs.length=n<;>simp [h]
 | _=>rfl
@[simp] theorem aLF (n:Nat) (p:C) (y:V):FZ H n (.c p) y=y.cells?.bind fun xs=>if xs.length=n then stC H p xs else none:=by
 simp only [FZ];cases y.cells?<;>rfl
@[simp] theorem aUd (op:BinOp) (x y:Arg):xOp t H (.bin op x y)=(bM op (x.ev t) (y.ev t)).map (·,H):=rfl
@[simp] theorem x_eq (neg:Bool) (k:EqK) (x y:Arg):xOp t H (.eq neg k x y)=(eqV H k (x.ev t) (y.ev t)).map fun b=>(vb (if neg then !b else b),H):=rfl
@[simp] theorem aVx (op:UnOp) (x:Arg):xOp t H (.un op x)=(unV op (x.ev t)).map (·,H):=rfl
def aI3(k:IntKind):V→Option V
 | .c (.f (.int _ n))=>some (.c (.f (.int k (k.wrap n))))
 | _=>none
@[simp] theorem aTk (k j:IntKind) (n:Int):aI3 k (.c (.f (.int j n)))=some (.c (.f (.int k (k.wrap n)))):=rfl
@[simp] theorem aUb (k:IntKind) (x:Arg):xOp t H (.cvi k x)=(aI3 k (x.ev t)).map (·,H):=by
 simp only [xOp,aI3]
 split
 ·rename_i h;simp only [h];rfl
 ·rename_i h
  split
  ·rename_i h';exact absurd h' (h _ _)
  ·rfl
@[simp] theorem aQW (f:Nat) (caps:List Arg):xOp t H (.jG f caps)=(bC zL (eG t caps)).map fun xs=>(.c (.cl f xs),H):=rfl
@[simp] theorem aQX (f:Nat) (caps:List Arg):xOp t H (.Dv f caps)=(bC zL (eG t caps)).map fun xs=>(.c (.bm f xs),H):=rfl
@[simp] theorem aQd (sz:Nat) (x:Arg) (lo hi mx:Option Arg):xOp t H (.slice sz x lo hi mx)=(jF H sz (x.ev t) (lo.map (·.ev t)) (hi.map (·.ev t)) (mx.map (·.ev t))).map (·,H):=rfl
@[simp] theorem aQU (sz:Nat) (x hi mx:Arg):xOp t H (.vX sz x hi mx)=AA H sz (x.ev t) (hi.ev t) (mx.ev t):=rfl
@[simp] theorem aQe (n sz:Nat) (x:Arg) (lo hi mx:Option Arg):xOp t H (.uw n sz x lo hi mx)=(nR H n sz (x.ev t) (lo.map (·.ev t)) (hi.map (·.ev t)) (mx.map (·.ev t))).map (·,H):=rfl
@[simp] theorem aQc (x:Arg) (lo hi:Option Arg):xOp t H (.vW x lo hi)=(Aw (x.ev t) (lo.map (·.ev t)) (hi.map (·.ev t))).map (·,H):=rfl
@[simp] theorem aLA (o:Nat) (x:Arg):xOp t H (.au o x)=(lW o (x.ev t)).map (·,H):=rfl
@[simp] theorem aQf (o:Nat) (n:Option Nat) (x:Arg):xOp t H (.field o n x)=(yF o n (x.ev t)).map (·,H):=rfl
@[simp] theorem aLz (sz:Nat) (arr:Option Nat) (x i:Arg):xOp t H (.aC sz arr x i)=(aU H sz arr (x.ev t) (i.ev t)).map (·,H):=rfl
@[simp] theorem aQ1 (x i:Arg):xOp t H (.idxs x i)=(JX (x.ev t) (i.ev t)).map (·,H):=rfl
@[simp] theorem aQ2 (len sz:Nat) (n:Option Nat) (x i:Arg):xOp t H (.G5 len sz n x i)=(JY len sz n (x.ev t) (i.ev t)).map (·,H):=rfl
def cOf:V→Option C
 | .c x=>some x
 | _=>none
@[simp] theorem aUn (x:C):cOf (.c x)=some x:=rfl
@[simp] theorem x_len (x:Arg):xOp t H (.len x)=((cOf (x.ev t)).bind (bK H)).map fun n=>(vi (n:Nat),H):=by
 simp only [xOp,cOf]
 cases x.ev t with
 | c y=>simp only [bS];cases bK H y<;>rfl
 | _=>rfl
def strOf:V→Option ByteArray
 | .c (.f (.str s))=>some s
 | _=>none
@[simp] theorem aQl (s:ByteArray):strOf (.c (.f (.str s)))=some s:=rfl
@[simp] theorem aQ0 (n:Nat):xOp t H (.BG n)=some (vi (n:Nat),H):=rfl
@[simp] theorem aLC (sz bytes:Nat) (x y:Arg):xOp t H (.append sz bytes x y)=dn H sz bytes (x.ev t) (y.ev t):=rfl
@[simp] theorem aQ3 (sz:Nat) (x y:Arg):xOp t H (.copy sz x y)=copyV H sz (x.ev t) (y.ev t):=rfl
@[simp] theorem aQY (lo:Bool) (xs:List Arg):xOp t H (.kJ lo xs)=(JK lo (eG t xs)).map (·,H):=rfl
def tOf:V→Option (List V)
 | .t vs=>some vs
 | _=>none
@[simp] theorem aUf (vs:List V):tOf (.t vs)=some vs:=rfl
@[simp] theorem aLa (x:Arg) (i:Nat):xOp t H (.extract x i)=(tOf (x.ev t)).bind fun vs=>vs[i]?.map (·,H):=by
 simp only [xOp,tOf]
 split
 ·rename_i h;simp only [h];rfl
 ·rename_i h
  split
  ·rename_i h';exact absurd h' (h _)
  ·rfl
def zW:V→Option V
 | .c (.ptr b o e)=>some (.c (.ptr b o e))
 | .c (.f (.fp cs o))=>some (.c (.f (.fp cs o)))
 | _=>none
@[simp] theorem aH4 (b o e:Nat):zW (.c (.ptr b o e))=some (.c (.ptr b o e)):=rfl
@[simp] theorem aLh (cs:List FC) (o:Nat):zW (.c (.f (.fp cs o)))=some (.c (.f (.fp cs o))):=rfl
@[simp] theorem aLy (x:Arg):xOp t H (.bF x)=(zW (x.ev t)).map (·,H):=by
 simp only [xOp,zW]
 split
 ·rename_i h;simp only [h];rfl
 ·rename_i h;simp only [h];rfl
 ·rename_i h1 h2
  split
  ·rename_i h;exact absurd h (h1 _ _ _)
  ·rename_i h;exact absurd h (h2 _ _)
  ·rfl
@[simp] theorem aLn (f:Nat) (caps:List FC) (args:List V):cZ (.c (.f (.fn f caps))) args=some (.fn f,args++caps.map fun x=>.c (.f x)):=rfl
@[simp] theorem aLo (f:Nat) (caps:List C) (args:List V):cZ (.c (.cl f caps)) args=some (.fn f,args++caps.map .c):=rfl
@[simp] theorem aLp (f:Nat) (first:List C) (args:List V):cZ (.c (.bm f first)) args=some (.fn f,first.map .c++args):=rfl
end
section
variable{k:IntKind}{a b:Int}{H:Heap}
@[simp] theorem aQM:bM .add (.c (.f (.int k a))) (.c (.f (.int k b)))=some (.c (.f (.int k (k.wrap (a+b))))):=by simp [bM,l7,V.int]
@[simp] theorem aQE:bM .sub (.c (.f (.int k a))) (.c (.f (.int k b)))=some (.c (.f (.int k (k.wrap (a-b))))):=by simp [bM,l7,V.int]
@[simp] theorem aQG:bM .mul (.c (.f (.int k a))) (.c (.f (.int k b)))=some (.c (.f (.int k (k.wrap (a*b))))):=by simp [bM,l7,V.int]
theorem Ia(h:b≠0):bM .quo (.c (.f (.int k a))) (.c (.f (.int k b)))=some (.c (.f (.int k (k.wrap (a.tdiv b))))):=by simp [bM,l7,V.int,h]
theorem Ti(h:b≠0):bM .rem (.c (.f (.int k a))) (.c (.f (.int k b)))=some (.c (.f (.int k (a.tmod b)))):=by simp [bM,l7,V.int,h]
@[simp] theorem aQL:bM .eql (.c (.f (.int k a))) (.c (.f (.int k b)))=some (vb (decide (a=b))):=by simp [bM,l7,V.bool];rfl
@[simp] theorem aQF:bM .neq (.c (.f (.int k a))) (.c (.f (.int k b)))=some (vb (!decide (a=b))):=by simp [bM,l7,V.bool];rfl
@[simp] theorem aQH:bM .lss (.c (.f (.int k a))) (.c (.f (.int k b)))=some (vb (decide (a<b))):=by simp [bM,l7,V.bool]
@[simp] theorem aQI:bM .leq (.c (.f (.int k a))) (.c (.f (.int k b)))=some (vb (decide (a≤b))):=by simp [bM,l7,V.bool]
@[simp] theorem aQJ:bM .gtr (.c (.f (.int k a))) (.c (.f (.int k b)))=some (vb (decide (b<a))):=by simp [bM,l7,V.bool]
@[simp] theorem aQK:bM .geq (.c (.f (.int k a))) (.c (.f (.int k b)))=some (vb (decide (b≤a))):=by simp [bM,l7,V.bool]
@[simp] theorem aOo {x y:Bool}:eqP .bool (.f (.bool x)) (.f (.bool y))=some (x == y):=rfl
@[simp] theorem aQy {x y:ByteArray}:eqP .str (.f (.str x)) (.f (.str y))=some (x == y):=rfl
@[simp] theorem aQz:eqL [] [] []=some true:=rfl
@[simp] theorem aOn {x y:Bool}:eqV H .bool (.c (.f (.bool x))) (.c (.f (.bool y)))=some (x == y):=rfl
@[simp] theorem aTi {ks:List CK} {xs ys:List C}:eqV H (.st ks) (.a xs) (.a ys)=eqL ks xs ys:=rfl
@[simp] theorem aQ4 {x:Bool}:unV .not (.c (.f (.bool x)))=some (vb (!x)):=rfl
@[simp] theorem aIY {o c o' ep:Nat}:lW o (.c (.ptr c o' ep))=some (.c (.ptr c (o'+o) ep)):=rfl
@[simp] theorem aLk {o o':Nat} {cs:List FC}:lW o (.c (.f (.fp cs o')))=some (.c (.f (.fp cs (o'+o)))):=rfl
@[simp] theorem aQB {x:C}:(V.c x).cells?=some [x]:=rfl
@[simp] theorem aQC {xs:List C}:(V.a xs).cells?=some xs:=rfl
@[simp] theorem aVL {n:Nat} {x:FC}:exC n H (.f x)=some x:=by cases n<;>rfl
@[simp] theorem aUl {n:Nat} {x:C}:dM n H (.c x)=(exC n H x).map fun y=>.c (.f y):=rfl
@[simp] theorem aUj {n f:Nat} {caps:List C}:exC (n+1) H (.cl f caps)=(bC (exC n H) caps).map (.fn f):=rfl
@[simp] theorem aTg {n b o e:Nat}:exC (n+1) H (.ptr b o e)=match H[b]? with
  | some (.box cs _)=>(bC (exC n H) cs).map (.fp · o)
  | _=>none:=rfl
theorem zA{n b o l c ep sz:Nat}:exC (n+1) H (.sl b o l c ep sz)=match H[b]? with
  | some (.box cs _)=>if o+l*sz≤cs.length then(bC (exC n H) ((cs.drop o).take (l*sz))).map (.fs · l)else none
  | some (.opn s cs _ e .loc)=>if ep=e∧sz=s∧o+l*sz≤cs.length then(bC (exC n H) ((cs.drop o).take (l*sz))).map (.fs · l)else none
  | some (.opn s _ _ e .nil)=>if ep=e∧sz=s then some .aA else none
  | some (.opn s _ _ e .es)=>if ep=e∧sz=s then some .es else none
  | _=>none:=rfl
theorem ajQ{n b o e:Nat}:mkC (n+1) (.ptr b o e) H=match H[b]? with
  | some (.box cs fl)=>cs.foldl (fun H x=>mkC n x H) (H.set b (.box cs (Nat.max fl cs.length)))
  | _=>H:=rfl
theorem aD2{n b o l c e sz:Nat}:mkC (n+1) (.sl b o l c e sz) H=match H[b]? with
  | some (.box cs fl)=>((cs.drop o).take (l*sz)).foldl (fun H x=>mkC n x H) (H.set b (.box cs (Nat.max fl (o+l*sz))))
  | some (.opn s cs fl e st)=>((cs.drop o).take (l*sz)).foldl (fun H x=>mkC n x H) (H.set b (.opn s cs (Nat.max fl (o+l*sz)) e st))
  | _=>H:=rfl
theorem aD3{n f:Nat}{caps:List C}:mkC (n+1) (.cl f caps) H=caps.foldl (fun H x=>mkC n x H) H:=rfl
@[simp] theorem aVG {n:Nat} {x:C}:mkV n H (.c x)=mkC n x H:=rfl
@[simp] theorem aUk {n:Nat} {x:C}:exV n H (.c x)=(exC n H x).map fun y=>.c (.f y):=rfl
theorem vG{n:Nat}:∀(xs:List FC),bC (exC n H) (xs.map .f)=some xs
 | []=>rfl
 | x::xs=>by simp [bC,vG xs]
@[simp] theorem aUm {n:Nat} {xs:List C}:dM n H (.a xs)=(bC (exC n H) xs).map fun ys=>.a (ys.map .f):=rfl
@[simp] theorem aQu {n:Nat} (xs:List FC):bC (exC n H) (xs.map .f)=some xs:=vG xs
@[simp] theorem aVH {n:Nat} {xs:List C}:mkV n H (.a xs)=xs.foldl (fun H x=>mkC n x H) H:=rfl
@[simp] theorem RY {n:Nat} {x:FC}:mkC n (.f x) H=H:=by cases n<;>rfl
@[simp] theorem aLj {n:Nat} (xs:List FC):(xs.map C.f).foldl (fun H x=>mkC n x H) H=H:=by
 induction xs with
 | nil=>rfl
 | cons x xs ih=>simp only [a8,cP];rw [RY];exact ih
end
theorem wrapu8{n:Int}(h1:0≤n)(h2:n≤255):IntKind.wrap .u8 n=n:=by
 simp only [IntKind.wrap,IntKind.bits,IntKind.signed]
 simp
 omega
theorem wrap64{n:Int}(h1:-9223372036854775808≤n)(h2:n≤9223372036854775807):IntKind.wrap .i64 n=n:=by
 simp only [IntKind.wrap,IntKind.bits,IntKind.signed]
 simp
 omega
@[simp] theorem cast_eq (a b:Nat):((a:Int)=(b:Int))=(a=b):=propext Int.natCast_inj
@[simp] theorem aNx {α β:Type} (g:α→Option β):bC g []=some []:=rfl
@[simp] theorem aLi {α β:Type} (g:α→Option β) (x:α) (xs:List α):bC g (x::xs)=(g x).bind fun y=>(bC g xs).map (y::·):=by
 simp only [bC]
 cases g x<;>cases bC g xs<;>simp
@[simp] theorem aQk (x:C) (xs:List C):aS none (x::xs)=some (.c x):=rfl
@[simp] theorem aQj (n:Nat) (xs:List C):aS (some n) xs=if n≤xs.length then some (.a (xs.take n))else none:=rfl
@[simp] theorem aH (H:Heap) (n:Option Nat) (b o ep:Nat):ldV H n (.c (.ptr b o ep))=match H[b]? with
  | some (.box cs _)=>aS n (cs.drop o)
  | some (.opn _ cs _ e .loc)=>if ep=e then aS n (cs.drop o)else none
  | _=>none:=by
 simp only [ldV,aP]
 split
 ·rename_i h;simp only [h];rfl
 ·rename_i h;simp only [h];split<;>rfl
 ·rename_i h1 h2
  split
  ·rename_i h;exact absurd h (h1 _ _)
  ·rename_i h;exact absurd h (h2 _ _ _ _)
  ·rfl
@[simp] theorem bH (H:Heap) (b o ep:Nat) (xs:List C):stC H (.ptr b o ep) xs=match H[b]? with
  | some (.box cs fl)=>if fl≤o∧o+xs.length≤cs.length then some (H.set b (.box (over cs o xs) fl))else none
  | some (.opn sz cs fl e .loc)=>if ep=e∧fl≤o∧o+xs.length≤cs.length then some (H.set b (.opn sz (over cs o xs) fl e .loc))else none
  | _=>none:=rfl
attribute [simp] over dO
@[simp] theorem aHz (t:T) (cs:List C):gK t cs []=some cs:=rfl
@[simp] theorem aDZ (t:T) (cs:List C) (o n:Nat) (x:Arg) (ps:List (Nat × Nat × Arg)):gK t cs ((o,n,x)::ps)=(x.ev t).cells?.bind fun xs=>if xs.length=n∧o+xs.length≤cs.length then gK t (over cs o xs) ps else none:=by
 simp only [gK];cases (x.ev t).cells?<;>rfl
@[simp] theorem aTm (x:FC):zL (.c (.f x))=some (.f x):=rfl
@[simp] theorem aOs (b o e:Nat):zL (.c (.ptr b o e))=some (.ptr b o e):=rfl
@[simp] theorem aQD (b o l c e s:Nat):zL (.c (.sl b o l c e s))=some (.sl b o l c e s):=rfl
def aEq:V→Option V
 | .t _=>none
 | v=>some v
@[simp] theorem aQ5 (x:C):aEq (.c x)=some (.c x):=rfl
@[simp] theorem aQ6 (x:List C):aEq (.a x)=some (.a x):=rfl
@[simp] theorem aQm (t:T) (H:Heap) (n:Nat):dF t H (.tmp (P.nat n))=aEq (t.g n):=by
 simp only [dF,aAg]
 cases t.g n<;>rfl
@[simp] theorem aLX (t:T) (H:Heap) (n:Nat) (k:Option Nat):dF t H (.cell (P.nat n) k)=ldV H k (t.g n):=rfl
@[simp] theorem aQx {t:T} {H:Heap} {x:l9} {r:V}:xH [x] r ⟨t,[],H⟩↔∃ r0,dF t H x=some r0∧exV deep H r0=some r:=by
 simp only [xH,results,true_and,bC]
 cases dF t H x<;>simp
@[simp] theorem aQw {t:T} {H:Heap} {x y:l9} {a b:V}:xH [x,y] (.t [a,b]) ⟨t,[],H⟩ ↔
  (∃ r0,dF t H x=some r0∧dM deep H r0=some a)∧∃ r0,dF t H y=some r0∧dM deep H r0=some b:=by
 simp only [xH,results,true_and,bC]
 cases dF t H x with
 | none=>simp
 | some u=>cases dF t H y with
  | none=>simp
  | some w=>cases h1:dM deep H u<;>cases h2:dM deep H w<;>simp [exV,h1,h2]
inductive Tg where | nil | es | fs
 deriving DecidableEq
def Tg.fc:Tg→FC
 | .nil=>.aA
 | .es=>.es
 | .fs=>.fs [] 0
def sl(g:Tg)(rows:List (List FC)):FC:=if rows.isEmpty then g.fc else .fs rows.flatten rows.length
def Grid(sz:Nat)(rows:List (List FC)):Prop:=∀ r ∈ rows,r.length=sz
theorem fB{sz:Nat}:∀ {rows:List (List FC)},Grid sz rows→rows.flatten.length=rows.length*sz
 | [],_=>by simp
 | r::rows,h=>by
  have:=fB (rows:=rows) fun x hx=>h x (aR _ hx)
  simp only [b5,bz,cK,this,h r aE,bR,Nat.one_mul]
  omega
theorem Ew{sz:Nat}:∀ {rows:List (List FC)} (j:Nat),Grid sz rows→rows.flatten.drop (j*sz)=(rows.drop j).flatten
 | rows,0,_=>by simp
 | [],j+1,_=>by simp
 | r::rows,j+1,h=>by
  have hr:=h r aE
  have:=Ew (rows:=rows) j fun x hx=>h x (aR _ hx)
  rw [b5,List.drop_succ_cons,←this,bR,Nat.one_mul,List.drop_append,hr]
  simp [hr,show j*sz+sz-sz=j*sz by omega]
theorem Grid.map{α:Type}{sz:Nat}{l:List α}{g:α→List FC}(h:∀ x,(g x).length=sz):Grid sz (l.map g):=fun r hr=>by
 obtain⟨x,_,rfl⟩:=List.mem_map.1 hr;exact h x
theorem xk{sz j k:Nat}{rows:List (List FC)}{row:List FC}(hg:Grid sz rows)(hj:rows[j]?=some row)(hk:k≤sz) :
  rows.flatten.drop (j*sz+k)=row.drop k++(rows.drop (j+1)).flatten:=by
 have hl:j<rows.length:=(al.1 hj).1
 have hr:row.length=sz:=hg row (aD hj)
 rw [←List.drop_drop,Ew j hg,cJ hl,b5]
 have:rows[j]=row:=by simpa [ae hl]using hj
 rw [this,List.drop_append,show k-row.length=0 by omega]
 simp
variable{H:Heap}
theorem Ny{sz j k:Nat}{rows:List (List FC)}{row:List FC}{x:FC}(hg:Grid sz rows)(hj:rows[j]?=some row)(hx:row[k]?=some x) :
  ldV H none (.c (.f (.fp rows.flatten (j*sz+k))))=some (.c (.f x)):=by
 have hr:row.length=sz:=hg row (aD hj)
 have hk:k<row.length:=(al.1 hx).1
 have e:=xk (k:=k) hg hj (by omega)
 simp only [ldV,aP,bS,e]
 rw [cJ hk]
 have:row[k]=x:=by simpa [ae hk]using hx
 simp [aS,this]
theorem azF{sz j k n:Nat}{rows:List (List FC)}{row:List FC}(hg:Grid sz rows)(hj:rows[j]?=some row)(hk:k+n≤sz) :
  ldV H (some n) (.c (.f (.fp rows.flatten (j*sz+k))))=some (.a (((row.drop k).take n).map .f)):=by
 have hr:row.length=sz:=hg row (aD hj)
 have e:=xk (k:=k) hg hj (by omega)
 simp only [ldV,aP,bS,e]
 simp only [aS]
 rw [if_pos (by simp only [a9,bz,cF];omega)]
 rw [List.map_append,List.take_append_of_le_length (by simp only [a9,cF];omega),List.map_take]
theorem iZ{sz j:Nat}{rows:List (List FC)}{row:List FC}(hg:Grid sz rows)(hj:rows[j]?=some row) :
  ldV H (some sz) (.c (.f (.fp rows.flatten (j*sz))))=some (.a (row.map .f)):=by
 have hr:row.length=sz:=hg row (aD hj)
 have:=azF (H:=H) (k:=0) (n:=sz) hg hj (by omega)
 simp only [Nat.add_zero,List.drop_zero]at this
 rw [this,List.take_of_length_le (by omega)]
theorem pJ{sz j:Nat}{rows:List (List FC)}{row:List FC}{x:FC}(hg:Grid sz rows)(hj:rows[j]?=some row)(hx:row[0]?=some x) :
  ldV H none (.c (.f (.fp rows.flatten (j*sz))))=some (.c (.f x)):=Ny (k:=0) hg hj hx
theorem Sv{j:Nat}{l:List Int}{x:Int}(hj:l[j]?=some x) :
  ldV H none (.c (.f (.fp (l.map fun n=>[fi n]).flatten (j*1))))=some (vi x):=
 pJ (row:=[fi x]) (Grid.map fun _=>rfl) (by rw [List.getElem?_map,hj];rfl) rfl
@[simp] theorem aj1 (g:Tg) (rows:List (List FC)):bK H (.f (sl g rows))=some rows.length:=by
 cases rows with
 | nil=>cases g<;>rfl
 | cons r rows=>rfl
theorem gU{g:Tg}{rows:List (List FC)}{sz:Nat}{k:IntKind}{i:Int}(h0:0≤i)(h1:i<rows.length) :
  aU H sz none (.c (.f (sl g rows))) (.c (.f (.int k i)))=some (.c (.f (.fp rows.flatten (i.toNat*sz)))):=by
 cases rows with
 | nil=>simp at h1;omega
 | cons r rows=>
  simp only [cK]at h1
  simp [aU,iO,sl,h0]
  omega
end Km
end
