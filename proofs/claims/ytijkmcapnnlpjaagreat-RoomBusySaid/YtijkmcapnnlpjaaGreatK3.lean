/-
  Our own small machine for Go code by value, held against the model: part 3. No program in sight.
-/
import Derived.Test.YtijkmcapnnlpjaaGreatK2
import Derived.Test.YtijkmcapnnlpjaaGreatK1
set_option linter.unusedVariables false
set_option linter.unusedSimpArgs false
set_option linter.unusedSectionVars false
section
namespace Km
open Go
variable{Q:Program}{σ:Nat→FuncId}{X:Wd}{call:dO}
def N8(X:Wd)(b:Nat):Prop:=∃ f t p a c s q d,X.H[b]?=some (.lp f t p a c s q d)
theorem N8.ext{X X':Wd}(hx:Ext X.H.length X X'){b:Nat}(h:N8 X b):N8 X' b∧∀ L,X.rho b=some L→X'.rho b=some L:=by
 obtain⟨f,t,p,a,c,s,q,d,hb⟩:=h
 obtain⟨blk',hb',hk⟩:=hx.keep b (List.getElem?_eq_some_iff.1 hb).1 _ hb
 cases blk'<;>simp only at hk
 exact⟨⟨_,_,_,_,_,_,_,_,hb'⟩,hk.2⟩
inductive kU(Q:Program)(σ:Nat→FuncId)(n:Nat)(X:Wd):dR→Item→Prop
 | code {a:ah} {c:Code} (h:bZ Q σ n c a=true):kU Q σ n X (.code a) (.code c)
 | inBlock (id:Nat):kU Q σ n X (.inBlock id) (.inBlock id)
 | inLoop {a:ah} {c:Code} (h:bZ Q σ n c a=true):kU Q σ n X (.inLoop a) (.inLoop c)
 | nK {b:Nat} {L:Loc} (h:X.rho b=some L) (hl:N8 X b):kU Q σ n X (.nK b) (.endRangeFunc L.c)
 | rO:kU Q σ n X .rO .beginRound
 | inScope {a:ah} {c:Code} (h:bZ Q σ n c a=true) (hs:pJ a=true):kU Q σ n X (.inScope a) (.inScope c)
theorem kU.ext{n:Nat}{X X':Wd}(hx:Ext X.H.length X X'){x:dR}{y:Item}(h:kU Q σ n X x y):kU Q σ n X' x y:=by
 cases h with
 | code h=>exact .code h
 | inBlock id=>exact .inBlock id
 | inLoop h=>exact .inLoop h
 | nK h hl=>exact .nK ((hl.ext hx).2 _ h) (hl.ext hx).1
 | rO=>exact .rO
 | inScope h hs=>exact .inScope h hs
def RoR(X:Wd):Option Nat→Option Nat→Prop
 | none,none=>True
 | some b,some l=>∃ L,X.rho b=some L∧L.c=l∧N8 X b
 | _,_=>False
theorem RoR.ext{X X':Wd}(hx:Ext X.H.length X X'){ro ro':Option Nat}(h:RoR X ro ro'):RoR X' ro ro':=by
 cases ro<;>cases ro'<;>simp only [RoR]at h ⊢
 obtain⟨L,h1,h2,h3⟩:=h
 exact⟨L,(h3.ext hx).2 _ h1,h2,(h3.ext hx).1⟩
theorem Fh{n:Nat}(id:Nat):∀(k:List dR) (ks:List Item),A2 (kU Q σ n X) k ks →
  match Km.exitTo id k with
  | some k'=>∃ ks',Go.exitTo id ks=some ks'∧A2 (kU Q σ n X) k' ks'
  | none=>Go.exitTo id ks=none
 | [],ks,h=>by
  have:ks=[]:=List.eq_nil_of_length_eq_zero h.len.symm
  subst this;rfl
 | x::k,[],h=>by have:=h.len;simp at this
 | x::k,y::ks,h=>by
  obtain⟨h1,h2⟩:=h.of_cons
  have ih:=Fh id k ks h2
  cases h1 with
  | inBlock id'=>
   simp only [Km.exitTo,Go.exitTo]
   by_cases he:(id' == id)=true
   ·simp only [he,if_true];exact⟨ks,rfl,h2⟩
   ·simp only [he,Bool.false_eq_true,if_false];exact ih
  | _=>exact ih
theorem Ht{n:Nat}(l:Nat):∀(a:ah) (c:Code),bZ Q σ n c a=true→pJ a=true →
  match Km.findLabel a l with
  | some r=>∃ r',Go.findLabel c l=some r'∧bZ Q σ n r' r=true
  | none=>Go.findLabel c l=none:=by
 intro a
 induction a with
 | seq a b iha ihb=>
  intro c h hs
  simp only [pJ,Bool.and_eq_true]at hs
  cases c with
  | seq c d=>
   simp only [bZ,Bool.and_eq_true]at h
   have h1:=iha c h.1 hs.1
   simp only [Km.findLabel,Go.findLabel]
   cases hf:Km.findLabel a l with
   | some r=>
    rw [hf]at h1
    obtain⟨r',h2,h3⟩:=h1
    simp only [h2]
    exact⟨_,rfl,by simp [bZ,h3,h.2]⟩
   | none=>
    rw [hf]at h1
    simp only [h1]
    exact ihb d h.2 hs.2
  | _=>simp [bZ]at h
 | label l'=>
  intro c h _
  cases c with
  | label l2=>
   simp only [bZ,beq_iff_eq]at h
   subst h
   simp only [Km.findLabel,Go.findLabel]
   by_cases he:(l2 == l)=true
   ·simp only [he,if_true];exact⟨_,rfl,by simp [bZ]⟩
   ·simp only [he,Bool.false_eq_true,if_false]
  | _=>simp [bZ]at h
 | bad=>intro c h hs;simp [pJ]at hs
 | _=>intro c h _;cases c<;>simp_all [bZ,Km.findLabel,Go.findLabel]
theorem Fa{n:Nat}(l:Nat):∀(k:List dR) (ks:List Item),A2 (kU Q σ n X) k ks →
  match Km.gotoIn l k with
  | some k'=>∃ ks',Go.gotoIn l ks=some ks'∧A2 (kU Q σ n X) k' ks'
  | none=>Go.gotoIn l ks=none
 | [],ks,h=>by
  have:ks=[]:=List.eq_nil_of_length_eq_zero h.len.symm
  subst this;rfl
 | x::k,[],h=>by have:=h.len;simp at this
 | x::k,y::ks,h=>by
  obtain⟨h1,h2⟩:=h.of_cons
  have ih:=Fa l k ks h2
  cases h1 with
  | inScope hm hs=>
   rename_i a c
   have h3:=Ht (Q:=Q) (σ:=σ) l a c hm hs
   simp only [Km.gotoIn,Go.gotoIn]
   cases hf:Km.findLabel a l with
   | some r=>
    rw [hf]at h3
    obtain⟨r',h4,h5⟩:=h3
    simp only [h4]
    exact⟨_,rfl,A2.cons (.code h5) (A2.cons (.inScope hm hs) h2)⟩
   | none=>
    rw [hf]at h3
    simp only [h3]
    exact ih
  | _=>exact ih
def aMb:Option ah→List Item→Prop
 | none,items=>items=[]
 | some .ret,items=>∃ k,items=.code .ret::k
 | some (.exit id),items=>∃ k,items=.code (.exit id)::k∧Go.exitTo id k=none
 | _,_=>False
end Km
end
section
namespace Km
open Go
variable{Q:Program}{σ:Nat→FuncId}{X:Wd}{call:dO}
theorem vI{b:Nat}{L:Loc}(hS:SR Q σ X)(hL:X.rho b=some L){f:Nat}{t:T}{ps:List P}{as bd:ah}{q:iU}{pend:Option ah}{d:Nat}(hb:X.H[b]?=some (.lp f t ps as bd q pend d)) :
  ∃(n:Nat) (us:Array Value) (ps':Array Tmp) (as' bd':Code) (jW:Option Code) (Ld:Loc),
   X.w.heap[L.c]?=some (.loop { state:=q.of,pending:=jW,fn:=σ f,tmps:=us,params:=ps',assign:=as',body:=bd',defers:=Ld.c }) ∧
   n≤us.size∧RR σ X t us∧all2 (fun p (q:P)=>q.toNat == p&&decide (p<n)) ps'.toList ps=true∧bZ Q σ n as' as=true∧bZ Q σ n bd' bd=true∧EX Q σ n pend jW∧X.rho d=some Ld∧∃ o,X.H[d]?=some (.dfr o):=by
 obtain⟨_,_,blk,hb',hbr⟩:=hS.br b L hL
 rw [hb]at hb';cases hb'
 exact hbr
theorem F5(hS:SR Q σ X){b:Nat}{L:Loc}(hL:X.rho b=some L){f:Nat}{t:T}{ps:List P}{as bd:ah}{q q':iU}{pend A8:Option ah}{d:Nat}(hb:X.H[b]?=some (.lp f t ps as bd q pend d))
  {n:Nat} {us:Array Value} {ps':Array Tmp} {as' bd':Code} {jW:Option Code} {Ld:Loc}
  (h2:n≤us.size) (h3:RR σ X t us) (h4:all2 (fun p (q:P)=>q.toNat == p&&decide (p<n)) ps'.toList ps=true) (h5:bZ Q σ n as' as=true) (h6:bZ Q σ n bd' bd=true) (h7:EX Q σ n A8 jW) (h8:X.rho d=some Ld) (h9:∃ o,X.H[d]?=some (.dfr o)) :
  SR Q σ { X with H:=X.H.set b (.lp f t ps as bd q' A8 d),w:=X.w.putObj L.c (.loop { state:=q'.of,pending:=jW,fn:=σ f,tmps:=us,params:=ps',assign:=as',body:=bd',defers:=Ld.c }) } ∧
  Ext X.H.length X { X with H:=X.H.set b (.lp f t ps as bd q' A8 d),w:=X.w.putObj L.c (.loop { state:=q'.of,pending:=jW,fn:=σ f,tmps:=us,params:=ps',assign:=as',body:=bd',defers:=Ld.c }) }:=by
 obtain⟨m,us0,ps0,as0,bd0,pd0,Ld0,qH,_⟩:=vI hS hL hb
 have hlt:b<X.H.length:=(List.getElem?_eq_some_iff.1 hb).1
 refine SR.uQ (o':=.loop { state:=q'.of,pending:=jW,fn:=σ f,tmps:=us,params:=ps',assign:=as',body:=bd',defers:=Ld.c }) (blk':=.lp f t ps as bd q' A8 d) hS hb hL qH (by simp) (by simp)
  (fun blk hblk=>⟨.lp f t ps as bd q' A8 d,by simp [hlt],by rw [hb]at hblk;cases hblk;exact⟨⟨rfl,rfl,rfl,rfl,rfl,rfl⟩,fun L h=>h⟩⟩)
  (fun X' hx' hw1 _ qj hH=>?_)
 obtain⟨o,h9⟩:=h9
 refine⟨n,us,ps',as',bd',jW,Ld,hw1,h2,RR.ext' σ hx' h3,h4,h5,h6,h7,by rw [qj];exact h8,o,?_⟩
 have hne:b≠d:=fun e=>by rw [e,h9]at hb;cases hb
 rw [hH,List.getElem?_set_ne hne];exact h9
end Km
end
section
namespace Km
open Go
variable{Q:Program}{σ:Nat→FuncId}{call:dO}
structure Way(Q:Program)(σ:Nat→FuncId)(fn:Nat)(n:Nat)(b:Frame)(cs:List Frame)(ro:Option Nat)(todo:List dR)(items:List Item)(s:St)(X:Wd)(a:Act):Prop where
 fr:Fr Q σ n X s a
 items:A2 (kU Q σ n X) todo items
 ro:RoR X ro b.roundOf
 kind:mG b cs
 fn:b.fn=σ fn
theorem Way.ext{fn n:Nat}{b:Frame}{cs:List Frame}{ro:Option Nat}{todo:List dR}{items:List Item}{s s':St}{X X':Wd}{a a':Act}(h:Way Q σ fn n b cs ro todo items s X a){todo':List dR}{items':List Item}(hx:Ext X.H.length X X')(hF:Fr Q σ n X' s' a')
  (hi:A2 (kU Q σ n X) todo' items'):Way Q σ fn n b cs ro todo' items' s' X' a':=
 ⟨hF,hi.weak fun _ _ h=>h.ext hx,h.ro.ext hx,h.kind,h.fn⟩
theorem Way.to{fn n:Nat}{b:Frame}{cs:List Frame}{ro:Option Nat}{todo:List dR}{items:List Item}{s:St}{X:Wd}{a:Act}(h:Way Q σ fn n b cs ro todo items s X a){todo':List dR}{items':List Item}
  (hi:A2 (kU Q σ n X) todo' items'):Way Q σ fn n b cs ro todo' items' s X a:=⟨h.fr,hi,h.ro,h.kind,h.fn⟩
def aT0(Q:Program)(σ:Nat→FuncId)(call:dO)(fn m:Nat):Prop:=
 ∀(n:Nat) (b:Frame) (cs:List Frame) ro todo items s X a jump s',run call fn m ro todo s=some (jump,s')→Way Q σ fn n b cs ro todo items s X a →
  ∃ X' a' items',Steps Q (lone (b.atR a items) cs X.w) (lone (b.atR a' items') cs X'.w)∧Fr Q σ n X' s' a'∧Ext X.H.length X X'∧a'.tmps.size=a.tmps.size∧aMb jump items'
theorem DL{b:Frame}{a:Act}{k:List Item}{cs:List Frame}{w:World}{body:Code}:step Q (lone (b.atR a (.inScope body::k)) cs w)=.next (lone (b.atR a k) cs w):=
 step_lone_go (by simp [stepG,stepG.exec,Frame.atR])
theorem IJ{b:Frame}{a:Act}{k:List Item}{cs:List Frame}{w:World}{body:Code}:step Q (lone (b.atR a (.code (.scope body)::k)) cs w)=.next (lone (b.atR a (.code body::.inScope body::k)) cs w):=
 step_lone_go (by simp [stepG,stepG.exec,Frame.atR])
theorem Xk(hC:ji Q σ call)(YV:Q.follows .mixedOrders=true)(fn:Nat):∀ m,aT0 Q σ call fn m:=by
 intro m
 induction m with
 | zero=>intro n b cs ro todo items s X a jump s' h;simp [run]at h
 | succ m ih=>
  intro n b cs ro todo items s X a jump s' h hW
  have go:∀ {todo' items'},run call fn m ro todo' s=some (jump,s')→A2 (kU Q σ n X) todo' items'→step Q (lone (b.atR a items) cs X.w)=.next (lone (b.atR a items') cs X.w) →
    ∃ X' a' items',Steps Q (lone (b.atR a items) cs X.w) (lone (b.atR a' items') cs X'.w)∧Fr Q σ n X' s' a'∧Ext X.H.length X X'∧a'.tmps.size=a.tmps.size∧aMb jump items':=by
   intro todo' items' hr hi hst
   obtain⟨X',a',it,g1,g2⟩:=ih n b cs ro todo' items' s X a jump s' hr (hW.to hi)
   exact⟨X',a',it,.head hst g1,g2⟩
  cases todo with
  | nil=>
   have:items=[]:=List.eq_nil_of_length_eq_zero hW.items.len.symm
   subst this
   simp only [run,Option.some.injEq,Prod.mk.injEq]at h
   obtain⟨rfl,rfl⟩:=h
   exact⟨X,a,[],Steps.refl _ _,hW.fr,Ext.refl _ _,rfl,rfl⟩
  | cons x k=>
   cases items with
   | nil=>have:=hW.items.len;simp at this
   | cons it ks=>
    obtain⟨hx,hks⟩:=hW.items.of_cons
    cases hx with
    | inBlock id=>exact go (by simpa [run]using h) hks stepR_inBlock
    | inLoop hm=>exact go (by simpa [run]using h) (A2.cons (.code hm) (A2.cons (.inLoop hm) hks)) stepR_inLoop
    | inScope hm hs=>exact go (by simpa [run]using h) hks DL
    | nK hb hl=>
     rename_i bb L
     simp only [run]at h
     split at h
     ·rename_i f t ps as bd q pend d hlp
      split at h
      ·simp at h
      ·rename_i hq
       rw [←hW.fr.heap]at hlp
       obtain⟨m0,us,ps',as',bd',jW,Ld,qH,h2,h3,h4,h5,h6,h7,h8,h9⟩:=vI hW.fr.sr hb hlp
       obtain⟨g1,g2⟩:=F5 hW.fr.sr hb hlp (q':=.exhausted) h2 h3 h4 h5 h6 h7 h8 h9
       have hne:(q.of)≠LoopState.busy:=by cases q<;>simp [iU.of]at hq ⊢
       have hst:=stepR_endRangeFunc (P:=Q) (b:=b) (a:=a) (k:=ks) (cs:=cs) (run_endLoop (P:=Q) qH hne)
       have key:∀ {todo' items'},run call fn m ro todo' { s with heap:=s.heap.set bb (.lp f t ps as bd .exhausted pend d) }=some (jump,s')→A2 (kU Q σ n X) todo' items'→items'=(jW.map Item.code).toList++ks →
         ∃ X' a' items',Steps Q (lone (b.atR a (.endRangeFunc L.c::ks)) cs X.w) (lone (b.atR a' items') cs X'.w)∧Fr Q σ n X' s' a'∧Ext X.H.length X X'∧a'.tmps.size=a.tmps.size∧aMb jump items':=by
        intro todo' items' hr hi he
        obtain⟨X',a',it,k1,k2,k3,k4,k5⟩:=ih n b cs ro todo' items' _ _ a jump s' hr (hW.ext (a':=a) g2 ⟨by rw [←hW.fr.heap],g1,by simpa [World.putObj]using hW.fr.b,hW.fr.regs.ext' σ g2,hW.fr.defs.ext' g2,hW.fr.size⟩ hi)
        rw [he]at k1
        exact⟨X',a',it,.head hst k1,k2,g2.trans (k3.mono g2.len),k4,k5⟩
       split at h
       ·cases jW with
        | none=>exact key h hks rfl
        | some c=>exact h7.elim
       ·cases jW with
        | none=>exact h7.elim
        | some c=>
         have h7:bZ Q σ m0 c .ret=true:=h7
         cases c<;>simp [bZ]at h7
         exact key h (A2.cons (.code (by simp [bZ])) hks) rfl
       ·rename_i id
        cases jW with
        | none=>exact h7.elim
        | some c=>
         have h7:bZ Q σ m0 c (.exit id)=true:=h7
         cases c<;>simp [bZ]at h7
         subst h7
         exact key h (A2.cons (.code (by simp [bZ])) hks) rfl
       ·simp at h
     ·simp at h
    | rO=>
     simp only [run]at h
     split at h
     ·simp at h
     ·rename_i bb
      split at h
      ·rename_i f t ps as bd pend d hlp
       have hro:=hW.ro
       cases hbr:b.roundOf with
       | none=>rw [hbr]at hro;exact hro.elim
       | some l=>
        rw [hbr]at hro
        obtain⟨L,hL,rfl,_⟩:=hro
        rw [←hW.fr.heap]at hlp
        obtain⟨m0,us,ps',as',bd',jW,Ld,qH,h2,h3,h4,h5,h6,h7,h8,h9⟩:=vI hW.fr.sr hL hlp
        obtain⟨g1,g2⟩:=F5 hW.fr.sr hL hlp (q':=.busy) h2 h3 h4 h5 h6 h7 h8 h9
        have hst:=stepR_beginRound (P:=Q) (b:=b) (a:=a) (k:=ks) (cs:=cs) hbr (run_beginRound (P:=Q) qH rfl)
        obtain⟨X',a',it,k1,k2,k3,k4,k5⟩:=ih n b cs _ k ks _ _ a jump s' h (hW.ext (a':=a) g2 ⟨by rw [←hW.fr.heap],g1,by simpa [World.putObj]using hW.fr.b,hW.fr.regs.ext' σ g2,hW.fr.defs.ext' g2,hW.fr.size⟩ hks)
        exact⟨X',a',it,.head hst k1,k2,g2.trans (k3.mono g2.len),k4,k5⟩
      ·simp at h
    | code hm=>
     rename_i ac c
     cases ac with
     | bad=>simp [run]at h
     | skip=>cases c<;>simp [bZ]at hm;exact go (by simpa [run]using h) hks stepR_skip
     | label l=>cases c<;>simp [bZ]at hm;exact go (by simpa [run]using h) hks stepR_label
     | scope p=>
      cases c<;>simp [bZ]at hm
      exact go (by simpa [run]using h) (A2.cons (.code hm.1) (A2.cons (.inScope hm.1 hm.2) hks)) IJ
     | goto l=>
      cases c<;>simp [bZ]at hm
      subst hm
      rename_i l'
      have hex:=Fa (Q:=Q) (σ:=σ) (n:=n) (X:=X) l' k ks hks
      simp only [run]at h
      split at h
      ·rename_i k' hk'
       rw [hk']at hex
       obtain⟨ks',he,aKN⟩:=hex
       exact go h aKN (stepR_goto he)
      ·simp at h
     | ret=>
      cases c<;>simp [bZ]at hm
      simp only [run,Option.some.injEq,Prod.mk.injEq]at h
      obtain⟨rfl,rfl⟩:=h
      exact⟨X,a,_,Steps.refl _ _,hW.fr,Ext.refl _ _,rfl,ks,rfl⟩
     | seq p q=>
      cases c<;>simp [bZ]at hm
      exact go (by simpa [run]using h) (A2.cons (.code hm.1) (A2.cons (.code hm.2) hks)) stepR_seq
     | block id p=>
      cases c<;>simp [bZ]at hm
      obtain⟨rfl,hm⟩:=hm
      exact go (by simpa [run]using h) (A2.cons (.code hm) (A2.cons (.inBlock _) hks)) stepR_block
     | loop p=>
      cases c<;>simp [bZ]at hm
      exact go (by simpa [run]using h) (A2.cons (.code hm) (A2.cons (.inLoop hm) hks)) stepR_loop
     | exit id=>
      cases c<;>simp [bZ]at hm
      subst hm
      rename_i id'
      have hex:=Fh (Q:=Q) (σ:=σ) (n:=n) (X:=X) id' k ks hks
      simp only [run]at h
      split at h
      ·rename_i k' hk'
       rw [hk']at hex
       obtain⟨ks',he,aKN⟩:=hex
       exact go h aKN (stepR_exit he)
      ·rename_i hk'
       rw [hk']at hex
       split at h
       ·simp only [Option.some.injEq,Prod.mk.injEq]at h
        obtain⟨rfl,rfl⟩:=h
        exact⟨X,a,_,Steps.refl _ _,hW.fr,Ext.refl _ _,rfl,ks,rfl,hex⟩
       ·simp at h
     | cond x p q=>
      cases c<;>simp [bZ]at hm
      simp only [run]at h
      split at h
      ·rename_i v hv
       have hx:=bV hW.fr.regs hm.1.1
       rw [hv]at hx
       have hx':FCR σ X.F X.w (.bool v) _:=hx
       have he:∀ u,FCR σ X.F X.w (.bool v) u→u=.bool v:=fun u hu=>by cases hu;rfl
       refine go h ?_ (stepR_cond (he _ hx'))
       cases v
       ·exact A2.cons (.code hm.2) hks
       ·exact A2.cons (.code hm.1.2) hks
      ·simp at h
     | region aos chk=>
      cases c with
      | region id ops draw=>
       simp only [run]at h
       split at h
       ·simp at h
       ·rename_i hro
        split at h
        ·rename_i s1 h1
         have hnr:∀ y ∈ aos,kJ y.op b:=by
          intro y hy
          unfold kJ
          cases ro with
          | none=>
           refine .inl ?_
           have:=hW.ro
           cases hb:b.roundOf with
           | none=>rfl
           | some l=>rw [hb]at this;exact this.elim
          | some r=>
           simp only [Option.isSome_some,Bool.true_and,Bool.not_eq_true',Bool.not_eq_false]at hro
           exact .inr (List.all_eq_true.1 hro y hy)
         obtain⟨X1,a1,g1,g2,g3,g4⟩:=Ti hC YV hm hW.kind hnr (k:=ks) hW.fr h1
         obtain⟨X',a',it,k1,k2,k3,k4,k5⟩:=ih n b cs ro k ks s1 X1 a1 jump s' h (hW.ext g3 g2 hks)
         exact⟨X',a',it,g1.trans k1,k2,g3.trans (k3.mono g3.len),k4.trans g4,k5⟩
        ·simp at h
      | _=>simp [bZ]at hm
     | gB f ps as bd=>
      cases c with
      | rangeFunc f' ps' as' bd'=>
       simp only [bZ,Bool.and_eq_true]at hm
       obtain⟨⟨⟨hm1,hm2⟩,hm3⟩,hm4⟩:=hm
       simp only [run]at h
       split at h
       ·simp at h
       ·rename_i hro
        have hrn:b.roundOf=none:=by
         have:=hW.ro
         cases ro with
         | some r=>simp at hro
         | none=>
          cases hb:b.roundOf with
          | none=>rfl
          | some l=>rw [hb]at this;exact this.elim
        split at h
        ·rename_i g args jH
         split at h
         ·rename_i r2 H2 hcall
          obtain⟨X1,w1,H1,S1,E1,r1,B1⟩:=SR.new hW.fr.sr hW.fr.b (.dfr true) (Adds.alloc X.w (.deferred (some []))) 0 (fun X' hx hw hF hH=>by
           show X'.w.heap[X.w.heap.size]?=_
           rw [hw];exact(Adds.alloc X.w (.deferred (some []))).new)
          have hd1:X1.H[X.H.length]?=some (.dfr true):=by rw [H1];simp
          have aRf:X.H.length<X1.H.length:=by rw [H1];simp
          have hsz1:X1.w.heap.size=X.w.heap.size+1:=by rw [w1];simp
          obtain⟨X2,w2,H2',S2,E2,r2',B2⟩:=SR.new S1 B1 (.lp fn s.regs ps as bd .ready none s.heap.length)
           (Adds.alloc X1.w (.loop { state:=.ready,pending:=none,fn:=b.fn,tmps:=a.tmps,params:=ps',assign:=as',body:=bd',defers:=X.w.heap.size })) 0 (fun X' hx hw hF hH=>by
            obtain⟨blk',hb',hk'⟩:=hx.keep X.H.length aRf _ hd1
            cases blk'<;>simp only at hk'
            refine⟨n,a.tmps,ps',as',bd',none,⟨X.w.heap.size,0⟩,?_,hW.fr.size,RR.ext' σ hx (RR.ext' σ E1 hW.fr.regs),hm2,hm3,hm4,trivial,?_,?_⟩
            ·show X'.w.heap[X1.w.heap.size]?=_
             rw [hw,(Adds.alloc X1.w (.loop { state:=.ready,pending:=none,fn:=b.fn,tmps:=a.tmps,params:=ps',assign:=as',body:=bd',defers:=X.w.heap.size })).new,hW.fn];rfl
            ·rw [←hW.fr.heap];exact hk' _ r1
            ·rw [←hW.fr.heap];exact⟨_,hb'⟩)
          have hx2:Ext X.H.length X X2:=E1.trans (E2.mono E1.len)
          have hH2:X2.H=s.heap++[.dfr true,.lp fn s.regs ps as bd .ready none s.heap.length]:=by rw [H2',H1,←hW.fr.heap];simp
          have hl1:X1.H.length=s.heap.length+1:=by rw [H1,←hW.fr.heap];simp
          have hlp:N8 X2 (s.heap.length+1):=⟨fn,s.regs,ps,as,bd,.ready,none,s.heap.length,by rw [hH2,List.getElem?_append_right (by omega)];simp⟩
          rw [hl1,hsz1]at r2'
          have harg:A2 (VR σ X2) [.c (.yl (s.heap.length+1))] [.func (.yield (X.w.heap.size+1)) #[] #[]]:=A2.cons ⟨⟨X.w.heap.size+1,0⟩,r2',hlp,rfl⟩ A2.nil
          obtain⟨fst,cap,hv1,hv2⟩:=uJ jH (VR.ext' σ hx2 (bV hW.fr.regs hm1)) harg
          rw [←hH2]at hcall
          have hen:=hC.enters _ _ _ _ hcall
          let a1:Act:={ a with defers:={ target:=.collected X.w.heap.size,args:=#[] }::a.defers }
          obtain⟨fr,X3,u,q1,⟨l1,l2,l3,l4,fn',l5,l6⟩,q3,q4,q5,q6,q7⟩:=hC.fn g args _ r2 H2 hcall X2 _ .normal (b.atR a1 (.inRangeFunc (X.w.heap.size+1)::ks)::cs) rfl S2 B2 hv2 (.inl rfl)
          have hst:step Q (lone (b.atR a (.code (.rangeFunc f' ps' as' bd')::ks)) cs X.w)=.next (lone (Frame.enter Q (σ g) (fst.toArray++#[.func (.yield (X.w.heap.size+1)) #[] #[]]++cap.toArray) .normal) (b.atR a1 (.inRangeFunc (X.w.heap.size+1)::ks)::cs) X2.w):=by
           refine stepR_rangeFunc (P:=Q) (b:=b) (a:=a) (k:=ks) (cs:=cs) (l:=X.w.heap.size+1) (mark:=[{ target:=.collected X.w.heap.size,args:=#[] }]) (w₁:=X2.w) (w₁':=X2.w) (d:={ target:=.fn (.func (σ g)) cap.toArray,args:=fst.toArray++#[.func (.yield (X.w.heap.size+1)) #[] #[]] }) ?_ ?_ ?_
           ·rw [hrn,run_enterLoop_outer,w2,w1]
           ·simp only [resolve,hv1,Deferred.ofValue,Sem.run_bind,Sem.run_pure,Result.andThen_ok];simp [Act.eval]
           ·exact iQ hen
          have hx3:Ext X.H.length X X3:=hx2.trans (q6.mono hx2.len)
          have hback:=step_leave_returned (P:=Q) (c:=b.atR a1 (.inRangeFunc (X.w.heap.size+1)::ks)) (cs:=cs) (show fr.leaving Q X3.w (.returned u) from⟨l1,l2,l3,fn',by rw [l4];exact l5,l6⟩)
          rw [finish_atR_inRangeFunc]at hback
          have aQ6:=hlp.ext q6
          have hdf:Dz σ X3 (.coll s.heap.length) { target:=.collected X.w.heap.size,args:=#[] }:=by
           obtain⟨blk',hb',hk'⟩:=(E2.trans (q6.mono E2.len)).keep X.H.length aRf _ hd1
           cases blk'<;>simp only at hk'
           rw [←hW.fr.heap]
           exact⟨⟨X.w.heap.size,0⟩,_,hk' _ r1,hb',rfl⟩
          obtain⟨X',a',it,k1,k2,k3,k4,k5⟩:=ih n b cs ro (.nK (s.heap.length+1)::k) (.endRangeFunc (X.w.heap.size+1)::ks) _ X3 a1 jump s' h
           ⟨⟨q3,q4,q7,RR.ext' σ hx3 hW.fr.regs,A2.cons hdf (hW.fr.defs.ext' hx3),hW.fr.size⟩,A2.cons (.nK (aQ6.2 _ r2') aQ6.1) (hks.weak fun _ _ h=>h.ext hx3),hW.ro.ext hx3,hW.kind,hW.fn⟩
          refine⟨X',a',it,.head hst (Steps.trans ?_ (.head hback k1)),k2,hx3.trans (k3.mono hx3.len),k4,k5⟩
          simpa using q1
         ·simp at h
        ·simp at h
      | _=>simp [bZ]at hm
end Km
end
section
namespace Km
open Go
variable{Q:Program}{σ:Nat→FuncId}{X:Wd}{call:dO}
def ZW(Q:Program)(σ:Nat→FuncId)(prim:Nat→List V→Heap→Option (Option (V × Heap))):Prop:=
 ∀ f args H r H',prim f args H=some (some (r,H')) →
  (∀ as w,(callFunc (σ f) as).run Q w=.ok (.enter (σ f) as) w) ∧
  ∀(X:Wd) us kind cs,X.H=H→SR Q σ X→X.B≤X.w.heap.size→A2 (VR σ X) args us→uo kind cs →
   ∃ fr X' u,Steps Q (lone (Frame.enter Q (σ f) us.toArray kind) cs X.w) (lone fr cs X'.w)∧Leaves Q (σ f) kind fr u X'.w∧Post Q σ X r H' X' u
structure Env(Q:Program)(σ:Nat→FuncId)(tab:Nat→Option AFunc)(prim:Nat→List V→Heap→Option (Option (V × Heap))):Prop where
 mix:Q.follows .mixedOrders=true
 fn:∀ f af,tab f=some af→∃ fn,Q.funcs[σ f]?=some fn∧QJ Q σ fn af=true
 prim:ZW Q σ prim
theorem zU:∀(ps:List P) (args:List V) (t:T) (s:Nat),ps.map P.toNat=List.range' s ps.length→args.length=ps.length→∀ q:P,
  (dK ps args t).get q=if s≤q.toNat then(args[q.toNat-s]?).getD (t.get q)else t.get q
 | [],args,t,s,_,hl,q=>by
  have:args=[]:=List.eq_nil_of_length_eq_zero hl
  subst this
  simp [dK]
 | p::ps,[],t,s,_,hl,q=>by simp at hl
 | p::ps,v::vs,t,s,hp,hl,q=>by
  simp only [List.map_cons,List.length_cons,List.range'_succ,List.cons.injEq]at hp
  have ih:=zU ps vs (t.set p v) (s+1) hp.2 (by simpa using hl) q
  simp only [dK,ih]
  by_cases hq:p=q
  ·subst hq
   rw [if_neg (by omega),T.vT]
   simp [hp.1]
  ·have hne:q.toNat≠s:=fun e=>hq (P.toNat_inj (hp.1.trans e.symm))
   simp only [T.vT,hq,if_false]
   by_cases hs:s≤q.toNat
   ·have h1:s+1≤q.toNat:=by omega
    have h2:q.toNat-s=(q.toNat-(s+1))+1:=by omega
    simp [h1,hs,h2]
   ·have h1:¬ (s+1≤q.toNat):=by omega
    simp [h1,hs]
theorem RR.dK:∀(ps:List P) (ps':List Tmp) (args:List V) (us:List Value) (regs:T) (tmps:Array Value) (n:Nat),n≤tmps.size→RR σ X regs tmps→A2 (VR σ X) args us→args.length=ps.length →
  all2 (fun p (q:P)=>q.toNat == p&&decide (p<n)) ps' ps=true→RR σ X (Km.dK ps args regs) ((ps'.zip us).foldl (fun tmps (t,a)=>tmps.setIfInBounds t a) tmps)
 | [],ps',args,us,regs,tmps,n,hn,hR,hA,hl,h=>by
  have:args=[]:=List.eq_nil_of_length_eq_zero hl
  subst this
  have:us=[]:=List.eq_nil_of_length_eq_zero hA.len.symm
  subst this
  simpa [Km.dK]using hR
 | p::ps,[],args,us,regs,tmps,n,hn,hR,hA,hl,h=>by simp [all2]at h
 | p::ps,p'::ps',[],us,regs,tmps,n,hn,hR,hA,hl,h=>by simp at hl
 | p::ps,p'::ps',v::vs,[],regs,tmps,n,hn,hR,hA,hl,h=>by have:=hA.len;simp at this
 | p::ps,p'::ps',v::vs,u::us,regs,tmps,n,hn,hR,hA,hl,h=>by
  simp only [all2,Bool.and_eq_true,beq_iff_eq,decide_eq_true_eq]at h
  obtain⟨⟨h1,h2⟩,h3⟩:=h
  obtain⟨hvu,hA⟩:=hA.of_cons
  subst h1
  refine RR.dK ps ps' vs us _ _ n (by simpa using hn) (RR.set σ hR (by omega) hvu) hA (by simpa using hl) h3
theorem x9:∀(l:List (Tmp × Value)) (tmps:Array Value),(l.foldl (fun tmps (t,a)=>tmps.setIfInBounds t a) tmps).size=tmps.size
 | [],_=>rfl
 | x::l,tmps=>by rw [List.foldl_cons,x9 l];simp
theorem Xl(fn:Nat):∀ m todo s jump s',run call fn m none todo s=some (jump,s')→jump=none∨jump=some .ret:=by
 intro m
 induction m with
 | zero=>intro todo s jump s' h;simp [run]at h
 | succ m ih=>
  intro todo s jump s' h
  unfold run at h
  split at h
  all_goals first
   | exact ih _ _ _ _ h
   | (simp at h;done)
   | skip
  ·simp only [Option.some.injEq,Prod.mk.injEq]at h;exact .inl h.1.symm
  ·split at h
   ·split at h
    ·simp at h
    ·split at h
     ·exact ih _ _ _ _ h
     ·exact ih _ _ _ _ h
     ·exact ih _ _ _ _ h
     ·simp at h
   ·simp at h
  ·split at h
   ·exact ih _ _ _ _ h
   ·simp at h
  ·simp only [Option.some.injEq,Prod.mk.injEq]at h;exact .inr h.1.symm
  ·split at h
   ·exact ih _ _ _ _ h
   ·simp at h
  ·split at h
   ·exact ih _ _ _ _ h
   ·simp at h
  ·split at h
   ·simp at h
   ·split at h
    ·exact ih _ _ _ _ h
    ·simp at h
  ·split at h
   ·simp at h
   ·simp only at h
    split at h
    ·split at h
     ·exact ih _ _ _ _ h
     ·simp at h
    ·simp at h
theorem yu{fn:Func}{af:AFunc}(h:QJ Q σ fn af=true):∃ c,fn.name≠ "runtime.NumGoroutine"∧fn.body=some c∧bZ Q σ fn.ntmps c af.body=true ∧
  all2 (GV Q fn.ntmps) fn.results.toList af.results=true∧af.ps.map P.toNat=List.range af.ps.length:=by
 simp only [QJ,Bool.and_eq_true,bne_iff_ne,ne_eq,decide_eq_true_eq]at h
 obtain⟨⟨⟨h1,h2⟩,h3⟩,h4⟩:=h
 cases hb:fn.body with
 | none=>rw [hb]at h2;simp at h2
 | some c=>rw [hb]at h2;exact⟨c,h1,rfl,h2,h3,h4⟩
theorem Gn{f:FuncId}{fn:Func}{c:Code}(hf:Q.funcs[f]?=some fn)(hn:fn.name≠ "runtime.NumGoroutine")(hb:fn.body=some c)(as:Array Value)(w:World):(callFunc f as).run Q w=.ok (.enter f as) w:=by
 simp [callFunc,hf,hn,hb]
def Returning(g:FuncId)(kind:CallKind)(tmps:Array Value)(ds:List Deferred)(fr:Frame):Prop:=
 fr.mode=.returning∧fr.defers=ds∧fr.kind=kind∧fr.fn=g∧fr.tmps=tmps
theorem step_collected{fr:Frame}{cs:List Frame}{w w':World}{b:Nat}{as:Array Value}{ds:List Deferred}(hm:fr.mode=.returning)(hd:fr.defers = { target:=.collected b,args:=as }::ds)
  (hr:(Instr.takeDeferred b).run Q w=.ok [] w'):step Q (lone fr cs w)=.next (lone { fr with defers:=ds } cs w'):=
 step_lone_go (by simp [stepG,unwind,hm,hd,Sem.runT_eq,hr])
theorem DK{fr:Frame}{cs:List Frame}{w:World}{f:FuncId}{cap as as':Array Value}{ds:List Deferred}(hm:fr.mode=.returning)(hd:fr.defers = { target:=.fn (.func f) cap,args:=as }::ds)
  (hr:(invoke (.fn (.func f) cap) as).run Q w=.ok (.enter f as') w):step Q (lone fr cs w)=.next (lone (Frame.enter Q f as' .deferred) ({ fr with defers:=ds }::cs) w):=
 step_lone_go (by simp [stepG,unwind,hm,hd,callDeferred,Sem.runT_eq,hr])
theorem sN{fr c:Frame}{cs:List Frame}{w:World}{v:Value}{f:FuncId}(h:Leaves Q f .deferred fr v w)(hc:c.mode=.returning) :
  step Q (lone fr (c::cs) w)=.next (lone c cs w):=by
 obtain⟨hm,hd,hk,hf,fn,h1,h2⟩:=h
 rw [←hf]at h1
 exact step_lone_go (by simp [stepG,unwind,doReturn,hm,hd,hk,h1,Sem.runT_eq,h2,hc])
theorem Returning.pop{g:FuncId}{kind:CallKind}{tmps:Array Value}{d:Deferred}{ds:List Deferred}{fr:Frame}(h:Returning g kind tmps (d::ds) fr):Returning g kind tmps ds { fr with defers:=ds }:=
 ⟨h.1,rfl,h.2.2.1,h.2.2.2.1,h.2.2.2.2⟩
theorem Hz(hC:ji Q σ call){g:FuncId}{kind:CallKind}{tmps:Array Value}{cs:List Frame}:∀(ds:List fV) (X:Wd) (ms:List Deferred) (fr:Frame) (H':Heap),
  gJ call ds X.H=some H'→SR Q σ X→X.B≤X.w.heap.size→jK σ X ds ms→Returning g kind tmps ms fr →
  ∃ fr' X',Steps Q (lone fr cs X.w) (lone fr' cs X'.w)∧Returning g kind tmps [] fr'∧X'.H=H'∧SR Q σ X'∧X'.B≤X'.w.heap.size∧Ext X.H.length X X'
 | [],X,ms,fr,H',h,hS,hB,hD,hR=>by
  have:ms=[]:=List.eq_nil_of_length_eq_zero hD.len.symm
  subst this
  simp only [gJ,Option.some.injEq]at h
  exact⟨fr,X,Steps.refl _ _,hR,h,hS,hB,Ext.refl _ _⟩
 | d::ds,X,[],fr,H',h,hS,hB,hD,hR=>by have:=hD.len;simp at this
 | .coll b::ds,X,m::ms,fr,H',h,hS,hB,hD,hR=>by
  obtain⟨⟨L,o,h1,h2,rfl⟩,hD'⟩:=A2.of_cons hD
  simp only [gJ]at h
  split at h
  ·rename_i hb
   obtain⟨_,_,blk,hb',hbr⟩:=hS.br b L h1
   rw [hb]at hb';cases hb'
   have qH:X.w.heap[L.c]?=some (.deferred (some [])):=hbr
   obtain⟨g1,g2⟩:=SR.uQ (o':=.deferred none) (blk':=.dfr false) hS hb h1 qH (by simp) (by simp)
    (fun blk hblk=>⟨.dfr false,by simp [(List.getElem?_eq_some_iff.1 hb).1],by rw [hb]at hblk;cases hblk;exact fun L h=>h⟩)
    (fun X' hx' hw1 _ qj hH=>hw1)
   obtain⟨fr',X',k1,k2,k3,k4,k5,k6⟩:=Hz hC ds _ ms { fr with defers:=ms } H' h g1 (by simpa using hB) (jK.ext' g2 hD') hR.pop
   exact⟨fr',X',.head (step_collected hR.1 hR.2.1 (run_takeDeferred qH)) k1,k2,k3,k4,k5,g2.trans (k6.mono g2.len)⟩
  ·simp at h
 | .fn f args::ds,X,m::ms,fr,H',h,hS,hB,hD,hR=>by
  obtain⟨⟨us,cap,rfl,hA⟩,hD'⟩:=A2.of_cons hD
  simp only [gJ]at h
  split at h
  ·rename_i r H1 hcall
   have hen:=hC.enters f args _ _ hcall
   obtain⟨fr1,X1,u,q1,q2,q3,q4,q5,q6,q7⟩:=hC.fn f args _ r H1 hcall X _ .deferred ({ fr with defers:=ms }::cs) rfl hS hB hA (.inr ⟨rfl,_,_,rfl,hR.1⟩)
   rw [←q3]at h
   obtain⟨fr',X',k1,k2,k3,k4,k5,k6⟩:=Hz hC ds X1 ms { fr with defers:=ms } H' h q4 q7 (jK.ext' q6 hD') hR.pop
   refine⟨fr',X',.head (DK (as':=us++cap) hR.1 hR.2.1 (iQ hen)) (Steps.trans ?_ (.head (sN (c:={ fr with defers:=ms }) q2 hR.1) k1)),k2,k3,k4,k5,q6.trans (k6.mono q6.len)⟩
   have e:(us.toList++cap.toList).toArray=us++cap:=by apply Array.ext';simp
   rw [e]at q1
   exact q1
  ·simp at h
theorem aG7(hS:SR Q σ X){n:Nat}{regs:T}{tmps:Array Value}(hR:RR σ X regs tmps){r:ResultVar}{a:mW}(hm:GV Q n r a=true){v:V}
  (h:fH regs X.H a=some v):∃ u,(match r with | .tmp t=>pure (tmps.getD t undef) | .cell a t=>do loadVar t (←asAddr (tmps.getD a undef)):Sem Value).run Q X.w=.ok u X.w∧VR1 σ X v u:=by
 cases r with
 | tmp t=>
  cases a with
  | tmp p=>
   simp only [GV,Bool.and_eq_true,beq_iff_eq,decide_eq_true_eq]at hm
   have hv:=hR p
   rw [hm.1]at hv
   simp only [fH]at h
   refine⟨_,rfl,?_⟩
   split at h
   ·simp at h
   ·rename_i hne
    simp only [Option.some.injEq]at h
    rw [h]at hv
    cases v with
    | t vs=>exact absurd h (hne vs)
    | top=>trivial
    | c x=>exact hv
    | a xs=>exact hv
  | cell p k=>simp [GV]at hm
 | cell t ty=>
  cases a with
  | tmp p=>simp [GV]at hm
  | cell p k=>
   simp only [GV,Bool.and_eq_true,beq_iff_eq,decide_eq_true_eq]at hm
   have hv:=hR p
   rw [hm.1.1]at hv
   simp only [fH]at h
   cases hx:regs.get p with
   | c x=>
    rw [hx]at h hv
    simp only [ldV,Option.bind_eq_some_iff]at h
    obtain⟨cs,h1,h2⟩:=h
    obtain⟨c,o,us,he,h3,h4⟩:=CX hS hv h1
    obtain⟨u,h5,h6⟩:=IE hm.2 h3 h4 h2
    refine⟨u,by simp [he,asAddr,h5],?_⟩
    cases k with
    | none=>cases cs with
     | nil=>simp [iK]at h2
     | cons y ys=>simp only [iK,Option.some.injEq]at h2;subst h2;exact h6
    | some k=>
     simp only [iK]at h2
     split at h2
     ·simp only [Option.some.injEq]at h2;subst h2;exact h6
     ·simp at h2
   | _=>rw [hx]at h;simp [ldV]at h
theorem MO(hS:SR Q σ X){fn:Func}{rs:List mW}(hm:all2 (GV Q fn.ntmps) fn.results.toList rs=true){regs:T}{tmps:Array Value}(hR:RR σ X regs tmps){v:V}
  (h:Km.results regs X.H rs=some v):∃ u,(Go.results fn tmps).run Q X.w=.ok u X.w∧VR σ X v u:=by
 have key:∀(rs:List mW) (qs:List ResultVar) (vs:List V),all2 (GV Q fn.ntmps) qs rs=true→bD (fH regs X.H) rs=some vs →
   ∃ us:List Value,(qs.mapM (fun r=>match r with | .tmp t=>pure (tmps.getD t undef) | .cell a t=>do loadVar t (←asAddr (tmps.getD a undef)):ResultVar→Sem Value)).run Q X.w=.ok us X.w∧A2 (VR1 σ X) vs us:=by
  intro rs
  induction rs with
  | nil=>
   intro qs vs h1 h2
   cases qs with
   | nil=>simp only [bD,Option.some.injEq]at h2;subst h2;exact⟨[],rfl,A2.nil⟩
   | cons q qs=>simp [all2]at h1
  | cons a rs ih=>
   intro qs vs h1 h2
   cases qs with
   | nil=>simp [all2]at h1
   | cons q qs=>
    simp only [all2,Bool.and_eq_true]at h1
    simp only [bD]at h2
    split at h2
    ·simp at h2
    ·rename_i v1 e1
     split at h2
     ·simp at h2
     ·rename_i vs1 e2
      simp only [Option.some.injEq]at h2;subst h2
      obtain⟨u,g1,g2⟩:=aG7 hS hR h1.1 e1
      obtain⟨us,g3,g4⟩:=ih qs vs1 h1.2 e2
      refine⟨u::us,?_,A2.cons g2 g4⟩
      rw [List.mapM_cons,Sem.run_bind,g1]
      simp only [Result.andThen_ok,Sem.run_bind,g3,Sem.run_pure]
 unfold Km.results at h
 have fin:∀ vs,bD (fH regs X.H) rs=some vs→∃ us:List Value,(Go.results fn tmps).run Q X.w=.ok (if h:us.toArray.size=1 then us.toArray[0]else .tuple us.toArray) X.w∧A2 (VR1 σ X) vs us:=by
  intro vs hvs
  obtain⟨us,g1,g2⟩:=key rs fn.results.toList vs hm hvs
  refine⟨us,?_,g2⟩
  unfold Go.results
  rw [Array.mapM_eq_mapM_toList,Sem.run_bind,Sem.run_map]
  exact(congrArg (fun r:Result (List Value)=>(r.andThen fun a w'=>Result.ok a.toArray w').andThen fun a w'=>Sem.run Q (pure (if h:a.size=1 then a[0]else Value.tuple a)) w') g1).trans rfl
 split at h
 ·rename_i v1 hvs
  simp only [Option.some.injEq]at h;subst h
  obtain⟨us,g1,g2⟩:=fin _ hvs
  match us,g2 with
  | [u],g2=>exact⟨u,g1,VR.of1 σ g2.of_cons.1⟩
  | [],g2=>have:=g2.len;simp at this
  | _::_::_,g2=>have:=g2.len;simp at this
 ·rename_i vs hne hvs
  simp only [Option.some.injEq]at h;subst h
  obtain⟨us,g1,g2⟩:=fin _ hvs
  refine⟨.tuple us.toArray,?_,us,rfl,g2⟩
  rw [g1,dif_neg]
  intro hsz
  match us,hsz with
  | [u],_=>
   match vs,g2 with
   | [v1],_=>exact hne v1 rfl
   | [],g2=>have:=g2.len;simp at this
   | _::_::_,g2=>have:=g2.len;simp at this
  | [],hsz=>simp at hsz
  | _::_::_,hsz=>simp at hsz
 ·simp at h
end Km
end
section
namespace Km
open Go
variable{Q:Program}{σ:Nat→FuncId}{tab:Nat→Option AFunc}{prim:Nat→List V→Heap→Option (Option (V × Heap))}
theorem aRs(hE:Env Q σ tab prim){m:Nat}{call:dO}(hC:ji Q σ call){f:Nat}{af:AFunc}(htab:tab f=some af){args:List V}(hlen:args.length=af.ps.length){jump:Option ah}{s':St}{X:Wd}
  (hrun:run call f m none [.code af.body] ⟨dK af.ps args .e,[],X.H⟩=some (jump,s')) {H':Heap} (vO:gJ call s'.defs s'.heap=some H') {r:V} (hres:Km.results s'.regs H' af.results=some r)
  {us:List Value} {kind:CallKind} {cs:List Frame} (hS:SR Q σ X) (hB:X.B≤X.w.heap.size) (hA:A2 (VR σ X) args us) (hk:uo kind cs) :
  ∃ fr X' u,Steps Q (lone (Frame.enter Q (σ f) us.toArray kind) cs X.w) (lone fr cs X'.w)∧Leaves Q (σ f) kind fr u X'.w∧Post Q σ X r H' X' u:=by
 obtain⟨fn,hf,hm⟩:=hE.fn f af htab
 obtain⟨c,hname,hbody,hcode,hrs,hps⟩:=yu hm
 let b:Frame:=Frame.enter Q (σ f) us.toArray kind
 let a0:Act:={ tmps:=us.toArray++Array.replicate (fn.ntmps-us.toArray.size) undef,defers:=[] }
 have hb:b=b.atR a0 [.code c]:=by
  simp [b,a0,Frame.enter,Frame.atR,hf,hbody]
 have hsz:fn.ntmps≤a0.tmps.size:=by simp [a0];omega
 have hRR:RR σ X (dK af.ps args .e) a0.tmps:=by
  intro p
  rw [zU af.ps args .e 0 (by rw [hps,List.range_eq_range']) hlen p]
  simp only [Nat.zero_le,if_true,Nat.sub_zero]
  by_cases hp:p.toNat<args.length
  ·have hx:=List.getElem?_eq_getElem hp
   have hp':p.toNat<us.length:=hA.len▸hp
   have hy:=List.getElem?_eq_getElem hp'
   have hv:=hA.2 _ _ _ hx hy
   rw [hx]
   have:a0.tmps.getD p.toNat undef=us[p.toNat]:=by
    simp [a0,Array.getD_eq_getD_getElem?,Array.getElem?_append,hp']
   rw [this];exact hv
  ·rw [List.getElem?_eq_none (by omega)]
   cases p<;>trivial
 have hF:Fr Q σ fn.ntmps X ⟨dK af.ps args .e,[],X.H⟩ a0:=⟨rfl,hS,hB,hRR,A2.nil,hsz⟩
 have hW:Way Q σ f fn.ntmps b cs none [.code af.body] [.code c] ⟨dK af.ps args .e,[],X.H⟩ X a0:=⟨hF,A2.cons (.code hcode) A2.nil,trivial,hk,rfl⟩
 obtain⟨X1,a1,items',s1,F1,E1,_,J1⟩:=Xk hC hE.mix f m fn.ntmps b cs none _ _ _ X a0 jump s' hrun hW
 have hret:∃ fr1,Steps Q (lone (b.atR a1 items') cs X1.w) (lone fr1 cs X1.w)∧Returning (σ f) kind a1.tmps a1.defers fr1:=by
  rcases Xl f m _ _ _ _ hrun with rfl | rfl
  ·have:items'=[]:=J1
   subst this
   exact⟨_,.one (stepR_end rfl),rfl,rfl,rfl,rfl,rfl⟩
  ·obtain⟨k,rfl⟩:=J1
   exact⟨_,.one (stepR_ret rfl),rfl,rfl,rfl,rfl,rfl⟩
 obtain⟨fr1,s2,R1⟩:=hret
 rw [←F1.heap]at vO
 obtain⟨fr2,X2,s3,R2,h1,h2,h3,h4⟩:=Hz hC (cs:=cs) s'.defs X1 a1.defers fr1 H' vO F1.sr F1.b F1.defs R1
 rw [←h1]at hres
 obtain⟨u,g1,g2⟩:=MO h2 hrs (RR.ext' σ h4 F1.regs) hres
 refine⟨fr2,X2,u,?_,⟨R2.1,R2.2.1,R2.2.2.1,R2.2.2.2.1,fn,hf,by rw [R2.2.2.2.2];exact g1⟩,h1,h2,g2,E1.trans (h4.mono E1.len),h3⟩
 show Steps Q (lone b cs X.w) _
 rw [hb]
 exact s1.trans (s2.trans s3)
theorem WE(hE:Env Q σ tab prim){m:Nat}{call:dO}(hC:ji Q σ call){b:Nat}{f:Nat}{tmps:T}{ps:List P}{as bd:ah}{q:iU}{pd:Option ah}{d:Nat}{X:Wd}(hlp:X.H[b]?=some (.lp f tmps ps as bd q pd d))
  {args:List V} (hlen:args.length=ps.length) {jump:Option ah} {s':St} (hrun:run call f m (some b) [.code as,.rO,.code bd] ⟨dK ps args tmps,[],X.H⟩=some (jump,s')) (vO:s'.defs.isEmpty=true)
  {f':Nat} {sW:T} {ps':List P} {as' bd':ah} {q':iU} {pd':Option ah} {d':Nat} (YX:s'.heap[b]?=some (.lp f' sW ps' as' bd' q' pd' d'))
  {us:List Value} {c:Frame} {cs:List Frame} {L:Loc} (hS:SR Q σ X) (hB:X.B≤X.w.heap.size) (hA:A2 (VR σ X) args us) (hL:X.rho b=some L) :
  ∃ f tmps as bd X' u,(Instr.yield L.c us.toArray).run Q X.w=.ok (.round L.c f tmps as bd) X.w ∧
   Steps Q (lone (Frame.round L.c f tmps as bd .normal) (c::cs) X.w) (lone (c.finish u) cs X'.w)∧Post Q σ X (.bool jump.isNone) (s'.heap.set b (.lp f' sW ps' as' bd' (if jump.isNone then .ready else .done) jump d')) X' u:=by
 obtain⟨n,ts,qs,as0,bd0,aZl,Ld,qH,h2,h3,h4,h5,h6,h7,h8,h9⟩:=vI hS hL hlp
 have hq:=(iY h4).len
 have hsz:us.toArray.size=qs.size:=by
  have:=hA.len
  simp only [Array.length_toList]at hq
  simp;omega
 have hy:=run_yield (P:=Q) (args:=us.toArray) qH hsz
 let T0:Array Value:=(qs.zip us.toArray).foldl (fun tmps (t,a)=>tmps.setIfInBounds t a) ts
 have hT0:T0=(qs.toList.zip us).foldl (fun tmps (t,a)=>tmps.setIfInBounds t a) ts:=by
  simp only [T0]
  rw [←Array.foldl_toList]
  simp
 let a0:Act:={ tmps:=T0,defers:=[] }
 let B:Frame:=Frame.round L.c (σ f) T0 as0 bd0 .normal
 have hB0:B=B.atR a0 [.code as0,.beginRound,.code bd0]:=by simp [B,a0,Frame.round,Frame.atR]
 have hRR:RR σ X (dK ps args tmps) T0:=by
  rw [hT0];exact RR.dK ps qs.toList args us tmps ts n h2 h3 hA hlen h4
 have hn:n≤T0.size:=by rw [hT0,x9];exact h2
 have hF:Fr Q σ n X ⟨dK ps args tmps,[],X.H⟩ a0:=⟨rfl,hS,hB,hRR,A2.nil,hn⟩
 have aRb:N8 X b:=⟨_,_,_,_,_,_,_,_,hlp⟩
 have hW:Way Q σ f n B (c::cs) (some b) [.code as,.rO,.code bd] [.code as0,.beginRound,.code bd0] ⟨dK ps args tmps,[],X.H⟩ X a0:=
  ⟨hF,A2.cons (.code h5) (A2.cons .rO (A2.cons (.code h6) A2.nil)),⟨L,hL,rfl,aRb⟩,.inl rfl,rfl⟩
 obtain⟨X1,a1,items',s1,F1,E1,_,J1⟩:=Xk hC hE.mix f m n B (c::cs) (some b) _ _ _ X a0 jump s' hrun hW
 have hL1:=(aRb.ext E1).2 _ hL
 rw [←F1.heap]at YX
 obtain⟨n1,ts1,qs1,as1,bd1,A8,Ld1,YU,k2,k3,k4,k5,k6,k7,k8,k9⟩:=vI F1.sr hL1 YX
 have fin:∀(vJ:Option Code),EX Q σ n1 jump vJ→vJ.isNone=jump.isNone→step Q (lone (B.atR a1 items') (c::cs) X1.w)=.next (lone (c.finish (.bool vJ.isNone)) cs (X1.w.putObj L.c (.loop { state:=if vJ.isNone then .ready else .done,pending:=vJ,fn:=σ f',tmps:=ts1,params:=qs1,assign:=as1,body:=bd1,defers:=Ld1.c }))) →
   ∃ f tmps as bd X' u,(Instr.yield L.c us.toArray).run Q X.w=.ok (.round L.c f tmps as bd) X.w ∧
   Steps Q (lone (Frame.round L.c f tmps as bd .normal) (c::cs) X.w) (lone (c.finish u) cs X'.w)∧Post Q σ X (.bool jump.isNone) (s'.heap.set b (.lp f' sW ps' as' bd' (if jump.isNone then .ready else .done) jump d')) X' u:=by
  intro vJ hj hn hst
  obtain⟨g1,g2⟩:=F5 F1.sr hL1 YX (q':=if jump.isNone then .ready else .done) (A8:=jump) (jW:=vJ) k2 k3 k4 k5 k6 hj k8 k9
  have hq:(if jump.isNone then iU.ready else iU.done).of=(if vJ.isNone then LoopState.ready else LoopState.done):=by
   rw [hn];cases jump<;>rfl
  rw [hq]at g1 g2
  refine⟨σ f,T0,as0,bd0,_,.bool vJ.isNone,hy,?_,?_,g1,?_,E1.trans (g2.mono E1.len),?_⟩
  ·show Steps Q (lone B (c::cs) X.w) _
   rw [hB0]
   exact s1.trans (.one hst)
  ·rw [←F1.heap]
  ·rw [hn];exact VR.BH _
  ·have:=F1.b
   simpa [World.putObj]using this
 cases jump with
 | none=>
  have:items'=[]:=J1
  subst this
  exact fin none trivial rfl (stepR_round_end rfl rfl (run_endRound (P:=Q) none YU))
 | some j=>
  cases j with
  | ret=>
   obtain⟨k,rfl⟩:=J1
   exact fin (some .ret) (by simp [EX,bZ]) rfl (stepR_round_ret rfl rfl (run_endRound (P:=Q) (some .ret) YU))
  | exit id=>
   obtain⟨k,rfl,hx⟩:=J1
   exact fin (some (.exit id)) (by simp [EX,bZ]) rfl (stepR_round_exit rfl rfl hx (run_endRound (P:=Q) (some (.exit id)) YU))
  | _=>exact J1.elim
theorem Zx(hE:Env Q σ tab prim)(m:Nat):∀ d,ji Q σ (iE tab prim m d):=by
 intro d
 induction d with
 | zero=>exact⟨fun f args H r h=>by simp [iE]at h,fun f args H r H' h=>by simp [iE]at h,fun b args H r H' h=>by simp [iE]at h⟩
 | succ d hC=>
  refine⟨fun f args H r h=>?_,fun f args H r H' h X us kind cs hX hS hB hA hk=>?_,fun b args H r H' h X us c cs L hX hS hB hA hL=>?_⟩
  ·simp only [iE]at h
   split at h
   ·rename_i r' hp
    obtain⟨r0,H0⟩:=r
    exact(hE.prim f args H r0 H0 (by rw [hp,h])).1
   ·split at h
    ·simp at h
    ·rename_i af htab
     obtain⟨fn,hf,hm⟩:=hE.fn f af htab
     obtain⟨c,hname,hbody,_⟩:=yu hm
     exact Gn hf hname hbody
  ·simp only [iE]at h
   split at h
   ·rename_i r' hp
    exact(hE.prim f args H r H' (by rw [hp,h])).2 X us kind cs hX hS hB hA hk
   ·split at h
    ·simp at h
    ·rename_i af htab
     split at h
     ·rename_i hlen
      split at h
      ·rename_i jump s' hrun
       split at h
       ·rename_i H1 vO
        simp only [Option.map_eq_some_iff,Prod.mk.injEq]at h
        obtain⟨r1,hres,rfl,rfl⟩:=h
        subst hX
        exact aRs hE hC htab hlen hrun vO hres hS hB hA hk
       ·simp at h
      ·simp at h
     ·simp at h
  ·simp only [iE]at h
   split at h
   ·rename_i f tmps ps as bd q pd d' hlp
    split at h
    ·rename_i hlen
     split at h
     ·rename_i jump s' hrun
      split at h
      ·rename_i hd
       split at h
       ·rename_i f' sW ps' as' bd' q' pd' d'' YX
        simp only [Option.some.injEq,Prod.mk.injEq]at h
        obtain⟨rfl,rfl⟩:=h
        subst hX
        exact WE hE hC hlp hlen hrun hd YX hS hB hA hL
       ·simp at h
      ·simp at h
     ·simp at h
    ·simp at h
   ·simp at h
end Km
end
section
namespace Km
open Go
inductive Eff where
 | no
 | set (b:Nat) (x:Blk)
 | push (x:Blk)
def Eff.app(H:Heap):Eff→Heap
 | .no=>H
 | .set b x=>H.set b x
 | .push x=>H++[x]
def CY(g:Nat→Option Blk):C→Option (List C)
 | .ptr b off ep=>match g b with
  | some (.box cs _)=>some (cs.drop off)
  | some (.opn _ cs _ e .loc)=>if ep=e then some (cs.drop off)else none
  | _=>none
 | .f (.fp cs off)=>some ((cs.drop off).map .f)
 | _=>none
def aKr(g:Nat→Option Blk)(n:Option Nat):V→Option V
 | .c x=>(CY g x).bind (iK n)
 | _=>none
def wQ(g:Nat→Option Blk):C→Option Nat
 | .sl b _ l _ ep sz=>match g b with
  | some (.box _ _)=>some l
  | some (.opn s _ _ e _)=>if ep=e∧sz=s then some l else none
  | _=>none
 | .f .ay=>some 0
 | .f .es=>some 0
 | .f (.fs _ l)=>some l
 | _=>none
def uT(g:Nat→Option Blk)(sz:Nat):C→Option (List C)
 | .sl b o l _ ep s=>match g b with
  | some (.box cs _)=>if o+l*sz≤cs.length then some ((cs.drop o).take (l*sz))else none
  | some (.opn s' cs _ e _)=>if ep=e∧s=s'∧o+l*sz≤cs.length then some ((cs.drop o).take (l*sz))else none
  | _=>none
 | .f .ay=>some []
 | .f .es=>some []
 | .f (.fs cs l)=>if cs.length=l*sz then some (cs.map .f)else none
 | _=>none
def wZ(g:Nat→Option Blk):EqK→C→Option Bool
 | .ptr,.f .uz=>some true
 | .ptr,.f (.fp _ _)=>some false
 | .ptr,.ptr _ _ _=>some false
 | .sl,.f .ay=>some true
 | .sl,.f .es=>some false
 | .sl,.f (.fs _ _)=>some false
 | .sl,.sl b _ _ _ ep sz=>match g b with
  | some (.box _ _)=>some false
  | some (.opn s _ _ e st)=>if ep=e∧sz=s then some (st == .nil)else none
  | _=>none
 | .fn,.f .jS=>some true
 | .fn,.f (.fn _ _)=>some false
 | .fn,.cl _ _=>some false
 | .fn,.bm _ _=>some false
 | .ifc,.f .qU=>some true
 | _,_=>none
def aK5(g:Nat→Option Blk):EqK→V→V→Option Bool
 | .bool,.c x,.c y=>eqP .bool x y
 | .st ks,.a xs,.a ys=>eqL ks xs ys
 | .ptr,.c x,.c (.f .uz)=>wZ g .ptr x
 | .sl,.c x,.c (.f .ay)=>wZ g .sl x
 | .fn,.c x,.c (.f .jS)=>wZ g .fn x
 | .ifc,.c x,.c (.f .qU)=>wZ g .ifc x
 | _,_,_=>none
def Gl(g:Nat→Option Blk)(sz:Nat)(x:V)(lo hi mx:Option V):Option V:=
 match x with
 | .c (.f .ay)=>match cZ 0 0 lo hi mx with
  | some _=>some (.c (.f .ay))
  | none=>none
 | .c (.f .es)=>match cZ 0 0 lo hi mx with
  | some _=>some (.c (.f .es))
  | none=>none
 | .c (.f (.fs cs n))=>match cZ n n lo hi mx with
  | some (l,h,m)=>
   if mx.isSome∧m=l then some (.c (.f .es))else
   some (.c (.f (.fs ((cs.drop (l*sz)).take ((h-l)*sz)) (h-l))))
  | none=>none
 | .c (.sl b o n cap ep s)=>match g b with
  | some (.box _ _)=>match cZ n cap lo hi mx with
   | some (l,h,m)=>if m=l then some (.c (.f .es))else some (.c (.sl b (o+l*sz) (h-l) (m-l) ep s))
   | none=>none
  | some (.opn s' _ _ e st)=>
   if ep=e∧s=sz∧s'=sz then
    match st with
    | .loc=>match cZ n n lo hi mx with
     | some (l,h,m)=>
      if mx.isSome∧m=l then some (.c (.f .es))
      else if l=h∧0<l then some (.c (.f (.fs [] 0)))
      else if mx.isSome then none
      else some (.c (.sl b (o+l*sz) (h-l) 0 ep s))
     | none=>none
    | .nil=>match cZ 0 0 lo hi mx with
     | some _=>some (.c (.f .ay))
     | none=>none
    | .es=>match cZ 0 0 lo hi mx with
     | some _=>some (.c (.f .es))
     | none=>none
   else none
  | _=>none
 | _=>none
def Gm(g:Nat→Option Blk)(n sz:Nat)(x:V)(lo hi mx:Option V):Option V:=
 match x with
 | .c (.ptr b off _)=>match g b with
  | some (.box cs _)=>match cZ n n lo hi mx with
   | some (l,h,m)=>if off+n*sz≤cs.length then(if m=l then some (.c (.f .es))else some (.c (.sl b (off+l*sz) (h-l) (m-l) 0 sz)))else none
   | none=>none
  | _=>none
 | .c (.f (.fp cs off))=>match cZ n n lo hi mx with
   | some (l,h,m)=>if off+n*sz≤cs.length then(if m=l then some (.c (.f .es))else some (.c (.f (.fs ((cs.drop (off+l*sz)).take ((h-l)*sz)) (h-l)))))else none
   | none=>none
 | _=>none
def BU(g:Nat→Option Blk)(sz:Nat)(arr:Option Nat)(x i:V):Option V:=
 match jG i with
 | none=>none
 | some i=>
  if 0≤i then
   match arr,x with
   | none,.c (.sl b o l _ ep s)=>if i<l then
     (match g b with
      | some (.box _ _)=>some (.c (.ptr b (o+i.toNat*sz) ep))
      | some (.opn s' _ _ e .loc)=>if ep=e∧s=s' then some (.c (.ptr b (o+i.toNat*sz) ep))else none
      | _=>none)else none
   | none,.c (.f (.fs cs l))=>if i<l then some (.c (.f (.fp cs (i.toNat*sz))))else none
   | some n,.c (.ptr b o ep)=>if i<n then some (.c (.ptr b (o+i.toNat*sz) ep))else none
   | some n,.c (.f (.fp cs o))=>if i<n then some (.c (.f (.fp cs (o+i.toNat*sz))))else none
   | _,_=>none
  else none
def BN(g:Nat→Option Blk)(ck:CK)(z:FC):V→V→Option V
 | .c (.f .vC),.c (.f k)=>if isKey ck k then some (lkR z none)else none
 | .c (.mp b),.c (.f k)=>match g b with
  | some (.map es)=>if isKey ck k then(wW ck k es).map (lkR z)else none
  | _=>none
 | _,_=>none
def OA(g:Nat→Option Blk):V→Option V
 | .c x=>match wQ g x with
  | some _=>match uT g 1 x with
   | some cs=>(bD (fun c=>match c with | C.f (.int .u8 n)=>some (UInt8.ofNat n.toNat) | _=>none) cs).map fun l=>.c (.f (.str ⟨l.toArray⟩))
   | none=>none
  | none=>none
 | _=>none
def wC(g:Nat→Option Blk)(sz:Nat):V→Option (Nat × List C)
 | .c (.f (.str s))=>if sz=1 then some (s.size,s.toList.map fun b=>.f (.int .u8 b.toNat))else none
 | .c x=>match wQ g x,uT g sz x with
  | some l,some cs=>some (l,cs)
  | _,_=>none
 | _=>none
def MC(g:Nat→Option Blk):C→Option Nat
 | .sl b _ _ c ep sz=>match g b with
  | some (.box _ _)=>some c
  | some (.opn s _ _ e .nil)=>if ep=e∧sz=s then some 0 else none
  | some (.opn s _ _ e .es)=>if ep=e∧sz=s then some 0 else none
  | _=>none
 | .f .ay=>some 0
 | .f .es=>some 0
 | _=>none
def Hy(g:Nat→Option Blk):V→Option V
 | .c (.mi b)=>match g b with
  | some (.mit m _ true)=>match g m with
   | some (.map [e])=>some (.t [.c (.f e.1),mV e.2])
   | _=>none
  | _=>none
 | _=>none
def Xd(g:Nat→Option Blk)(x:C)(xs:List C):Option Eff:=
 match x with
 | .ptr b off ep=>match g b with
  | some (.box cs fl)=>if fl≤off∧off+xs.length≤cs.length then some (.set b (.box (over cs off xs) fl))else none
  | some (.opn sz cs fl e .loc)=>if ep=e∧fl≤off∧off+xs.length≤cs.length then some (.set b (.opn sz (over cs off xs) fl e .loc))else none
  | _=>none
 | _=>none
def NH(g:Nat→Option Blk):V→Option (V × Eff)
 | .c (.it b)=>match g b with
  | some (.it s pos)=>
   if pos<s.size then
    let r:=Utf8.decode s pos
    some (.t [.bool true,.int .i64 pos,.int .i32 r.1],.set b (.it s (pos+r.2)))
   else some (.t [.bool false],.no)
  | _=>none
 | _=>none
def Dc(g:Nat→Option Blk)(n0:Nat)(sz bytes:Nat)(x y:V):Option (V × Eff):=
 match wC g sz y with
 | none=>none
 | some (m,ys)=>
  if sz=0 then none else
  match x with
  | .c (.f .ay)=>if m=0 then some (.c (.f .ay),.no)else
    if bP m bytes then some (.c (.sl n0 0 m 0 0 sz),.push (.opn sz ys 0 0 .loc))else none
  | .c (.f .es)=>if m=0 then some (.c (.f .es),.no)else
    if bP m bytes then some (.c (.sl n0 0 m 0 0 sz),.push (.opn sz ys 0 0 .loc))else none
  | .c (.sl b o l cap ep s)=>match g b with
   | some (.box cs fl)=>
    if l+m≤cap then
     if fl≤o+l*sz∧o+l*sz+ys.length≤cs.length then some (.c (.sl b o (l+m) cap ep s),.set b (.box (over cs (o+l*sz) ys) fl))else none
    else if bP (l+m) bytes∧o+l*sz≤cs.length then some (.c (.sl n0 0 (l+m) 0 0 sz),.push (.opn sz ((cs.drop o).take (l*sz)++ys) 0 0 .loc))else none
   | some (.opn s' cs fl e st)=>
    if ep=e∧s'=sz∧s=sz then
     if m=0 then some (x,.no)
     else if o=0∧l*sz=cs.length∧fl≤cs.length then
      if bP (l+m) bytes then some (.c (.sl b 0 (l+m) 0 (ep+1) sz),.set b (.opn sz (cs++ys) fl (e+1) .loc))else none
     else if st=.loc∧fl≤o+l*sz∧o+l*sz+ys.length≤cs.length then
      some (.c (.sl b o (l+m) 0 ep sz),.set b (.opn sz (over cs (o+l*sz) ys) fl e .loc))
     else none
    else none
   | _=>none
  | _=>none
def OB(g:Nat→Option Blk)(sz:Nat)(x y:V):Option (V × Eff):=
 match wC g sz y,x with
 | some _,.c (.f .ay)=>some (.int .i64 0,.no)
 | some _,.c (.f .es)=>some (.int .i64 0,.no)
 | some (m,ys),.c (.sl b o l _ ep s')=>
  let n:=Nat.min m l
  match g b with
  | some (.box cs fl)=>if fl≤o∧o+n*sz≤cs.length then some (.int .i64 n,.set b (.box (over cs o (ys.take (n*sz))) fl))else none
  | some (.opn s cs fl e .loc)=>if ep=e∧s'=s∧s=sz∧fl≤o∧o+n*sz≤cs.length then some (.int .i64 n,.set b (.opn s (over cs o (ys.take (n*sz))) fl e .loc))else none
  | _=>none
 | _,_=>none
def H9(g:Nat→Option Blk)(sz:Nat)(zs:List FC)(x:V):Option Eff:=
 match x with
 | .c y=>match wQ g y with
  | some 0=>some .no
  | some l=>
   if zs.length=sz then
    match y with
    | .sl b o _ _ ep s=>match g b with
     | some (.box _ _)=>Xd g (.ptr b o ep) ((dQ l zs).map .f)
     | some (.opn s' _ _ e .loc)=>if ep=e∧s=s' then Xd g (.ptr b o ep) ((dQ l zs).map .f)else none
     | _=>none
    | _=>none
   else none
  | none=>none
 | _=>none
def OM(g:Nat→Option Blk)(n0:Nat)(sz bytes:Nat)(zs:List FC)(x n:V):Option (V × Eff):=
 match jG n with
 | some n=>
  if 0≤n∧zs.length=sz then
   match x with
   | .c (.f .ay)=>if n.toNat=0 then some (.c (.f .ay),.no)else
     if bP n.toNat bytes then some (.c (.sl n0 0 n.toNat 0 0 sz),.push (.opn sz ((dQ n.toNat zs).map .f) 0 0 .loc))else none
   | .c (.f .es)=>if n.toNat=0 then some (.c (.f .es),.no)else
     if bP n.toNat bytes then some (.c (.sl n0 0 n.toNat 0 0 sz),.push (.opn sz ((dQ n.toNat zs).map .f) 0 0 .loc))else none
   | _=>none
  else none
 | none=>none
def GL(g:Nat→Option Blk):V→Option (V × Eff)
 | .c (.mi b)=>match g b with
  | some (.mit m since done)=>match g m with
   | some (.map [])=>if done then none else some (.t [.bool false],.no)
   | some (.map [e])=>if done then some (.t [.bool false],.no)else if since=1 then some (.t [.bool true,.c (.f e.1),mV e.2],.set b (.mit m 1 true))else none
   | _=>none
  | _=>none
 | _=>none
def AP(g:Nat→Option Blk)(n0:Nat):V→Option (V × Eff)
 | .c (.mp b)=>match g b with
  | some (.map es)=>if es.length≤1 then some (.c (.mi n0),.push (.mit b es.length false))else none
  | _=>none
 | _=>none
def WJ(regs:T)(g:Nat→Option Blk)(n0:Nat):AOp→Option (V × Eff)
 | .mov x=>some (x.ev regs,.no)
 | .pre o sz=>if o=.loc∨sz=0 then none else some (.c (.sl n0 0 0 0 0 sz),.push (.opn sz [] 0 0 o))
 | .pick c a b=>match c.ev regs with
  | .c (.f (.bool v))=>some ((if v then a else b).ev regs,.no)
  | _=>none
 | .alloc zs=>some (.c (.ptr n0 0 0),.push (.box (zs.map .f) 0))
 | .box x=>match (x.ev regs).cells? with
  | some xs=>some (.c (.ptr n0 0 0),.push (.box xs 0))
  | none=>none
 | .build zs ps=>(iy regs (zs.map .f) ps).map fun cs=>(.a cs,.no)
 | .aU sz zs n ps=>
  if n=0 then(if ps.isEmpty then some (.c (.f .es),.no)else none)else
  (iy regs ((dQ n zs).map .f) (ps.map fun p=>(p.1*sz,sz,p.2))).map fun cs=>(.c (.sl n0 0 n n 0 sz),.push (.box cs 0))
 | .load n x=>(aKr g n (x.ev regs)).map (·,.no)
 | .store n x y=>match x.ev regs,(y.ev regs).cells? with
  | .c p,some xs=>if xs.length=n then(Xd g p xs).map (.top,·)else none
  | _,_=>none
 | .bF x=>match x.ev regs with
  | .c (.ptr b o e)=>some (.c (.ptr b o e),.no)
  | .c (.f (.fp cs o))=>some (.c (.f (.fp cs o)),.no)
  | _=>none
 | .bin op x y=>(dN op (x.ev regs) (y.ev regs)).map (·,.no)
 | .eq neg k x y=>(aK5 g k (x.ev regs) (y.ev regs)).map fun b=>(.bool (if neg then !b else b),.no)
 | .un op x=>(unV op (x.ev regs)).map (·,.no)
 | .cvi k x=>match x.ev regs with
  | .c (.f (.int _ n))=>some (.int k (k.wrap n),.no)
  | _=>none
 | .HY x=>match x.ev regs with
  | .c (.f (.str s))=>some (.c (.f (.str s)),.no)
  | _=>none
 | .H7 x=>(OA g (x.ev regs)).map (·,.no)
 | .Oz x=>match x.ev regs with
  | .c (.f (.str s))=>if s.size<2 ^ 48 then some (.c (.sl n0 0 s.size 0 0 1),.push (.opn 1 (s.toList.map fun b=>.f (.int .u8 b.toNat)) 0 0 .loc))else none
  | _=>none
 | .iP f caps=>(bD y8 (fD regs caps)).map fun xs=>(.c (.cl f xs),.no)
 | .oM=>some (.c (.mp n0),.push (.map []))
 | .lookup ck z m k=>(BN g ck z (m.ev regs) (k.ev regs)).map (·,.no)
 | .nS ck m k v=>match m.ev regs,k.ev regs,CZ (v.ev regs)with
  | .c (.mp b),.c (.f k),some v=>match g b with
   | some (.map es)=>if isKey ck k then(ER ck k v es).map fun es=>(.top,.set b (.map es))else none
   | _=>none
  | _,_,_=>none
 | .eu sz bytes zs l c=>match jG (l.ev regs),jG (c.ev regs)with
  | some l,some c=>
   if 0≤l∧l≤c∧bP c.toNat bytes=true∧zs.length=sz then
    (if c=0 then some (.c (.f .es),.no)else
    some (.c (.sl n0 0 l.toNat c.toNat 0 sz),.push (.box ((dQ c.toNat zs).map .f) 0)))
   else none
  | _,_=>none
 | .slice sz x lo hi mx=>(Gl g sz (x.ev regs) (lo.map (·.ev regs)) (hi.map (·.ev regs)) (mx.map (·.ev regs))).map (·,.no)
 | .tq n sz x lo hi mx=>(Gm g n sz (x.ev regs) (lo.map (·.ev regs)) (hi.map (·.ev regs)) (mx.map (·.ev regs))).map (·,.no)
 | .uS x lo hi=>(zQ (x.ev regs) (lo.map (·.ev regs)) (hi.map (·.ev regs))).map (·,.no)
 | .au off x=>(mP off (x.ev regs)).map (·,.no)
 | .field off n x=>(xH off n (x.ev regs)).map (·,.no)
 | .aF sz arr x i=>(BU g sz arr (x.ev regs) (i.ev regs)).map (·,.no)
 | .idxs x i=>(JM (x.ev regs) (i.ev regs)).map (·,.no)
 | .G9 len sz n x i=>(JO len sz n (x.ev regs) (i.ev regs)).map (·,.no)
 | .range x=>match x.ev regs with
  | .c (.f (.str s))=>some (.c (.it n0),.push (.it s 0))
  | _=>none
 | .next x=>NH g (x.ev regs)
 | .extract x i=>match x.ev regs with
  | .t vs=>(vs[i]?).map (·,.no)
  | _=>none
 | .BP n=>some (.int .i64 n,.no)
 | .lens x=>match x.ev regs with
  | .c (.f (.str s))=>some (.int .i64 (s.size:Nat),.no)
  | _=>none
 | .len x=>match x.ev regs with
  | .c y=>match wQ g y with
   | some n=>some (.int .i64 (n:Nat),.no)
   | none=>none
  | _=>none
 | .append sz bytes x y=>Dc g n0 sz bytes (x.ev regs) (y.ev regs)
 | .copy sz x y=>OB g sz (x.ev regs) (y.ev regs)
 | .iT lo xs=>(JA lo (fD regs xs)).map (·,.no)
 | .clear sz zs x=>(H9 g sz zs (x.ev regs)).map (.t [],·)
 | .uK sz bytes zs x n=>OM g n0 sz bytes zs (x.ev regs) (n.ev regs)
 | .og x=>AP g n0 (x.ev regs)
 | .tC x=>GL g (x.ev regs)
 | .entry x=>(Hy g (x.ev regs)).map (·,.no)
 | .vF f xs=>(bD y8 (fD regs xs)).map fun xs=>(.c (.bm f xs),.no)
 | .cap x=>match x.ev regs with
  | .c y=>match MC g y with
   | some n=>some (.int .i64 (n:Nat),.no)
   | none=>none
  | _=>none
 | _=>none
def gt(H:Heap):Nat→Option Blk:=fun b=>H[b]?
theorem J8(H:Heap):CY (gt H)=gu H:=by funext x;unfold CY gu gt;rfl
theorem atb(H:Heap):aKr (gt H)=ldV H:=by funext n x;unfold aKr ldV;rw [J8];rfl
theorem rW(H:Heap):wQ (gt H)=cO H:=by funext x;unfold wQ cO gt;rfl
theorem xY(H:Heap):uT (gt H)=dP H:=by funext n x;unfold uT dP gt;rfl
theorem Uj(H:Heap):wZ (gt H)=isNil H:=by funext k x;unfold wZ isNil gt;rfl
theorem atU(H:Heap):aK5 (gt H)=eqV H:=by funext k x y;unfold aK5 eqV;rw [Uj];rfl
theorem Md(H:Heap):Gl (gt H)=jc H:=by funext n x a b c;unfold Gl jc gt;rfl
theorem MB(H:Heap):Gm (gt H)=nZ H:=by funext m n x a b c;unfold Gm nZ gt;rfl
theorem JL(H:Heap):BU (gt H)=bC H:=by funext n a x i;unfold BU bC gt;rfl
theorem JG(H:Heap):BN (gt H)=mJ H:=by funext k z x y;unfold BN mJ gt;rfl
theorem UD(H:Heap):OA (gt H)=tH H:=by funext x;unfold OA tH;rw [rW,xY];rfl
theorem uM(H:Heap):wC (gt H)=fE H:=by funext n x;unfold wC fE;rw [rW,xY];rfl
theorem Tc(H:Heap):MC (gt H)=qB H:=by funext x;unfold MC qB gt;rfl
theorem Ox(H:Heap):Hy (gt H)=qm H:=by funext x;unfold Hy qm gt;rfl
def lZ(H:Heap)(r:Option (V × Eff)):Option (V × Heap):=r.map fun r=>(r.1,r.2.app H)
theorem Gh(H:Heap)(x:C)(xs:List C):(Xd (gt H) x xs).map (·.app H)=stC H x xs:=by
 cases x with
 | ptr b off ep=>
  simp only [Xd,stC,gt]
  cases h:H[b]? with
  | none=>rfl
  | some blk=>
   cases blk with
   | box cs fl=>simp only;split<;>rfl
   | opn sz cs fl e st=>cases st<;>simp only<;>first | rfl | (split<;>rfl)
   | _=>rfl
 | _=>rfl
theorem Ub(H:Heap)(x:V):lZ H (NH (gt H) x)=QF H x:=by
 cases x with
 | c x=>
  cases x with
  | it b=>
   simp only [NH,QF,gt,lZ]
   cases h:H[b]? with
   | none=>rfl
   | some blk=>
    cases blk with
    | it s pos=>simp only;split<;>rfl
    | _=>rfl
  | _=>rfl
 | _=>rfl
theorem UE(H:Heap)(sz:Nat)(x y:V):lZ H (OB (gt H) sz x y)=copyV H sz x y:=by
 unfold OB copyV lZ
 rw [uM]
 cases ha:fE H sz y with
 | none=>rfl
 | some r=>
  obtain⟨m,ys⟩:=r
  cases x with
  | c x=>
   cases x with
   | f x=>cases x<;>rfl
   | sl b o l cap ep s=>
    simp only [gt]
    cases h:H[b]? with
    | none=>rfl
    | some blk=>
     cases blk with
     | box cs fl=>simp only;split<;>rfl
     | opn sz cs fl e st=>cases st<;>simp only<;>first | rfl | (split<;>rfl)
     | _=>rfl
   | _=>rfl
  | _=>rfl
theorem Kv(H:Heap)(sz bytes:Nat)(x y:V):lZ H (Dc (gt H) H.length sz bytes x y)=dh H sz bytes x y:=by
 unfold Dc dh lZ
 rw [uM]
 cases ha:fE H sz y with
 | none=>rfl
 | some r=>
  obtain⟨m,ys⟩:=r
  simp only
  by_cases h0:sz=0
  ·simp [h0]
  ·simp only [h0,if_false]
   cases x with
   | c x=>
    cases x with
    | f x=>cases x<;>first | rfl | (simp only;repeat' (first | rfl | split))
    | sl b o l cap ep s=>
     simp only [gt]
     cases h:H[b]? with
     | none=>rfl
     | some blk=>
      cases blk with
      | box cs fl=>simp only;repeat' (first | rfl | split)
      | opn sz cs fl e st=>simp only;repeat' (first | rfl | split)
      | _=>rfl
    | _=>rfl
   | _=>rfl
theorem OE(H:Heap)(sz:Nat)(zs:List FC)(x:V):(H9 (gt H) sz zs x).map (·.app H)=uI H sz zs x:=by
 unfold H9 uI
 cases x with
 | c y=>
  simp only [rW]
  cases cO H y with
  | none=>rfl
  | some l=>
   cases l with
   | zero=>rfl
   | succ l=>
    simp only
    split
    ·cases y with
     | sl b o l' c ep s=>
      simp only [gt]
      cases h:H[b]? with
      | none=>rfl
      | some blk=>
       cases blk with
       | box cs fl=>exact Gh H _ _
       | opn s' cs fl e st=>
        cases st<;>simp only<;>first | rfl | skip
        split
        ·exact Gh H _ _
        ·rfl
       | _=>rfl
     | _=>rfl
    ·rfl
 | _=>rfl
theorem UO(H:Heap)(sz bytes:Nat)(zs:List FC)(x n:V):lZ H (OM (gt H) H.length sz bytes zs x n)=Rl H sz bytes zs x n:=by
 unfold OM Rl lZ
 cases jG n with
 | none=>rfl
 | some n=>
  simp only
  split
  ·cases x with
   | c x=>
    cases x with
    | f x=>cases x<;>first | rfl | (simp only;repeat' (first | rfl | split))
    | _=>rfl
   | _=>rfl
  ·rfl
theorem NG(H:Heap)(x:V):lZ H (GL (gt H) x)=GN H x:=by
 cases x with
 | c x=>
  cases x with
  | mi b=>
   simp only [GL,GN,gt,lZ]
   cases h:H[b]? with
   | none=>rfl
   | some blk=>
    cases blk with
    | mit m since done=>
     simp only
     cases h2:H[m]? with
     | none=>rfl
     | some aYU=>
      cases aYU with
      | map es=>
       match es with
       | []=>simp only;split<;>rfl
       | [e]=>simp only;repeat' (first | rfl | split)
       | _::_::_=>rfl
      | _=>rfl
    | _=>rfl
  | _=>rfl
 | _=>rfl
theorem I7(H:Heap)(x:V):lZ H (AP (gt H) H.length x)=zk H x:=by
 cases x with
 | c x=>
  cases x with
  | mp b=>
   simp only [AP,zk,gt,lZ]
   cases h:H[b]? with
   | none=>rfl
   | some blk=>
    cases blk with
    | map es=>simp only;split<;>rfl
    | _=>rfl
  | _=>rfl
 | _=>rfl
theorem Rn{H:Heap}(o:Option V):lZ H (o.map (·,.no))=o.map (·,H):=by cases o<;>rfl
theorem FZ(regs:T)(H:Heap)(op:AOp):lZ H (WJ regs (gt H) H.length op)=xOp regs H op:=by
 cases op<;>simp only [WJ,xOp,Rn,atb,Md,MB,JL,JG,UD,Kv,UE,Ub,UO,NG,I7,Ox]
 all_goals first | rfl | skip
 case pre o sz=>split<;>rfl
 case pick c a b=>
  generalize c.ev regs=v
  cases v<;>try rfl
  rename_i x;cases x<;>try rfl
  rename_i x;cases x<;>rfl
 case box x=>generalize (x.ev regs).cells?=o;cases o<;>rfl
 case build zs ps=>cases iy regs (zs.map .f) ps<;>rfl
 case aU sz zs n ps=>
  split
  ·split<;>rfl
  ·simp only [lZ,Option.map_map];rfl
 case store n x y=>
  generalize x.ev regs=v
  generalize (y.ev regs).cells?=o
  cases v<;>cases o<;>try rfl
  simp only
  split
  ·rw [←Gh];simp only [lZ,Option.map_map];rfl
  ·rfl
 case bF x=>
  generalize x.ev regs=v
  cases v<;>try rfl
  rename_i x;cases x<;>try rfl
  rename_i x;cases x<;>rfl
 case eq neg k x y=>rw [atU];simp only [lZ,Option.map_map];rfl
 case cvi k x=>
  generalize x.ev regs=v
  cases v<;>try rfl
  rename_i x;cases x<;>try rfl
  rename_i x;cases x<;>rfl
 case HY x=>
  generalize x.ev regs=v
  cases v<;>try rfl
  rename_i x;cases x<;>try rfl
  rename_i x;cases x<;>rfl
 case Oz x=>
  generalize x.ev regs=v
  cases v<;>try rfl
  rename_i x;cases x<;>try rfl
  rename_i x;cases x<;>try rfl
  simp only
  split<;>rfl
 case iP f caps=>simp only [lZ,Option.map_map];rfl
 case nS ck m k v=>
  generalize m.ev regs=m
  generalize k.ev regs=k
  generalize CZ (v.ev regs)=v
  cases m<;>try rfl
  rename_i m;cases m<;>try rfl
  cases k<;>try rfl
  rename_i k;cases k<;>try rfl
  cases v<;>try rfl
  simp only [gt]
  rename_i b k v
  cases H[b]? with
  | none=>rfl
  | some blk=>
   cases blk<;>try rfl
   simp only
   split
   ·simp only [lZ,Option.map_map];rfl
   ·rfl
 case eu sz bytes zs l c=>
  generalize jG (l.ev regs)=l
  generalize jG (c.ev regs)=c
  cases l<;>cases c<;>try rfl
  simp only
  split
  ·split<;>rfl
  ·rfl
 case range x=>
  generalize x.ev regs=v
  cases v<;>try rfl
  rename_i x;cases x<;>try rfl
  rename_i x;cases x<;>rfl
 case extract x i=>
  generalize x.ev regs=v
  cases v<;>try rfl
  simp only [Rn]
 case len x=>
  generalize x.ev regs=v
  cases v<;>try rfl
  rw [rW]
  simp only
  rename_i y
  cases cO H y<;>rfl
 case lens x=>
  generalize x.ev regs=v
  cases v<;>try rfl
  rename_i x;cases x<;>try rfl
  rename_i x;cases x<;>rfl
 case clear sz zs x=>rw [←OE];simp only [lZ,Option.map_map];rfl
 case vF f caps=>simp only [lZ,Option.map_map];rfl
 case cap x=>
  generalize x.ev regs=v
  cases v<;>try rfl
  rw [Tc]
  simp only
  rename_i y
  cases qB H y<;>rfl
end Km
end
section
set_option linter.unusedVariables false
namespace Km
open Go
inductive BT(α:Type) where
 | e
 | n (l:BT α) (x:α) (r:BT α)
def BT.get{α:Type}:BT α→Nat→Option α
 | .e,_=>none
 | .n l x r,b=>match b with
  | 0=>some x
  | m+1=>if m % 2=0 then l.get (m / 2)else r.get (m / 2)
abbrev HT:=BT Blk
def kT{α:Type}(b:Nat)(t:BT α)(k:α→Prop):Prop:=
 BT.rec (motive:=fun _=>Nat→Prop) (fun _=>False)
  (fun _ x _ ihl ihr b=>Nat.rec (motive:=fun _=>Prop) (k x) (fun m _=>Nat.rec (motive:=fun _=>Prop) (ihl (Nat.div m 2)) (fun _ _=>ihr (Nat.div m 2)) (Nat.mod m 2)) b) t b
def kS{α:Type}(x:α)(t:BT α):Nat→(BT α→Prop)→Prop:=
 BT.rec (motive:=fun _=>Nat→(BT α→Prop)→Prop) (fun _ _=>False)
  (fun l y r ihl ihr b k=>Nat.rec (motive:=fun _=>Prop) (k (.n l x r))
   (fun m _=>Nat.rec (motive:=fun _=>Prop) (ihl (Nat.div m 2) fun l'=>k (.n l' y r)) (fun _ _=>ihr (Nat.div m 2) fun r'=>k (.n l y r')) (Nat.mod m 2)) b) t
def Ie{α:Type}(x:α)(t:BT α):Nat→(BT α→Prop)→Prop:=
 BT.rec (motive:=fun _=>Nat→(BT α→Prop)→Prop) (fun b k=>Nat.rec (motive:=fun _=>Prop) (k (.n .e x .e)) (fun _ _=>False) b)
  (fun l y r ihl ihr b k=>Nat.rec (motive:=fun _=>Prop) False
   (fun m _=>Nat.rec (motive:=fun _=>Prop) (ihl (Nat.div m 2) fun l'=>k (.n l' y r)) (fun _ _=>ihr (Nat.div m 2) fun r'=>k (.n l y r')) (Nat.mod m 2)) b) t
theorem Yq(m:Nat):m % 2=0∨m % 2=1:=by omega
theorem fF{α:Type}{t:BT α}:∀ {b:Nat} {k:α→Prop},kT b t k→∃ x,t.get b=some x∧k x:=by
 induction t with
 | e=>intro b k h;exact h.elim
 | n l x r ihl ihr=>
  intro b k h
  cases b with
  | zero=>exact⟨x,rfl,h⟩
  | succ m=>
   have h':Nat.rec (motive:=fun _=>Prop) (kT (m / 2) l k) (fun _ _=>kT (m / 2) r k) (m % 2):=h
   rcases Yq m with e | e<;>rw [e]at h'
   ·obtain⟨y,g1,g2⟩:=ihl h'
    exact⟨y,by simp [BT.get,e,g1],g2⟩
   ·obtain⟨y,g1,g2⟩:=ihr h'
    exact⟨y,by simp [BT.get,e,g1],g2⟩
def tK{α:Type}(t t':BT α)(b:Nat)(x:α):Prop:=∀ i,t'.get i=if i=b then some x else t.get i
theorem tK.left{α:Type}{l l' r:BT α}{y x:α}{m:Nat}(e:m % 2=0)(h:tK l l' (m / 2) x):tK (.n l y r) (.n l' y r) (m+1) x:=by
 intro i
 cases i with
 | zero=>simp [BT.get]
 | succ j=>
  simp only [BT.get,h (j / 2)]
  rcases Yq j with e' | e'
  ·have:(j / 2=m / 2)↔(j=m):=by omega
   simp [e',this]
  ·have:j≠m:=by omega
   simp [e',this]
theorem tK.right{α:Type}{l r' r:BT α}{y x:α}{m:Nat}(e:m % 2=1)(h:tK r r' (m / 2) x):tK (.n l y r) (.n l y r') (m+1) x:=by
 intro i
 cases i with
 | zero=>simp [BT.get]
 | succ j=>
  simp only [BT.get,h (j / 2)]
  rcases Yq j with e' | e'
  ·have:j≠m:=by omega
   simp [e',this]
  ·have:(j / 2=m / 2)↔(j=m):=by omega
   simp [e',this]
theorem ZA{α:Type}{x:α}{t:BT α}:∀ {b:Nat} {k:BT α→Prop},kS x t b k→∃ t',tK t t' b x∧(∃ y,t.get b=some y)∧k t':=by
 induction t with
 | e=>intro b k h;exact h.elim
 | n l y r ihl ihr=>
  intro b k h
  cases b with
  | zero=>
   refine⟨.n l x r,fun i=>?_,⟨y,rfl⟩,h⟩
   cases i<;>simp [BT.get]
  | succ m=>
   have h':Nat.rec (motive:=fun _=>Prop) (kS x l (m / 2) fun l'=>k (.n l' y r)) (fun _ _=>kS x r (m / 2) fun r'=>k (.n l y r')) (m % 2):=h
   rcases Yq m with e | e<;>rw [e]at h'
   ·obtain⟨l',g1,⟨z,g2⟩,g3⟩:=ihl h'
    exact⟨_,g1.left e,⟨z,by simp [BT.get,e,g2]⟩,g3⟩
   ·obtain⟨l',g1,⟨z,g2⟩,g3⟩:=ihr h'
    exact⟨_,g1.right e,⟨z,by simp [BT.get,e,g2]⟩,g3⟩
theorem UL{α:Type}{x:α}{t:BT α}:∀ {b:Nat} {k:BT α→Prop},Ie x t b k→∃ t',tK t t' b x∧k t':=by
 induction t with
 | e=>
  intro b k h
  cases b with
  | zero=>
   refine⟨.n .e x .e,fun i=>?_,h⟩
   cases i<;>simp [BT.get]
  | succ m=>exact h.elim
 | n l y r ihl ihr=>
  intro b k h
  cases b with
  | zero=>exact h.elim
  | succ m=>
   have h':Nat.rec (motive:=fun _=>Prop) (Ie x l (m / 2) fun l'=>k (.n l' y r)) (fun _ _=>Ie x r (m / 2) fun r'=>k (.n l y r')) (m % 2):=h
   rcases Yq m with e | e<;>rw [e]at h'
   ·obtain⟨l',g1,g3⟩:=ihl h'
    exact⟨_,g1.left e,g3⟩
   ·obtain⟨l',g1,g3⟩:=ihr h'
    exact⟨_,g1.right e,g3⟩
def dX(H:Heap)(t:HT):Prop:=t.get=gt H
theorem dX.nil:dX [] .e:=by funext b;simp [BT.get,gt]
theorem dX.set{H:Heap}{t t':HT}(h:dX H t){b:Nat}{x:Blk}(hp:tK t t' b x)(hb:∃ y,t.get b=some y):dX (H.set b x) t':=by
 funext i
 obtain⟨y,hy⟩:=hb
 rw [h]at hy
 have hlt:b<H.length:=(List.getElem?_eq_some_iff.1 hy).1
 rw [hp i,h]
 simp only [gt]
 by_cases e:i=b
 ·subst e;simp [hlt]
 ·simp [e,List.getElem?_set_ne (Ne.symm e)]
theorem dX.push{H:Heap}{t t':HT}(h:dX H t){x:Blk}(hp:tK t t' H.length x):dX (H++[x]) t':=by
 funext i
 rw [hp i,h]
 simp only [gt]
 by_cases e:i=H.length
 ·subst e;simp
 ·by_cases hi:i<H.length
  ·simp [e,List.getElem?_append_left hi]
  ·rw [List.getElem?_append_right (by omega)]
   have:i-H.length≠0:=by omega
   simp [e,List.getElem?_eq_none (l:=H) (i:=i) (by omega),this]
def bY(n:Nat)(k:Nat→Prop):Prop:=Nat.rec (motive:=fun _=>Prop) (k 0) (fun m _=>k (Nat.succ m)) n
def xC(n:Int)(k:Int→Prop):Prop:=Int.rec (motive:=fun _=>Prop) (fun n=>bY n fun n=>k (.ofNat n)) (fun n=>bY n fun n=>k (.negSucc n)) n
def rE(b:Bool)(k:Bool→Prop):Prop:=Bool.rec (motive:=fun _=>Prop) (k false) (k true) b
theorem cu(n:Nat)(k:Nat→Prop):bY n k=k n:=by cases n<;>rfl
theorem Fe(n:Int)(k:Int→Prop):xC n k=k n:=by cases n<;>simp only [xC,cu]
theorem kZ(b:Bool)(k:Bool→Prop):rE b k=k b:=by cases b<;>rfl
def Ol(x:FC)(k:FC→Prop):Prop:=match x with
 | .bool b=>rE b fun b=>k (.bool b)
 | .int j n=>xC n fun n=>k (.int j n)
 | .fp cs o=>bY o fun o=>k (.fp cs o)
 | .fs cs l=>bY l fun l=>k (.fs cs l)
 | x=>k x
theorem Ur(x:FC)(k:FC→Prop):Ol x k=k x:=by cases x<;>simp only [Ol,cu,Fe,kZ]
def xG(x:C)(k:C→Prop):Prop:=match x with
 | .f x=>Ol x fun x=>k (.f x)
 | .ptr b o e=>bY b fun b=>bY o fun o=>bY e fun e=>k (.ptr b o e)
 | .sl b o l c e s=>bY b fun b=>bY o fun o=>bY l fun l=>bY c fun c=>bY e fun e=>bY s fun s=>k (.sl b o l c e s)
 | x=>k x
theorem xE(x:C)(k:C→Prop):xG x k=k x:=by cases x<;>simp only [xG,cu,Ur]
def rD(xs:List C):(List C→Prop)→Prop:=
 List.rec (motive:=fun _=>(List C→Prop)→Prop) (fun k=>k []) (fun x _ ih k=>xG x fun x=>ih fun xs=>k (x::xs)) xs
theorem oQ:∀(xs:List C) (k:List C→Prop),rD xs k=k xs
 | [],k=>rfl
 | x::xs,k=>by
  show xG x (fun x=>rD xs fun xs=>k (x::xs))=_
  rw [xE,oQ xs]
def zu(v:V)(k:V→Prop):Prop:=match v with
 | .c x=>xG x fun x=>k (.c x)
 | .a xs=>rD xs fun xs=>k (.a xs)
 | v=>k v
theorem Oj(v:V)(k:V→Prop):zu v k=k v:=by cases v<;>simp only [zu,xE,oQ]
def Hq(xs:List V):(List V→Prop)→Prop:=
 List.rec (motive:=fun _=>(List V→Prop)→Prop) (fun k=>k []) (fun x _ ih k=>zu x fun x=>ih fun xs=>k (x::xs)) xs
theorem Cb:∀(xs:List V) (k:List V→Prop),Hq xs k=k xs
 | [],k=>rfl
 | x::xs,k=>by
  show zu x (fun x=>Hq xs fun xs=>k (x::xs))=_
  rw [Oj,Cb xs]
def ql(v:V)(k:V→Prop):Prop:=match v with
 | .c x=>xG x fun x=>k (.c x)
 | .a xs=>rD xs fun xs=>k (.a xs)
 | .t vs=>Hq vs fun vs=>k (.t vs)
 | .top=>k .top
theorem xB(v:V)(k:V→Prop):ql v k=k v:=by cases v<;>simp only [ql,xE,oQ,Cb]
def xA(x:Blk)(k:Blk→Prop):Prop:=match x with
 | .box cs fl=>rD cs fun cs=>bY fl fun fl=>k (.box cs fl)
 | .opn sz cs fl e st=>rD cs fun cs=>bY fl fun fl=>bY e fun e=>k (.opn sz cs fl e st)
 | .it s p=>bY p fun p=>k (.it s p)
 | x=>k x
theorem Fb(x:Blk)(k:Blk→Prop):xA x k=k x:=by cases x<;>simp only [xA,cu,oQ]
def JV(p:P):T→(V→Prop)→Prop:=
 P.rec (motive:=fun _=>T→(V→Prop)→Prop)
  (fun t k=>T.rec (motive:=fun _=>Prop) (k .top) (fun _ v _ _ _=>k v) t)
  (fun _ ih t k=>T.rec (motive:=fun _=>Prop) (k .top) (fun l _ _ _ _=>ih l k) t)
  (fun _ ih t k=>T.rec (motive:=fun _=>Prop) (k .top) (fun _ _ r _ _=>ih r k) t) p
theorem sH:∀(p:P) (t:T) (k:V→Prop),JV p t k=k (t.get p)
 | .h,.e,k=>rfl
 | .h,.n _ _ _,k=>rfl
 | .o p,.e,k=>rfl
 | .o p,.n l _ _,k=>sH p l k
 | .i p,.e,k=>rfl
 | .i p,.n _ _ r,k=>sH p r k
def apV(p:P)(w:V):T→(T→Prop)→Prop:=
 P.rec (motive:=fun _=>T→(T→Prop)→Prop)
  (fun t k=>T.rec (motive:=fun _=>Prop) (k (.n .e w .e)) (fun l _ r _ _=>k (.n l w r)) t)
  (fun _ ih t k=>T.rec (motive:=fun _=>Prop) (ih .e fun l=>k (.n l .top .e)) (fun l v r _ _=>ih l fun l=>k (.n l v r)) t)
  (fun _ ih t k=>T.rec (motive:=fun _=>Prop) (ih .e fun r=>k (.n .e .top r)) (fun l v r _ _=>ih r fun r=>k (.n l v r)) t) p
theorem rX(w:V):∀(p:P) (t:T) (k:T→Prop),apV p w t k=k (t.set p w)
 | .h,.e,k=>rfl
 | .h,.n _ _ _,k=>rfl
 | .o p,.e,k=>rX w p .e _
 | .o p,.n l _ _,k=>rX w p l _
 | .i p,.e,k=>rX w p .e _
 | .i p,.n _ _ r,k=>rX w p r _
def evK(x:Arg)(r:T)(k:V→Prop):Prop:=Arg.rec (motive:=fun _=>Prop) (fun p=>JV p r k) (fun v=>k v) x
theorem fB(x:Arg)(r:T)(k:V→Prop):evK x r k=k (x.ev r):=by cases x;exact sH _ _ _;rfl
def Kt(xs:List Arg)(r:T):(List V→Prop)→Prop:=
 List.rec (motive:=fun _=>(List V→Prop)→Prop) (fun k=>k []) (fun x _ ih k=>evK x r fun v=>ih fun vs=>k (v::vs)) xs
theorem wz(r:T):∀(xs:List Arg) (k:List V→Prop),Kt xs r k=k (fD r xs)
 | [],k=>rfl
 | x::xs,k=>by
  show evK x r (fun v=>Kt xs r fun vs=>k (v::vs))=_
  rw [fB,wz r xs];rfl
def aHr(d:Option P)(r:T)(v:V)(k:T→Prop):Prop:=Option.rec (motive:=fun _=>Prop) (k r) (fun d=>apV d v r k) d
theorem Qm(d:Option P)(r:T)(v:V)(k:T→Prop):aHr d r v k=k (nG r d v):=by cases d;rfl;exact rX _ _ _ _
def zi(ps:List P):List V→T→(T→Prop)→Prop:=
 List.rec (motive:=fun _=>List V→T→(T→Prop)→Prop) (fun _ r k=>k r)
  (fun p _ ih vs r k=>List.rec (motive:=fun _=>Prop) (k r) (fun v vs _=>apV p v r fun r=>ih vs r k) vs) ps
theorem tY:∀(ps:List P) (vs:List V) (r:T) (k:T→Prop),zi ps vs r k=k (dK ps vs r)
 | [],vs,r,k=>by cases vs<;>rfl
 | p::ps,[],r,k=>rfl
 | p::ps,v::vs,r,k=>by
  show apV p v r (fun r=>zi ps vs r k)=_
  rw [rX,tY ps];rfl
def asQ{α:Type}(n:Nat):List α→(α→Prop)→Prop:=
 Nat.rec (motive:=fun _=>List α→(α→Prop)→Prop) (fun xs k=>List.rec (motive:=fun _=>Prop) False (fun x _ _=>k x) xs)
  (fun _ ih xs k=>List.rec (motive:=fun _=>Prop) False (fun _ xs _=>ih xs k) xs) n
theorem zn{α:Type}:∀ {n:Nat} {xs:List α} {k:α→Prop},asQ n xs k→∃ x,xs[n]?=some x∧k x
 | 0,[],_,h=>h.elim
 | 0,x::_,_,h=>⟨x,rfl,h⟩
 | n+1,[],_,h=>h.elim
 | n+1,_::xs,k,h=>zn (n:=n) (xs:=xs) (k:=k) h
def CJ{α:Type}(n:Nat):List α→(List α→Prop)→Prop:=
 Nat.rec (motive:=fun _=>List α→(List α→Prop)→Prop) (fun xs k=>k xs)
  (fun _ ih xs k=>List.rec (motive:=fun _=>Prop) (k []) (fun _ xs _=>ih xs k) xs) n
theorem rJ{α:Type}:∀(n:Nat) (xs:List α) (k:List α→Prop),CJ n xs k=k (xs.drop n)
 | 0,xs,k=>rfl
 | n+1,[],k=>rfl
 | n+1,_::xs,k=>rJ n xs k
def xJ{α:Type}(n:Nat):List α→(List α→Prop)→Prop:=
 Nat.rec (motive:=fun _=>List α→(List α→Prop)→Prop) (fun xs k=>k xs)
  (fun _ ih xs k=>List.rec (motive:=fun _=>Prop) False (fun _ xs _=>ih xs k) xs) n
theorem mX{α:Type}:∀ {n:Nat} {xs:List α} {k:List α→Prop},xJ n xs k→n≤xs.length∧k (xs.drop n)
 | 0,xs,k,h=>⟨by simp,h⟩
 | n+1,[],k,h=>h.elim
 | n+1,x::xs,k,h=>by
  obtain⟨h1,h2⟩:=mX (n:=n) (xs:=xs) (k:=k) h
  exact⟨by simp;omega,h2⟩
def qy{α:Type}(n:Nat):List α→(List α→Prop)→Prop:=
 Nat.rec (motive:=fun _=>List α→(List α→Prop)→Prop) (fun _ k=>k [])
  (fun _ ih xs k=>List.rec (motive:=fun _=>Prop) False (fun x xs _=>ih xs fun ys=>k (x::ys)) xs) n
theorem jI{α:Type}:∀ {n:Nat} {xs:List α} {k:List α→Prop},qy n xs k→n≤xs.length∧k (xs.take n)
 | 0,xs,k,h=>⟨by simp,by have h':k []:=h;simpa using h'⟩
 | n+1,[],k,h=>h.elim
 | n+1,x::xs,k,h=>by
  obtain⟨h1,h2⟩:=jI (n:=n) (xs:=xs) (k:=fun ys=>k (x::ys)) h
  exact⟨by simp;omega,by simpa using h2⟩
def aQJ{α:Type}(xs:List α):List α→(List α→Prop)→Prop:=
 List.rec (motive:=fun _=>List α→(List α→Prop)→Prop) (fun cs k=>k cs)
  (fun x _ ih cs k=>List.rec (motive:=fun _=>Prop) False (fun _ cs _=>ih cs fun ys=>k (x::ys)) cs) xs
theorem QO{α:Type}:∀ {xs cs:List α} {k:List α→Prop},aQJ xs cs k→xs.length≤cs.length∧k (xs++cs.drop xs.length)
 | [],cs,k,h=>⟨by simp,by have h':k cs:=h;simpa using h'⟩
 | x::xs,[],k,h=>h.elim
 | x::xs,c::cs,k,h=>by
  obtain⟨h1,h2⟩:=QO (xs:=xs) (cs:=cs) (k:=fun ys=>k (x::ys)) h
  exact⟨by simp;omega,by simpa using h2⟩
def Bq{α:Type}(xs:List α)(off:Nat):List α→(List α→Prop)→Prop:=
 Nat.rec (motive:=fun _=>List α→(List α→Prop)→Prop) (fun cs k=>aQJ xs cs k)
  (fun _ ih cs k=>List.rec (motive:=fun _=>Prop) False (fun c cs _=>ih cs fun ys=>k (c::ys)) cs) off
theorem oK{α:Type}{xs:List α}:∀ {off:Nat} {cs:List α} {k:List α→Prop},Bq xs off cs k→off+xs.length≤cs.length∧k (over cs off xs)
 | 0,cs,k,h=>by
  obtain⟨h1,h2⟩:=QO (xs:=xs) (cs:=cs) (k:=k) h
  exact⟨by omega,by simpa [over]using h2⟩
 | n+1,[],k,h=>h.elim
 | n+1,c::cs,k,h=>by
  obtain⟨h1,h2⟩:=oK (off:=n) (cs:=cs) (k:=fun ys=>k (c::ys)) h
  refine⟨by simp;omega,?_⟩
  have:n+1+xs.length=(n+xs.length)+1:=by omega
  simpa [over,this]using h2
def aLb{α:Type}(xs ys:List α):(List α→Prop)→Prop:=
 List.rec (motive:=fun _=>(List α→Prop)→Prop) (fun k=>k ys) (fun x _ ih k=>ih fun zs=>k (x::zs)) xs
theorem Ia{α:Type}(ys:List α):∀(xs:List α) (k:List α→Prop),aLb xs ys k=k (xs++ys)
 | [],k=>rfl
 | x::xs,k=>Ia ys xs fun zs=>k (x::zs)
def fzK(zs:List FC):(List C→Prop)→Prop:=
 List.rec (motive:=fun _=>(List C→Prop)→Prop) (fun k=>k []) (fun z _ ih k=>ih fun cs=>k (.f z::cs)) zs
theorem xw:∀(zs:List FC) (k:List C→Prop),fzK zs k=k (zs.map .f)
 | [],k=>rfl
 | z::zs,k=>xw zs fun cs=>k (.f z::cs)
def ltB:Int→Int→Bool
 | .ofNat a,.ofNat b=>Nat.ble (Nat.succ a) b
 | .ofNat _,.negSucc _=>false
 | .negSucc _,.ofNat _=>true
 | .negSucc a,.negSucc b=>Nat.ble (Nat.succ b) a
theorem GY(x y:Int):ltB x y=decide (x<y):=by
 have e:∀ n:Nat,Int.ofNat n=(n:Int):=fun _=>rfl
 cases x<;>cases y<;>simp only [ltB]<;>rw [Bool.eq_iff_iff]<;>simp only [Nat.ble_eq,decide_eq_true_eq,Bool.false_eq_true,false_iff,true_iff,e,Nat.succ_eq_add_one]<;>omega
def eqB:Int→Int→Bool
 | .ofNat a,.ofNat b=>Nat.beq a b
 | .negSucc a,.negSucc b=>Nat.beq a b
 | _,_=>false
theorem Zf(x y:Int):eqB x y=(x == y):=by
 have e:∀ n:Nat,Int.ofNat n=(n:Int):=fun _=>rfl
 cases x<;>cases y<;>simp only [eqB]<;>rw [Bool.eq_iff_iff]<;>simp only [Nat.beq_eq,beq_iff_eq,Bool.false_eq_true,false_iff,e]<;>omega
def ED(j:IntKind)(n:Int)(k:Int→Prop):Prop:=match j with
 | .i64=>Int.rec (motive:=fun _=>Prop)
   (fun n=>bY n fun n=>Bool.rec (motive:=fun _=>Prop) (xC (IntKind.i64.wrap (.ofNat n)) k) (k (.ofNat n)) (Nat.ble n 9223372036854775807))
   (fun n=>bY n fun n=>Bool.rec (motive:=fun _=>Prop) (xC (IntKind.i64.wrap (.negSucc n)) k) (k (.negSucc n)) (Nat.ble n 9223372036854775807)) n
 | j=>xC (j.wrap n) k
theorem wrap64_in{n:Int}(h1:-9223372036854775808≤n)(h2:n≤9223372036854775807):IntKind.i64.wrap n=n:=by
 simp only [IntKind.wrap,IntKind.bits,IntKind.signed]
 have e1:(2 ^ 64:Int)=18446744073709551616:=by decide
 have e2:(2 ^ (64-1):Int)=9223372036854775808:=by decide
 simp only [e1,e2,Bool.true_and,decide_eq_true_eq]
 split<;>omega
theorem uP(j:IntKind)(n:Int)(k:Int→Prop):ED j n k=k (j.wrap n):=by
 cases j<;>simp only [ED,Fe]
 cases n with
 | ofNat n=>
  simp only [cu]
  cases h:Nat.ble n 9223372036854775807 with
  | false=>rfl
  | true=>
   have:=Nat.le_of_ble_eq_true h
   have e:Int.ofNat n=(n:Int):=rfl
   rw [wrap64_in (by rw [e];omega) (by rw [e];omega)]
 | negSucc n=>
  simp only [cu]
  cases h:Nat.ble n 9223372036854775807 with
  | false=>rfl
  | true=>
   have:=Nat.le_of_ble_eq_true h
   rw [wrap64_in (by omega) (by omega)]
end Km
end
section
set_option linter.unusedVariables false
namespace Km
open Go
def lM(a b:Nat)(p:Prop):Prop:=Bool.rec (motive:=fun _=>Prop) False p (Nat.beq a b)
def y9(a b:Nat)(p:Prop):Prop:=Bool.rec (motive:=fun _=>Prop) False p (Nat.ble a b)
def yC(b:Bool)(p:Prop):Prop:=Bool.rec (motive:=fun _=>Prop) False p b
def wV{α:Type}(o:Option α)(k:α→Prop):Prop:=Option.rec (motive:=fun _=>Prop) False k o
theorem dV{a b:Nat}{p:Prop}(h:lM a b p):a=b∧p:=by
 unfold lM at h
 cases e:Nat.beq a b with
 | false=>rw [e]at h;exact h.elim
 | true=>rw [e]at h;exact⟨Nat.eq_of_beq_eq_true e,h⟩
theorem lG{a b:Nat}{p:Prop}(h:y9 a b p):a≤b∧p:=by
 unfold y9 at h
 cases e:Nat.ble a b with
 | false=>rw [e]at h;exact h.elim
 | true=>rw [e]at h;exact⟨Nat.le_of_ble_eq_true e,h⟩
theorem rM{b:Bool}{p:Prop}(h:yC b p):b=true∧p:=by cases b;exact h.elim;exact⟨rfl,h⟩
theorem nR{α:Type}{o:Option α}{k:α→Prop}(h:wV o k):∃ x,o=some x∧k x:=by cases o;exact h.elim;exact⟨_,rfl,h⟩
def tu(x:Blk)(t:HT)(n:Nat)(k:HT→Nat→Prop):Prop:=Ie x t n fun t=>bY (Nat.succ n) fun n=>k t n
theorem lJ{H:Heap}{t:HT}(h:dX H t){x:Blk}{k:HT→Nat→Prop}(hk:tu x t H.length k):∃ t',dX (H++[x]) t'∧k t' (H++[x]).length:=by
 obtain⟨t',h1,h2⟩:=UL hk
 rw [cu]at h2
 exact⟨t',h.push h1,by simpa using h2⟩
theorem gI{H:Heap}{t:HT}(h:dX H t){b:Nat}{x:Blk}{k:HT→Prop}(hk:kS x t b k):∃ t',dX (H.set b x) t'∧k t':=by
 obtain⟨t',h1,h2,h3⟩:=ZA hk
 exact⟨t',h.set h1 h2,h3⟩
def aK7(e:Eff)(t:HT)(n:Nat)(k:HT→Nat→Prop):Prop:=
 Eff.rec (motive:=fun _=>Prop) (k t n) (fun b x=>xA x fun x=>kS x t b fun t=>k t n) (fun x=>xA x fun x=>tu x t n k) e
theorem atZ{H:Heap}{t:HT}(h:dX H t){e:Eff}{k:HT→Nat→Prop}(hk:aK7 e t H.length k):∃ t',dX (e.app H) t'∧k t' (e.app H).length:=by
 cases e with
 | no=>exact⟨t,h,hk⟩
 | set b x=>
  have hk:xA x fun x=>kS x t b fun t=>k t H.length:=hk
  rw [Fb]at hk
  obtain⟨t',h1,h2⟩:=gI h hk
  exact⟨t',h1,by simpa [Eff.app]using h2⟩
 | push x=>
  have hk:xA x fun x=>tu x t H.length k:=hk
  rw [Fb]at hk
  exact lJ h hk
def aRr(op:AOp)(r:T)(t:HT)(n:Nat)(k:V→HT→Nat→Prop):Prop:=
 wV (WJ r t.get n op) fun r=>Prod.rec (motive:=fun _=>Prop) (fun v e=>ql v fun v=>aK7 e t n (k v)) r
def OpS(op:AOp)(r:T)(m:HT→Nat→(V→HT→Nat→Prop)→Prop):Prop:=
 ∀(H:Heap) (t:HT) (k:V→HT→Nat→Prop),dX H t→m t H.length k→∃ v H' t',xOp r H op=some (v,H')∧dX H' t'∧k v t' H'.length
theorem atL(op:AOp)(r:T):OpS op r (aRr op r):=by
 intro H t k h hk
 obtain⟨⟨v,e⟩,h1,h2⟩:=nR hk
 have h2:ql v fun v=>aK7 e t H.length (k v):=h2
 rw [xB]at h2
 obtain⟨t',h3,h4⟩:=atZ h h2
 refine⟨v,e.app H,t',?_,h3,h4⟩
 rw [h]at h1
 rw [←FZ,h1];rfl
def CW(v:V)(k:List C→Prop):Prop:=match v with
 | .c x=>k [x]
 | .a xs=>k xs
 | _=>False
theorem xK{v:V}{k:List C→Prop}(h:CW v k):∃ xs,v.cells?=some xs∧k xs:=by
 cases v with
 | c x=>exact⟨_,rfl,h⟩
 | a xs=>exact⟨_,rfl,h⟩
 | _=>exact h.elim
def Qs(n:Option Nat)(off:Nat)(cs:List C)(k:V→Prop):Prop:=
 Option.rec (motive:=fun _=>Prop) (asQ off cs fun c=>k (.c c)) (fun m=>CJ off cs fun cs=>qy m cs fun cs=>k (.a cs)) n
theorem AZ{n:Option Nat}{off:Nat}{cs:List C}{k:V→Prop}(h:Qs n off cs k):∃ v,iK n (cs.drop off)=some v∧k v:=by
 cases n with
 | none=>
  obtain⟨c,h1,h2⟩:=zn h
  refine⟨.c c,?_,h2⟩
  rw [←Nat.add_zero off,←List.getElem?_drop]at h1
  cases e:cs.drop off with
  | nil=>rw [e]at h1;simp at h1
  | cons y ys=>rw [e]at h1;simp at h1;subst h1;rfl
 | some m=>
  have h:CJ off cs fun cs=>qy m cs fun cs=>k (.a cs):=h
  rw [rJ]at h
  obtain⟨h1,h2⟩:=jI h
  exact⟨_,if_pos h1,h2⟩
def Xx(n:Option Nat)(off:Nat)(cs:List FC)(k:V→Prop):Prop:=
 Option.rec (motive:=fun _=>Prop) (asQ off cs fun c=>k (.c (.f c))) (fun m=>CJ off cs fun cs=>qy m cs fun cs=>fzK cs fun cs=>k (.a cs)) n
theorem TG{n:Option Nat}{off:Nat}{cs:List FC}{k:V→Prop}(h:Xx n off cs k):∃ v,iK n ((cs.drop off).map .f)=some v∧k v:=by
 cases n with
 | none=>
  obtain⟨c,h1,h2⟩:=zn h
  refine⟨.c (.f c),?_,h2⟩
  rw [←Nat.add_zero off,←List.getElem?_drop]at h1
  cases e:cs.drop off with
  | nil=>rw [e]at h1;simp at h1
  | cons y ys=>rw [e]at h1;simp at h1;subst h1;rfl
 | some m=>
  have h:CJ off cs fun cs=>qy m cs fun cs=>fzK cs fun cs=>k (.a cs):=h
  rw [rJ]at h
  obtain⟨h1,h2⟩:=jI h
  rw [xw]at h2
  refine⟨_,if_pos (by simpa using h1),?_⟩
  rw [←List.map_take];exact h2
def ldK(t:HT)(n:Option Nat)(x:V)(k:V→Prop):Prop:=match x with
 | .c (.ptr b off ep)=>kT b t fun blk=>match blk with
  | .box cs _=>Qs n off cs k
  | .opn _ cs _ e .loc=>lM ep e (Qs n off cs k)
  | _=>False
 | .c (.f (.fp cs off))=>Xx n off cs k
 | _=>False
theorem YI{H:Heap}{t:HT}(h:dX H t){n:Option Nat}{x:V}{k:V→Prop}(hk:ldK t n x k):∃ v,ldV H n x=some v∧k v:=by
 unfold ldK at hk
 split at hk
 ·rename_i b off ep
  obtain⟨blk,h1,h2⟩:=fF hk
  rw [h]at h1
  have h1:H[b]?=some blk:=h1
  split at h2
  ·obtain⟨v,h3,h4⟩:=AZ h2
   exact⟨v,by simp [ldV,gu,h1,h3],h4⟩
  ·obtain⟨h5,h2⟩:=dV h2
   obtain⟨v,h3,h4⟩:=AZ h2
   exact⟨v,by simp [ldV,gu,h1,h3,h5],h4⟩
  ·exact h2.elim
 ·obtain⟨v,h3,h4⟩:=TG hk
  exact⟨v,by simp only [ldV,gu,Option.bind_some,h3],h4⟩
 ·exact hk.elim
def stK(t:HT)(x:C)(xs:List C)(k:HT→Prop):Prop:=match x with
 | .ptr b off ep=>kT b t fun blk=>match blk with
  | .box cs fl=>y9 fl off (Bq xs off cs fun cs=>kS (.box cs fl) t b k)
  | .opn sz cs fl e .loc=>lM ep e (y9 fl off (Bq xs off cs fun cs=>kS (.opn sz cs fl e .loc) t b k))
  | _=>False
 | _=>False
theorem aGL{H:Heap}{t:HT}(h:dX H t){x:C}{xs:List C}{k:HT→Prop}(hk:stK t x xs k):∃ H' t',stC H x xs=some H'∧dX H' t'∧H'.length=H.length∧k t':=by
 unfold stK at hk
 split at hk
 ·rename_i b off ep
  obtain⟨blk,h1,h2⟩:=fF hk
  rw [h]at h1
  have h1:H[b]?=some blk:=h1
  split at h2
  ·obtain⟨h3,h2⟩:=lG h2
   obtain⟨h4,h2⟩:=oK h2
   obtain⟨t',h5,h6⟩:=gI h h2
   exact⟨_,t',by simp [stC,h1,h3,h4],h5,by simp,h6⟩
  ·obtain⟨h0,h2⟩:=dV h2
   obtain⟨h3,h2⟩:=lG h2
   obtain⟨h4,h2⟩:=oK h2
   obtain⟨t',h5,h6⟩:=gI h h2
   exact⟨_,t',by simp [stC,h1,h0,h3,h4],h5,by simp,h6⟩
  ·exact h2.elim
 ·exact hk.elim
def qF(op:BinOp)(j:IntKind)(x y:Int)(k:V→Prop):Prop:=match op with
 | .add=>ED j (Int.add x y) fun n=>k (.c (.f (.int j n)))
 | .sub=>ED j (Int.sub x y) fun n=>k (.c (.f (.int j n)))
 | .mul=>ED j (Int.mul x y) fun n=>k (.c (.f (.int j n)))
 | .eql=>rE (eqB x y) fun b=>k (.c (.f (.bool b)))
 | .neq=>rE (!eqB x y) fun b=>k (.c (.f (.bool b)))
 | .lss=>rE (ltB x y) fun b=>k (.c (.f (.bool b)))
 | .leq=>rE (!ltB y x) fun b=>k (.c (.f (.bool b)))
 | .gtr=>rE (ltB y x) fun b=>k (.c (.f (.bool b)))
 | .geq=>rE (!ltB x y) fun b=>k (.c (.f (.bool b)))
 | op=>wV (qI op j x y) fun v=>ql v k
theorem BA(x y:Int):(!decide (x<y))=decide (y≤x):=by
 rw [Bool.eq_iff_iff];simp
theorem ZF{op:BinOp}{j:IntKind}{x y:Int}{k:V→Prop}(h:qF op j x y k):∃ v,qI op j x y=some v∧k v:=by
 cases op
 case add=>simp only [qF,uP]at h;exact⟨_,rfl,h⟩
 case sub=>simp only [qF,uP]at h;exact⟨_,rfl,h⟩
 case mul=>simp only [qF,uP]at h;exact⟨_,rfl,h⟩
 case eql=>simp only [qF,kZ,Zf]at h;exact⟨_,rfl,h⟩
 case neq=>simp only [qF,kZ,Zf]at h;exact⟨_,rfl,h⟩
 case lss=>simp only [qF,kZ,GY]at h;exact⟨_,rfl,h⟩
 case leq=>simp only [qF,kZ,GY,BA]at h;exact⟨_,rfl,h⟩
 case gtr=>simp only [qF,kZ,GY]at h;exact⟨_,rfl,h⟩
 case geq=>simp only [qF,kZ,GY,BA]at h;exact⟨_,rfl,h⟩
 all_goals
  simp only [qF]at h
  obtain⟨v,h1,h2⟩:=nR h
  rw [xB]at h2
  exact⟨v,h1,h2⟩
def YM(j j':IntKind)(p:Prop):Prop:=match j,j' with
 | .i64,.i64=>p
 | j,j'=>yC (decide (j=j')) p
theorem YL{j j':IntKind}{p:Prop}(h:YM j j' p):j=j'∧p:=by
 unfold YM at h
 split at h
 ·exact⟨rfl,h⟩
 ·obtain⟨h1,h2⟩:=rM h
  exact⟨of_decide_eq_true h1,h2⟩
def aLx(op:BinOp)(x y:V)(k:V→Prop):Prop:=match x,y with
 | .c (.f (.int j a)),.c (.f (.int j' b))=>match op with
  | .shl=>wV (dN .shl x y) fun v=>ql v k
  | .shr=>wV (dN .shr x y) fun v=>ql v k
  | op=>YM j j' (qF op j a b k)
 | x,y=>wV (dN op x y) fun v=>ql v k
theorem aum{op:BinOp}{x y:V}{k:V→Prop}(h:aLx op x y k):∃ v,dN op x y=some v∧k v:=by
 have gen:(wV (dN op x y) fun v=>ql v k)→∃ v,dN op x y=some v∧k v:=by
  intro h
  obtain⟨v,h1,h2⟩:=nR h
  rw [xB]at h2
  exact⟨v,h1,h2⟩
 unfold aLx at h
 split at h
 ·rename_i j a j' b
  split at h
  ·exact gen h
  ·exact gen h
  ·rename_i h1 h2
   obtain⟨e,h'⟩:=YL h
   subst e
   obtain⟨v,h3,h4⟩:=ZF h'
   refine⟨v,?_,h4⟩
   cases op<;>first | exact absurd rfl h1 | exact absurd rfl h2 | (simp only [dN,if_true];exact h3)
 ·exact gen h
def aKf(v:V)(k:Nat→Prop):Prop:=match v with
 | .c (.f (.int _ (.ofNat m)))=>k m
 | _=>False
theorem asV{v:V}{k:Nat→Prop}(h:aKf v k):∃ m,jG v=some (Int.ofNat m)∧k m:=by
 unfold aKf at h
 split at h
 ·exact⟨_,rfl,h⟩
 ·exact h.elim
def YO(t:HT)(sz:Nat)(arr:Option Nat)(x i:V)(k:V→Prop):Prop:=aKf i fun m=>match arr with
 | none=>match x with
  | .c (.sl b o l _ ep s)=>y9 (Nat.succ m) l (kT b t fun blk=>match blk with
   | .box _ _=>bY (Nat.add o (Nat.mul m sz)) fun o=>k (.c (.ptr b o ep))
   | .opn s' _ _ e .loc=>lM ep e (lM s s' (bY (Nat.add o (Nat.mul m sz)) fun o=>k (.c (.ptr b o ep))))
   | _=>False)
  | .c (.f (.fs cs l))=>y9 (Nat.succ m) l (bY (Nat.mul m sz) fun o=>k (.c (.f (.fp cs o))))
  | _=>False
 | some n=>match x with
  | .c (.ptr b o ep)=>y9 (Nat.succ m) n (bY (Nat.add o (Nat.mul m sz)) fun o=>k (.c (.ptr b o ep)))
  | .c (.f (.fp cs o))=>y9 (Nat.succ m) n (bY (Nat.add o (Nat.mul m sz)) fun o=>k (.c (.f (.fp cs o))))
  | _=>False
theorem Um{H:Heap}{t:HT}(h:dX H t){sz:Nat}{arr:Option Nat}{x i:V}{k:V→Prop}(hk:YO t sz arr x i k):∃ v,bC H sz arr x i=some v∧k v:=by
 obtain⟨m,hi,hk⟩:=asV hk
 have h0:(0:Int)≤Int.ofNat m:=Int.natCast_nonneg m
 have hlt:∀ l:Nat,Nat.succ m≤l→Int.ofNat m<(l:Int):=fun l hl=>Int.ofNat_lt.2 hl
 have hto:(Int.ofNat m).toNat=m:=rfl
 simp only at hk
 split at hk
 ·split at hk
  ·rename_i b o l cap ep s _
   obtain⟨h1,hk⟩:=lG hk
   obtain⟨blk,h2,h3⟩:=fF hk
   rw [h]at h2
   have h2:H[b]?=some blk:=h2
   split at h3
   ·rw [cu]at h3
    exact⟨_,by simp only [bC,hi,if_pos h0,if_pos (hlt _ h1),h2,hto];rfl,h3⟩
   ·obtain⟨h4,h3⟩:=dV h3
    obtain⟨h5,h3⟩:=dV h3
    rw [cu]at h3
    exact⟨_,by simp only [bC,hi,if_pos h0,if_pos (hlt _ h1),h2,hto,h4,h5,and_self,if_true];rfl,h4▸h3⟩
   ·exact h3.elim
  ·obtain⟨h1,hk⟩:=lG hk
   rw [cu]at hk
   exact⟨_,by simp only [bC,hi,if_pos h0,if_pos (hlt _ h1),hto];rfl,hk⟩
  ·exact hk.elim
 ·split at hk
  ·obtain⟨h1,hk⟩:=lG hk
   rw [cu]at hk
   exact⟨_,by simp only [bC,hi,if_pos h0,if_pos (hlt _ h1),hto];rfl,hk⟩
  ·obtain⟨h1,hk⟩:=lG hk
   rw [cu]at hk
   exact⟨_,by simp only [bC,hi,if_pos h0,if_pos (hlt _ h1),hto];rfl,hk⟩
  ·exact hk.elim
def aKp(t:HT)(x:V)(k:Nat→Prop):Prop:=match x with
 | .c (.sl b _ l _ ep sz)=>kT b t fun blk=>match blk with
  | .box _ _=>k l
  | .opn s _ _ e _=>lM ep e (lM sz s (k l))
  | _=>False
 | .c (.f .ay)=>k 0
 | .c (.f .es)=>k 0
 | .c (.f (.fs _ l))=>k l
 | _=>False
theorem as7{H:Heap}{t:HT}(h:dX H t){x:V}{k:Nat→Prop}(hk:aKp t x k):∃ y n,x=.c y∧cO H y=some n∧k n:=by
 unfold aKp at hk
 split at hk
 ·rename_i b o l cap ep sz
  obtain⟨blk,h2,h3⟩:=fF hk
  rw [h]at h2
  have h2:H[b]?=some blk:=h2
  split at h3
  ·exact⟨_,l,rfl,by simp [cO,h2],h3⟩
  ·obtain⟨h4,h3⟩:=dV h3
   obtain⟨h5,h3⟩:=dV h3
   exact⟨_,l,rfl,by simp [cO,h2,h4,h5],h3⟩
  ·exact h3.elim
 ·exact⟨_,0,rfl,rfl,hk⟩
 ·exact⟨_,0,rfl,rfl,hk⟩
 ·exact⟨_,_,rfl,rfl,hk⟩
 ·exact hk.elim
def Nq(r:T)(ps:List (Nat × Nat × Arg)):List C→(List C→Prop)→Prop:=
 List.rec (motive:=fun _=>List C→(List C→Prop)→Prop) (fun cs k=>k cs)
  (fun p _ ih cs k=>Prod.rec (motive:=fun _=>Prop) (fun off q=>Prod.rec (motive:=fun _=>Prop) (fun n x=>evK x r fun v=>CW v fun xs=>lM xs.length n (Bq xs off cs fun cs=>ih cs k)) q) p) ps
theorem EO(r:T):∀ {ps:List (Nat × Nat × Arg)} {cs:List C} {k:List C→Prop},Nq r ps cs k→∃ cs',iy r cs ps=some cs'∧k cs'
 | [],cs,k,h=>⟨cs,rfl,h⟩
 | (off,n,x)::ps,cs,k,h=>by
  have h:evK x r fun v=>CW v fun xs=>lM xs.length n (Bq xs off cs fun cs=>Nq r ps cs k):=h
  rw [fB]at h
  obtain⟨xs,h1,h⟩:=xK h
  obtain⟨h2,h⟩:=dV h
  obtain⟨h3,h⟩:=oK h
  obtain⟨cs',h4,h5⟩:=EO r h
  exact⟨cs',by simp [iy,h1,h2,h4]at h3 ⊢;omega,h5⟩
def OQ(t:HT)(sz:Nat)(y:V)(k:Nat→List C→Prop):Prop:=match y with
 | .c (.f .ay)=>k 0 []
 | .c (.f .es)=>k 0 []
 | .c (.f (.fs cs l))=>lM cs.length (Nat.mul l sz) (fzK cs fun cs=>k l cs)
 | .c (.sl b o l _ ep s)=>kT b t fun blk=>match blk with
  | .box cs _=>xJ o cs fun cs=>qy (Nat.mul l sz) cs fun cs=>k l cs
  | .opn s' cs _ e _=>lM ep e (lM s s' (lM s' sz (xJ o cs fun cs=>qy (Nat.mul l sz) cs fun cs=>k l cs)))
  | _=>False
 | y=>wV (wC t.get sz y) fun r=>Prod.rec (motive:=fun _=>Prop) (fun n cs=>rD cs fun cs=>k n cs) r
theorem UZ{H:Heap}{t:HT}(h:dX H t){sz:Nat}{y:V}{k:Nat→List C→Prop}(hk:OQ t sz y k) :
  ∃ n cs,fE H sz y=some (n,cs)∧k n cs:=by
 unfold OQ at hk
 split at hk
 ·exact⟨0,[],rfl,hk⟩
 ·exact⟨0,[],rfl,hk⟩
 ·rename_i cs l
  obtain⟨h1,hk⟩:=dV hk
  rw [xw]at hk
  have h1:cs.length=l*sz:=h1
  exact⟨l,_,by simp only [fE,cO,dP,h1,if_true],hk⟩
 ·rename_i b o l cap ep s
  obtain⟨blk,h2,h3⟩:=fF hk
  rw [h]at h2
  have h2:H[b]?=some blk:=h2
  split at h3
  ·obtain⟨h8,h3⟩:=mX h3
   obtain⟨h4,h5⟩:=jI h3
   have h4:l*sz≤_:=h4
   rw [List.length_drop]at h4
   refine⟨l,_,?_,h5⟩
   simp only [fE,cO,dP,h2]
   rw [if_pos (by omega)];rfl
  ·obtain⟨h4,h3⟩:=dV h3
   obtain⟨h5,h3⟩:=dV h3
   obtain⟨h6,h3⟩:=dV h3
   obtain⟨h8,h3⟩:=mX h3
   obtain⟨h9,h7⟩:=jI h3
   have h9:l*sz≤_:=h9
   rw [List.length_drop]at h9
   subst h4 h5 h6
   refine⟨l,_,?_,h7⟩
   simp only [fE,cO,dP,h2,and_self,if_true]
   rw [if_pos ⟨trivial,trivial,by omega⟩];rfl
  ·exact h3.elim
 ·obtain⟨⟨n,cs⟩,h1,h2⟩:=nR hk
  have h2:rD cs fun cs=>k n cs:=h2
  rw [oQ]at h2
  rw [h,uM]at h1
  exact⟨n,cs,h1,h2⟩
def IY(need bytes:Nat)(p:Prop):Prop:=y9 (Nat.mul (Nat.add (Nat.mul 2 need) 768) bytes) 281474976710656 (y9 (Nat.succ need) 281474976710656 p)
theorem uV{need bytes:Nat}{p:Prop}(h:IY need bytes p):bP need bytes=true∧p:=by
 obtain⟨h1,h⟩:=lG h
 obtain⟨h2,h⟩:=lG h
 refine⟨?_,h⟩
 have e:(2:Nat) ^ 48=281474976710656:=by decide
 simp only [bP,Bool.and_eq_true,decide_eq_true_eq,e]
 exact⟨h1,h2⟩
def aRQ(t:HT)(n:Nat)(sz bytes:Nat)(x y:V)(k:V→HT→Nat→Prop):Prop:=
 OQ t sz y fun m ys=>Nat.rec (motive:=fun _=>Prop) False (fun _ _=>match x with
  | .c (.f .ay)=>Nat.rec (motive:=fun _=>Prop) (k (.c (.f .ay)) t n) (fun _ _=>IY m bytes (bY m fun m=>tu (.opn sz ys 0 0 .loc) t n fun t n'=>k (.c (.sl n 0 m 0 0 sz)) t n')) m
  | .c (.f .es)=>Nat.rec (motive:=fun _=>Prop) (k (.c (.f .es)) t n) (fun _ _=>IY m bytes (bY m fun m=>tu (.opn sz ys 0 0 .loc) t n fun t n'=>k (.c (.sl n 0 m 0 0 sz)) t n')) m
  | .c (.sl b o l cap ep s)=>kT b t fun blk=>match blk with
   | .box cs fl=>Bool.rec (motive:=fun _=>Prop)
     (bY (Nat.add l m) fun lm=>IY lm bytes (xJ o cs fun cs=>qy (Nat.mul l sz) cs fun cs=>aLb cs ys fun cs=>tu (.opn sz cs 0 0 .loc) t n fun t n'=>k (.c (.sl n 0 lm 0 0 sz)) t n'))
     (bY (Nat.add l m) fun lm=>y9 fl (Nat.add o (Nat.mul l sz)) (Bq ys (Nat.add o (Nat.mul l sz)) cs fun cs=>kS (.box cs fl) t b fun t=>k (.c (.sl b o lm cap ep s)) t n))
     (Nat.ble (Nat.add l m) cap)
   | .opn s' cs fl e st=>lM ep e (lM s' sz (lM s sz (Nat.rec (motive:=fun _=>Prop) (k x t n) (fun _ _=>
     bY (Nat.add l m) fun lm=>Bool.rec (motive:=fun _=>Prop)
      (match st with
       | .loc=>y9 fl (Nat.add o (Nat.mul l sz)) (Bq ys (Nat.add o (Nat.mul l sz)) cs fun cs=>kS (.opn sz cs fl e .loc) t b fun t=>k (.c (.sl b o lm 0 ep sz)) t n)
       | _=>False)
      (IY lm bytes (bY (Nat.succ e) fun e'=>aLb cs ys fun cs=>kS (.opn sz cs fl e' .loc) t b fun t=>k (.c (.sl b 0 lm 0 e' sz)) t n))
      (and (and (Nat.beq o 0) (Nat.beq (Nat.mul l sz) cs.length)) (Nat.ble fl cs.length))) m)))
   | _=>False
  | _=>False) sz
theorem auq{H:Heap}{t:HT}(h:dX H t){sz bytes:Nat}{x y:V}{k:V→HT→Nat→Prop}(hk:aRQ t H.length sz bytes x y k) :
  ∃ v H' t',dh H sz bytes x y=some (v,H')∧dX H' t'∧k v t' H'.length:=by
 obtain⟨m,ys,ha,hk⟩:=UZ h hk
 unfold dh
 rw [ha]
 cases sz with
 | zero=>exact hk.elim
 | succ sz'=>
  simp only at hk ⊢
  rw [if_neg (by omega)]
  split at hk
  ·cases m with
   | zero=>exact⟨_,H,t,rfl,h,hk⟩
   | succ m'=>
    simp only at hk
    obtain⟨h1,hk⟩:=uV hk
    rw [cu]at hk
    obtain⟨t',h2,h3⟩:=lJ h hk
    exact⟨_,_,t',by simp only [Nat.add_one_ne_zero,if_false,h1,if_true],h2,h3⟩
  ·cases m with
   | zero=>exact⟨_,H,t,rfl,h,hk⟩
   | succ m'=>
    simp only at hk
    obtain⟨h1,hk⟩:=uV hk
    rw [cu]at hk
    obtain⟨t',h2,h3⟩:=lJ h hk
    exact⟨_,_,t',by simp only [Nat.add_one_ne_zero,if_false,h1,if_true],h2,h3⟩
  ·rename_i b o l cap ep s _
   obtain⟨blk,h2,hk⟩:=fF hk
   rw [h]at h2
   have h2:H[b]?=some blk:=h2
   simp only [h2]
   split at hk
   ·rename_i cs fl _
    simp only
    cases hc:Nat.ble (Nat.add l m) cap with
    | false=>
     rw [hc]at hk
     have hc':¬ (l+m≤cap):=fun e=>by have:=Nat.ble_eq_true_of_le e;rw [show Nat.ble (Nat.add l m) cap=Nat.ble (l+m) cap from rfl,this]at hc;cases hc
     simp only [cu]at hk
     obtain⟨h3,hk⟩:=uV hk
     obtain⟨h4,hk⟩:=mX hk
     obtain⟨h5,hk⟩:=jI hk
     rw [Ia]at hk
     obtain⟨t',h6,h7⟩:=lJ h hk
     rw [List.length_drop]at h5
     have h5:l*(sz'+1)≤_:=h5
     rw [if_neg hc',if_pos ⟨h3,by omega⟩]
     exact⟨_,_,t',rfl,h6,h7⟩
    | true=>
     rw [hc]at hk
     have hc':l+m≤cap:=Nat.le_of_ble_eq_true hc
     simp only [cu]at hk
     obtain⟨h3,hk⟩:=lG hk
     obtain⟨h4,hk⟩:=oK hk
     obtain⟨t',h6,h7⟩:=gI h hk
     rw [if_pos hc',if_pos ⟨h3,h4⟩]
     exact⟨_,_,t',rfl,h6,by simpa using h7⟩
   ·rename_i s' cs fl e st _
    simp only
    obtain⟨h3,hk⟩:=dV hk
    obtain⟨h4,hk⟩:=dV hk
    obtain⟨h5,hk⟩:=dV hk
    rw [if_pos ⟨h3,h4,h5⟩]
    cases m with
    | zero=>rw [if_pos rfl];exact⟨_,H,t,rfl,h,hk⟩
    | succ m'=>
     rw [if_neg (by omega)]
     simp only [cu]at hk
     cases hc:and (and (Nat.beq o 0) (Nat.beq (Nat.mul l (sz'+1)) cs.length)) (Nat.ble fl cs.length)with
     | true=>
      rw [hc]at hk
      simp only [Bool.and_eq_true]at hc
      have c1:=Nat.eq_of_beq_eq_true hc.1.1
      have c2:=Nat.eq_of_beq_eq_true hc.1.2
      have c3:=Nat.le_of_ble_eq_true hc.2
      simp only at hk
      obtain⟨h6,hk⟩:=uV hk
      rw [Ia]at hk
      obtain⟨t',h7,h8⟩:=gI h hk
      have h6:bP (l+(m'+1)) bytes=true:=h6
      rw [if_pos ⟨c1,c2,c3⟩,if_pos h6]
      subst h3
      exact⟨_,_,t',rfl,h7,by simpa using h8⟩
     | false=>
      rw [hc]at hk
      have hn:¬ (o=0∧l*(sz'+1)=cs.length∧fl≤cs.length):=by
       rintro⟨c1,c2,c3⟩
       rw [c1,show Nat.mul l (sz'+1)=cs.length from c2,Nat.ble_eq_true_of_le c3]at hc
       simp at hc
      rw [if_neg hn]
      simp only at hk
      split at hk
      ·obtain⟨h6,hk⟩:=lG hk
       obtain⟨h7,hk⟩:=oK hk
       obtain⟨t',h8,h9⟩:=gI h hk
       rw [if_pos ⟨rfl,h6,h7⟩]
       exact⟨_,_,t',rfl,h8,by simpa using h9⟩
      ·exact hk.elim
   ·exact hk.elim
  ·exact hk.elim
end Km
end
section
set_option linter.unusedVariables false
namespace Km
open Go
abbrev jE:=Callee→List V→HT→Nat→(V→HT→Nat→Prop)→Prop
def wH(call:dO)(bG:jE):Prop:=
 ∀(c:Callee) (args:List V) (H:Heap) (t:HT) (k:V→HT→Nat→Prop),dX H t→bG c args t H.length k→∃ v H' t',call c args H=some (v,H')∧dX H' t'∧k v t' H'.length
def Hu{α β:Type}(g:α→(β→Prop)→Prop)(xs:List α):(List β→Prop)→Prop:=
 List.rec (motive:=fun _=>(List β→Prop)→Prop) (fun k=>k []) (fun x _ ih k=>g x fun y=>ih fun ys=>k (y::ys)) xs
theorem mQ{α β:Type}{g:α→(β→Prop)→Prop}{f:α→Option β}(hg:∀ x k,g x k→∃ y,f x=some y∧k y):∀ {xs:List α} {k:List β→Prop},Hu g xs k→∃ ys,bD f xs=some ys∧k ys
 | [],k,h=>⟨[],rfl,h⟩
 | x::xs,k,h=>by
  obtain⟨y,h1,h⟩:=hg x _ h
  obtain⟨ys,h2,h3⟩:=mQ hg (xs:=xs) h
  exact⟨y::ys,by simp [bD,h1,h2],h3⟩
def exK(t:HT)(m:Nat):C→(FC→Prop)→Prop:=
 Nat.rec (motive:=fun _=>C→(FC→Prop)→Prop) (fun x k=>match x with
   | .f y=>k y
   | _=>False)
  (fun _ ih x k=>match x with
   | .f y=>k y
   | .ptr b off _=>kT b t fun blk=>match blk with
    | .box cs _=>Hu ih cs fun fs=>k (.fp fs off)
    | _=>False
   | .sl b o l _ ep sz=>kT b t fun blk=>match blk with
    | .box cs _=>xJ o cs fun cs=>qy (Nat.mul l sz) cs fun cs=>Hu ih cs fun fs=>k (.fs fs l)
    | .opn s cs _ e .loc=>lM ep e (lM sz s (xJ o cs fun cs=>qy (Nat.mul l sz) cs fun cs=>Hu ih cs fun fs=>k (.fs fs l)))
    | .opn s cs _ e .nil=>lM ep e (lM sz s (k .ay))
    | .opn s cs _ e .es=>lM ep e (lM sz s (k .es))
    | _=>False
   | .cl f caps=>Hu ih caps fun fs=>k (.fn f fs)
   | _=>False) m
theorem Zc{H:Heap}{t:HT}(h:dX H t):∀(m:Nat) (x:C) (k:FC→Prop),exK t m x k→∃ y,exC m H x=some y∧k y:=by
 intro m
 induction m with
 | zero=>
  intro x k hk
  cases x with
  | f y=>exact⟨y,rfl,hk⟩
  | _=>exact hk.elim
 | succ m ih=>
  intro x k hk
  cases x with
  | f y=>exact⟨y,rfl,hk⟩
  | ptr b off ep=>
   obtain⟨blk,h1,h2⟩:=fF hk
   rw [h]at h1
   have h1:H[b]?=some blk:=h1
   cases blk with
   | box cs fl=>
    obtain⟨fs,h3,h4⟩:=mQ ih h2
    exact⟨_,by simp only [exC,h1,h3];rfl,h4⟩
   | _=>exact h2.elim
  | sl b o l cap ep sz=>
   obtain⟨blk,h1,h2⟩:=fF hk
   rw [h]at h1
   have h1:H[b]?=some blk:=h1
   cases blk with
   | box cs fl=>
    obtain⟨h5,h2⟩:=mX h2
    obtain⟨h6,h2⟩:=jI h2
    obtain⟨fs,h3,h4⟩:=mQ ih h2
    rw [List.length_drop]at h6
    have h6:l*sz≤_:=h6
    have h3:bD (exC m H) ((cs.drop o).take (l*sz))=some fs:=h3
    exact⟨_,by simp only [exC,h1];rw [if_pos (by omega),h3];rfl,h4⟩
   | opn s cs fl e st=>
    cases st with
    | loc=>
     obtain⟨h7,h2⟩:=dV h2
     obtain⟨h8,h2⟩:=dV h2
     obtain⟨h5,h2⟩:=mX h2
     obtain⟨h6,h2⟩:=jI h2
     obtain⟨fs,h3,h4⟩:=mQ ih h2
     rw [List.length_drop]at h6
     have h6:l*sz≤_:=h6
     have h3:bD (exC m H) ((cs.drop o).take (l*sz))=some fs:=h3
     exact⟨_,by simp only [exC,h1];rw [if_pos ⟨h7,h8,by omega⟩,h3];rfl,h4⟩
    | nil=>
     obtain⟨h7,h2⟩:=dV h2
     obtain⟨h8,h2⟩:=dV h2
     exact⟨_,by simp only [exC,h1];rw [if_pos ⟨h7,h8⟩],h2⟩
    | es=>
     obtain⟨h7,h2⟩:=dV h2
     obtain⟨h8,h2⟩:=dV h2
     exact⟨_,by simp only [exC,h1];rw [if_pos ⟨h7,h8⟩],h2⟩
   | _=>exact h2.elim
  | cl f caps=>
   obtain⟨fs,h3,h4⟩:=mQ ih hk
   exact⟨_,by simp only [exC,h3];rfl,h4⟩
  | _=>exact hk.elim
def Rh(t:HT)(v:V)(k:V→Prop):Prop:=match v with
 | .c x=>exK t deep x fun y=>k (.c (.f y))
 | .a xs=>Hu (exK t deep) xs fun ys=>fzK ys fun cs=>k (.a cs)
 | _=>False
theorem vY{H:Heap}{t:HT}(h:dX H t)(v:V)(k:V→Prop)(hk:Rh t v k):∃ y,fU deep H v=some y∧k y:=by
 cases v with
 | c x=>
  obtain⟨y,h1,h2⟩:=Zc h deep x _ hk
  exact⟨_,by simp only [fU,h1];rfl,h2⟩
 | a xs=>
  obtain⟨ys,h1,h2⟩:=mQ (Zc h deep) hk
  rw [xw]at h2
  exact⟨_,by simp only [fU,h1];rfl,h2⟩
 | _=>exact hk.elim
def aRu(t:HT)(v:V)(k:V→Prop):Prop:=match v with
 | .t vs=>Hu (Rh t) vs fun vs=>k (.t vs)
 | v=>Rh t v k
theorem atO{H:Heap}{t:HT}(h:dX H t)(v:V)(k:V→Prop)(hk:aRu t v k):∃ y,exV deep H v=some y∧k y:=by
 cases v with
 | t vs=>
  obtain⟨ys,h1,h2⟩:=mQ (vY h) hk
  exact⟨_,by simp only [exV,h1];rfl,h2⟩
 | c x=>exact vY h (.c x) k hk
 | a xs=>exact vY h (.a xs) k hk
 | top=>exact hk.elim
def NK{α:Type}(g:α→HT→(HT→Prop)→Prop)(xs:List α):HT→(HT→Prop)→Prop:=
 List.rec (motive:=fun _=>HT→(HT→Prop)→Prop) (fun t k=>k t) (fun x _ ih t k=>g x t fun t=>ih t k) xs
def MkS{α:Type}(g:α→HT→(HT→Prop)→Prop)(f:Heap→α→Heap):Prop:=∀(x:α) (H:Heap) (t:HT) (k:HT→Prop),dX H t→g x t k→∃ t',dX (f H x) t'∧k t'
theorem qc{α:Type}{g:α→HT→(HT→Prop)→Prop}{f:Heap→α→Heap}(hg:MkS g f):∀(xs:List α) (H:Heap) (t:HT) (k:HT→Prop),dX H t→NK g xs t k→∃ t',dX (xs.foldl f H) t'∧k t'
 | [],H,t,k,h,hk=>⟨t,h,hk⟩
 | x::xs,H,t,k,h,hk=>by
  obtain⟨t1,h1,h2⟩:=hg x H t _ h hk
  exact qc hg xs _ t1 k h1 h2
def mkK(m:Nat):C→HT→(HT→Prop)→Prop:=
 Nat.rec (motive:=fun _=>C→HT→(HT→Prop)→Prop) (fun _ t k=>k t)
  (fun _ ih x t k=>match x with
   | .f _=>k t
   | .ptr b _ _=>kT b t fun blk=>match blk with
    | .box cs fl=>bY (Nat.max fl cs.length) fun fl=>kS (.box cs fl) t b fun t=>NK ih cs t k
    | _=>k t
   | .sl b o l _ _ sz=>kT b t fun blk=>match blk with
    | .box cs fl=>bY (Nat.max fl (Nat.add o (Nat.mul l sz))) fun fl=>kS (.box cs fl) t b fun t=>CJ o cs fun cs=>qy (Nat.mul l sz) cs fun cs=>NK ih cs t k
    | .opn s cs fl e st=>bY (Nat.max fl (Nat.add o (Nat.mul l sz))) fun fl=>kS (.opn s cs fl e st) t b fun t=>CJ o cs fun cs=>qy (Nat.mul l sz) cs fun cs=>NK ih cs t k
    | _=>k t
   | .cl _ caps=>NK ih caps t k
   | _=>k t) m
theorem Yu:∀(m:Nat),MkS (mkK m) (fun H x=>mkC m x H):=by
 intro m
 induction m with
 | zero=>intro x H t k h hk;exact⟨t,by cases x<;>exact h,hk⟩
 | succ m ih=>
  intro x H t k h hk
  cases x with
  | f y=>exact⟨t,h,hk⟩
  | ptr b off ep=>
   obtain⟨blk,h1,h2⟩:=fF hk
   rw [h]at h1
   have h1:H[b]?=some blk:=h1
   cases blk with
   | box cs fl=>
    change bY _ _ at h2
    rw [cu]at h2
    obtain⟨t1,h3,h4⟩:=gI h h2
    simp only [mkC,h1]
    exact qc ih cs _ t1 k h3 h4
   | _=>simp only [mkC,h1];exact⟨t,h,h2⟩
  | sl b o l cap ep sz=>
   obtain⟨blk,h1,h2⟩:=fF hk
   rw [h]at h1
   have h1:H[b]?=some blk:=h1
   cases blk with
   | box cs fl=>
    change bY _ _ at h2
    rw [cu]at h2
    obtain⟨t1,h3,h4⟩:=gI h h2
    rw [rJ]at h4
    obtain⟨_,h4⟩:=jI h4
    simp only [mkC,h1]
    exact qc ih _ _ t1 k h3 h4
   | opn s cs fl e st=>
    change bY _ _ at h2
    rw [cu]at h2
    obtain⟨t1,h3,h4⟩:=gI h h2
    rw [rJ]at h4
    obtain⟨_,h4⟩:=jI h4
    simp only [mkC,h1]
    exact qc ih _ _ t1 k h3 h4
   | _=>simp only [mkC,h1];exact⟨t,h,h2⟩
  | cl f caps=>
   simp only [mkC]
   exact qc ih _ _ t k h hk
  | _=>exact⟨t,h,hk⟩
def aQu(v:V)(t:HT)(k:HT→Prop):Prop:=match v with
 | .c x=>mkK deep x t k
 | .a xs=>NK (mkK deep) xs t k
 | _=>k t
theorem asW:MkS aQu (mkV deep):=by
 intro v H t k h hk
 cases v with
 | c x=>exact Yu deep x H t k h hk
 | a xs=>exact qc (Yu deep) xs H t k h hk
 | _=>exact⟨t,h,hk⟩
def aFI(call:jE)(f:Nat)(vs:List V)(t:HT)(n:Nat)(k:V→HT→Nat→Prop):Prop:=
 Hu (Rh t) vs fun fs=>call (.fn f) fs .e 0 fun rv t' _=>aRu t' rv fun rv=>NK aQu vs t fun t=>k rv t n
theorem Xv{call:dO}{bG:jE}(hc:wH call bG){f:Nat}{vs:List V}{H:Heap}{t:HT}{k:V→HT→Nat→Prop}(h:dX H t)(hk:aFI bG f vs t H.length k) :
  ∃ v H' t',iw call f vs H=some (v,H')∧dX H' t'∧k v t' H'.length:=by
 obtain⟨fs,h1,hk⟩:=mQ (vY h) hk
 obtain⟨rv,H1,t1,h2,h3,hk⟩:=hc (.fn f) fs [] .e _ dX.nil hk
 obtain⟨rv',h4,hk⟩:=atO h3 rv _ hk
 obtain⟨t',h5,hk⟩:=qc asW vs H t _ h hk
 refine⟨rv',_,t',by simp only [iw,h1,h2,h4],h5,?_⟩
 rw [←(sD deep vs H).1];exact hk
abbrev Arm:=jE→T→List fV→HT→Nat→(V→List fV→HT→Nat→Prop)→Prop
def jV(op:AOp):Arm:=fun _ r d t n k=>aRr op r t n fun v t n=>k v d t n
def aLC(x:Arg):Arm:=fun _ r d t n k=>evK x r fun v=>k v d t n
def ZP(c a b:Arg):Arm:=fun _ r d t n k=>evK c r fun v=>match v with
 | .c (.f (.bool v))=>Bool.rec (motive:=fun _=>Prop) (evK b r fun v=>k v d t n) (evK a r fun v=>k v d t n) v
 | _=>False
def OY(zs:List FC):Arm:=fun _ r d t n k=>fzK zs fun cs=>tu (.box cs 0) t n fun t n'=>k (.c (.ptr n 0 0)) d t n'
def aLF(x:Arg):Arm:=fun _ r d t n k=>evK x r fun v=>CW v fun xs=>tu (.box xs 0) t n fun t n'=>k (.c (.ptr n 0 0)) d t n'
def OX(zs:List FC)(ps:List (Nat × Nat × Arg)):Arm:=fun _ r d t n k=>fzK zs fun cs=>Nq r ps cs fun cs=>k (.a cs) d t n
def ZQ(m:Option Nat)(x:Arg):Arm:=fun _ r d t n k=>evK x r fun v=>ldK t m v fun v=>k v d t n
def OT(m:Nat)(x y:Arg):Arm:=fun _ r d t n k=>evK x r fun v=>evK y r fun y=>CW y fun xs=>lM xs.length m (match v with
 | .c p=>stK t p xs fun t=>k .top d t n
 | _=>False)
def Ih(x:Arg):Arm:=fun _ r d t n k=>evK x r fun v=>match v with
 | .c (.ptr b o e)=>k (.c (.ptr b o e)) d t n
 | .c (.f (.fp cs o))=>k (.c (.f (.fp cs o))) d t n
 | _=>False
def aLG(op:BinOp)(x y:Arg):Arm:=fun _ r d t n k=>evK x r fun x=>evK y r fun y=>aLx op x y fun v=>k v d t n
def aLE(j:IntKind)(x:Arg):Arm:=fun _ r d t n k=>evK x r fun v=>match v with
 | .c (.f (.int _ m))=>ED j m fun m=>k (.c (.f (.int j m))) d t n
 | _=>False
def Ij(off:Nat)(x:Arg):Arm:=fun _ r d t n k=>evK x r fun v=>match v with
 | .c (.ptr b o e)=>bY (Nat.add o off) fun o=>k (.c (.ptr b o e)) d t n
 | .c (.f (.fp cs o))=>bY (Nat.add o off) fun o=>k (.c (.f (.fp cs o))) d t n
 | _=>False
def OU(off:Nat)(m:Option Nat)(x:Arg):Arm:=fun _ r d t n k=>evK x r fun v=>match v with
 | .a xs=>Qs m off xs fun v=>k v d t n
 | _=>False
def Ii(sz:Nat)(arr:Option Nat)(x i:Arg):Arm:=fun _ r d t n k=>evK x r fun x=>evK i r fun i=>YO t sz arr x i fun v=>k v d t n
def Dh(x:Arg)(i:Nat):Arm:=fun _ r d t n k=>evK x r fun v=>match v with
 | .t vs=>asQ i vs fun v=>k v d t n
 | _=>False
def ZR(f:Nat)(args:List Arg)(h:Bool):Arm:=fun call r d t n k=>Kt args r fun vs=>
 Bool.rec (motive:=fun _=>Prop) (aFI call f vs t n fun v t n=>k v d t n) (call (.fn f) vs t n fun v t n=>k v d t n) h
def OW(x:Arg)(args:List Arg)(_:Bool):Arm:=fun call r d t n k=>evK x r fun x=>Kt args r fun vs=>
 wV (dB x vs) fun ca=>Prod.rec (motive:=fun _=>Prop) (fun c vs=>call c vs t n fun v t n=>k v d t n) ca
def aFX(m:Nat):Arm:=fun _ r d t n k=>k (.c (.f (.int .i64 (.ofNat m)))) d t n
def aLD(x:Arg):Arm:=fun _ r d t n k=>evK x r fun v=>aKp t v fun m=>k (.c (.f (.int .i64 (.ofNat m)))) d t n
def Ik(sz bytes:Nat)(x y:Arg):Arm:=fun _ r d t n k=>evK x r fun x=>evK y r fun y=>aRQ t n sz bytes x y fun v t n=>k v d t n
def KA:Arm:=fun _ r d t n k=>k (.c (.f .qU)) d t n
def OV(x:Arg)(args:List Arg):Arm:=fun _ r d t n k=>evK x r fun x=>Kt args r fun vs=>
 wV (dB x vs) fun ca=>Prod.rec (motive:=fun _=>Prop) (fun c vs=>Callee.rec (motive:=fun _=>Prop) (fun f=>k .top (.fn f vs::d) t n) (fun _=>False) c) ca
def aQc(op:AOp):Arm:=
 AOp.rec (motive:=fun _=>Arm)
  aLC (fun o s=>jV (.pre o s)) ZP OY aLF OX (fun a b c e=>jV (.aU a b c e)) ZQ OT Ih aLG
  (fun a b c e=>jV (.eq a b c e)) (fun a b=>jV (.un a b)) aLE (fun a=>jV (.HY a)) (fun a=>jV (.H7 a)) (fun a=>jV (.Oz a)) (fun a b=>jV (.iP a b)) (jV .oM)
  (fun a b c e=>jV (.lookup a b c e)) (fun a b c e=>jV (.nS a b c e)) (fun a b c e f=>jV (.eu a b c e f)) (fun a b c e f=>jV (.slice a b c e f)) (fun a b c e f g=>jV (.tq a b c e f g)) (fun a b c=>jV (.uS a b c))
  Ij OU Ii (fun a b=>jV (.idxs a b)) (fun a b c e f=>jV (.G9 a b c e f)) (fun a=>jV (.range a)) (fun a=>jV (.next a)) Dh ZR OW aLD aFX (fun a=>jV (.lens a)) (fun a=>jV (.cap a))
  Ik (fun a b c=>jV (.copy a b c)) (fun a b=>jV (.iT a b)) (fun a b c e f=>jV (.uK a b c e f)) (fun a b c=>jV (.clear a b c)) (fun a=>jV (.og a)) (fun a=>jV (.tC a)) (fun a=>jV (.entry a)) (fun a b=>jV (.vF a b)) KA OV (jV .bad) op
theorem asP{call:dO}{bG:jE}(hc:wH call bG)(op:AOp){r:T}{d:List fV}{H:Heap}{t:HT}{k:V→List fV→HT→Nat→Prop}(h:dX H t)(hk:aQc op bG r d t H.length k) :
  ∃ v d' H' t',iO call ⟨r,d,H⟩ op=some (v,⟨r,d',H'⟩)∧dX H' t'∧k v d' t' H'.length:=by
 have go:∀ {v H' t'},iO call ⟨r,d,H⟩ op=(xOp r H op).map (fun r'=>(r'.1,⟨r,d,r'.2⟩))→xOp r H op=some (v,H')→dX H' t'→k v d t' H'.length →
   ∃ v d' H' t',iO call ⟨r,d,H⟩ op=some (v,⟨r,d',H'⟩)∧dX H' t'∧k v d' t' H'.length:=
  fun h1 h2 h3 h4=>⟨_,d,_,_,by rw [h1,h2];rfl,h3,h4⟩
 have gen:iO call ⟨r,d,H⟩ op=(xOp r H op).map (fun r'=>(r'.1,⟨r,d,r'.2⟩))→jV op bG r d t H.length k →
   ∃ v d' H' t',iO call ⟨r,d,H⟩ op=some (v,⟨r,d',H'⟩)∧dX H' t'∧k v d' t' H'.length:=fun h1 h2=>by
  obtain⟨v,H',t',h3,h4,h5⟩:=atL op r H t _ h h2
  exact go h1 h3 h4 h5
 cases op
 case mov x=>
  have hk:aLC x bG r d t H.length k:=hk
  unfold aLC at hk;rw [fB]at hk
  exact go rfl rfl h hk
 case pick c a b=>
  have hk:ZP c a b bG r d t H.length k:=hk
  unfold ZP at hk;rw [fB]at hk
  split at hk
  ·rename_i v hv
   cases v with
   | true=>
    simp only [fB]at hk
    exact go rfl (by simp only [xOp,hv];rfl) h hk
   | false=>
    simp only [fB]at hk
    exact go rfl (by simp only [xOp,hv];rfl) h hk
  ·exact hk.elim
 case alloc zs=>
  have hk:OY zs bG r d t H.length k:=hk
  unfold OY at hk;rw [xw]at hk
  obtain⟨t',h1,h2⟩:=lJ h hk
  exact go rfl rfl h1 h2
 case box x=>
  have hk:aLF x bG r d t H.length k:=hk
  unfold aLF at hk;rw [fB]at hk
  obtain⟨xs,h3,hk⟩:=xK hk
  obtain⟨t',h1,h2⟩:=lJ h hk
  exact go rfl (by simp only [xOp,h3]) h1 h2
 case build zs ps=>
  have hk:OX zs ps bG r d t H.length k:=hk
  unfold OX at hk;rw [xw]at hk
  obtain⟨cs,h3,hk⟩:=EO r hk
  exact go rfl (by simp only [xOp,h3];rfl) h hk
 case load m x=>
  have hk:ZQ m x bG r d t H.length k:=hk
  unfold ZQ at hk;rw [fB]at hk
  obtain⟨v,h3,hk⟩:=YI h hk
  exact go rfl (by simp only [xOp,h3];rfl) h hk
 case store m x y=>
  have hk:OT m x y bG r d t H.length k:=hk
  unfold OT at hk;rw [fB,fB]at hk
  obtain⟨xs,h3,hk⟩:=xK hk
  obtain⟨h4,hk⟩:=dV hk
  split at hk
  ·rename_i p hp
   obtain⟨H',t',h5,h6,h7,hk⟩:=aGL h hk
   exact go rfl (by simp only [xOp,hp,h3,h4,if_true,h5];rfl) h6 (by rw [h7];exact hk)
  ·exact hk.elim
 case bF x=>
  have hk:Ih x bG r d t H.length k:=hk
  unfold Ih at hk;rw [fB]at hk
  split at hk
  ·rename_i hv;exact go rfl (by simp only [xOp,hv]) h hk
  ·rename_i hv;exact go rfl (by simp only [xOp,hv]) h hk
  ·exact hk.elim
 case bin op x y=>
  have hk:aLG op x y bG r d t H.length k:=hk
  unfold aLG at hk;rw [fB,fB]at hk
  obtain⟨v,h3,hk⟩:=aum hk
  exact go rfl (by simp only [xOp,h3];rfl) h hk
 case cvi j x=>
  have hk:aLE j x bG r d t H.length k:=hk
  unfold aLE at hk;rw [fB]at hk
  split at hk
  ·rename_i hv
   simp only [uP]at hk
   exact go rfl (by simp only [xOp,hv];rfl) h hk
  ·exact hk.elim
 case au off x=>
  have hk:Ij off x bG r d t H.length k:=hk
  unfold Ij at hk;rw [fB]at hk
  split at hk
  ·rename_i hv;rw [cu]at hk;exact go rfl (by simp only [xOp,hv,mP];rfl) h hk
  ·rename_i hv;rw [cu]at hk;exact go rfl (by simp only [xOp,hv,mP];rfl) h hk
  ·exact hk.elim
 case field off m x=>
  have hk:OU off m x bG r d t H.length k:=hk
  unfold OU at hk;rw [fB]at hk
  split at hk
  ·rename_i hv
   obtain⟨v,h3,hk⟩:=AZ hk
   exact go rfl (by simp only [xOp,hv,xH,h3];rfl) h hk
  ·exact hk.elim
 case aF sz arr x i=>
  have hk:Ii sz arr x i bG r d t H.length k:=hk
  unfold Ii at hk;rw [fB,fB]at hk
  obtain⟨v,h3,hk⟩:=Um h hk
  exact go rfl (by simp only [xOp,h3];rfl) h hk
 case extract x i=>
  have hk:Dh x i bG r d t H.length k:=hk
  unfold Dh at hk;rw [fB]at hk
  split at hk
  ·rename_i hv
   obtain⟨v,h3,hk⟩:=zn hk
   exact go rfl (by simp only [xOp,hv,h3];rfl) h hk
  ·exact hk.elim
 case call f args hh=>
  have hk:ZR f args hh bG r d t H.length k:=hk
  unfold ZR at hk;rw [wz]at hk
  cases hh with
  | false=>
   obtain⟨v,H',t',h1,h2,h3⟩:=Xv hc h hk
   exact⟨v,d,H',t',by simp only [iO,kH,Bool.false_eq_true,if_false,h1];rfl,h2,h3⟩
  | true=>
   obtain⟨v,H',t',h1,h2,h3⟩:=hc _ _ H t _ h hk
   exact⟨v,d,H',t',by simp only [iO,kH,if_true,h1];rfl,h2,h3⟩
 case bU x args hh=>
  have hk:OW x args hh bG r d t H.length k:=hk
  unfold OW at hk;rw [fB,wz]at hk
  obtain⟨⟨c,vs⟩,h1,hk⟩:=nR hk
  obtain⟨v,H',t',h2,h3,h4⟩:=hc c vs H t _ h hk
  exact⟨v,d,H',t',by simp only [iO,h1,h2];rfl,h3,h4⟩
 case len x=>
  have hk:aLD x bG r d t H.length k:=hk
  unfold aLD at hk;rw [fB]at hk
  obtain⟨y,m,h1,h2,hk⟩:=as7 h hk
  exact go rfl (by simp only [xOp,h1,h2];rfl) h hk
 case BP m=>
  have hk:aFX m bG r d t H.length k:=hk
  exact go rfl rfl h hk
 case append sz bytes x y=>
  have hk:Ik sz bytes x y bG r d t H.length k:=hk
  unfold Ik at hk;rw [fB,fB]at hk
  obtain⟨v,H',t',h1,h2,h3⟩:=auq h hk
  exact go rfl (by simp only [xOp,h1]) h2 h3
 case recover=>
  have hk:KA bG r d t H.length k:=hk
  exact⟨_,d,H,t,rfl,h,hk⟩
 case defer x args=>
  have hk:OV x args bG r d t H.length k:=hk
  unfold OV at hk;rw [fB,wz]at hk
  obtain⟨⟨c,vs⟩,h1,hk⟩:=nR hk
  cases c with
  | fn f=>exact⟨_,.fn f vs::d,H,t,by simp only [iO,h1],h,hk⟩
  | yield b=>exact hk.elim
 all_goals exact gen rfl hk
end Km
end
section
set_option linter.unusedVariables false
namespace Km
open Go
def aFD(g:Option (P × Bool))(r:T)(yes no:Prop):Prop:=
 Option.rec (motive:=fun _=>Prop) yes (fun pw=>Prod.rec (motive:=fun _=>Prop) (fun p w=>JV p r fun v=>match v with
  | .c (.f (.bool b))=>Bool.rec (motive:=fun _=>Prop) (Bool.rec (motive:=fun _=>Prop) yes no w) (Bool.rec (motive:=fun _=>Prop) no yes w) b
  | .t []=>no
  | _=>False) pw) g
theorem WO{g:Option (P × Bool)}{r:T}{yes no:Prop}(h:aFD g r yes no):(wanted r g=some true∧yes)∨(wanted r g=some false∧no):=by
 cases g with
 | none=>exact .inl ⟨rfl,h⟩
 | some pw=>
  obtain⟨p,w⟩:=pw
  change JV p r _ at h
  rw [sH]at h
  simp only [wanted]
  split at h
  ·rename_i b hv
   rw [hv]
   cases b<;>cases w
   ·exact .inl ⟨rfl,h⟩
   ·exact .inr ⟨rfl,h⟩
   ·exact .inr ⟨rfl,h⟩
   ·exact .inl ⟨rfl,h⟩
  ·rename_i hv;rw [hv];exact .inr ⟨rfl,h⟩
  ·exact h.elim
abbrev KSt:=T→List fV→HT→Nat→Prop
def WZ(o:aV)(call:jE)(r:T)(d:List fV)(t:HT)(n:Nat)(k:KSt):Prop:=
 aV.rec (motive:=fun _=>Prop) (fun dst op g=>aFD g r (aQc op call r d t n fun v d t n=>aHr dst r v fun r=>k r d t n) (aHr dst r (.t []) fun r=>k r d t n)) o
theorem IK{call:dO}{bG:jE}(hc:wH call bG){o:aV}{r:T}{d:List fV}{H:Heap}{t:HT}{k:KSt}(h:dX H t)(hk:WZ o bG r d t H.length k) :
  ∃ s' t',jD call ⟨r,d,H⟩ o=some s'∧dX s'.heap t'∧k s'.regs s'.defs t' s'.heap.length:=by
 obtain⟨dst,op,g⟩:=o
 rcases WO hk with⟨hw,hk⟩ | ⟨hw,hk⟩
 ·obtain⟨v,d',H',t',h1,h2,h3⟩:=asP hc op h hk
  rw [Qm]at h3
  exact⟨⟨nG r dst v,d',H'⟩,t',by simp only [jD,hw,h1],h2,h3⟩
 ·rw [Qm]at hk
  exact⟨⟨nG r dst (.t []),d,H⟩,t,by simp only [jD,hw],h,hk⟩
def aP6(ops:List aV)(call:jE):T→List fV→HT→Nat→KSt→Prop:=
 List.rec (motive:=fun _=>T→List fV→HT→Nat→KSt→Prop) (fun r d t n k=>k r d t n) (fun o _ ih r d t n k=>WZ o call r d t n fun r d t n=>ih r d t n k) ops
theorem QC{call:dO}{bG:jE}(hc:wH call bG):∀ {ops:List aV} {r:T} {d:List fV} {H:Heap} {t:HT} {k:KSt},dX H t→aP6 ops bG r d t H.length k →
  ∃ s' t',jk call ops ⟨r,d,H⟩=some s'∧dX s'.heap t'∧k s'.regs s'.defs t' s'.heap.length
 | [],r,d,H,t,k,h,hk=>⟨⟨r,d,H⟩,t,rfl,h,hk⟩
 | o::ops,r,d,H,t,k,h,hk=>by
  obtain⟨s1,t1,h1,h2,h3⟩:=IK hc h hk
  obtain⟨s2,t2,h4,h5,h6⟩:=QC hc (r:=s1.regs) (d:=s1.defs) (H:=s1.heap) h2 h3
  exact⟨s2,t2,by simp only [jk,h1];exact h4,h5,h6⟩
structure Dk where
 r:T
 d:List fV
 t:HT
 n:Nat
def Gf(ops:List aV)(call:jE):T→List fV→HT→Nat→(List Dk→KSt)→Prop:=
 List.rec (motive:=fun _=>T→List fV→HT→Nat→(List Dk→KSt)→Prop) (fun r d t n k=>k [⟨r,d,t,n⟩] r d t n)
  (fun o _ ih r d t n k=>WZ o call r d t n fun r' d' t' n'=>ih r' d' t' n' fun ss r'' d'' t'' n''=>k (⟨r,d,t,n⟩::ss) r'' d'' t'' n'') ops
def aF5(s:St)(x:Dk):Prop:=x.r=s.regs∧x.d=s.defs∧dX s.heap x.t∧x.n=s.heap.length
inductive Di:List St→List Dk→Prop
 | nil:Di [] []
 | cons {s:St} {x:Dk} {ss:List St} {xs:List Dk} (h:aF5 s x) (hs:Di ss xs):Di (s::ss) (x::xs)
theorem Di.get{ss:List St}{xs:List Dk}(h:Di ss xs):∀(i:Nat) (x:Dk),xs[i]?=some x→∃ s,ss[i]?=some s∧aF5 s x:=by
 induction h with
 | nil=>intro i x hx;simp at hx
 | cons h hs ih=>
  intro i x hx
  cases i with
  | zero=>simp at hx;subst hx;exact⟨_,rfl,h⟩
  | succ i=>simpa using ih i x (by simpa using hx)
theorem zO{call:dO}{bG:jE}(hc:wH call bG):∀ {ops:List aV} {r:T} {d:List fV} {H:Heap} {t:HT} {k:List Dk→KSt},dX H t→Gf ops bG r d t H.length k →
  ∃ ss xs s' t',fZ call ops ⟨r,d,H⟩=some ss∧Di ss xs∧ss.getLast?=some s'∧dX s'.heap t'∧k xs s'.regs s'.defs t' s'.heap.length
 | [],r,d,H,t,k,h,hk=>⟨[⟨r,d,H⟩],[⟨r,d,t,H.length⟩],⟨r,d,H⟩,t,rfl,.cons ⟨rfl,rfl,h,rfl⟩ .nil,rfl,h,hk⟩
 | o::ops,r,d,H,t,k,h,hk=>by
  obtain⟨s1,t1,h1,h2,h3⟩:=IK hc h hk
  obtain⟨ss,xs,s2,t2,h4,h5,h6,h7,h8⟩:=zO hc (r:=s1.regs) (d:=s1.defs) (H:=s1.heap) h2 h3
  refine⟨⟨r,d,H⟩::ss,⟨r,d,t,H.length⟩::xs,s2,t2,by simp only [fZ,h1];rw [h4],.cons ⟨rfl,rfl,h,rfl⟩ h5,?_,h7,h8⟩
  cases ss with
  | nil=>simp at h6
  | cons a as=>simpa using h6
def Qi(ops:List aV)(xs:List Dk)(c:Nat × Nat):Bool:=
 match ops[c.1]?,xs[c.1]?,xs[c.2]? with
 | some o,some s,some s'=>match wanted s.r o.g with
  | some false=>true
  | _=>match WJ s.r s.t.get s.n o.op,WJ s.r s'.t.get s'.n o.op with
   | some (v,_),some (v',_)=>v.beq v'
   | _,_=>false
 | _,_,_=>false
theorem Xj{ops:List aV}{ss:List St}{xs:List Dk}(h:Di ss xs){c:Nat × Nat}(hc:Qi ops xs c=true):sameAt ops ss c=true:=by
 unfold Qi at hc
 split at hc
 ·rename_i o x x' h1 h2 h3
  obtain⟨s,g1,g2,g3,g4,g5⟩:=h.get _ _ h2
  obtain⟨s',k1,k2,k3,k4,k5⟩:=h.get _ _ h3
  unfold sameAt
  rw [h1,g1,k1]
  simp only
  rw [←g2]
  split at hc
  ·rename_i hw;rw [hw]
  ·split at hc
   ·rename_i v e v' e' h4 h5
    rw [g4,g5]at h4
    rw [k4,k5]at h5
    have e1:=FZ x.r s.heap o.op
    rw [h4]at e1
    have e2:=FZ x.r s'.heap o.op
    rw [h5]at e2
    rw [←e1,←e2]
    split
    ·rfl
    ·exact hc
   ·simp at hc
 ·simp at hc
def uY(ops:List aV)(chk:List (Nat × Nat))(call:jE)(r:T)(d:List fV)(t:HT)(n:Nat)(k:KSt):Prop:=
 List.rec (motive:=fun _=>Prop) (aP6 ops call r d t n k) (fun _ _ _=>Gf ops call r d t n fun xs r d t n=>yC (chk.all (Qi ops xs)) (k r d t n)) chk
theorem MQ{call:dO}{bG:jE}(hc:wH call bG){ops:List aV}{chk:List (Nat × Nat)}{r:T}{d:List fV}{H:Heap}{t:HT}{k:KSt}(h:dX H t)(hk:uY ops chk bG r d t H.length k) :
  ∃ s' t',jO call ops chk ⟨r,d,H⟩=some s'∧dX s'.heap t'∧k s'.regs s'.defs t' s'.heap.length:=by
 cases chk with
 | nil=>exact QC hc h hk
 | cons c cs=>
  have hk:Gf ops bG r d t H.length (fun xs r d t n=>yC ((c::cs).all (Qi ops xs)) (k r d t n)):=hk
  obtain⟨ss,xs,s',t',h1,h2,h3,h4,h5⟩:=zO hc h hk
  obtain⟨h6,h7⟩:=rM h5
  refine⟨s',t',?_,h4,h7⟩
  simp only [jO,h1]
  rw [if_pos,h3]
  rw [List.all_eq_true]at h6 ⊢
  exact fun c hc=>Xj h2 (h6 c hc)
abbrev Go1:=Option Nat→List dR→KSt
abbrev auu:=Option ah→KSt
abbrev dG:=jE→Nat→auu→Go1→Option Nat→List dR→KSt
def Rj:dG:=fun _ _ _ go ro rest r d t n=>go ro rest r d t n
def auh(ops:List aV)(chk:List (Nat × Nat)):dG:=fun call _ _ go ro rest r d t n=>
 Option.rec (motive:=fun _=>Prop) (uY ops chk call r d t n fun r d t n=>go ro rest r d t n)
  (fun _=>yC (ops.all (·.op.gX)) (uY ops chk call r d t n fun r d t n=>go ro rest r d t n)) ro
def aYR(a b:ah)(_ _:dG):dG:=fun _ _ _ go ro rest r d t n=>go ro (.code a::.code b::rest) r d t n
def Zz(c:Arg)(a b:ah)(_ _:dG):dG:=fun _ _ _ go ro rest r d t n=>evK c r fun v=>match v with
 | .c (.f (.bool v))=>Bool.rec (motive:=fun _=>Prop) (go ro (.code b::rest) r d t n) (go ro (.code a::rest) r d t n) v
 | _=>False
def aLe(id:Nat)(a:ah)(_:dG):dG:=fun _ _ _ go ro rest r d t n=>go ro (.code a::.inBlock id::rest) r d t n
def aRC(a:ah)(_:dG):dG:=fun _ _ _ go ro rest r d t n=>go ro (.code a::.inLoop a::rest) r d t n
def Ic(f:Arg)(ps:List P)(as bd:ah)(_ _:dG):dG:=fun call fn _ go ro rest r d t n=>
 Option.rec (motive:=fun _=>Prop)
  (tu (.dfr true) t n fun t n1=>tu (.lp fn r ps as bd .ready none n) t n1 fun t n2=>evK f r fun x=>
   wV (dB x [.c (.yl n1)]) fun ca=>Prod.rec (motive:=fun _=>Prop) (fun c vs=>Callee.rec (motive:=fun _=>Prop)
    (fun g=>call (.fn g) vs t n2 fun _ t n'=>go none (.nK n1::rest) r (.coll n::d) t n') (fun _=>False) c) ca)
  (fun _=>False) ro
def Zy(id:Nat):dG:=fun _ _ kK go ro rest r d t n=>
 Option.rec (motive:=fun _=>Prop) (Option.rec (motive:=fun _=>Prop) False (fun _=>kK (some (.exit id)) r d t n) ro) (fun k=>go ro k r d t n) (exitTo id rest)
def aYS:dG:=fun _ _ kK _ _ _ r d t n=>kK (some .ret) r d t n
def aYT:dG:=fun _ _ _ _ _ _ _ _ _ _=>False
def aLc(a:ah)(_:dG):dG:=fun _ _ _ go ro rest r d t n=>go ro (.code a::.inScope a::rest) r d t n
def aLd(_:Nat):dG:=Rj
def aRD(l:Nat):dG:=fun _ _ _ go ro rest r d t n=>wV (gotoIn l rest) fun k=>go ro k r d t n
def J5(c:ah):dG:=ah.rec (motive:=fun _=>dG) Rj auh aYR Zz aLe aRC Ic Zy aYS aYT aLc aLd aRD c
def aKI(_:Nat):dG:=Rj
def aQU(c:ah):dG:=fun _ _ _ go ro rest r d t n=>go ro (.code c::.inLoop c::rest) r d t n
def Ob(b:Nat):dG:=fun _ _ _ go ro rest r d t n=>kT b t fun blk=>match blk with
 | .lp f tmps ps as bd st pending dd=>yC (match st with | .busy=>false | _=>true) (kS (.lp f tmps ps as bd .exhausted pending dd) t b fun t=>match pending with
  | none=>go ro rest r d t n
  | some .ret=>go ro (.code .ret::rest) r d t n
  | some (.exit id)=>go ro (.code (.exit id)::rest) r d t n
  | some _=>False)
 | _=>False
def aFQ:dG:=fun _ _ _ go ro rest r d t n=>Option.rec (motive:=fun _=>Prop) False (fun b=>kT b t fun blk=>match blk with
 | .lp f tmps ps as bd .ready pending dd=>kS (.lp f tmps ps as bd .busy pending dd) t b fun t=>go ro rest r d t n
 | _=>False) ro
def aKH(_:ah):dG:=Rj
def aFP(x:dR):dG:=dR.rec (motive:=fun _=>dG) J5 aKI aQU Ob aFQ aKH x
def runK(call:jE)(fn:Nat)(kK:auu)(m:Nat):Go1:=
 Nat.rec (motive:=fun _=>Go1) (fun _ _ _ _ _ _=>False)
  (fun _ ih ro todo r d t n=>List.rec (motive:=fun _=>Prop) (kK none r d t n) (fun x rest _=>aFP x call fn kK ih ro rest r d t n) todo) m
def aUf(call:dO)(fn m:Nat)(ro:Option Nat)(todo:List dR)(s:St)(kK:auu):Prop:=
 ∃ jump s' t',run call fn m ro todo s=some (jump,s')∧dX s'.heap t'∧kK jump s'.regs s'.defs t' s'.heap.length
theorem Qk{call:dO}{bG:jE}(hc:wH call bG)(fn:Nat)(kK:auu):∀(m:Nat) (ro:Option Nat) (todo:List dR) (r:T) (d:List fV) (H:Heap) (t:HT),
  dX H t→runK bG fn kK m ro todo r d t H.length→aUf call fn m ro todo ⟨r,d,H⟩ kK:=by
 intro m
 induction m with
 | zero=>intro ro todo r d H t h hk;exact hk.elim
 | succ m ih=>
  intro ro todo r d H t h hk
  have go:∀ {todo'} {s':St} {t':HT},run call fn (m+1) ro todo ⟨r,d,H⟩=run call fn m ro todo' s'→dX s'.heap t'→runK bG fn kK m ro todo' s'.regs s'.defs t' s'.heap.length→aUf call fn (m+1) ro todo ⟨r,d,H⟩ kK:=by
   intro todo' s' t' h1 h2 h3
   obtain⟨jump,s'',t'',g1,g2,g3⟩:=ih ro todo' s'.regs s'.defs s'.heap t' h2 h3
   exact⟨jump,s'',t'',by rw [h1];exact g1,g2,g3⟩
  cases todo with
  | nil=>exact⟨none,⟨r,d,H⟩,t,rfl,h,hk⟩
  | cons x rest=>
   have hk:aFP x bG fn kK (runK bG fn kK m) ro rest r d t H.length:=hk
   cases x with
   | inBlock id=>exact go (s':=⟨r,d,H⟩) (by simp only [run]) h hk
   | inLoop c=>exact go (s':=⟨r,d,H⟩) (by simp only [run]) h hk
   | inScope c=>exact go (s':=⟨r,d,H⟩) (by simp only [run]) h hk
   | nK b=>
    have hk:Ob b bG fn kK (runK bG fn kK m) ro rest r d t H.length:=hk
    unfold Ob at hk
    obtain⟨blk,h1,h2⟩:=fF hk
    rw [h]at h1
    have h1:H[b]?=some blk:=h1
    split at h2
    ·rename_i f tmps ps as bd st pending dd _
     obtain⟨h3,h2⟩:=rM h2
     obtain⟨t',h4,h5⟩:=gI h h2
     have hst:st≠.busy:=by rintro rfl;simp at h3
     have hl:H.length=(H.set b (.lp f tmps ps as bd .exhausted pending dd)).length:=by simp
     rw [hl]at h5
     split at h5
     ·exact go (s':=⟨r,d,H.set b (.lp f tmps ps as bd .exhausted none dd)⟩) (by simp only [run,h1,if_neg hst]) h4 h5
     ·exact go (s':=⟨r,d,H.set b (.lp f tmps ps as bd .exhausted (some .ret) dd)⟩) (by simp only [run,h1,if_neg hst]) h4 h5
     ·exact go (s':=⟨r,d,H.set b (.lp f tmps ps as bd .exhausted (some (.exit _)) dd)⟩) (by simp only [run,h1,if_neg hst]) h4 h5
     ·exact h5.elim
    ·exact h2.elim
   | rO=>
    have hk:aFQ bG fn kK (runK bG fn kK m) ro rest r d t H.length:=hk
    cases ro with
    | none=>exact hk.elim
    | some b=>
     obtain⟨blk,h1,h2⟩:=fF hk
     rw [h]at h1
     have h1:H[b]?=some blk:=h1
     split at h2
     ·rename_i f tmps ps as bd pending dd _
      obtain⟨t',h4,h5⟩:=gI h h2
      have hl:H.length=(H.set b (.lp f tmps ps as bd .busy pending dd)).length:=by simp
      rw [hl]at h5
      exact go (s':=⟨r,d,H.set b (.lp f tmps ps as bd .busy pending dd)⟩) (by simp only [run,h1]) h4 h5
     ·exact h2.elim
   | code c=>
    cases c with
    | skip=>exact go (s':=⟨r,d,H⟩) (by simp only [run]) h hk
    | label l=>exact go (s':=⟨r,d,H⟩) (by simp only [run]) h hk
    | scope a=>exact go (s':=⟨r,d,H⟩) (by simp only [run]) h hk
    | goto l=>
     obtain⟨k',he,hk⟩:=nR (show wV (gotoIn l rest) (fun k'=>runK bG fn kK m ro k' r d t H.length) from hk)
     exact go (s':=⟨r,d,H⟩) (by simp only [run,he]) h hk
    | bad=>exact hk.elim
    | ret=>exact⟨some .ret,⟨r,d,H⟩,t,rfl,h,hk⟩
    | seq a b=>exact go (s':=⟨r,d,H⟩) (by simp only [run]) h hk
    | block id a=>exact go (s':=⟨r,d,H⟩) (by simp only [run]) h hk
    | loop a=>exact go (s':=⟨r,d,H⟩) (by simp only [run]) h hk
    | exit id=>
     have hk:Zy id bG fn kK (runK bG fn kK m) ro rest r d t H.length:=hk
     unfold Zy at hk
     cases he:exitTo id rest with
     | some k'=>
      rw [he]at hk
      exact go (s':=⟨r,d,H⟩) (by simp only [run,he]) h hk
     | none=>
      rw [he]at hk
      cases ro with
      | none=>exact hk.elim
      | some b=>exact⟨some (.exit id),⟨r,d,H⟩,t,by simp only [run,he,Option.isSome_some,if_true],h,hk⟩
    | cond c a b=>
     have hk:Zz c a b (J5 a) (J5 b) bG fn kK (runK bG fn kK m) ro rest r d t H.length:=hk
     unfold Zz at hk
     rw [fB]at hk
     split at hk
     ·rename_i v hv
      cases v with
      | true=>exact go (s':=⟨r,d,H⟩) (by simp only [run,hv,if_true]) h hk
      | false=>exact go (s':=⟨r,d,H⟩) (by simp only [run,hv,Bool.false_eq_true,if_false]) h hk
     ·exact hk.elim
    | region ops chk=>
     have key:(ro.isSome&&!ops.all (·.op.gX))=false∧uY ops chk bG r d t H.length (fun r d t n=>runK bG fn kK m ro rest r d t n):=by
      cases ro with
      | none=>exact⟨rfl,hk⟩
      | some b=>
       obtain⟨h1,h2⟩:=rM (show yC (ops.all (·.op.gX)) (uY ops chk bG r d t H.length (fun r d t n=>runK bG fn kK m (some b) rest r d t n)) from hk)
       exact⟨by rw [h1];rfl,h2⟩
     obtain⟨s',t',h1,h2,h3⟩:=MQ hc h key.2
     exact go (s':=s') (by simp only [run,key.1,Bool.false_eq_true,if_false,h1]) h2 h3
    | gB f ps as bd=>
     have hk:Ic f ps as bd (J5 as) (J5 bd) bG fn kK (runK bG fn kK m) ro rest r d t H.length:=hk
     cases ro with
     | some b=>exact hk.elim
     | none=>
      unfold Ic at hk
      obtain⟨t1,h1,hk⟩:=lJ h hk
      obtain⟨t2,h2,hk⟩:=lJ h1 hk
      rw [fB]at hk
      obtain⟨⟨c,vs⟩,h3,hk⟩:=nR hk
      have e1:(H++[Blk.dfr true]).length=H.length+1:=by simp
      have e2:H++[Blk.dfr true]++[Blk.lp fn r ps as bd .ready none H.length]=H++[.dfr true,.lp fn r ps as bd .ready none H.length]:=by simp
      rw [e1]at h3
      rw [e2]at h2
      cases c with
      | yield b=>exact hk.elim
      | fn g=>
       have hk:bG (.fn g) vs t2 (H++[Blk.dfr true]++[Blk.lp fn r ps as bd .ready none H.length]).length (fun _ t n'=>runK bG fn kK m none (.nK (H++[Blk.dfr true]).length::rest) r (.coll H.length::d) t n'):=hk
       rw [e2,e1]at hk
       obtain⟨v,H',t',h4,h5,h6⟩:=hc _ _ _ _ _ h2 hk
       exact go (s':=⟨r,.coll H.length::d,H'⟩) (by simp only [run,Option.isSome_none,Bool.false_eq_true,if_false,h3,h4]) h5 h6
def Zm(call:jE)(ds:List fV):HT→Nat→(HT→Nat→Prop)→Prop:=
 List.rec (motive:=fun _=>HT→Nat→(HT→Nat→Prop)→Prop) (fun t n k=>k t n)
  (fun x _ ih t n k=>fV.rec (motive:=fun _=>Prop)
   (fun b=>kT b t fun blk=>match blk with
    | .dfr true=>kS (.dfr false) t b fun t=>ih t n k
    | _=>False)
   (fun f args=>call (.fn f) args t n fun _ t n=>ih t n k) x) ds
theorem CO{call:dO}{bG:jE}(hc:wH call bG):∀ {ds:List fV} {H:Heap} {t:HT} {k:HT→Nat→Prop},dX H t→Zm bG ds t H.length k→∃ H' t',gJ call ds H=some H'∧dX H' t'∧k t' H'.length
 | [],H,t,k,h,hk=>⟨H,t,rfl,h,hk⟩
 | .coll b::ds,H,t,k,h,hk=>by
  obtain⟨blk,h1,h2⟩:=fF hk
  rw [h]at h1
  have h1:H[b]?=some blk:=h1
  split at h2
  ·obtain⟨t1,h3,h4⟩:=gI h h2
   have hl:H.length=(H.set b (.dfr false)).length:=by simp
   have h4:Zm bG ds t1 H.length k:=h4
   rw [hl]at h4
   obtain⟨H',t',h5,h6,h7⟩:=CO hc h3 h4
   exact⟨H',t',by simp only [gJ,h1];exact h5,h6,h7⟩
  ·exact h2.elim
 | .fn f args::ds,H,t,k,h,hk=>by
  obtain⟨v,H1,t1,h1,h2,h3⟩:=hc _ _ H t _ h hk
  obtain⟨H',t',h5,h6,h7⟩:=CO hc (ds:=ds) h2 h3
  exact⟨H',t',by simp only [gJ,h1];exact h5,h6,h7⟩
def aOh(r:T)(t:HT)(a:mW)(k:V→Prop):Prop:=mW.rec (motive:=fun _=>Prop)
 (fun p=>JV p r fun v=>match v with
  | .t _=>False
  | v=>k v)
 (fun p m=>JV p r fun v=>ldK t m v k) a
theorem apY{H:Heap}{t:HT}(h:dX H t){r:T}(a:mW)(k:V→Prop)(hk:aOh r t a k):∃ v,fH r H a=some v∧k v:=by
 cases a with
 | tmp p=>
  change JV p r _ at hk
  rw [sH]at hk
  simp only [fH]
  cases hv:r.get p with
  | t vs=>rw [hv]at hk;exact hk.elim
  | _=>rw [hv]at hk;exact⟨_,rfl,hk⟩
 | cell p m=>
  change JV p r _ at hk
  rw [sH]at hk
  exact YI h hk
def I4(r:T)(t:HT)(rs:List mW)(k:V→Prop):Prop:=Hu (aOh r t) rs fun vs=>match vs with
 | [v]=>k v
 | vs=>k (.t vs)
theorem IZ{H:Heap}{t:HT}(h:dX H t){r:T}{rs:List mW}{k:V→Prop}(hk:I4 r t rs k):∃ v,Km.results r H rs=some v∧k v:=by
 obtain⟨vs,h1,h2⟩:=mQ (apY h) hk
 unfold Km.results
 rw [h1]
 split at h2
 ·exact⟨_,rfl,h2⟩
 ·rename_i hne
  refine⟨.t vs,?_,h2⟩
  match vs,hne with
  | [v],hne=>exact absurd rfl (hne v)
  | [],_=>rfl
  | _::_::_,_=>rfl
def fnK(tab:BT AFunc)(m:Nat)(call:jE)(f:Nat)(args:List V)(t:HT)(n:Nat)(k:V→HT→Nat→Prop):Prop:=
 kT f tab fun af=>AFunc.rec (motive:=fun _=>Prop) (fun ps rs body=>lM args.length ps.length (zi ps args .e fun r=>
  runK call f (fun _ r d t n=>Zm call d t n fun t n=>I4 r t rs fun v=>k v t n) m none [.code body] r [] t n)) af
def WG(m:Nat)(call:jE)(b:Nat)(args:List V)(t:HT)(n:Nat)(k:V→HT→Nat→Prop):Prop:=
 kT b t fun blk=>match blk with
  | .lp f tmps ps as bd _ _ _=>lM args.length ps.length (zi ps args tmps fun r=>
    runK call f (fun jump _ d t n=>yC d.isEmpty (kT b t fun blk=>match blk with
     | .lp f' sW ps' as' bd' _ _ d'=>match jump with
      | none=>kS (.lp f' sW ps' as' bd' .ready none d') t b fun t=>k (.c (.f (.bool true))) t n
      | some j=>kS (.lp f' sW ps' as' bd' .done (some j) d') t b fun t=>k (.c (.f (.bool false))) t n
     | _=>False)) m (some b) [.code as,.rO,.code bd] r [] t n)
  | _=>False
def bG(tab:BT AFunc)(m:Nat)(dep:Nat):jE:=
 Nat.rec (motive:=fun _=>jE) (fun _ _ _ _ _=>False)
  (fun _ ih c args t n k=>Callee.rec (motive:=fun _=>Prop) (fun f=>fnK tab m ih f args t n k) (fun b=>WG m ih b args t n k) c) dep
def nH:Nat→List V→Heap→Option (Option (V × Heap)):=fun _ _ _=>none
theorem Zw(tab:BT AFunc)(m:Nat):∀ dep,wH (iE tab.get nH m dep) (bG tab m dep):=by
 intro dep
 induction dep with
 | zero=>intro c args H t k h hk;exact hk.elim
 | succ dep ih=>
  intro c args H t k h hk
  cases c with
  | fn f=>
   obtain⟨af,h1,hk⟩:=fF (show fnK tab m (bG tab m dep) f args t H.length k from hk)
   obtain⟨ps,rs,body⟩:=af
   obtain⟨h2,hk⟩:=dV hk
   rw [tY]at hk
   obtain⟨jump,s',t',h3,h4,hk⟩:=Qk ih f _ m none [.code body] _ [] H t h hk
   obtain⟨H',t'',h5,h6,hk⟩:=CO ih h4 hk
   obtain⟨v,h7,hk⟩:=IZ h6 hk
   exact⟨v,H',t'',by simp only [iE,nH,h1,h2,if_true,h3,h5,h7];rfl,h6,hk⟩
  | yield b=>
   obtain⟨blk,h1,hk⟩:=fF (show WG m (bG tab m dep) b args t H.length k from hk)
   rw [h]at h1
   have h1:H[b]?=some blk:=h1
   split at hk
   ·obtain⟨h2,hk⟩:=dV hk
    rw [tY]at hk
    obtain⟨jump,s',t',h3,h4,hk⟩:=Qk ih _ _ m (some b) _ _ [] H t h hk
    obtain⟨h5,hk⟩:=rM hk
    obtain⟨blk',h6,hk⟩:=fF hk
    rw [h4]at h6
    have h6:s'.heap[b]?=some blk':=h6
    split at hk
    ·cases jump with
     | none=>
      obtain⟨t'',h7,h8⟩:=gI h4 hk
      exact⟨_,_,t'',by simp only [iE,h1,h2,if_true,h3,h5,h6];rfl,h7,by rw [List.length_set];exact h8⟩
     | some j=>
      obtain⟨t'',h7,h8⟩:=gI h4 hk
      exact⟨_,_,t'',by simp only [iE,h1,h2,if_true,h3,h5,h6];rfl,h7,by rw [List.length_set];exact h8⟩
    ·exact hk.elim
   ·exact hk.elim
def isTrue(v:V)(_:HT)(_:Nat):Prop:=match v with
 | .c (.f (.bool b))=>Bool.rec (motive:=fun _=>Prop) False True b
 | _=>False
theorem OG{tab:BT AFunc}{m dep f:Nat}(h:bG tab m dep (.fn f) [] .e 0 isTrue):∃ H',iE tab.get nH m dep (.fn f) [] []=some (.c (.f (.bool true)),H'):=by
 obtain⟨v,H',t',h1,h2,h3⟩:=Zw tab m dep (.fn f) [] [] .e isTrue dX.nil h
 refine⟨H',?_⟩
 rw [h1]
 unfold isTrue at h3
 split at h3
 ·rename_i b
  cases b with
  | true=>rfl
  | false=>exact h3.elim
 ·exact h3.elim
end Km
end
section
namespace Km
open Go
theorem aG{P:Nat→AFunc→Prop}:∀ i a,(BT.e:BT AFunc).get i=some a→P i a:=fun i a h=>by cases i<;>cases h
theorem aI{P:Nat→AFunc→Prop}{l r:BT AFunc}{x:AFunc}(hl:∀ i a,l.get i=some a→P (2*i+1) a)(hx:P 0 x)
  (hr:∀ i a,r.get i=some a→P (2*i+2) a):∀ i a,(BT.n l x r).get i=some a→P i a:=by
 intro i a h
 cases i with
 | zero=>cases h;exact hx
 | succ m=>
  have h':(if m % 2=0 then l.get (m / 2)else r.get (m / 2))=some a:=h
  split at h'
  ·have:=hl _ _ h'
   rwa [show 2*(m / 2)+1=m+1 by omega]at this
  ·have:=hr _ _ h'
   rwa [show 2*(m / 2)+2=m+1 by omega]at this
theorem Ua(Q:Program)(σ:Nat→FuncId):ZW Q σ nH:=fun f args H r H' h=>by cases h
theorem reckoned{tab:BT AFunc}{f:Nat}(h:∃ m dep,bG tab m dep (.fn f) [] .e 0 isTrue=True):∃ m dep H',iE tab.get nH m dep (.fn f) [] []=some (.c (.f (.bool true)),H'):=by
 obtain⟨m,dep,h⟩:=h
 obtain⟨H',h'⟩:=OG (of_eq_true h)
 exact⟨m,dep,H',h'⟩
end Km
end
section
namespace Km
open Go
def Iu(c1 c2:dO):Prop:=∀ c args H r,c1 c args H=some r→c2 c args H=some r
section
variable{c1 c2:dO}(hc:Iu c1 c2)
include hc
theorem Ea{c:Nat}{args:List V}{H:Heap}{r:V × Heap}(h:iw c1 c args H=some r):iw c2 c args H=some r:=by
 unfold iw at h ⊢
 split at h
 ·simp at h
 ·rename_i fs hfs
  split at h
  ·simp at h
  ·rename_i r0 H0 h0
   simp only [hc _ _ _ _ h0]
   exact h
theorem GK{b:Bool}{c:Nat}{args:List V}{H:Heap}{r:V × Heap}(h:kH c1 b c args H=some r):kH c2 b c args H=some r:=by
 unfold kH at h ⊢
 split at h
 ·rename_i hb;simp only [hb,if_true];exact hc _ _ _ _ h
 ·rename_i hb;simp only [hb];exact Ea hc h
theorem EC{s:St}{op:AOp}{r:V × St}(h:iO c1 s op=some r):iO c2 s op=some r:=by
 cases op with
 | call f args b=>
  simp only [iO,Option.map_eq_some_iff]at h ⊢
  obtain⟨a,ha,rfl⟩:=h
  exact⟨a,GK hc ha,rfl⟩
 | bU x args b=>
  simp only [iO]at h ⊢
  split at h
  ·simp only [Option.map_eq_some_iff]at h ⊢
   obtain⟨a,ha,rfl⟩:=h
   exact⟨a,hc _ _ _ _ ha,rfl⟩
  ·simp at h
 | _=>exact h
theorem zD{s s':St}{o:aV}(h:jD c1 s o=some s'):jD c2 s o=some s':=by
 unfold jD at h ⊢
 cases hw:wanted s.regs o.g with
 | none=>simp [hw]at h
 | some b=>
  cases b with
  | false=>simpa [hw]using h
  | true=>
   simp only [hw]at h ⊢
   cases h1:iO c1 s o.op with
   | none=>simp [h1]at h
   | some x=>
    obtain⟨v,s1⟩:=x
    rw [EC hc h1]
    rw [h1]at h
    exact h
theorem fP:∀(os:List aV) (s:St) {s':St},jk c1 os s=some s'→jk c2 os s=some s'
 | [],s,s',h=>h
 | o::os,s,s',h=>by
  simp only [jk]at h ⊢
  split at h
  ·rename_i s1 h1
   simp only [zD hc h1]
   exact fP os s1 h
  ·simp at h
theorem uO:∀(os:List aV) (s:St) {ss:List St},fZ c1 os s=some ss→fZ c2 os s=some ss
 | [],s,ss,h=>h
 | o::os,s,ss,h=>by
  simp only [fZ]at h ⊢
  split at h
  ·rename_i s1 h1
   simp only [zD hc h1]
   split at h
   ·rename_i ss1 h2
    simp only [uO os s1 h2]
    exact h
   ·simp at h
  ·simp at h
theorem FY{ops:List aV}{chk:List (Nat × Nat)}{s s':St}(h:jO c1 ops chk s=some s'):jO c2 ops chk s=some s':=by
 unfold jO at h ⊢
 split at h
 ·exact fP hc _ _ h
 ·split at h
  ·rename_i ss hss
   simp only [uO hc _ _ hss]
   exact h
  ·simp at h
theorem uU{fn:Nat}:∀(n n':Nat) (ro:Option Nat) (todo:List dR) (s:St) {r:Option ah × St},n≤n' →
  run c1 fn n ro todo s=some r→run c2 fn n' ro todo s=some r
 | 0,_,_,_,_,_,_,h=>by simp [run]at h
 | n+1,0,_,_,_,_,hn,_=>by omega
 | n+1,n'+1,ro,todo,s,r,hn,h=>by
  have ih:=fun ro todo s r h=>uU (fn:=fn) n n' ro todo s (r:=r) (by omega) h
  match todo,h with
  | [],h=>exact h
  | .inBlock _::k,h=>exact ih _ _ _ _ h
  | .inLoop c::k,h=>exact ih _ _ _ _ h
  | .nK b::k,h=>
   simp only [run]at h ⊢
   split at h
   ·rename_i f tmps ps as bd st pending d hb
    try simp only [hb]
    split at h
    ·simp at h
    ·rename_i hst
     try simp only [hst,if_false]
     split at h
     ·exact ih _ _ _ _ h
     ·exact ih _ _ _ _ h
     ·exact ih _ _ _ _ h
     ·simp at h
   ·simp at h
  | .rO::k,h=>
   simp only [run]at h ⊢
   split at h
   ·simp at h
   ·rename_i b
    split at h
    ·rename_i hb
     try simp only [hb]
     exact ih _ _ _ _ h
    ·simp at h
  | .code .skip::k,h=>exact ih _ _ _ _ h
  | .inScope _::k,h=>exact ih _ _ _ _ h
  | .code (.label _)::k,h=>exact ih _ _ _ _ h
  | .code (.scope a)::k,h=>exact ih _ _ _ _ h
  | .code (.goto l)::k,h=>
   simp only [run]at h ⊢
   split at h
   ·rename_i hk;(try simp only [hk]);exact ih _ _ _ _ h
   ·simp at h
  | .code .bad::_,h=>simp [run]at h
  | .code .ret::_,h=>exact h
  | .code (.exit id)::k,h=>
   simp only [run]at h ⊢
   split at h
   ·rename_i hk;(try simp only [hk]);exact ih _ _ _ _ h
   ·rename_i hk;(try simp only [hk]);exact h
  | .code (.seq a b)::k,h=>exact ih _ _ _ _ h
  | .code (.block id a)::k,h=>exact ih _ _ _ _ h
  | .code (.loop a)::k,h=>exact ih _ _ _ _ h
  | .code (.cond c a b)::k,h=>
   simp only [run]at h ⊢
   split at h
   ·rename_i v hv;(try simp only [hv]);exact ih _ _ _ _ h
   ·simp at h
  | .code (.region ops chk)::k,h=>
   simp only [run]at h ⊢
   split at h
   ·simp at h
   ·rename_i hro
    try simp only [hro]
    split at h
    ·rename_i s1 h1
     try simp only [FY hc h1]
     exact ih _ _ _ _ h
    ·simp at h
  | .code (.gB f ps as bd)::k,h=>
   simp only [run]at h ⊢
   split at h
   ·simp at h
   ·rename_i hro
    try simp only [hro]
    split at h
    ·rename_i g args hg
     try simp only [hg]
     split at h
     ·rename_i v H1 h1
      try simp only [hc _ _ _ _ h1]
      exact ih _ _ _ _ h
     ·simp at h
    ·simp at h
theorem mF:∀(ds:List fV) (H:Heap) {H':Heap},gJ c1 ds H=some H'→gJ c2 ds H=some H'
 | [],H,H',h=>h
 | .coll b::ds,H,H',h=>by
  simp only [gJ]at h ⊢
  split at h
  ·rename_i hb;exact mF ds _ h
  ·simp at h
 | .fn f args::ds,H,H',h=>by
  simp only [gJ]at h ⊢
  split at h
  ·rename_i v H1 h1
   try simp only [hc _ _ _ _ h1]
   exact mF ds _ h
  ·simp at h
end
variable{tab:Nat→Option AFunc}{prim:Nat→List V→Heap→Option (Option (V × Heap))}
theorem C9{m m':Nat}(hm:m≤m'):∀(d d':Nat),d≤d'→Iu (iE tab prim m d) (iE tab prim m' d')
 | 0,_,_,_,_,_,_,h=>by simp [iE]at h
 | d+1,0,hd,_,_,_,_,_=>by omega
 | d+1,d'+1,hd,c,args,H,r,h=>by
  have ih:Iu (iE tab prim m d) (iE tab prim m' d'):=C9 hm d d' (by omega)
  match c,h with
  | .fn f,h=>
   simp only [iE]at h ⊢
   split at h
   ·rename_i r' hp;(try simp only [hp]);exact h
   ·rename_i hp
    try simp only [hp]
    split at h
    ·simp at h
    ·rename_i af haf
     try simp only [haf]
     split at h
     ·rename_i hl
      try simp only [hl,if_true]
      split at h
      ·rename_i j s hs
       try simp only [uU ih m m' _ _ _ hm hs]
       split at h
       ·rename_i H1 h1
        try simp only [mF ih _ _ h1]
        exact h
       ·simp at h
      ·simp at h
     ·simp at h
  | .yield b,h=>
   simp only [iE]at h ⊢
   split at h
   ·rename_i f tmps ps as bd q1 q2 q3 hb
    try simp only [hb]
    split at h
    ·rename_i hl
     try simp only [hl,if_true]
     split at h
     ·rename_i j s hs
      try simp only [uU ih m m' _ _ _ hm hs]
      exact h
     ·simp at h
    ·simp at h
   ·simp at h
end Km
end
section
namespace Km
open Go
section
variable(tab:Nat→Option AFunc)
abbrev CF(m d:Nat):dO:=iE tab nH m d
def Ev(c:Callee)(args:List V)(H:Heap)(r:V)(H':Heap):Prop:=∃ m d,CF tab m d c args H=some (r,H')
def Pure(f:Nat)(args:List V)(r:V):Prop:=∃ r0 H',Ev tab (.fn f) args [] r0 H'∧exV deep H' r0=some r
def WP(fn:Nat)(ro:Option Nat)(todo:List dR)(s:St)(Q:Option ah→St→Prop):Prop:=
 ∃ n m d j s',run (CF tab m d) fn n ro todo s=some (j,s')∧Q j s'
def ONE(s:St)(op:AOp)(K:V→St→Prop):Prop:=
 match op with
 | .call f args h=>
  if h then ∃ r H',Ev tab (.fn f) (fD s.regs args) s.heap r H'∧K r { s with heap:=H' }
  else ∃ fs r,bD (fU deep s.heap) (fD s.regs args)=some fs∧Pure tab f fs r∧K r { s with heap:=(fD s.regs args).foldl (mkV deep) s.heap }
 | .bU x args _=>∃ c as r H',dB (x.ev s.regs) (fD s.regs args)=some (c,as)∧Ev tab c as s.heap r H'∧K r { s with heap:=H' }
 | .recover=>K (.c (.f .qU)) s
 | .defer x args=>∃ f as,dB (x.ev s.regs) (fD s.regs args)=some (.fn f,as)∧K .top { s with defs:=.fn f as::s.defs }
 | op=>∃ v H',xOp s.regs s.heap op=some (v,H')∧K v { s with heap:=H' }
def OPS:List aV→St→(St→Prop)→Prop
 | [],s,K=>K s
 | o::os,s,K=>match wanted s.regs o.g with
  | some true=>ONE tab s o.op fun v s'=>OPS os { s' with regs:=nG s'.regs o.dst v } K
  | some false=>OPS os { s with regs:=nG s.regs o.dst (.t []) } K
  | none=>False
variable{tab}
variable{c:Callee}{args:List V}{H H':Heap}{r:V}
theorem nV{m m' d d':Nat}(hm:m≤m')(hd:d≤d'):Iu (CF tab m d) (CF tab m' d'):=C9 hm d d' hd
theorem Ev.det{r2:V}{H2:Heap}(h1:Ev tab c args H r H')(h2:Ev tab c args H r2 H2):r=r2∧H'=H2:=by
 obtain⟨m,d,h1⟩:=h1
 obtain⟨m',d',h2⟩:=h2
 have e1:=nV (tab:=tab) (Nat.le_max_left m m') (Nat.le_max_left d d') _ _ _ _ h1
 have e2:=nV (tab:=tab) (Nat.le_max_right m m') (Nat.le_max_right d d') _ _ _ _ h2
 rw [e1]at e2
 simpa using e2
theorem Pure.det{f:Nat}{r2:V}(h1:Pure tab f args r)(h2:Pure tab f args r2):r=r2:=by
 obtain⟨a,H1,ha,h1⟩:=h1
 obtain⟨b,H2,hb,h2⟩:=h2
 obtain⟨rfl,rfl⟩:=ha.det hb
 rw [h1]at h2
 simpa using h2
theorem U3{s:St}{op:AOp}{K:V→St→Prop}(h:ONE tab s op K):∃ m d v s',iO (CF tab m d) s op=some (v,s')∧K v s':=by
 cases op with
 | call f args b=>
  simp only [ONE]at h
  split at h
  ·rename_i hb
   obtain⟨r,H',⟨m,d,h1⟩,h2⟩:=h
   exact⟨m,d,r,_,by simp [iO,kH,hb,h1],h2⟩
  ·rename_i hb
   obtain⟨fs,r,h0,⟨r0,H0,⟨m,d,h1⟩,h2⟩,h3⟩:=h
   exact⟨m,d,r,_,by simp [iO,kH,hb,iw,h0,h1,h2],h3⟩
 | bU x args b=>
  obtain⟨c,as,r,H',h0,⟨m,d,h1⟩,h2⟩:=h
  exact⟨m,d,r,_,by simp [iO,h0,h1],h2⟩
 | recover=>exact⟨0,0,_,_,rfl,h⟩
 | «defer» x args=>
  obtain⟨f,as,h0,h1⟩:=h
  exact⟨0,0,.top,_,by simp [iO,h0],h1⟩
 | _=>
  obtain⟨v,H',h0,h1⟩:=h
  exact⟨0,0,v,_,by simp [iO,h0],h1⟩
theorem mZ:∀(os:List aV) (s:St) {K:St→Prop},OPS tab os s K→∃ m d s',jk (CF tab m d) os s=some s'∧K s'
 | [],s,K,h=>⟨0,0,s,rfl,h⟩
 | o::os,s,K,h=>by
  simp only [OPS]at h
  split at h
  ·rename_i hw
   obtain⟨m,d,v,s1,h1,h2⟩:=U3 h
   obtain⟨m',d',s',h3,h4⟩:=mZ os _ h2
   refine⟨max m m',max d d',s',?_,h4⟩
   have e1:=EC (nV (tab:=tab) (Nat.le_max_left m m') (Nat.le_max_left d d')) h1
   have e3:=fP (nV (tab:=tab) (Nat.le_max_right m m') (Nat.le_max_right d d')) os _ h3
   simp only [jk,jD,hw,e1,e3]
  ·rename_i hw
   obtain⟨m',d',s',h3,h4⟩:=mZ os _ h
   exact⟨m',d',s',by simp only [jk,jD,hw,h3],h4⟩
  ·exact h.elim
variable{fn:Nat}{ro:Option Nat}{k:List dR}{s:St}{Q:Option ah→St→Prop}{a b:ah}
theorem qC{todo:List dR}{todo':List dR}{s':St}(h:WP tab fn ro todo' s' Q)
  (hs:∀ m d n,run (CF tab m d) fn (n+1) ro todo s=run (CF tab m d) fn n ro todo' s'):WP tab fn ro todo s Q:=by
 obtain⟨n,m,d,j,s1,h1,h2⟩:=h
 exact⟨n+1,m,d,j,s1,by rw [hs,h1],h2⟩
theorem jF(h:Q none s):WP tab fn ro [] s Q:=⟨1,0,0,none,s,rfl,h⟩
theorem aN{i:Nat}(h:WP tab fn ro k s Q):WP tab fn ro (.inBlock i::k) s Q:=qC h fun _ _ _=>rfl
theorem Ui(h:WP tab fn ro (.code a::.inLoop a::k) s Q):WP tab fn ro (.inLoop a::k) s Q:=qC h fun _ _ _=>rfl
theorem aK(h:WP tab fn ro k s Q):WP tab fn ro (.code .skip::k) s Q:=qC h fun _ _ _=>rfl
theorem YK{l:Nat}(h:WP tab fn ro k s Q):WP tab fn ro (.code (.label l)::k) s Q:=qC h fun _ _ _=>rfl
theorem JH(h:WP tab fn ro (.code a::.inScope a::k) s Q):WP tab fn ro (.code (.scope a)::k) s Q:=qC h fun _ _ _=>rfl
theorem ak(h:WP tab fn ro (.code a::.code b::k) s Q):WP tab fn ro (.code (.seq a b)::k) s Q:=qC h fun _ _ _=>rfl
theorem aP{i:Nat}(h:WP tab fn ro (.code a::.inBlock i::k) s Q):WP tab fn ro (.code (.block i a)::k) s Q:=qC h fun _ _ _=>rfl
theorem aO(h:Q (some .ret) s):WP tab fn ro (.code .ret::k) s Q:=⟨1,0,0,some .ret,s,rfl,h⟩
theorem bM{i:Nat}{k':List dR}(he:exitTo i k=some k')(h:WP tab fn ro k' s Q):WP tab fn ro (.code (.exit i)::k) s Q:=
 qC h fun _ _ _=>by simp only [run,he]
theorem QS{c:Arg}{v:Bool}(hc:c.ev s.regs=.c (.f (.bool v)))(h:WP tab fn ro (.code (if v then a else b)::k) s Q) :
  WP tab fn ro (.code (.cond c a b)::k) s Q:=qC h fun _ _ _=>by simp only [run,hc]
theorem aC{c:Arg}(hc:c.ev s.regs=.c (.f (.bool true)))(h:WP tab fn ro (.code a::k) s Q) :
  WP tab fn ro (.code (.cond c a b)::k) s Q:=QS hc h
theorem aA{c:Arg}(hc:c.ev s.regs=.c (.f (.bool false)))(h:WP tab fn ro (.code b::k) s Q) :
  WP tab fn ro (.code (.cond c a b)::k) s Q:=QS hc h
theorem zW{m m' d d' n n':Nat}{todo:List dR}{x:Option ah × St}(hm:m≤m')(hd:d≤d')(hn:n≤n')
  (h:run (CF tab m d) fn n ro todo s=some x):run (CF tab m' d') fn n' ro todo s=some x:=
 uU (nV hm hd) n n' ro todo s hn h
theorem aj{ops:List aV}(hr:ro=none∨ops.all (·.op.gX)=true)(h:OPS tab ops s fun s'=>WP tab fn ro k s' Q) :
  WP tab fn ro (.code (.region ops [])::k) s Q:=by
 obtain⟨m,d,s',h1,n,m',d',j,s2,h2,h3⟩:=mZ ops s h
 refine⟨n+1,max m m',max d d',j,s2,?_,h3⟩
 have e1:=fP (nV (tab:=tab) (Nat.le_max_left m m') (Nat.le_max_left d d')) ops _ h1
 have e2:=zW (Nat.le_max_right m m') (Nat.le_max_right d d') (Nat.le_refl n) h2
 have hro:(ro.isSome&&!ops.all (·.op.gX))=false:=by
  rcases hr with rfl | hr
  ·rfl
  ·rw [hr];simp
 simp only [run,hro,jO,e1,e2]
 simp
theorem dA(I:Nat→St→Prop)(n:Nat)(h0:I n s)
  (step:∀ n s,I n s→(∀ n' s',n'<n→I n' s'→WP tab fn ro (.inLoop a::k) s' Q)→WP tab fn ro (.code a::.inLoop a::k) s Q) :
  WP tab fn ro (.code (.loop a)::k) s Q:=by
 have key:∀ n s,I n s→WP tab fn ro (.code a::.inLoop a::k) s Q:=by
  intro n
  induction n using Nat.strongRecOn with
  | _ n ih=>
   intro s hs
   exact step n s hs fun n' s' hn hs'=>Ui (ih n' hn s' hs')
 exact qC (key n s h0) fun _ _ _=>rfl
def Fin(tab:Nat→Option AFunc)(af:AFunc)(r:V)(H':Heap)(s:St):Prop:=
 ∃ m d H1,gJ (CF tab m d) s.defs s.heap=some H1∧results s.regs H1 af.results=some r∧H1=H'
theorem Fj{f:Nat}{af:AFunc}(ht:tab f=some af)(hl:args.length=af.ps.length)
  (h:WP tab f none [.code af.body] ⟨dK af.ps args .e,[],H⟩ fun _ s=>Fin tab af r H' s):Ev tab (.fn f) args H r H':=by
 obtain⟨n,m,d,j,s,h1,m',d',H1,h2,h3,rfl⟩:=h
 obtain⟨M,hM1,hM2,hM3⟩:∃ M,m≤M∧m'≤M∧n≤M:=⟨max (max m m') n,by omega,by omega,by omega⟩
 obtain⟨E,hE1,hE2⟩:∃ E,d≤E∧d'≤E:=⟨max d d',by omega,by omega⟩
 refine⟨M,E+1,?_⟩
 have e1:run (CF tab M E) f M none [.code af.body] ⟨dK af.ps args .e,[],H⟩=some (j,s):=zW hM1 hE1 hM3 h1
 have e2:=mF (nV (tab:=tab) hM2 hE2) _ _ h2
 have hp:nH f args H=none:=rfl
 simp only [CF]at e1 e2 ⊢
 simp only [iE,hp,ht,hl,if_true,e1,e2,h3,Option.map_some]
def Es(res:List mW)(r:V)(s:St):Prop:=s.defs=[]∧∃ r0,results s.regs s.heap res=some r0∧exV deep s.heap r0=some r
theorem gY{f:Nat}{ps:List P}{res:List mW}{body:ah}(ht:tab f=some ⟨ps,res,body⟩)(hl:args.length=ps.length)
  (h:∀ Q:Option ah→St→Prop,(∀ j s,Es res r s→Q j s)→WP tab f none [.code body] ⟨dK ps args .e,[],[]⟩ Q):Pure tab f args r:=by
 have h':=h (fun _ s=>Es res r s) fun _ _ h=>h
 obtain⟨n,m,d,j,s,h1,hd,r0,h2,h3⟩:=h'
 exact⟨r0,s.heap,Fj ht hl ⟨n,m,d,j,s,h1,0,0,s.heap,by rw [hd];rfl,h2,rfl⟩,h3⟩
end
end Km
end
section
namespace Km
open Go
def P.Uc:Nat→Nat→P
 | 0,_=>.h
 | k+1,n=>if n=0 then .h else if n % 2=1 then .o (Uc k ((n-1) / 2))else .i (Uc k ((n-2) / 2))
def P.nat(n:Nat):P:=P.Uc n n
theorem uD:∀(k n:Nat),n≤k→(P.Uc k n).toNat=n
 | 0,n,hn=>by simp [P.Uc,P.toNat];omega
 | k+1,n,hn=>by
  unfold P.Uc
  split
  ·simp [P.toNat, *]
  ·split
   ·simp [P.toNat];rw [uD k _ (by omega)];omega
   ·simp [P.toNat];rw [uD k _ (by omega)];omega
theorem EP(n:Nat):(P.nat n).toNat=n:=uD n n (Nat.le_refl n)
theorem nat_ne{a b:Nat}(hab:a≠b):P.nat a≠P.nat b:=fun e=>hab (by rw [←EP a,←EP b,e])
theorem T.kR(v:V):∀(p:P) (t:T),(t.set p v).get p=v
 | .h,.e=>rfl
 | .h,.n _ _ _=>rfl
 | .o p,.e=>T.kR v p .e
 | .o p,.n l _ _=>T.kR v p l
 | .i p,.e=>T.kR v p .e
 | .i p,.n _ _ r=>T.kR v p r
theorem T.nI(v:V):∀(p q:P) (t:T),p≠q→(t.set p v).get q=t.get q
 | .h,.h,_,h=>absurd rfl h
 | .h,.o q,.e,_=>by cases q<;>rfl
 | .h,.i q,.e,_=>by cases q<;>rfl
 | .h,.o _,.n _ _ _,_=>rfl
 | .h,.i _,.n _ _ _,_=>rfl
 | .o _,.h,.e,_=>rfl
 | .o _,.h,.n _ _ _,_=>rfl
 | .i _,.h,.e,_=>rfl
 | .i _,.h,.n _ _ _,_=>rfl
 | .o p,.o q,.e,h=>by
  show(T.set .e p v).get q=_
  rw [T.nI v p q .e (fun e=>h (by rw [e]))]
  cases q<;>rfl
 | .o p,.o q,.n l _ _,h=>T.nI v p q l (fun e=>h (by rw [e]))
 | .o p,.i q,.e,h=>by
  show T.get .e q=_
  cases q<;>rfl
 | .o _,.i _,.n _ _ _,_=>rfl
 | .i p,.o q,.e,h=>by
  show T.get .e q=_
  cases q<;>rfl
 | .i _,.o _,.n _ _ _,_=>rfl
 | .i p,.i q,.e,h=>by
  show(T.set .e p v).get q=_
  rw [T.nI v p q .e (fun e=>h (by rw [e]))]
  cases q<;>rfl
 | .i p,.i q,.n _ _ r,h=>T.nI v p q r (fun e=>h (by rw [e]))
def T.g(t:T)(n:Nat):V:=t.get (P.nat n)
def T.s(t:T)(n:Nat)(v:V):T:=t.set (P.nat n) v
@[simp] theorem T.g_s (t:T) (n m:Nat) (v:V):(t.s n v).g m=if n=m then v else t.g m:=by
 unfold T.g T.s
 split
 ·rename_i h;subst h;exact T.kR v _ t
 ·rename_i h;exact T.nI v _ _ t (nat_ne h)
def R(n:Nat):Arg:=.r (P.nat n)
def D(n:Nat):Option P:=some (P.nat n)
def G(n:Nat)(w:Bool):Option (P × Bool):=some (P.nat n,w)
abbrev vi(n:Int):V:=.c (.f (.int .i64 n))
abbrev vb(b:Bool):V:=.c (.f (.bool b))
abbrev fi(n:Int):FC:=.int .i64 n
@[simp] theorem aut (t:T) (n:Nat):(R n).ev t=t.g n:=rfl
@[simp] theorem aZH (t:T) (v:V):(Arg.k v).ev t=v:=rfl
@[simp] theorem aYe (t:T) (n:Nat) (v:V):nG t (D n) v=t.s n v:=rfl
@[simp] theorem aNx (t:T) (v:V):nG t none v=t:=rfl
@[simp] theorem atK (t:T) (n:Nat):t.get (P.nat n)=t.g n:=rfl
@[simp] theorem aFF (n:Nat) (ps:List P) (v:V) (vs:List V) (t:T):dK (P.nat n::ps) (v::vs) t=dK ps vs (t.s n v):=rfl
@[simp] theorem aGX (vs:List V) (t:T):dK [] vs t=t:=rfl
@[simp] theorem aFC (t:T):wanted t none=some true:=rfl
@[simp] theorem aNX (t:T) (n:Nat) (w:Bool):wanted t (G n w)=match t.g n with
  | .c (.f (.bool b))=>some (b == w)
  | .t []=>some false
  | _=>none:=rfl
attribute [simp] fD
def KO(o:Option (V × Heap))(t:T)(ds:List fV)(K:V→St→Prop):Prop:=∃ p,o=some p∧K p.1 ⟨t,ds,p.2⟩
@[simp] theorem aU0 (v:V) (H:Heap) (t:T) (ds:List fV) (K:V→St→Prop):KO (some (v,H)) t ds K↔K v ⟨t,ds,H⟩:=⟨fun⟨_,h,k⟩=>by cases h;exact k,fun k=>⟨_,rfl,k⟩⟩
def KP(P:V→Prop)(t:T)(ds:List fV)(H:Heap)(K:V→St→Prop):Prop:=∃ x,P x∧K x ⟨t,ds,H⟩
@[simp] theorem aZw (x:V) (t:T) (ds:List fV) (H:Heap) (K:V→St→Prop):KP (Eq x) t ds H K↔K x ⟨t,ds,H⟩:=⟨fun⟨_,h,k⟩=>by cases h;exact k,fun k=>⟨x,rfl,k⟩⟩
def E2(x:V)(H:Heap)(y:V)(H':Heap):Prop:=x=y∧H=H'
def KE(P:V→Heap→Prop)(t:T)(ds:List fV)(K:V→St→Prop):Prop:=∃ x H,P x H∧K x ⟨t,ds,H⟩
@[simp] theorem aZx (x:V) (H:Heap) (t:T) (ds:List fV) (K:V→St→Prop):KE (E2 x H) t ds K↔K x ⟨t,ds,H⟩:=⟨fun⟨_,_,⟨h1,h2⟩,k⟩=>by cases h1;cases h2;exact k,fun k=>⟨x,H,⟨rfl,rfl⟩,k⟩⟩
section
variable(tab:Nat→Option AFunc)
def KC(fs:Option (List V))(f:Nat)(t:T)(ds:List fV)(H:Heap)(K:V→St→Prop):Prop:=∃ a,fs=some a∧KP (Pure tab f a) t ds H K
def KD(c:Option (Callee × List V))(t:T)(ds:List fV)(H:Heap)(K:V→St→Prop):Prop:=∃ a,c=some a∧KE (Ev tab a.1 a.2 H) t ds K
def KS(os:List aV)(L:St→Prop)(s:St):Prop:=OPS tab os s L
def FS(s:St)(K:St→Prop):Prop:=K s
def KV(o:Option P)(os:List aV)(L:St→Prop)(v:V)(s:St):Prop:=FS ⟨nG s.regs o v,s.defs,s.heap⟩ (KS tab os L)
def GRD(w:Option Bool)(op:AOp)(o:Option P)(os:List aV)(L:St→Prop)(s:St):Prop:=
 match w with
 | some true=>ONE tab s op (KV tab o os L)
 | some false=>FS ⟨nG s.regs o (.t []),s.defs,s.heap⟩ (KS tab os L)
 | none=>False
end
section
variable{tab:Nat→Option AFunc}{t:T}{ds:List fV}{H:Heap}{K:V→St→Prop}{L:St→Prop}
@[simp] theorem aU2 (a:List V) (f:Nat):KC tab (some a) f t ds H K↔KP (Pure tab f a) t ds H K:=⟨fun⟨_,h,k⟩=>by cases h;exact k,fun k=>⟨_,rfl,k⟩⟩
@[simp] theorem aU1 (c:Callee) (a:List V):KD tab (some (c,a)) t ds H K↔KE (Ev tab c a H) t ds K:=⟨fun⟨_,h,k⟩=>by cases h;exact k,fun k=>⟨_,rfl,k⟩⟩
@[simp] theorem aZA (s:St) (K:St→Prop):FS s K↔K s:=Iff.rfl
@[simp ↓] theorem aZv (os:List aV) (s:St):KS tab os L s↔OPS tab os s L:=Iff.rfl
@[simp ↓] theorem aZu (o:Option P) (os:List aV) (v:V):KV tab o os L v ⟨t,ds,H⟩↔FS ⟨nG t o v,ds,H⟩ (KS tab os L):=Iff.rfl
@[simp ↓] theorem aZy (op:AOp) (o:Option P) (os:List aV) (s:St):GRD tab (some true) op o os L s↔ONE tab s op (KV tab o os L):=Iff.rfl
@[simp ↓] theorem aZz (op:AOp) (o:Option P) (os:List aV):GRD tab (some false) op o os L ⟨t,ds,H⟩↔FS ⟨nG t o (.t []),ds,H⟩ (KS tab os L):=Iff.rfl
theorem QX{b:Bool}{op:AOp}{o:Option P}{os:List aV}{s:St}(h1:b=false→GRD tab (some true) op o os L s)(h2:b=true→GRD tab (some false) op o os L s):GRD tab (some !b) op o os L s:=by
 cases b
 ·exact h1 rfl
 ·exact h2 rfl
@[simp ↓] theorem aUY (s:St):OPS tab [] s L↔L s:=Iff.rfl
@[simp ↓] theorem aT1 (o:Option P) (op:AOp) (os:List aV):OPS tab (⟨o,op,none⟩::os) ⟨t,ds,H⟩ L↔ONE tab ⟨t,ds,H⟩ op (KV tab o os L):=Iff.rfl
@[simp ↓] theorem aNP (o:Option P) (op:AOp) (n:Nat) (w:Bool) (os:List aV) :
  OPS tab (⟨o,op,G n w⟩::os) ⟨t,ds,H⟩ L↔GRD tab (wanted t (G n w)) op o os L ⟨t,ds,H⟩:=by
 simp only [OPS]
 rcases hw:wanted t (G n w)with _ | _ | _<;>exact Iff.rfl
def AOp.plain:AOp→Bool
 | .call _ _ _ | .bU _ _ _ | .recover | .defer _ _=>false
 | _=>true
theorem dS{op:AOp}(h:op.plain=true):ONE tab ⟨t,ds,H⟩ op K↔KO (xOp t H op) t ds K:=by
 have:ONE tab ⟨t,ds,H⟩ op K↔∃ v H',xOp t H op=some (v,H')∧K v ⟨t,ds,H'⟩:=by
  cases op<;>first | exact Iff.rfl | simp [AOp.plain]at h
 rw [this]
 exact⟨fun⟨v,H',h,k⟩=>⟨(v,H'),h,k⟩,fun⟨p,h,k⟩=>⟨p.1,p.2,h,k⟩⟩
@[simp ↓] theorem aUw (x:Arg):ONE tab ⟨t,ds,H⟩ (.mov x) K↔KO (xOp t H (.mov x)) t ds K:=dS rfl
@[simp ↓] theorem aP7 (c a b:Arg):ONE tab ⟨t,ds,H⟩ (.pick c a b) K↔KO (xOp t H (.pick c a b)) t ds K:=dS rfl
@[simp ↓] theorem aNF (zs:List FC):ONE tab ⟨t,ds,H⟩ (.alloc zs) K↔KO (xOp t H (.alloc zs)) t ds K:=dS rfl
@[simp ↓] theorem aUz (x:Arg):ONE tab ⟨t,ds,H⟩ (.box x) K↔KO (xOp t H (.box x)) t ds K:=dS rfl
@[simp ↓] theorem aNE (zs:List FC) (parts:List (Nat × Nat × Arg)):ONE tab ⟨t,ds,H⟩ (.build zs parts) K↔KO (xOp t H (.build zs parts)) t ds K:=dS rfl
@[simp ↓] theorem aJ9 (sz:Nat) (zs:List FC) (len:Nat) (parts:List (Nat × Arg)):ONE tab ⟨t,ds,H⟩ (.aU sz zs len parts) K↔KO (xOp t H (.aU sz zs len parts)) t ds K:=dS rfl
@[simp ↓] theorem aQa (n:Option Nat) (x:Arg):ONE tab ⟨t,ds,H⟩ (.load n x) K↔KO (xOp t H (.load n x)) t ds K:=dS rfl
@[simp ↓] theorem aNz (n:Nat) (x y:Arg):ONE tab ⟨t,ds,H⟩ (.store n x y) K↔KO (xOp t H (.store n x y)) t ds K:=dS rfl
@[simp ↓] theorem aJ6 (x:Arg):ONE tab ⟨t,ds,H⟩ (.bF x) K↔KO (xOp t H (.bF x)) t ds K:=dS rfl
@[simp ↓] theorem aUA (op:BinOp) (x y:Arg):ONE tab ⟨t,ds,H⟩ (.bin op x y) K↔KO (xOp t H (.bin op x y)) t ds K:=dS rfl
@[simp ↓] theorem aYg (neg:Bool) (k:EqK) (x y:Arg):ONE tab ⟨t,ds,H⟩ (.eq neg k x y) K↔KO (xOp t H (.eq neg k x y)) t ds K:=dS rfl
@[simp ↓] theorem aYf (op:UnOp) (x:Arg):ONE tab ⟨t,ds,H⟩ (.un op x) K↔KO (xOp t H (.un op x)) t ds K:=dS rfl
@[simp ↓] theorem aUy (k:IntKind) (x:Arg):ONE tab ⟨t,ds,H⟩ (.cvi k x) K↔KO (xOp t H (.cvi k x)) t ds K:=dS rfl
@[simp ↓] theorem aP8 (f:Nat) (caps:List Arg):ONE tab ⟨t,ds,H⟩ (.iP f caps) K↔KO (xOp t H (.iP f caps)) t ds K:=dS rfl
@[simp ↓] theorem aFM (sz bytes:Nat) (zs:List FC) (l c:Arg):ONE tab ⟨t,ds,H⟩ (.eu sz bytes zs l c) K↔KO (xOp t H (.eu sz bytes zs l c)) t ds K:=dS rfl
@[simp ↓] theorem aNA (sz:Nat) (x:Arg) (lo hi mx:Option Arg):ONE tab ⟨t,ds,H⟩ (.slice sz x lo hi mx) K↔KO (xOp t H (.slice sz x lo hi mx)) t ds K:=dS rfl
@[simp ↓] theorem aJ8 (off:Nat) (x:Arg):ONE tab ⟨t,ds,H⟩ (.au off x) K↔KO (xOp t H (.au off x)) t ds K:=dS rfl
@[simp ↓] theorem aJ7 (sz:Nat) (arr:Option Nat) (x i:Arg):ONE tab ⟨t,ds,H⟩ (.aF sz arr x i) K↔KO (xOp t H (.aF sz arr x i)) t ds K:=dS rfl
@[simp ↓] theorem aFN (x:Arg) (i:Nat):ONE tab ⟨t,ds,H⟩ (.extract x i) K↔KO (xOp t H (.extract x i)) t ds K:=dS rfl
@[simp ↓] theorem aUx (x:Arg):ONE tab ⟨t,ds,H⟩ (.len x) K↔KO (xOp t H (.len x)) t ds K:=dS rfl
@[simp ↓] theorem aKa (sz bytes:Nat) (x y:Arg):ONE tab ⟨t,ds,H⟩ (.append sz bytes x y) K↔KO (xOp t H (.append sz bytes x y)) t ds K:=dS rfl
@[simp ↓] theorem aP9 (lo:Bool) (xs:List Arg):ONE tab ⟨t,ds,H⟩ (.iT lo xs) K↔KO (xOp t H (.iT lo xs)) t ds K:=dS rfl
@[simp ↓] theorem aNB (sz:Nat) (zs:List FC) (x:Arg):ONE tab ⟨t,ds,H⟩ (.clear sz zs x) K↔KO (xOp t H (.clear sz zs x)) t ds K:=dS rfl
@[simp ↓] theorem aQb (f:Nat) (args:List Arg):ONE tab ⟨t,ds,H⟩ (.call f args false) K ↔
  KC tab (bD (fU deep H) (fD t args)) f t ds ((fD t args).foldl (mkV deep) H) K:=by
 simp only [ONE,KC,KP]
 constructor
 ·intro h;rw [if_neg (by simp)]at h;obtain⟨fs,r,h1,h2,h3⟩:=h;exact⟨fs,h1,r,h2,h3⟩
 ·rintro⟨fs,h1,r,h2,h3⟩;rw [if_neg (by simp)];exact⟨fs,r,h1,h2,h3⟩
@[simp ↓] theorem aNC (f:Nat) (args:List Arg):ONE tab ⟨t,ds,H⟩ (.call f args true) K↔KD tab (some (.fn f,fD t args)) t ds H K:=by simp [ONE,KD,KE]
@[simp ↓] theorem aND (x:Arg) (args:List Arg) (h:Bool):ONE tab ⟨t,ds,H⟩ (.bU x args h) K↔KD tab (dB (x.ev t) (fD t args)) t ds H K:=by
 simp only [ONE,KD,KE]
 constructor
 ·rintro⟨c,as,r,H',h1,h2,h3⟩;exact⟨(c,as),h1,r,H',h2,h3⟩
 ·rintro⟨⟨c,as⟩,h1,r,H',h2,h3⟩;exact⟨c,as,r,H',h1,h2,h3⟩
end
def OI:V→Option Bool
 | .c (.f (.bool b))=>some b
 | _=>none
@[simp] theorem aNO (b:Bool):OI (.c (.f (.bool b)))=some b:=rfl
section
variable{t:T}{H:Heap}
@[simp] theorem aZd (x:Arg):xOp t H (.mov x)=some (x.ev t,H):=rfl
@[simp] theorem aZc (o:Os) (sz:Nat):xOp t H (.pre o sz)=if o=.loc∨sz=0 then none else some (.c (.sl H.length 0 0 0 0 sz),H++[.opn sz [] 0 0 o]):=rfl
@[simp] theorem aU3 (c x y:Arg):xOp t H (.pick c x y)=(OI (c.ev t)).map fun b=>(if b then x.ev t else y.ev t,H):=by
 simp only [xOp,OI]
 split
 ·rename_i b h;simp only [h];cases b<;>rfl
 ·rename_i h
  split
  ·rename_i b h';exact absurd h' (h b)
  ·rfl
@[simp] theorem aUq (zs:List FC):xOp t H (.alloc zs)=some (.c (.ptr H.length 0 0),H++[.box (zs.map .f) 0]):=rfl
@[simp] theorem aZf (x:Arg):xOp t H (.box x)=(x.ev t).cells?.map fun xs=>(.c (.ptr H.length 0 0),H++[.box xs 0]):=by
 simp only [xOp];cases (x.ev t).cells?<;>rfl
@[simp] theorem aUp (zs:List FC) (ps:List (Nat × Nat × Arg)):xOp t H (.build zs ps)=(iy t (zs.map .f) ps).map fun cs=>(.a cs,H):=rfl
@[simp] theorem aNU (sz:Nat) (zs:List FC) (n:Nat) (ps:List (Nat × Arg)):xOp t H (.aU sz zs n ps) =
  if n=0 then(if ps.isEmpty then some (.c (.f .es),H)else none)else
  (iy t ((dQ n zs).map .f) (ps.map fun p=>(p.1*sz,sz,p.2))).map fun cs=>(.c (.sl H.length 0 n n 0 sz),H++[.box cs 0]):=rfl
@[simp] theorem aU7 (n:Option Nat) (x:Arg):xOp t H (.load n x)=(ldV H n (x.ev t)).map (·,H):=rfl
def F9(H:Heap)(n:Nat)(x y:V):Option Heap:=
 match x,y.cells? with
 | .c p,some xs=>if xs.length=n then stC H p xs else none
 | _,_=>none
@[simp] theorem aUj (n:Nat) (x y:Arg):xOp t H (.store n x y)=(F9 H n (x.ev t) (y.ev t)).map (.top,·):=by
 simp only [xOp,F9]
 cases x.ev t with
 | c p=>cases (y.ev t).cells? with
  | none=>rfl
  | some xs=>by_cases h:xs.length=n<;>simp [h]
 | _=>rfl
@[simp] theorem aNY (n:Nat) (p:C) (y:V):F9 H n (.c p) y=y.cells?.bind fun xs=>if xs.length=n then stC H p xs else none:=by
 simp only [F9];cases y.cells?<;>rfl
@[simp] theorem aZg (op:BinOp) (x y:Arg):xOp t H (.bin op x y)=(dN op (x.ev t) (y.ev t)).map (·,H):=rfl
@[simp] theorem x_eq (neg:Bool) (k:EqK) (x y:Arg):xOp t H (.eq neg k x y)=(eqV H k (x.ev t) (y.ev t)).map fun b=>(vb (if neg then !b else b),H):=rfl
@[simp] theorem aZB (op:UnOp) (x:Arg):xOp t H (.un op x)=(unV op (x.ev t)).map (·,H):=rfl
def aK8(k:IntKind):V→Option V
 | .c (.f (.int _ n))=>some (.c (.f (.int k (k.wrap n))))
 | _=>none
@[simp] theorem aYO (k j:IntKind) (n:Int):aK8 k (.c (.f (.int j n)))=some (.c (.f (.int k (k.wrap n)))):=rfl
@[simp] theorem aZe (k:IntKind) (x:Arg):xOp t H (.cvi k x)=(aK8 k (x.ev t)).map (·,H):=by
 simp only [xOp,aK8]
 split
 ·rename_i h;simp only [h];rfl
 ·rename_i h
  split
  ·rename_i h';exact absurd h' (h _ _)
  ·rfl
@[simp] theorem aU4 (f:Nat) (caps:List Arg):xOp t H (.iP f caps)=(bD y8 (fD t caps)).map fun xs=>(.c (.cl f xs),H):=rfl
@[simp] theorem aU5 (f:Nat) (caps:List Arg):xOp t H (.vF f caps)=(bD y8 (fD t caps)).map fun xs=>(.c (.bm f xs),H):=rfl
@[simp] theorem aUl (sz:Nat) (x:Arg) (lo hi mx:Option Arg):xOp t H (.slice sz x lo hi mx)=(jc H sz (x.ev t) (lo.map (·.ev t)) (hi.map (·.ev t)) (mx.map (·.ev t))).map (·,H):=rfl
@[simp] theorem aUm (n sz:Nat) (x:Arg) (lo hi mx:Option Arg):xOp t H (.tq n sz x lo hi mx)=(nZ H n sz (x.ev t) (lo.map (·.ev t)) (hi.map (·.ev t)) (mx.map (·.ev t))).map (·,H):=rfl
@[simp] theorem aUk (x:Arg) (lo hi:Option Arg):xOp t H (.uS x lo hi)=(zQ (x.ev t) (lo.map (·.ev t)) (hi.map (·.ev t))).map (·,H):=rfl
@[simp] theorem aNT (o:Nat) (x:Arg):xOp t H (.au o x)=(mP o (x.ev t)).map (·,H):=rfl
@[simp] theorem aUn (o:Nat) (n:Option Nat) (x:Arg):xOp t H (.field o n x)=(xH o n (x.ev t)).map (·,H):=rfl
@[simp] theorem aNS (sz:Nat) (arr:Option Nat) (x i:Arg):xOp t H (.aF sz arr x i)=(bC H sz arr (x.ev t) (i.ev t)).map (·,H):=rfl
@[simp] theorem aU9 (x i:Arg):xOp t H (.idxs x i)=(JM (x.ev t) (i.ev t)).map (·,H):=rfl
@[simp] theorem aVa (len sz:Nat) (n:Option Nat) (x i:Arg):xOp t H (.G9 len sz n x i)=(JO len sz n (x.ev t) (i.ev t)).map (·,H):=rfl
def cOf:V→Option C
 | .c x=>some x
 | _=>none
@[simp] theorem aZs (x:C):cOf (.c x)=some x:=rfl
@[simp] theorem x_len (x:Arg):xOp t H (.len x)=((cOf (x.ev t)).bind (cO H)).map fun n=>(vi (n:Nat),H):=by
 simp only [xOp,cOf]
 cases x.ev t with
 | c y=>simp only [Option.bind_some];cases cO H y<;>rfl
 | _=>rfl
def strOf:V→Option ByteArray
 | .c (.f (.str s))=>some s
 | _=>none
@[simp] theorem aUt (s:ByteArray):strOf (.c (.f (.str s)))=some s:=rfl
@[simp] theorem aU8 (n:Nat):xOp t H (.BP n)=some (vi (n:Nat),H):=rfl
@[simp] theorem aNV (sz bytes:Nat) (x y:Arg):xOp t H (.append sz bytes x y)=dh H sz bytes (x.ev t) (y.ev t):=rfl
@[simp] theorem aVb (sz:Nat) (x y:Arg):xOp t H (.copy sz x y)=copyV H sz (x.ev t) (y.ev t):=rfl
@[simp] theorem aU6 (lo:Bool) (xs:List Arg):xOp t H (.iT lo xs)=(JA lo (fD t xs)).map (·,H):=rfl
def tOf:V→Option (List V)
 | .t vs=>some vs
 | _=>none
@[simp] theorem aZi (vs:List V):tOf (.t vs)=some vs:=rfl
@[simp] theorem aNw (x:Arg) (i:Nat):xOp t H (.extract x i)=(tOf (x.ev t)).bind fun vs=>vs[i]?.map (·,H):=by
 simp only [xOp,tOf]
 split
 ·rename_i h;simp only [h];rfl
 ·rename_i h
  split
  ·rename_i h';exact absurd h' (h _)
  ·rfl
def zo:V→Option V
 | .c (.ptr b o e)=>some (.c (.ptr b o e))
 | .c (.f (.fp cs o))=>some (.c (.f (.fp cs o)))
 | _=>none
@[simp] theorem aKe (b o e:Nat):zo (.c (.ptr b o e))=some (.c (.ptr b o e)):=rfl
@[simp] theorem aNG (cs:List FC) (o:Nat):zo (.c (.f (.fp cs o)))=some (.c (.f (.fp cs o))):=rfl
@[simp] theorem aNR (x:Arg):xOp t H (.bF x)=(zo (x.ev t)).map (·,H):=by
 simp only [xOp,zo]
 split
 ·rename_i h;simp only [h];rfl
 ·rename_i h;simp only [h];rfl
 ·rename_i h1 h2
  split
  ·rename_i h;exact absurd h (h1 _ _ _)
  ·rename_i h;exact absurd h (h2 _ _)
  ·rfl
@[simp] theorem aNL (f:Nat) (caps:List FC) (args:List V):dB (.c (.f (.fn f caps))) args=some (.fn f,args++caps.map fun x=>.c (.f x)):=rfl
@[simp] theorem aNM (f:Nat) (caps:List C) (args:List V):dB (.c (.cl f caps)) args=some (.fn f,args++caps.map .c):=rfl
@[simp] theorem aNN (f:Nat) (first:List C) (args:List V):dB (.c (.bm f first)) args=some (.fn f,first.map .c++args):=rfl
end
section
variable{k:IntKind}{a b:Int}{H:Heap}
@[simp] theorem aUU:dN .add (.c (.f (.int k a))) (.c (.f (.int k b)))=some (.c (.f (.int k (k.wrap (a+b))))):=by simp [dN,qI,V.int]
@[simp] theorem aUM:dN .sub (.c (.f (.int k a))) (.c (.f (.int k b)))=some (.c (.f (.int k (k.wrap (a-b))))):=by simp [dN,qI,V.int]
@[simp] theorem aUO:dN .mul (.c (.f (.int k a))) (.c (.f (.int k b)))=some (.c (.f (.int k (k.wrap (a*b))))):=by simp [dN,qI,V.int]
theorem jA(h:b≠0):dN .quo (.c (.f (.int k a))) (.c (.f (.int k b)))=some (.c (.f (.int k (k.wrap (a.tdiv b))))):=by simp [dN,qI,V.int,h]
theorem fC(h:b≠0):dN .rem (.c (.f (.int k a))) (.c (.f (.int k b)))=some (.c (.f (.int k (a.tmod b)))):=by simp [dN,qI,V.int,h]
@[simp] theorem aUT:dN .eql (.c (.f (.int k a))) (.c (.f (.int k b)))=some (vb (decide (a=b))):=by simp [dN,qI,V.bool];rfl
@[simp] theorem aUN:dN .neq (.c (.f (.int k a))) (.c (.f (.int k b)))=some (vb (!decide (a=b))):=by simp [dN,qI,V.bool];rfl
@[simp] theorem aUP:dN .lss (.c (.f (.int k a))) (.c (.f (.int k b)))=some (vb (decide (a<b))):=by simp [dN,qI,V.bool]
@[simp] theorem aUQ:dN .leq (.c (.f (.int k a))) (.c (.f (.int k b)))=some (vb (decide (a≤b))):=by simp [dN,qI,V.bool]
@[simp] theorem aUR:dN .gtr (.c (.f (.int k a))) (.c (.f (.int k b)))=some (vb (decide (b<a))):=by simp [dN,qI,V.bool]
@[simp] theorem aUS:dN .geq (.c (.f (.int k a))) (.c (.f (.int k b)))=some (vb (decide (b≤a))):=by simp [dN,qI,V.bool]
@[simp] theorem aRy {x y:Bool}:eqP .bool (.f (.bool x)) (.f (.bool y))=some (x == y):=rfl
@[simp] theorem aUH:eqP .int (.f (.int k a)) (.f (.int k b))=some (a == b):=by simp [eqP]
@[simp] theorem aUG {x y:ByteArray}:eqP .str (.f (.str x)) (.f (.str y))=some (x == y):=rfl
@[simp] theorem aUI:eqL [] [] []=some true:=rfl
@[simp] theorem aRz {q:CK} {qs:List CK} {x y:C} {xs ys:List C}:eqL (q::qs) (x::xs) (y::ys)=(eqP q x y).bind fun c=>(eqL qs xs ys).map fun d=>c&&d:=by
 simp only [eqL];cases eqP q x y<;>cases eqL qs xs ys<;>rfl
@[simp] theorem aRx {x y:Bool}:eqV H .bool (.c (.f (.bool x))) (.c (.f (.bool y)))=some (x == y):=rfl
@[simp] theorem aYM {ks:List CK} {xs ys:List C}:eqV H (.st ks) (.a xs) (.a ys)=eqL ks xs ys:=rfl
@[simp] theorem aVd {x:Bool}:unV .not (.c (.f (.bool x)))=some (vb (!x)):=rfl
@[simp] theorem aK2 {o c o' ep:Nat}:mP o (.c (.ptr c o' ep))=some (.c (.ptr c (o'+o) ep)):=rfl
@[simp] theorem aNJ {o o':Nat} {cs:List FC}:mP o (.c (.f (.fp cs o')))=some (.c (.f (.fp cs (o'+o)))):=rfl
@[simp] theorem aUJ {x:C}:(V.c x).cells?=some [x]:=rfl
@[simp] theorem aUK {xs:List C}:(V.a xs).cells?=some xs:=rfl
@[simp] theorem aZM {n:Nat} {x:FC}:exC n H (.f x)=some x:=by cases n<;>rfl
@[simp] theorem aRv {n:Nat} {x:C}:fU n H (.c x)=(exC n H x).map fun y=>.c (.f y):=rfl
@[simp] theorem aZp {n f:Nat} {caps:List C}:exC (n+1) H (.cl f caps)=(bD (exC n H) caps).map (.fn f):=rfl
@[simp] theorem aYK {n b o e:Nat}:exC (n+1) H (.ptr b o e)=match H[b]? with
  | some (.box cs _)=>(bD (exC n H) cs).map (.fp · o)
  | _=>none:=rfl
theorem oV{n b o l c ep sz:Nat}:exC (n+1) H (.sl b o l c ep sz)=match H[b]? with
  | some (.box cs _)=>if o+l*sz≤cs.length then(bD (exC n H) ((cs.drop o).take (l*sz))).map (.fs · l)else none
  | some (.opn s cs _ e .loc)=>if ep=e∧sz=s∧o+l*sz≤cs.length then(bD (exC n H) ((cs.drop o).take (l*sz))).map (.fs · l)else none
  | some (.opn s _ _ e .nil)=>if ep=e∧sz=s then some .ay else none
  | some (.opn s _ _ e .es)=>if ep=e∧sz=s then some .es else none
  | _=>none:=rfl
theorem aKh{n b o e:Nat}:mkC (n+1) (.ptr b o e) H=match H[b]? with
  | some (.box cs fl)=>cs.foldl (fun H x=>mkC n x H) (H.set b (.box cs (Nat.max fl cs.length)))
  | _=>H:=rfl
theorem Jy{n b o l c e sz:Nat}:mkC (n+1) (.sl b o l c e sz) H=match H[b]? with
  | some (.box cs fl)=>((cs.drop o).take (l*sz)).foldl (fun H x=>mkC n x H) (H.set b (.box cs (Nat.max fl (o+l*sz))))
  | some (.opn s cs fl e st)=>((cs.drop o).take (l*sz)).foldl (fun H x=>mkC n x H) (H.set b (.opn s cs (Nat.max fl (o+l*sz)) e st))
  | _=>H:=rfl
theorem aQt{n f:Nat}{caps:List C}:mkC (n+1) (.cl f caps) H=caps.foldl (fun H x=>mkC n x H) H:=rfl
@[simp] theorem aZF {n:Nat} {x:C}:mkV n H (.c x)=mkC n x H:=rfl
@[simp] theorem aZq {n:Nat} {x:C}:exV n H (.c x)=(exC n H x).map fun y=>.c (.f y):=rfl
theorem qX{n:Nat}:∀(xs:List FC),bD (exC n H) (xs.map .f)=some xs
 | []=>rfl
 | x::xs=>by simp [bD,qX xs]
@[simp] theorem aZr {n:Nat} {xs:List C}:fU n H (.a xs)=(bD (exC n H) xs).map fun ys=>.a (ys.map .f):=rfl
@[simp] theorem aUD {n:Nat} (xs:List FC):bD (exC n H) (xs.map .f)=some xs:=qX xs
@[simp] theorem aZG {n:Nat} {xs:List C}:mkV n H (.a xs)=xs.foldl (fun H x=>mkC n x H) H:=rfl
@[simp] theorem aFO {n:Nat} {x:FC}:mkC n (.f x) H=H:=by cases n<;>rfl
@[simp] theorem aNI {n:Nat} (xs:List FC):(xs.map C.f).foldl (fun H x=>mkC n x H) H=H:=by
 induction xs with
 | nil=>rfl
 | cons x xs ih=>simp only [List.map_cons,List.foldl_cons];rw [aFO];exact ih
end
theorem wrapu8{n:Int}(h1:0≤n)(h2:n≤255):IntKind.wrap .u8 n=n:=by
 simp only [IntKind.wrap,IntKind.bits,IntKind.signed]
 simp
 omega
theorem kP{H:Heap}{sz n b o ep:Nat}{k:IntKind}{i:Int}(h0:0≤i)(h1:i<n):bC H sz (some n) (.c (.ptr b o ep)) (.c (.f (.int k i)))=some (.c (.ptr b (o+i.toNat*sz) ep)):=by
 simp [bC,jG,h0,h1]
theorem wrap64{n:Int}(h1:-9223372036854775808≤n)(h2:n≤9223372036854775807):IntKind.wrap .i64 n=n:=by
 simp only [IntKind.wrap,IntKind.bits,IntKind.signed]
 simp
 omega
@[simp] theorem cast_eq (a b:Nat):((a:Int)=(b:Int))=(a=b):=propext Int.natCast_inj
@[simp] theorem aQG {α β:Type} (g:α→Option β):bD g []=some []:=rfl
@[simp] theorem aNH {α β:Type} (g:α→Option β) (x:α) (xs:List α):bD g (x::xs)=(g x).bind fun y=>(bD g xs).map (y::·):=by
 simp only [bD]
 cases g x<;>cases bD g xs<;>simp
@[simp] theorem aUs (x:C) (xs:List C):iK none (x::xs)=some (.c x):=rfl
@[simp] theorem aUr (n:Nat) (xs:List C):iK (some n) xs=if n≤xs.length then some (.a (xs.take n))else none:=rfl
@[simp] theorem bT (H:Heap) (n:Option Nat) (b o ep:Nat):ldV H n (.c (.ptr b o ep))=match H[b]? with
  | some (.box cs _)=>iK n (cs.drop o)
  | some (.opn _ cs _ e .loc)=>if ep=e then iK n (cs.drop o)else none
  | _=>none:=by
 simp only [ldV,gu]
 split
 ·rename_i h;simp only [h];rfl
 ·rename_i h;simp only [h];split<;>rfl
 ·rename_i h1 h2
  split
  ·rename_i h;exact absurd h (h1 _ _)
  ·rename_i h;exact absurd h (h2 _ _ _ _)
  ·rfl
theorem qZ(H:Heap)(n:Option Nat)(cs:List FC)(o:Nat):ldV H n (.c (.f (.fp cs o)))=iK n ((cs.drop o).map .f):=rfl
@[simp] theorem fG (H:Heap) (b o ep:Nat) (xs:List C):stC H (.ptr b o ep) xs=match H[b]? with
  | some (.box cs fl)=>if fl≤o∧o+xs.length≤cs.length then some (H.set b (.box (over cs o xs) fl))else none
  | some (.opn sz cs fl e .loc)=>if ep=e∧fl≤o∧o+xs.length≤cs.length then some (H.set b (.opn sz (over cs o xs) fl e .loc))else none
  | _=>none:=rfl
attribute [simp] over dQ
@[simp] theorem aJB (t:T) (cs:List C):iy t cs []=some cs:=rfl
@[simp] theorem aFK (t:T) (cs:List C) (o n:Nat) (x:Arg) (ps:List (Nat × Nat × Arg)):iy t cs ((o,n,x)::ps)=(x.ev t).cells?.bind fun xs=>if xs.length=n∧o+xs.length≤cs.length then iy t (over cs o xs) ps else none:=by
 simp only [iy];cases (x.ev t).cells?<;>rfl
@[simp] theorem aYQ (x:FC):y8 (.c (.f x))=some (.f x):=rfl
@[simp] theorem aRB (b o e:Nat):y8 (.c (.ptr b o e))=some (.ptr b o e):=rfl
@[simp] theorem aUL (b o l c e s:Nat):y8 (.c (.sl b o l c e s))=some (.sl b o l c e s):=rfl
def aGJ:V→Option V
 | .t _=>none
 | v=>some v
@[simp] theorem aVe (x:C):aGJ (.c x)=some (.c x):=rfl
@[simp] theorem aVf (x:List C):aGJ (.a x)=some (.a x):=rfl
@[simp] theorem aUv (t:T) (H:Heap) (n:Nat):fH t H (.tmp (P.nat n))=aGJ (t.g n):=by
 simp only [fH,atK]
 cases t.g n<;>rfl
@[simp] theorem aOg (t:T) (H:Heap) (n:Nat) (k:Option Nat):fH t H (.cell (P.nat n) k)=ldV H k (t.g n):=rfl
@[simp] theorem aUF {t:T} {H:Heap} {x:mW} {r:V}:Es [x] r ⟨t,[],H⟩↔∃ r0,fH t H x=some r0∧exV deep H r0=some r:=by
 simp only [Es,results,true_and,bD]
 cases fH t H x<;>simp
@[simp] theorem aUE {t:T} {H:Heap} {x y:mW} {a b:V}:Es [x,y] (.t [a,b]) ⟨t,[],H⟩ ↔
  (∃ r0,fH t H x=some r0∧fU deep H r0=some a)∧∃ r0,fH t H y=some r0∧fU deep H r0=some b:=by
 simp only [Es,results,true_and,bD]
 cases fH t H x with
 | none=>simp
 | some u=>cases fH t H y with
  | none=>simp
  | some w=>cases h1:fU deep H u<;>cases h2:fU deep H w<;>simp [exV,h1,h2]
inductive Tg where | nil | es | fs
 deriving DecidableEq
def Tg.fc:Tg→FC
 | .nil=>.ay
 | .es=>.es
 | .fs=>.fs [] 0
def sl(g:Tg)(rows:List (List FC)):FC:=if rows.isEmpty then g.fc else .fs rows.flatten rows.length
def Grid(sz:Nat)(rows:List (List FC)):Prop:=∀ r ∈ rows,r.length=sz
theorem bK{sz:Nat}:∀ {rows:List (List FC)},Grid sz rows→rows.flatten.length=rows.length*sz
 | [],_=>by simp
 | r::rows,h=>by
  have:=bK (rows:=rows) fun x hx=>h x (List.mem_cons_of_mem _ hx)
  simp only [List.flatten_cons,List.length_append,List.length_cons,this,h r List.mem_cons_self,Nat.add_mul,Nat.one_mul]
  omega
theorem Fq{sz:Nat}:∀ {rows:List (List FC)} (j:Nat),Grid sz rows→rows.flatten.drop (j*sz)=(rows.drop j).flatten
 | rows,0,_=>by simp
 | [],j+1,_=>by simp
 | r::rows,j+1,h=>by
  have hr:=h r List.mem_cons_self
  have:=Fq (rows:=rows) j fun x hx=>h x (List.mem_cons_of_mem _ hx)
  rw [List.flatten_cons,List.drop_succ_cons,←this,Nat.add_mul,Nat.one_mul,List.drop_append,hr]
  simp [hr,show j*sz+sz-sz=j*sz by omega]
theorem EG{sz:Nat}:∀ {rows:List (List FC)} (j:Nat),Grid sz rows→rows.flatten.take (j*sz)=(rows.take j).flatten
 | rows,0,_=>by simp
 | [],j+1,_=>by simp
 | r::rows,j+1,h=>by
  have hr:=h r List.mem_cons_self
  have:=EG (rows:=rows) j fun x hx=>h x (List.mem_cons_of_mem _ hx)
  rw [List.flatten_cons,List.take_succ_cons,List.flatten_cons,←this,Nat.add_mul,Nat.one_mul,List.take_append,hr]
  simp [hr,show j*sz+sz-sz=j*sz by omega]
  rw [List.take_of_length_le (by omega)]
theorem Grid.map{α:Type}{sz:Nat}{l:List α}{g:α→List FC}(h:∀ x,(g x).length=sz):Grid sz (l.map g):=fun r hr=>by
 obtain⟨x,_,rfl⟩:=List.mem_map.1 hr;exact h x
theorem nM{sz j k:Nat}{rows:List (List FC)}{row:List FC}(hg:Grid sz rows)(hj:rows[j]?=some row)(hk:k≤sz) :
  rows.flatten.drop (j*sz+k)=row.drop k++(rows.drop (j+1)).flatten:=by
 have hl:j<rows.length:=(List.getElem?_eq_some_iff.1 hj).1
 have hr:row.length=sz:=hg row (List.mem_of_getElem? hj)
 rw [←List.drop_drop,Fq j hg,List.drop_eq_getElem_cons hl,List.flatten_cons]
 have:rows[j]=row:=by simpa [List.getElem?_eq_getElem hl]using hj
 rw [this,List.drop_append,show k-row.length=0 by omega]
 simp
variable{H:Heap}
theorem kY{sz j k:Nat}{rows:List (List FC)}{row:List FC}{x:FC}(hg:Grid sz rows)(hj:rows[j]?=some row)(hx:row[k]?=some x) :
  ldV H none (.c (.f (.fp rows.flatten (j*sz+k))))=some (.c (.f x)):=by
 have hr:row.length=sz:=hg row (List.mem_of_getElem? hj)
 have hk:k<row.length:=(List.getElem?_eq_some_iff.1 hx).1
 have e:=nM (k:=k) hg hj (by omega)
 simp only [ldV,gu,Option.bind_some,e]
 rw [List.drop_eq_getElem_cons hk]
 have:row[k]=x:=by simpa [List.getElem?_eq_getElem hk]using hx
 simp [iK,this]
theorem QN{sz j k n:Nat}{rows:List (List FC)}{row:List FC}(hg:Grid sz rows)(hj:rows[j]?=some row)(hk:k+n≤sz) :
  ldV H (some n) (.c (.f (.fp rows.flatten (j*sz+k))))=some (.a (((row.drop k).take n).map .f)):=by
 have hr:row.length=sz:=hg row (List.mem_of_getElem? hj)
 have e:=nM (k:=k) hg hj (by omega)
 simp only [ldV,gu,Option.bind_some,e]
 simp only [iK]
 rw [if_pos (by simp only [List.length_map,List.length_append,List.length_drop];omega)]
 rw [List.map_append,List.take_append_of_le_length (by simp only [List.length_map,List.length_drop];omega),List.map_take]
theorem dI{sz j:Nat}{rows:List (List FC)}{row:List FC}(hg:Grid sz rows)(hj:rows[j]?=some row) :
  ldV H (some sz) (.c (.f (.fp rows.flatten (j*sz))))=some (.a (row.map .f)):=by
 have hr:row.length=sz:=hg row (List.mem_of_getElem? hj)
 have:=QN (H:=H) (k:=0) (n:=sz) hg hj (by omega)
 simp only [Nat.add_zero,List.drop_zero]at this
 rw [this,List.take_of_length_le (by omega)]
theorem zq{sz j:Nat}{rows:List (List FC)}{row:List FC}{x:FC}(hg:Grid sz rows)(hj:rows[j]?=some row)(hx:row[0]?=some x) :
  ldV H none (.c (.f (.fp rows.flatten (j*sz))))=some (.c (.f x)):=kY (k:=0) hg hj hx
theorem as8{j:Nat}{l:List Int}{x:Int}(hj:l[j]?=some x) :
  ldV H none (.c (.f (.fp (l.map fun n=>[fi n]).flatten (j*1))))=some (vi x):=
 zq (row:=[fi x]) (Grid.map fun _=>rfl) (by rw [List.getElem?_map,hj];rfl) rfl
@[simp] theorem aKo (g:Tg) (rows:List (List FC)):cO H (.f (sl g rows))=some rows.length:=by
 cases rows with
 | nil=>cases g<;>rfl
 | cons r rows=>rfl
theorem bQ{g:Tg}{rows:List (List FC)}{sz:Nat}{k:IntKind}{i:Int}(h0:0≤i)(h1:i<rows.length) :
  bC H sz none (.c (.f (sl g rows))) (.c (.f (.int k i)))=some (.c (.f (.fp rows.flatten (i.toNat*sz)))):=by
 cases rows with
 | nil=>simp at h1;omega
 | cons r rows=>
  simp only [List.length_cons]at h1
  simp [bC,jG,sl,h0]
  omega
theorem Zu{g:Tg}{rows:List (List FC)}{sz:Nat}(hg:Grid sz rows):dP H sz (.f (sl g rows))=some (rows.flatten.map .f):=by
 cases rows with
 | nil=>cases g<;>simp [sl,Tg.fc,dP]
 | cons r rows=>
  have:=bK hg
  simp only [sl,List.isEmpty_cons,Bool.false_eq_true,if_false,dP,this,if_true]
end Km
end
section
namespace Km
open Go
def Kf(tab:Nat→Option AFunc)(f:Nat)(args:List V)(r:V):Prop:=∀ H,∃ J,Ev tab (.fn f) args H r (H++J)
section
variable{tab:Nat→Option AFunc}{f:Nat}{args:List V}{r:V}
theorem Kf.pure{x:FC}(h:Kf tab f args (.c (.f x))):Pure tab f args (.c (.f x)):=by
 obtain⟨J,h⟩:=h []
 exact⟨_,_,h,by simp⟩
theorem Kf.eq{x:FC}(h:Kf tab f args (.c (.f x))):Pure tab f args=Eq (.c (.f x)):=
 funext fun r=>propext ⟨fun k=>h.pure.det k,fun e=>e▸h.pure⟩
theorem Pure.eq{r:V}(h:Pure tab f args r):Pure tab f args=Eq r:=funext fun _=>propext ⟨fun k=>h.det k,fun e=>e▸h⟩
noncomputable def junk (tab:Nat→Option AFunc) (f:Nat) (args:List V) (H:Heap):Heap:=Classical.epsilon fun J=>∃ r,Ev tab (.fn f) args H r (H++J)
theorem Kf.ev(h:Kf tab f args r)(H:Heap):Ev tab (.fn f) args H=E2 r (H++junk tab f args H):=by
 have hj:∃ J,∃ r,Ev tab (.fn f) args H r (H++J):=by obtain⟨J,hJ⟩:=h H;exact⟨J,r,hJ⟩
 have hs:∃ r,Ev tab (.fn f) args H r (H++junk tab f args H):=Classical.epsilon_spec hj
 obtain⟨J,hJ⟩:=h H
 obtain⟨r',hr⟩:=hs
 obtain⟨rfl,e⟩:=hJ.det hr
 funext x H'
 exact propext ⟨fun k=>hr.det k,fun⟨e1,e2⟩=>e1▸e2▸hr⟩
theorem Ev.eq{c:Callee}{H H':Heap}(h:Ev tab c args H r H'):Ev tab c args H=E2 r H':=funext fun _=>funext fun _=>propext ⟨fun k=>h.det k,fun⟨e1,e2⟩=>e1▸e2▸h⟩
theorem Kf.aHs{xs:List FC}(h:Kf tab f args (.a (xs.map .f))):Pure tab f args (.a (xs.map .f)):=by
 obtain⟨J,h⟩:=h []
 exact⟨_,_,h,by simp [exV]⟩
def auv(res:List mW)(r:V)(H:Heap)(s:St):Prop:=s.defs=[]∧results s.regs s.heap res=some r∧∃ J,s.heap=H++J
theorem eG{ps:List P}{res:List mW}{body:ah}(ht:tab f=some ⟨ps,res,body⟩)(hl:args.length=ps.length)
  (h:∀(H:Heap) (Q:Option ah→St→Prop),(∀ j s,auv res r H s→Q j s)→WP tab f none [.code body] ⟨dK ps args .e,[],H⟩ Q):Kf tab f args r:=by
 intro H
 have h':=h H (fun _ s=>auv res r H s) fun _ _ h=>h
 obtain⟨n,m,d,j,s,h1,hd,h2,J,h3⟩:=h'
 exact⟨J,Fj ht hl ⟨n,m,d,j,s,h1,0,0,s.heap,by rw [hd];rfl,by rw [h2],h3⟩⟩
@[simp] theorem aRt {t:T} {H H':Heap} {x:mW}:auv [x] r H ⟨t,[],H'⟩↔fH t H' x=some r∧∃ J,H'=H++J:=by
 simp only [auv,results,true_and,bD]
 cases fH t H' x<;>simp
@[simp] theorem aRP (H L:Heap):(H++L)[H.length]?=L[0]?:=by rw [List.getElem?_append_right (Nat.le_refl _)];simp
@[simp] theorem aUV (H L:Heap) (n:Nat):(H++L)[H.length+n]?=L[n]?:=by rw [List.getElem?_append_right (by omega)];congr 1;omega
theorem yc{m d:Nat}{x:FC}(h:(CF tab m d (.fn f) args []).map (·.1)=some (.c (.f x))):Pure tab f args (.c (.f x)):=by
 rw [Option.map_eq_some_iff]at h
 obtain⟨⟨r,H'⟩,h1,h2⟩:=h
 exact⟨r,H',⟨m,d,h1⟩,by rw [show r=.c (.f x) from h2];simp⟩
theorem uZ{m d:Nat}{x:V}(h:((CF tab m d (.fn f) args []).bind fun p=>exV deep p.2 p.1)=some x):Pure tab f args x:=by
 rw [Option.bind_eq_some_iff]at h
 obtain⟨⟨r,H'⟩,h1,h2⟩:=h
 exact⟨r,H',⟨m,d,h1⟩,h2⟩
theorem D9{b:Bool}(h:∃ m d H',iE tab nH m d (.fn f) [] []=some (.c (.f (.bool b)),H')):Pure tab f [] (vb b):=by
 obtain⟨m,d,H',h⟩:=h
 exact⟨_,H',⟨m,d,h⟩,by simp⟩
theorem lD{S:V→Prop}{ps:List P}{res:List mW}{body:ah}(ht:tab f=some ⟨ps,res,body⟩)(hl:args.length=ps.length)
  (h:∀ Q:Option ah→St→Prop,(∀ j s r,S r→Es res r s→Q j s)→WP tab f none [.code body] ⟨dK ps args .e,[],[]⟩ Q):∃ r,S r∧Pure tab f args r:=by
 have h':=h (fun _ s=>∃ r,S r∧Es res r s) fun _ _ r h1 h2=>⟨r,h1,h2⟩
 obtain⟨n,m,d,j,s,h1,r,hr,hd,r0,h2,h3⟩:=h'
 exact⟨r,hr,r0,s.heap,Fj ht hl ⟨n,m,d,j,s,h1,0,0,s.heap,by rw [hd];rfl,h2,rfl⟩,h3⟩
variable{fn i:Nat}{ro:Option Nat}{k:List dR}{ds:List fV}{Q:Option ah→St→Prop}
def aKF(a x:Nat):ah:=.region [⟨D x,.bin .add (R a) (.k (.c (.f (.int .i64 1)))),none⟩,⟨D a,.mov (R x),none⟩] []
def MN(i a b c x:Nat)(body:ah):ah:=.seq (.region [⟨D c,.bin .lss (R a) (R b),none⟩] []) (.seq (.cond (R c) .skip (.exit i)) (.seq body (aKF a x)))
def QZ(i a b c x:Nat)(body:ah):ah:=.block i (.loop (MN i a b c x body))
theorem fA{a b c x:Nat}{body:ah}{t:T}{H:Heap}(N:Nat)(I:Nat→T→Heap→Prop)(hN:N≤9223372036854775807)(hab:a≠b)(hxb:x≠b)
  (ha:t.g a=vi 0) (hb:t.g b=vi N) (h0:I 0 t H)
  (step:∀ j t H,j<N→I j t H→t.g a=vi j→t.g b=vi N →
   (∀ t' H',I (j+1) ((t'.s x (vi (j+1:Nat))).s a (vi (j+1:Nat))) H'→t'.g a=vi j→t'.g b=vi N →
    WP tab fn ro (.code (aKF a x)::.inLoop (MN i a b c x body)::.inBlock i::k) ⟨t',ds,H'⟩ Q) →
   WP tab fn ro (.code body::.code (aKF a x)::.inLoop (MN i a b c x body)::.inBlock i::k) ⟨t.s c (vb true),ds,H⟩ Q)
  (done:∀ t H,I N t H→t.g a=vi N→t.g b=vi N→WP tab fn ro k ⟨t.s c (vb false),ds,H⟩ Q) :
  WP tab fn ro (.code (QZ i a b c x body)::k) ⟨t,ds,H⟩ Q:=by
 have hro:∀ ops:List aV,ops.all (·.op.gX)=true→ro=none∨ops.all (·.op.gX)=true:=fun _ h=>.inr h
 refine aP ?_
 refine dA (fun n s=>∃ j t H,s=⟨t,ds,H⟩∧j≤N∧n=N-j∧I j t H∧t.g a=vi j∧t.g b=vi N) N ⟨0,t,H,rfl,by omega,by omega,h0,ha,hb⟩ ?_
 rintro n s ⟨j,t,H,rfl,hj,rfl,hI,ha,hb⟩ ih
 refine ak ?_
 refine aj (hro _ rfl) ?_
 simp [ha,hb]
 by_cases hlt:j<N
 ·rw [decide_eq_true hlt]
  refine ak ?_
  refine aC (by simp) ?_
  refine aK ?_
  refine ak ?_
  refine step j t H hlt hI ha hb fun t' H' hI' ha' hb'=>?_
  refine aj (hro _ rfl) ?_
  simp [ha']
  rw [wrap64 (by omega) (by omega)]
  refine ih (N-(j+1)) _ (by omega) ⟨j+1,_,H',rfl,by omega,rfl,by simpa using hI',by simp,?_⟩
  simp [hab,hxb,hb']
 ·have:j=N:=by omega
  subst this
  rw [decide_eq_false hlt]
  refine ak ?_
  refine aA (by simp) ?_
  refine bM (k':=k) (by simp [exitTo]) ?_
  exact done t H hI ha hb
def E5(a x y:Nat):ah:=.region [⟨D x,.mov (R a),none⟩,⟨D y,.bin .add (R x) (.k (.c (.f (.int .i64 1)))),none⟩,⟨D a,.mov (R y),none⟩] []
def su(i a c x y:Nat)(hd:List aV)(body:ah):ah:=.seq (.seq (.region hd []) (.cond (R c) .skip (.exit i))) (.seq body (E5 a x y))
def Zt(i a c x y:Nat)(hd:List aV)(body:ah):ah:=.block i (.loop (su i a c x y hd body))
theorem lF{a c x y:Nat}{hd:List aV}{body:ah}{t:T}{H:Heap}(N:Nat)(I:Nat→T→Heap→Prop)(hN:N≤9223372036854775807)(hxy:hd.all (·.op.gX)=true)
  (ha:t.g a=vi 0) (h0:I 0 t H)
  (head:∀ j t H (L:St→Prop),j≤N→I j t H→t.g a=vi j→(∀ t',I j t' H→t'.g a=vi j→t'.g c=vb (decide ((j:Int)<(N:Int)))→L ⟨t',ds,H⟩)→OPS tab hd ⟨t,ds,H⟩ L)
  (step:∀ j t H,j<N→I j t H→t.g a=vi j →
   (∀ t' H',I (j+1) (((t'.s x (vi j)).s y (vi (j+1:Nat))).s a (vi (j+1:Nat))) H'→t'.g a=vi j →
    WP tab fn ro (.code (E5 a x y)::.inLoop (su i a c x y hd body)::.inBlock i::k) ⟨t',ds,H'⟩ Q) →
   WP tab fn ro (.code body::.code (E5 a x y)::.inLoop (su i a c x y hd body)::.inBlock i::k) ⟨t,ds,H⟩ Q)
  (done:∀ t H,I N t H→t.g a=vi N→WP tab fn ro k ⟨t,ds,H⟩ Q) :
  WP tab fn ro (.code (Zt i a c x y hd body)::k) ⟨t,ds,H⟩ Q:=by
 have hro:∀ ops:List aV,ops.all (·.op.gX)=true→ro=none∨ops.all (·.op.gX)=true:=fun _ h=>.inr h
 refine aP ?_
 refine dA (fun n s=>∃ j t H,s=⟨t,ds,H⟩∧j≤N∧n=N-j∧I j t H∧t.g a=vi j) N ⟨0,t,H,rfl,by omega,by omega,h0,ha⟩ ?_
 rintro n s ⟨j,t,H,rfl,hj,rfl,hI,ha⟩ ih
 refine ak ?_
 refine ak ?_
 refine aj (hro _ hxy) ?_
 refine head j t H _ hj hI ha fun t' hI ha hc=>?_
 by_cases hlt:j<N
 ·rw [decide_eq_true (by omega)]at hc
  refine aC hc ?_
  refine aK ?_
  refine ak ?_
  refine step j t' H hlt hI ha fun t' H' hI' ha'=>?_
  refine aj (hro _ rfl) ?_
  simp [ha']
  rw [wrap64 (by omega) (by omega)]
  exact ih (N-(j+1)) _ (by omega) ⟨j+1,_,H',rfl,by omega,rfl,by simpa using hI',by simp⟩
 ·have:j=N:=by omega
  subst this
  rw [decide_eq_false (by omega)]at hc
  refine aA hc ?_
  refine bM (k':=k) (by simp [exitTo]) ?_
  exact done t' H hI ha
end
end Km
end
