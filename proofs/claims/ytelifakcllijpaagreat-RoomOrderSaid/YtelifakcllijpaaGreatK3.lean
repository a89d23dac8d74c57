/-
  Our own small machine for Go code by value, held BU the model: part 3. No program in R6.
-/
import Derived.Test.YtelifakcllijpaaGreatK2
import Derived.Test.YtelifakcllijpaaGreatK1
import Derived.ChangeArms
import Derived.DataReads
import Derived.Deep.Slices
import Derived.ProofKit
import Derived.RowKit3
import Derived.Below
import Derived.Carry
import Derived.Laws.IdiomArrays
open Option renaming some->aa,none->ab
open Bool renaming true->ae,false->ag
open List renaming eq_nil_of_length_eq_zero->agC, getElem?_append_right->agj, map_cons->agm, length_cons->agP, foldl_cons->aid, getElem?_eq_some_iff->OF, getElem?_eq_getElem->By, mem_cons_of_mem->agr, flatten_cons->agG, length_append->aft, mem_cons_self->ago, mem_of_getElem?->agU, drop_drop->ah4, drop_eq_getElem_cons->ags, length_map->agq, length_drop->agF, map_append->ahl, isEmpty_cons->aiH, getElem_mem->IN, cons_append->ahJ, getElem?_append_left->AI, flatten_append->ahM, drop_zero->ahi, take_of_length_le->agw, set_cons_succ->aio, length_nil->ahE, getElem?_set_self->BY, take_append_drop->ahr, length_take->agO, take_take->aik, append_nil->agN, mem_map->agt, mem_append_left->ag3, mem_append_right->ahR, getElem?_set_ne->sh, map_drop->ahZ, getElem?_drop->ahk
open Option.some renaming injEq->AT
open Prod.mk renaming injEq->agk
open Bool renaming and_eq_true->IS, false_eq_true->agH
open Option renaming bind_eq_some_iff->agR, map_eq_some_iff->IT, bind_some->ag8
open Nat renaming zero_le->ahN, le_max_left->ahc, le_max_right->ag4, le_refl->agn, add_mul->agS, mul_le_mul_right->ag9, min_eq_left->ahQ, zero_add->ahg
open Int renaming toNat_natCast->agD
set_option linter.unusedVariables false
set_option linter.constructorNameAsVariable false
set_option linter.unusedSimpArgs false
set_option linter.unusedSectionVars false
set_option maxRecDepth 100000
namespace Km
section
open Go
variable{Q:Program}{σ:Nat->FuncId}{call:ey}
structure Way(Q:Program)(σ:Nat->FuncId)(fn:Nat)(n:Nat)(b:Frame)(cs:List Frame)(ro:Option Nat)(todo:List dU)(items:List Item)(s:St)(X:Wd)(a:Act):Prop where
 fr:Fr Q σ n X s a
 items:A2 (jI Q σ n X) todo items
 ro:RoR X ro b.roundOf
 kind:lN b cs
 fn:b.fn=σ fn
theorem Way.ext{fn n:Nat}{b:Frame}{cs:List Frame}{ro:Option Nat}{j:List dU}{items:List Item}{s m:St}{X X':Wd}{a a':Act}(h:Way Q σ fn n b cs ro j items s X a){g:List dU}{d:List Item}(l:Ext X.H.length X X')(q:Fr Q σ n X' m a')
  (hi:A2 (jI Q σ n X) g d):Way Q σ fn n b cs ro g d m X' a':=
 ⟨q,hi.nZ λ_ _ h=>h.ext l,h.ro.ext l,h.kind,h.fn⟩
theorem Way.to{fn n:Nat}{b:Frame}{cs:List Frame}{ro:Option Nat}{j:List dU}{items:List Item}{s:St}{X:Wd}{a:Act}(h:Way Q σ fn n b cs ro j items s X a){g:List dU}{d:List Item}
  (hi:A2 (jI Q σ n X) g d):Way Q σ fn n b cs ro g d s X a:=⟨h.fr,hi,h.ro,h.kind,h.fn⟩
def ab6(Q:Program)(σ:Nat->FuncId)(call:ey)(fn m:Nat):Prop:=
 ∀(n:Nat) (b:Frame) (cs:List Frame) ro l g s X a j q,run call fn m ro l s=aa (j,q)->Way Q σ fn n b cs ro l g s X a->
  ∃X' a' d,Steps Q (lone (b.atR a g) cs X.w) (lone (b.atR a' d) cs X'.w)/\Fr Q σ n X' q a'/\Ext X.H.length X X'/\a'.tmps.size=a.tmps.size/\W6 j d
theorem zE{b:Frame}{a:Act}{k:List Item}{cs:List Frame}{w:World}{body:Code}:step Q (lone (b.atR a (.inScope body::k)) cs w)=.next (lone (b.atR a k) cs w):=
 step_lone_go (by simp[stepG,stepG.exec,Frame.atR])
theorem E6{b:Frame}{a:Act}{k:List Item}{cs:List Frame}{w:World}{body:Code}:step Q (lone (b.atR a (.code (.scope body)::k)) cs w)=.next (lone (b.atR a (.code body::.inScope body::k)) cs w):=
 step_lone_go (by simp[stepG,stepG.exec,Frame.atR])
theorem RX(hC:gZ Q σ call)(j6:Q.follows .mixedOrders=ae)(fn:Nat):∀m,ab6 Q σ call fn m:=by
 intro m;induction m with
 |zero=>intro n b cs ro f_ I s X a F s' h;simp[run]at h
 |succ m ih=>
  intro n b cs ro f_ I s X a F s' h z;have go:∀{B j},run call fn m ro B s=aa (F,s')->A2 (jI Q σ n X) B j->step Q (lone (b.atR a I) cs X.w)=.next (lone (b.atR a j) cs X.w)->
    ∃X' a' j,Steps Q (lone (b.atR a I) cs X.w) (lone (b.atR a' j) cs X'.w)/\Fr Q σ n X' s' a'/\Ext X.H.length X X'/\a'.tmps.size=a.tmps.size/\W6 F j:=by
   intro B j hr hi U;obtain⟨X',a',it,g1,M⟩:=ih n b cs ro B j s X a F s' hr (z.to hi);exact⟨X',a',it,.head U g1,M⟩
  cases f_ with
  |nil=>
   have:I=[]:=agC z.items.len.symm;subst this;simp only[run,AT,agk]at h;obtain⟨rfl,rfl⟩:=h;exact⟨X,a,[],Steps.refl _ _,z.fr,Ext.refl _ _,rfl,rfl⟩
  |cons x k=>
   cases I with
   |nil=>have:=z.items.len;simp at this
   |cons it K=>
    obtain⟨hx,A⟩:=z.items.of_cons;cases hx with
    |inBlock id=>exact go (by simpa[run]using h) A stepR_inBlock
    |inLoop E=>exact go (by simpa[run]using h) (A2.cons (.code E) (A2.cons (.inLoop E) A)) stepR_inLoop
    |inScope E hs=>exact go (by simpa[run]using h) A zE
    |mh hb hl=>
     rename_i bb L;simp only[run]at h;split at h
     .rename_i f t ps as bd q e_ d J;split at h
      .simp_all
      .rename_i hq;rw[<-z.fr.heap]at J;obtain⟨m0,us,a_,as',W,pend',Ld,c_,h2,h3,h4,h5,h6,Y,h8,h9⟩:=tc z.fr.sr hb J;obtain⟨g1,M⟩:=CW z.fr.sr hb J (q':=.exhausted) h2 h3 h4 h5 h6 Y h8 h9;have n_:(q.of)≠LoopState.busy:=by cases q<;>simp[dt.of]at hq ⊢
       have U:=stepR_endRangeFunc (P:=Q) (b:=b) (a:=a) (k:=K) (cs:=cs) (run_endLoop (P:=Q) c_ n_);have key:∀{B j},run call fn m ro B { s with heap:=s.heap.set bb (.lp f t ps as bd .exhausted e_ d) }=aa (F,s')->A2 (jI Q σ n X) B j->j=(pend'.map Item.code).toList++K->
         ∃X' a' j,Steps Q (lone (b.atR a (.endRangeFunc L.c::K)) cs X.w) (lone (b.atR a' j) cs X'.w)/\Fr Q σ n X' s' a'/\Ext X.H.length X X'/\a'.tmps.size=a.tmps.size/\W6 F j:=by
        intro B j hr hi he;obtain⟨X',a',it,k1,k2,k3,k4,k5⟩:=ih n b cs ro B j _ _ a F s' hr (z.ext (a':=a) M ⟨by rw[<-z.fr.heap],g1,by simpa[World.putObj]using z.fr.b,z.fr.aN.ext' σ M,z.fr.defs.ext' M,z.fr.size⟩ hi);rw[he]at k1;exact⟨X',a',it,.head U k1,k2,M.trans (k3.mono M.len),k4,k5⟩
       split at h
       .cases pend' with
        |none=>exact key h A rfl| some c=>exact Y.elim
       .cases pend' with
        |none=>exact Y.elim
        |some c=>
         have Y:cJ Q σ m0 c .ret=ae:=Y;cases c<;>simp[cJ]at Y;exact key h (A2.cons (.code (by simp[cJ])) A) rfl
       .rename_i id;cases pend' with
        |none=>exact Y.elim
        |some c=>
         have Y:cJ Q σ m0 c (.exit id)=ae:=Y;cases c<;>simp[cJ]at Y;subst Y;exact key h (A2.cons (.code (by simp[cJ])) A) rfl
       .simp_all
     .simp_all
    |qX=>
     simp only[run]at h;split at h
     .simp_all
     .rename_i bb;split at h
      .rename_i f t ps as bd e_ d J;have S:=z.ro;cases h_:b.roundOf with
       |none=>rw[h_]at S;exact S.elim
       |some l=>
        rw[h_]at S;obtain⟨L,hL,rfl,_⟩:=S;rw[<-z.fr.heap]at J;obtain⟨m0,us,a_,as',W,pend',Ld,c_,h2,h3,h4,h5,h6,Y,h8,h9⟩:=tc z.fr.sr hL J;obtain⟨g1,M⟩:=CW z.fr.sr hL J (q':=.busy) h2 h3 h4 h5 h6 Y h8 h9;have U:=stepR_beginRound (P:=Q) (b:=b) (a:=a) (k:=K) (cs:=cs) h_ (run_beginRound (P:=Q) c_ rfl);obtain⟨X',a',it,k1,k2,k3,k4,k5⟩:=ih n b cs _ k K _ _ a F s' h (z.ext (a':=a) M ⟨by rw[<-z.fr.heap],g1,by simpa[World.putObj]using z.fr.b,z.fr.aN.ext' σ M,z.fr.defs.ext' M,z.fr.size⟩ A);exact⟨X',a',it,.head U k1,k2,M.trans (k3.mono M.len),k4,k5⟩
      .simp_all
    |code E=>
     rename_i ac c;cases ac with
     |bad=>simp[run]at h| skip=>cases c<;>simp[cJ]at E;exact go (by simpa[run]using h) A stepR_skip
     |label l=>cases c<;>simp[cJ]at E;exact go (by simpa[run]using h) A stepR_label
     |scope p=>
      cases c<;>simp[cJ]at E;exact go (by simpa[run]using h) (A2.cons (.code E.1) (A2.cons (.inScope E.1 E.2) A)) E6
     |goto l=>
      cases c<;>simp[cJ]at E;subst E;rename_i l';have O:=AE (Q:=Q) (σ:=σ) (n:=n) (X:=X) l' k K A;simp only[run]at h;split at h
      .rename_i k' H;rw[H]at O;obtain⟨r7,he,c9⟩:=O;exact go h c9 (stepR_goto he)
      .simp_all
     |ret=>
      cases c<;>simp[cJ]at E;simp only[run,AT,agk]at h;obtain⟨rfl,rfl⟩:=h;exact⟨X,a,_,Steps.refl _ _,z.fr,Ext.refl _ _,rfl,K,rfl⟩
     |seq p q=>
      cases c<;>simp[cJ]at E;exact go (by simpa[run]using h) (A2.cons (.code E.1) (A2.cons (.code E.2) A)) stepR_seq
     |block id p=>
      cases c<;>simp[cJ]at E;obtain⟨rfl,E⟩:=E;exact go (by simpa[run]using h) (A2.cons (.code E) (A2.cons (.inBlock _) A)) stepR_block
     |loop p=>
      cases c<;>simp[cJ]at E;exact go (by simpa[run]using h) (A2.cons (.code E) (A2.cons (.inLoop E) A)) stepR_loop
     |exit id=>
      cases c<;>simp[cJ]at E;subst E;rename_i r6;have O:=Ay (Q:=Q) (σ:=σ) (n:=n) (X:=X) r6 k K A;simp only[run]at h;split at h
      .rename_i k' H;rw[H]at O;obtain⟨r7,he,c9⟩:=O;exact go h c9 (stepR_exit he)
      .rename_i H;rw[H]at O;split at h
       .simp only[AT,agk]at h;obtain⟨rfl,rfl⟩:=h;exact⟨X,a,_,Steps.refl _ _,z.fr,Ext.refl _ _,rfl,K,rfl,O⟩
       .simp_all
     |cond x p q=>
      cases c<;>simp[cJ]at E;simp only[run]at h;split at h
      .rename_i v hv;have hx:=cK z.fr.aN E.1.1;rw[hv]at hx;have r5:dC σ X.F X.w (.bool v) _:=hx;have he:∀u,dC σ X.F X.w (.bool v) u->u=.bool v:=λu hu=>by cases hu;rfl
       refine go h ?_ (stepR_cond (he _ r5));cases v
       .exact A2.cons (.code E.2) A
       .exact A2.cons (.code E.1.2) A
      .simp_all
     |region aos r_=>
      cases c with
      |region id ops r9=>
       simp only[run]at h;split at h
       .simp_all
       .rename_i S;split at h
        .rename_i s1 h1;have o_:∀y∈aos,jA y.op b:=by
          intro y hy;unfold jA;cases ro with
          |none=>
           refine .inl ?_;have:=z.ro;cases hb:b.roundOf with
           |none=>rfl| some l=>rw[hb]at this;exact this.elim
          |some r=>
           simp_all
         obtain⟨X1,a1,g1,M,g3,g4⟩:=My hC j6 E z.kind o_ (k:=K) z.fr h1;obtain⟨X',a',it,k1,k2,k3,k4,k5⟩:=ih n b cs ro k K s1 X1 a1 F s' h (z.ext g3 M A);exact⟨X',a',it,g1.trans k1,k2,g3.trans (k3.mono g3.len),k4.trans g4,k5⟩
        .simp_all
      |_=>simp[cJ]at E
     |oE f ps as bd=>
      cases c with
      |rangeFunc f' a_ as' W=>
       simp only[cJ,IS]at E;obtain⟨⟨⟨m9,m_⟩,n8⟩,n9⟩:=E;simp only[run]at h;split at h
       .simp_all
       .rename_i S;have p9:b.roundOf=ab:=by
         have:=z.ro;cases ro with
         |some r=>simp at S
         |none=>
          cases hb:b.roundOf with
          |none=>rfl| some l=>rw[hb]at this;exact this.elim
        split at h
        .rename_i g args i_;split at h
         .rename_i r2 H2 N;obtain⟨X1,w1,H1,S1,E1,r1,B1⟩:=SR.new z.fr.sr z.fr.b (.dQ ae) (fA.alloc X.w (.deferred (aa []))) 0 (λX' hx hw hF hH=>by
           show X'.w.heap[X.w.heap.size]?=_;rw[hw];exact(fA.alloc X.w (.deferred (aa []))).new)
          have j5:X1.H[X.H.length]?=aa (.dQ ae):=by rw[H1];simp
          have d9:X.H.length<X1.H.length:=by rw[H1];simp
          have j7:X1.w.heap.size=X.w.heap.size+1:=by rw[w1];simp
          obtain⟨X2,w2,j8,S2,E2,i7,B2⟩:=SR.new S1 B1 (.lp fn s.aN ps as bd .ready ab s.heap.length)
           (fA.alloc X1.w (.loop { state:=.ready,pending:=ab,fn:=b.fn,tmps:=a.tmps,params:=a_,assign:=as',body:=W,defers:=X.w.heap.size })) 0 (λX' hx hw hF hH=>by
            obtain⟨blk',g_,H⟩:=hx.bH X.H.length d9 _ j5;cases blk'<;>simp only at H;refine⟨n,a.tmps,a_,as',W,ab,⟨X.w.heap.size,0⟩,?_,z.fr.size,RR.ext' σ hx (RR.ext' σ E1 z.fr.aN),m_,n8,n9,trivial,?_,?_⟩
            .show X'.w.heap[X1.w.heap.size]?=_;rw[hw,(fA.alloc X1.w (.loop { state:=.ready,pending:=ab,fn:=b.fn,tmps:=a.tmps,params:=a_,assign:=as',body:=W,defers:=X.w.heap.size })).new,z.fn];rfl
            .rw[<-z.fr.heap];exact H _ r1
            .rw[<-z.fr.heap];exact⟨_,g_⟩)
          have i6:Ext X.H.length X X2:=E1.trans (E2.mono E1.len);have i8:X2.H=s.heap++[.dQ ae,.lp fn s.aN ps as bd .ready ab s.heap.length]:=by rw[j8,H1,<-z.fr.heap];simp
          have l_:X1.H.length=s.heap.length+1:=by rw[H1,<-z.fr.heap];simp
          have J:GK X2 (s.heap.length+1):=⟨fn,s.aN,ps,as,bd,.ready,ab,s.heap.length,by rw[i8,agj ap];simp⟩
          rw[l_,j7]at i7;have i9:A2 (VR σ X2) [.c (.yl (s.heap.length+1))] [.func (.yield (X.w.heap.size+1)) #[] #[]]:=A2.cons ⟨⟨X.w.heap.size+1,0⟩,i7,J,rfl⟩ A2.nil;obtain⟨fst,cap,p_,q_⟩:=rE i_ (VR.ext' σ i6 (cK z.fr.aN m9)) i9;rw[<-i8]at N;have k_:=hC.enters _ _ _ _ N
          let a1:Act:={ a with defers:={ target:=.collected X.w.heap.size,args:=#[] }::a.defers }
          obtain⟨fr,X3,u,q1,⟨l1,l2,l3,l4,j9,l5,l6⟩,q3,q4,q5,q6,q7⟩:=hC.fn g args _ r2 H2 N X2 _ .normal (b.atR a1 (.inRangeFunc (X.w.heap.size+1)::K)::cs) rfl S2 B2 q_ (.inl rfl) (.inl rfl);have U:step Q (lone (b.atR a (.code (.rangeFunc f' a_ as' W)::K)) cs X.w)=.next (lone (Frame.enter Q (σ g) (fst.toArray++#[.func (.yield (X.w.heap.size+1)) #[] #[]]++cap.toArray) .normal) (b.atR a1 (.inRangeFunc (X.w.heap.size+1)::K)::cs) X2.w):=by
           refine stepR_rangeFunc (P:=Q) (b:=b) (a:=a) (k:=K) (cs:=cs) (l:=X.w.heap.size+1) (mark:=[{ target:=.collected X.w.heap.size,args:=#[] }]) (w₁:=X2.w) (w₁':=X2.w) (d:={ target:=.fn (.func (σ g)) cap.toArray,args:=fst.toArray++#[.func (.yield (X.w.heap.size+1)) #[] #[]] }) ?_ ?_ ?_
           .rw[p9,run_enterLoop_outer,w2,w1]
           .simp only[resolve,p_,Deferred.ofValue,Sem.run_bind,Sem.run_pure,Result.andThen_ok];simp[Act.eval]
           .exact gM k_
          have Z:Ext X.H.length X X3:=i6.trans (q6.mono i6.len);have b_:=step_leave_returned (P:=Q) (c:=b.atR a1 (.inRangeFunc (X.w.heap.size+1)::K)) (cs:=cs) (show fr.leaving Q X3.w (.returned u) from⟨l1,l2,l3,j9,by rw[l4];exact l5,l6⟩);rw[finish_atR_inRangeFunc]at b_;have d_:=J.ext q6;have j_:wT σ X3 (.dY s.heap.length) { target:=.collected X.w.heap.size,args:=#[] }:=by
           obtain⟨blk',g_,H⟩:=(E2.trans (q6.mono E2.len)).bH X.H.length d9 _ j5;cases blk'<;>simp only at H;rw[<-z.fr.heap];exact⟨⟨X.w.heap.size,0⟩,_,H _ r1,g_,rfl⟩
          obtain⟨X',a',it,k1,k2,k3,k4,k5⟩:=ih n b cs ro (.mh (s.heap.length+1)::k) (.endRangeFunc (X.w.heap.size+1)::K) _ X3 a1 F s' h
           ⟨⟨q3,q4,q7,RR.ext' σ Z z.fr.aN,A2.cons j_ (z.fr.defs.ext' Z),z.fr.size⟩,A2.cons (.mh (d_.2 _ i7) d_.1) (A.nZ λ_ _ h=>h.ext Z),z.ro.ext Z,z.kind,z.fn⟩
          refine⟨X',a',it,.head U (Steps.trans ?_ (.head b_ k1)),k2,Z.trans (k3.mono Z.len),k4,k5⟩;simp_all
         .simp_all
        .simp_all
      |_=>simp[cJ]at E
end
section
open Go
variable{Q:Program}{σ:Nat->FuncId}{X:Wd}{call:ey}
def F7(Q:Program)(σ:Nat->FuncId)(rb:Nat->List V->an->Option (Option (V × an))):Prop:=
 ∀f args H r H',rb f args H=aa (aa (r,H'))->
  (∀as w,(callFunc (σ f) as).run Q w=.ok (.enter (σ f) as) w)/\
  ∀(X:Wd) us b cs,X.H=H->SR Q σ X->X.B<=X.w.heap.size->A2 (VR σ X) args us->rU b cs->b=.normal\/f≠uF->
   ∃d X' u,Steps Q (lone (Frame.enter Q (σ f) us.toArray b) cs X.w) (lone d cs X'.w)/\Leaves Q (σ f) b d u X'.w/\iw Q σ X r H' X' u
structure Env(Q:Program)(σ:Nat->FuncId)(tab:Nat->Option aM)(rb:Nat->List V->an->Option (Option (V × an))):Prop where
 mix:Q.follows .mixedOrders=ae
 fn:∀f af,tab f=aa af->∃fn,Q.funcs[σ f]?=aa fn/\AW Q σ fn af=ae
 rb:F7 Q σ rb
theorem yR:∀(ps:List P) (args:List V) (t:T) (s:Nat),ps.map P.toNat=List.range' s ps.length->args.length=ps.length->∀q:P,
  (dm ps args t).get q=if s<=q.toNat then(args[q.toNat-s]?).getD (t.get q)else t.get q
 |[],args,t,s,_,b,q=>by
  have:args=[]:=agC b;subst this;simp[dm]
 |p::ps,[],t,s,_,b,q=>by simp at b
 |p::ps,v::m,t,s,d,b,q=>by
  simp only[agm,agP,List.range'_succ,List.cons.injEq]at d;have l:=yR ps m (t.set p v) (s+1) d.2 (by simpa using b) q;simp only[dm,l];by_cases g:p=q
  .subst g;rw[ct ap,T.sT];simp_all
  .have j:q.toNat≠s:=λe=>g (P.toNat_inj (d.1.trans e.symm));simp only[T.sT,g,if_false]
   grind
theorem RR.dm:∀(ps:List P) (b:List Tmp) (args:List V) (us:List Value) (aN:T) (tmps:Array Value) (n:Nat),n<=tmps.size->RR σ X aN tmps->A2 (VR σ X) args us->args.length=ps.length->
  iy (λp (q:P)=>q.toNat == p&&decide (p<n)) b ps=ae->RR σ X (Km.dm ps args aN) ((b.zip us).foldl (λtmps (t,a)=>tmps.setIfInBounds t a) tmps)
 |[],b,args,us,aN,tmps,n,j,g,d,hl,h=>by
  have:args=[]:=agC hl;subst this;have:us=[]:=agC d.len.symm;subst this;simpa[Km.dm]using g
 |p::ps,[],args,us,aN,tmps,n,j,g,d,hl,h=>by simp[iy]at h
 |p::ps,m::b,[],us,aN,tmps,n,j,g,d,hl,h=>by simp at hl
 |p::ps,m::b,v::s,[],aN,tmps,n,j,g,d,hl,h=>by have:=d.len;simp at this
 |p::ps,m::b,v::s,u::us,aN,tmps,n,j,g,d,hl,h=>by
  simp only[iy,IS,beq_iff_eq,decide_eq_true_eq]at h;obtain⟨⟨h1,h2⟩,h3⟩:=h;obtain⟨l,d⟩:=d.of_cons;subst h1;refine RR.dm ps b s us _ _ n (by simpa using j) (RR.set σ g ap l) d (by simpa using hl) h3
theorem vO:∀(l:List (Tmp × Value)) (tmps:Array Value),(l.foldl (λtmps (t,a)=>tmps.setIfInBounds t a) tmps).size=tmps.size
 |[],_=>rfl| x::l,tmps=>by rw[aid,vO l];simp
theorem RW(fn:Nat):∀m d s b g,run call fn m ab d s=aa (b,g)->b=ab\/b=aa .ret:=by
 intro m;induction m with
 |zero=>intro d s b g h;simp[run]at h
 |succ m j=>
  intro d s b g h;unfold run at h
  grind
theorem vF{fn:Func}{af:aM}(h:AW Q σ fn af=ae):∃c,fn.name≠ "runtime.NumGoroutine"/\fn.body=aa c/\cJ Q σ fn.ntmps c af.body=ae/\
  iy (zv Q fn.ntmps) fn.results.toList af.results=ae/\af.ps.map P.toNat=List.range af.ps.length:=by
 simp only[AW,IS,bne_iff_ne,ne_eq,decide_eq_true_eq]at h
 grind
theorem tF{f:FuncId}{fn:Func}{c:Code}(hf:Q.funcs[f]?=aa fn)(hn:fn.name≠ "runtime.NumGoroutine")(hb:fn.body=aa c)(as:Array Value)(w:World):(callFunc f as).run Q w=.ok (.enter f as) w:=by
 simp[callFunc,hf,hn,hb]
def lU(g:FuncId)(d:CallKind)(tmps:Array Value)(ds:List Deferred)(b:Frame):Prop:=
 b.mode=.returning/\b.defers=ds/\b.kind=d/\b.fn=g/\b.tmps=tmps
theorem step_collected{d:Frame}{cs:List Frame}{w w':World}{b:Nat}{as:Array Value}{ds:List Deferred}(j:d.mode=.returning)(g:d.defers = { target:=.collected b,args:=as }::ds)
  (l:(Instr.takeDeferred b).run Q w=.ok [] w'):step Q (lone d cs w)=.next (lone { d with defers:=ds } cs w'):=
 step_lone_go (by simp[stepG,unwind,j,g,Sem.runT_eq,l])
theorem zG{b:Frame}{cs:List Frame}{w:World}{f:FuncId}{cap as as':Array Value}{ds:List Deferred}(g:b.mode=.returning)(d:b.defers = { target:=.fn (.func f) cap,args:=as }::ds)
  (j:(invoke (.fn (.func f) cap) as).run Q w=.ok (.enter f as') w):step Q (lone b cs w)=.next (lone (Frame.enter Q f as' .deferred) ({ b with defers:=ds }::cs) w):=
 step_lone_go (by simp[stepG,unwind,g,d,callDeferred,Sem.runT_eq,j])
theorem rh{b c:Frame}{cs:List Frame}{w:World}{v:Value}{f:FuncId}(h:Leaves Q f .deferred b v w)(hc:c.mode=.returning) :
  step Q (lone b (c::cs) w)=.next (lone c cs w):=by
 obtain⟨q,j,m,l,fn,d,g⟩:=h;rw[<-l]at d;exact step_lone_go (by simp[stepG,unwind,doReturn,q,j,m,d,Sem.runT_eq,g,hc])
theorem lU.pop{g:FuncId}{kind:CallKind}{tmps:Array Value}{d:Deferred}{ds:List Deferred}{fr:Frame}(h:lU g kind tmps (d::ds) fr):lU g kind tmps ds { fr with defers:=ds }:=
 ⟨h.1,rfl,h.2.2.1,h.2.2.2.1,h.2.2.2.2⟩
theorem B3(H:gZ Q σ call){g:FuncId}{y:CallKind}{tmps:Array Value}{cs:List Frame}:∀(ds:List gX) (X:Wd) (l:List Deferred) (q:Frame) (H':an),
  fR call ds X.H=aa H'->SR Q σ X->X.B<=X.w.heap.size->iO σ X ds l->lU g y tmps l q->
  ∃fr' X',Steps Q (lone q cs X.w) (lone fr' cs X'.w)/\lU g y tmps [] fr'/\X'.H=H'/\SR Q σ X'/\X'.B<=X'.w.heap.size/\Ext X.H.length X X'
 |[],X,l,q,H',h,B,E,z,j=>by
  have:l=[]:=agC z.len.symm;subst this;simp only[fR,AT]at h;exact⟨q,X,Steps.refl _ _,j,h,B,E,Ext.refl _ _⟩
 |d::ds,X,[],q,H',h,B,E,z,j=>by have:=z.len;simp at this
 | .dY b::ds,X,m::l,q,H',h,B,E,z,j=>by
  obtain⟨⟨L,o,h1,h2,rfl⟩,A⟩:=A2.of_cons z;simp only[fR]at h;split at h
  .rename_i I;obtain⟨_,_,cP,F,K⟩:=B.br b L h1;rw[I]at F;cases F;have x:X.w.heap[L.c]?=aa (.deferred (aa [])):=K;obtain⟨g1,J⟩:=SR.tK (o':=.deferred ab) (blk':=.dQ ag) B I h1 x bv bv
    (λcP v=>⟨.dQ ag,by simp[(OF.1 I).1],by rw[I]at v;cases v;exact λL h=>h⟩)
    (λX' c9 O _ a_ hH=>O)
   obtain⟨fr',X',S,U,W,Y,Z,k6⟩:=B3 H ds _ l { q with defers:=l } H' h g1 (by simpa using E) (iO.ext' J A) j.pop;exact⟨fr',X',.head (step_collected j.1 j.2.1 (run_takeDeferred x)) S,U,W,Y,Z,J.trans (k6.mono J.len)⟩
  .simp at h
 | .fn f args::ds,X,m::l,q,H',h,B,E,z,j=>by
  obtain⟨⟨us,cap,rfl,hA⟩,A⟩:=A2.of_cons z;simp only[fR]at h;split at h
  .simp at h
  rename_i N;split at h
  .rename_i r H1 s;have M:=H.enters f args _ _ s;obtain⟨b_,X1,u,q1,q2,q3,q4,q5,q6,q7⟩:=H.fn f args _ r H1 s X _ .deferred ({ q with defers:=l }::cs) rfl B E hA (.inr ⟨rfl,_,_,rfl,j.1⟩) (.inr N);rw[<-q3]at h;obtain⟨fr',X',S,U,W,Y,Z,k6⟩:=B3 H ds X1 l { q with defers:=l } H' h q4 q7 (iO.ext' q6 A) j.pop;refine⟨fr',X',.head (zG (as':=us++cap) j.1 j.2.1 (gM M)) (Steps.trans ?_ (.head (rh (c:={ q with defers:=l }) q2 j.1) S)),U,W,Y,Z,q6.trans (k6.mono q6.len)⟩;have e:(us.toList++cap.toList).toArray=us++cap:=by apply Array.ext';simp
   simp_all
  .simp at h
theorem ZB(E:SR Q σ X){n:Nat}{aN:T}{tmps:Array Value}(m:RR σ X aN tmps){r:ResultVar}{a:ku}(g:zv Q n r a=ae){v:V}
  (h:cC aN X.H a=aa v):∃u,(match r with| .tmp t=>pure (tmps.getD t undef)| .cell a t=>do loadVar t (<-asAddr (tmps.getD a undef)):Sem Value).run Q X.w=.ok u X.w/\jO σ X v u:=by
 cases r with
 |tmp t=>
  cases a with
  |tmp p=>
   simp only[zv,IS,beq_iff_eq,decide_eq_true_eq]at g;have d:=m p;rw[g.1]at d;simp only[cC]at h;refine⟨_,rfl,?_⟩;split at h
   .simp at h
   .rename_i j;simp only[AT]at h;rw[h]at d;cases v with
    |t H=>exact absurd h (j H)| top=>trivial| c x=>exact d| a xs=>exact d
  |cell p k=>simp[zv]at g
 |cell t I=>
  cases a with
  |tmp p=>simp[zv]at g
  |cell p k=>
   simp only[zv,IS,beq_iff_eq,decide_eq_true_eq]at g;have d:=m p;rw[g.1.1]at d;simp only[cC]at h;cases q:aN.get p with
   |c x=>
    rw[q]at h d;simp only[aV,agR]at h;obtain⟨cs,s,b⟩:=h;obtain⟨c,o,us,F,z,A⟩:=xu E d s;obtain⟨u,B,l⟩:=E8 g.2 z A b;refine⟨u,by simp[F,asAddr,B],?_⟩;cases k with
    |none=>cases cs with
     |nil=>simp[aW]at b| cons y ys=>simp only[aW,AT]at b;subst b;exact l
    |some k=>
     simp only[aW]at b;split at b
     .simp only[AT]at b;subst b;exact l
     .simp_all
   |_=>rw[q]at h;simp[aV]at h
theorem Hh(J:SR Q σ X){fn:Func}{l:List ku}(K:iy (zv Q fn.ntmps) fn.results.toList l=ae){aN:T}{tmps:Array Value}(I:RR σ X aN tmps){v:V}
  (h:Km.results aN X.H l=aa v):∃u,(Go.results fn tmps).run Q X.w=.ok u X.w/\VR σ X v u:=by
 have key:∀(l:List ku) (qs:List ResultVar) (j:List V),iy (zv Q fn.ntmps) qs l=ae->bu (cC aN X.H) l=aa j->
   ∃us:List Value,(qs.mapM (λr=>match r with| .tmp t=>pure (tmps.getD t undef)| .cell a t=>do loadVar t (<-asAddr (tmps.getD a undef)):ResultVar->Sem Value)).run Q X.w=.ok us X.w/\A2 (jO σ X) j us:=by
  intro l;induction l with
  |nil=>
   intro qs j x m;cases qs with
   |nil=>simp only[bu,AT]at m;subst m;exact⟨[],rfl,A2.nil⟩| cons q qs=>simp[iy]at x
  |cons a l L=>
   intro qs j x m;cases qs with
   |nil=>simp[iy]at x
   |cons q qs=>
    simp only[iy,IS]at x;simp only[bu]at m;split at m
    .simp_all
    .rename_i A E;split at m
     .simp_all
     .rename_i B F;simp only[AT]at m;subst m;obtain⟨u,s,b⟩:=ZB J I x.1 E;obtain⟨us,M,H⟩:=L qs B x.2 F;refine⟨u::us,?_,A2.cons b H⟩;simp_all
 unfold Km.results at h;have y:∀j,bu (cC aN X.H) l=aa j->∃us:List Value,(Go.results fn tmps).run Q X.w=.ok (if h:us.toArray.size=1 then us.toArray[0]else .tuple us.toArray) X.w/\A2 (jO σ X) j us:=by
  intro j g;obtain⟨us,s,b⟩:=key l fn.results.toList j K g;refine⟨us,?_,b⟩;unfold Go.results;rw[Array.mapM_eq_mapM_toList,Sem.run_bind,Sem.run_map];exact(congrArg (λr:Result (List Value)=>(r.andThen λa w'=>Result.ok a.toArray w').andThen λa w'=>Sem.run Q (pure (if h:a.size=1 then a[0]else Value.tuple a)) w') s).trans rfl
 split at h
 .rename_i A g;simp only[AT]at h;subst h;obtain⟨us,s,b⟩:=y _ g
  match us,b with
  |[u],b=>exact⟨u,s,VR.SD σ b.of_cons.1⟩| [],b=>have:=b.len;simp at this| _::_::_,b=>have:=b.len;simp at this
 .rename_i j z g;simp only[AT]at h;subst h;obtain⟨us,s,b⟩:=y _ g;refine⟨.tuple us.toArray,?_,us,rfl,b⟩;rw[s,dif_neg];intro d
  match us,d with
  |[u],_=>
   match j,b with
   |[A],_=>exact z A rfl| [],b=>have:=b.len;simp at this| _::_::_,b=>have:=b.len;simp at this
  |[],d=>simp at d| _::_::_,d=>simp at d
 .simp at h
end
section
open Go
variable{Q:Program}{σ:Nat->FuncId}{tab:Nat->Option aM}{rb:Nat->List V->an->Option (Option (V × an))}
theorem acx(n:Env Q σ tab rb){m:Nat}{call:ey}(i:gZ Q σ call){f:Nat}{j:aM}(J:tab f=aa j){args:List V}(F:args.length=j.ps.length){x:Option aE}{A:St}{X:Wd}
  (v:run call f m ab [.code j.body] ⟨dm j.ps args .e,[],X.H⟩=aa (x,A)) {H':an} (l:fR call A.defs A.heap=aa H') {r:V} (s:Km.results A.aN H' j.results=aa r)
  {us:List Value} {d:CallKind} {cs:List Frame} (hS:SR Q σ X) (hB:X.B<=X.w.heap.size) (h:A2 (VR σ X) args us) (hk:rU d cs) :
  ∃Y X' u,Steps Q (lone (Frame.enter Q (σ f) us.toArray d) cs X.w) (lone Y cs X'.w)/\Leaves Q (σ f) d Y u X'.w/\iw Q σ X r H' X' u:=by
 obtain⟨fn,o,hm⟩:=n.fn f j J;obtain⟨c,N,y,z,S,O⟩:=vF hm
 let b:Frame:=Frame.enter Q (σ f) us.toArray d
 let a0:Act:={ tmps:=us.toArray++Array.replicate (fn.ntmps-us.toArray.size) undef,defers:=[] }
 have hb:b=b.atR a0 [.code c]:=by
  simp[b,a0,Frame.enter,Frame.atR,o,y]
 have U:fn.ntmps<=a0.tmps.size:=by simp[a0];omega
 have M:RR σ X (dm j.ps args .e) a0.tmps:=by
  intro p;rw[yR j.ps args .e 0 (by rw[O,List.range_eq_range']) F p];simp only[ahN,if_true,Nat.sub_zero];by_cases t:p.toNat<args.length
  .have w:=By t;have H:p.toNat<us.length:=h.len▸t;have hy:=By H;have hv:=h.2 _ _ _ w hy;rw[w];have:a0.tmps.getD p.toNat undef=us[p.toNat]:=by
    simp[a0,Array.getD_eq_getD_getElem?,Array.getElem?_append,H]
   simp_all
  .rw[List.getElem?_eq_none ap];cases p<;>trivial
 have hF:Fr Q σ fn.ntmps X ⟨dm j.ps args .e,[],X.H⟩ a0:=⟨rfl,hS,hB,M,A2.nil,U⟩
 have hW:Way Q σ f fn.ntmps b cs ab [.code j.body] [.code c] ⟨dm j.ps args .e,[],X.H⟩ X a0:=⟨hF,A2.cons (.code z) A2.nil,trivial,hk,rfl⟩
 obtain⟨K,a1,g,s1,B,E1,_,W⟩:=RX i n.mix f m fn.ntmps b cs ab _ _ _ X a0 x A v hW;have I:∃q,Steps Q (lone (b.atR a1 g) cs K.w) (lone q cs K.w)/\lU (σ f) d a1.tmps a1.defers q:=by
  rcases RW f m _ _ _ _ v with rfl|rfl
  .have:g=[]:=W;subst this;exact⟨_,.one (stepR_end rfl),rfl,rfl,rfl,rfl,rfl⟩
  .obtain⟨k,rfl⟩:=W;exact⟨_,.one (stepR_ret rfl),rfl,rfl,rfl,rfl,rfl⟩
 obtain⟨q,s2,R1⟩:=I;rw[<-B.heap]at l;obtain⟨L,X2,s3,E,Z,a,h3,e⟩:=B3 i (cs:=cs) A.defs K a1.defers q H' l B.sr B.b B.defs R1;rw[<-Z]at s;obtain⟨u,g1,g2⟩:=Hh a S (RR.ext' σ e B.aN) s;refine⟨L,X2,u,?_,⟨E.1,E.2.1,E.2.2.1,E.2.2.2.1,fn,o,by rw[E.2.2.2.2];exact g1⟩,Z,a,g2,E1.trans (e.mono E1.len),h3⟩;show Steps Q (lone b cs X.w) _;rw[hb];exact s1.trans (s2.trans s3)
theorem Sy(hE:Env Q σ tab rb){m:Nat}{call:ey}(hC:gZ Q σ call){b:Nat}{f:Nat}{tmps:T}{ps:List P}{as bd:aE}{q:dt}{pd:Option aE}{d:Nat}{X:Wd}(U:X.H[b]?=aa (.lp f tmps ps as bd q pd d))
  {args:List V} (S:args.length=ps.length) {g:Option aE} {K:St} (Y:run call f m (aa b) [.code as,.qX,.code bd] ⟨dm ps args tmps,[],X.H⟩=aa (g,K)) (d_:K.defs.isEmpty=ae)
  {f':Nat} {v:T} {J:List P} {as' H:aE} {q':dt} {pd':Option aE} {d':Nat} (y:K.heap[b]?=aa (.lp f' v J as' H q' pd' d'))
  {us:List Value} {c:Frame} {cs:List Frame} {L:Loc} (hS:SR Q σ X) (hB:X.B<=X.w.heap.size) (hA:A2 (VR σ X) args us) (hL:X.di b=aa L) :
  ∃f tmps as bd X' u,(Instr.yield L.c us.toArray).run Q X.w=.ok (.round L.c f tmps as bd) X.w/\
   Steps Q (lone (Frame.round L.c f tmps as bd .normal) (c::cs) X.w) (lone (c.finish u) cs X'.w)/\iw Q σ X (.bool g.isNone) (K.heap.set b (.lp f' v J as' H (if g.isNone then .ready else .done) g d')) X' u:=by
 obtain⟨n,ts,qs,z,A,g_,Ld,W,h2,h3,h4,h5,h6,h7,h8,h9⟩:=tc hS hL U;have hq:=(gn h4).len;have f_:us.toArray.size=qs.size:=by
  have:=hA.len;simp_all
 have hy:=run_yield (P:=Q) (args:=us.toArray) W f_
 let F:Array Value:=(qs.zip us.toArray).foldl (λtmps (t,a)=>tmps.setIfInBounds t a) ts
 have O:F=(qs.toList.zip us).foldl (λtmps (t,a)=>tmps.setIfInBounds t a) ts:=by
  simp only[F];rw[<-Array.foldl_toList];simp
 let a0:Act:={ tmps:=F,defers:=[] }
 let B:Frame:=Frame.round L.c (σ f) F z A .normal
 have c_:B=B.atR a0 [.code z,.beginRound,.code A]:=by simp[B,a0,Frame.round,Frame.atR]
 have d9:RR σ X (dm ps args tmps) F:=by
  rw[O];exact RR.dm ps qs.toList args us tmps ts n h2 h3 hA S h4
 have hn:n<=F.size:=by rw[O,vO];exact h2
 have hF:Fr Q σ n X ⟨dm ps args tmps,[],X.H⟩ a0:=⟨rfl,hS,hB,d9,A2.nil,hn⟩
 have E:GK X b:=⟨_,_,_,_,_,_,_,_,U⟩
 have hW:Way Q σ f n B (c::cs) (aa b) [.code as,.qX,.code bd] [.code z,.beginRound,.code A] ⟨dm ps args tmps,[],X.H⟩ X a0:=
  ⟨hF,A2.cons (.code h5) (A2.cons .qX (A2.cons (.code h6) A2.nil)),⟨L,hL,rfl,E⟩,.inl rfl,rfl⟩
 obtain⟨X1,a1,x,s1,M,E1,_,Z⟩:=RX hC hE.mix f m n B (c::cs) (aa b) _ _ _ X a0 g K Y hW;have N:=(E.ext E1).2 _ hL;rw[<-M.heap]at y;obtain⟨n1,i6,h_,b_,c9,pend1,a_,s,k2,k3,k4,k5,k6,k7,k8,k9⟩:=tc M.sr N y;have I:∀(l:Option Code),AX Q σ n1 g l->l.isNone=g.isNone->step Q (lone (B.atR a1 x) (c::cs) X1.w)=.next (lone (c.finish (.bool l.isNone)) cs (X1.w.putObj L.c (.loop { state:=if l.isNone then .ready else .done,pending:=l,fn:=σ f',tmps:=i6,params:=h_,assign:=b_,body:=c9,defers:=a_.c })))->
   ∃f tmps as bd X' u,(Instr.yield L.c us.toArray).run Q X.w=.ok (.round L.c f tmps as bd) X.w/\
   Steps Q (lone (Frame.round L.c f tmps as bd .normal) (c::cs) X.w) (lone (c.finish u) cs X'.w)/\iw Q σ X (.bool g.isNone) (K.heap.set b (.lp f' v J as' H (if g.isNone then .ready else .done) g d')) X' u:=by
  intro l hj hn e_;obtain⟨g1,g2⟩:=CW M.sr N y (q':=if g.isNone then .ready else .done) (pend1:=g) (pend':=l) k2 k3 k4 k5 k6 hj k8 k9;have hq:(if g.isNone then dt.ready else dt.done).of=(if l.isNone then LoopState.ready else LoopState.done):=by
   rw[hn];cases g<;>rfl
  rw[hq]at g1 g2;refine⟨σ f,F,z,A,_,.bool l.isNone,hy,?_,?_,g1,?_,E1.trans (g2.mono E1.len),?_⟩
  .show Steps Q (lone B (c::cs) X.w) _;rw[c_];exact s1.trans (.one e_)
  .rw[<-M.heap]
  .rw[hn];exact VR.xW _
  .have:=M.b;simpa[World.putObj]using this
 cases g with
 |none=>
  have:x=[]:=Z;subst this;exact I ab trivial rfl (stepR_round_end rfl rfl (run_endRound (P:=Q) ab s))
 |some j=>
  cases j with
  |ret=>
   obtain⟨k,rfl⟩:=Z;exact I (aa .ret) (by simp[AX,cJ]) rfl (stepR_round_ret rfl rfl (run_endRound (P:=Q) (aa .ret) s))
  |exit id=>
   obtain⟨k,rfl,hx⟩:=Z;exact I (aa (.exit id)) (by simp[AX,cJ]) rfl (stepR_round_exit rfl rfl hx (run_endRound (P:=Q) (aa (.exit id)) s))
  |_=>exact Z.elim
theorem Qb(x:Env Q σ tab rb)(m:Nat):∀d,gZ Q σ (iP tab rb m d):=by
 intro d;induction d with
 |zero=>exact⟨λf args H r h=>by simp[iP]at h,λf args H r H' h=>by simp[iP]at h,λb args H r H' h=>by simp[iP]at h⟩
 |succ d U=>
  refine⟨λf args H r h=>?_,λf args H r H' h X us B cs J I F E W K=>?_,λb args H r H' h X us c cs L J I F E hL=>?_⟩
  .simp only[iP]at h;split at h
   .rename_i r' N;obtain⟨r0,Y⟩:=r;exact(x.rb f args H r0 Y (by rw[N,h])).1
   .split at h
    .simp_all
    .rename_i S l;obtain⟨fn,hf,hm⟩:=x.fn f S l;obtain⟨c,v,s,_⟩:=vF hm;exact tF hf v s
  .simp only[iP]at h;split at h
   .rename_i r' N;exact(x.rb f args H r H' (by rw[N,h])).2 X us B cs J I F E W K
   .split at h
    .simp_all
    .rename_i S l;split at h
     .rename_i g;split at h
      .rename_i A s' j;split at h
       .rename_i H1 u;simp only[IT,agk]at h;obtain⟨r1,z,rfl,rfl⟩:=h;subst J;exact acx x U l g j u z I F E W
       .simp_all
      .simp_all
     .simp_all
  .simp only[iP]at h;split at h
   .rename_i f tmps ps as bd q pd d' M;split at h
    .rename_i g;split at h
     .rename_i A s' j;split at h
      .rename_i hd;split at h
       .rename_i f' O b_ as' Z q' pd' a_ y;simp only[AT,agk]at h;obtain⟨rfl,rfl⟩:=h;subst J;exact Sy x U M g j hd y I F E hL
       .simp_all
      .simp_all
     .simp_all
    .simp_all
   .simp at h
end
section
set_option linter.unusedVariables false
open Go
def xQ:List C->Option (List Int):=bu fun
 | .f (.int .i64 n)=>aa n| _=>ab
def tI(l:List Int):List Int:=l.mergeSort λx y=>decide (x<=y)
def E0(H:an)(x:C):Option (V × an):=match bh H x with
 |none=>ab| some 0=>aa (.t [],H)
 |some _=>match x with
  | .sl b o l _ ep s=>match H[b]? with
   |some (.dj d cs fl e .loc)=>
    if o=0/\ep=e/\s=1/\d=1/\cs.length=l/\fl=0/\l<=1000000000 then(xQ cs).map λzs=>(.t [],H.set b (.dj 1 ((tI zs).map λn=>.f (.int .i64 n)) 0 e .loc))else ab
   |_=>ab
  |_=>ab
def Fh(f:Nat)(args:List V)(H:an):Option (Option (V × an)):=if f=uF then aa (match args with
 |[.c x]=>E0 H x
 |_=>ab)else ab
end
section
open Go
def BF(c1 c2:ey):Prop:=∀c args H r,c1 c args H=aa r->c2 c args H=aa r
section
variable{c1 c2:ey}(hc:BF c1 c2)
include hc
theorem zB{c:Nat}{args:List V}{H:an}{r:V × an}(h:il c1 c args H=aa r):il c2 c args H=aa r:=by
 unfold il at h ⊢;split at h
 .simp at h
 .rename_i j d;split at h
  .simp at h
  .rename_i l g b;simp only[hc _ _ _ _ b];exact h
theorem Cr{b:Bool}{c:Nat}{args:List V}{H:an}{r:V × an}(h:lO c1 b c args H=aa r):lO c2 b c args H=aa r:=by
 unfold lO at h ⊢;split at h
 .rename_i d;simp only[d,if_true];exact hc _ _ _ _ h
 .rename_i d;simp only[d];exact zB hc h
theorem Bw{s:St}{op:dW}{r:V × St}(h:jE c1 s op=aa r):jE c2 s op=aa r:=by
 cases op with
 |call f args b=>
  simp only[jE,IT]at h ⊢;obtain⟨a,d,rfl⟩:=h;exact⟨a,Cr hc d,rfl⟩
 |jc x args b=>
  simp only[jE]at h ⊢;split at h
  .simp only[IT]at h ⊢;obtain⟨a,d,rfl⟩:=h;exact⟨a,hc _ _ _ _ d,rfl⟩
  .simp at h
 |_=>exact h
theorem zl{s j:St}{o:ba}(h:jF c1 s o=aa j):jF c2 s o=aa j:=by
 unfold jF at h ⊢;cases g:wanted s.aN o.g with
 |none=>simp[g]at h
 |some b=>
  cases b with
  |false=>simpa[g]using h
  |true=>
   simp only[g]at h ⊢;cases d:jE c1 s o.op with
   |none=>simp[d]at h
   |some x=>
    obtain⟨v,l⟩:=x;rw[Bw hc d];rw[d]at h;exact h
theorem eT:∀(os:List ba) (s:St) {b:St},iS c1 os s=aa b->iS c2 os s=aa b
 |[],s,b,h=>h
 |o::os,s,b,h=>by
  simp only[iS]at h ⊢;split at h
  .rename_i g d;simp only[zl hc d];exact eT os g h
  .simp at h
theorem tN:∀(os:List ba) (s:St) {ss:List St},fT c1 os s=aa ss->fT c2 os s=aa ss
 |[],s,ss,h=>h
 |o::os,s,ss,h=>by
  simp only[fT]at h ⊢;split at h
  .rename_i g b;simp only[zl hc b];split at h
   .rename_i j d;simp only[tN os g d];exact h
   .simp at h
  .simp at h
theorem CY{ops:List ba}{b:List (Nat × Nat)}{s g:St}(h:kr c1 ops b s=aa g):kr c2 ops b s=aa g:=by
 unfold kr at h ⊢;split at h
 .exact eT hc _ _ h
 .split at h
  .rename_i ss d;simp only[tN hc _ _ d];exact h
  .simp at h
theorem tG{fn:Nat}:∀(n x:Nat) (ro:Option Nat) (j:List dU) (s:St) {r:Option aE × St},n<=x->
  run c1 fn n ro j s=aa r->run c2 fn x ro j s=aa r
 |0,_,_,_,_,_,_,h=>by simp[run]at h
 |n+1,0,_,_,_,_,F,_=>by omega
 |n+1,x+1,ro,j,s,r,F,h=>by
  have m:=λro j s r h=>tG (fn:=fn) n x ro j s (r:=r) ap h
  match j,h with
  |[],h=>exact h| .inBlock _::k,h=>exact m _ _ _ _ h| .inLoop c::k,h=>exact m _ _ _ _ h
  | .mh b::k,h=>
   simp only[run]at h ⊢;split at h
   .rename_i f tmps ps as bd st pending d z
    try simp only[z]
    split at h
    .simp at h
    .rename_i A
     try simp only[A,if_false]
     split at h
     .exact m _ _ _ _ h
     .exact m _ _ _ _ h
     .exact m _ _ _ _ h
     .simp at h
   .simp at h
  | .qX::k,h=>
   simp only[run]at h ⊢;split at h
   .simp at h
   .rename_i b;split at h
    .rename_i z
     try simp only[z]
     exact m _ _ _ _ h
    .simp at h
  | .code .skip::k,h=>exact m _ _ _ _ h| .inScope _::k,h=>exact m _ _ _ _ h| .code (.label _)::k,h=>exact m _ _ _ _ h| .code (.scope a)::k,h=>exact m _ _ _ _ h
  | .code (.goto l)::k,h=>
   simp only[run]at h ⊢;split at h
   .rename_i u;(try simp only[u]);exact m _ _ _ _ h
   .simp at h
  | .code .bad::_,h=>simp[run]at h| .code .ret::_,h=>exact h
  | .code (.exit id)::k,h=>
   simp only[run]at h ⊢;split at h
   .rename_i u;(try simp only[u]);exact m _ _ _ _ h
   .rename_i u;(try simp only[u]);exact h
  | .code (.seq a b)::k,h=>exact m _ _ _ _ h| .code (.block id a)::k,h=>exact m _ _ _ _ h| .code (.loop a)::k,h=>exact m _ _ _ _ h
  | .code (.cond c a b)::k,h=>
   simp only[run]at h ⊢;split at h
   .rename_i v H;(try simp only[H]);exact m _ _ _ _ h
   .simp at h
  | .code (.region ops B)::k,h=>
   simp only[run]at h ⊢;split at h
   .simp at h
   .rename_i q
    try simp only[q]
    split at h
    .rename_i J y
     try simp only[CY hc y]
     exact m _ _ _ _ h
    .simp at h
  | .code (.oE f ps as bd)::k,h=>
   simp only[run]at h ⊢;split at h
   .simp at h
   .rename_i q
    try simp only[q]
    split at h
    .rename_i g args E
     try simp only[E]
     split at h
     .rename_i v I y
      try simp only[hc _ _ _ _ y]
      exact m _ _ _ _ h
     .simp at h
    .simp at h
theorem lQ:∀(ds:List gX) (H:an) {H':an},fR c1 ds H=aa H'->fR c2 ds H=aa H'
 |[],H,H',h=>h
 | .dY b::ds,H,H',h=>by
  simp only[fR]at h ⊢;split at h
  .rename_i l;exact lQ ds _ h
  .simp at h
 | .fn f args::ds,H,H',h=>by
  simp only[fR]at h ⊢;split at h
  .simp at h
  rename_i d;rw[ct d];split at h
  .rename_i v j g
   try simp only[hc _ _ _ _ g]
   exact lQ ds _ h
  .simp at h
end
variable{tab:Nat->Option aM}{rb:Nat->List V->an->Option (Option (V × an))}
theorem xr{m g:Nat}(u:m<=g):∀(d d':Nat),d<=d'->BF (iP tab rb m d) (iP tab rb g d')
 |0,_,_,_,_,_,_,h=>by simp[iP]at h
 |d+1,0,B,_,_,_,_,_=>by omega
 |d+1,d'+1,B,c,args,H,r,h=>by
  have y:BF (iP tab rb m d) (iP tab rb g d'):=xr u d d' ap
  match c,h with
  | .fn f,h=>
   simp only[iP]at h ⊢;split at h
   .rename_i r' v;(try simp only[v]);exact h
   .rename_i v
    try simp only[v]
    split at h
    .simp at h
    .rename_i F l
     try simp only[l]
     split at h
     .rename_i q
      try simp only[q,if_true]
      split at h
      .rename_i j s x
       try simp only[tG y m g _ _ _ u x]
       split at h
       .rename_i E z
        try simp only[lQ y _ _ z]
        exact h
       .simp at h
      .simp at h
     .simp at h
  | .yield b,h=>
   simp only[iP]at h ⊢;split at h
   .rename_i f tmps ps as bd I J K A
    try simp only[A]
    split at h
    .rename_i q
     try simp only[q,if_true]
     split at h
     .rename_i j s x
      try simp only[tG y m g _ _ _ u x]
      exact h
     .simp at h
    .simp at h
   .simp at h
end
section
open Go
structure TB where
 get:Nat->Option aM
 Fh:Nat->List V->an->Option (Option (V × an))
 ok:∀f a,get f=aa a->∀args H,Fh f args H=ab
instance:CoeFun TB λ_=>Nat->Option aM:=⟨TB.get⟩
section
variable(tab:TB)
abbrev CF(m d:Nat):ey:=iP tab.get tab.Fh m d
def Ev(c:Callee)(args:List V)(H:an)(r:V)(H':an):Prop:=∃m d,CF tab m d c args H=aa (r,H')
def bg(f:Nat)(args:List V)(r:V):Prop:=∃b H',Ev tab (.fn f) args [] b H'/\jh deep H' b=aa r
def WP(fn:Nat)(ro:Option Nat)(b:List dU)(s:St)(Q:Option aE->St->Prop):Prop:=
 ∃n m d j g,run (CF tab m d) fn n ro b s=aa (j,g)/\Q j g
def lH(s:St)(op:dW)(K:V->St->Prop):Prop:=
 match op with
 | .call f args h=>
  if h then ∃r H',Ev tab (.fn f) (fm s.aN args) s.heap r H'/\K r { s with heap:=H' }
  else ∃b r,bu (dq deep s.heap) (fm s.aN args)=aa b/\bg tab f b r/\K r { s with heap:=(fm s.aN args).foldl (Um deep) s.heap }
 | .jc x args _=>∃c as r H',cr (x.ev s.aN) (fm s.aN args)=aa (c,as)/\Ev tab c as s.heap r H'/\K r { s with heap:=H' }
 | .recover=>K (.c (.f .rQ)) s| .defer x args=>∃f as,cr (x.ev s.aN) (fm s.aN args)=aa (.fn f,as)/\K .top { s with defs:=.fn f as::s.defs }
 |op=>∃v H',cm s.aN s.heap op=aa (v,H')/\K v { s with heap:=H' }
def Aj:List ba->St->(St->Prop)->Prop
 |[],s,K=>K s
 |o::os,s,K=>match wanted s.aN o.g with
  |some ae=>lH tab s o.op λv b=>Aj os { b with aN:=nS b.aN o.dst v } K
  |some ag=>Aj os { s with aN:=nS s.aN o.dst (.t []) } K
  |none=>False
variable{tab}
variable{c:Callee}{args:List V}{H H':an}{r:V}
theorem mQ{m b d d':Nat}(j:m<=b)(g:d<=d'):BF (CF tab m d) (CF tab b d'):=xr j d d' g
theorem Ev.YF{j:V}{b:an}(h1:Ev tab c args H r H')(h2:Ev tab c args H j b):r=j/\H'=b:=by
 obtain⟨m,d,h1⟩:=h1;obtain⟨g,d',h2⟩:=h2;have l:=mQ (tab:=tab) (ahc m g) (ahc d d') _ _ _ _ h1;have q:=mQ (tab:=tab) (ag4 m g) (ag4 d d') _ _ _ _ h2;simp_all
theorem bg.YF{f:Nat}{d:V}(h1:bg tab f args r)(h2:bg tab f args d):r=d:=by
 obtain⟨a,j,g,h1⟩:=h1;obtain⟨b,l,hb,h2⟩:=h2;obtain⟨rfl,rfl⟩:=g.YF hb;simp_all
theorem KF{s:St}{op:dW}{K:V->St->Prop}(h:lH tab s op K):∃m d v u,jE (CF tab m d) s op=aa (v,u)/\K v u:=by
 cases op with
 |call f args b=>
  simp only[lH]at h;split at h
  .rename_i q;obtain⟨r,H',⟨m,d,g⟩,l⟩:=h;exact⟨m,d,r,_,by simp[jE,lO,q,g],l⟩
  .rename_i q;obtain⟨A,r,j,⟨B,z,⟨m,d,g⟩,l⟩,y⟩:=h;exact⟨m,d,r,_,by simp[jE,lO,q,il,j,g,l],y⟩
 |jc x args b=>
  obtain⟨c,as,r,H',j,⟨m,d,g⟩,l⟩:=h;exact⟨m,d,r,_,by simp[jE,j,g],l⟩
 |recover=>exact⟨0,0,_,_,rfl,h⟩
 | «defer» x args=>
  obtain⟨f,as,j,g⟩:=h;exact⟨0,0,.top,_,by simp[jE,j],g⟩
 |_=>
  obtain⟨v,H',j,g⟩:=h;exact⟨0,0,v,_,by simp[jE,j],g⟩
theorem lT:∀(os:List ba) (s:St) {K:St->Prop},Aj tab os s K->∃m d b,iS (CF tab m d) os s=aa b/\K b
 |[],s,K,h=>⟨0,0,s,rfl,h⟩
 |o::os,s,K,h=>by
  simp only[Aj]at h;split at h
  .rename_i q;obtain⟨m,d,v,A,y,z⟩:=KF h;obtain⟨g,d',b,j,l⟩:=lT os _ z;refine⟨max m g,max d d',b,?_,l⟩;have u:=Bw (mQ (tab:=tab) (ahc m g) (ahc d d')) y;have x:=eT (mQ (tab:=tab) (ag4 m g) (ag4 d d')) os _ j;simp only[iS,jF,q,u,x]
  .rename_i q;obtain⟨g,d',b,j,l⟩:=lT os _ h;exact⟨g,d',b,by simp only[iS,jF,q,j],l⟩
  .simp_all
variable{fn:Nat}{ro:Option Nat}{k:List dU}{s:St}{Q:Option aE->St->Prop}{a b:aE}
theorem jK{g:List dU}{b:List dU}{l:St}(h:WP tab fn ro b l Q)
  (v:∀m d n,run (CF tab m d) fn (n+1) ro g s=run (CF tab m d) fn n ro b l):WP tab fn ro g s Q:=by
 obtain⟨n,m,d,j,x,q,u⟩:=h;exact⟨n+1,m,d,j,x,by rw[v,q],u⟩
theorem cX(h:Q ab s):WP tab fn ro [] s Q:=⟨1,0,0,ab,s,rfl,h⟩
theorem av{i:Nat}(h:WP tab fn ro k s Q):WP tab fn ro (.inBlock i::k) s Q:=jK h λ_ _ _=>rfl
theorem xS(h:WP tab fn ro k s Q):WP tab fn ro (.inScope a::k) s Q:=jK h λ_ _ _=>rfl
theorem eR(h:WP tab fn ro (.code a::.inLoop a::k) s Q):WP tab fn ro (.inLoop a::k) s Q:=jK h λ_ _ _=>rfl
theorem aR(h:WP tab fn ro k s Q):WP tab fn ro (.code .skip::k) s Q:=jK h λ_ _ _=>rfl
theorem sZ{l:Nat}(h:WP tab fn ro k s Q):WP tab fn ro (.code (.label l)::k) s Q:=jK h λ_ _ _=>rfl
theorem nM(h:WP tab fn ro (.code a::.inScope a::k) s Q):WP tab fn ro (.code (.scope a)::k) s Q:=jK h λ_ _ _=>rfl
theorem au(h:WP tab fn ro (.code a::.code b::k) s Q):WP tab fn ro (.code (.seq a b)::k) s Q:=jK h λ_ _ _=>rfl
theorem ay{i:Nat}(h:WP tab fn ro (.code a::.inBlock i::k) s Q):WP tab fn ro (.code (.block i a)::k) s Q:=jK h λ_ _ _=>rfl
theorem az(h:Q (aa .ret) s):WP tab fn ro (.code .ret::k) s Q:=⟨1,0,0,aa .ret,s,rfl,h⟩
theorem bJ{i:Nat}{k':List dU}(b:exitTo i k=aa k')(h:WP tab fn ro k' s Q):WP tab fn ro (.code (.exit i)::k) s Q:=
 jK h λ_ _ _=>by simp only[run,b]
theorem mT{i b:Nat}(d:exitTo i k=ab)(h:Q (aa (.exit i)) s):WP tab fn (aa b) (.code (.exit i)::k) s Q:=
 ⟨1,0,0,aa (.exit i),s,by simp[run,d],h⟩
theorem T5{l:Nat}{k':List dU}(b:gotoIn l k=aa k')(h:WP tab fn ro k' s Q):WP tab fn ro (.code (.goto l)::k) s Q:=
 jK h λ_ _ _=>by simp only[run,b]
theorem IW{c:Arg}{v:Bool}(hc:c.ev s.aN=.c (.f (.bool v)))(h:WP tab fn ro (.code (if v then a else b)::k) s Q) :
  WP tab fn ro (.code (.cond c a b)::k) s Q:=jK h λ_ _ _=>by simp only[run,hc]
theorem aw{c:Arg}(hc:c.ev s.aN=.c (.f (.bool ae)))(h:WP tab fn ro (.code a::k) s Q) :
  WP tab fn ro (.code (.cond c a b)::k) s Q:=IW hc h
theorem aD{c:Arg}(hc:c.ev s.aN=.c (.f (.bool ag)))(h:WP tab fn ro (.code b::k) s Q) :
  WP tab fn ro (.code (.cond c a b)::k) s Q:=IW hc h
theorem yQ{m j d d' n g:Nat}{b:List dU}{x:Option aE × St}(q:m<=j)(l:d<=d')(u:n<=g)
  (h:run (CF tab m d) fn n ro b s=aa x):run (CF tab j d') fn g ro b s=aa x:=
 tG (mQ q l) n g ro b s u h
theorem aq{ops:List ba}(A:ro=ab\/ops.all (·.op.fJ)=ae)(h:Aj tab ops s λl=>WP tab fn ro k l Q) :
  WP tab fn ro (.code (.region ops [])::k) s Q:=by
 obtain⟨m,d,l,v,n,g,d',j,z,x,y⟩:=lT ops s h;refine⟨n+1,max m g,max d d',j,z,?_,y⟩;have q:=eT (mQ (tab:=tab) (ahc m g) (ahc d d')) ops _ v;have u:=yQ (ag4 m g) (ag4 d d') (agn n) x;have b:(ro.isSome&&!ops.all (·.op.fJ))=ag:=by
  grind
 simp only[run,b,kr,q,u];simp
theorem dc(I:Nat->St->Prop)(n:Nat)(j:I n s)
  (step:∀n s,I n s->(∀b d,b<n->I b d->WP tab fn ro (.inLoop a::k) d Q)->WP tab fn ro (.code a::.inLoop a::k) s Q) :
  WP tab fn ro (.code (.loop a)::k) s Q:=by
 have key:∀n s,I n s->WP tab fn ro (.code a::.inLoop a::k) s Q:=by
  intro n;induction n using Nat.strongRecOn with
  |_ n q=>
   intro s m;exact step n s m λb d l g=>eR (q b l d g)
 exact jK (key n s j) λ_ _ _=>rfl
def Fin(tab:TB)(g:aM)(r:V)(H':an)(s:St):Prop:=
 ∃m d b,fR (CF tab m d) s.defs s.heap=aa b/\results s.aN b g.results=aa r/\b=H'
theorem rj{f:Nat}{b:aM}(z:tab f=aa b)(J:args.length=b.ps.length)
  (h:WP tab f ab [.code b.body] ⟨dm b.ps args .e,[],H⟩ λ_ s=>Fin tab b r H' s):Ev tab (.fn f) args H r H':=by
 obtain⟨n,m,d,j,s,B,A,d',L,F,I,rfl⟩:=h;obtain⟨M,q,u,v⟩:∃M,m<=M/\A<=M/\n<=M:=⟨max (max m A) n,ap,ap,ap⟩
 obtain⟨E,g,l⟩:∃E,d<=E/\d'<=E:=⟨max d d',ap,ap⟩
 refine⟨M,E+1,?_⟩;have x:run (CF tab M E) f M ab [.code b.body] ⟨dm b.ps args .e,[],H⟩=aa (j,s):=yQ q g v B;have y:=lQ (mQ (tab:=tab) u l) _ _ F;have K:=tab.ok _ _ z args H;simp only[CF]at x y ⊢;simp only[iP,K,z,J,if_true,x,y,I,Option.map_some]
def px(b:List ku)(r:V)(s:St):Prop:=s.defs=[]/\∃d,results s.aN s.heap b=aa d/\jh deep s.heap d=aa r
theorem bK{f:Nat}{ps:List P}{b:List ku}{body:aE}(y:tab f=aa ⟨ps,b,body⟩)(x:args.length=ps.length)
  (h:∀Q:Option aE->St->Prop,(∀j s,px b r s->Q j s)->WP tab f ab [.code body] ⟨dm ps args .e,[],[]⟩ Q):bg tab f args r:=by
 have g:=h (λ_ s=>px b r s) λ_ _ h=>h;obtain⟨n,m,d,j,s,l,v,z,q,u⟩:=g;exact⟨z,s.heap,rj y x ⟨n,m,d,j,s,l,0,0,s.heap,by rw[v];rfl,q,rfl⟩,u⟩
end
theorem ai{tab:TB}{fn:Nat}{ops:List ba}{b:aE}{k:List dU}{s:St}{Q:Option aE->St->Prop}(h:Aj tab ops s λd=>WP tab fn ab (.code b::k) d Q):WP tab fn ab (.code (.seq (.region ops []) b)::k) s Q:=au (aq (.inl rfl) h)
theorem bE{tab:TB}{fn:Nat}{ro:Option Nat}{a:aE}{c:Arg}{k:List dU}{s:St}{Q:Option aE->St->Prop}(hc:c.ev s.aN=.c (.f (.bool ag)))(h:WP tab fn ro k s Q):WP tab fn ro (.code (.cond c a .skip)::k) s Q:=aD hc (aR h)
end
section
open Go
def P.mG:Nat->Nat->P
 |0,_=>.h| k+1,n=>if n=0 then .h else if n % 2=1 then .o (mG k ((n-1) / 2))else .i (mG k ((n-2) / 2))
def P.nat(n:Nat):P:=P.mG n n
theorem rP:∀(k n:Nat),n<=k->(P.mG k n).toNat=n
 |0,n,b=>by simp[P.mG,P.toNat];omega
 |k+1,n,b=>by
  unfold P.mG;split
  .simp[P.toNat, *]
  .split
   .simp[P.toNat];rw[rP k _ ap];omega
   .simp[P.toNat];rw[rP k _ ap];omega
theorem uO(n:Nat):(P.nat n).toNat=n:=rP n n (agn n)
theorem nat_ne{a b:Nat}(d:a≠b):P.nat a≠P.nat b:=λe=>d (by rw[<-uO a,<-uO b,e])
theorem T.jv(v:V):∀(p:P) (t:T),(t.set p v).get p=v
 | .h,.e=>rfl| .h,.n _ _ _=>rfl| .o p,.e=>T.jv v p .e| .o p,.n l _ _=>T.jv v p l| .i p,.e=>T.jv v p .e| .i p,.n _ _ r=>T.jv v p r
theorem T.mo(v:V):∀(p q:P) (t:T),p≠q->(t.set p v).get q=t.get q
 | .h,.h,_,h=>absurd rfl h| .h,.o q,.e,_=>by cases q<;>rfl
 | .h,.i q,.e,_=>by cases q<;>rfl
 | .h,.o _,.n _ _ _,_=>rfl| .h,.i _,.n _ _ _,_=>rfl| .o _,.h,.e,_=>rfl| .o _,.h,.n _ _ _,_=>rfl| .i _,.h,.e,_=>rfl| .i _,.h,.n _ _ _,_=>rfl
 | .o p,.o q,.e,h=>by
  show(T.set .e p v).get q=_;rw[T.mo v p q .e (λe=>h (by rw[e]))];rfl
 | .o p,.o q,.n l _ _,h=>T.mo v p q l (λe=>h (by rw[e]))
 | .o p,.i q,.e,h=>by
  rfl
 | .o _,.i _,.n _ _ _,_=>rfl
 | .i p,.o q,.e,h=>by
  rfl
 | .i _,.o _,.n _ _ _,_=>rfl
 | .i p,.i q,.e,h=>by
  show(T.set .e p v).get q=_;rw[T.mo v p q .e (λe=>h (by rw[e]))];rfl
 | .i p,.i q,.n _ _ r,h=>T.mo v p q r (λe=>h (by rw[e]))
def T.g(t:T)(n:Nat):V:=t.get (P.nat n)
def T.s(t:T)(n:Nat)(v:V):T:=t.set (P.nat n) v
@[simp] theorem T.g_s (t:T) (n m:Nat) (v:V):(t.s n v).g m=if n=m then v else t.g m:=by
 unfold T.g T.s;split
 .rename_i h;subst h;exact T.jv v _ t
 .rename_i h;exact T.mo v _ _ t (nat_ne h)
def R(n:Nat):Arg:=.r (P.nat n)
def D(n:Nat):Option P:=aa (P.nat n)
def G(n:Nat)(w:Bool):Option (P × Bool):=aa (P.nat n,w)
abbrev vi(n:Int):V:=.c (.f (.int .i64 n))
abbrev vb(b:Bool):V:=.c (.f (.bool b))
abbrev fi(n:Int):FC:=.int .i64 n
@[simp] theorem oi (t:T) (n:Nat):(R n).ev t=t.g n:=rfl
@[simp] theorem aga (t:T) (v:V):(Arg.k v).ev t=v:=rfl
@[simp] theorem afd (t:T) (n:Nat) (v:V):nS t (D n) v=t.s n v:=rfl
@[simp] theorem aak (t:T) (v:V):nS t ab v=t:=rfl
@[simp] theorem adE (t:T) (n:Nat):t.get (P.nat n)=t.g n:=rfl
@[simp] theorem VD (n:Nat) (ps:List P) (v:V) (b:List V) (t:T):dm (P.nat n::ps) (v::b) t=dm ps b (t.s n v):=rfl
@[simp] theorem ZF (b:List V) (t:T):dm [] b t=t:=rfl
@[simp] theorem VH (t:T):wanted t ab=aa ae:=rfl
@[simp] theorem ac9 (t:T) (n:Nat) (w:Bool):wanted t (G n w)=match t.g n with
  | .c (.f (.bool b))=>aa (b == w)| .t []=>aa ag| _=>ab:=rfl
attribute [simp] fm
def KO(o:Option (V × an))(t:T)(ds:List gX)(K:V->St->Prop):Prop:=∃p,o=aa p/\K p.1 ⟨t,ds,p.2⟩
@[simp] theorem adk (v:V) (H:an) (t:T) (ds:List gX) (K:V->St->Prop):KO (aa (v,H)) t ds K↔K v ⟨t,ds,H⟩:=⟨λ⟨_,h,k⟩=>by cases h;exact k,λk=>⟨_,rfl,k⟩⟩
def KP(P:V->Prop)(t:T)(ds:List gX)(H:an)(K:V->St->Prop):Prop:=∃x,P x/\K x ⟨t,ds,H⟩
@[simp] theorem afI (x:V) (t:T) (ds:List gX) (H:an) (K:V->St->Prop):KP (Eq x) t ds H K↔K x ⟨t,ds,H⟩:=⟨λ⟨_,h,k⟩=>by cases h;exact k,λk=>⟨x,rfl,k⟩⟩
def E2(x:V)(H:an)(y:V)(H':an):Prop:=x=y/\H=H'
def KE(P:V->an->Prop)(t:T)(ds:List gX)(K:V->St->Prop):Prop:=∃x H,P x H/\K x ⟨t,ds,H⟩
@[simp] theorem afH (x:V) (H:an) (t:T) (ds:List gX) (K:V->St->Prop):KE (E2 x H) t ds K↔K x ⟨t,ds,H⟩:=⟨λ⟨_,_,⟨b,d⟩,k⟩=>by cases b;cases d;exact k,λk=>⟨x,H,⟨rfl,rfl⟩,k⟩⟩
section
variable(tab:TB)
def KC(b:Option (List V))(f:Nat)(t:T)(ds:List gX)(H:an)(K:V->St->Prop):Prop:=∃a,b=aa a/\KP (bg tab f a) t ds H K
def KD(c:Option (Callee × List V))(t:T)(ds:List gX)(H:an)(K:V->St->Prop):Prop:=∃a,c=aa a/\KE (Ev tab a.1 a.2 H) t ds K
def KS(os:List ba)(L:St->Prop)(s:St):Prop:=Aj tab os s L
def FS(s:St)(K:St->Prop):Prop:=K s
def KV(o:Option P)(os:List ba)(L:St->Prop)(v:V)(s:St):Prop:=FS ⟨nS s.aN o v,s.defs,s.heap⟩ (KS tab os L)
def ZQ(w:Option Bool)(op:dW)(o:Option P)(os:List ba)(L:St->Prop)(s:St):Prop:=
 match w with
 |some ae=>lH tab s op (KV tab o os L)| some ag=>FS ⟨nS s.aN o (.t []),s.defs,s.heap⟩ (KS tab os L)| none=>False
end
section
variable{tab:TB}{t:T}{ds:List gX}{H:an}{K:V->St->Prop}{L:St->Prop}
@[simp] theorem adi (a:List V) (f:Nat):KC tab (aa a) f t ds H K↔KP (bg tab f a) t ds H K:=⟨λ⟨_,h,k⟩=>by cases h;exact k,λk=>⟨_,rfl,k⟩⟩
@[simp] theorem adj (c:Callee) (a:List V):KD tab (aa (c,a)) t ds H K↔KE (Ev tab c a H) t ds K:=⟨λ⟨_,h,k⟩=>by cases h;exact k,λk=>⟨_,rfl,k⟩⟩
@[simp] theorem afy (s:St) (K:St->Prop):FS s K↔K s:=Iff.rfl
@[simp ↓] theorem afJ (os:List ba) (s:St):KS tab os L s↔Aj tab os s L:=Iff.rfl
@[simp ↓] theorem afK (o:Option P) (os:List ba) (v:V):KV tab o os L v ⟨t,ds,H⟩↔FS ⟨nS t o v,ds,H⟩ (KS tab os L):=Iff.rfl
@[simp ↓] theorem afG (op:dW) (o:Option P) (os:List ba) (s:St):ZQ tab (aa ae) op o os L s↔lH tab s op (KV tab o os L):=Iff.rfl
@[simp ↓] theorem afF (op:dW) (o:Option P) (os:List ba):ZQ tab (aa ag) op o os L ⟨t,ds,H⟩↔FS ⟨nS t o (.t []),ds,H⟩ (KS tab os L):=Iff.rfl
theorem IG{b:Bool}{op:dW}{o:Option P}{os:List ba}{s:St}(d:b=ag->ZQ tab (aa ae) op o os L s)(g:b=ae->ZQ tab (aa ag) op o os L s):ZQ tab (aa !b) op o os L s:=by
 cases b
 .exact d rfl
 .exact g rfl
@[simp ↓] theorem adl (s:St):Aj tab [] s L↔L s:=Iff.rfl
@[simp ↓] theorem ab2 (o:Option P) (op:dW) (os:List ba):Aj tab (⟨o,op,ab⟩::os) ⟨t,ds,H⟩ L↔lH tab ⟨t,ds,H⟩ op (KV tab o os L):=Iff.rfl
@[simp ↓] theorem ZR (o:Option P) (op:dW) (n:Nat) (w:Bool) (os:List ba) :
  Aj tab (⟨o,op,G n w⟩::os) ⟨t,ds,H⟩ L↔ZQ tab (wanted t (G n w)) op o os L ⟨t,ds,H⟩:=by
 rfl
def dW.plain:dW->Bool
 | .call _ _ _| .jc _ _ _| .recover| .defer _ _=>ag| _=>ae
theorem cS{op:dW}(h:op.plain=ae):lH tab ⟨t,ds,H⟩ op K↔KO (cm t H op) t ds K:=by
 have:lH tab ⟨t,ds,H⟩ op K↔∃v H',cm t H op=aa (v,H')/\K v ⟨t,ds,H'⟩:=by
  cases op<;>first|exact Iff.rfl|simp[dW.plain]at h
 rw[this];exact⟨λ⟨v,H',h,k⟩=>⟨(v,H'),h,k⟩,λ⟨p,h,k⟩=>⟨p.1,p.2,h,k⟩⟩
@[simp ↓] theorem adN (x:Arg):lH tab ⟨t,ds,H⟩ (.iV x) K↔KO (cm t H (.iV x)) t ds K:=cS rfl
@[simp ↓] theorem acX (c a b:Arg):lH tab ⟨t,ds,H⟩ (.pick c a b) K↔KO (cm t H (.pick c a b)) t ds K:=cS rfl
@[simp ↓] theorem Z9 (zs:List FC):lH tab ⟨t,ds,H⟩ (.alloc zs) K↔KO (cm t H (.alloc zs)) t ds K:=cS rfl
@[simp ↓] theorem adJ (x:Arg):lH tab ⟨t,ds,H⟩ (.box x) K↔KO (cm t H (.box x)) t ds K:=cS rfl
@[simp ↓] theorem Z' (zs:List FC) (b:List (Nat × Nat × Arg)):lH tab ⟨t,ds,H⟩ (.build zs b) K↔KO (cm t H (.build zs b)) t ds K:=cS rfl
@[simp ↓] theorem Zg (sz:Nat) (zs:List FC) (len:Nat) (b:List (Nat × Arg)):lH tab ⟨t,ds,H⟩ (.ft sz zs len b) K↔KO (cm t H (.ft sz zs len b)) t ds K:=cS rfl
@[simp ↓] theorem acT (n:Option Nat) (x:Arg):lH tab ⟨t,ds,H⟩ (.load n x) K↔KO (cm t H (.load n x)) t ds K:=cS rfl
@[simp ↓] theorem aai (n:Nat) (x y:Arg):lH tab ⟨t,ds,H⟩ (.store n x y) K↔KO (cm t H (.store n x y)) t ds K:=cS rfl
@[simp ↓] theorem Zl (x:Arg):lH tab ⟨t,ds,H⟩ (.nq x) K↔KO (cm t H (.nq x)) t ds K:=cS rfl
@[simp ↓] theorem adI (op:BinOp) (x y:Arg):lH tab ⟨t,ds,H⟩ (.bin op x y) K↔KO (cm t H (.bin op x y)) t ds K:=cS rfl
@[simp ↓] theorem ae' (neg:Bool) (k:MX) (x y:Arg):lH tab ⟨t,ds,H⟩ (.eq neg k x y) K↔KO (cm t H (.eq neg k x y)) t ds K:=cS rfl
@[simp ↓] theorem ae_ (op:UnOp) (x:Arg):lH tab ⟨t,ds,H⟩ (.un op x) K↔KO (cm t H (.un op x)) t ds K:=cS rfl
@[simp ↓] theorem adL (k:IntKind) (x:Arg):lH tab ⟨t,ds,H⟩ (.Qo k x) K↔KO (cm t H (.Qo k x)) t ds K:=cS rfl
@[simp ↓] theorem acW (f:Nat) (b:List Arg):lH tab ⟨t,ds,H⟩ (.zx f b) K↔KO (cm t H (.zx f b)) t ds K:=cS rfl
@[simp ↓] theorem aaf:lH tab ⟨t,ds,H⟩ .oS K↔KO (cm t H .oS) t ds K:=cS rfl
@[simp ↓] theorem Zk (d:CK) (b:FC) (m k:Arg):lH tab ⟨t,ds,H⟩ (.lookup d b m k) K↔KO (cm t H (.lookup d b m k)) t ds K:=cS rfl
@[simp ↓] theorem aae (b:CK) (m k v:Arg):lH tab ⟨t,ds,H⟩ (.pO b m k v) K↔KO (cm t H (.pO b m k v)) t ds K:=cS rfl
@[simp ↓] theorem Vz (sz bytes:Nat) (zs:List FC) (l c:Arg):lH tab ⟨t,ds,H⟩ (.fI sz bytes zs l c) K↔KO (cm t H (.fI sz bytes zs l c)) t ds K:=cS rfl
@[simp ↓] theorem aah (sz:Nat) (x:Arg) (lo hi mx:Option Arg):lH tab ⟨t,ds,H⟩ (.slice sz x lo hi mx) K↔KO (cm t H (.slice sz x lo hi mx)) t ds K:=cS rfl
@[simp ↓] theorem Zh (b:Nat) (x:Arg):lH tab ⟨t,ds,H⟩ (.mj b x) K↔KO (cm t H (.mj b x)) t ds K:=cS rfl
@[simp ↓] theorem aad (b:Nat) (n:Option Nat) (x:Arg):lH tab ⟨t,ds,H⟩ (.field b n x) K↔KO (cm t H (.field b n x)) t ds K:=cS rfl
@[simp ↓] theorem Zj (sz:Nat) (b:Option Nat) (x i:Arg):lH tab ⟨t,ds,H⟩ (.eZ sz b x i) K↔KO (cm t H (.eZ sz b x i)) t ds K:=cS rfl
@[simp ↓] theorem Vy (x:Arg) (i:Nat):lH tab ⟨t,ds,H⟩ (.extract x i) K↔KO (cm t H (.extract x i)) t ds K:=cS rfl
@[simp ↓] theorem adM (x:Arg):lH tab ⟨t,ds,H⟩ (.len x) K↔KO (cm t H (.len x)) t ds K:=cS rfl
@[simp ↓] theorem adK (x:Arg):lH tab ⟨t,ds,H⟩ (.cap x) K↔KO (cm t H (.cap x)) t ds K:=cS rfl
@[simp ↓] theorem Zf (sz bytes:Nat) (x y:Arg):lH tab ⟨t,ds,H⟩ (.append sz bytes x y) K↔KO (cm t H (.append sz bytes x y)) t ds K:=cS rfl
@[simp ↓] theorem acU (lo:Bool) (xs:List Arg):lH tab ⟨t,ds,H⟩ (.tj lo xs) K↔KO (cm t H (.tj lo xs)) t ds K:=cS rfl
@[simp ↓] theorem acR (sz bytes:Nat) (zs:List FC) (x n:Arg):lH tab ⟨t,ds,H⟩ (.rD sz bytes zs x n) K↔KO (cm t H (.rD sz bytes zs x n)) t ds K:=cS rfl
@[simp ↓] theorem aab (sz:Nat) (zs:List FC) (x:Arg):lH tab ⟨t,ds,H⟩ (.clear sz zs x) K↔KO (cm t H (.clear sz zs x)) t ds K:=cS rfl
@[simp ↓] theorem Zi (sz:Nat) (zs:List FC) (len:Nat) (b:List (Nat × Arg)):lH tab ⟨t,ds,H⟩ (.kY sz zs len b) K↔KO (cm t H (.kY sz zs len b)) t ds K:=cS rfl
@[simp ↓] theorem acY (sz:Nat) (x hi mx:Arg):lH tab ⟨t,ds,H⟩ (.yT sz x hi mx) K↔KO (cm t H (.yT sz x hi mx)) t ds K:=cS rfl
@[simp ↓] theorem Zm (x:Arg):lH tab ⟨t,ds,H⟩ (.mq x) K↔KO (cm t H (.mq x)) t ds K:=cS rfl
@[simp ↓] theorem aag (x:Arg):lH tab ⟨t,ds,H⟩ (.pS x) K↔KO (cm t H (.pS x)) t ds K:=cS rfl
@[simp ↓] theorem aac (x:Arg):lH tab ⟨t,ds,H⟩ (.entry x) K↔KO (cm t H (.entry x)) t ds K:=cS rfl
@[simp ↓] theorem acV (f:Nat) (xs:List Arg):lH tab ⟨t,ds,H⟩ (.zw f xs) K↔KO (cm t H (.zw f xs)) t ds K:=cS rfl
@[simp ↓] theorem acS (f:Nat) (args:List Arg):lH tab ⟨t,ds,H⟩ (.call f args ag) K ↔
  KC tab (bu (dq deep H) (fm t args)) f t ds ((fm t args).foldl (Um deep) H) K:=by
 simp only[lH,KC,KP];simp
@[simp ↓] theorem aaa (f:Nat) (args:List Arg):lH tab ⟨t,ds,H⟩ (.call f args ae) K↔KD tab (aa (.fn f,fm t args)) t ds H K:=by simp[lH,KD,KE]
@[simp ↓] theorem Z_ (x:Arg) (args:List Arg) (h:Bool):lH tab ⟨t,ds,H⟩ (.jc x args h) K↔KD tab (cr (x.ev t) (fm t args)) t ds H K:=by
 simp only[lH,KD,KE];simp
end
def Gf:V->Option Bool
 | .c (.f (.bool b))=>aa b| _=>ab
@[simp] theorem ZS (b:Bool):Gf (.c (.f (.bool b)))=aa b:=rfl
section
variable{t:T}{H:an}
@[simp] theorem afX (x:Arg):cm t H (.iV x)=aa (x.ev t,H):=rfl
@[simp] theorem afY (o:Os) (sz:Nat):cm t H (.pre o sz)=if o=.loc\/sz=0 then ab else aa (.c (.sl H.length 0 0 0 0 sz),H++[.dj sz [] 0 0 o]):=rfl
@[simp] theorem afw (c x y:Arg):cm t H (.pick c x y)=(Gf (c.ev t)).map λb=>(if b then x.ev t else y.ev t,H):=by
 simp only[cm,Gf]
 grind
@[simp] theorem adU (zs:List FC):cm t H (.alloc zs)=aa (.c (.ptr H.length 0 0),H++[.box (zs.map .f) 0]):=rfl
@[simp] theorem afT (x:Arg):cm t H (.box x)=(x.ev t).cells?.map λxs=>(.c (.ptr H.length 0 0),H++[.box xs 0]):=by
 simp only[cm];cases (x.ev t).cells?<;>rfl
@[simp] theorem adV (zs:List FC) (ps:List (Nat × Nat × Arg)):cm t H (.build zs ps)=(ik t (zs.map .f) ps).map λcs=>(.a cs,H):=rfl
@[simp] theorem adb (sz:Nat) (zs:List FC) (n:Nat) (ps:List (Nat × Arg)):cm t H (.ft sz zs n ps) =
  if n=0 then(if ps.isEmpty then aa (.c (.f .es),H)else ab)else
  (ik t ((dJ n zs).map .f) (ps.map λp=>(p.1*sz,sz,p.2))).map λcs=>(.c (.sl H.length 0 n n 0 sz),H++[.box cs 0]):=rfl
@[simp] theorem afr (n:Option Nat) (x:Arg):cm t H (.load n x)=(aV H n (x.ev t)).map (·,H):=rfl
def CQ(H:an)(n:Nat)(x y:V):Option an:=
 match x,y.cells? with
 | .c p,aa xs=>if xs.length=n then cY H p xs else ab| _,_=>ab
@[simp] theorem ad1 (n:Nat) (x y:Arg):cm t H (.store n x y)=(CQ H n (x.ev t) (y.ev t)).map (.top,·):=by
 simp only[cm,CQ]
 grind
@[simp] theorem ac7 (n:Nat) (p:C) (y:V):CQ H n (.c p) y=y.cells?.bind λxs=>if xs.length=n then cY H p xs else ab:=by
 simp only[CQ];cases y.cells?<;>rfl
@[simp] theorem afS (op:BinOp) (x y:Arg):cm t H (.bin op x y)=(cT op (x.ev t) (y.ev t)).map (·,H):=rfl
@[simp] theorem agh (neg:Bool) (k:MX) (x y:Arg):cm t H (.eq neg k x y)=(MZ H k (x.ev t) (y.ev t)).map λb=>(vb (if neg then !b else b),H):=rfl
@[simp] theorem agi (op:UnOp) (x:Arg):cm t H (.un op x)=(SF op (x.ev t)).map (·,H):=rfl
def Yz(k:IntKind):V->Option V
 | .c (.f (.int _ n))=>aa (.c (.f (.int k (k.wrap n))))| _=>ab
@[simp] theorem aeU (k j:IntKind) (n:Int):Yz k (.c (.f (.int j n)))=aa (.c (.f (.int k (k.wrap n)))):=rfl
@[simp] theorem afV (k:IntKind) (x:Arg):cm t H (.Qo k x)=(Yz k (x.ev t)).map (·,H):=by
 simp only[cm,Yz];split
 .rename_i h;simp only[h];rfl
 .simp
@[simp] theorem afv (f:Nat) (b:List Arg):cm t H (.zx f b)=(bu sH (fm t b)).map λxs=>(.c (.cl f xs),H):=rfl
@[simp] theorem afu (f:Nat) (b:List Arg):cm t H (.zw f b)=(bu sH (fm t b)).map λxs=>(.c (.bm f xs),H):=rfl
@[simp] theorem adZ (sz:Nat) (x:Arg) (lo hi mx:Option Arg):cm t H (.slice sz x lo hi mx)=(cu H sz (x.ev t) (lo.map (·.ev t)) (hi.map (·.ev t)) (mx.map (·.ev t))).map (·,H):=rfl
@[simp] theorem adf (sz:Nat) (zs:List FC) (n:Nat) (ps:List (Nat × Arg)):cm t H (.kY sz zs n ps)=((ik t ((dJ n zs).map .f) (ps.map λp=>(p.1*sz,sz,p.2))).bind λcs=>if n=0 then ab else Vl cs).map λb=>(.c (.f (.fs b n)),H):=rfl
@[simp] theorem afx (sz:Nat) (x hi mx:Arg):cm t H (.yT sz x hi mx)=Bl H sz (x.ev t) (hi.ev t) (mx.ev t):=rfl
@[simp] theorem adY (n sz:Nat) (x:Arg) (lo hi mx:Option Arg):cm t H (.tH n sz x lo hi mx)=(pY H n sz (x.ev t) (lo.map (·.ev t)) (hi.map (·.ev t)) (mx.map (·.ev t))).map (·,H):=rfl
@[simp] theorem ad0 (x:Arg) (lo hi:Option Arg):cm t H (.vQ x lo hi)=(CO (x.ev t) (lo.map (·.ev t)) (hi.map (·.ev t))).map (·,H):=rfl
@[simp] theorem ade (o:Nat) (x:Arg):cm t H (.mj o x)=(qA o (x.ev t)).map (·,H):=rfl
@[simp] theorem adX (o:Nat) (n:Option Nat) (x:Arg):cm t H (.field o n x)=(pH o n (x.ev t)).map (·,H):=rfl
@[simp] theorem adg (sz:Nat) (b:Option Nat) (x i:Arg):cm t H (.eZ sz b x i)=(bG H sz b (x.ev t) (i.ev t)).map (·,H):=rfl
@[simp] theorem afp (x i:Arg):cm t H (.idxs x i)=(IJ (x.ev t) (i.ev t)).map (·,H):=rfl
@[simp] theorem afo (len sz:Nat) (n:Option Nat) (x i:Arg):cm t H (.D3 len sz n x i)=(II len sz n (x.ev t) (i.ev t)).map (·,H):=rfl
def cOf:V->Option C
 | .c x=>aa x| _=>ab
@[simp] theorem afL (x:C):cOf (.c x)=aa x:=rfl
@[simp] theorem afW (x:Arg):cm t H (.len x)=((cOf (x.ev t)).bind (bh H)).map λn=>(vi (n:Nat),H):=by
 simp only[cm,cOf];cases x.ev t with
 |c y=>simp only[ag8];cases bh H y<;>rfl
 |_=>rfl
@[simp] theorem afU (x:Arg):cm t H (.cap x)=((cOf (x.ev t)).bind (nU H)).map λn=>(vi (n:Nat),H):=by
 simp only[cm,cOf];cases x.ev t with
 |c y=>simp only[ag8];cases nU H y<;>rfl
 |_=>rfl
def strOf:V->Option ByteArray
 | .c (.f (.str s))=>aa s| _=>ab
@[simp] theorem adQ (s:ByteArray):strOf (.c (.f (.str s)))=aa s:=rfl
@[simp] theorem afq (n:Nat):cm t H (.qZ n)=aa (vi (n:Nat),H):=rfl
@[simp] theorem ada (sz bytes:Nat) (x y:Arg):cm t H (.append sz bytes x y)=bT H sz bytes (x.ev t) (y.ev t):=rfl
@[simp] theorem afn (sz:Nat) (x y:Arg):cm t H (.copy sz x y)=copyV H sz (x.ev t) (y.ev t):=rfl
@[simp] theorem afs (lo:Bool) (xs:List Arg):cm t H (.tj lo xs)=(Cm lo (fm t xs)).map (·,H):=rfl
def tOf:V->Option (List V)
 | .t b=>aa b| _=>ab
@[simp] theorem afR (b:List V):tOf (.t b)=aa b:=rfl
@[simp] theorem aam (x:Arg) (i:Nat):cm t H (.extract x i)=(tOf (x.ev t)).bind λb=>b[i]?.map (·,H):=by
 simp only[cm,tOf]
 grind
def wL:V->Option V
 | .c (.ptr b o e)=>aa (.c (.ptr b o e))| .c (.f (.fp cs o))=>aa (.c (.f (.fp cs o)))| _=>ab
@[simp] theorem Zb (b o e:Nat):wL (.c (.ptr b o e))=aa (.c (.ptr b o e)):=rfl
@[simp] theorem Z8 (cs:List FC) (o:Nat):wL (.c (.f (.fp cs o)))=aa (.c (.f (.fp cs o))):=rfl
@[simp] theorem adh (x:Arg):cm t H (.nq x)=(wL (x.ev t)).map (·,H):=by
 simp only[cm,wL]
 grind
@[simp] theorem ZV (f:Nat) (b:List FC) (args:List V):cr (.c (.f (.fn f b))) args=aa (.fn f,args++b.map λx=>.c (.f x)):=rfl
@[simp] theorem ZU (f:Nat) (b:List C) (args:List V):cr (.c (.cl f b)) args=aa (.fn f,args++b.map .c):=rfl
@[simp] theorem ZT (f:Nat) (first:List C) (args:List V):cr (.c (.bm f first)) args=aa (.fn f,first.map .c++args):=rfl
end
section
variable{k:IntKind}{a b:Int}{H:an}
@[simp] theorem adn:cT .add (.c (.f (.int k a))) (.c (.f (.int k b)))=aa (.c (.f (.int k (k.wrap (a+b))))):=by simp[cT,sF,V.int]
@[simp] theorem adv:cT .sub (.c (.f (.int k a))) (.c (.f (.int k b)))=aa (.c (.f (.int k (k.wrap (a-b))))):=by simp[cT,sF,V.int]
@[simp] theorem adt:cT .mul (.c (.f (.int k a))) (.c (.f (.int k b)))=aa (.c (.f (.int k (k.wrap (a*b))))):=by simp[cT,sF,V.int]
theorem gq(h:b≠0):cT .quo (.c (.f (.int k a))) (.c (.f (.int k b)))=aa (.c (.f (.int k (k.wrap (a.tdiv b))))):=by simp[cT,sF,V.int,h]
theorem dp(h:b≠0):cT .rem (.c (.f (.int k a))) (.c (.f (.int k b)))=aa (.c (.f (.int k (a.tmod b)))):=by simp[cT,sF,V.int,h]
@[simp] theorem ado:cT .eql (.c (.f (.int k a))) (.c (.f (.int k b)))=aa (vb (decide (a=b))):=by simp[cT,sF,V.bool];rfl
@[simp] theorem adu:cT .neq (.c (.f (.int k a))) (.c (.f (.int k b)))=aa (vb (!decide (a=b))):=by simp[cT,sF,V.bool];rfl
@[simp] theorem ads:cT .lss (.c (.f (.int k a))) (.c (.f (.int k b)))=aa (vb (decide (a<b))):=by simp[cT,sF,V.bool]
@[simp] theorem adr:cT .leq (.c (.f (.int k a))) (.c (.f (.int k b)))=aa (vb (decide (a<=b))):=by simp[cT,sF,V.bool]
@[simp] theorem adq:cT .gtr (.c (.f (.int k a))) (.c (.f (.int k b)))=aa (vb (decide (b<a))):=by simp[cT,sF,V.bool]
@[simp] theorem adp:cT .geq (.c (.f (.int k a))) (.c (.f (.int k b)))=aa (vb (decide (b<=a))):=by simp[cT,sF,V.bool]
@[simp] theorem acp {x y:Bool}:QA .bool (.f (.bool x)) (.f (.bool y))=aa (x == y):=rfl
@[simp] theorem adA:QA .int (.f (.int k a)) (.f (.int k b))=aa (a == b):=by simp[QA]
@[simp] theorem adB {x y:ByteArray}:QA .str (.f (.str x)) (.f (.str y))=aa (x == y):=rfl
@[simp] theorem adz:vw [] [] []=aa ae:=rfl
@[simp] theorem aco {q:CK} {qs:List CK} {x y:C} {xs ys:List C}:vw (q::qs) (x::xs) (y::ys)=(QA q x y).bind λc=>(vw qs xs ys).map λd=>c&&d:=by
 simp only[vw];cases QA q x y<;>cases vw qs xs ys<;>rfl
@[simp] theorem acq {x y:Bool}:MZ H .bool (.c (.f (.bool x))) (.c (.f (.bool y)))=aa (x == y):=rfl
@[simp] theorem aeX {b:List CK} {xs ys:List C}:MZ H (.st b) (.a xs) (.a ys)=vw b xs ys:=rfl
@[simp] theorem ZK {x:Bool}:SF .not (.c (.f (.bool x)))=aa (vb (!x)):=rfl
@[simp] theorem YM {o c o' ep:Nat}:qA o (.c (.ptr c o' ep))=aa (.c (.ptr c (o'+o) ep)):=rfl
@[simp] theorem Z0 {o o':Nat} {cs:List FC}:qA o (.c (.f (.fp cs o')))=aa (.c (.f (.fp cs (o'+o)))):=rfl
@[simp] theorem ady {x:C}:(V.c x).cells?=aa [x]:=rfl
@[simp] theorem adx {xs:List C}:(V.a xs).cells?=aa xs:=rfl
@[simp] theorem af2 {n:Nat} {x:FC}:fh n H (.f x)=aa x:=by cases n<;>rfl
@[simp] theorem acs {n:Nat} {x:C}:dq n H (.c x)=(fh n H x).map λy=>.c (.f y):=rfl
@[simp] theorem afO {n f:Nat} {b:List C}:fh (n+1) H (.cl f b)=(bu (fh n H) b).map (.fn f):=rfl
@[simp] theorem QD {n b o e:Nat}:fh (n+1) H (.ptr b o e)=match H[b]? with
  |some (.box cs _)=>(bu (fh n H) cs).map (.fp · o)| _=>ab:=rfl
theorem gT{n b o l c ep sz:Nat}:fh (n+1) H (.sl b o l c ep sz)=match H[b]? with
  |some (.box cs _)=>if o+l*sz<=cs.length then(bu (fh n H) ((cs.drop o).take (l*sz))).map (.fs · l)else ab| some (.dj s cs _ e .loc)=>if ep=e/\sz=s/\o+l*sz<=cs.length then(bu (fh n H) ((cs.drop o).take (l*sz))).map (.fs · l)else ab| some (.dj s _ _ e .nil)=>if ep=e/\sz=s then aa .aJ else ab| some (.dj s _ _ e .es)=>if ep=e/\sz=s then aa .es else ab| _=>ab:=rfl
theorem xX{n b o e:Nat}:ef (n+1) (.ptr b o e) H=match H[b]? with
  |some (.box cs fl)=>cs.foldl (λH x=>ef n x H) (H.set b (.box cs (Nat.max fl cs.length)))
  |_=>H:=rfl
theorem jL{n b o l c e sz:Nat}:ef (n+1) (.sl b o l c e sz) H=match H[b]? with
  |some (.box cs fl)=>((cs.drop o).take (l*sz)).foldl (λH x=>ef n x H) (H.set b (.box cs (Nat.max fl (o+l*sz))))
  |some (.dj s cs fl e st)=>((cs.drop o).take (l*sz)).foldl (λH x=>ef n x H) (H.set b (.dj s cs (Nat.max fl (o+l*sz)) e st))
  |_=>H:=rfl
theorem Eh{n f:Nat}{b:List C}:ef (n+1) (.cl f b) H=b.foldl (λH x=>ef n x H) H:=rfl
@[simp] theorem agc {n:Nat} {x:C}:Um n H (.c x)=ef n x H:=rfl
@[simp] theorem afN {n:Nat} {x:C}:jh n H (.c x)=(fh n H x).map λy=>.c (.f y):=rfl
theorem lu{n:Nat}:∀(xs:List FC),bu (fh n H) (xs.map .f)=aa xs
 |[]=>rfl| x::xs=>by simp[bu,lu xs]
@[simp] theorem afM {n:Nat} {xs:List C}:dq n H (.a xs)=(bu (fh n H) xs).map λys=>.a (ys.map .f):=rfl
@[simp] theorem adF {n:Nat} (xs:List FC):bu (fh n H) (xs.map .f)=aa xs:=lu xs
@[simp] theorem agb {n:Nat} {xs:List C}:Um n H (.a xs)=xs.foldl (λH x=>ef n x H) H:=rfl
@[simp] theorem Vw {n:Nat} {x:FC}:ef n (.f x) H=H:=by cases n<;>rfl
@[simp] theorem Z2 {n:Nat} (xs:List FC):(xs.map C.f).foldl (λH x=>ef n x H) H=H:=by
 induction xs with
 |nil=>rfl| cons x xs b=>simp only[agm,aid];rw[Vw];exact b
end
theorem nz{n:Int}(b:0<=n)(d:n<=255):IntKind.wrap .u8 n=n:=by
 simp only[IntKind.wrap,IntKind.bits,IntKind.signed];simp;omega
theorem jw{H:an}{sz n b o ep:Nat}{k:IntKind}{i:Int}(d:0<=i)(g:i<n):bG H sz (aa n) (.c (.ptr b o ep)) (.c (.f (.int k i)))=aa (.c (.ptr b (o+i.toNat*sz) ep)):=by
 simp[bG,fG,d,g]
theorem wrap64{n:Int}(b:-9223372036854775808<=n)(d:n<=9223372036854775807):IntKind.wrap .i64 n=n:=by
 simp only[IntKind.wrap,IntKind.bits,IntKind.signed];simp;omega
theorem aZ{n:Int}(b:-9223372036854775808<=n:=by omega)(d:n<=9223372036854775807:=by omega):IntKind.wrap .i64 n=n:=wrap64 b d
@[simp] theorem cast_eq (a b:Nat):((a:Int)=(b:Int))=(a=b):=propext Int.natCast_inj
@[simp] theorem acK {b d:Type} (g:b->Option d):bu g []=aa []:=rfl
@[simp] theorem Z7 {b d:Type} (g:b->Option d) (x:b) (xs:List b):bu g (x::xs)=(g x).bind λy=>(bu g xs).map (y::·):=by
 simp only[bu]
 grind
@[simp] theorem adR (x:C) (xs:List C):aW ab (x::xs)=aa (.c x):=rfl
@[simp] theorem adS (n:Nat) (xs:List C):aW (aa n) xs=if n<=xs.length then aa (.a (xs.take n))else ab:=rfl
@[simp] theorem ax (H:an) (n:Option Nat) (b o ep:Nat):aV H n (.c (.ptr b o ep))=match H[b]? with
  |some (.box cs _)=>aW n (cs.drop o)| some (.dj _ cs _ e .loc)=>if ep=e then aW n (cs.drop o)else ab| _=>ab:=by
 simp only[aV,aA]
 grind
theorem kD(H:an)(n:Option Nat)(cs:List FC)(o:Nat):aV H n (.c (.f (.fp cs o)))=aW n ((cs.drop o).map .f):=rfl
@[simp] theorem bw (H:an) (b o ep:Nat) (xs:List C):cY H (.ptr b o ep) xs=match H[b]? with
  |some (.box cs fl)=>if fl<=o/\o+xs.length<=cs.length then aa (H.set b (.box (over cs o xs) fl))else ab| some (.dj sz cs fl e .loc)=>if ep=e/\fl<=o/\o+xs.length<=cs.length then aa (H.set b (.dj sz (over cs o xs) fl e .loc))else ab| _=>ab:=rfl
attribute [simp] over dJ
@[simp] theorem Zp (t:T) (cs:List C):ik t cs []=aa cs:=rfl
@[simp] theorem VA (t:T) (cs:List C) (o n:Nat) (x:Arg) (ps:List (Nat × Nat × Arg)):ik t cs ((o,n,x)::ps)=(x.ev t).cells?.bind λxs=>if xs.length=n/\o+xs.length<=cs.length then ik t (over cs o xs) ps else ab:=by
 simp only[ik];cases (x.ev t).cells?<;>rfl
@[simp] theorem aeP (x:FC):sH (.c (.f x))=aa (.f x):=rfl
@[simp] theorem ach (b o e:Nat):sH (.c (.ptr b o e))=aa (.ptr b o e):=rfl
@[simp] theorem adw (b o l c e s:Nat):sH (.c (.sl b o l c e s))=aa (.sl b o l c e s):=rfl
def ZI:V->Option V
 | .t _=>ab| v=>aa v
@[simp] theorem afk (x:C):ZI (.c x)=aa (.c x):=rfl
@[simp] theorem afj (x:List C):ZI (.a x)=aa (.a x):=rfl
@[simp] theorem adO (t:T) (H:an) (n:Nat):cC t H (.tmp (P.nat n))=ZI (t.g n):=by
 rfl
@[simp] theorem ac0 (t:T) (H:an) (n:Nat) (k:Option Nat):cC t H (.cell (P.nat n) k)=aV H k (t.g n):=rfl
@[simp] theorem adC {t:T} {H:an} {x:ku} {r:V}:px [x] r ⟨t,[],H⟩↔∃b,cC t H x=aa b/\jh deep H b=aa r:=by
 simp only[px,results,true_and,bu]
 grind
@[simp] theorem adD {t:T} {H:an} {x y:ku} {a b:V}:px [x,y] (.t [a,b]) ⟨t,[],H⟩ ↔
  (∃d,cC t H x=aa d/\dq deep H d=aa a)/\∃d,cC t H y=aa d/\dq deep H d=aa b:=by
 simp only[px,results,true_and,bu];cases cC t H x with
 |none=>simp
 |some u=>cases cC t H y with
  |none=>simp| some w=>cases g:dq deep H u<;>cases j:dq deep H w<;>simp[jh,g,j]
@[simp] theorem Z1 {t:T} {H:an} {x y z:ku} {a b c:V}:px [x,y,z] (.t [a,b,c]) ⟨t,[],H⟩ ↔
  (∃d,cC t H x=aa d/\dq deep H d=aa a)/\(∃d,cC t H y=aa d/\dq deep H d=aa b)/\∃d,cC t H z=aa d/\dq deep H d=aa c:=by
 simp only[px,results,true_and,bu];cases cC t H x with
 |none=>simp
 |some u=>cases cC t H y with
  |none=>simp
  |some w=>cases cC t H z with
   |none=>simp| some q=>cases g:dq deep H u<;>cases j:dq deep H w<;>cases l:dq deep H q<;>simp[jh,g,j,l]
inductive Tg where|nil|es|fs
 deriving DecidableEq
def Tg.fc:Tg->FC
 | .nil=>.aJ| .es=>.es| .fs=>.fs [] 0
def sl(g:Tg)(rows:List (List FC)):FC:=if rows.isEmpty then g.fc else .fs rows.flatten rows.length
def cR(sz:Nat)(rows:List (List FC)):Prop:=∀r∈rows,r.length=sz
theorem cA{sz:Nat}:∀{rows:List (List FC)},cR sz rows->rows.flatten.length=rows.length*sz
 |[],_=>by simp
 |r::rows,h=>by
  have:=cA (rows:=rows) λx b=>h x (agr _ b);simp only[agG,aft,agP,this,h r ago,agS,Nat.one_mul];omega
theorem uD{sz:Nat}:∀{rows:List (List FC)} (j:Nat),cR sz rows->rows.flatten.drop (j*sz)=(rows.drop j).flatten
 |rows,0,_=>by simp
 |[],j+1,_=>by simp
 |r::rows,j+1,h=>by
  have b:=h r ago;have:=uD (rows:=rows) j λx d=>h x (agr _ d);rw[agG,List.drop_succ_cons,<-this,agS,Nat.one_mul,List.drop_append,b];simp_all
theorem nY{sz:Nat}:∀{rows:List (List FC)} (j:Nat),cR sz rows->rows.flatten.take (j*sz)=(rows.take j).flatten
 |rows,0,_=>by simp
 |[],j+1,_=>by simp
 |r::rows,j+1,h=>by
  have b:=h r ago;have:=nY (rows:=rows) j λx d=>h x (agr _ d);rw[agG,List.take_succ_cons,agG,<-this,agS,Nat.one_mul,List.take_append,b]
  grind
theorem cR.map{b:Type}{sz:Nat}{l:List b}{g:b->List FC}(h:∀x,(g x).length=sz):cR sz (l.map g):=λr d=>by
 grind
theorem nH{sz j k:Nat}{rows:List (List FC)}{row:List FC}(b:cR sz rows)(d:rows[j]?=aa row)(l:k<=sz) :
  rows.flatten.drop (j*sz+k)=row.drop k++(rows.drop (j+1)).flatten:=by
 have g:j<rows.length:=(OF.1 d).1;have m:row.length=sz:=b row (agU d);rw[<-ah4,uD j b,ags g,agG]
 grind
variable{H:an}
theorem jU{sz j k:Nat}{rows:List (List FC)}{row:List FC}{x:FC}(b:cR sz rows)(d:rows[j]?=aa row)(l:row[k]?=aa x) :
  aV H ab (.c (.f (.fp rows.flatten (j*sz+k))))=aa (.c (.f x)):=by
 have m:row.length=sz:=b row (agU d);have g:k<row.length:=(OF.1 l).1;have e:=nH (k:=k) b d ap;simp only[aV,aA,ag8,e];rw[ags g];have:row[k]=x:=by simpa[By g]using l
 simp_all
theorem Ua{sz j k n:Nat}{rows:List (List FC)}{row:List FC}(b:cR sz rows)(d:rows[j]?=aa row)(g:k+n<=sz) :
  aV H (aa n) (.c (.f (.fp rows.flatten (j*sz+k))))=aa (.a (((row.drop k).take n).map .f)):=by
 have l:row.length=sz:=b row (agU d);have e:=nH (k:=k) b d ap;simp only[aV,aA,ag8,e];simp only[aW];rw[bZ (by simp only[agq,aft,agF];omega)];rw[ahl,List.take_append_of_le_length (by simp only[agq,agF];omega),List.map_take]
theorem cf{sz j:Nat}{rows:List (List FC)}{row:List FC}(b:cR sz rows)(d:rows[j]?=aa row) :
  aV H (aa sz) (.c (.f (.fp rows.flatten (j*sz))))=aa (.a (row.map .f)):=by
 have g:row.length=sz:=b row (agU d);have:=Ua (H:=H) (k:=0) (n:=sz) b d ap
 grind
theorem gU{sz j:Nat}{rows:List (List FC)}{row:List FC}{x:FC}(b:cR sz rows)(d:rows[j]?=aa row)(g:row[0]?=aa x) :
  aV H ab (.c (.f (.fp rows.flatten (j*sz))))=aa (.c (.f x)):=jU (k:=0) b d g
theorem T_{j:Nat}{l:List Int}{x:Int}(b:l[j]?=aa x) :
  aV H ab (.c (.f (.fp (l.map λn=>[fi n]).flatten (j*1))))=aa (vi x):=
 gU (row:=[fi x]) (cR.map λ_=>rfl) (by rw[List.getElem?_map,b];rfl) rfl
@[simp] theorem Q2 (g:Tg) (rows:List (List FC)):bh H (.f (sl g rows))=aa rows.length:=by
 cases rows with
 |nil=>cases g<;>rfl
 |cons r rows=>rfl
theorem bz{g:Tg}{rows:List (List FC)}{sz:Nat}{k:IntKind}{i:Int}(d:0<=i)(b:i<rows.length) :
  bG H sz ab (.c (.f (sl g rows))) (.c (.f (.int k i)))=aa (.c (.f (.fp rows.flatten (i.toNat*sz)))):=by
 cases rows with
 |nil=>simp at b;omega
 |cons r rows=>
  simp only[agP]at b;simp[bG,fG,sl,d];omega
theorem DF{g:Tg}{rows:List (List FC)}{sz:Nat}(b:cR sz rows):dg H sz (.f (sl g rows))=aa (rows.flatten.map .f):=by
 cases rows with
 |nil=>cases g<;>simp[sl,Tg.fc,dg]
 |cons r rows=>
  have:=cA b;simp only[sl,aiH,agH,if_false,dg,this,if_true]
end
section
open Go
def Kf(tab:TB)(f:Nat)(args:List V)(r:V):Prop:=∀H,∃J,Ev tab (.fn f) args H r (H++J)
section
variable{tab:TB}{f:Nat}{args:List V}{r:V}
theorem Kf.pure{x:FC}(h:Kf tab f args (.c (.f x))):bg tab f args (.c (.f x)):=by
 obtain⟨J,h⟩:=h [];exact⟨_,_,h,bv⟩
theorem Kf.eq{x:FC}(h:Kf tab f args (.c (.f x))):bg tab f args=Eq (.c (.f x)):=
 funext λr=>propext ⟨λk=>h.pure.YF k,λe=>e▸h.pure⟩
theorem bg.eq{r:V}(h:bg tab f args r):bg tab f args=Eq r:=funext λ_=>propext ⟨λk=>h.YF k,λe=>e▸h⟩
noncomputable def acD (tab:TB) (f:Nat) (args:List V) (H:an):an:=Classical.epsilon λJ=>∃r,Ev tab (.fn f) args H r (H++J)
theorem Kf.ev(h:Kf tab f args r)(H:an):Ev tab (.fn f) args H=E2 r (H++acD tab f args H):=by
 have l:∃J,∃r,Ev tab (.fn f) args H r (H++J):=by obtain⟨J,b⟩:=h H;exact⟨J,r,b⟩
 have m:∃r,Ev tab (.fn f) args H r (H++acD tab f args H):=Classical.epsilon_spec l;obtain⟨J,b⟩:=h H;obtain⟨r',d⟩:=m;obtain⟨rfl,e⟩:=b.YF d;funext x H';exact propext ⟨λk=>d.YF k,λ⟨g,j⟩=>g▸j▸d⟩
theorem Ev.eq{c:Callee}{H H':an}(h:Ev tab c args H r H'):Ev tab c args H=E2 r H':=funext λ_=>funext λ_=>propext ⟨λk=>h.YF k,λ⟨b,d⟩=>b▸d▸h⟩
theorem Kf.RJ{xs:List FC}(h:Kf tab f args (.a (xs.map .f))):bg tab f args (.a (xs.map .f)):=by
 obtain⟨J,h⟩:=h [];exact⟨_,_,h,by simp[jh]⟩
def S_(b:List ku)(r:V)(H:an)(s:St):Prop:=s.defs=[]/\results s.aN s.heap b=aa r/\∃J,s.heap=H++J
theorem dh{ps:List P}{b:List ku}{body:aE}(y:tab f=aa ⟨ps,b,body⟩)(x:args.length=ps.length)
  (h:∀(H:an) (Q:Option aE->St->Prop),(∀j s,S_ b r H s->Q j s)->WP tab f ab [.code body] ⟨dm ps args .e,[],H⟩ Q):Kf tab f args r:=by
 intro H;have g:=h H (λ_ s=>S_ b r H s) λ_ _ h=>h;obtain⟨n,m,d,j,s,l,v,q,J,u⟩:=g;exact⟨J,rj y x ⟨n,m,d,j,s,l,0,0,s.heap,by rw[v];rfl,by rw[q],u⟩⟩
@[simp] theorem acw {t:T} {H H':an} {x:ku}:S_ [x] r H ⟨t,[],H'⟩↔cC t H' x=aa r/\∃J,H'=H++J:=by
 simp only[S_,results,true_and,bu]
 grind
@[simp] theorem ace (H L:an):(H++L)[H.length]?=L[0]?:=by rw[agj (agn _)];simp
@[simp] theorem adm (H L:an) (n:Nat):(H++L)[H.length+n]?=L[n]?:=by rw[agj ap];congr 1;omega
theorem vL{m d:Nat}{x:FC}(h:(CF tab m d (.fn f) args []).map (·.1)=aa (.c (.f x))):bg tab f args (.c (.f x)):=by
 rw[IT]at h;obtain⟨⟨r,H'⟩,b,g⟩:=h;exact⟨r,H',⟨m,d,b⟩,by rw[show r=.c (.f x) from g];simp⟩
theorem aY{m d:Nat}{x:V}(h:((CF tab m d (.fn f) args []).bind λp=>jh deep p.2 p.1)=aa x):bg tab f args x:=by
 rw[agR]at h;obtain⟨⟨r,H'⟩,b,g⟩:=h;exact⟨r,H',⟨m,d,b⟩,g⟩
theorem afa{tab:TB}{f:Nat}{args:List V}{x:V}(h:((CF tab 60 10 (.fn f) args []).bind λp=>jh deep p.2 p.1)=aa x):bg tab f args=Eq x:=bg.eq (aY h)
theorem dx{S:V->Prop}{ps:List P}{b:List ku}{body:aE}(z:tab f=aa ⟨ps,b,body⟩)(x:args.length=ps.length)
  (h:∀Q:Option aE->St->Prop,(∀j s r,S r->px b r s->Q j s)->WP tab f ab [.code body] ⟨dm ps args .e,[],[]⟩ Q):∃r,S r/\bg tab f args r:=by
 have q:=h (λ_ s=>∃r,S r/\px b r s) λ_ _ r g l=>⟨r,g,l⟩
 obtain⟨n,m,d,j,s,g,r,y,v,A,l,u⟩:=q;exact⟨r,y,A,s.heap,rj z x ⟨n,m,d,j,s,g,0,0,s.heap,by rw[v];rfl,l,rfl⟩,u⟩
variable{fn i:Nat}{ro:Option Nat}{k:List dU}{ds:List gX}{Q:Option aE->St->Prop}
def nK(a x:Nat):aE:=.region [⟨D x,.bin .add (R a) (.k (.c (.f (.int .i64 1)))),ab⟩,⟨D a,.iV (R x),ab⟩] []
def fX(i a b c x:Nat)(body:aE):aE:=.seq (.region [⟨D c,.bin .lss (R a) (R b),ab⟩] []) (.seq (.cond (R c) .skip (.exit i)) (.seq body (nK a x)))
def wG(i a b c x:Nat)(body:aE):aE:=.block i (.loop (fX i a b c x body))
theorem bS{a b c x:Nat}{body:aE}{t:T}{H:an}(N:Nat)(I:Nat->T->an->Prop)(J:N<=9223372036854775807)(A:a≠b)(E:x≠b)
  (m:t.g a=vi 0) (q:t.g b=vi N) (y:I 0 t H)
  (step:∀j t H,j<N->I j t H->t.g a=vi j->t.g b=vi N->
   (∀l H',I (j+1) ((l.s x (vi (j+1:Nat))).s a (vi (j+1:Nat))) H'->l.g a=vi j->l.g b=vi N->
    WP tab fn ro (.code (nK a x)::.inLoop (fX i a b c x body)::.inBlock i::k) ⟨l,ds,H'⟩ Q)->
   WP tab fn ro (.code body::.code (nK a x)::.inLoop (fX i a b c x body)::.inBlock i::k) ⟨t.s c (vb ae),ds,H⟩ Q)
  (done:∀t H,I N t H->t.g a=vi N->t.g b=vi N->WP tab fn ro k ⟨t.s c (vb ag),ds,H⟩ Q) :
  WP tab fn ro (.code (wG i a b c x body)::k) ⟨t,ds,H⟩ Q:=by
 have g:∀ops:List ba,ops.all (·.op.fJ)=ae->ro=ab\/ops.all (·.op.fJ)=ae:=λ_ h=>.inr h;refine ay ?_;refine dc (λn s=>∃j t H,s=⟨t,ds,H⟩/\j<=N/\n=N-j/\I j t H/\t.g a=vi j/\t.g b=vi N) N ⟨0,t,H,rfl,ap,ap,y,m,q⟩ ?_;rintro n s ⟨j,t,H,rfl,K,rfl,z,m,q⟩ F;apply au;refine aq (g _ rfl) ?_;simp[m,q];by_cases d:j<N
 .rw[decide_eq_true d];apply au;refine aw bv ?_;refine aR ?_;apply au;refine step j t H d z m q λl H' u v B=>?_;refine aq (g _ rfl) ?_;simp[v];rw[aZ];refine F (N-(j+1)) _ ap ⟨j+1,_,H',rfl,ap,rfl,by simpa using u,bv,?_⟩;simp_all
 .have:j=N:=by omega
  subst this;rw[decide_eq_false d];apply au;refine aD bv ?_;refine bJ (k':=k) (by simp[exitTo]) ?_;simp_all
def AJ(a x y:Nat):aE:=.region [⟨D x,.iV (R a),ab⟩,⟨D y,.bin .add (R x) (.k (.c (.f (.int .i64 1)))),ab⟩,⟨D a,.iV (R y),ab⟩] []
def qN(i a c x y:Nat)(b:List ba)(body:aE):aE:=.seq (.seq (.region b []) (.cond (R c) .skip (.exit i))) (.seq body (AJ a x y))
def Qd(i a c x y:Nat)(b:List ba)(body:aE):aE:=.block i (.loop (qN i a c x y b body))
theorem jy{a c x y:Nat}{g:List ba}{body:aE}{t:T}{H:an}(N:Nat)(I:Nat->T->an->Prop)(J:N<=9223372036854775807)(A:g.all (·.op.fJ)=ae)
  (d:t.g a=vi 0) (B:I 0 t H)
  (l:∀j t H (L:St->Prop),j<=N->I j t H->t.g a=vi j->(∀b,I j b H->b.g a=vi j->b.g c=vb (decide ((j:Int)<(N:Int)))->L ⟨b,ds,H⟩)->Aj tab g ⟨t,ds,H⟩ L)
  (step:∀j t H,j<N->I j t H->t.g a=vi j->
   (∀b H',I (j+1) (((b.s x (vi j)).s y (vi (j+1:Nat))).s a (vi (j+1:Nat))) H'->b.g a=vi j->
    WP tab fn ro (.code (AJ a x y)::.inLoop (qN i a c x y g body)::.inBlock i::k) ⟨b,ds,H'⟩ Q)->
   WP tab fn ro (.code body::.code (AJ a x y)::.inLoop (qN i a c x y g body)::.inBlock i::k) ⟨t,ds,H⟩ Q)
  (done:∀t H,I N t H->t.g a=vi N->WP tab fn ro k ⟨t,ds,H⟩ Q) :
  WP tab fn ro (.code (Qd i a c x y g body)::k) ⟨t,ds,H⟩ Q:=by
 have m:∀ops:List ba,ops.all (·.op.fJ)=ae->ro=ab\/ops.all (·.op.fJ)=ae:=λ_ h=>.inr h;refine ay ?_;refine dc (λn s=>∃j t H,s=⟨t,ds,H⟩/\j<=N/\n=N-j/\I j t H/\t.g a=vi j) N ⟨0,t,H,rfl,ap,ap,B,d⟩ ?_;rintro n s ⟨j,t,H,rfl,E,rfl,q,d⟩ F;apply au;apply au;refine aq (m _ A) ?_;refine l j t H _ E q d λb q d hc=>?_;by_cases z:j<N
 .rw[decide_eq_true ap]at hc;refine aw hc ?_;refine aR ?_;apply au;refine step j b H z q d λb H' u v=>?_;refine aq (m _ rfl) ?_;simp[v];rw[aZ];exact F (N-(j+1)) _ ap ⟨j+1,_,H',rfl,ap,rfl,by simpa using u,bv⟩
 .have:j=N:=by omega
  subst this;rw[decide_eq_false ap]at hc;refine aD hc ?_;refine bJ (k':=k) (by simp[exitTo]) ?_;simp_all
end
end
section
open Go
def nh{b:Type}(l:List b)(p:b->Bool):Int:=match l.findIdx? p with|some j=>j|none=>-1
theorem LG{b:Type}(l:List b)(p:b->Bool):decide (0<=nh l p)=l.any p:=by
 unfold nh
 grind
theorem LF{b:Type}{l:List b}{p:b->Bool}{j:Nat}(d:j<l.length)(m:p l[j]=ae)(g:∀(i:Nat) (hi:i<j),p (l[i]'(by omega))=ag):nh l p=j:=by
 have:l.findIdx? p=aa j:=by
  rw[List.findIdx?_eq_some_iff_getElem];simp_all
 simp[nh,this]
theorem LK{b:Type}{l:List b}{p:b->Bool}(g:∀(i:Nat) (hi:i<l.length),p l[i]=ag):nh l p = -1:=by
 have:l.findIdx? p=ab:=by
  rw[List.findIdx?_eq_none_iff];intro x d;obtain⟨i,hi,rfl⟩:=List.getElem_of_mem d;simp_all
 simp[nh,this]
def ints(l:List Int):List (List FC):=l.map λn=>[fi n]
@[simp] theorem xR (l:List Int):(ints l).length=l.length:=by simp[ints]
theorem LW(l:List Int):cR 1 (ints l):=cR.map λ_=>rfl
theorem dZ{j:Nat}{l:List Int}(b:j<l.length){H:an}:aV H ab (.c (.f (.fp (ints l).flatten j)))=aa (vi l[j]):=by
 have:=T_ (H:=H) (By b);simpa[ints]using this
variable{tab:TB}
def TX(t:List ba):aE:=.block 1 (.seq (.region [⟨D 10,.iV (R 8),ab⟩,⟨D 5,.iV (R 10),ab⟩] []) (.seq
 (.region t []) (.cond (R 16) (.seq (.region [⟨D 17,.iV (R 5),ab⟩,⟨D 4,.iV (R 17),ab⟩] []) .ret) .skip)))
def YV(t:List ba):aM:=⟨[P.nat 0,P.nat 1],[.tmp (P.nat 4)],.seq (.region [⟨D 4,.iV (.k (.c (.f (.int .i64 0)))),ab⟩] [])
 (.seq (.seq (.region [⟨D 6,.iV (R 0),ab⟩,⟨D 7,.len (R 6),ab⟩,⟨D 8,.iV (.k (.c (.f (.int .i64 0)))),ab⟩] []) (wG 0 8 7 9 18 (TX t)))
 (.seq (.region [⟨D 4,.iV (.k (.c (.f (.int .i64 (-1))))),ab⟩] []) .ret))⟩
def Vi:List ba:=[⟨D 11,.iV (R 1),ab⟩,⟨D 12,.iV (R 0),ab⟩,⟨D 13,.iV (R 5),ab⟩,⟨D 14,.eZ 1 ab (R 12) (R 13),ab⟩,⟨D 15,.load ab (R 14),ab⟩,⟨D 16,.bin .eql (R 11) (R 15),ab⟩]
def Vf(sz:Nat)(b:Option Nat):List ba:=[⟨D 11,.iV (R 1),ab⟩,⟨D 12,.iV (R 0),ab⟩,⟨D 13,.iV (R 5),ab⟩,⟨D 14,.eZ sz ab (R 12) (R 13),ab⟩,⟨D 15,.load b (R 14),ab⟩,⟨D 16,.jc (R 11) [(R 15)] ae,ab⟩]
theorem QT{f:Nat}{d:List ba}(W:tab f=aa (YV d)){x y:V}{F:Type}{l:List F}{p:F->Bool}(U:l.length<=9223372036854775807)
  (X:∃c,x=.c c/\∀H,bh H c=aa l.length)
  (g:∀(j:Nat) (u:j<l.length) (t:T) (H:an) (L:St->Prop),t.g 0=x->t.g 1=y->t.g 5=vi j->
   (∀b J,b.g 0=x->b.g 1=y->b.g 5=vi j->b.g 7=t.g 7->b.g 8=t.g 8->b.g 16=vb (p l[j])->L ⟨b,[],H++J⟩)->Aj tab d ⟨t,[],H⟩ L) :
  Kf tab f [x,y] (vi (nh l p)):=by
 obtain⟨c,rfl,hc⟩:=X;refine dh W rfl λH Q B=>?_;apply au;refine aq (.inl rfl) ?_;simp;apply au;apply au;refine aq (.inl rfl) ?_;simp[hc];refine bS l.length (λj t H'=>t.g 0=.c c/\t.g 1=y/\(∃J,H'=H++J)/\∀(i:Nat) (hi:i<l.length),i<j->p l[i]=ag) U ce ce bv bv bv ?_ ?_
 .rintro j t _ u ⟨z,A,⟨J,rfl⟩,q⟩ s E next
  refine ay ?_;apply au;refine aq (.inl rfl) ?_;simp[s];apply au;refine aq (.inl rfl) ?_;refine g j u _ _ _ (by simp[z]) (by simp[A]) bv λb J' I K M N O m=>?_;cases v:p l[j]with
  |true=>
   refine aw (by simp[m,v]) ?_;apply au;refine aq (.inl rfl) ?_;simp[M];refine az (B _ _ ?_);have:=LF u v (λi hi=>q i ap hi);simp_all
  |false=>
   refine aD (by simp[m,v]) ?_;refine aR (av (next _ _ ?_ (by simp[O,s]) (by simp[N,E])));refine⟨by simp[I],by simp[K],⟨J++J',bv⟩,λi hi S=>?_⟩
   grind
 .rintro t _ ⟨z,A,⟨J,rfl⟩,q⟩ s E;apply au;refine aq (.inl rfl) ?_;simp;refine az (B _ _ ?_);have:=LK (l:=l) (p:=p) (λi hi=>q i hi hi);simp[this]
theorem Ce{f:Nat}(x:tab f=aa (YV Vi))(g:Tg)(l:List Int)(v:Int)(u:l.length<=9223372036854775807) :
  Kf tab f [.c (.f (sl g (ints l))),vi v] (vi (nh l (· == v))):=by
 refine QT x u ⟨_,rfl,λH=>by simp⟩ ?_;intro j s t H L b d m q;simp[Vi,b,d,m,bz,s,dZ];have:=q ((((((t.s 11 (vi v)).s 12 (.c (.f (sl g (ints l))))).s 13 (vi j)).s 14 (.c (.f (.fp (ints l).flatten j)))).s 15 (vi l[j])).s 16 (vb (decide (v=l[j])))) [] (by simp[b]) (by simp[d]) (by simp[m]) bv bv (by
  have y:decide (v=l[j])=(l[j] == v):=by rw[Bool.eq_iff_iff];simp;exact eq_comm
  simp_all)
 simp_all
theorem je{f sz:Nat}{s:Option Nat}(E:tab f=aa (YV (Vf sz s))){q:Type}(l:List q)(enc:q->List FC)(val:q->V)(p:q->Bool)(g:Tg)(k:Nat)(b:List FC)
  (A:l.length<=9223372036854775807) (d:∀(j:Nat) (m:j<l.length) (H:an),aV H s (.c (.f (.fp (l.map enc).flatten (j*sz))))=aa (val l[j]))
  (B:∀x∈l,Kf tab k (val x::b.map λc=>.c (.f c)) (vb (p x))) :
  Kf tab f [.c (.f (sl g (l.map enc))),.c (.f (.fn k b))] (vi (nh l p)):=by
 refine QT E A ⟨_,rfl,λH=>by simp⟩ ?_;intro j m t H L u v y F;have z:=(B l[j] (IN m)).ev H;have hi:=bz (H:=H) (g:=g) (rows:=l.map enc) (sz:=sz) (k:=.i64) (i:=(j:Int)) ap (by simpa using m);simp[Vf,u,v,y,hi,d j m,z];simp_all
def Lo(f:Nat):aM:=⟨[P.nat 0,P.nat 1],[.tmp (P.nat 4)],.seq (.region [⟨D 4,.iV (.k (.c (.f (.bool ag)))),ab⟩] []) (.seq
 (.region [⟨D 5,.iV (R 0),ab⟩,⟨D 6,.iV (R 1),ab⟩,⟨D 7,.call f [(R 5),(R 6)] ag,ab⟩,⟨D 8,.bin .geq (R 7) (.k (.c (.f (.int .i64 0)))),ab⟩,⟨D 4,.iV (R 8),ab⟩] []) .ret)⟩
theorem fD{f k:Nat}(m:tab f=aa (Lo k)){a b:FC}{d:Type}{l:List d}{p:d->Bool}(h:Kf tab k [.c (.f a),.c (.f b)] (vi (nh l p))) :
  Kf tab f [.c (.f a),.c (.f b)] (vb (l.any p)):=by
 refine dh m rfl λH Q g=>?_;apply au;refine aq (.inl rfl) ?_;simp;apply au;refine aq (.inl rfl) ?_;have j:=h.eq;simp[j];refine az (g _ _ ?_);simp[LG]
end
section
open Go
theorem aj{H:an}{b:Nat}{x:bO}(h:H[b]?=aa x):b<H.length:=(OF.1 h).1
theorem fH{j l:Type}{g g':j->Option l}:∀{xs:List j} {ys:List l},(∀x y,x∈xs->g x=aa y->g' x=aa y)->bu g xs=aa ys->bu g' xs=aa ys
 |[],ys,_,h=>h
 |x::xs,ys,hi,h=>by
  simp only[bu]at h ⊢;cases d:g x with
  |none=>simp[d]at h
  |some y=>
   cases b:bu g xs with
   |none=>simp[d,b]at h
   |some zs=>
    simp only[d,b]at h;rw[hi x y ago d,fH (λx y m=>hi x y (agr _ m)) b];omega
theorem ti{j l:Type}{g:j->Option l}:∀{xs:List j} {ys:List l},bu g xs=aa ys->ys.length=xs.length
 |[],ys,h=>by simp[bu]at h;subst h;rfl
 |x::xs,ys,h=>by
  simp only[bu]at h;cases d:g x with
  |none=>simp[d]at h
  |some y=>
   cases b:bu g xs with
   |none=>simp[d,b]at h| some zs=>simp[d,b]at h;subst h;simp[ti b]
theorem vG{q s:Type}{g:q->Option s}:∀{xs b:List q} {ys d:List s},bu g xs=aa ys->bu g b=aa d->bu g (xs++b)=aa (ys++d)
 |[],b,ys,d,h,l=>by simp[bu]at h;subst h;simpa using l
 |x::xs,b,ys,d,h,l=>by
  simp only[bu,ahJ]at h ⊢;cases m:g x with
  |none=>simp[m]at h
  |some y=>
   cases j:bu g xs with
   |none=>simp[m,j]at h| some zs=>simp[m,j]at h;subst h;simp[vG j l]
def gP:Nat->an->C->Option FC
 |_,_,.f x=>aa x| 0,_,_=>ab
 |n+1,H,.ptr b d _=>match H[b]? with
  |some (.box cs _)=>(bu (gP n H) cs).map (.fp · d)| _=>ab
 |n+1,H,.sl b o l _ _ sz=>match H[b]? with
  |some (.box cs _)=>if o+l*sz<=cs.length then(bu (gP n H) ((cs.drop o).take (l*sz))).map (.fs · l)else ab| _=>ab
 |_+1,_,_=>ab
@[simp] theorem DR {n:Nat} {H:an} {x:FC}:gP n H (.f x)=aa x:=by cases n<;>rfl
theorem xH{n b o l c ep sz:Nat}{H:an}:gP (n+1) H (.sl b o l c ep sz)=match H[b]? with
  |some (.box cs _)=>if o+l*sz<=cs.length then(bu (gP n H) ((cs.drop o).take (l*sz))).map (.fs · l)else ab| _=>ab:=rfl
@[simp] theorem xU {n:Nat} {H:an}:∀(xs:List FC),bu (gP n H) (xs.map .f)=aa xs
 |[]=>rfl| x::xs=>by simp only[agm,bu,DR,xU xs]
theorem qz{H H':an}(g:∀(b:Nat) cs fl,H[b]?=aa (.box cs fl)->∃fl',H'[b]?=aa (.box cs fl')):∀(n:Nat) (x:C) (y:FC),gP n H x=aa y->gP n H' x=aa y
 |n,.f x,y,h=>by simpa using h
 |0,.ptr _ _ _,_,h=>by simp[gP]at h
 |0,.sl _ _ _ _ _ _,_,h=>by simp[gP]at h
 |n+1,.ptr b u e,y,h=>by
  simp only[gP]at h ⊢;split at h
  .rename_i cs fl d;obtain⟨fl',j⟩:=g b cs fl d;simp only[j];rw[IT]at h ⊢;obtain⟨zs,m,q⟩:=h;exact⟨zs,fH (λx y _=>qz g n x y) m,q⟩
  .simp at h
 |n+1,.sl b o l c e sz,y,h=>by
  simp only[gP]at h ⊢;split at h
  .rename_i cs fl d;obtain⟨fl',j⟩:=g b cs fl d;simp only[j];split at h
   .rename_i s;rw[bZ s];rw[IT]at h ⊢;obtain⟨zs,m,q⟩:=h;exact⟨zs,fH (λx y _=>qz g n x y) m,q⟩
   .simp at h
  .simp at h
 |0,.cl _ _,_,h=>by simp[gP]at h
 |0,.yl _,_,h=>by simp[gP]at h
 |0,.mp _,_,h=>by simp[gP]at h
 |0,.it _,_,h=>by simp[gP]at h
 |0,.bm _ _,_,h=>by simp[gP]at h
 |0,.mi _,_,h=>by simp[gP]at h
 |_+1,.cl _ _,_,h=>by simp[gP]at h
 |_+1,.yl _,_,h=>by simp[gP]at h
 |_+1,.mp _,_,h=>by simp[gP]at h
 |_+1,.it _,_,h=>by simp[gP]at h
 |_+1,.bm _ _,_,h=>by simp[gP]at h
 |_+1,.mi _,_,h=>by simp[gP]at h
theorem B5{H:an}:∀(n:Nat) (x:C) (y:FC),gP n H x=aa y->fh n H x=aa y
 |n,.f x,y,h=>by simpa using h
 |0,.ptr _ _ _,_,h=>by simp[gP]at h
 |0,.sl _ _ _ _ _ _,_,h=>by simp[gP]at h
 |n+1,.ptr b q e,y,h=>by
  simp only[gP]at h;simp only[fh];split at h
  .rename_i cs fl d
   try simp only[d]
   rw[IT]at h ⊢;obtain⟨zs,g,j⟩:=h;exact⟨zs,fH (λx y _=>B5 n x y) g,j⟩
  .simp at h
 |n+1,.sl b o l c e sz,y,h=>by
  simp only[gP]at h;simp only[fh];split at h
  .rename_i cs fl d
   try simp only[d]
   split at h
   .rename_i m;rw[bZ m];rw[IT]at h ⊢;obtain⟨zs,g,j⟩:=h;exact⟨zs,fH (λx y _=>B5 n x y) g,j⟩
   .simp at h
  .simp at h
 |0,.cl _ _,_,h=>by simp[gP]at h
 |0,.yl _,_,h=>by simp[gP]at h
 |0,.mp _,_,h=>by simp[gP]at h
 |0,.it _,_,h=>by simp[gP]at h
 |0,.bm _ _,_,h=>by simp[gP]at h
 |0,.mi _,_,h=>by simp[gP]at h
 |_+1,.cl _ _,_,h=>by simp[gP]at h
 |_+1,.yl _,_,h=>by simp[gP]at h
 |_+1,.mp _,_,h=>by simp[gP]at h
 |_+1,.it _,_,h=>by simp[gP]at h
 |_+1,.bm _ _,_,h=>by simp[gP]at h
 |_+1,.mi _,_,h=>by simp[gP]at h
theorem Gt{H:an}:∀{n m:Nat} {x:C} {y:FC},gP n H x=aa y->n<=m->gP m H x=aa y
 |n,m,.f x,y,h,_=>by simpa using h
 |0,_,.ptr _ _ _,_,h,_=>by simp[gP]at h
 |0,_,.sl _ _ _ _ _ _,_,h,_=>by simp[gP]at h
 |_+1,0,_,_,_,s=>by omega
 |n+1,m+1,.ptr b v e,y,h,s=>by
  simp only[gP]at h ⊢;split at h
  .rename_i cs fl d
   try simp only[d]
   rw[IT]at h ⊢;obtain⟨zs,g,j⟩:=h;exact⟨zs,fH (λx y _ q=>Gt q ap) g,j⟩
  .omega
 |n+1,m+1,.sl b o l c e sz,y,h,s=>by
  simp only[gP]at h ⊢;split at h
  .rename_i cs fl d
   try simp only[d]
   split at h
   .rename_i u;rw[bZ u];rw[IT]at h ⊢;obtain⟨zs,g,j⟩:=h;exact⟨zs,fH (λx y _ q=>Gt q ap) g,j⟩
   .simp at h
  .omega
 |0,_,.cl _ _,_,h,_=>by simp[gP]at h
 |0,_,.yl _,_,h,_=>by simp[gP]at h
 |0,_,.mp _,_,h,_=>by simp[gP]at h
 |0,_,.it _,_,h,_=>by simp[gP]at h
 |0,_,.bm _ _,_,h,_=>by simp[gP]at h
 |0,_,.mi _,_,h,_=>by simp[gP]at h
 |_+1,_+1,.cl _ _,_,h,_=>by simp[gP]at h
 |_+1,_+1,.yl _,_,h,_=>by simp[gP]at h
 |_+1,_+1,.mp _,_,h,_=>by simp[gP]at h
 |_+1,_+1,.it _,_,h,_=>by simp[gP]at h
 |_+1,_+1,.bm _ _,_,h,_=>by simp[gP]at h
 |_+1,_+1,.mi _,_,h,_=>by simp[gP]at h
theorem YK{H:an}{n m:Nat}{x:C}{y:FC}(h:gP n H x=aa y)(b:n<=m):fh m H x=aa y:=B5 m x y (Gt h b)
theorem xG{H:an}(L:an){n:Nat}{x:C}{y:FC}(h:gP n H x=aa y):gP n (H++L) x=aa y:=
 qz (λb cs fl d=>⟨fl,by rw[AI (aj d)];exact d⟩) n x y h
def Tg.os:Tg->Os
 | .nil=>.nil| _=>.es
def LB(z:Bool)(H:an)(sz:Nat)(v:V)(g:Tg)(rows:List (List FC)):Prop:=
 (rows=[]/\v=.c (.f g.fc)/\g≠.fs)\/
 ∃b ep fl st cs,v=.c (.sl b 0 rows.length 0 ep sz)/\H[b]?=aa (.dj sz cs fl ep st)/\bu (gP 60 H) cs=aa rows.flatten/\fl<=cs.length/\(z=ae->fl=0)/\
  (rows=[]->st=g.os/\g≠.fs)/\(rows≠[]->st=.loc)
variable{z:Bool}{H H':an}{sz bytes:Nat}{v y:V}{g:Tg}{rows:List (List FC)}{row:List FC}{cs:List C}
theorem LB.push(h:LB z H sz v g rows)(L:an):LB z (H++L) sz v g rows:=by
 rcases h with h|⟨b,ep,fl,st,cs,h1,h2,h3,h4⟩
 .exact .inl h
 .exact .inr ⟨b,ep,fl,st,cs,h1,by rw[AI (aj h2)];exact h2,fH (λx y _=>xG L) h3,h4⟩
theorem LB.es0:LB z H sz (.c (.f .es)) .es []:=.inl ⟨rfl,rfl,ce⟩
theorem LB.app(h:LB z H sz v g rows)(hg:cR sz rows)(E:row.length=sz)(vW:sz≠0)(hy:dG H sz y=aa (1,cs))(hc:bu (gP 60 H) cs=aa row)(j:cD (rows.length+1) bytes=ae) :
  ∃u H',bT H sz bytes v y=aa (u,H')/\LB z H' sz u g (rows++[row])/\H.length<=H'.length/\(∀(b:Nat) cs fl,H[b]?=aa (.box cs fl)->H'[b]?=aa (.box cs fl)):=by
 rcases h with⟨rfl,rfl,m⟩|⟨b,ep,fl,st,ds,rfl,h2,h3,A,B,h4,h5⟩
 .have d:cD 1 bytes=ae:=by simpa using j
  refine⟨.c (.sl H.length 0 1 0 0 sz),H++[.dj sz cs 0 0 .loc],?_,?_,bv,λb cs fl hb=>by rw[AI (aj hb)];exact hb⟩
  .cases g with
   |nil=>simp[bT,hy,vW,Tg.fc,d]| es=>simp[bT,hy,vW,Tg.fc,d]| fs=>exact absurd rfl m
  .exact .inr ⟨H.length,0,0,.loc,cs,bv,bv,by simpa using fH (λx y _=>xG _) hc,bv,λ_=>rfl,λh=>by simp at h,λ_=>rfl⟩
 .have hl:rows.length*sz=ds.length:=by rw[<-ti h3,cA hg]
  have s:∀(q:Nat) cs' fl',H[q]?=aa (.box cs' fl')->∃l,(H.set b (.dj sz (ds++cs) fl (ep+1) .loc))[q]?=aa (.box cs' l):=by
   grind
  refine⟨.c (.sl b 0 (rows.length+1) 0 (ep+1) sz),H.set b (.dj sz (ds++cs) fl (ep+1) .loc),?_,?_,bv,?_⟩
  .simp only[bT,hy,vW,if_false,h2,and_self,if_true];simp_all
  .refine .inr ⟨b,ep+1,fl,.loc,ds++cs,bv,?_,?_,?_,B,λh=>by simp at h,λ_=>rfl⟩
   .grind
   .rw[ahM];simpa using vG (fH (λx y _=>qz s 60 x y) h3) (fH (λx y _=>qz s 60 x y) hc)
   .grind
  .grind
theorem LB.len(h:LB z H sz v g rows):∃c,v=.c c/\bh H c=aa rows.length:=by
 rcases h with⟨rfl,rfl,j⟩|⟨b,ep,fl,st,ds,rfl,h2,h3,d,l,h4,h5⟩
 .cases g<;>exact⟨_,rfl,rfl⟩
 .exact⟨_,rfl,by simp[bh,h2]⟩
theorem LB.fz(h:LB z H sz v g rows)(hg:cR sz rows):dq deep H v=aa (.c (.f (sl g rows))):=by
 rcases h with⟨rfl,rfl,d⟩|⟨b,ep,fl,st,ds,rfl,h2,h3,j,q,h4,h5⟩
 .rfl
 .have hl:rows.length*sz=ds.length:=by rw[<-ti h3,cA hg]
  cases rows with
  |nil=>
   obtain⟨rfl,d⟩:=h4 rfl;cases g with
   |nil=>simp[deep,gT,h2,Tg.os,sl,Tg.fc]| es=>simp[deep,gT,h2,Tg.os,sl,Tg.fc]| fs=>exact absurd rfl d
  |cons r m=>
   have:=h5 bv;subst this;have up:bu (fh 63 H) ds=aa (r::m).flatten:=fH (λx y _ l=>YK l ce) h3;simp only[acs,deep,gT,h2];rw[bZ ⟨trivial,trivial,ap⟩,ahi,agw ap,up];rfl
theorem LB.fzV(h:LB z H sz v g rows)(hg:cR sz rows):jh deep H v=aa (.c (.f (sl g rows))):=by
 have:=h.fz hg;obtain⟨c,rfl,_⟩:=h.len;exact this
theorem Ec{j l:Type}{g:j->Option l}{c:j}{y:l}(hc:g c=aa y):∀{xs:List j} {ys:List l} (i:Nat),bu g xs=aa ys->bu g (xs.set i c)=aa (ys.set i y)
 |[],ys,i,h=>by simp[bu]at h;subst h;simp[bu]
 |x::xs,ys,i,h=>by
  simp only[bu]at h;cases d:g x with
  |none=>simp[d]at h
  |some w=>
   cases b:bu g xs with
   |none=>simp[d,b]at h
   |some zs=>
    simp[d,b]at h;subst h;cases i with
    |zero=>simp[bu,hc,b]| succ i=>simp only[aio,bu,d,Ec hc i b]
theorem RE{b:Type}{cs:List b}{o:Nat}{c:b}(h:o<cs.length):over cs o [c]=cs.set o c:=by
 simp only[over,agP,ahE];rw[List.set_eq_take_append_cons_drop,bZ h];simp
theorem vB{sz:Nat}:∀{rows:List (List FC)} {j k:Nat} {x:FC} {row:List FC},cR sz rows->rows[j]?=aa row->k<sz->rows.flatten.set (j*sz+k) x=(rows.set j (row.set k x)).flatten
 |[],_,_,_,_,_,b,_=>by simp at b
 |r::rows,0,k,x,row,d,b,g=>by
  simp at b;subst b;have:=d r ago;simp_all
 |r::rows,j+1,k,x,row,d,b,g=>by
  have l:=d r ago;simp only[aio,agG];rw[List.set_append_right _ _ (by rw[l,agS];omega)];have e:(j+1)*sz+k-r.length=j*sz+k:=by rw[l,agS];omega
  rw[e,vB (λy m=>d y (agr _ m)) (by simpa using b) g]
theorem LB.st1(h:LB ae H sz v g rows)(hg:cR sz rows){j k:Nat}{c:C}{x:FC}(z:rows[j]?=aa row)(I:k<sz)(J:gP 60 H c=aa x) :
  ∃b ep H',bG H sz ab v (vi j)=aa (.c (.ptr b (j*sz) ep))/\cY H (.ptr b (j*sz+k) ep) [c]=aa H'/\LB ae H' sz v g (rows.set j (row.set k x))/\(∀(b:Nat) cs fl,H[b]?=aa (.box cs fl)->H'[b]?=aa (.box cs fl)):=by
 have d:j<rows.length:=(OF.1 z).1;rcases h with⟨rfl,rfl,F⟩|⟨b,ep,fl,st,ds,rfl,h2,h3,A,K,h4,h5⟩
 .simp at d
 .have hl:rows.length*sz=ds.length:=by rw[<-ti h3,cA hg]
  have u:rows≠[]:=by rintro rfl;simp at d
  have:=h5 u;subst this;have q:=K rfl;subst q;have s:j*sz+k<ds.length:=by
   have L:(j+1)*sz<=rows.length*sz:=ag9 sz d
   grind
  have B:∀(m:Nat) cs' fl',H[m]?=aa (.box cs' fl')->∃l,(H.set b (.dj sz (ds.set (j*sz+k) c) 0 ep .loc))[m]?=aa (.box cs' l):=by
   grind
  refine⟨b,ep,H.set b (.dj sz (ds.set (j*sz+k) c) 0 ep .loc),?_,?_,?_,λm cs' fl' E=>?_⟩
  .simp[bG,fG,h2,d]
  .rw[<-RE s];simp only[bw,h2]
   grind
  .refine .inr ⟨b,ep,0,.loc,ds.set (j*sz+k) c,bv,BY (aj h2),?_,bv,λ_=>rfl,λh=>?_,λ_=>rfl⟩
   .rw[<-vB hg z I];exact fH (λx y _=>qz B 60 x y) (Ec J _ h3)
   .simp_all
  .grind
theorem lV{b fl c:Nat}(h:H[b]?=aa (.box cs fl))(hc:cs.length=sz):dG H sz (.c (.sl b 0 1 c 0 sz))=aa (1,cs):=by
 simp[dG,bh,dg,h,hc]
 grind
end
section
open Go
def E_(P:Program):List Field->Nat->Nat->Bool
 |[],o,n=>o == n| f::b,o,n=>f.offset == o&&E_ P b (o+P.cellsOf f.type) n
def iX(P:Program):Nat->TypeId->Bool
 |0,_=>ag
 |n+1,t=>match P.underlying t with
  |some .bool=>P.cellsOf t == 1| some (.int _)=>P.cellsOf t == 1| some .string=>P.cellsOf t == 1| some (.slice e)=>P.cellsOf t == 1&&P.cellsOf e != 0&&iX P n e| some (.struct b)=>E_ P b.toList 0 (P.cellsOf t)&&b.toList.all λf=>iX P n f.type
  |some (.array k e)=>P.cellsOf t == k*P.cellsOf e&&iX P n e| _=>ag
def Ak(S:TypeId->List FC->Prop):List TypeId->List FC->Prop
 |[],xs=>xs=[]| t::ts,xs=>∃p q,xs=p++q/\S t p/\Ak S ts q
def su(P:Program):Nat->TypeId->List FC->Prop
 |0,_,_=>False
 |n+1,t,xs=>match P.underlying t with
  |some .bool=>∃b,xs=[.bool b]| some (.int k)=>∃m,xs=[.int k m]/\(Lit.int k m).wf=ae| some .string=>∃s,xs=[.str s]/\s.size<=maxLen| some (.slice e)=>∃g rows,xs=[sl g rows]/\cR (P.cellsOf e) rows/\rows.length<=maxLen/\∀r∈rows,su P n e r| some (.struct d)=>Ak (su P n) (d.toList.map (·.type)) xs| some (.array k e)=>∃rows,xs=rows.flatten/\rows.length=k/\cR (P.cellsOf e) rows/\∀r∈rows,su P n e r| _=>False
theorem xJ{m:Type}{sz:Nat}:∀{rows:List (List m)} {j k:Nat} {row:List m},(∀r∈rows,r.length=sz)->rows[j]?=aa row->k<sz->rows.flatten[j*sz+k]?=row[k]?
 |[],j,k,row,_,b,_=>by simp at b
 |r::rows,0,k,row,d,b,g=>by
  grind
 |r::rows,j+1,k,row,d,b,g=>by
  have l:=d r ago;rw[agG,agj (by rw[l,agS];omega)];have e:(j+1)*sz+k-r.length=j*sz+k:=by rw[l,agS];omega
  rw[e];exact xJ (rows:=rows) (λx q=>d x (agr _ q)) (by simpa using b) g
theorem xK{d:Type}{sz:Nat}:∀{rows:List (List d)},(∀r∈rows,r.length=sz)->rows.flatten.length=rows.length*sz
 |[],_=>by simp
 |r::rows,h=>by
  have:=xK (rows:=rows) λx b=>h x (agr _ b)
  grind
def G9(w:World):Nat->Nat->Prop:=λc _=>c<w.heap.size
theorem Iq{w:World}{a:Addr}{v:Value}(h:w.cell? a=aa v):a.block<w.heap.size/\a.spot=ab:=by
 unfold World.cell? at h;split at h
 .rename_i d;split at h
  .simp at h
  .rename_i b;refine⟨?_,by simpa using b⟩
   grind
 .simp at h
theorem A2.flatten{j l:Type}{R:j->l->Prop}{g:List (List j)}{d:List (List l)}(hl:g.length=d.length)
  (h:∀(i:Nat) xs ys,g[i]?=aa xs->d[i]?=aa ys->A2 R xs ys):A2 R g.flatten d.flatten:=by
 induction g generalizing d with
 |nil=>cases d with
  |nil=>exact A2.nil| cons y ys=>simp at hl
 |cons x xs q=>cases d with
  |nil=>simp at hl
  |cons y ys=>
   rw[agG,agG];exact(h 0 x y rfl rfl).append (q (by simpa using hl) λi a b m hb=>h (i+1) a b (by simpa using m) (by simpa using hb))
section
variable{H:Type}{enc:TypeId × Value->H}{P:Program}{w:World}{base:Nat}{spare:Nat->Bool}{held:Bool}{σ:Nat->FuncId}
def abZ(σ:Nat->FuncId)(P:Program)(w:World)(n:Nat)(t:TypeId)(cs:List Value):Prop:=∃xs,A2 (dC σ (G9 w) w) xs cs/\su P n t xs
theorem vC{n:Nat}(v:∀{t:TypeId} {fuel:Nat} {cs:List Value} {x:DataW H × List MemPlace},iX P n t=ae->DataW.trod enc P w base spare held fuel t cs=aa x->abZ σ P w n t cs/\cs.length=P.cellsOf t)
  {fuel:Nat}:∀(b:List Field) (o N:Nat) (cs:List Value),E_ P b o N=ae->(b.all λf=>iX P n f.type)=ae->cs.length=N->
   (∀f∈b,∃x,DataW.trod enc P w base spare held fuel f.type ((cs.drop f.offset).take (P.cellsOf f.type))=aa x)->
   ∃xs,A2 (dC σ (G9 w) w) xs (cs.drop o)/\Ak (su P n) (b.map (·.type)) xs
 |[],o,N,cs,d,_,m,_=>by
  simp[E_]at d;exact⟨[],by rw[List.drop_of_length_le ap];exact A2.nil,rfl⟩
 |f::b,o,N,cs,d,l,m,u=>by
  simp only[E_,IS,beq_iff_eq]at d;simp only[List.all_cons,IS]at l;obtain⟨x,j⟩:=u f ago;rw[d.1]at j;obtain⟨⟨p,z,B⟩,s⟩:=v l.1 j;obtain⟨q,A,E⟩:=vC v b (o+P.cellsOf f.type) N cs d.2 l.2 m λg y=>u g (agr _ y);refine⟨p++q,?_,p,q,rfl,B,E⟩;have:cs.drop o=(cs.drop o).take (P.cellsOf f.type)++cs.drop (o+P.cellsOf f.type):=by
   rw[<-ah4,ahr]
  rw[this];exact z.append A
theorem PV(c o n k:Nat):((⟨c,o,ab⟩:Addr).add n).add k=⟨c,o+(n+k),ab⟩:=by
 unfold Addr.add
 grind
theorem Sn{t e:TypeId}{k n:Nat}{cs:List Value}{x:DataW H × List MemPlace}(j:P.underlying t=aa (.array k e))(h:DataW.trod enc P w base spare held (n+1) t cs=aa x) :
  cs.length=P.cellsOf t/\∀i,i<k->∃y,DataW.trod enc P w base spare held n e ((cs.drop (i*P.cellsOf e)).take (P.cellsOf e))=aa y:=by
 unfold DataW.trod at h;rw[j]at h;simp only[Option.ite_none_right_eq_some,IT]at h;obtain⟨g,xs,d,l⟩:=h;refine⟨g,λi hi=>?_⟩;have:=mapM_some_get d i i (by simp[hi]);have b:xs.length=k:=by simpa using mapM_some_length d
 simp_all
theorem As{j:Type}{sz:Nat}:∀{k:Nat} {cs:List j},cs.length=k*sz->cs=((List.range k).map λi=>(cs.drop (i*sz)).take sz).flatten
 |0,cs,h=>by simp at h;simp[h]
 |k+1,cs,h=>by
  have d:(cs.take (k*sz)).length=k*sz:=by rw[agO,h,agS];omega
  have g:=As d;rw[List.range_succ,ahl,ahM];have e:((List.range k).map λi=>(cs.drop (i*sz)).take sz)=(List.range k).map λi=>((cs.take (k*sz)).drop (i*sz)).take sz:=by
   refine List.map_congr_left λi hi=>?_;have b:i<k:=by simpa using hi
   have:(i+1)*sz<=k*sz:=ag9 _ b;rw[agS]at this;rw[List.drop_take,aik,ahQ ap]
  rw[e,<-g];simp only[agm,List.map_nil,agG,List.flatten_nil,agN];have:(cs.drop (k*sz)).take sz=cs.drop (k*sz):=agw (by rw[agF,h,agS];omega);rw[this,ahr]
theorem aeZ{n:Nat}:∀{t:TypeId} {fuel:Nat} {cs:List Value} {x:DataW H × List MemPlace},iX P n t=ae->DataW.trod enc P w base spare held fuel t cs=aa x->
  abZ σ P w n t cs/\cs.length=P.cellsOf t:=by
 induction n with
 |zero=>intro t fuel cs x g;simp[iX]at g
 |succ n ih=>
  intro t fuel cs x g h;simp only[iX]at g;split at g
  .rename_i j;obtain⟨b,rfl,_⟩:=DataW.trod_bool j h;exact⟨⟨[.bool b],.cons (.bool b) .nil,by simp only[su,j];exact⟨b,rfl⟩⟩,by simp at g;simp[g]⟩
  .rename_i k j;obtain⟨m,rfl,_,hw⟩:=DataW.trod_int j h;exact⟨⟨[.int k m],.cons (.int k m) .nil,by simp only[su,j];exact⟨m,rfl,hw⟩⟩,by simp at g;simp[g]⟩
  .rename_i j;obtain⟨s,rfl,_,hw⟩:=DataW.trod_string j h;exact⟨⟨[.str s],.cons (.str s) .nil,by simp only[su,j];exact⟨s,rfl,hw⟩⟩,by simp at g;simp[g]⟩
  .rename_i e j;simp only[IS,beq_iff_eq,bne_iff_ne]at g;obtain⟨⟨F,d9⟩,X⟩:=g;rcases DataW.trod_slice j h with⟨rfl,_⟩|⟨a,len,cap,Q,rest,m,_,rfl,_,hb,I,hm,c9,Y,_,_⟩
   .exact⟨⟨[sl .nil []],.cons .aJ .nil,by simp only[su,j];exact⟨.nil,[],rfl,λr l=>by simp at l,bv,λr l=>by simp at l⟩⟩,by simpa using F.symm⟩
   .refine⟨?_,by simpa using F.symm⟩;have A:∀i,i<len->∃p:List Value × List FC,w.cells? base (a.add (i*P.cellsOf e)) (P.cellsOf e)=aa p.1/\A2 (dC σ (G9 w) w) p.2 p.1/\su P n e p.2:=by
     intro i hi;have:=Y i hi;rw[By ap]at this;obtain⟨cs',F,K⟩:=agR.1 this;obtain⟨⟨xs,ha,g⟩,_⟩:=ih X K;exact⟨(cs',xs),F,ha,g⟩
    obtain⟨p,hp⟩:=Go.Deep.choose_lt A;by_cases h0:len=0
    .subst h0;refine⟨[sl .fs []],.cons (.Vn a cap) .nil,?_⟩;simp only[su,j];exact⟨.fs,[],rfl,λr l=>by simp at l,bv,λr l=>by simp at l⟩
    have E:a.spot=ab:=by
     have:=hp 0 ap;obtain⟨_,c_,U⟩:=World.cells?_some this.1;have:=U 0 ap;rw[By ap]at this;have:=(Iq this).2;simpa[Addr.add]using this
    obtain⟨c,o,sp⟩:=a;simp only at E;subst E
    let d:=(List.range len).map λi=>(p i).1
    let rows:=(List.range len).map λi=>(p i).2
    have hv:∀v∈d,v.length=P.cellsOf e:=by
     grind
    have hg:cR (P.cellsOf e) rows:=by
     intro r l;obtain⟨i,hi,rfl⟩:=agt.1 l;obtain⟨F,K,_⟩:=hp i (by simpa using hi);rw[K.len,(World.cells?_some F).2.1]
    have S:A2 (dC σ (G9 w) w) rows.flatten d.flatten:=by
     refine A2.flatten (by simp[rows,d]) λi xs ys J hy=>?_
     grind
    have B:∀i u,d.flatten[i]?=aa u->w.cell? ⟨c,o+i,ab⟩=aa u:=by
     intro i u N;have hi:i<d.flatten.length:=(OF.1 N).1;rw[xK hv]at hi;have b_:d.length=len:=by simp[d]
     rw[b_]at hi;have O:i / P.cellsOf e<len:=Nat.div_lt_of_lt_mul (by rw[Nat.mul_comm];exact hi);have hk:i % P.cellsOf e<P.cellsOf e:=Nat.mod_lt _ ap;have z:i=i / P.cellsOf e*P.cellsOf e+i % P.cellsOf e:=by rw[Nat.mul_comm];exact(Nat.div_add_mod _ _).symm
     have M:d[i / P.cellsOf e]?=aa (p (i / P.cellsOf e)).1:=by simp[d,O]
     rw[z,xJ hv M hk]at N;obtain⟨_,_,hc⟩:=World.cells?_some (hp _ O).1;have:=hc _ hk;rw[N]at this;rw[<-this,PV,<-z]
    refine⟨[sl .fs rows],.cons ?_ .nil,?_⟩
    .have Z:rows≠[]:=by simp[rows];omega
     have a_:rows.length=len:=by simp[rows]
     have:sl Tg.fs rows=.fs rows.flatten len:=by
      cases l:rows with
      |nil=>exact absurd l Z| cons r rs=>simp only[sl,aiH,agH,if_false];rw[<-l,a_]
     rw[this];refine .fs rows.flatten len c o cap d.flatten I S.len.symm (λi hi=>?_) B λi x u J N=>S.2 i x u J N;have z:i<d.flatten.length:=by rw[<-S.len];exact hi
     exact(Iq (B i _ (By z))).1
    .simp only[su,j]
     grind
  .rename_i fs j;simp only[IS]at g;obtain⟨xs,m,_,_,I,_,J⟩:=DataW.trod_struct j h;refine⟨?_,I⟩;obtain⟨ys,F,K⟩:=vC (n:=n) (fuel:=m) ih fs.toList 0 _ cs g.1 g.2 I λf hf=>by
    obtain⟨i,hi⟩:=List.getElem?_of_mem hf
    grind
   exact⟨ys,by simpa using F,by simp only[su,j];exact K⟩
  .rename_i k e j;simp only[IS,beq_iff_eq]at g;obtain⟨L,X⟩:=g;cases fuel with
   |zero=>simp[DataW.trod]at h
   |succ m=>
   obtain⟨I,J⟩:=Sn j h;refine⟨?_,I⟩;have A:∀i,i<k->∃q:List FC,A2 (dC σ (G9 w) w) q ((cs.drop (i*P.cellsOf e)).take (P.cellsOf e))/\su P n e q:=by
    intro i hi;obtain⟨y,hy⟩:=J i hi;obtain⟨⟨q,a,b⟩,_⟩:=ih X hy
    grind
   obtain⟨q,O⟩:=Go.Deep.choose_lt A
   let rows:=(List.range k).map q
   have W:cs=((List.range k).map λi=>(cs.drop (i*P.cellsOf e)).take (P.cellsOf e)).flatten:=As (by rw[I,L]);refine⟨rows.flatten,?_,?_⟩
   .rw[W];refine A2.flatten (by simp[rows]) λi xs ys J hy=>?_
    grind
   .simp only[su,j];refine⟨rows,rfl,by simp[rows],λr l=>?_,λr l=>?_⟩
    .obtain⟨i,hi,rfl⟩:=agt.1 l;have z:i<k:=by simpa using hi
     rw[(O i z).1.len,agO,agF,I,L]
     grind
    .grind
  .simp at g
end
section
variable{P:Program}{n:Nat}{t e:TypeId}{xs:List FC}
theorem iW{k:IntKind}(b:P.underlying t=aa (.int k))(h:su P (n+1) t xs):∃m,xs=[.int k m]/\(Lit.int k m).wf=ae:=by simpa only[su,b]using h
theorem Bh(b:P.underlying t=aa (.slice e))(h:su P (n+1) t xs):∃g rows,xs=[sl g rows]/\cR (P.cellsOf e) rows/\rows.length<=maxLen/\∀r∈rows,su P n e r:=by simpa only[su,b]using h
theorem Hp{d:Array Field}{ts:List TypeId}(g:P.underlying t=aa (.struct d))(b:d.toList.map (·.type)=ts)(h:su P (n+1) t xs):Ak (su P n) ts xs:=by
 subst b;simpa only[su,g]using h
theorem CM{k:Nat}(b:P.underlying t=aa (.array k e))(h:su P (n+1) t xs):∃rows,xs=rows.flatten/\rows.length=k/\cR (P.cellsOf e) rows/\∀r∈rows,su P n e r:=by simpa only[su,b]using h
theorem iR{S:TypeId->List FC->Prop}{ts:List TypeId}(h:Ak S (t::ts) xs):∃p q,xs=p++q/\S t p/\Ak S ts q:=h
theorem tE{b:Type}{enc:b->List FC}{p:b->Prop}:∀{rows:List (List FC)},(∀r∈rows,∃x,r=enc x/\p x)->∃l:List b,rows=l.map enc/\∀x∈l,p x
 |[],_=>⟨[],rfl,bv⟩
 |r::rows,h=>by
  obtain⟨x,rfl,j⟩:=h r ago;obtain⟨l,rfl,g⟩:=tE λr d=>h r (agr _ d);exact⟨x::l,rfl,λy m=>by
   grind⟩
end
end
section
open Go Go.ChangeShapes Go.WideShapes Go.ChangeAt Go.RowKit
def tU(P:Program)(t:TypeId)(a:V):Prop:=(∃xs,a=.a (xs.map .f)/\su P 40 t xs/\(∃d,P.underlying t=aa d/\((∃b,d=.struct b)\/∃n e,d=.array n e)))\/
 (∃x,a=.c (.f x)/\su P 40 t [x])
def wA(P:Program):List TypeId->List V->Prop
 |[],as=>as=[]| t::ts,as=>∃a bs,as=a::bs/\tU P t a/\wA P ts bs
section
variable{H:Type}{enc:TypeId × Value->H}{P:Program}{W W':World}
theorem zA{f:Func}{s:ChangeSpec}{g z l y:Bool}{args:Array Value}{v:Value}{ds F:List (DataW H)}{d pa pv:List MemPlace}
  (K:DataW.Whole enc P f.params.toList s.vars g W args.toList ds F d)
  (x:∀(b:Nat) (E:Nat->Bool) (O:Bool),DataW.TrodAll enc P W' b E O f.resultTypes.toList (v.resultList f.resultTypes.size) (s.fn H (ds++F)).results [])
  (m:∀E:Nat->Bool,(∀p∈d,E p.block=ae)->DataW.TrodAll enc P W' 0 E ae f.params.toList args.toList (s.fn H (ds++F)).args pa)
  (q:∀E:Nat->Bool,(∀p∈d,E p.block=ae)->DataW.TrodVars enc P W' E s.vars (s.fn H (ds++F)).vars pv)
  (M:d=pa++pv) (N:Below W.heap.size W W')
  (L:∀(j:Nat) (t:TypeId) (r:Value),f.resultTypes[j]?=aa t->(v.resultList f.resultTypes.size)[j]?=aa r->Value.okWide P W' .any 0 t r) :
  s.post enc P f g z l y W args v W':=by
 have I:∀p∈d,p.block<W.heap.size:=λp A=>K.lt p A;have u:∀p∈d,(λb=>decide (b<W.heap.size)) p.block=ae:=λp A=>by simpa using I p A
 refine⟨ds,F,d,[],pa,pv,K,x _ _ _,m _ u,q _ u,World.keptBut_mono (λp A=>⟨A,?_⟩) (N.frame (·∈d)),λ_=>?_⟩
 .simp_all
 .obtain⟨_,_,_,_,_,Q,S⟩:=K;refine⟨L,_,_,([]++pa)++pv,⟨[]++pa,pv,trodAll_append (m _ (λ_ _=>rfl)) (x _ _ _),q _ (λ_ _=>rfl),rfl,?_,?_⟩,?_⟩
  .intro b B A;have J:MemPlace.cell b B∈d:=by rw[M];simpa using A
   rw[N.frozen (p:=⟨b,B,ab⟩) (I _ J)];exact Q b B J
  .simp_all
  .simp_all
theorem ru(s:laidOutB P=ae){y:Nat->Bool}(m:Below W.heap.size W W'):∀{ts:List TypeId} {l:List Value} {ds:List (DataW H)} {ps:List MemPlace},
  (ts.all λt=>P.readableRec t&&decide (t<P.types.size))=ae->DataW.TrodAll enc P W 0 (λ_=>ae) ae ts l ds ps->(∀p∈ps,p.block<W.heap.size)->(∀p∈ps,y p.block=ae)->
  DataW.TrodAll enc P W' 0 y ae ts l ds ps
 |[],[],[],ps,_,h,_,_=>h
 |t::ts,v::l,d::ds,ps,j,⟨p,q,z,A,e⟩,g,u=>by
  subst e;simp only[List.all_cons,IS,decide_eq_true_eq]at j;exact⟨p,q,WideElems.Trod_stays s j.1.1 j.1.2 z (λx b=>m.same (g x (ag3 _ b))) (λx b=>u x (ag3 _ b)),
   ru s m j.2 A (λx b=>g x (ahR _ b)) (λx b=>u x (ahR _ b)),rfl⟩
 |[],_::_,_,_,_,h,_,_=>by cases h
 |[],[],_::_,_,_,h,_,_=>by cases h
 |_::_,[],_,_,_,h,_,_=>by cases h
 |_::_,_::_,[],_,_,h,_,_=>by cases h
variable{σ:Nat->FuncId}
def X0(W:World):Wd:=⟨λ_=>ab,G9 W,[],W,W.heap.size⟩
theorem Ss{xs:List FC}{cs:Array Value}(h:A2 (dC σ (G9 W) W) xs cs.toList):VR σ (X0 W) (.a (xs.map .f)) (.agg cs):=
 ⟨cs.toList,bv,A2.map (g:=C.f) (h.nZ λ_ _ h=>h)⟩
theorem P8{t:TypeId}{v:Value}{d:DataW H}{ps:List MemPlace}{base:Nat}{spare:Nat->Bool}{held:Bool}{b0:Nat}(s:iX P 40 t=ae)(g:Value.okWide P W .any b0 t v)
  (z:DataW.Trod enc P W base spare held t v d ps):∃a,VR σ (X0 W) a v/\tU P t a:=by
 obtain⟨fuel,q⟩:=z;obtain⟨⟨xs,m,u⟩,I⟩:=aeZ (σ:=σ) s q;have l:v.cells.toList=[v]->∃a,VR σ (X0 W) a v/\tU P t a:=by
  intro A;rw[A]at m
  match xs,m.len with
  |[x],_=>exact⟨.c (.f x),m.of_cons.1,.inr ⟨x,rfl,u⟩⟩
 unfold iX at s;unfold Value.okWide at g;split at g
 .rename_i B j;obtain⟨cs,rfl,_,_⟩:=g;exact⟨_,Ss m,.inl ⟨xs,rfl,u,_,j,.inl ⟨_,rfl⟩⟩⟩
 .rename_i n e j;obtain⟨cs,rfl,_,_⟩:=g;exact⟨_,Ss m,.inl ⟨xs,rfl,u,_,j,.inr ⟨_,_,rfl⟩⟩⟩
 .rename_i E F;refine l ?_;split at s
  .rename_i j;obtain⟨b,y,_⟩:=DataW.trod_bool j q;simp only[Cell.okWide,j,Cell.ok]at g;cases v<;>simp_all [Value.cells]
  .rename_i j;obtain⟨b,y,_⟩:=DataW.trod_int j q;simp only[Cell.okWide,j,Cell.ok]at g;cases v<;>simp_all [Value.cells]
  .rename_i j;obtain⟨b,y,_⟩:=DataW.trod_string j q;simp only[Cell.okWide,j,Cell.ok]at g;cases v<;>simp_all [Value.cells]
  .rename_i j;simp only[Cell.okWide,j,Cell.ok]at g;cases v<;>simp_all [Value.cells]
  .simp_all
  .simp_all
  .simp at s
theorem Al{base:Nat}{spare:Nat->Bool}{held:Bool}{b0:Nat}:∀{ts:List TypeId} {g:List Value} {ds:List (DataW H)} {ps:List MemPlace},(ts.all λt=>iX P 40 t)=ae->
  (∀(j:Nat) t v,ts[j]?=aa t->g[j]?=aa v->Value.okWide P W .any b0 t v)->DataW.TrodAll enc P W base spare held ts g ds ps->
  ∃as,A2 (VR σ (X0 W)) as g/\wA P ts as
 |[],[],[],_,_,_,_=>⟨[],A2.nil,rfl⟩
 |t::ts,v::g,d::ds,ps,l,b,⟨p,q,s,u,_⟩=>by
  simp only[List.all_cons,IS]at l;obtain⟨a,x,z⟩:=P8 (σ:=σ) l.1 (b 0 t v rfl rfl) s;obtain⟨bs,y,A⟩:=Al l.2 (λj t v h m=>b (j+1) t v (by simpa using h) (by simpa using m)) u;exact⟨a::bs,.cons x y,a,bs,rfl,z,A⟩
 |[],_::_,_,_,_,_,h=>by cases h
 |[],[],_::_,_,_,_,h=>by cases h
 |_::_,[],_,_,_,_,h=>by cases h
 |_::_,_::_,[],_,_,_,h=>by cases h
theorem TN{n:Nat}{H:an}{v:V}{b:Bool}(h:jh (n+1) H v=aa (.c (.f (.bool b)))):v=.c (.f (.bool b)):=by
 cases v with
 |top=>simp[jh,dq]at h| a xs=>simp[jh,dq]at h| t xs=>simp[jh]at h
 |c x=>
  simp only[jh,dq,IT]at h;obtain⟨y,d,h⟩:=h;cases h;cases x with
  |f x=>simpa[fh]using d| ptr b o e=>simp only[fh]at d;split at d<;>simp at d
  |sl b o l c e s=>
   simp only[fh]at d;split at d
   .simp_all
   .simp_all
   .simp_all
   .simp_all
   .simp_all
  |cl f g=>simp[fh]at d| _=>simp[fh]at d
variable{tab:TB}
theorem Hc(x:Env P σ tab.get tab.Fh){f:Nat}{args:List V}{us:List Value}(h:bg tab f args (vb ae))(W:World)(z:A2 (VR σ (X0 W)) args us) :
  Calls P (σ f) us.toArray W λe w'=>e=.returned (.bool ae)/\Below W.heap.size W w':=by
 obtain⟨r,H',⟨m,d,h⟩,j⟩:=h;have j:=TN (n:=63) j;subst j;intro cs
 let X:=X0 W
 have y:SR P σ X:=⟨λb L h=>by simp[X,X0]at h,λb M L K h=>by simp[X,X0]at h,λc i h=>h⟩
 obtain⟨q,X',u,s,⟨E,F,H,l,fn,I,J⟩,N,O,v,g,Q⟩:=(Qb x m d).fn f args [] _ H' h X us .normal cs rfl y (agn _) z (.inl rfl) (.inl rfl);have B:=VR.bool v;subst B;exact⟨.returned (.bool ae),X'.w,q,⟨rfl,⟨g.os,g.tape,g.output,g.size,λk A=>g.frame k A (λb L h=>by simp[X,X0]at h)⟩⟩,s,l,E,F,H,fn,by rw[l];exact I,J⟩
theorem QZ(hE:Env P σ tab.get tab.Fh){s:ChangeSpec}{f:Func}{fi:Nat}{tb:TypeId}(x:s.vars=[])(B:laidOutB P=ae){ts:List TypeId}(F:f.params.toList=ts)
  (O:∀ds:List (DataW H),ds.length=ts.length->s.fn H ds=⟨[.lit (.bool ae)],ds,[]⟩)
  (y:f.resultTypes=#[tb]) (K:P.underlying tb=aa .bool) (E:(ts.all λt=>P.readableRec t&&decide (t<P.types.size))=ae) (u:(ts.all λt=>iX P 40 t)=ae)
  (Q:∀as,wA P ts as->bg tab fi as (vb ae)) {g A l z:Bool} {base:Nat} {args:Array Value} {ds gs:List (DataW H)} {d:List MemPlace}
  (L:∀(j:Nat) t v,f.params[j]?=aa t->args[j]?=aa v->Value.okWide P W .any base t v) (X:DataW.Whole enc P f.params.toList s.vars g W args.toList ds gs d) :
  Calls P (σ fi) args W λe W'=>∃v,e=.returned v/\s.post enc P f g A l z W args v W':=by
 have I:=X;obtain⟨p,q,N,U,Y,a_,b_⟩:=X;rw[F]at N;rw[x]at U;obtain⟨rfl,rfl⟩:=trodVars_none U;simp only[agN]at Y;subst Y;obtain⟨as,h1,h2⟩:=Al (σ:=σ) (b0:=base) u (λj t v h h'=>L j t v (by rw[<-Array.getElem?_toList,F];exact h) (by rw[<-Array.getElem?_toList];exact h')) N;have J:ds.length=ts.length:=by
  have:∀{ts:List TypeId} {M:List Value} {ds:List (DataW H)} {ps:List MemPlace},DataW.TrodAll enc P W 0 (λ_=>ae) ae ts M ds ps->ds.length=ts.length:=by
   intro ts;induction ts with
   |nil=>intro M ds ps h;cases M<;>cases ds<;>first|rfl|cases h
   |cons t ts ih=>intro M ds ps h;cases M<;>cases ds<;>first|(obtain⟨_,_,_,h,_⟩:=h;simp[ih h])|cases h
  grind
 have m:=O ds J;have hc:=Hc hE (Q as h2) W h1;rw[Array.toArray_toList]at hc;refine hc.mono λe W' h=>?_;obtain⟨he,Z⟩:=h;subst he;refine⟨_,rfl,zA (pa:=d) (pv:=[]) I (λb sp hd=>?_) (λsp S=>?_) (λsp _=>?_) bv Z ?_⟩
 .rw[agN,m,y];exact trodAll_mk1 (shut_bool K _)
 .rw[agN,m,F];exact ru B Z E N (λp hp=>I.lt p hp) S
 .rw[agN,m,x];rfl
 .exact ok_one y rfl (okWide_bool_mk K _)
end
end
section
open Go
section
variable{tab:TB}{f:Nat}{args:List V}{r:V}{fn:Nat}{k:List dU}{t:T}{ds:List gX}{H H':an}{Q:Option aE->St->Prop}
theorem dK{x:Arg}{ps:List P}{as bd:aE}{g:Nat}{q:List V}(z:cr (x.ev t) [.c (.yl (H.length+1))]=aa (.fn g,q))
  (b:Ev tab (.fn g) q (H++[.dQ ae,.lp fn t ps as bd .ready ab H.length]) r H')
  (h:WP tab fn ab (.mh (H.length+1)::k) ⟨t,.dY H.length::ds,H'⟩ Q):WP tab fn ab (.code (.oE x ps as bd)::k) ⟨t,ds,H⟩ Q:=by
 obtain⟨m,d,b⟩:=b;obtain⟨n,l,d',j,A,v,y⟩:=h;refine⟨n+1,max m l,max d d',j,A,?_,y⟩;have s:=mQ (tab:=tab) (ahc m l) (ahc d d') _ _ _ _ b;have u:=yQ (ag4 m l) (ag4 d d') (agn n) v;simp only[run,z,s,u];simp
theorem ew{ro:Option Nat}{b j d:Nat}{tm:T}{ps:List P}{as bd:aE}{st:dt}(l:H[b]?=aa (.lp j tm ps as bd st ab d))(g:st≠.busy)
  (h:WP tab fn ro k ⟨t,ds,H.set b (.lp j tm ps as bd .exhausted ab d)⟩ Q):WP tab fn ro (.mh b::k) ⟨t,ds,H⟩ Q:=by
 refine jK h λm d n=>?_;simp only[run,l,ct g]
theorem lK{ro:Option Nat}{b j d:Nat}{tm:T}{ps:List P}{as bd:aE}{st:dt}(l:H[b]?=aa (.lp j tm ps as bd st (aa .ret) d))(g:st≠.busy)
  (h:WP tab fn ro (.code .ret::k) ⟨t,ds,H.set b (.lp j tm ps as bd .exhausted (aa .ret) d)⟩ Q):WP tab fn ro (.mh b::k) ⟨t,ds,H⟩ Q:=by
 refine jK h λm d n=>?_;simp only[run,l,ct g]
theorem fP{b g d:Nat}{tm:T}{ps:List P}{as bd:aE}{j:Option aE}(l:H[b]?=aa (.lp g tm ps as bd .ready j d))
  (h:WP tab fn (aa b) k ⟨t,ds,H.set b (.lp g tm ps as bd .busy j d)⟩ Q):WP tab fn (aa b) (.qX::k) ⟨t,ds,H⟩ Q:=by
 refine jK h λm d n=>?_;simp only[run,l]
@[simp] theorem ZW {b:Nat} {as:List V}:cr (.c (.yl b)) as=aa (.yield b,as):=rfl
def abY(b:Nat)(r:V)(H':an)(j:Option aE)(s:St):Prop:=s.defs=[]/\∃g tm ps as bd st l d,s.heap[b]?=aa (.lp g tm ps as bd st l d)/\r=.c (.f (.bool j.isNone))/\
 H'=s.heap.set b (.lp g tm ps as bd (if j.isNone then .ready else .done) j d)
theorem DQ{b g d:Nat}{tm:T}{ps:List P}{as bd:aE}{st:dt}{B:Option aE}(y:H[b]?=aa (.lp g tm ps as bd st B d))(A:args.length=ps.length)
  (h:WP tab g (aa b) [.code as,.qX,.code bd] ⟨dm ps args tm,[],H⟩ (abY b r H')):Ev tab (.yield b) args H r H':=by
 obtain⟨n,m,d',j,s,v,z,L,J,F,q,u,I,E,K,x,rfl,rfl⟩:=h;refine⟨max m n,d'+1,?_⟩;have l:run (CF tab (max m n) d') g (max m n) (aa b) [.code as,.qX,.code bd] ⟨dm ps args tm,[],H⟩=aa (j,s):=yQ (ahc m n) (agn d') (ag4 m n) v;simp only[CF]at l ⊢;simp only[iP,y,A,if_true,l,z,List.isEmpty_nil,x];rfl
theorem dw{C:V->an->Prop}{b F d:Nat}{tm:T}{ps:List P}{as bd:aE}{st:dt}{L:Option aE}(J:H[b]?=aa (.lp F tm ps as bd st L d))(K:args.length=ps.length)
  (h:∀Q:Option aE->St->Prop,(∀j s z u q g l x v y,s.defs=[]->s.heap[b]?=aa (.lp z u q g l x v y)->
   C (.c (.f (.bool j.isNone))) (s.heap.set b (.lp z u q g l (if j.isNone then .ready else .done) j y))->Q j s)->WP tab F (aa b) [.code as,.qX,.code bd] ⟨dm ps args tm,[],H⟩ Q):∃r H',Ev tab (.yield b) args H r H'/\C r H':=by
 have I:=h (λj s=>∃r H',C r H'/\abY b r H' j s) λj s z u q g l x v y A B E=>⟨_,_,E,A,z,u,q,g,l,x,v,y,B,rfl,rfl⟩
 obtain⟨n,m,d',j,s,A,r,H',B,E⟩:=I;exact⟨r,H',DQ J K ⟨n,m,d',j,s,A,E⟩,B⟩
def abX(d:List ku)(r:V)(s:St):Prop:=∃b,s.defs=[.dY b]/\s.heap[b]?=aa (.dQ ae)/\∃g,results s.aN (s.heap.set b (.dQ ag)) d=aa g/\jh deep (s.heap.set b (.dQ ag)) g=aa r
theorem kH{S:V->Prop}{ps:List P}{g:List ku}{body:aE}(A:tab f=aa ⟨ps,g,body⟩)(y:args.length=ps.length)
  (h:∀Q:Option aE->St->Prop,(∀j s r,S r->px g r s\/abX g r s->Q j s)->WP tab f ab [.code body] ⟨dm ps args .e,[],[]⟩ Q):∃r,S r/\bg tab f args r:=by
 have B:=h (λ_ s=>∃r,S r/\(px g r s\/abX g r s)) λ_ _ r q l=>⟨r,q,l⟩
 obtain⟨n,m,d,j,s,q,r,z,⟨v,x,l,u⟩|⟨b,v,E,x,l,u⟩⟩:=B
 .exact⟨r,z,x,s.heap,rj A y ⟨n,m,d,j,s,q,0,0,s.heap,by rw[v];rfl,l,rfl⟩,u⟩
 .exact⟨r,z,x,s.heap.set b (.dQ ag),rj A y ⟨n,m,d,j,s,q,0,0,_,by rw[v];simp only[fR,E],l,rfl⟩,u⟩
theorem de{C:V->an->Prop}{ps:List P}{b:List ku}{body:aE}(y:tab f=aa ⟨ps,b,body⟩)(x:args.length=ps.length)
  (h:∀Q:Option aE->St->Prop,(∀j s r,s.defs=[]->results s.aN s.heap b=aa r->C r s.heap->Q j s)->WP tab f ab [.code body] ⟨dm ps args .e,[],H⟩ Q):∃r H',Ev tab (.fn f) args H r H'/\C r H':=by
 have u:=h (λ_ s=>s.defs=[]/\∃r,results s.aN s.heap b=aa r/\C r s.heap) λ_ _ r g l q=>⟨g,r,l,q⟩
 obtain⟨n,m,d,j,s,g,v,r,l,q⟩:=u;exact⟨r,s.heap,rj y x ⟨n,m,d,j,s,g,0,0,s.heap,by rw[v];rfl,l,rfl⟩,q⟩
end
end
section
open Go
theorem vR{c:ey}:∀(a b:List ba) (s:St),iS c (a++b) s=(iS c a s).bind (iS c b)
 |[],b,s=>rfl
 |o::a,b,s=>by
  simp only[ahJ,iS];cases jF c s o with
  |none=>rfl| some d=>exact vR a b d
theorem zk{c:ey}:∀(os:List ba) (s:St) {d:St},iS c os s=aa d->∃ss,fT c os s=aa ss/\ss.getLast?=aa d/\∀i,i<=os.length->iS c (os.take i) s=ss[i]?
 |[],s,d,h=>by
  simp only[iS,AT]at h;subst h;refine⟨[s],rfl,rfl,λi hi=>?_⟩;have:i=0:=by simpa using hi
  subst this;rfl
 |o::os,s,d,h=>by
  simp only[iS]at h;cases b:jF c s o with
  |none=>simp[b]at h
  |some l=>
   simp only[b]at h;obtain⟨ss,g,j,m⟩:=zk os l h;refine⟨s::ss,by simp only[fT,b,g],by rw[List.getLast?_cons,j];rfl,λi hi=>?_⟩;cases i with
   |zero=>rfl
   |succ i=>
    simp only[List.take_succ_cons,iS,b,List.getElem?_cons_succ];simp_all
def gj(o:ba)(b l:St):Prop:=wanted b.aN o.g=aa ag\/∃v g d j,cm b.aN b.heap o.op=aa (v,g)/\cm b.aN l.heap o.op=aa (d,j)/\v.beq d=ae
section
variable{tab:TB}{fn:Nat}{ro:Option Nat}{k:List dU}{s:St}{Q:Option aE->St->Prop}
def Vd(tab:TB)(ops:List ba)(s:St)(c:Nat × Nat):Prop:=c.2<=ops.length/\∃o,ops[c.1]?=aa o/\
 ((c.1<=c.2/\Aj tab (ops.take c.1) s λb=>Aj tab ((ops.drop c.1).take (c.2-c.1)) b λd=>gj o b d)\/
 (c.2<=c.1/\Aj tab (ops.take c.2) s λd=>Aj tab ((ops.drop c.2).take (c.1-c.2)) d λb=>gj o b d))
theorem RY{ops:List ba}{c:Nat × Nat}(h:Vd tab ops s c):∃m d o l q,c.2<=ops.length/\ops[c.1]?=aa o/\iS (CF tab m d) (ops.take c.1) s=aa l/\iS (CF tab m d) (ops.take c.2) s=aa q/\gj o l q:=by
 have x:∀(a b:Nat) (K:St->St->Prop),a<=b->Aj tab (ops.take a) s (λg=>Aj tab ((ops.drop a).take (b-a)) g λj=>K g j)->
   ∃m d g j,iS (CF tab m d) (ops.take a) s=aa g/\iS (CF tab m d) (ops.take b) s=aa j/\K g j:=by
  intro a b K H h;obtain⟨m,d,g,z,A⟩:=lT _ _ h;obtain⟨v,d',j,B,F⟩:=lT _ _ A;have y:=eT (mQ (tab:=tab) (ahc m v) (ahc d d')) _ _ z;have E:=eT (mQ (tab:=tab) (ag4 m v) (ag4 d d')) _ _ B;refine⟨max m v,max d d',g,j,y,?_,F⟩;have:ops.take b=ops.take a++(ops.drop a).take (b-a):=by
   have I:b=a+(b-a):=by omega
   conv=>lhs;rw[I,List.take_add]
  rw[this,vR,y];exact E
 obtain⟨L,o,M,⟨J,h⟩|⟨u,h⟩⟩:=h
 .simp_all
 .obtain⟨m,d,q,l,z,A,B⟩:=x _ _ (λq l=>gj o l q) u h
  grind
theorem eF{ops:List ba}{b:List (Nat × Nat)}(hr:ro=ab\/ops.all (·.op.fJ)=ae)(h:Aj tab ops s λN=>WP tab fn ro k N Q)(hk:∀c∈b,Vd tab ops s c) :
  WP tab fn ro (.code (.region ops b)::k) s Q:=by
 obtain⟨m,d,N,Y,n,m',d',j,s2,Z,h3⟩:=lT ops s h;have g:∃M D,∀c∈b,∃o u y,c.2<=ops.length/\ops[c.1]?=aa o/\iS (CF tab M D) (ops.take c.1) s=aa u/\iS (CF tab M D) (ops.take c.2) s=aa y/\gj o u y:=by
  clear Y Z h;induction b with
  |nil=>exact⟨0,0,λc hc=>by cases hc⟩
  |cons c cs L=>
   obtain⟨M,D,L⟩:=L λc hc=>hk c (agr _ hc);obtain⟨m1,A,o,u,y,a1,z,a3,a4,a5⟩:=RY (hk c ago);refine⟨max M m1,max D A,λc' q=>?_⟩;rcases List.mem_cons.1 q with rfl|q
   .have l:=mQ (tab:=tab) (ag4 M m1) (ag4 D A);exact⟨o,u,y,a1,z,eT l _ _ a3,eT l _ _ a4,a5⟩
   .obtain⟨o,u,y,a1,z,a3,a4,a5⟩:=L c' q;have l:=mQ (tab:=tab) (ahc M m1) (ahc D A);exact⟨o,u,y,a1,z,eT l _ _ a3,eT l _ _ a4,a5⟩
 obtain⟨M,D,g⟩:=g;obtain⟨MM,H,I,J⟩:∃x,m<=x/\m'<=x/\M<=x:=⟨max (max m m') M,ap,ap,ap⟩
 obtain⟨O,B,E,F⟩:∃x,d<=x/\d'<=x/\D<=x:=⟨max (max d d') D,ap,ap,ap⟩
 refine⟨n+1,MM,O,j,s2,?_,h3⟩;have W:=eT (mQ (tab:=tab) H B) ops _ Y;have e2:=yQ I E (agn n) Z;have K:(ro.isSome&&!ops.all (·.op.fJ))=ag:=by
  grind
 obtain⟨ss,f1,f2,X⟩:=zk ops s W;have hx:kr (CF tab MM O) ops b s=aa N:=by
  cases b with
  |nil=>simpa only[kr]using W
  |cons x xs=>
   simp only[kr,f1];rw[bZ,f2];rw[List.all_eq_true];intro c hc;obtain⟨o,u,y,a1,z,a3,a4,a5⟩:=g c hc;have l:=mQ (tab:=tab) J F;have hi:c.1<=ops.length:=by
    grind
   have S:=eT l _ _ a3;have U:=eT l _ _ a4;rw[X _ hi]at S;rw[X _ a1]at U;simp only[sameAt,z,S,U];rcases a5 with hw|⟨v,H1,v',H2,g1,g2,g3⟩
   .rw[hw]
   .grind
 simp only[run,K,hx,e2];simp
end
end
section
open Go
def LBi(z:Bool)(H:an)(c:C)(l:List Int):Prop:=LB z H 1 (.c c) .nil (ints l)
theorem TL{n:Nat}{H:an}{x:C}{m:Int}(h:gP n H x=aa (fi m)):x=.f (fi m):=by
 cases x with
 |f y=>simpa using h
 |ptr b o e=>
  cases n with
  |zero=>simp[gP]at h
  |succ n=>
   simp only[gP]at h;split at h
   .simp_all
   .cases h
 |sl b o l c e sz=>
  cases n with
  |zero=>simp[gP]at h
  |succ n=>
   simp only[gP]at h;split at h
   .simp_all
   .cases h
 |_=>cases n<;>simp[gP]at h
theorem Eb{n:Nat}{H:an}:∀{cs:List C} {l:List Int},bu (gP n H) cs=aa (l.map fi)->cs=l.map λm=>.f (fi m)
 |[],[],_=>rfl| [],m::l,h=>by simp[bu]at h
 |x::cs,l,h=>by
  simp only[bu]at h;cases d:gP n H x with
  |none=>simp[d]at h
  |some y=>
   cases b:bu (gP n H) cs with
   |none=>simp[d,b]at h
   |some zs=>
    simp only[d,b,AT]at h;cases l with
    |nil=>cases h
    |cons m l=>
     simp only[agm,List.cons.injEq]at h;obtain⟨rfl,rfl⟩:=h;rw[TL d,Eb b];rfl
theorem nL(l:List Int):(ints l).flatten=l.map fi:=by
 induction l with
 |nil=>rfl| cons m l b=>simp only[ints,agm,agG]at b ⊢;rw[b];rfl
def BQ(z:Bool)(H:an)(c:C)(l:List Int):Prop:=
 (l=[]/\c=.f .aJ)\/∃b ep fl st,c=.sl b 0 l.length 0 ep 1/\H[b]?=aa (.dj 1 (l.map λm=>.f (fi m)) fl ep st)/\fl<=l.length/\(z=ae->fl=0)/\(l=[]->st=.nil)/\(l≠[]->st=.loc)
theorem pJ{l:List Int}:ints l=[]↔l=[]:=by cases l<;>simp[ints]
theorem LBi.j{z:Bool}{H:an}{c:C}{l:List Int}(h:LBi z H c l):BQ z H c l:=by
 rcases h with⟨h1,h2,_⟩|⟨b,ep,fl,st,cs,h1,h2,h3,h4,h5,h6,h7⟩
 .refine .inl ⟨pJ.1 h1,?_⟩;cases h2;rfl
 .rw[nL]at h3;have d:=Eb h3;subst d;simp only[V.c.injEq,xR]at h1;refine .inr ⟨b,ep,fl,st,h1,h2,by simpa using h4,h5,λe=>(h6 (pJ.2 e)).1,λe=>h7 (λh=>e (pJ.1 h))⟩
theorem BQ.i{z:Bool}{H:an}{c:C}{l:List Int}(h:BQ z H c l):LBi z H c l:=by
 rcases h with⟨rfl,rfl⟩|⟨b,ep,fl,st,rfl,h2,h4,h5,h6,h7⟩
 .exact .inl ⟨rfl,rfl,ce⟩
 .refine .inr ⟨b,ep,fl,st,_,bv,h2,?_,by simpa using h4,h5,λe=>⟨h6 (pJ.1 e),ce⟩,λe=>h7 λh=>e (pJ.2 h)⟩;rw[nL];have:=xU (n:=60) (H:=H) (l.map fi);rw[List.map_map]at this;exact this
theorem BQ.set{z:Bool}{H:an}{c:C}{l:List Int}(h:BQ z H c l){b:Nat}{cs cs':List C}{fl fl':Nat}(hb:H[b]?=aa (.box cs fl)):BQ z (H.set b (.box cs' fl')) c l:=by
 rcases h with h|⟨d,ep,fl,st,h1,h2,h3⟩
 .exact .inl h
 .have:b≠d:=by rintro rfl;rw[hb]at h2;cases h2
  exact .inr ⟨d,ep,fl,st,h1,by rw[sh this];exact h2,h3⟩
theorem BQ.push{z:Bool}{H:an}{c:C}{l:List Int}(h:BQ z H c l)(L:an):BQ z (H++L) c l:=by
 rcases h with h|⟨b,ep,fl,st,h1,h2,h3⟩
 .exact .inl h
 .exact .inr ⟨b,ep,fl,st,h1,by rw[AI (aj h2)];exact h2,h3⟩
theorem BQ.ex{z:Bool}{H:an}{c:C}{l:List Int}(h:BQ z H c l)(n:Nat):fh (n+1) H c=aa (sl .nil (ints l)):=by
 rcases h with⟨rfl,rfl⟩|⟨b,ep,fl,st,rfl,h2,h4,h5,h6,h7⟩
 .rfl
 .cases l with
  |nil=>obtain rfl:=h6 rfl;simp[gT,h2,sl,ints,Tg.fc]
  |cons m l=>
   obtain rfl:=h7 bv;simp only[gT,h2];rw[bZ ⟨trivial,trivial,bv⟩,ahi,agw bv];have:=lu (n:=n) (H:=H) ((m::l).map fi);simp only[List.map_map]at this;have e:(List.map (λm=>C.f (fi m)) (m::l))=List.map (C.f ∘ fi) (m::l):=rfl;rw[e,this];have d:sl .nil (ints (m::l))=.fs (ints (m::l)).flatten (ints (m::l)).length:=rfl;rw[d,nL,xR];rfl
theorem ju{n:Nat}:∀(l:List C) (H:an),(∀x∈l,∃y,x=.f y)->l.foldl (λH x=>ef n x H) H=H
 |[],_,_=>rfl
 |x::l,H,h=>by
  obtain⟨y,rfl⟩:=h x ago;simp only[aid,Vw];exact ju l H λx b=>h x (agr _ b)
theorem BQ.mk{z:Bool}{H:an}{c:C}{l:List Int}(h:BQ z H c l)(n:Nat):BQ ag (ef (n+1) c H) c l/\∀(b:Nat) cs fl,H[b]?=aa (.box cs fl)->(ef (n+1) c H)[b]?=aa (.box cs fl):=by
 rcases h with⟨rfl,rfl⟩|⟨b,ep,fl,st,rfl,h2,h4,h5,h6,h7⟩
 .exact⟨.inl ⟨rfl,rfl⟩,λb cs fl h=>h⟩
 .have e:ef (n+1) (.sl b 0 l.length 0 ep 1) H=H.set b (.dj 1 (l.map λm=>.f (fi m)) (Nat.max fl l.length) ep st):=by
   simp only[jL,h2];rw[ju]
   .simp
   .grind
  rw[e];refine⟨.inr ⟨b,ep,_,st,rfl,BY (aj h2),Nat.max_le.2 ⟨h4,agn _⟩,bv,h6,h7⟩,λg cs fl' d=>?_⟩
  grind
end
section
open Go
def RB(H:an)(b sz ep:Nat)(rows:List (List FC)):Prop:=H[b]?=aa (.dj sz (rows.flatten.map .f) 0 ep .loc)
def Fm(b:Nat)(H H':an):Prop:=H.length<=H'.length/\∀d:Nat,d≠b->d<H.length->H'[d]?=H[d]?
theorem Fm.refl{b:Nat}(H:an):Fm b H H:=⟨agn _,λ_ _ _=>rfl⟩
theorem Fm.trans{b:Nat}{H H' d:an}(h:Fm b H H')(j:Fm b H' d):Fm b H d:=
 ⟨Nat.le_trans h.1 j.1,λg e l=>(j.2 g e (Nat.lt_of_lt_of_le l h.1)).trans (h.2 g e l)⟩
theorem Fm.push{b:Nat}(H J:an):Fm b H (H++J):=⟨bv,λd _ l=>AI l⟩
theorem Fm.set{b:Nat}(H:an)(x:bO):Fm b H (H.set b x):=⟨bv,λd e _=>sh (Ne.symm e)⟩
theorem Fm.get{b:Nat}{H H':an}(h:Fm b H H'){d:Nat}{x:bO}(hb:H[d]?=aa x)(e:d≠b):H'[d]?=aa x:=by rw[h.2 d e (aj hb)];exact hb
theorem ES{sz:Nat}{row:List FC}(q:row.length=sz):∀{rows:List (List FC)} {j:Nat},cR sz rows->j<rows.length->
  rows.flatten.take (j*sz)++row++rows.flatten.drop (j*sz+sz)=(rows.set j row).flatten
 |[],_,_,d=>by simp at d
 |r::rows,0,b,_=>by
  have:=b r ago;simp_all
 |r::rows,j+1,b,d=>by
  have g:=b r ago;have u:=ES q (rows:=rows) (j:=j) (λx s=>b x (agr _ s)) (by simpa using d);simp only[agG,aio];rw[<-u];have l:(j+1)*sz=r.length+j*sz:=by rw[g,agS];omega
  have m:(j+1)*sz+sz=r.length+(j*sz+sz):=by omega
  rw[m,l,List.take_append,List.drop_append];simp[agw,List.append_assoc]
section
variable{H:an}{b sz ep j:Nat}{rows:List (List FC)}{row:List FC}
theorem RB.lt(h:RB H b sz ep rows):b<H.length:=aj h
theorem RB.push(h:RB H b sz ep rows)(J:an):RB (H++J) b sz ep rows:=by
 unfold RB at *;rw[AI (aj h)];exact h
theorem RB.len(h:RB H b sz ep rows){o l c:Nat}:bh H (.sl b o l c ep sz)=aa l:=by
 unfold RB at h;simp[bh,h]
theorem RB.idx(h:RB H b sz ep rows){n c:Nat}{k:IntKind}{i:Int}(h0:0<=i)(hi:i<n){o:Nat}:bG H sz ab (.c (.sl b o n c ep sz)) (.c (.f (.int k i)))=aa (.c (.ptr b (o+i.toNat*sz) ep)):=by
 unfold RB at h;simp only[bG,fG,h0,hi,if_true,h,and_self]
theorem RB.Z6(h:RB H b sz ep rows)(hg:cR sz rows)(d:rows[j]?=aa row):aV H (aa sz) (.c (.ptr b (j*sz) ep))=aa (.a (row.map .f)):=by
 unfold RB at h;have g:row.length=sz:=hg row (agU d);have:=nH (k:=0) hg d ap;simp only[ax,h,if_true];rw[<-ahZ];simp_all
theorem RB.str(h:RB H b sz ep rows)(hg:cR sz rows)(l:j<rows.length)(m:row.length=sz) :
  ∃H',cY H (.ptr b (j*sz) ep) (row.map .f)=aa H'/\RB H' b sz ep (rows.set j row)/\Fm b H H'/\H'.length=H.length:=by
 have hl:=cA hg;have g:(j+1)*sz<=rows.length*sz:=ag9 _ l;have d:j*sz+sz<=rows.flatten.length:=by rw[hl];rw[agS]at g;omega
 unfold RB at h ⊢;refine⟨H.set b (.dj sz ((rows.set j row).flatten.map .f) 0 ep .loc),?_,?_,Fm.set _ _,bv⟩
 .simp only[bw,h,ahN,true_and,agq,m,d,if_true];rw[<-ES m hg l];simp_all
 .grind
end
theorem gS{k n:Nat}(h:k<=n):Dx (vi k) n=aa k:=by
 have:(0:Int)<=k/\(k:Int)<=n:=by omega
 simp[Dx,fG,this]
theorem RB.oI{H:an}{b sz ep n k:Nat}{rows:List (List FC)}(h:RB H b sz ep rows)(d:k<n) :
  cu H sz (.c (.sl b 0 n 0 ep sz)) (aa (vi k)) ab ab=aa (.c (.sl b (k*sz) (n-k) 0 ep sz)):=by
 unfold RB at h;have hb:cz n n (aa (vi k)) ab ab=aa (k,n,n):=by simp[cz,gS (Nat.le_of_lt d)]
 simp[cu,h,hb];omega
theorem RB.EY{H:an}{b sz ep n k:Nat}{rows:List (List FC)}(h:RB H b sz ep rows)(d:k<=n)(h0:0<k) :
  cu H sz (.c (.sl b 0 n 0 ep sz)) ab (aa (vi k)) ab=aa (.c (.sl b 0 k 0 ep sz)):=by
 unfold RB at h;have hb:cz n n ab (aa (vi k)) ab=aa (0,k,n):=by simp[cz,gS d]
 simp[cu,h,hb]
 try omega
theorem RB.clr{H:an}{b sz ep n k:Nat}{rows:List (List FC)}{zs:List FC}(h:RB H b sz ep rows)(hg:cR sz rows)(s:rows.length=n)(y:k<n)(x:zs.length=sz) :
  ∃H',ng H sz zs (.c (.sl b (k*sz) (n-k) 0 ep sz))=aa H'/\RB H' b sz ep (rows.take k++List.replicate (n-k) zs)/\Fm b H H':=by
 have hl:=cA hg;have d:=h.len (o:=k*sz) (l:=n-k) (c:=0);have g:(dJ (n-k) zs).length=(n-k)*sz:=by
  simp_all
 have j:k*sz+(n-k)*sz=rows.flatten.length:=by rw[hl,s,<-agS];congr 1;omega
 unfold RB at h ⊢;refine⟨H.set b (.dj sz ((rows.take k++List.replicate (n-k) zs).flatten.map .f) 0 ep .loc),?_,BY (aj h),Fm.set _ _⟩;have u:n-k≠0:=by omega
 have m:(rows.take k++List.replicate (n-k) zs).flatten.map C.f=over (rows.flatten.map .f) (k*sz) ((dJ (n-k) zs).map .f):=by
  rw[ahM,<-nY k hg];simp only[over,agq,g,ahl,List.map_take];rw[List.drop_eq_nil_of_le (by simp only[agq];omega)];simp
 simp only[ng,d];rw[m];obtain⟨q,v⟩:∃q,n-k=q+1:=⟨n-k-1,ap⟩
 rw[v];simp only[x,if_true,h,and_self,bw,ahN,true_and,agq];simp_all
theorem dy{t:T}{H:an}{x:ku}{r:V}(h:cC t H x=aa r):Km.results t H [x]=aa r:=by
 simp[Km.results,bu,h]
@[simp] theorem adW {t:T} {H:an} (sz:Nat) (zs:List FC) (x:Arg):cm t H (.clear sz zs x)=(ng H sz zs (x.ev t)).map (.t [],·):=rfl
@[simp] theorem adG {a b:Int}:Cm ag [vi a,vi b]=aa (vi (max a b)):=by
 have:(if a<b then b else a)=max a b:=by split<;>omega
 simp only[Cm,vH,A0];simp[this,V.int]
@[simp] theorem adH {a b:Int}:Cm ae [vi a,vi b]=aa (vi (min a b)):=by
 have:(if b<a then b else a)=min a b:=by split<;>omega
 simp only[Cm,vH,A0];simp[this,V.int]
end
section
open Go
def swp(l:List (List FC))(i j:Nat):List (List FC):=(l.set i (l.getD j [])).set j (l.getD i [])
def F8(a b:Nat)(l d:List (List FC)):Prop:=d.Perm l/\d.take a=l.take a/\d.drop b=l.drop b
theorem F8.refl(a b:Nat)(l:List (List FC)):F8 a b l l:=⟨.refl _,rfl,rfl⟩
theorem F8.trans{a b:Nat}{l j d:List (List FC)}(h:F8 a b l j)(g:F8 a b j d):F8 a b l d:=⟨g.1.trans h.1,g.2.1.trans h.2.1,g.2.2.trans h.2.2⟩
theorem F8.len{a b:Nat}{l d:List (List FC)}(h:F8 a b l d):d.length=l.length:=h.1.length_eq
theorem swp_get{l:List (List FC)}{i j:Nat}(hi:i<l.length)(g:j<l.length)(k:Nat):(swp l i j)[k]?=if k=j then l[i]? else if k=i then l[j]? else l[k]?:=by
 have b:l.getD i []=l[i]:=by simp[List.getD,By hi]
 have d:l.getD j []=l[j]:=by simp[List.getD,By g]
 simp only[swp,b,d,List.getElem?_set]
 grind
theorem UI{a b:Nat}{l:List (List FC)}{i j:Nat}(hi:a<=i)(s:i<b)(x:a<=j)(u:j<b)(v:b<=l.length):F8 a b l (swp l i j):=by
 have d:i<l.length:=by omega
 have g:j<l.length:=by omega
 refine⟨?_,?_,?_⟩
 .have m:l.getD i []=l[i]:=by simp[List.getD,By d]
  have q:l.getD j []=l[j]:=by simp[List.getD,By g]
  simp only[swp,m,q];exact List.set_set_perm d g
 .apply List.ext_getElem?;intro k;simp only[List.getElem?_take];split
  .rw[swp_get d g,ct ap,ct ap]
  .rfl
 .apply List.ext_getElem?;intro k;simp only[ahk];rw[swp_get d g,ct ap,ct ap]
section
variable{H:an}{b sz ep:Nat}{rows:List (List FC)}
theorem RB.swap(h:RB H b sz ep rows)(hg:cR sz rows){i j:Nat}(hi:i<rows.length)(m:j<rows.length) :
  ∃d g,cY H (.ptr b (i*sz) ep) (rows[j].map .f)=aa d/\RB d b sz ep (rows.set i rows[j])/\cY d (.ptr b (j*sz) ep) (rows[i].map .f)=aa g/\RB g b sz ep (swp rows i j)/\Fm b H g:=by
 have z:rows[i].length=sz:=hg _ (IN hi);have q:rows[j].length=sz:=hg _ (IN m);obtain⟨d,E,s,x,-⟩:=h.str hg hi q;have l:cR sz (rows.set i rows[j]):=λr A=>by
  rcases List.mem_or_eq_of_mem_set A with h|rfl
  .exact hg r h
  .exact q
 obtain⟨g,F,B,y,-⟩:=s.str l (j:=j) (by simpa using m) z;refine⟨d,g,E,s,F,?_,x.trans y⟩;have u:rows.getD i []=rows[i]:=by simp[List.getD,By hi]
 have v:rows.getD j []=rows[j]:=by simp[List.getD,By m]
 simp only[swp,u,v];exact B
theorem F8.ae0{a b:Nat}{l d:List (List FC)}(h:F8 a b l d)(hg:cR sz l):cR sz d:=λr g=>hg r (h.1.mem_iff.1 g)
end
structure ZP(W:List FC->Prop)(c:List FC->List FC->Int):Prop where
 asym:∀{x y},W x->W y->c x y<0->¬ c y x<0
 trans:∀{x y z},W x->W y->W z->¬ c y x<0->¬ c z y<0->¬ c z x<0
def Up(c:List FC->List FC->Int)(a b:Nat)(l:List (List FC)):Prop:=∀i j x y,a<=i->i<j->j<b->l[i]?=aa x->l[j]?=aa y->¬ c y x<0
end
section
open Go
section
variable{W:List FC->Prop}{c:List FC->List FC->Int}
theorem Up.mono{a b a' d:Nat}{l:List (List FC)}(h:Up c a b l)(m:a<=a')(hb:d<=b):Up c a' d l:=
 λi j x y h1 h2 h3 g hy=>h i j x y ap h2 ap g hy
theorem Up.one{a b:Nat}{l:List (List FC)}(h:b<=a+1):Up c a b l:=λi j x y h1 h2 h3=>by omega
def F5(c:List FC->List FC->Int)(l:List (List FC))(i j:Nat):Prop:=∀x y,l[i]?=aa x->l[j]?=aa y->¬ c y x<0
theorem F5.trans{l:List (List FC)}{i j k:Nat}(hc:ZP W c)(b:∀r∈l,W r)(h:F5 c l i j)(q:F5 c l j k)(d:j<l.length):F5 c l i k:=λx y g hy=>by
 have m:=By d;exact hc.trans (b _ (agU g)) (b _ (IN d)) (b _ (agU hy)) (h _ _ g m) (q _ _ m hy)
end
end
section
open Go
def bf:C->Option Nat
 | .sl b _ _ _ _ _=>aa b| _=>ab
def LR(H:an)(c:C)(sz:Nat)(rows:List (List FC)):Prop:=(rows=[]/\(c=.f .aJ\/c=.f .es))\/(rows≠[]/\∃b ep,c=.sl b 0 rows.length 0 ep sz/\RB H b sz ep rows)
def Kb(H H':an)(c:C):Prop:=H.length<=H'.length/\∀(i:Nat) y,H[i]?=aa y->bf c≠aa i->H'[i]?=aa y
section
variable{H H':an}{c:C}{sz:Nat}{rows:List (List FC)}
theorem LR.nil(H:an)(sz:Nat):LR H (.f .aJ) sz []:=.inl ⟨rfl,.inl rfl⟩
theorem LR.bH(h:LR H c sz rows)(d:∀i y,H[i]?=aa y->bf c=aa i->H'[i]?=aa y):LR H' c sz rows:=by
 rcases h with h|⟨h,b,ep,rfl,h2⟩
 .exact .inl h
 .exact .inr ⟨h,b,ep,rfl,d b _ h2 rfl⟩
theorem LR.push(h:LR H c sz rows)(J:an):LR (H++J) c sz rows:=h.bH λi y hy _=>by rw[AI (aj hy)];exact hy
theorem LR.lt(h:LR H c sz rows){i:Nat}(hi:bf c=aa i):i<H.length:=by
 rcases h with⟨_,rfl|rfl⟩|⟨h,b,ep,rfl,h2⟩
 .cases hi
 .cases hi
 .cases hi;exact h2.lt
theorem LR.bR(h:LR H c sz rows){i:Nat}{cs:List C}{fl:Nat}(d:H[i]?=aa (.box cs fl)):bf c≠aa i:=by
 rcases h with⟨_,rfl|rfl⟩|⟨h,b,ep,rfl,h2⟩
 .simp[bf]
 .simp[bf]
 .intro e;cases e;unfold RB at h2;simp_all
theorem LR.set(h:LR H c sz rows){i:Nat}(hi:bf c≠aa i)(x:bO):LR (H.set i x) c sz rows:=h.bH λj y hy b=>by
 grind
theorem LR.len(h:LR H c sz rows):bh H c=aa rows.length:=by
 rcases h with⟨rfl,rfl|rfl⟩|⟨h,b,ep,rfl,h2⟩
 .rfl
 .rfl
 .exact h2.len
theorem LR.at(h:LR H c sz rows)(hg:cR sz rows){j:Nat}(d:j<rows.length):∃b ep,bG H sz ab (.c c) (vi j)=aa (.c (.ptr b (j*sz) ep))/\aV H (aa sz) (.c (.ptr b (j*sz) ep))=aa (.a (rows[j].map .f)):=by
 rcases h with⟨rfl,_⟩|⟨h,b,ep,rfl,h2⟩
 .simp at d
 .have:=h2.idx (n:=rows.length) (c:=0) (k:=.i64) (o:=0) (i:=(j:Int)) ap ap;rw[agD,ahg]at this;exact⟨b,ep,this,h2.Z6 hg (By d)⟩
theorem LR.ex(h:LR H c sz rows)(hg:cR sz rows)(n:Nat):∃g,fh (n+1) H c=aa (sl g rows):=by
 rcases h with⟨rfl,rfl|rfl⟩|⟨h,b,ep,rfl,h2⟩
 .exact⟨.nil,rfl⟩
 .exact⟨.es,rfl⟩
 .refine⟨.fs,?_⟩;have hl:rows.length*sz=rows.flatten.length:=(cA hg).symm;unfold RB at h2;simp only[gT,h2];rw[bZ ⟨trivial,trivial,by rw[agq,ahg,hl];exact agn _⟩,ahi,agw (by rw[agq];omega),lu];cases rows with
  |nil=>exact absurd rfl h| cons x l=>simp[sl]
theorem R9{g g':Tg}{rows:List (List FC)}(h:rows≠[]):sl g rows=sl g' rows:=by
 cases rows with
 |nil=>exact absurd rfl h| cons x l=>rfl
theorem LR.ZZ(h:LR H c sz rows)(hg:cR sz rows):∃g,∀(H':an) (n:Nat),(∀i y,H[i]?=aa y->bf c=aa i->H'[i]?=aa y)->fh (n+1) H' c=aa (sl g rows):=by
 by_cases d:rows=[]
 .rcases h with⟨rfl,rfl|rfl⟩|⟨h,_⟩
  .exact⟨.nil,λ_ _ _=>rfl⟩
  .exact⟨.es,λ_ _ _=>rfl⟩
  .simp_all
 .refine⟨.fs,λH' n b=>?_⟩;obtain⟨g,e⟩:=(h.bH b).ex hg n;rw[e,R9 d]
theorem LR.app(h:LR H c sz rows)(hg:cR sz rows)(vW:sz≠0){row:List FC}(u:row.length=sz){bytes:Nat}(d:cD (rows.length+1) bytes=ae){b1 fl1:Nat}(j:H[b1]?=aa (.box (row.map .f) fl1)) :
  ∃c' H',bT H sz bytes (.c c) (.c (.sl b1 0 1 1 0 sz))=aa (.c c',H')/\LR H' c' sz (rows++[row])/\Kb H H' c/\(bf c'=bf c\/bf c'=aa H.length):=by
 have g:dG H sz (.c (.sl b1 0 1 1 0 sz))=aa (1,row.map .f):=lV j (by simp[u]);rcases h with⟨rfl,m⟩|⟨s,b,ep,rfl,h2⟩
 .have d:cD 1 bytes=ae:=by simpa using d
  refine⟨.sl H.length 0 1 0 0 sz,H++[.dj sz (row.map .f) 0 0 .loc],?_,.inr ⟨bv,H.length,0,rfl,?_⟩,⟨bv,λi y hy _=>by rw[AI (aj hy)];exact hy⟩,.inr rfl⟩
  .rcases m with rfl|rfl<;>simp[bT,g,d,vW]
  .simp[RB]
 .have l:rows.length*sz=rows.flatten.length:=(cA hg).symm;unfold RB at h2;refine⟨.sl b 0 (rows.length+1) 0 (ep+1) sz,H.set b (.dj sz (rows.flatten.map .f++row.map .f) 0 (ep+1) .loc),?_,.inr ⟨bv,b,ep+1,bv,?_⟩,⟨bv,λi y hy q=>?_⟩,.inl rfl⟩
  .simp only[bT,g,vW,if_false,h2,and_self,if_true]
   grind
  .unfold RB
   grind
  .have:b≠i:=by rintro rfl;exact q rfl
   simp_all
theorem Kb.refl(H:an)(c:C):Kb H H c:=⟨agn _,λ_ _ h _=>h⟩
theorem Kb.push(H J:an)(c:C):Kb H (H++J) c:=⟨bv,λi y hy _=>by rw[AI (aj hy)];exact hy⟩
theorem Kb.acO{b o l d ep s:Nat}(h:Fm b H H'):Kb H H' (.sl b o l d ep s):=⟨h.1,λi y hy g=>by
 have:i≠b:=by rintro rfl;exact g rfl
 exact h.get hy this⟩
end
end
section
open Go
theorem rK{g:Type}{sz:Nat}:∀{rows:List (List g)} {j:Nat} {row:List g},(∀r∈rows,r.length=sz)->rows[j]?=aa row->(rows.flatten.drop (j*sz)).take sz=row
 |[],j,row,_,b=>by simp at b
 |r::rows,0,row,d,b=>by
  simp_all
 |r::rows,j+1,row,d,b=>by
  have l:=d r ago;have q:=rK (rows:=rows) (j:=j) (row:=row) (λx m=>d x (agr _ m)) (by simpa using b);rw[agG,show(j+1)*sz=r.length+j*sz by rw[l,agS];omega,<-ah4,List.drop_left];exact q
theorem yu{b:Type}:∀{cs:List b} {k:Nat} {x:b},k<cs.length->over cs k [x]=cs.set k x
 |[],k,x,h=>by simp at h
 |c::cs,0,x,_=>by simp[over]
 |c::cs,k+1,x,h=>by
  have:=yu (cs:=cs) (k:=k) (x:=x) (by simpa using h);simp_all
theorem LL{g:Type}{sz:Nat}:∀{rows:List (List g)} {j k n:Nat} {row:List g},(∀r∈rows,r.length=sz)->rows[j]?=aa row->k+n<=sz->(rows.flatten.drop (j*sz+k)).take n=(row.drop k).take n:=by
 intro rows j k n row b d m;have q:row.length=sz:=b row (agU d);have l:=rK b d;rw[<-ah4,<-l,List.drop_take,aik,ahQ ap]
theorem AA{m:Type}{sz:Nat}:∀{rows:List (List m)} {j k:Nat} {row xs:List m},(∀r∈rows,r.length=sz)->rows[j]?=aa row->k+xs.length<=sz->over rows.flatten (j*sz+k) xs=(rows.set j (over row k xs)).flatten
 |[],j,k,row,xs,_,b,_=>by simp at b
 |r::rows,0,k,row,xs,d,b,g=>by
  simp at b;subst b;have:=d r ago;simp only[over,agG,List.set_cons_zero,Nat.zero_mul,ahg]
  grind
 |r::rows,j+1,k,row,xs,d,b,g=>by
  have q:=d r ago;have l:=AA (rows:=rows) (j:=j) (k:=k) (row:=row) (xs:=xs) (λy s=>d y (agr _ s)) (by simpa using b) g;have e:(j+1)*sz+k=r.length+(j*sz+k):=by rw[q,agS];omega
  simp only[over,agG,aio]at l ⊢;rw[<-l,e,List.take_length_add_append,Nat.add_assoc,List.drop_length_add_append];simp
theorem IC{g:Type}{sz:Nat}{rows:List (List g)}(b:∀r∈rows,r.length=sz){j:Nat}(d:j<rows.length):j*sz+sz<=rows.flatten.length:=by
 rw[xK b];have:(j+1)*sz<=rows.length*sz:=ag9 _ d
 grind
section
variable{H:an}{b sz ep j k n:Nat}{rows:List (List FC)}{row:List FC}
theorem RB.ldp(h:RB H b sz ep rows)(hg:cR sz rows)(g:rows[j]?=aa row)(l:k+n<=sz):aV H (aa n) (.c (.ptr b (j*sz+k) ep))=aa (.a (((row.drop k).take n).map .f)):=by
 unfold RB at h;have d:row.length=sz:=hg row (agU g);have:=LL (n:=n) hg g l;simp only[ax,h,if_true];have e:((row.drop k).take n).length=n:=by simp[d];omega
 have m:=IC hg (OF.1 g).1;rw[<-ahZ];simp only[aW,agq];rw[bZ (by rw[agF];omega),<-List.map_take,this]
theorem RB.ldc{x:FC}(h:RB H b sz ep rows)(hg:cR sz rows)(d:rows[j]?=aa row)(g:row[k]?=aa x):aV H ab (.c (.ptr b (j*sz+k) ep))=aa (.c (.f x)):=by
 unfold RB at h;have l:row.length=sz:=hg row (agU d);have m:=(OF.1 g).1;have:=xJ hg d (by omega:k<sz);simp only[ax,h,if_true];rw[ahZ.symm];have e:(rows.flatten.drop (j*sz+k))[0]?=aa x:=by rw[ahk,Nat.add_zero,this,g]
 cases hd:rows.flatten.drop (j*sz+k)with
 |nil=>rw[hd]at e;simp at e| cons y ys=>rw[hd]at e;simp at e;simp[aW,e]
theorem RB.stp{xs:List FC}(h:RB H b sz ep rows)(hg:cR sz rows)(g:rows[j]?=aa row)(m:k+xs.length<=sz):∃H',cY H (.ptr b (j*sz+k) ep) (xs.map .f)=aa H'/\RB H' b sz ep (rows.set j (over row k xs))/\Fm b H H'/\H'.length=H.length:=by
 have d:=(OF.1 g).1;have l:=IC hg d;unfold RB at h ⊢;refine⟨H.set b (.dj sz ((rows.set j (over row k xs)).flatten.map .f) 0 ep .loc),?_,BY (aj h),Fm.set _ _,bv⟩;have e:over (rows.flatten.map C.f) (j*sz+k) (xs.map .f)=((rows.set j (over row k xs)).flatten).map .f:=by
  rw[<-AA hg g m];simp
 simp only[bw,h,ahN,true_and,agq]
 grind
end
def Yy(sz:Nat)(zs:List FC)(bytes:Nat):aM:=⟨[P.nat 0],[.tmp (P.nat 2)],.seq (.region [⟨D 2,.iV (.k (.c (.f (.aJ)))),ab⟩] []) (.seq (.seq (.region [⟨D 3,.iV (R 0),ab⟩,⟨D 4,.eq ag .sl (R 3) (.k (.c (.f (.aJ)))),ab⟩] [])
 (.cond (R 4) (.seq (.region [⟨D 2,.iV (.k (.c (.f (.aJ)))),ab⟩] []) .ret) .skip)) (.seq (.region [⟨D 5,.ft sz zs 0 [],ab⟩,⟨D 6,.iV (R 0),ab⟩,⟨D 7,.append sz bytes (R 5) (R 6),ab⟩,⟨D 2,.iV (R 7),ab⟩] []) .ret))⟩
section
variable{tab:TB}{F sz bytes:Nat}{zs:List FC}{H:an}{g:Tg}{rows:List (List FC)}
theorem Ax{cs:List FC}{n:Nat}:MZ H .sl (.c (.f (.fs cs n))) (.c (.f .aJ))=aa ag:=rfl
theorem TJ:MZ H .sl (.c (.f .aJ)) (.c (.f .aJ))=aa ae:=rfl
theorem acr:MZ H .sl (.c (.f .es)) (.c (.f .aJ))=aa ag:=rfl
theorem sK(u:tab F=aa (Yy sz zs bytes))(l:sz≠0)(v:cR sz rows)(j:cD rows.length bytes=ae) :
  ∃r H',Ev tab (.fn F) [.c (.f (sl g rows))] H r H'/\∃c J,r=.c c/\H'=H++J/\LR (H++J) c sz rows/\∀i,bf c=aa i->H.length<=i:=by
 refine de (C:=λr H'=>∃c J,r=.c c/\H'=H++J/\LR (H++J) c sz rows/\∀i,bf c=aa i->H.length<=i) u rfl λQ m=>?_;apply ai;simp;apply au;apply ai;cases rows with
 |nil=>
  cases g with
  |nil=>
   simp[sl,Tg.fc,TJ];refine aw bv ?_;apply ai;simp;exact az (m _ _ (.c (.f .aJ)) rfl (by simp[Km.results,bu]) ⟨_,[],rfl,bv,.inl ⟨rfl,.inl rfl⟩,by simp[bf]⟩)
  |es=>
   simp[sl,Tg.fc,acr];refine bE bv ?_;apply ai;simp[bT,dG,bh,dg,l];exact az (m _ _ (.c (.f .es)) rfl (by simp[Km.results,bu]) ⟨_,[],rfl,bv,.inl ⟨rfl,.inr rfl⟩,by simp[bf]⟩)
  |fs=>
   simp[sl,Tg.fc,Ax];refine bE bv ?_;apply ai;simp[bT,dG,bh,dg,l];exact az (m _ _ (.c (.f .es)) rfl (by simp[Km.results,bu]) ⟨_,[],rfl,bv,.inl ⟨rfl,.inr rfl⟩,by simp[bf]⟩)
 |cons x r=>
  have d:dG H sz (.c (.f (.fs (x::r).flatten (x::r).length)))=aa ((x::r).length,(x::r).flatten.map .f):=by
   have q:=DF (H:=H) (g:=.fs) v;have s:=Q2 (H:=H) .fs (x::r);simp only[sl,aiH,agH,if_false]at q s;simp only[dG,q,s]
  have b:cD (r.length+1) bytes=ae:=by simpa using j
  simp only[sl,aiH,agH,if_false];simp[Ax];refine bE bv ?_;apply ai;simp only[agG,agP]at d;simp[bT,d,l,b];refine az (m _ _ (.c (.sl H.length 0 (r.length+1) 0 0 sz)) rfl (by simp[Km.results,bu]) ⟨_,[.dj sz ((x::r).flatten.map .f) 0 0 .loc],rfl,bv,.inr ⟨bv,H.length,0,rfl,by simp[RB]⟩,by simp[bf]⟩)
end
end
section
open Go
theorem kv{H:an}{sz:Nat}{g:Tg}{rows:List (List FC)}(j:cR sz rows):dG H sz (.c (.f (sl g rows)))=aa (rows.length,rows.flatten.map .f):=by
 have b:=DF (H:=H) (g:=g) j;have d:=Q2 (H:=H) g rows;have e:∀s,sl g rows≠.str s:=λs=>by cases rows<;>cases g<;>simp[sl,Tg.fc]
 generalize sl g rows=x at *;cases x<;>simp only[dG,b,d];simp_all
theorem CN{H:an}{sz:Nat}{g:Tg}{rows:List (List FC)}{k:Nat}(j:cR sz rows)(m:k<=rows.length)(z:rows.length<=9223372036854775807) :
  ∃g',cu H sz (.c (.f (sl g rows))) (aa (vi k)) ab ab=aa (.c (.f (sl g' (rows.drop k)))):=by
 cases rows with
 |nil=>
  have:k=0:=by simpa using m
  subst this;cases g
  .exact⟨.nil,rfl⟩
  .exact⟨.es,rfl⟩
  .exact⟨.fs,by simp[sl,Tg.fc,cu,cz];rfl⟩
 |cons x r=>
  refine⟨.fs,?_⟩;have v:Dx (vi k) (x::r).length=aa k:=by
   have:(0:Int)<=(k:Int)/\(k:Int)<=((x::r).length:Int):=⟨ap,ap⟩
   show(if(0:Int)<=(k:Int)/\(k:Int)<=((x::r).length:Int)then aa (k:Int).toNat else ab)=aa k;simp_all
  have b:cz (x::r).length (x::r).length (aa (vi k)) ab ab=aa (k,(x::r).length,(x::r).length):=by
   simp[cz];simp_all
  show cu H sz (.c (.f (.fs (x::r).flatten (x::r).length))) _ _ _=_;simp only[cu,b];have l:((x::r).flatten.drop (k*sz)).take (((x::r).length-k)*sz)=((x::r).drop k).flatten:=by
   rw[uD k j,agw];rw[cA (λy s=>j y (List.mem_of_mem_drop s)),agF];omega
  rw[l];have u:sl .fs ((x::r).drop k)=.fs ((x::r).drop k).flatten ((x::r).length-k):=by
   cases d:(x::r).drop k with
   |nil=>
    have:=congrArg List.length d;simp only[agF,ahE]at this;rw[this];rfl
   |cons y q=>
    have:=congrArg List.length d;simp only[agF]at this;rw[this];rfl
  simp_all
theorem LR.aeL{H:an}{c:C}{sz:Nat}{rows rows':List (List FC)}(h:LR H c sz rows)(hg:cR sz rows)(vW:sz≠0)(l:cR sz rows'){bytes:Nat}(d:cD (rows.length+rows'.length) bytes=ae)(g:Tg) :
  ∃c' H',bT H sz bytes (.c c) (.c (.f (sl g rows')))=aa (.c c',H')/\LR H' c' sz (rows++rows')/\Kb H H' c/\(bf c'=bf c\/bf c'=aa H.length):=by
 by_cases h0:rows'=[]
 .subst h0;refine⟨c,H,?_,by simpa using h,Kb.refl H c,.inl rfl⟩;have q:=kv (H:=H) (g:=g) l;rcases h with⟨rfl,rfl|rfl⟩|⟨m,b,ep,rfl,h2⟩
  .simp only[bT,q,vW,if_false];simp
  .simp only[bT,q,vW,if_false];simp
  .unfold RB at h2;simp only[bT,q,vW,if_false,h2,and_self,if_true,ahE]
 have u:rows'.length≠0:=λe=>h0 (List.length_eq_zero_iff.1 e);have j:=kv (H:=H) (g:=g) l;have x:=cA l;rcases h with⟨rfl,v⟩|⟨m,b,ep,rfl,h2⟩
 .have d:cD rows'.length bytes=ae:=by simpa using d
  refine⟨.sl H.length 0 rows'.length 0 0 sz,H++[.dj sz (rows'.flatten.map .f) 0 0 .loc],?_,.inr ⟨by simpa using h0,H.length,0,bv,?_⟩,Kb.push H _ c,.inr rfl⟩
  .rcases v with rfl|rfl<;>simp[bT,j,d,vW,u]
  .simp[RB]
 .have s:rows.length*sz=rows.flatten.length:=(cA hg).symm;unfold RB at h2;refine⟨.sl b 0 (rows.length+rows'.length) 0 (ep+1) sz,H.set b (.dj sz (rows.flatten.map .f++rows'.flatten.map .f) 0 (ep+1) .loc),?_,.inr ⟨by simp[m],b,ep+1,bv,?_⟩,⟨bv,λi y hy z=>?_⟩,.inl rfl⟩
  .simp only[bT,j,vW,if_false,h2,and_self,if_true,u]
   grind
  .unfold RB
   grind
  .have:b≠i:=by rintro rfl;exact z rfl
   simp_all
end
section
set_option linter.unusedVariables false
open Go
abbrev yn(d:Nat)(op:dW):ba:=⟨D d,op,ab⟩
abbrev ygm(d k g:Nat):ba:=⟨D d,.iV (R k),G g ae⟩
abbrev ygl(d z k g:Nat):ba:=⟨D d,.load (aa z) (R k),G g ae⟩
abbrev ym(d k:Nat):ba:=⟨D d,.iV (R k),ab⟩
abbrev yi(n:Int):Arg:=.k (.c (.f (.int .i64 n)))
abbrev yt:Arg:=.k (.c (.f (.bool ae)))
abbrev yf:Arg:=.k (.c (.f (.bool ag)))
abbrev ys(z a b:Nat):ba:=⟨ab,.store z (R a) (R b),ab⟩
abbrev yb(d:Nat)(o:BinOp)(a b:Nat):ba:=⟨D d,.bin o (R a) (R b),ab⟩
abbrev ya(d z a b:Nat):ba:=⟨D d,.eZ z ab (R a) (R b),ab⟩
abbrev yl(d z a:Nat):ba:=⟨D d,.load (aa z) (R a),ab⟩
abbrev yr(l:List ba):aE:=.region l []
def Y0(sz:Nat):aE:=yr [ym 37 0,ym 38 9,ym 39 0,ym 40 9,yn 41 (.bin .sub (R 40) (yi 1)),ym 42 0,ym 43 9,yn 44 (.bin .sub (R 43) (yi 1)),ya 45 sz 42 44,yl 46 sz 45,ym 47 0,ym 48 9,ya 49 sz 47 48,yl 50 sz 49,ya 51 sz 37 38,ys sz 51 46,ya 52 sz 39 41,ys sz 52 50]
def Y1(sz:Nat):aE:=yr [ym 35 9,yn 36 (.bin .sub (R 35) (yi 1)),ym 9 36]
def YZ(sz:Nat):aE:=.seq (.block 3 (Y0 sz)) (Y1 sz)
def YY(sz:Nat):aE:=.seq (.seq (yr [ym 18 9,ym 19 1,yb 20 .gtr 18 19,ym 21 20,ygm 22 3 21,ygm 23 0 21,ygm 24 9 21,⟨D 25,.eZ sz ab (R 23) (R 24),G 21 ae⟩,ygl 26 sz 25 21,ygm 27 0 21,ygm 28 9 21,⟨D 29,.bin .sub (R 28) (yi 1),G 21 ae⟩,⟨D 30,.eZ sz ab (R 27) (R 29),G 21 ae⟩,ygl 31 sz 30 21,⟨D 32,.jc (R 22) [R 26,R 31] ae,G 21 ae⟩,⟨D 33,.bin .lss (R 32) (yi 0),G 21 ae⟩,yn 34 (.pick (R 21) (R 33) yf)]) (.cond (R 34) .skip (.exit 2))) (YZ sz)
def YX(sz:Nat):aE:=.seq (yr [ym 17 8,ym 9 17]) (.block 2 (.loop (YY sz)))
def Cf(sz:Nat):aE:=yr [ym 15 8,yn 16 (.bin .add (R 15) (yi 1)),ym 8 16]
def acB(sz:Nat):aE:=.seq (.block 1 (YX sz)) (Cf sz)
def IL(sz:Nat):aE:=.seq (.seq (yr [ym 12 8,ym 13 2,yb 14 .lss 12 13]) (.cond (R 14) .skip (.exit 0))) (acB sz)
def acA(sz:Nat):aE:=.seq (yr [ym 10 1,yn 11 (.bin .add (R 10) (yi 1)),ym 8 11]) (.block 0 (.loop (IL sz)))
def Vq(sz:Nat):aM:=⟨[P.nat 0,P.nat 1,P.nat 2,P.nat 3],[],(acA sz)⟩
def afc(ins:Nat)(rest:aE):aM:=⟨[P.nat 0,P.nat 1,P.nat 2,P.nat 3,P.nat 4],[],.seq (.region [yn 10 (.iV yt)] []) (.seq (.region [yn 11 (.iV yt)] []) (.block 0 (.loop (.block 1 (.seq (.region [ym 21 2,ym 22 1,yb 23 .sub 21 22,ym 12 23] []) (.seq (.seq (.region [ym 24 12,yn 25 (.bin .leq (R 24) (yi 12))] []) (.cond (R 25) (.seq (.region [ym 26 0,ym 27 1,ym 28 2,ym 29 4,yn 30 (.call ins [R 26,R 27,R 28,R 29] ae)] []) .ret) .skip)) rest))))))⟩
def ac6(b len:Nat):aM:=⟨[P.nat 0,P.nat 1],[],.seq (.region [ym 5 0,yn 6 (.len (R 5)),ym 4 6] []) (.region [ym 7 0,ym 8 4,ym 9 4,yn 10 (.Qo .u64 (R 9)),yn 11 (.call len [R 10] ag),ym 12 1,yn 13 (.call b [R 7,(yi 0),R 8,R 11,R 12] ae)] [])⟩
abbrev vu(n:Int):V:=.c (.f (.int .u64 n))
theorem ac'(n:Int):IntKind.wrap .u64 n=n % 18446744073709551616:=rfl
def Cv(tab:TB)(cv:V)(W:List FC->Prop)(c:List FC->List FC->Int):Prop:=
 ∀x y,W x->W y->∀H,∃F b J,cr cv [.a (x.map .f),.a (y.map .f)]=aa (.fn F,b)/\Ev tab (.fn F) b H (vi (c x y)) (H++J)
section
variable{W:List FC->Prop}{c:List FC->List FC->Int}{l:List (List FC)}
theorem F5.of_lt{i j:Nat}(hc:ZP W c)(b:∀r∈l,W r){x y:List FC}(d:l[i]?=aa x)(hy:l[j]?=aa y)(h:c x y<0):F5 c l i j:=λg m h1 h2=>by
 rw[d]at h1;rw[hy]at h2;cases h1;cases h2;exact hc.asym (b _ (agU d)) (b _ (agU hy)) h
theorem F5.of_le{i j:Nat}{x y:List FC}(b:l[i]?=aa x)(hy:l[j]?=aa y)(h:¬ c y x<0):F5 c l i j:=λd g h1 h2=>by
 rw[b]at h1;rw[hy]at h2;cases h1;cases h2;exact h
theorem F5.get{b:List (List FC)}{i j d g:Nat}(h:F5 c l i j)(h1:b[d]?=l[i]?)(h2:b[g]?=l[j]?):F5 c b d g:=λx y m hy=>h x y (by rw[<-h1];exact m) (by rw[<-h2];exact hy)
def Ins(c:List FC->List FC->Int)(a i j:Nat)(l:List (List FC)):Prop:=∀p q,a<=p->p<q->q<=i->q≠j->F5 c l p q
theorem Ins.start{a i:Nat}(h:Up c a i l):Ins c a i i l:=λp q h1 h2 h3 h4=>λx y=>h p q x y h1 h2 ap
theorem Ins.step{a i j:Nat}(hc:ZP W c)(u:∀r∈l,W r)(h:Ins c a i (j+1) l)(v:a<=j)(A:j+1<=i)(hi:i<l.length){x y:List FC}(z:l[j+1]?=aa x)(hy:l[j]?=aa y)(m:c x y<0):Ins c a i j (swp l (j+1) j):=by
 intro p q h1 h2 h3 h4;have g:∀k,(swp l (j+1) j)[k]?=if k=j then l[j+1]? else if k=j+1 then l[j]? else l[k]?:=λk=>swp_get ap ap k;by_cases b:q=j+1
 .subst b;by_cases p1:p=j
  .subst p1;exact(F5.of_lt hc u z hy m).get (by rw[g,bZ rfl]) (by rw[g,ct ap,bZ rfl])
  .exact(h p j h1 ap ap ap).get (by rw[g,ct ap,ct ap]) (by rw[g,ct ap,bZ rfl])
 .have d:(swp l (j+1) j)[q]?=l[q]?:=by rw[g,ct h4,ct b]
  by_cases p1:p=j
  .subst p1;exact(h (p+1) q ap ap h3 b).get (by rw[g,bZ rfl]) d
  by_cases s:p=j+1
  .subst s;exact(h j q v ap h3 b).get (by rw[g,ct ap,bZ rfl]) d
  .exact(h p q h1 h2 h3 b).get (by rw[g,ct p1,ct s]) d
theorem Ins.front{a i:Nat}(h:Ins c a i a l):Up c a (i+1) l:=λp q x y h1 h2 h3=>h p q h1 h2 ap ap x y
theorem Ins.stop{a i j:Nat}(hc:ZP W c)(g:∀r∈l,W r)(h:Ins c a i (j+1) l)(m:a<=j)(s:j+1<=i)(hi:i<l.length)(b:F5 c l j (j+1)):Up c a (i+1) l:=by
 intro p q x y h1 h2 h3;by_cases d:q=j+1
 .subst d;by_cases p1:p=j
  .subst p1;exact b x y
  .exact((h p j h1 ap ap ap).trans hc g b ap) x y
 .exact h p q h1 h2 ap d x y
end
section
variable{tab:TB}{sz ins:Nat}{H:an}{b ep:Nat}{rows:List (List FC)}{cv:V}{W:List FC->Prop}{c:List FC->List FC->Int}
theorem RB.at(h:RB H b sz ep rows){i:Nat}(hi:i<rows.length):bG H sz ab (.c (.sl b 0 rows.length 0 ep sz)) (vi i)=aa (.c (.ptr b (i*sz) ep)):=by
 have:=h.idx (n:=rows.length) (c:=0) (k:=.i64) (o:=0) (i:=(i:Int)) ap ap;rwa[agD,ahg]at this
theorem RB.ldi(h:RB H b sz ep rows)(hg:cR sz rows){i:Nat}(hi:i<rows.length):aV H (aa sz) (.c (.ptr b (i*sz) ep))=aa (.a (rows[i].map .f)):=h.Z6 hg (By hi)
theorem Y2(hT:tab ins=aa (Vq sz))(d_:Cv tab cv W c)(hc:ZP W c){n a e:Nat}(hn:rows.length=n)(hl:n<=1000000000)(d:RB H b sz ep rows)(hg:cR sz rows)(hW:∀r∈rows,W r)(g_:a<=e)(h_:e<=n) :
  ∃r H',Ev tab (.fn ins) [.c (.sl b 0 n 0 ep sz),vi a,vi e,cv] H r H'/\(r=.t []/\Fm b H H'/\∃l',RB H' b sz ep l'/\F8 a e rows l'/\Up c a e l'):=by
 refine de hT rfl λQ hQ=>?_;apply ai;simp[aZ (n:=(a:Int)+1)];refine ay ?_;refine dc (λm s=>∃(i:Nat) (t:T) (X:an) (l:List (List FC)),s=⟨t,[],X⟩/\m=n+1-i/\a+1<=i/\(i<=e\/i=a+1)/\t.g 0=.c (.sl b 0 n 0 ep sz)/\t.g 1=vi a/\t.g 2=vi e/\t.g 3=cv/\t.g 8=vi i/\
  Fm b H X/\RB X b sz ep l/\F8 a e rows l/\Up c a i l) _
  ⟨a+1,_,H,rows,rfl,rfl,ap,.inr rfl,bv,bv,bv,bv,bv,Fm.refl H,d,F8.refl _ _ _,Up.one ap⟩ ?_
 rintro m s ⟨i,t,X,l,rfl,rfl,i6,hi,B,E,L,M,I,v,d,g,d9⟩ ih;have A:=g.len;apply au;apply ai;simp[I,L];by_cases c_:i<e
 case neg=>
  refine aD (by simp[c_]) ?_;refine bJ (k':=[]) rfl ?_;exact cX (hQ _ _ _ rfl rfl ⟨rfl,v,l,d,g,d9.mono (agn _) ap⟩)
 refine aw (by simp[c_]) (aR ?_);apply au;refine ay ?_;apply ai;simp[I];refine ay ?_;refine dc (λm s=>∃(j:Nat) (t:T) (S:an) (q:List (List FC)),s=⟨t,[],S⟩/\j=m/\a<=j/\j<=i/\t.g 0=.c (.sl b 0 n 0 ep sz)/\t.g 1=vi a/\t.g 2=vi e/\t.g 3=cv/\t.g 8=vi i/\t.g 9=vi j/\
  Fm b H S/\RB S b sz ep q/\F8 a e rows q/\Ins c a i j q) i
  ⟨i,_,X,l,rfl,rfl,ap,ap,by simp[B],by simp[E],by simp[L],by simp[M],by simp[I],bv,v,d,g,Ins.start d9⟩ ?_
 rintro m s ⟨j,t,S,q,rfl,rfl,i7,c9,B,E,L,M,I,Y,v,d,g,z⟩ f_;have A:=g.len;have x:=g.ae0 hg;have K:∀r∈q,W r:=λr hr=>hW r (g.1.mem_iff.1 hr);have stop:Up c a (i+1) q->∀t:T,t.g 0=.c (.sl b 0 n 0 ep sz)->t.g 1=vi a->t.g 2=vi e->t.g 3=cv->t.g 8=vi i->∀U,Fm b H U->RB U b sz ep q->
   WP tab ins ab [.inBlock 1,.code (Cf sz),.inLoop (IL sz),.inBlock 0] ⟨t,[],U⟩ Q:=by
  intro hp t B E L M I U v d;refine av (aq (.inl rfl) ?_);simp[I,aZ (n:=(i:Int)+1)];exact ih (n+1-(i+1)) _ ap ⟨i+1,_,U,q,rfl,rfl,ap,.inl ap,by simp[B],by simp[E],by simp[L],by simp[M],bv,v,d,g,hp⟩
 apply au;apply ai;by_cases hj:j=a
 .subst hj;simp[Y,E];refine aD bv ?_;refine bJ (k':=[.inBlock 1,.code (Cf sz),.inLoop (IL sz),.inBlock 0]) rfl ?_;exact stop z.front _ (by simp[B]) (by simp[E]) (by simp[L]) (by simp[M]) (by simp[I]) _ v d
 obtain⟨k,rfl⟩:∃k,j=k+1:=⟨j-1,ap⟩
 have O:k+1<q.length:=by omega
 have c1:((k+1:Nat):Int)=(k:Int)+1:=by omega
 have N:=d.at O;have i0:=d.at (show k<q.length by omega);have l1:=d.ldi x O;have l0:=d.ldi x (show k<q.length by omega);rw[A,hn]at N i0;rw[c1]at N Y;obtain⟨F,ar,J,a_,e_⟩:=d_ q[k+1] q[k] (K _ (IN _)) (K _ (IN _)) S;have he:=e_.eq;have gt:(a:Int)<(k:Int)+1:=by omega
 simp[Y,B,E,M,gt,N,i0,l1,l0,a_,he,-ax,aZ (n:=(k:Int))];by_cases y:c q[k+1] q[k]<0
 case neg=>
  refine aD (by simp[y]) ?_;refine bJ (k':=[.inBlock 1,.code (Cf sz),.inLoop (IL sz),.inBlock 0]) rfl ?_;exact stop (z.stop hc K ap c9 ap (F5.of_le (By ap) (By O) y)) _ (by simp[B]) (by simp[E]) (by simp[L]) (by simp[M]) (by simp[I]) _ (v.trans (Fm.push _ _)) (d.push _)
 refine aw (by simp[y]) (aR ?_);have w1:q[k+1].length=sz:=x _ (IN _);have w0:q[k].length=sz:=x _ (IN _);have u:=d.push J;obtain⟨HJ,Z⟩:=aI (S++J);rw[<-Z]at u ⊢;have b_:Fm b H HJ:=by rw[Z];exact v.trans (Fm.push _ _)
 have N:=u.at O;have i0:=u.at (show k<q.length by omega);have l1:=u.ldi x O;have l0:=u.ldi x (show k<q.length by omega);obtain⟨U,H4,s1,r1,s2,r2,f2⟩:=u.swap x O (show k<q.length by omega);have i2:=r1.at (show k<(q.set (k+1) q[k]).length by simp;omega);rw[List.length_set]at i2;rw[A,hn]at N i0 i2;rw[c1]at N;apply au;refine ay ?_;refine aq (.inl rfl) ?_;simp[Y,B,N,i0,i2,l1,l0,s1,s2,w1,w0,-ax,-bw,aZ (n:=(k:Int))];refine av ?_;refine aq (.inl rfl) ?_;simp[Y,aZ (n:=(k:Int))];exact f_ k _ ap ⟨k,_,H4,swp q (k+1) k,rfl,rfl,ap,ap,by simp[B],by simp[E],by simp[L],by simp[M],by simp[I],bv,b_.trans f2,r2,
  g.trans (UI ap ap ap ap ap),z.step hc K ap c9 ap (By O) (By ap) y⟩
theorem TY(d:tab ins=aa (Vq sz)){H:an}{v:V}:Ev tab (.fn ins) [v,vi 0,vi 0,cv] H (.t []) H:=by
 obtain⟨r,H',g,rfl,rfl⟩:∃r H',Ev tab (.fn ins) [v,vi 0,vi 0,cv] H r H'/\(r=.t []/\H'=H):=by
  refine de d rfl λQ b=>?_;apply ai;simp[aZ (n:=(1:Int))];refine ay ?_;refine dc (λ_ s=>s=⟨_,[],H⟩) 0 rfl ?_;rintro _ s rfl -;apply au;apply ai;simp;refine aD bv ?_;refine bJ (k':=[]) rfl ?_;exact cX (b _ _ _ rfl rfl ⟨rfl,rfl⟩)
 exact g
theorem I_{H':an}{F d len n:Nat}{rest:aE}(z:tab F=aa (ac6 d len))(A:tab d=aa (afc ins rest)){k:Int}(B:bg tab len [vu n]=Eq (vi k)){v:C}(E:bh H v=aa n)(I:n<=12)(m:Ev tab (.fn ins) [.c v,vi 0,vi n,cv] H (.t []) H'):Ev tab (.fn F) [.c v,cv] H (.t []) H':=by
 have u:IntKind.wrap .u64 (n:Int)=n:=by rw[ac'];omega
 have m:=m.eq;obtain⟨x,g,b,rfl,rfl⟩:∃x g,Ev tab (.fn d) [.c v,vi 0,vi n,vi k,cv] H x g/\(x=.t []/\g=H'):=by
  refine de A rfl λQ l=>?_;apply ai;simp;apply ai;simp;refine ay ?_;refine dc (λ_ s=>s=⟨_,[],H⟩) 0 rfl ?_;rintro _ s rfl -;refine ay ?_;apply ai;simp[aZ (n:=(n:Int))];apply au;apply ai;simp;refine aw ge ?_;apply ai;simp[m];exact az (l _ _ _ rfl rfl ⟨rfl,rfl⟩)
 have b:=b.eq;obtain⟨y,j,q,rfl,rfl⟩:∃y j,Ev tab (.fn F) [.c v,cv] H y j/\(y=.t []/\j=g):=by
  refine de z rfl λQ l=>?_;apply ai;simp[E];refine aq (.inl rfl) ?_;simp[u,B,b];exact cX (l _ _ (.t []) rfl rfl ⟨rfl,rfl⟩)
 exact q
end
theorem QY{tab:TB}{fn:Nat}{ro:Option Nat}{k:List dU}{s:St}{Q:Option aE->St->Prop}{a:aE}(h:WP tab fn ro (.code a::.inLoop a::k) s Q):WP tab fn ro (.code (.loop a)::k) s Q:=jK h λ_ _ _=>rfl
theorem Ord.cQ(l:List Int):cR 1 (ints l):=cR.map λ_=>rfl
end
section
set_option linter.unusedVariables false
open Go
def Kp(H H':an):Prop:=H.length<=H'.length/\∀b:Nat,b<H.length->H'[b]?=H[b]?
theorem Kp.push(H J:an):Kp H (H++J):=⟨bv,λb l=>AI l⟩
end
section
open Go
def LX(H:an)(c:C)(sz:Nat)(rows:List (List FC)):Prop:=(rows=[]/\(c=.f .aJ\/c=.f .es))\/(rows≠[]/\∃b ep fl,c=.sl b 0 rows.length 0 ep sz/\H[b]?=aa (.dj sz (rows.flatten.map .f) fl ep .loc))
section
variable{H H':an}{c c':C}{sz sz':Nat}{rows rows':List (List FC)}
theorem LR.x(h:LR H c sz rows):LX H c sz rows:=by
 rcases h with h|⟨h,b,ep,rfl,h2⟩
 .exact .inl h
 .exact .inr ⟨h,b,ep,0,rfl,h2⟩
theorem LX.bR(h:LX H c sz rows){i:Nat}{cs:List C}{fl:Nat}(d:H[i]?=aa (.box cs fl)):bf c≠aa i:=by
 rcases h with⟨_,rfl|rfl⟩|⟨h,b,ep,fl,rfl,h2⟩
 .simp[bf]
 .simp[bf]
 .intro e;cases e;simp_all
theorem LX.set(h:LX H c sz rows){i:Nat}(hi:bf c≠aa i)(x:bO):LX (H.set i x) c sz rows:=by
 rcases h with h|⟨h,b,ep,fl,rfl,h2⟩
 .exact .inl h
 .have:i≠b:=by rintro rfl;exact hi rfl
  exact .inr ⟨h,b,ep,fl,rfl,by rw[sh this];exact h2⟩
theorem LX.mkH(h:LX H c' sz' rows')(n:Nat):ef (n+1) c' H=H\/∃b ep fl fl',bf c'=aa b/\H[b]?=aa (.dj sz' (rows'.flatten.map .f) fl ep .loc)/\ef (n+1) c' H=H.set b (.dj sz' (rows'.flatten.map .f) fl' ep .loc):=by
 rcases h with⟨_,rfl|rfl⟩|⟨d,b,ep,fl,rfl,h2⟩
 .simp
 .simp
 .refine .inr ⟨b,ep,fl,Nat.max fl (0+rows'.length*sz'),rfl,h2,?_⟩;simp only[jL,h2];rw[ju]
  grind
theorem LX.mk(h:LX H c sz rows)(m:LX H c' sz' rows')(n:Nat):LX (ef (n+1) c' H) c sz rows:=by
 rcases m.mkH n with e|⟨j,l,fl',d,v,g,e⟩
 .simp_all
 .rw[e];rcases h with h|⟨h,b,ep,fl,rfl,h2⟩
  .exact .inl h
  .by_cases hb:j=b
   .subst hb;rw[h2]at g;injection g with g;injection g with q s x u y;subst q;rw[<-s,<-u];exact .inr ⟨h,j,ep,d,rfl,BY (aj h2)⟩
   .exact .inr ⟨h,b,ep,fl,rfl,by rw[sh hb];exact h2⟩
theorem LX.Eg(h:LX H c sz rows)(n:Nat){i:Nat}{cs:List C}{fl:Nat}(hi:H[i]?=aa (.box cs fl)):(ef (n+1) c H)[i]?=aa (.box cs fl):=by
 rcases h.mkH n with e|⟨g,d,fl',b,j,l,e⟩
 .simp_all
 .grind
theorem LX.ex(h:LX H c sz rows)(hg:cR sz rows):∃g,∀(H':an) (n:Nat),LX H' c sz rows->fh (n+1) H' c=aa (sl g rows):=by
 by_cases j:rows=[]
 .rcases h with⟨rfl,rfl|rfl⟩|⟨h,_⟩
  .exact⟨.nil,λ_ _ _=>rfl⟩
  .exact⟨.es,λ_ _ _=>rfl⟩
  .simp_all
 .refine⟨.fs,λH' n m=>?_⟩;rcases m with⟨e,_⟩|⟨d,b,ep,fl,rfl,h2⟩
  .simp_all
  .have hl:rows.length*sz=rows.flatten.length:=(cA hg).symm;simp only[gT,h2];rw[bZ ⟨trivial,trivial,by rw[agq,ahg,hl];exact agn _⟩,ahi,agw (by rw[agq];omega),lu];cases rows with
   |nil=>exact absurd rfl j| cons x l=>simp[sl]
end
end
end Km
