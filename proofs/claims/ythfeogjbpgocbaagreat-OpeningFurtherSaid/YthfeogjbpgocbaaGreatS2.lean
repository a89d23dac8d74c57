/-
  What the program's functions and the reference's answer, for all arguments of their kind, in the small machine: part 2.
-/
import Derived.Test.YthfeogjbpgocbaaGreatS1
import Derived.Test.YthfeogjbpgocbaaGreatK4
import Derived.Test.YthfeogjbpgocbaaGreatProg
import Derived.Test.YthfeogjbpgocbaaGreatTie
import Derived.Test.YthfeogjbpgocbaaGreatEv
open Nat renaming eq_zero_or_pos → cL, le_refl → aw, le_trans → bz
open List renaming length_eq_zero_iff → cn, getElem_mem → av, getElem?_eq_getElem → ae, getElem?_set_ne → ag, getElem?_set_self → ax, getElem?_append_left → ai, length_pos_iff → dT, getElem?_append_right → bB, map_cons → aR, map_nil → bj, getElem_of_mem → bk, mem_append → ba, length_map → a9, take_of_length_le → bA, mem_map → b7, foldl_cons → cS, getElem?_eq_none_iff → cC, mem_cons_self → aE, mem_cons_of_mem → a8, pairwise_append → cR, pairwise_singleton → cQ, append_assoc → c6, all_eq_true → aM, cons_append → cT, nil_append → cV
open Int renaming mul_ediv_add_emod → bN, emod_nonneg → b5, mul_comm → db, add_mul → dr, one_mul → dj, emod_lt_of_pos → cm, tmod_eq_emod_of_nonneg → dk, emod_eq_zero_of_dvd → dt, toNat_of_nonneg → dE
open Option renaming bind_some → bX
open Bool renaming and_eq_true → am
set_option linter.unusedVariables false
set_option linter.unusedSimpArgs false
set_option linter.unusedSectionVars false
set_option linter.unnecessarySimpa false
section
namespace Go.Proofs.YthfeogjbpgocbaaGreat
open Go Km
theorem OKZ.aJU{z:ZD}{o:List TrD}(h:OKZ z o){x:TrD}(hx:aft o (z.cyc*1440) z.hor=some x):0≤x.at_∧x.at_≤10000000:=by
 have hcy:=h.aAI
 have hho:=h.ho
 have o0:0<o.length:=by
  rcases cL o.length with e | e
  ·have:o=[]:=cn.1 e
   subst this;simp [aft,lJ]at hx
  ·exact e
 have hb0:=(h.bd _ (av o0)).1
 unfold AtB at hb0
 have hK:turns o (z.cyc*1440) z.hor=if o[0].at_<z.hor then(z.hor-o[0].at_) / (z.cyc*1440)else 0:=by unfold turns;rw [ae o0]
 have q0:=bN (z.hor-o[0].at_) (z.cyc*1440)
 have q1:=b5 (z.hor-o[0].at_) (show z.cyc*1440≠0 by omega)
 have hKs:turns o (z.cyc*1440) z.hor*(z.cyc*1440)≤2000000:=by
  rw [hK]
  split
  ·rw [db];omega
  ·omega
 have key:∀ k,k*(z.cyc*1440)≤4000000→lJ o (z.cyc*1440) z.hor k=some x→0≤x.at_∧x.at_≤10000000:=by
  intro k hk hx
  obtain⟨⟨y,hy,rfl⟩,h2,-⟩:=Am h.sp hx
  have:=(h.bd _ hy).1
  unfold AtB at this
  simp only at h2 ⊢
  omega
 unfold aft at hx
 cases h1:lJ o (z.cyc*1440) z.hor (turns o (z.cyc*1440) z.hor)with
 | some w=>
  rw [h1]at hx;simp at hx;subst hx
  exact key _ (by omega) h1
 | none=>
  rw [h1]at hx;simp at hx
  exact key _ (by rw [dr,dj];omega) hx
set_option maxRecDepth 100000 in
theorem UN{z:ZD}{o:List TrD}(h:OKZ z o)(g:Tg){Q:Option ah→St→Prop}
  (hQ:∀ j s r,r=.t [ckV z g o,vb true]→xP [.cell (P.nat 2) none,.cell (P.nat 3) none] r s∨aLe [.cell (P.nat 2) none,.cell (P.nat 3) none] r s→Q j s)
  (t:T) (J:Heap) (n8:Nat) (g1:t.g 1=.c (.ptr 0 0 0)) (g2:t.g 2=.c (.ptr 1 0 0)) (g3:t.g 3=.c (.ptr 2 0 0)) (g8:t.g 8=.c (.ptr n8 0 0))
  (x0:J[0]?=some (.box (z.row.map .f) 0)) (x1:J[1]?=some (.box [.f .kX] 0)) (x2:J[2]?=some (.box [.f (.bool false)] 0)) (x8:J[n8]?=some (.box [.f (.fp (ckR z g o) 0)] 0)) (h8:2<n8) :
  WP tab.get jr none [.code Fg] ⟨t,[],J⟩ Q:=by
 have hc:=h.c
 have fin:∀(t:T) (J:Heap) (ds:List fF),t.g 8=.c (.ptr n8 0 0)→t.g 2=.c (.ptr 1 0 0)→t.g 3=.c (.ptr 2 0 0) →
   J[1]?=some (.box [.f .kX] 0)→J[2]?=some (.box [.f (.bool false)] 0)→J[n8]?=some (.box [.f (.fp (ckR z g o) 0)] 0) →
   (ds=[]∨∃ b,ds=[.coll b]∧2<b∧J[b]?=some (.dfr true))→WP tab.get jr none [.code y9] ⟨t,ds,J⟩ Q:=by
  intro t J ds g8 g2 g3 x1 x2 x8 hds
  have q1:(J.set 1 (.box [.f (.fp (ckR z g o) 0)] 0))[2]?=some (.box [.f (.bool false)] 0):=by rw [ag (by decide)];exact x2
  refine ak (aj (.inl rfl) ?_)
  simp [g8,g2,g3,x8,x1,aS,q1,List.length_set]
  obtain⟨K,hK⟩:∃ K:Heap,K=(J.set 1 (.box [.f (.fp (ckR z g o) 0)] 0)).set 2 (.box [.f (.bool true)] 0):=⟨_,rfl⟩
  have l1:=aF x1
  have l2:=aF x2
  have k1:K[1]?=some (.box [.f (.fp (ckR z g o) 0)] 0):=by rw [hK,ag (by decide),ax l1]
  have k2:K[2]?=some (.box [.f (.bool true)] 0):=by rw [hK,ax (by simpa using l2)]
  rw [←hK]
  rcases hds with rfl | ⟨b,rfl,hb,hxb⟩
  ·refine aP (hQ _ _ _ rfl (.inl ⟨rfl,.t [.c (.f (.fp (ckR z g o) 0)),vb true],?_,?_⟩))
   ·simp [Km.results,dG,bC,g2,g3,k1,k2,aS]
   ·simp [exV,dN,bC]
  ·have kb:K[b]?=some (.dfr true):=by rw [hK,ag (by omega),ag (by omega)];exact hxb
   have r1:(K.set b (.dfr false))[1]?=some (.box [.f (.fp (ckR z g o) 0)] 0):=by rw [ag (by omega)];exact k1
   have r2:(K.set b (.dfr false))[2]?=some (.box [.f (.bool true)] 0):=by rw [ag (by omega)];exact k2
   refine aP (hQ _ _ _ rfl (.inr ⟨b,rfl,kb,.t [.c (.f (.fp (ckR z g o) 0)),vb true],?_,?_⟩))
   ·simp [Km.results,dG,bC,g2,g3,r1,r2,aS]
   ·simp [exV,dN,bC]
 refine ak ?_
 refine ak ?_
 refine aj (.inl rfl) ?_
 simp [g1,x0,jK x0 hc,-aH]
 obtain⟨J3,hJ3⟩:∃ J3:Heap,J3=J++[.box [.f (fi z.tr.length)] 0]:=⟨_,rfl⟩
 have up:∀ i y,J[i]?=some y→J3[i]?=some y:=fun i y hy=>by rw [hJ3,ai (aF hy)];exact hy
 have x10:J3[J.length]?=some (.box [.f (fi z.tr.length)] 0):=by rw [hJ3];simp
 have y0:=up _ _ x0
 have y1:=up _ _ x1
 have y2:=up _ _ x2
 have y8:=up _ _ x8
 have hn8:n8<J.length:=aF x8
 have hL3:J.length<J3.length:=by rw [hJ3];simp
 rw [←hJ3]
 refine ak (aj (.inl rfl) ?_)
 by_cases hn:z.tr=[]
 ·simp [x10,aS,hn]
  refine ay (by simp) (aG ?_)
  exact fin _ _ _ (by simp [g8]) (by simp [g2]) (by simp [g3]) y1 y2 y8 (.inl rfl)
 have hn0:0<z.tr.length:=dT.2 hn
 simp [x10,aS,hn,hn0]
 refine aB (by simp) ?_
 have hfr:=(aAs (.fp (ckR z g o) 0) z.hor J3).eq
 have l8:ldV J3 none (.c (.ptr n8 0 0))=some (ckV z g o):=by simp [ldV,aO,y8,aS]
 refine ak (aj (.inl rfl) ?_)
 simp [g1,g8,l8,pU y0 hc,-aH,hfr]
 obtain⟨J4,hJ4⟩:∃ J4:Heap,J4=J3++[.box [.f (.fp (ckR z g o) 0)] 0,.box [.f (fi z.hor)] 0]:=⟨_,rfl⟩
 rw [←hJ4]
 refine aN ?_
 have hL4:J4.length=J3.length+2:=by rw [hJ4];simp
 have stage:∀ t:T,t.g 1=.c (.ptr 0 0 0)→t.g 2=.c (.ptr 1 0 0)→t.g 3=.c (.ptr 2 0 0)→t.g 8=.c (.ptr n8 0 0)→t.g 10=.c (.ptr J.length 0 0) →
   t.g 158=.c (.cl sZ [.ptr J3.length 0 0,.ptr (J3.length+1) 0 0]) →
   WP tab.get jr none [.code (.iC (R 158) [P.nat 159] ji jh),.inBlock 4,.code y9] ⟨t,[],J4⟩ Q:=by
  intro t g1 g2 g3 g8 g10 aOA
  have up4:∀ i y,J3[i]?=some y→J4[i]?=some y:=fun i y hy=>by rw [hJ4,ai (aF hy)];exact hy
  obtain⟨L,hL⟩:∃ L,L=J4.length:=⟨_,rfl⟩
  obtain⟨H1,hH1⟩:∃ H1:Heap,H1=J4++[.dfr true,.lp jr t [P.nat 159] ji jh .ready none J4.length]:=⟨_,rfl⟩
  have up1:∀ i y,J3[i]?=some y→H1[i]?=some y:=fun i y hy=>by rw [hH1,ai (aF (up4 i y hy))];exact up4 i y hy
  have hbc:H1[J3.length]?=some (.box [.f (.fp (ckR z g o) 0)] 0):=by rw [hH1,ai (by omega),hJ4];simp
  have hbt:H1[J3.length+1]?=some (.box [.f (fi z.hor)] 0):=by rw [hH1,ai (by omega),hJ4];simp
  have hd:H1[L]?=some (.dfr true):=by rw [hH1,hL];simp
  have hlp:H1[L+1]?=some (.lp jr t [P.nat 159] ji jh .ready none L):=by rw [hH1,hL,bB (by omega),show J4.length+1-J4.length=1 by omega];rfl
  have w1:=up1 _ _ y1
  have w2:=up1 _ _ y2
  have w8:=up1 _ _ y8
  have w0:=up1 _ _ y0
  have w10:=up1 _ _ x10
  by_cases ho:o=[]
  ·obtain⟨r,H',he,rfl,hPP⟩:=Tf h g (b:=L+1) (bc:=J3.length) (bt:=J3.length+1) (H:=H1) (PP:=fun H'=>Keeps H1 H') hbc hbt (fun _ J hJ=>hJ) (fun x hx=>by subst ho;simp [aft,lJ]at hx)
   rw [hH1,hL]at he
   refine yD (g:=sZ) (by rw [aLc,aOA];simp [dw]) he ?_
   refine Kt (hPP _ _ (by rw [←hL];exact hlp)) (by decide) ?_
   refine aK ?_
   have hk:∀ i y,H1[i]?=some y→i≤L→(H'.set (J4.length+1) (.lp jr t [P.nat 159] ji jh .exhausted none L))[i]?=some y:=fun i y hy hi=>by
    rw [ag (by omega)];exact hPP _ _ hy
   exact fin _ _ _ g8 g2 g3 (hk _ _ w1 (by omega)) (hk _ _ w2 (by omega)) (hk _ _ w8 (by omega)) (.inr ⟨J4.length,rfl,by omega,hk _ _ (by rw [←hL];exact hd) (by omega)⟩)
  ·obtain⟨r,H',he,rfl,p1,p2,pL,f2,tm,ps,aa,bd,pl⟩:=Tf h g (b:=L+1) (bc:=J3.length) (bt:=J3.length+1) (H:=H1)
    (PP:=fun H'=>H'[1]?=some (.box [.f (.fp (ckR z g o) 0)] 0)∧H'[2]?=some (.box [.f (.bool true)] 0)∧H'[L]?=some (.dfr true)∧∃ f2 tm ps aa bd,H'[L+1]?=some (.lp f2 tm ps aa bd .done (some .ret) L)) hbc hbt (fun e=>absurd e ho) (fun x hx J' hJ'=>by
     have hxb:=h.aJU hx
     obtain⟨r,H',e,rfl,hPP⟩:=sJ (tab:=tab.get) (b:=L+1) (args:=[.a (x.row.map .f)]) (H:=J')
      (C:=fun r H'=>r=vb false∧H'[1]?=some (.box [.f (.fp (ckR z g o) 0)] 0)∧H'[2]?=some (.box [.f (.bool true)] 0)∧H'[L]?=some (.dfr true)∧∃ f2 tm ps aa bd,H'[L+1]?=some (.lp f2 tm ps aa bd .done (some .ret) L)) (hJ' _ _ hlp) rfl fun Q' hQ'=>by
       simp only [TrD.row]
       refine aj (.inr rfl) ?_
       simp
       refine Hl (by rw [ai (aF (hJ' _ _ hlp))];exact hJ' _ _ hlp) ?_
       obtain⟨M,hM⟩:∃ M:Heap,M=(J'++[Blk.box [.f (fi x.at_),.f (fi x.off)] 0]).set (L+1) (.lp jr t [P.nat 159] ji jh .busy none L):=⟨_,rfl⟩
       rw [←hM]
       have hlJ:=aF (hJ' _ _ hlp)
       have upM:∀ i y,H1[i]?=some y→i≠L+1→M[i]?=some y:=fun i y hy hi=>by
        rw [hM,ag (by omega),ai (aF (hJ' _ _ hy))];exact hJ' _ _ hy
       have m0:=upM _ _ w0 (by omega)
       have m1:=upM _ _ w1 (by omega)
       have m2:=upM _ _ w2 (by omega)
       have m8:=upM _ _ w8 (by omega)
       have m10:=upM _ _ w10 (by omega)
       have mL:=upM _ _ hd (by omega)
       have mb:M[L+1]?=some (.lp jr t [P.nat 159] ji jh .busy none L):=by rw [hM,ax (by simp;omega)]
       have mx:M[J'.length]?=some (.box [.f (fi x.at_),.f (fi x.off)] 0):=by rw [hM,ag (by omega)];simp
       have lM:ldV M none (.c (.ptr n8 0 0))=some (ckV z g o):=by simp [ldV,aO,m8,aS]
       have lx:ldV M none (.c (.ptr J'.length 0 0))=some (vi x.at_):=by simp [ldV,aO,mx,aS]
       have l10:ldV M none (.c (.ptr J.length 0 0))=some (vi z.tr.length):=by simp [ldV,aO,m10,aS]
       have hk:=z.tr.length-1
       have ii:=kJ (g:=z.tg) M (show z.tr.length-1<z.tr.length by omega)
       have il:=AY M (show z.tr.length-1<z.tr.length by omega)
       have hla:=h.tb _ (av (show z.tr.length-1<z.tr.length by omega))
       have hho:=h.ho
       have e1:IntKind.i64.wrap ((z.tr.length:Int)-1)=((z.tr.length-1:Nat):Int):=by rw [wrap64 (by omega) (by have:=h.tl;omega)];omega
       have e2:IntKind.i64.wrap (x.at_-z.tr[z.tr.length-1].at_)=x.at_-z.tr[z.tr.length-1].at_:=wrap64 (by omega) (by omega)
       have e3:(2160:Int)≤x.at_-z.tr[z.tr.length-1].at_:=by
        rcases h.y with⟨-,e⟩ | ⟨r,q,e,-,-,-,-,ha⟩
        ·exact absurd e ho
        ·have hcy:z.cyc=cyc z.c:=by simp [ZD.cyc,e]
         have:=ha x _ (by rw [←hcy];exact hx) (av (show z.tr.length-1<z.tr.length by omega))
         omega
       have s1:stC M (.ptr 1 0 0) [.f (.fp (ckR z g o) 0)]=some (M.set 1 (.box [.f (.fp (ckR z g o) 0)] 0)):=by simp [stC,m1,over]
       have q1:(M.set 1 (.box [.f (.fp (ckR z g o) 0)] 0))[2]?=some (.box [.f (.bool false)] 0):=by rw [ag (by decide)];exact m2
       have s2:stC (M.set 1 (.box [.f (.fp (ckR z g o) 0)] 0)) (.ptr 2 0 0) [.f (.bool true)]=some ((M.set 1 (.box [.f (.fp (ckR z g o) 0)] 0)).set 2 (.box [.f (.bool true)] 0)):=by simp [stC,q1,over]
       have n0:(M.set 1 (.box [.f (.fp (ckR z g o) 0)] 0))[0]?=some (.box (z.row.map .f) 0):=by rw [ag (by decide)];exact m0
       have nx:ldV (M.set 1 (.box [.f (.fp (ckR z g o) 0)] 0)) none (.c (.ptr J'.length 0 0))=some (vi x.at_):=by
        simp [ldV,aO,ag (show 1≠J'.length by omega),mx,aS]
       have n10:ldV (M.set 1 (.box [.f (.fp (ckR z g o) 0)] 0)) none (.c (.ptr J.length 0 0))=some (vi z.tr.length):=by
        simp [ldV,aO,ag (show 1≠J.length by omega),m10,aS]
       have ii':=kJ (g:=z.tg) (M.set 1 (.box [.f (.fp (ckR z g o) 0)] 0)) (show z.tr.length-1<z.tr.length by omega)
       have il':=AY (M.set 1 (.box [.f (.fp (ckR z g o) 0)] 0)) (show z.tr.length-1<z.tr.length by omega)
       refine aN ?_
       refine ak (ny (.inr rfl) ?_ ?_)
       case refine_2=>
        intro c hcm
        have hcc:c=(2,13)∨c=(4,13)∨c=(5,13)∨c=(7,13)∨c=(9,13):=by simpa using hcm
        rcases hcc with rfl | rfl | rfl | rfl | rfl
        all_goals
         refine⟨by decide,_,rfl,.inl ⟨by decide,?_⟩⟩
         simp [g1,g2,g3,g8,g10,lM,lx,l10,jK m0 hc,ii,il,e1,e2,e3,s1,s2,sS,nx,n10,jK n0 hc,ii',il',-aH,-bI]
         first | rfl | exact ak7 z.tg z.tr | exact sO (vZ z.tr) | simp [V.beq,C.beq,FC.beq,sO (vZ z.tr)]
       simp [g1,g2,g3,g8,g10,lM,lx,l10,jK m0 hc,ii,il,e1,e2,e3,s1,s2,-aH,-bI]
       have kb:((M.set 1 (.box [.f (.fp (ckR z g o) 0)] 0)).set 2 (.box [.f (.bool true)] 0))[L+1]?=some (.lp jr t [P.nat 159] ji jh .busy none L):=by rw [ag (by omega),ag (by omega)];exact mb
       refine aP (hQ' _ _ _ _ _ _ _ _ _ _ rfl kb ⟨rfl,?_,?_,?_,jr,t,[P.nat 159],ji,jh,?_⟩)
       ·simp only
        rw [ag (by omega),ag (by decide),ax (aF m1)]
       ·simp only
        rw [ag (by omega),ax (aF q1)]
       ·simp only
        rw [ag (by omega),ag (by omega),ag (by omega)];exact mL
       ·exact ax (aF kb)
     exact⟨H',e,hPP⟩)
   rw [hH1,hL]at he
   refine yD (g:=sZ) (by rw [aLc,aOA];simp [dw]) he ?_
   rw [←hL]
   refine wU pl (by decide) ?_
   have hk:∀ i,i<L+1→(H'.set (L+1) (.lp f2 tm ps aa bd .exhausted (some .ret) L))[i]?=H'[i]?:=fun i hi=>ag (by omega)
   refine aP (hQ _ _ _ rfl (.inr ⟨L,rfl,by rw [hk _ (by omega)];exact pL,.t [.c (.f (.fp (ckR z g o) 0)),vb true],?_,by simp [exV,dN,bC]⟩))
   have q1:((H'.set (L+1) (.lp f2 tm ps aa bd .exhausted (some .ret) L)).set L (.dfr false))[1]?=some (.box [.f (.fp (ckR z g o) 0)] 0):=by rw [ag (by omega),hk _ (by omega)];exact p1
   have q2:((H'.set (L+1) (.lp f2 tm ps aa bd .exhausted (some .ret) L)).set L (.dfr false))[2]?=some (.box [.f (.bool true)] 0):=by rw [ag (by omega),hk _ (by omega)];exact p2
   simp [Km.results,dG,bC,g2,g3,q1,q2,aS]
 exact stage _ (by simp [g1]) (by simp [g2]) (by simp [g3]) (by simp [g8]) (by simp) (by simp)
end Go.Proofs.YthfeogjbpgocbaaGreat
end
section
namespace Go.Proofs.YthfeogjbpgocbaaGreat
open Go Km
set_option maxRecDepth 100000 in
theorem Sl{z:ZD}{o:List TrD}(h:OKZ z o):∃ g,Km.Pure tab.get jr [z.v]=Eq (.t [ckV z g o,vb true]):=by
 obtain⟨g,aN8⟩:=h.tick
 refine⟨g,?_⟩
 obtain⟨rr,rfl,hp⟩:∃ rr,rr=.t [ckV z g o,vb true]∧Km.Pure tab.get jr [z.v] rr:=by
  have hc:=h.c
  have hst:=h.st
  have hho:=h.ho
  have htl:=h.tl
  refine JF aJ3 rfl fun Q hQ=>?_
  refine ak (aj (.inl rfl) ?_)
  simp
  obtain⟨H0,hH0⟩:∃ H0:Heap,H0=[.box (z.row.map .f) 0,.box [.f .kX] 0,.box [.f (.bool false)] 0]:=⟨_,rfl⟩
  rw [←hH0]
  have z0:H0[0]?=some (.box (z.row.map .f) 0):=by rw [hH0];rfl
  have z1:H0[1]?=some (.box [.f .kX] 0):=by rw [hH0];rfl
  have z2:H0[2]?=some (.box [.f (.bool false)] 0):=by rw [hH0];rfl
  have hl0:H0.length=3:=by rw [hH0];rfl
  refine ak ?_
  refine ak (aj (.inl rfl) ?_)
  simp [jK z0 hc,nR z0 hc,akj z0 hc,pU z0 hc,-aH,DN hc,DX (n:=z.start) (m:=1080) (by decide) (by decide) hst.1 hst.2,DX (n:=z.hor) (m:=2251799813685248) (by decide) (by decide) (by omega) (by omega),show¬ 512<(z.tr.length:Int) by omega]
  refine ay (by simp) (aG ?_)
  refine ak ?_
  refine ak (aj (.inl rfl) ?_)
  simp [jK z0 hc,-aH]
  refine jo z.tr.length (fun j t J=>Keeps H0 J∧t.g 1=.c (.ptr 0 0 0)∧t.g 2=.c (.ptr 1 0 0)∧t.g 3=.c (.ptr 2 0 0)∧t.g 35=.c (.f (sl z.tg (aT z.tr)))) (by omega) (by decide) (by decide) (by simp) (by simp)
   ⟨Keeps.refl _,by simp,by simp,by simp,by simp⟩ ?_ ?_
  ·rintro j t J hj ⟨hJ,g1,g2,g3,g35⟩ ha hb nx
   have hii:=kJ (g:=z.tg) J hj
   have hll:=yj J hj
   simp only [TrD.row,aR,bj]at hll
   have hx:=h.tb _ (av hj)
   obtain⟨J1,hJ1⟩:∃ J1:Heap,J1=J++[.box (z.tr[j].row.map .f) 0]:=⟨_,rfl⟩
   have e1:Keeps H0 J1:=by rw [hJ1];exact hJ.push _
   have eb:J1[J.length]?=some (.box [.f (fi z.tr[j].at_),.f (fi z.tr[j].off)] 0):=by rw [hJ1];simp [TrD.row]
   have y0:=e1 _ _ z0
   simp only [TrD.row,aR,bj]at hJ1
   refine aN ?_
   refine ak (aj (.inl rfl) ?_)
   simp [g35,ha,hii,hll]
   rw [←hJ1]
   have la:ldV J1 none (.c (.ptr J.length 0 0))=some (vi z.tr[j].at_):=by simp [ldV,aO,eb,aS]
   have lo:ldV J1 none (.c (.ptr J.length 1 0))=some (vi z.tr[j].off):=by simp [ldV,aO,eb,aS]
   have wo:=DX (n:=z.tr[j].off) (m:=1080) (by decide) (by decide) hx.2.2.1 hx.2.2.2
   have wa:=DX (n:=z.tr[j].at_) (m:=2251799813685248) (by decide) (by decide) (by omega) (by omega)
   refine ak (aj (.inl rfl) ?_)
   by_cases hj0:j=0
   ·subst hj0
    simp [g1,la,lo,wo,wa,pU y0 hc,-aH,show¬ z.hor≤z.tr[0].at_ by omega]
    refine ay (by simp) (aG (aK ?_))
    exact nx _ _ ⟨e1,by simp [g1],by simp [g2],by simp [g3],by simp [g35]⟩ (by simp [ha]) (by simp [hb])
   ·obtain⟨k,rfl⟩:∃ k,j=k+1:=⟨j-1,by omega⟩
    have hik:=kJ (g:=z.tg) J1 (show k<z.tr.length by omega)
    have hlk:=AY J1 (show k<z.tr.length by omega)
    have hs:=h.ts k _ _ (ae (by omega)) (ae hj)
    have hx':=h.tb _ (av (show k<z.tr.length by omega))
    have wk:IntKind.i64.wrap (k:Nat)=(k:Nat):=wrap64 (by omega) (by omega)
    have wd:IntKind.i64.wrap (z.tr[k+1].at_-z.tr[k].at_)=z.tr[k+1].at_-z.tr[k].at_:=wrap64 (by omega) (by omega)
    simp [g1,la,lo,wo,wa,pU y0 hc,jK y0 hc,-aH,show¬ z.hor≤z.tr[k+1].at_ by omega,wk,hik,hlk,wd,show¬ z.tr[k+1].at_-z.tr[k].at_<2160 by omega,show(0:Int)<(k:Int)+1 by omega]
    refine ay (by simp) (aG (aK ?_))
    exact nx _ _ ⟨e1,by simp [g1],by simp [g2],by simp [g3],by simp [g35]⟩ (by simp [ha]) (by simp [hb])
  clear hH0
  rintro t J ⟨hJ,g1,g2,g3,g35⟩ ha hb
  have y0:=hJ _ _ z0
  have hyl:z.yr.length=0∨z.yr.length=2:=by
   rcases h.y with⟨e,-⟩ | ⟨r,q,e,-⟩
   ·left;rw [e];rfl
   ·right;rw [e];rfl
  have hyo:∀ x ∈ z.yr,x.OK:=by
   rcases h.y with⟨e,-⟩ | ⟨r,q,e,hr,hq,-⟩
   ·rw [e];intro x hx;cases hx
   ·rw [e];intro x hx
    simp at hx
    rcases hx with rfl | rfl
    ·exact hr
    ·exact hq
  have mid:∀(t:T) (J:Heap),Keeps H0 J→t.g 1=.c (.ptr 0 0 0)→t.g 2=.c (.ptr 1 0 0)→t.g 3=.c (.ptr 2 0 0)→WP tab.get jr none [.code Fh] ⟨t,[],J⟩ Q:=by
   clear g1 g2 g3 g35 ha hb y0 hJ
   intro t J hJ g1 g2 g3
   have y0:=hJ _ _ z0
   refine ak ?_
   refine ak (aj (.inl rfl) ?_)
   simp [g1,kM y0 hc,-aH]
   refine jo z.yr.length (fun j t J=>Keeps H0 J∧t.g 1=.c (.ptr 0 0 0)∧t.g 2=.c (.ptr 1 0 0)∧t.g 3=.c (.ptr 2 0 0)∧t.g 88=.c (.f (sl z.yg (bT z.yr)))) (by omega) (by decide) (by decide) (by simp) (by simp)
    ⟨hJ,by simp [g1],by simp [g2],by simp [g3],by simp⟩ ?_ ?_
   ·clear hJ g1 g2 g3 y0
    rintro j t J hj ⟨hJ,g1,g2,g3,g88⟩ ha hb nx
    have hii:aU J 5 none (.c (.f (sl z.yg (bT z.yr)))) (vi j)=some (.c (.f (.fp (bT z.yr).flatten (j*5)))):=by
     have:=gX (H:=J) (g:=z.yg) (rows:=bT z.yr) (sz:=5) (k:=.i64) (i:=(j:Int)) (by omega) (by simp;omega)
     simpa using this
    have hll:ldV J (some 5) (.c (.f (.fp (bT z.yr).flatten (j*5))))=some (.a (z.yr[j].row.map .f)):=jd (nM z.yr) (DU hj)
    have hx:=hyo _ (av hj)
    obtain⟨J1,hJ1⟩:∃ J1:Heap,J1=J++[.box (z.yr[j].row.map .f) 0]:=⟨_,rfl⟩
    have e1:Keeps H0 J1:=by rw [hJ1];exact hJ.push _
    have eb:J1[J.length]?=some (.box (z.yr[j].row.map .f) 0):=by rw [hJ1];simp
    have y0:=e1 _ _ z0
    have l0:ldV J1 none (.c (.ptr J.length 0 0))=some (vi z.yr[j].mo):=by simp [ldV,aO,eb,aS,YrD.row]
    have l1:ldV J1 none (.c (.ptr J.length 1 0))=some (vi z.yr[j].wk):=by simp [ldV,aO,eb,aS,YrD.row]
    have l2:ldV J1 none (.c (.ptr J.length 2 0))=some (vi z.yr[j].wd):=by simp [ldV,aO,eb,aS,YrD.row]
    have l3:ldV J1 none (.c (.ptr J.length 3 0))=some (vi z.yr[j].mi):=by simp [ldV,aO,eb,aS,YrD.row]
    have l4:ldV J1 none (.c (.ptr J.length 4 0))=some (vi z.yr[j].off):=by simp [ldV,aO,eb,aS,YrD.row]
    obtain⟨cs,lm⟩:=akk y0 hc
    simp only [YrD.row,aR,bj]at hJ1 hll
    refine aN ?_
    refine ak (aj (.inl rfl) ?_)
    simp [g88,ha,hii,hll]
    rw [←hJ1]
    have wo:=DX (n:=z.yr[j].off) (m:=1080) (by decide) (by decide) hx.of0 hx.of
    refine ak (aj (.inl rfl) ?_)
    have hsl:bM J1 (.f (.fs cs 2))=some 2:=rfl
    have f1:¬ z.yr[j].mo<1:=by have:=hx.mo;omega
    have f2:¬ 2<z.yr[j].mo:=by have:=hx.mo;omega
    have f3:¬ z.yr[j].wk<1:=by have:=hx.wk;omega
    have f4:¬ 5<z.yr[j].wk:=by have:=hx.wk;omega
    have f5:¬ z.yr[j].wd<0:=by have:=hx.wd0;omega
    have f6:¬ 6<z.yr[j].wd:=by have:=hx.wd;omega
    have f7:¬ z.yr[j].mi<0:=by have:=hx.mi0;omega
    have f8:¬ 1440≤z.yr[j].mi:=by have:=hx.mi;omega
    simp [g1,l0,l1,l2,l3,l4,lm,wo,-aH,f1,f2,f3,f4,f5,f6,f7,f8,hsl]
    refine ay (by simp) (aG (aK ?_))
    exact nx _ _ ⟨e1,by simp [g1],by simp [g2],by simp [g3],by simp [g88]⟩ (by simp [ha]) (by simp [hb])
   ·clear hJ g1 g2 g3 y0
    rintro t J ⟨hJ,g1,g2,g3,g88⟩ ha hb
    have y0:=hJ _ _ z0
    refine ak (aj (.inl rfl) ?_)
    simp [g1,kR y0 hc,-aH,aN8]
    obtain⟨J2,hJ2⟩:∃ J2:Heap,J2=J++[.box [.f (.fp (ckR z g o) 0)] 0]:=⟨_,rfl⟩
    rw [←hJ2]
    have e2:Keeps H0 J2:=by rw [hJ2];exact hJ.push _
    have hl:=aF (hJ _ _ z2)
    refine ak ?_
    refine ak ?_
    refine aj (.inl rfl) ?_
    simp
    refine ay (by simp) (aG ?_)
    refine UN h g (fun j s r hr hf=>hQ j s r hr hf) _ J2 J.length (by simp [g1]) (by simp [g2]) (by simp [g3]) (by simp) (e2 _ _ z0) (e2 _ _ z1) (e2 _ _ z2) (by rw [hJ2];simp) hl
  refine ak ?_
  refine ak (aj (.inl rfl) ?_)
  rcases hyl with hyl | hyl
  ·simp [g1,kM y0 hc,-aH,hyl]
   refine ay (by simp) (aG ?_)
   exact mid _ _ hJ (by simp [g1]) (by simp [g2]) (by simp [g3])
  ·simp [g1,kM y0 hc,-aH,hyl]
   refine ay (by simp) (aG ?_)
   exact mid _ _ hJ (by simp [g1]) (by simp [g2]) (by simp [g3])
 exact hp.eq
end Go.Proofs.YthfeogjbpgocbaaGreat
end
section
namespace Go.Proofs.YthfeogjbpgocbaaGreat
open Go Km
end Go.Proofs.YthfeogjbpgocbaaGreat
end
section
namespace Go.Proofs.YthfeogjbpgocbaaGreat
open Go Km
set_option maxRecDepth 100000 in
theorem TY{z:ZD}{o:List TrD}(h:OKZ z o):Km.Pure tab.get OV [z.v]=Eq (vi 0):=Km.Pure.eq (by
 obtain⟨g,hop⟩:=Sl h
 have hc:=h.c
 have htl:=h.tl
 refine cu aKa rfl fun Q hQ=>?_
 refine ak (aj (.inl rfl) ?_)
 simp
 obtain⟨H0,hH0⟩:∃ H0:Heap,H0=[.box (z.row.map .f) 0]:=⟨_,rfl⟩
 rw [←hH0]
 have z0:H0[0]?=some (.box (z.row.map .f) 0):=by rw [hH0];rfl
 refine ak (ak (aj (.inl rfl) ?_))
 simp [jK z0 hc,-aH,show¬ 512<(z.tr.length:Int) by omega]
 refine ay (by simp) (aG (ak ?_))
 refine ak (aj (.inl rfl) ?_)
 simp [kR z0 hc,-aH,hop]
 refine ak (aj (.inl rfl) ?_)
 simp
 refine ay (by simp) (aG ?_)
 refine ak (aj (.inl rfl) ?_)
 simp
 refine aP (hQ _ _ ?_)
 simp)
set_option maxRecDepth 100000 in
theorem Np{z:ZD}{o:List TrD}(h:OKZ z o){t:Int}(t0:-10000000≤t)(t1:t≤10000000) :
  ∃ r:Option TrD,Last h.S t r∧Km.Pure tab.get OW [z.v,vi t]=Eq (.t [vi (offO z r),vi 0]):=by
 obtain⟨g,hop⟩:=Sl h
 obtain⟨r,hr,hoff⟩:=UO h g t0 t1
 refine⟨r,hr,Km.Pure.eq ?_⟩
 have hc:=h.c
 refine cu aKb rfl fun Q hQ=>?_
 refine ak (aj (.inl rfl) ?_)
 simp
 obtain⟨H0,hH0⟩:∃ H0:Heap,H0=[.box (z.row.map .f) 0]:=⟨_,rfl⟩
 rw [←hH0]
 have z0:H0[0]?=some (.box (z.row.map .f) 0):=by rw [hH0];rfl
 refine ak (aj (.inl rfl) ?_)
 simp [kR z0 hc,-aH,hop]
 refine ak (ak (aj (.inl rfl) ?_))
 simp [DX (n:=t) (m:=2251799813685248) (by decide) (by decide) (by omega) (by omega)]
 refine ay (by simp) (aG ?_)
 refine ak (aj (.inl rfl) ?_)
 simp [hoff]
 refine aP (hQ _ _ ?_)
 simp
set_option maxRecDepth 100000 in
theorem U8{z:ZD}{o:List TrD}(h:OKZ z o){t:Int}(t0:-10000000≤t)(t1:t≤10000000) :
  ∃ r:Option TrD,Last h.S t r∧Km.Pure tab.get OX [z.v,vi t]=Eq (.t [vi (t+offO z r),vi 0]):=by
 obtain⟨r,hr,hoff⟩:=Np h t0 t1
 refine⟨r,hr,Km.Pure.eq ?_⟩
 have hc:=h.c
 have hb:=h.offO hr
 refine cu aKc rfl fun Q hQ=>?_
 refine ak (aj (.inl rfl) ?_)
 simp
 obtain⟨H0,hH0⟩:∃ H0:Heap,H0=[.box (z.row.map .f) 0]:=⟨_,rfl⟩
 rw [←hH0]
 have z0:H0[0]?=some (.box (z.row.map .f) 0):=by rw [hH0];rfl
 refine ak (aj (.inl rfl) ?_)
 simp [kR z0 hc,-aH,hoff]
 refine ak (ak (aj (.inl rfl) ?_))
 simp
 refine ay (by simp) (aG ?_)
 refine ak (aj (.inl rfl) ?_)
 simp [wrap64 (n:=t+Go.Proofs.YthfeogjbpgocbaaGreat.offO z r) (by omega) (by omega)]
 refine aP (hQ _ _ ?_)
 simp
end Go.Proofs.YthfeogjbpgocbaaGreat
end
section
namespace Go.Proofs.YthfeogjbpgocbaaGreat
open Go Km
end Go.Proofs.YthfeogjbpgocbaaGreat
end
section
namespace Go.Proofs.YthfeogjbpgocbaaGreat
open Go Km
structure aAV(z:ZD):Prop where
 c:z.c<3
 st:-1080≤z.start∧z.start≤1080
 tl:z.tr.length≤3
 tb:∀ x ∈ z.tr,0≤x.at_∧x.at_<z.hor∧-1080≤x.off∧x.off≤1080
 ts:∀(i:Nat) x y,z.tr[i]?=some x→z.tr[i+1]?=some y→x.at_+2160≤y.at_
 ho:0≤z.hor∧z.hor≤40000
theorem aAV.none{z:ZD}(h:aAV z)(e:z.yr=[]):OKZ z []:=⟨h.c,h.st,h.tl,h.tb,h.ts,h.ho,.inl ⟨e,rfl⟩⟩
theorem aAS{o:List TrD}{size t:Int}(hb:∀ x ∈ o,AtB x)(hs:eU o size=true)(s0:1≤size)(s1:size≤400000)(t0:0≤t)(t1:t≤40000){x:TrD}(hx:aft o size t=some x):0≤x.at_∧x.at_≤10000000:=by
 have o0:0<o.length:=by
  rcases cL o.length with e | e
  ·have:o=[]:=cn.1 e
   subst this;simp [aft,lJ]at hx
  ·exact e
 have hb0:=hb _ (av o0)
 unfold AtB at hb0
 have hK:turns o size t=if o[0].at_<t then(t-o[0].at_) / size else 0:=by unfold turns;rw [ae o0]
 have q0:=bN (t-o[0].at_) size
 have q1:=b5 (t-o[0].at_) (show size≠0 by omega)
 have hKs:turns o size t*size≤2000000:=by
  rw [hK]
  split
  ·rw [db];omega
  ·omega
 have key:∀ k,k*size≤4000000→lJ o size t k=some x→0≤x.at_∧x.at_≤10000000:=by
  intro k hk hx
  obtain⟨⟨y,hy,rfl⟩,h2,-⟩:=Am hs hx
  have:=hb _ hy
  unfold AtB at this
  simp only at h2 ⊢
  omega
 unfold aft at hx
 cases h1:lJ o size t (turns o size t)with
 | some w=>
  rw [h1]at hx;simp at hx;subst hx
  exact key _ (by omega) h1
 | none=>
  rw [h1]at hx;simp at hx
  exact key _ (by rw [dr,dj];omega) hx
set_option maxRecDepth 100000 in
theorem OC(g:Tg)(n t:Int):Km.Pure tab.get yZ [.c (.f (sl g (aT []))),vi n,vi t]=Eq (.t [.a [.f (fi 0),.f (fi 0)],vb false]):=Km.Pure.eq (by
 refine cu alr rfl fun Q hQ=>?_
 refine ak (aj (.inl rfl) ?_)
 simp
 refine ak ?_
 refine ak (aj (.inl rfl) ?_)
 have hsl:∀ H:Heap,bM H (.f (sl g (aT [])))=some 0:=fun H=>by simpa using akh (H:=H) g (aT [])
 simp [hsl]
 refine aB (by simp) ?_
 refine ak (aj (.inl rfl) ?_)
 simp
 refine aP (hQ _ _ ?_)
 simp)
set_option maxRecDepth 100000 in
theorem L8{z:ZD}(h:aAV z){r q:YrD}(hz:z.yr=[r,q])(hr:r.OK)(hq:q.OK) :
  ∃ e:Int,Km.Pure tab.get Dp [z.v]=Eq (vi e)∧(e=0→∃ o,OKZ z o):=by
 obtain⟨rr,⟨e,he,rfl⟩,hp⟩:∃ rr,(∃ e:Int,(e=0→∃ o,OKZ z o)∧rr=vi e)∧Km.Pure tab.get Dp [z.v] rr:=by
  have hc:=h.c
  have hst:=h.st
  have hho:=h.ho
  have htl:=h.tl
  have hcy:z.cyc=cyc z.c:=by simp [ZD.cyc,hz]
  have hyl:z.yr.length=2:=by rw [hz];rfl
  have hyo:∀ x ∈ z.yr,x.OK:=by
   rw [hz];intro x hx
   simp at hx
   rcases hx with rfl | rfl
   ·exact hr
   ·exact hq
  obtain⟨g,o,ho,hyp⟩:=I5 z hc hz hr hq
  have hcp:=zK z hc
  refine iM aK3 rfl fun Q hQ=>?_
  refine ak (aj (.inl rfl) ?_)
  simp
  obtain⟨H0,hH0⟩:∃ H0:Heap,H0=[.box (z.row.map .f) 0]:=⟨_,rfl⟩
  rw [←hH0]
  have z0:H0[0]?=some (.box (z.row.map .f) 0):=by rw [hH0];rfl
  clear hH0
  refine ak (ak (aj (.inl rfl) ?_))
  simp [jK z0 hc,-aH,show¬ 512<(z.tr.length:Int) by omega]
  refine ay (by simp) (aG ?_)
  refine ak (ak (aj (.inl rfl) ?_))
  simp [nR z0 hc,akj z0 hc,pU z0 hc,kM z0 hc,-aH,Ua hc,Aw (n:=z.start) (m:=1080) (by decide) (by decide) hst.1 hst.2,Aw (n:=z.hor) (m:=2251799813685248) (by decide) (by decide) (by omega) (by omega),hyl]
  refine ay (by simp) (aG ?_)
  refine ak (ak (aj (.inl rfl) ?_))
  simp
  refine kS (H:=H0) z.tr.length (fun j t J=>J[0]?=some (.box (z.row.map .f) 0)∧t.g 1=.c (.ptr 0 0 0)) (by omega) (by decide) (by simp) ⟨z0,by simp⟩ ?_ ?_ ?_
  ·rintro j t J L hj ⟨y0,g1⟩ ha hn
   simp [g1,ha,jK y0 hc,-aH]
   exact hn _ ⟨y0,by simp [g1]⟩ (by simp [ha]) (by simp)
  ·rintro j t J hj ⟨y0,g1⟩ ha nx
   have hii:=kJ (g:=z.tg) J hj
   have hll:=yj J hj
   simp only [TrD.row,aR,bj]at hll
   have hx:=h.tb _ (av hj)
   obtain⟨J1,hJ1⟩:∃ J1:Heap,J1=J++[.box [.f (fi z.tr[j].at_),.f (fi z.tr[j].off)] 0]:=⟨_,rfl⟩
   have eb:J1[J.length]?=some (.box [.f (fi z.tr[j].at_),.f (fi z.tr[j].off)] 0):=by rw [hJ1];simp
   have y1:J1[0]?=some (.box (z.row.map .f) 0):=by rw [hJ1,ai (aF y0)];exact y0
   refine aN ?_
   refine ak (aj (.inl rfl) ?_)
   simp [g1,ha,hii,hll,jK y0 hc,-aH]
   rw [←hJ1]
   have la:ldV J1 none (.c (.ptr J.length 0 0))=some (vi z.tr[j].at_):=by simp [ldV,aO,eb,aS]
   have lo:ldV J1 none (.c (.ptr J.length 1 0))=some (vi z.tr[j].off):=by simp [ldV,aO,eb,aS]
   have wo:=Aw (n:=z.tr[j].off) (m:=1080) (by decide) (by decide) hx.2.2.1 hx.2.2.2
   have wa:=Aw (n:=z.tr[j].at_) (m:=2251799813685248) (by decide) (by decide) (by omega) (by omega)
   refine ak (aj (.inl rfl) ?_)
   by_cases hj0:j=0
   ·subst hj0
    simp [g1,ha,la,lo,wo,wa,pU y1 hc,-aH,show¬ z.hor≤z.tr[0].at_ by omega]
    refine ay (by simp) (aG (aK ?_))
    exact nx _ _ ⟨y1,by simp [g1]⟩ (by simp [ha])
   ·obtain⟨k,rfl⟩:∃ k,j=k+1:=⟨j-1,by omega⟩
    have hik:=kJ (g:=z.tg) J1 (show k<z.tr.length by omega)
    have hlk:=AY J1 (show k<z.tr.length by omega)
    have hs:=h.ts k _ _ (ae (by omega)) (ae hj)
    have hx':=h.tb _ (av (show k<z.tr.length by omega))
    have wk:IntKind.i64.wrap (k:Nat)=(k:Nat):=wrap64 (by omega) (by omega)
    have wd:IntKind.i64.wrap (z.tr[k+1].at_-z.tr[k].at_)=z.tr[k+1].at_-z.tr[k].at_:=wrap64 (by omega) (by omega)
    simp [g1,ha,la,lo,wo,wa,pU y1 hc,jK y1 hc,-aH,show¬ z.hor≤z.tr[k+1].at_ by omega,wk,hik,hlk,wd,show¬ z.tr[k+1].at_-z.tr[k].at_<2160 by omega,show(0:Int)<(k:Int)+1 by omega]
    refine ay (by simp) (aG (aK ?_))
    exact nx _ _ ⟨y1,by simp [g1]⟩ (by simp [ha])
  clear z0
  rintro t J ⟨z0,g1⟩ ha
  refine ak (ak (aj (.inl rfl) ?_))
  simp
  refine kS (H:=J) z.yr.length (fun j t J=>J[0]?=some (.box (z.row.map .f) 0)∧t.g 1=.c (.ptr 0 0 0)) (by omega) (by decide) (by simp) ⟨z0,by simp [g1]⟩ ?_ ?_ ?_
  ·clear g1 ha z0
   rintro j t J L hj ⟨y0,g1⟩ ha hn
   simp [g1,ha,kM y0 hc,-aH]
   exact hn _ ⟨y0,by simp [g1]⟩ (by simp [ha]) (by simp)
  ·clear g1 ha z0
   rintro j t J hj ⟨y0,g1⟩ ha nx
   have hii:aU J 5 none (.c (.f (sl z.yg (bT z.yr)))) (vi j)=some (.c (.f (.fp (bT z.yr).flatten (j*5)))):=by
    have:=gX (H:=J) (g:=z.yg) (rows:=bT z.yr) (sz:=5) (k:=.i64) (i:=(j:Int)) (by omega) (by simp;omega)
    simpa using this
   have hll:ldV J (some 5) (.c (.f (.fp (bT z.yr).flatten (j*5))))=some (.a (z.yr[j].row.map .f)):=jd (nM z.yr) (DU hj)
   have hx:=hyo _ (av hj)
   obtain⟨J1,hJ1⟩:∃ J1:Heap,J1=J++[.box (z.yr[j].row.map .f) 0]:=⟨_,rfl⟩
   have y1:J1[0]?=some (.box (z.row.map .f) 0):=by rw [hJ1,ai (aF y0)];exact y0
   have eb:J1[J.length]?=some (.box (z.yr[j].row.map .f) 0):=by rw [hJ1];simp
   have l0:ldV J1 none (.c (.ptr J.length 0 0))=some (vi z.yr[j].mo):=by simp [ldV,aO,eb,aS,YrD.row]
   have l1:ldV J1 none (.c (.ptr J.length 1 0))=some (vi z.yr[j].wk):=by simp [ldV,aO,eb,aS,YrD.row]
   have l2:ldV J1 none (.c (.ptr J.length 2 0))=some (vi z.yr[j].wd):=by simp [ldV,aO,eb,aS,YrD.row]
   have l3:ldV J1 none (.c (.ptr J.length 3 0))=some (vi z.yr[j].mi):=by simp [ldV,aO,eb,aS,YrD.row]
   have l4:ldV J1 none (.c (.ptr J.length 4 0))=some (vi z.yr[j].off):=by simp [ldV,aO,eb,aS,YrD.row]
   obtain⟨cs,lm⟩:=akk y1 hc
   simp only [YrD.row,aR,bj]at hJ1 hll
   refine aN ?_
   refine ak (aj (.inl rfl) ?_)
   simp [g1,ha,hii,hll,kM y0 hc,-aH]
   rw [←hJ1]
   have wo:=Aw (n:=z.yr[j].off) (m:=1080) (by decide) (by decide) hx.of0 hx.of
   refine ak (aj (.inl rfl) ?_)
   have hsl:bM J1 (.f (.fs cs 2))=some 2:=rfl
   have f1:¬ z.yr[j].mo<1:=by have:=hx.mo;omega
   have f2:¬ 2<z.yr[j].mo:=by have:=hx.mo;omega
   have f3:¬ z.yr[j].wk<1:=by have:=hx.wk;omega
   have f4:¬ 5<z.yr[j].wk:=by have:=hx.wk;omega
   have f5:¬ z.yr[j].wd<0:=by have:=hx.wd0;omega
   have f6:¬ 6<z.yr[j].wd:=by have:=hx.wd;omega
   have f7:¬ z.yr[j].mi<0:=by have:=hx.mi0;omega
   have f8:¬ 1439<z.yr[j].mi:=by have:=hx.mi;omega
   simp [g1,l0,l1,l2,l3,l4,lm,wo,-aH,f1,f2,f3,f4,f5,f6,f7,f8,hsl]
   refine ay (by simp) (aG (aK ?_))
   exact nx _ _ ⟨y1,by simp [g1]⟩ (by simp [ha])
  clear g1 ha z0
  rintro t J ⟨z0,g1⟩ ha
  refine ak (aj (.inl rfl) ?_)
  simp [g1,kR z0 hc,-aH,hyp]
  refine ak (ak (aj (.inl rfl) ?_))
  cases hs:eU o (cyc z.c*1440)with
  | false=>
   simp
   refine aB (by simp) (ak (aj (.inl rfl) ?_))
   simp
   refine aP (hQ _ _ _ ⟨1,by simp,rfl⟩ ⟨rfl,vi 1,?_,?_⟩)
   ·simp [Km.results,dG,bC]
   ·simp [exV,dN]
  | true=>
   simp
   refine ay (by simp) (aG ?_)
   have mk:(∀ x a,aft o (cyc z.c*1440) z.hor=some x→a ∈ z.tr→a.at_+2160≤x.at_)→∃ o,OKZ z o:=fun hx=>⟨o,h.c,h.st,h.tl,h.tb,h.ts,h.ho,.inr ⟨r,q,hz,hr,hq,ho,hs,hx⟩⟩
   have good:(∀ x a,aft o (cyc z.c*1440) z.hor=some x→a ∈ z.tr→a.at_+2160≤x.at_)→∀(t:T) (J:Heap),WP tab.get Dp none [.code FY] ⟨t,[],J⟩ Q:=by
    intro hx t J
    refine ak (aj (.inl rfl) ?_)
    simp
    refine aP (hQ _ _ _ ⟨0,fun _=>mk hx,rfl⟩ ⟨rfl,vi 0,?_,?_⟩)
    ·simp [Km.results,dG,bC]
    ·simp [exV,dN]
   have hcB:1≤cyc z.c∧cyc z.c≤217:=by
    have:cyc z.c=91∨cyc z.c=217:=by unfold cyc lI;split<;>simp
    omega
   rcases cL o.length with e0 | o0
   ·have e0:o=[]:=cn.1 e0
    subst e0
    have haf:=OC g z.cyc z.hor
    refine ak (aj (.inl rfl) ?_)
    simp [g1,kR z0 hc,pU z0 hc,-aH,hcp,haf]
    refine ak (ak (aj (.inl rfl) ?_))
    simp
    refine ay (by simp) (aG ?_)
    exact good (by simp [aft,lJ]) _ _
   ·have hbd:∀ x ∈ o,AtB x:=fun x hx=>wG hc hr hq _ (aw _) x (ho.perm.subset hx)
    have hol:o.length≤1000:=by
     have h1:=mW z.c r q (nY z.c)
     have h2:=Em z.c
     have:=ho.len
     omega
    obtain⟨x,hx,haf⟩:=OB g o o0 hol hbd z.cyc z.hor (by rw [hcy];exact hcB.1) (by rw [hcy];omega) (by omega) (by omega)
    rw [hcy]at hx
    have hxb:=aAS hbd hs (by omega) (by omega) (by omega) (by omega) hx
    simp only [TrD.row,aR,bj]at haf
    refine ak (aj (.inl rfl) ?_)
    simp [g1,kR z0 hc,pU z0 hc,-aH,hcp,haf]
    obtain⟨J1,hJ1⟩:∃ J1:Heap,J1=J++[.box [.f (fi x.at_),.f (fi x.off)] 0]:=⟨_,rfl⟩
    rw [←hJ1]
    have y1:J1[0]?=some (.box (z.row.map .f) 0):=by rw [hJ1,ai (aF z0)];exact z0
    have eb:J1[J.length]?=some (.box [.f (fi x.at_),.f (fi x.off)] 0):=by rw [hJ1];simp
    have la:ldV J1 none (.c (.ptr J.length 0 0))=some (vi x.at_):=by simp [ldV,aO,eb,aS]
    refine ak (ak (aj (.inl rfl) ?_))
    by_cases htr:z.tr=[]
    ·simp [g1,jK y1 hc,-aH,htr]
     refine ay (by simp) (aG ?_)
     exact good (by rw [htr];intro x a _ ha;cases ha) _ _
    ·have hn0:0<z.tr.length:=dT.2 htr
     have ii:=kJ (g:=z.tg) J1 (show z.tr.length-1<z.tr.length by omega)
     have il:=AY J1 (show z.tr.length-1<z.tr.length by omega)
     have hla:=h.tb _ (av (show z.tr.length-1<z.tr.length by omega))
     have e1:IntKind.i64.wrap ((z.tr.length:Int)-1)=((z.tr.length-1:Nat):Int):=by rw [wrap64 (by omega) (by omega)];omega
     have e2:IntKind.i64.wrap (x.at_-z.tr[z.tr.length-1].at_)=x.at_-z.tr[z.tr.length-1].at_:=wrap64 (by omega) (by omega)
     by_cases hd:x.at_-z.tr[z.tr.length-1].at_<2160
     ·simp [g1,jK y1 hc,-aH,hn0,e1,e2,ii,il,la,hd]
      refine aB (by simp) (ak (aj (.inl rfl) ?_))
      simp
      refine aP (hQ _ _ _ ⟨1,by simp,rfl⟩ ⟨rfl,vi 1,?_,?_⟩)
      ·simp [Km.results,dG,bC]
      ·simp [exV,dN]
     ·simp [g1,jK y1 hc,-aH,hn0,e1,e2,ii,il,la,hd]
      refine ay (by simp) (aG ?_)
      refine good ?_ _ _
      intro x' a hx' ha
      rw [hx]at hx';cases hx'
      obtain⟨i,hi,rfl⟩:=bk ha
      rcases Nat.lt_or_eq_of_le (show i≤z.tr.length-1 by omega)with h1 | h1
      ·have:=xZ h.ts i _ h1 (by omega);omega
      ·subst h1;omega
 exact⟨e,hp.eq,he⟩
end Go.Proofs.YthfeogjbpgocbaaGreat
end
section
namespace Go.Proofs.YthfeogjbpgocbaaGreat
open Go Km
end Go.Proofs.YthfeogjbpgocbaaGreat
end
section
namespace Go.Proofs.YthfeogjbpgocbaaGreat
open Go Km
abbrev u8(n:Nat):FC:=.int .u8 (n:Nat)
structure kE where
 st:Nat
 gg:Tg
 gaps:List Nat
 og:Tg
 Bz:List Nat
 be:Nat
 y:Nat→Nat→Nat
 cal:Nat
 rules:Bool
def fB(l:List Nat):List (List FC):=l.map fun n=>[u8 n]
@[simp] theorem aLy (l:List Nat):(fB l).length=l.length:=by simp [fB]
theorem Ot(l:List Nat):Grid 1 (fB l):=Grid.map fun _=>rfl
theorem wS{j:Nat}{l:List Nat}(hj:j<l.length){H:Heap}:ldV H none (.c (.f (.fp (fB l).flatten j)))=some (.c (.f (u8 l[j]))):=by
 have:=pV (H:=H) (rows:=fB l) (j:=j) (sz:=1) (row:=[u8 l[j]]) (x:=u8 l[j]) (Ot l) (by simp [fB,hj]) rfl
 simpa using this
theorem ug{j:Nat}{l:List Nat}{g:Tg}(hj:j<l.length){H:Heap}:aU H 1 none (.c (.f (sl g (fB l)))) (vi j)=some (.c (.f (.fp (fB l).flatten j))):=by
 have:=gX (H:=H) (g:=g) (rows:=fB l) (sz:=1) (k:=.i64) (i:=(j:Int)) (by omega) (by simp;omega)
 simpa using this
def kE.row(x:kE):List FC:=[u8 x.st,sl x.gg (fB x.gaps),sl x.og (fB x.Bz),u8 x.be,u8 (x.y 0 0),u8 (x.y 0 1),u8 (x.y 0 2),u8 (x.y 0 3),u8 (x.y 1 0),u8 (x.y 1 1),u8 (x.y 1 2),u8 (x.y 1 3),u8 x.cal,.bool x.rules]
structure kE.OK(x:kE):Prop where
 st:x.st<256
 gl:x.gaps.length≤9223372036854775807
 ol:x.Bz.length≤9223372036854775807
 ga:∀ n ∈ x.gaps,n<256
 of:∀ n ∈ x.Bz,n<256
 be:x.be<256
 y:∀ k i,k<2→i<4→x.y k i<256
 cal:x.cal<256
theorem xY(n:Nat){m:Nat}(hm:0<m):bU .rem (.c (.f (u8 n))) (.c (.f (u8 m)))=some (.c (.f (u8 (n % m)))):=by
 have:¬ ((m:Int)=0):=by omega
 simp only [bU,nK,if_true,this,if_false]
 rfl
theorem u8_quo{n:Nat}(hn:n<256){m:Nat}(hm:0<m):bU .quo (.c (.f (u8 n))) (.c (.f (u8 m)))=some (.c (.f (u8 (n / m)))):=by
 have:¬ ((m:Int)=0):=by omega
 have h1:n / m≤n:=Nat.div_le_self n m
 simp only [bU,nK,if_true,this,if_false]
 rw [show(n:Int).tdiv (m:Int)=((n / m:Nat):Int) from rfl]
 have:IntKind.u8.wrap ((n / m:Nat):Int)=((n / m:Nat):Int):=by
  revert h1;generalize n / m=q;intro h1
  exact wrapu8 (by omega) (by omega)
 rw [this];rfl
def lD(J:Heap)(cs:List C)(c:Nat):Prop:=
 (c=0∧cs=[.f (fi 2),.sl 2 0 2 2 0 1,.f (fi (-1)),.f .aA]∧∃ fl,J[2]?=some (.box [.f (fi 7),.f (fi 6)] fl)) ∨
 ∃ k:Nat,k<2∧c=k+1∧cs=[.f (fi 5),.sl 4 0 2 2 0 1,.f (fi 1),.sl 5 0 1 1 0 3]∧(∃ fl,J[4]?=some (.box [.f (fi 7),.f (fi 8)] fl))∧∃ fl,J[5]?=some (.box [.f (fi 2),.f (fi k),.f (.bool true)] fl)
section
variable{J J':Heap}{cs:List C}{c:Nat}{s h:Int}{ct cy ct' cy':C}
theorem lD.keep'(hc:lD J cs c)(hk:∀(i:Nat) (l:List C) (fl:Nat),J[i]?=some (.box l fl)→(i=2∨i=4∨i=5)→∃ fl',J'[i]?=some (.box l fl')):lD J' cs c:=by
 rcases hc with⟨h1,h2,fl,h3⟩ | ⟨k,h0,h1,h2,⟨f3,h3⟩,f4,h4⟩
 ·exact .inl ⟨h1,h2,hk _ _ _ h3 (by omega)⟩
 ·exact .inr ⟨k,h0,h1,h2,hk _ _ _ h3 (by omega),hk _ _ _ h4 (by omega)⟩
theorem lD.keep(hc:lD J cs c)(hk:∀ i y,J[i]?=some y→(i=2∨i=4∨i=5)→J'[i]?=some y):lD J' cs c:=hc.keep' fun i l fl h hi=>⟨fl,hk i _ h hi⟩
theorem lD.four(hc:lD J cs c):∃ a b d e,cs=[a,b,d,e]:=by
 rcases hc with⟨-,rfl,-⟩ | ⟨k,-,-,rfl,-,-⟩<;>exact⟨_,_,_,_,rfl⟩
theorem lD.lt(hc:lD J cs c):c<3:=by
 rcases hc with⟨rfl,-⟩ | ⟨k,h0,rfl,-⟩<;>omega
theorem lD.ex(hc:lD J cs c):bC (exC 64 J) cs=some (jL c):=by
 rcases hc with⟨rfl,rfl,fl,h1⟩ | ⟨k,h0,rfl,rfl,⟨f1,h1⟩,f2,h2⟩
 ·simp [bC,zJ,h1,jL]
 ·simp [bC,zJ,h1,h2,jL]
abbrev qJ(cs:List C)(s:Int)(ct:C)(h:Int)(cy:C):Blk:=.box (cs++[.f (fi s),ct,.f (fi h),cy]) 0
theorem aLD(hc:lD J cs c)(hb:J[3]?=some (qJ cs s ct h cy)):ldV J none (.c (.ptr 3 5 0))=some (.c ct):=by
 obtain⟨a,b,d,e,rfl⟩:=hc.four
 simp [ldV,aO,hb,aS]
theorem aDQ(hc:lD J cs c)(hb:J[3]?=some (qJ cs s ct h cy)):ldV J none (.c (.ptr 3 7 0))=some (.c cy):=by
 obtain⟨a,b,d,e,rfl⟩:=hc.four
 simp [ldV,aO,hb,aS]
theorem LV(hc:lD J cs c)(hb:J[3]?=some (qJ cs s ct h cy)):ldV J (some 8) (.c (.ptr 3 0 0))=some (.a (cs++[.f (fi s),ct,.f (fi h),cy])):=by
 obtain⟨a,b,d,e,rfl⟩:=hc.four
 simp [ldV,aO,hb,aS]
theorem aLB(hc:lD J cs c)(hb:J[3]?=some (qJ cs s ct h cy)):stC J (.ptr 3 5 0) [ct']=some (J.set 3 (qJ cs s ct' h cy)):=by
 obtain⟨a,b,d,e,rfl⟩:=hc.four
 simp [stC,hb,over]
 rfl
theorem aLC{h':Int}(hc:lD J cs c)(hb:J[3]?=some (qJ cs s ct h cy)):stC J (.ptr 3 6 0) [.f (fi h')]=some (J.set 3 (qJ cs s ct h' cy)):=by
 obtain⟨a,b,d,e,rfl⟩:=hc.four
 simp [stC,hb,over]
 rfl
theorem aDP(hc:lD J cs c)(hb:J[3]?=some (qJ cs s ct h cy)):stC J (.ptr 3 7 0) [cy']=some (J.set 3 (qJ cs s ct h cy')):=by
 obtain⟨a,b,d,e,rfl⟩:=hc.four
 simp [stC,hb,over]
 rfl
end
structure TrP(tr:List TrD)(at_:Int):Prop where
 tl:tr.length≤3
 lo:0≤at_∧at_≤7260*tr.length
 tb:∀ x ∈ tr,0≤x.at_∧x.at_≤at_∧-1080≤x.off∧x.off≤1080
 ts:∀(i:Nat) x y,tr[i]?=some x→tr[i+1]?=some y→x.at_+2160≤y.at_
theorem TrP.nil:TrP [] 0:=⟨by simp,by simp,by simp,by simp⟩
theorem TrP.app{tr:List TrD}{at_:Int}(h:TrP tr at_)(hl:tr.length≤2){n m:Nat}(hn:n<256):TrP (tr++[⟨at_+2160+20*n,qx m⟩]) (at_+2160+20*n):=by
 have hb:=oN m
 have h0:=h.lo
 refine⟨by simp;omega,by simp;omega,fun x hx=>?_,fun i x y hx hy=>?_⟩
 ·rcases ba.1 hx with hx | hx
  ·have:=h.tb x hx;omega
  ·simp at hx;subst hx;simp only;omega
 ·rw [List.getElem?_append]at hx hy
  split at hy
  ·rename_i h1
   rw [if_pos (by omega)]at hx
   exact h.ts i x y hx hy
  ·rename_i h1
   have hi:i+1=tr.length:=by
    have:=NK hy
    simp at this;omega
   rw [if_pos (by omega)]at hx
   have h2:=h.tb x (List.mem_of_getElem? hx)
   rw [←hi]at hy
   simp at hy;subst hy;simp only;omega
 where NK {α:Type} {l:List α} {i:Nat} {x:α} (h:l[i]?=some x):i<l.length:=(List.getElem?_eq_some_iff.1 h).1
end Go.Proofs.YthfeogjbpgocbaaGreat
end
section
namespace Go.Proofs.YthfeogjbpgocbaaGreat
open Go Km
section
variable{J:Heap}{x:kE}
theorem Rx(h:J[0]?=some (.box (x.row.map .f) 0)):ldV J none (.c (.ptr 0 1 0))=some (.c (.f (sl x.gg (fB x.gaps)))):=by simp [ldV,aO,h,aS,kE.row]
theorem Rw(h:J[0]?=some (.box (x.row.map .f) 0)):ldV J none (.c (.ptr 0 2 0))=some (.c (.f (sl x.og (fB x.Bz)))):=by simp [ldV,aO,h,aS,kE.row]
theorem aLU(h:J[0]?=some (.box (x.row.map .f) 0)):ldV J none (.c (.ptr 0 3 0))=some (.c (.f (u8 x.be))):=by simp [ldV,aO,h,aS,kE.row]
theorem Jt(h:J[0]?=some (.box (x.row.map .f) 0)):ldV J none (.c (.ptr 0 13 0))=some (vb x.rules):=by simp [ldV,aO,h,aS,kE.row]
theorem aSC(h:J[0]?=some (.box (x.row.map .f) 0)){k:Nat}(hk:k<2):ldV J (some 4) (.c (.ptr 0 (4+k*4) 0))=some (.a [.f (u8 (x.y k 0)),.f (u8 (x.y k 1)),.f (u8 (x.y k 2)),.f (u8 (x.y k 3))]):=by
 have:k=0∨k=1:=by omega
 rcases this with rfl | rfl<;>simp [ldV,aO,h,aS,kE.row]
end
theorem OKZ.retag{c:Nat}{s h:Int}{tr:List TrD}{yr:List YrD}{tg tg' yg yg':Tg}{o:List TrD}(k:OKZ ⟨c,s,tg,tr,h,yg,yr⟩ o):OKZ ⟨c,s,tg',tr,h,yg',yr⟩ o:=⟨k.c,k.st,k.tl,k.tb,k.ts,k.ho,k.y⟩
structure ZI(x:kE)(cs:List C)(c:Nat)(s h:Int)(tr:List TrD)(ct:C)(yr:List YrD)(cy:C)(t:T)(J:Heap):Prop where
 raw:J[0]?=some (.box (x.row.map .f) 0)
 res:J[1]?=some (.box [.f (fi 0),.f .aA,.f (fi 0),.f .aA,.f (fi 0),.f .aA,.f (fi 0),.f .aA] 0)
 cal:lD J cs c
 zb:J[3]?=some (qJ cs s ct h cy)
 lt:LR J ct 2 (aT tr)
 ly:LR J cy 5 (bT yr)
 ne:∀ i,cO ct=some i→cO cy≠some i
 g1:t.g 1=.c (.ptr 0 0 0)
 g2:t.g 2=.c (.ptr 1 0 0)
 g3:t.g 3=.c (.ptr 3 0 0)
def LRw(H:Heap)(c:C)(sz:Nat)(rows:List (List FC)):Prop:=(rows=[]∧(c=.f .aA∨c=.f .es))∨(rows≠[]∧∃ b ep fl,c=.sl b 0 rows.length 0 ep sz∧H[b]?=some (.opn sz (rows.flatten.map .f) fl ep .loc))
section
variable{H H':Heap}{c:C}{sz:Nat}{rows:List (List FC)}
theorem LRw.of(h:LR H c sz rows):LRw H c sz rows:=by
 rcases h with h | ⟨h,b,ep,h1,h2⟩
 ·exact .inl h
 ·exact .inr ⟨h,b,ep,0,h1,h2⟩
theorem LRw.exU(h:LRw H c sz rows)(hg:Grid sz rows):∃ g,∀(H':Heap) (n:Nat),LRw H' c sz rows→exC (n+1) H' c=some (sl g rows):=by
 by_cases hr:rows=[]
 ·rcases h with⟨rfl,rfl | rfl⟩ | ⟨h,_⟩
  ·exact⟨.nil,fun _ _ _=>rfl⟩
  ·exact⟨.es,fun _ _ _=>rfl⟩
  ·exact absurd hr h
 ·refine⟨.fs,fun H' n hk=>?_⟩
  rcases hk with⟨h,_⟩ | ⟨_,b,ep,fl,rfl,h2⟩
  ·exact absurd h hr
  have hl:rows.length*sz=rows.flatten.length:=(dM hg).symm
  simp only [zJ,h2]
  rw [if_pos ⟨trivial,trivial,by rw [a9,Nat.zero_add,hl];exact aw _⟩,List.drop_zero,bA (by rw [a9];omega),vM]
  cases rows with
  | nil=>exact absurd rfl hr
  | cons x l=>simp [sl]
theorem LRw.keep(h:LRw H c sz rows)(hk:∀(i s:Nat) (l:List C) (fl ep:Nat) (st:Km.Os),H[i]?=some (.opn s l fl ep st)→∃ fl',H'[i]?=some (.opn s l fl' ep st)):LRw H' c sz rows:=by
 rcases h with h | ⟨h,b,ep,fl,h1,h2⟩
 ·exact .inl h
 ·obtain⟨fl',h3⟩:=hk _ _ _ _ _ _ h2
  exact .inr ⟨h,b,ep,fl',h1,h3⟩
theorem LRw.mk(h:LRw H c sz rows):(∀(i:Nat) (l:List C) (fl:Nat),H[i]?=some (.box l fl)→(mkC deep c H)[i]?=some (.box l fl))∧∀(i s:Nat) (l:List C) (fl ep:Nat) (st:Km.Os),H[i]?=some (.opn s l fl ep st)→∃ fl',(mkC deep c H)[i]?=some (.opn s l fl' ep st):=by
 rcases h with⟨_,rfl | rfl⟩ | ⟨h,b,ep,fl,rfl,h2⟩
 ·exact⟨fun i l fl h=>by simpa using h,fun i s l fl ep st h=>⟨fl,by simpa using h⟩⟩
 ·exact⟨fun i l fl h=>by simpa using h,fun i s l fl ep st h=>⟨fl,by simpa using h⟩⟩
 ·have e:mkC deep (.sl b 0 rows.length 0 ep sz) H=H.set b (.opn sz (rows.flatten.map .f) (Nat.max fl (0+rows.length*sz)) ep .loc):=by
   simp only [deep,aD7,h2]
   rw [HY]
   intro x hx
   have hx:=List.mem_of_mem_drop (List.mem_of_mem_take hx)
   obtain⟨m,_,rfl⟩:=b7.1 hx
   exact⟨_,rfl⟩
  rw [e]
  refine⟨fun i l fl h=>?_,fun i s l fl ep st h=>?_⟩
  ·rw [ag (by rintro rfl;rw [h2]at h;cases h)];exact h
  ·by_cases e:b=i
   ·subst e
    rw [h2]at h;cases h
    exact⟨_,ax (aF h2)⟩
   ·rw [ag e];exact⟨fl,h⟩
end
theorem mk_box{H:Heap}{b l cp e sz fl:Nat}{xs:List FC}(h:H[b]?=some (.box (xs.map .f) fl)):mkC deep (.sl b 0 l cp e sz) H=H.set b (.box (xs.map .f) (Nat.max fl (0+l*sz))):=by
 simp only [deep,aD7,h]
 rw [HY]
 intro x hx
 have hx:=List.mem_of_mem_drop (List.mem_of_mem_take hx)
 obtain⟨m,_,rfl⟩:=b7.1 hx
 exact⟨_,rfl⟩
theorem lD.mk{H:Heap}{cs:List C}{c:Nat}(hc:lD H cs c):lD (cs.foldl (fun H x=>mkC deep x H) H) cs c∧(∀ i y,H[i]?=some y→i≠2→i≠4→i≠5→(cs.foldl (fun H x=>mkC deep x H) H)[i]?=some y)∧(∀(i s:Nat) (l:List C) (fl ep:Nat) (st:Km.Os),H[i]?=some (.opn s l fl ep st)→∃ fl',(cs.foldl (fun H x=>mkC deep x H) H)[i]?=some (.opn s l fl' ep st)):=by
 rcases hc with⟨rfl,rfl,fl,h1⟩ | ⟨k,h0,rfl,rfl,⟨f1,h1⟩,f2,h2⟩
 ·have e:=mk_box (H:=H) (b:=2) (l:=2) (cp:=2) (e:=0) (sz:=1) (xs:=[fi 7,fi 6]) h1
  simp only [cS,List.foldl_nil,SE,e]
  refine⟨.inl ⟨rfl,rfl,_,ax (aF h1)⟩,fun i y hy h2 _ _=>by rw [ag (Ne.symm h2)];exact hy,fun i s l fl ep st h=>⟨fl,?_⟩⟩
  rw [ag (by rintro rfl;rw [h1]at h;cases h)];exact h
 ·have e:=mk_box (H:=H) (b:=4) (l:=2) (cp:=2) (e:=0) (sz:=1) (xs:=[fi 7,fi 8]) h1
  simp only [cS,List.foldl_nil,SE,e]
  have h2':(H.set 4 (.box ([fi 7,fi 8].map .f) (Nat.max f1 (0+2*1))))[5]?=some (.box ([fi 2,fi k,.bool true].map .f) f2):=by rw [ag (by decide)];exact h2
  have e2:=mk_box (l:=1) (cp:=1) (e:=0) (sz:=3) h2'
  rw [e2]
  refine⟨.inr ⟨k,h0,rfl,rfl,⟨Nat.max f1 (0+2*1),?_⟩,_,ax (aF h2')⟩,fun i y hy h2 h4 h5=>?_,fun i s l fl ep st h=>⟨fl,?_⟩⟩
  ·rw [ag (by decide),ax (aF h1)];rfl
  ·rw [ag (Ne.symm h5),ag (Ne.symm h4)];exact hy
  ·rw [ag (by rintro rfl;rw [h2]at h;cases h),ag (by rintro rfl;rw [h1]at h;cases h)];exact h
structure ZE(cs:List C)(c:Nat)(s h:Int)(tr:List TrD)(ct:C)(yr:List YrD)(cy:C)(J:Heap):Prop where
 res:J[1]?=some (.box [.f (fi 0),.f .aA,.f (fi 0),.f .aA,.f (fi 0),.f .aA,.f (fi 0),.f .aA] 0)
 cal:lD J cs c
 zb:J[3]?=some (qJ cs s ct h cy)
 lt:LRw J ct 2 (aT tr)
 ly:LRw J cy 5 (bT yr)
section
variable{x:kE}{cs:List C}{c:Nat}{s h:Int}{tr:List TrD}{ct:C}{yr:List YrD}{cy:C}{t:T}{J:Heap}
theorem ZI.e(k:ZI x cs c s h tr ct yr cy t J):ZE cs c s h tr ct yr cy J:=⟨k.res,k.cal,k.zb,LRw.of k.lt,LRw.of k.ly⟩
theorem ZE.ex(k:ZE cs c s h tr ct yr cy J) :
  ∃ tg yg,∀ J':Heap,(∀ i y,J[i]?=some y→i≠1→J'[i]?=some y)→bC (exC 64 J') (cs++[.f (fi s),ct,.f (fi h),cy])=some (ZD.row ⟨c,s,tg,tr,h,yg,yr⟩):=by
 obtain⟨tg,ht⟩:=k.lt.exU (dF _)
 obtain⟨yg,hy⟩:=k.ly.exU (nM _)
 refine⟨tg,yg,fun J' hk=>?_⟩
 have hc:lD J' cs c:=k.cal.keep fun i y hy hi=>hk i y hy (by omega)
 have ho:∀(i s:Nat) (l:List C) (fl ep:Nat) (st:Km.Os),J[i]?=some (.opn s l fl ep st)→∃ fl',J'[i]?=some (.opn s l fl' ep st):=fun i s l fl ep st h=>⟨fl,hk i _ h (by
  rintro rfl
  rw [k.res]at h;cases h)⟩
 have e1:=ht J' 63 (k.lt.keep ho)
 have e2:=hy J' 63 (k.ly.keep ho)
 exact nP hc.ex (by simp [bC,e1,e2])
set_option maxRecDepth 100000 in
theorem ZE.fin(k:ZE cs c s h tr ct yr cy J)(ho:∃ tg yg o,OKZ ⟨c,s,tg,tr,h,yg,yr⟩ o)
  (t':T) (ht':t'.g 2=.c (.ptr 1 0 0)):∃ z o J',OKZ z o∧stC J (.ptr 1 0 0) (cs++[.f (fi s),ct,.f (fi h),cy])=some J'∧xP [.cell (P.nat 2) (some 8)] (.a (z.row.map .f)) ⟨t',[],J'⟩:=by
 obtain⟨tg,yg,hex⟩:=k.ex
 obtain⟨tg',yg',o,ho⟩:=ho
 obtain⟨a,b,d,e,rfl⟩:=k.cal.four
 have hs:stC J (.ptr 1 0 0) ([a,b,d,e]++[.f (fi s),ct,.f (fi h),cy])=some (J.set 1 (.box ([a,b,d,e]++[.f (fi s),ct,.f (fi h),cy]) 0)):=by simp [stC,k.res,over]
 have h1:=aF k.res
 refine⟨⟨c,s,tg,tr,h,yg,yr⟩,o,_,ho.retag,hs,rfl,.a ([a,b,d,e]++[.f (fi s),ct,.f (fi h),cy]),?_,?_⟩
 ·simp [Km.results,dG,bC,ht',h1,aS]
 ·have:=hex (J.set 1 (.box ([a,b,d,e]++[.f (fi s),ct,.f (fi h),cy]) 0)) fun i y hy hi=>by rw [ag (by omega)];exact hy
  simp only [exV,dN,deep,this]
  rfl
theorem ZE.marked(k:ZE cs c s h tr ct yr cy J):ZE cs c s h tr ct yr cy (mkC deep cy (mkC deep ct (cs.foldl (fun H x=>mkC deep x H) J))):=by
 obtain⟨m1,m2,m3⟩:=k.cal.mk
 obtain⟨J1,hJ1⟩:∃ J1,J1=cs.foldl (fun H x=>mkC deep x H) J:=⟨_,rfl⟩
 rw [←hJ1]at m1 m2 m3 ⊢
 have lt1:=k.lt.keep m3
 have ly1:=k.ly.keep m3
 have z1:=m2 _ _ k.zb (by decide) (by decide) (by decide)
 have r1:=m2 _ _ k.res (by decide) (by decide) (by decide)
 obtain⟨a1,a2⟩:=lt1.mk
 have lt2:=lt1.keep a2
 have ly2:=ly1.keep a2
 obtain⟨b1,b2⟩:=ly2.mk
 exact⟨b1 _ _ _ (a1 _ _ _ r1),(m1.keep' fun i l fl h _=>⟨fl,a1 i l fl h⟩).keep' fun i l fl h _=>⟨fl,b1 i l fl h⟩,b1 _ _ _ (a1 _ _ _ z1),lt2.keep b2,ly2.keep b2⟩
end
end Go.Proofs.YthfeogjbpgocbaaGreat
end
section
namespace Go.Proofs.YthfeogjbpgocbaaGreat
open Go Km
theorem ZI.aEu{x:kE}{cs:List C}{c:Nat}{s h:Int}{tr:List TrD}{ct:C}{cy:C}{t:T}{J:Heap}(k:ZI x cs c s h tr ct [] cy t J)(hcy:cO cy=none)(hl:tr.length≤2)(q:TrD) :
  ∃ c3 H3,bP (J++[.box (q.row.map .f) 0]) 2 16 (.c ct) (.c (.sl J.length 0 1 1 0 2))=some (.c c3,H3)∧stC H3 (.ptr 3 5 0) [c3]=some (H3.set 3 (qJ cs s c3 h cy)) ∧
   ∀ t',t'.g 1=.c (.ptr 0 0 0)→t'.g 2=.c (.ptr 1 0 0)→t'.g 3=.c (.ptr 3 0 0)→ZI x cs c s h (tr++[q]) c3 [] cy t' (H3.set 3 (qJ cs s c3 h cy)):=by
 obtain⟨J2,hJ2⟩:∃ J2:Heap,J2=J++[.box (q.row.map .f) 0]:=⟨_,rfl⟩
 rw [←hJ2]
 have up:∀ i y,J[i]?=some y→J2[i]?=some y:=fun i y hy=>by rw [hJ2,ai (aF hy)];exact hy
 have hL2:LR J2 ct 2 (aT tr):=by rw [hJ2];exact k.lt.push _
 have hb2:J2[J.length]?=some (.box (q.row.map .f) 0):=by rw [hJ2];simp
 obtain⟨c3,H3,happ,hL3,hK3,hc3⟩:=hL2.app (dF tr) (by decide) (row:=q.row) rfl (bytes:=16) (iy (by simp;omega) (by decide)) hb2
 have up3:∀(i:Nat) (cs:List C) (fl:Nat),J[i]?=some (.box cs fl)→H3[i]?=some (.box cs fl):=fun i cs fl hy=>hK3.2 i _ (up _ _ hy) (hL2.dK (up _ _ hy))
 have fK:lD H3 cs c:=k.cal.keep' fun i l fl h _=>⟨fl,up3 i l fl h⟩
 have hzb:=up3 _ _ _ k.zb
 have e3:aT tr++[q.row]=aT (tr++[q]):=by simp [aT]
 rw [e3]at hL3
 refine⟨c3,H3,happ,aLB fK hzb,fun t' g1 g2 g3=>?_⟩
 refine⟨?_,?_,?_,?_,?_,?_,?_,g1,g2,g3⟩
 ·rw [ag (by decide)];exact up3 _ _ _ k.raw
 ·rw [ag (by decide)];exact up3 _ _ _ k.res
 ·exact fK.keep fun i y hy hi=>by rw [ag (by omega)];exact hy
 ·exact ax (aF hzb)
 ·exact hL3.set (hL3.dK hzb) _
 ·rcases k.ly with⟨h1,h2⟩ | ⟨h1,-⟩
  ·exact .inl ⟨h1,h2⟩
  ·exact absurd rfl h1
 ·intro i _;rw [hcy];exact fun e=>by cases e
set_option maxRecDepth 100000 in
theorem made1{x:kE}(hx:x.OK){cs:List C}{c:Nat}{s:Int}{t:T}{J:Heap}(k:ZI x cs c s 0 [] (.f .aA) [] (.f .aA) t J){Q:Option ah→St→Prop}
  (next:∀(t:T) (J:Heap) (tr:List TrD) (ct:C) (h:Int),ZI x cs c s h tr ct [] (.f .aA) t J→tr.length≤3→(∀ y ∈ tr,0≤y.at_∧y.at_<h∧-1080≤y.off∧y.off≤1080)→(∀(i:Nat) a b,tr[i]?=some a→tr[i+1]?=some b→a.at_+2160≤b.at_)→0≤h∧h≤40000 →
   WP tab.get nJ none [.code zk] ⟨t,[],J⟩ Q) :
  WP tab.get nJ none [.code Dv] ⟨t,[],J⟩ Q:=by
 obtain⟨N,hN⟩:∃ N,N=min (min x.gaps.length x.Bz.length) 3:=⟨_,rfl⟩
 refine ak (aj (.inl rfl) ?_)
 simp
 refine ak (ak (aj (.inl rfl) ?_))
 simp
 refine kS N (fun j t J=>∃ tr ct at_,tr.length=j∧TrP tr at_∧ZI x cs c s 0 tr ct [] (.f .aA) t J∧t.g 4=vi at_) (by omega) (by decide) (by simp)
  ⟨[],.f .aA,0,rfl,TrP.nil,⟨k.raw,k.res,k.cal,k.zb,k.lt,k.ly,k.ne,by simp [k.g1],by simp [k.g2],by simp [k.g3]⟩,by simp⟩ ?_ ?_ ?_
 ·rintro j t J L hj ⟨tr,ct,at_,htl,hT,k,g4⟩ ha hn
  have hgl:=hx.gl
  have hol:=hx.ol
  have l1:=Rx k.raw
  have l2:=Rw k.raw
  have hn':∀ t',t'.g 1=t.g 1→t'.g 2=t.g 2→t'.g 3=t.g 3→t'.g 4=t.g 4→t'.g 5=t.g 5→t'.g 43=vb (decide ((j:Int)<(N:Int)))→L ⟨t',[],J⟩:=fun t' e1 e2 e3 e4 e5 e43=>
   hn t' ⟨tr,ct,at_,htl,hT,⟨k.raw,k.res,k.cal,k.zb,k.lt,k.ly,k.ne,by rw [e1];exact k.g1,by rw [e2];exact k.g2,by rw [e3];exact k.g3⟩,by rw [e4];exact g4⟩ (by rw [e5];exact ha) e43
  by_cases c1:(j:Int)<x.gaps.length
  ·by_cases c2:(j:Int)<x.Bz.length
   ·simp [k.g1,ha,l1,l2,-aH,c1,c2]
    exact hn' _ (by simp [k.g1]) (by simp [k.g2]) (by simp [k.g3]) (by simp) (by simp) (by simp;omega)
   ·simp [k.g1,ha,l1,l2,-aH,c1,c2]
    exact hn' _ (by simp [k.g1]) (by simp [k.g2]) (by simp [k.g3]) (by simp) (by simp) (by simp;omega)
  ·simp [k.g1,ha,l1,l2,-aH,c1]
   exact hn' _ (by simp [k.g1]) (by simp [k.g2]) (by simp [k.g3]) (by simp) (by simp) (by simp;omega)
 ·rintro j t J hj ⟨tr,ct,at_,htl,hT,k,g4⟩ ha nx
  have hg:j<x.gaps.length:=by omega
  have ho:j<x.Bz.length:=by omega
  have bg:=hx.ga _ (av hg)
  have bo:=hx.of _ (av ho)
  have hlo:=hT.lo
  have l1:=Rx k.raw
  have l2:=Rw k.raw
  have i1:=ug (g:=x.gg) hg (H:=J)
  have i2:=ug (g:=x.og) ho (H:=J)
  have d1:=wS hg (H:=J)
  have d2:=wS ho (H:=J)
  have w1:IntKind.i64.wrap (at_+2160)=at_+2160:=wrap64 (by omega) (by omega)
  have w2:IntKind.i64.wrap ((x.gaps[j]:Nat):Int)=((x.gaps[j]:Nat):Int):=wrap64 (by omega) (by omega)
  have w3:IntKind.i64.wrap (20*((x.gaps[j]:Nat):Int))=20*((x.gaps[j]:Nat):Int):=wrap64 (by omega) (by omega)
  have w4:IntKind.i64.wrap (at_+2160+20*((x.gaps[j]:Nat):Int))=at_+2160+20*((x.gaps[j]:Nat):Int):=wrap64 (by omega) (by omega)
  have hso:=Gp bo
  obtain⟨c3,H3,happ,hst,hk⟩:=k.aEu rfl (by omega) ⟨at_+2160+20*((x.gaps[j]:Nat):Int),qx x.Bz[j]⟩
  simp only [TrD.row,aR,bj]at happ
  refine aN (ak (aj (.inl rfl) ?_))
  simp [k.g1,g4,ha,l1,i1,d1,-aH,w1,w2,w3,w4]
  refine aj (.inl rfl) ?_
  simp [k.g1,k.g3,ha,l2,i2,d2,-aH,hso,aLD k.cal k.zb,happ,hst,-bI]
  refine aK ?_
  refine nx _ _ ⟨_,_,_,by simp;omega,hT.app (by omega) bg (m:=x.Bz[j]),hk _ (by simp [k.g1]) (by simp [k.g2]) (by simp [k.g3]),by simp⟩ (by simp [ha])
 rintro t J ⟨tr,ct,at_,htl,hT,k,g4⟩ ha
 have hlo:=hT.lo
 have bb:=hx.be
 have l3:=aLU k.raw
 have w1:IntKind.i64.wrap (at_+2160)=at_+2160:=wrap64 (by omega) (by omega)
 have w2:IntKind.i64.wrap ((x.be:Nat):Int)=((x.be:Nat):Int):=wrap64 (by omega) (by omega)
 have w3:IntKind.i64.wrap (20*((x.be:Nat):Int))=20*((x.be:Nat):Int):=wrap64 (by omega) (by omega)
 have w4:IntKind.i64.wrap (at_+2160+20*((x.be:Nat):Int))=at_+2160+20*((x.be:Nat):Int):=wrap64 (by omega) (by omega)
 refine ak (aj (.inl rfl) ?_)
 simp [k.g1,k.g3,g4,l3,-aH,w1,w2,w3,w4,aLC k.cal k.zb,-bI]
 refine next _ _ tr ct (at_+2160+20*((x.be:Nat):Int)) ⟨?_,?_,?_,?_,?_,?_,k.ne,by simp [k.g1],by simp [k.g2],by simp [k.g3]⟩ hT.tl (fun y hy=>by have:=hT.tb y hy;omega) hT.ts (by omega)
 ·rw [ag (by decide)];exact k.raw
 ·rw [ag (by decide)];exact k.res
 ·exact k.cal.keep fun i y hy hi=>by rw [ag (by omega)];exact hy
 ·exact ax (aF k.zb)
 ·exact k.lt.set (k.lt.dK k.zb) _
 ·exact k.ly.set (k.ly.dK k.zb) _
end Go.Proofs.YthfeogjbpgocbaaGreat
end
section
namespace Go.Proofs.YthfeogjbpgocbaaGreat
open Go Km
theorem ZI.aEq{x:kE}{cs:List C}{c:Nat}{s h:Int}{tr:List TrD}{ct:C}{yr:List YrD}{cy:C}{t:T}{J:Heap}(k:ZI x cs c s h tr ct yr cy t J)(hl:yr.length≤2)(q:YrD) :
  ∃ c3 H3,bP (J++[.box (q.row.map .f) 0]) 5 40 (.c cy) (.c (.sl J.length 0 1 1 0 5))=some (.c c3,H3)∧stC H3 (.ptr 3 7 0) [c3]=some (H3.set 3 (qJ cs s ct h c3)) ∧
   (∀(b:Nat) (l:List C) (fl:Nat),J[b]?=some (.box l fl)→b≠3→(H3.set 3 (qJ cs s ct h c3))[b]?=some (.box l fl)) ∧
   ∀ t',t'.g 1=.c (.ptr 0 0 0)→t'.g 2=.c (.ptr 1 0 0)→t'.g 3=.c (.ptr 3 0 0)→ZI x cs c s h tr ct (yr++[q]) c3 t' (H3.set 3 (qJ cs s ct h c3)):=by
 obtain⟨J2,hJ2⟩:∃ J2:Heap,J2=J++[.box (q.row.map .f) 0]:=⟨_,rfl⟩
 rw [←hJ2]
 have up:∀ i y,J[i]?=some y→J2[i]?=some y:=fun i y hy=>by rw [hJ2,ai (aF hy)];exact hy
 have hL2:LR J2 cy 5 (bT yr):=by rw [hJ2];exact k.ly.push _
 have hb2:J2[J.length]?=some (.box (q.row.map .f) 0):=by rw [hJ2];simp
 obtain⟨c3,H3,happ,hL3,hK3,hc3⟩:=hL2.app (nM yr) (by decide) (row:=q.row) rfl (bytes:=40) (iy (by simp;omega) (by decide)) hb2
 have up3:∀(i:Nat) (cs:List C) (fl:Nat),J[i]?=some (.box cs fl)→H3[i]?=some (.box cs fl):=fun i cs fl hy=>hK3.2 i _ (up _ _ hy) (hL2.dK (up _ _ hy))
 have fK:lD H3 cs c:=k.cal.keep' fun i l fl h _=>⟨fl,up3 i l fl h⟩
 have hzb:=up3 _ _ _ k.zb
 have e3:bT yr++[q.row]=bT (yr++[q]):=by simp [bT]
 rw [e3]at hL3
 have hLt:LR H3 ct 2 (aT tr):=k.lt.keep fun i y hy hi=>hK3.2 i y (up _ _ hy) (k.ne i hi)
 refine⟨c3,H3,happ,aDP fK hzb,fun b l fl hb hb3=>by rw [ag (Ne.symm hb3)];exact up3 _ _ _ hb,fun t' g1 g2 g3=>?_⟩
 refine⟨?_,?_,?_,?_,?_,?_,?_,g1,g2,g3⟩
 ·rw [ag (by decide)];exact up3 _ _ _ k.raw
 ·rw [ag (by decide)];exact up3 _ _ _ k.res
 ·exact fK.keep fun i y hy hi=>by rw [ag (by omega)];exact hy
 ·exact ax (aF hzb)
 ·exact hLt.set (hLt.dK hzb) _
 ·exact hL3.set (hL3.dK hzb) _
 ·intro i hi
  rcases hc3 with e | e
  ·rw [e];exact k.ne i hi
  ·rw [e]
   intro e'
   cases e'
   have:=k.lt.lt hi
   have h2:J2.length=J.length+1:=by rw [hJ2];simp
   omega
theorem ZI.aEp{x:kE}{cs:List C}{c:Nat}{s h:Int}{tr:List TrD}{ct:C}{yr:List YrD}{q:YrD}{cy:C}{t:T}{J:Heap}(k:ZI x cs c s h tr ct (yr++[q]) cy t J)(hl:yr.length≤1) :
  ∃ b ep H3,aU J 5 none (.c cy) (vi yr.length)=some (.c (.ptr b (yr.length*5) ep))∧stC J (.ptr b (yr.length*5+1) ep) [.f (fi 5)]=some H3 ∧
   ∀ t',t'.g 1=.c (.ptr 0 0 0)→t'.g 2=.c (.ptr 1 0 0)→t'.g 3=.c (.ptr 3 0 0)→ZI x cs c s h tr ct (yr++[⟨q.mo,5,q.wd,q.mi,q.off⟩]) cy t' H3:=by
 rcases k.ly with⟨h1,_⟩ | ⟨_,b,ep,e,hb⟩
 ·simp [bT]at h1
 subst e
 unfold RB at hb
 have hbx:∀(i:Nat) (l:List C) (fl:Nat),J[i]?=some (.box l fl)→b≠i:=by
  rintro i l fl hi rfl;rw [hb]at hi;cases hi
 have hbt:cO ct≠some b:=fun e=>k.ne b e rfl
 have key:∃ cs',stC J (.ptr b (yr.length*5+1) ep) [.f (fi 5)]=some (J.set b (.opn 5 cs' 0 ep .loc))∧cs'=(bT (yr++[⟨q.mo,5,q.wd,q.mi,q.off⟩])).flatten.map .f:=by
  match yr,hl,hb with
  | [],_,hb=>exact⟨_,by simp [stC,hb,over,bT,YrD.row];rfl,by simp [bT,YrD.row]⟩
  | [p],_,hb=>exact⟨_,by simp [stC,hb,over,bT,YrD.row];rfl,by simp [bT,YrD.row]⟩
  | _::_::_,hl,_=>simp at hl
 obtain⟨cs',hst,hcs⟩:=key
 refine⟨b,ep,_,?_,hst,fun t' g1 g2 g3=>?_⟩
 ·simp [aU,iK,hb]
  omega
 refine⟨?_,?_,?_,?_,?_,?_,?_,g1,g2,g3⟩
 ·rw [ag (hbx _ _ _ k.raw)];exact k.raw
 ·rw [ag (hbx _ _ _ k.res)];exact k.res
 ·exact k.cal.keep' fun i l fl h _=>⟨fl,by rw [ag (hbx _ _ _ h)];exact h⟩
 ·rw [ag (hbx _ _ _ k.zb)];exact k.zb
 ·exact k.lt.set hbt _
 ·refine .inr ⟨by simp [bT],b,ep,?_,?_⟩
  ·simp
  ·unfold RB
   rw [ax (aF hb),hcs]
 ·exact k.ne
end Go.Proofs.YthfeogjbpgocbaaGreat
end
section
namespace Go.Proofs.YthfeogjbpgocbaaGreat
open Go Km
set_option maxRecDepth 100000 in
theorem aNK{x:kE}(hx:x.OK){cs:List C}{c:Nat}{s h:Int}{tr:List TrD}{ct:C}{yr:List YrD}{cy:C}{t:T}{J:Heap}(k:ZI x cs c s h tr ct yr cy t J){j:Nat}(hj:j<2)(hjl:yr.length=j)(g6:t.g 6=vi j){K:List dI}{Q:Option ah→St→Prop}
  (next:∀(t:T) (J:Heap) (q:YrD) (cy:C),q.OK→ZI x cs c s h tr ct (yr++[q]) cy t J→t.g 6=vi j→WP tab.get nJ none K ⟨t,[],J⟩ Q) :
  WP tab.get nJ none (.code F5::K) ⟨t,[],J⟩ Q:=by
 have y0:=hx.y j 0 hj (by decide)
 have y1:=hx.y j 1 hj (by decide)
 have y2:=hx.y j 2 hj (by decide)
 have y3:=hx.y j 3 hj (by decide)
 have lr:=aSC k.raw hj
 have hib:aU J 4 (some 2) (.c (.ptr 0 4 0)) (vi j)=some (.c (.ptr 0 (4+j*4) 0)):=by simp [aU,iK];omega
 refine aN (ak (aj (.inl rfl) ?_))
 simp [k.g1,g6,hib,lr,-aH]
 obtain⟨J1,hJ1⟩:∃ J1:Heap,J1=J++[.box [.f (u8 (x.y j 0)),.f (u8 (x.y j 1)),.f (u8 (x.y j 2)),.f (u8 (x.y j 3))] 0]:=⟨_,rfl⟩
 rw [←hJ1]
 have up:∀ i y,J[i]?=some y→J1[i]?=some y:=fun i y hy=>by rw [hJ1,ai (aF hy)];exact hy
 have eb:J1[J.length]?=some (.box [.f (u8 (x.y j 0)),.f (u8 (x.y j 1)),.f (u8 (x.y j 2)),.f (u8 (x.y j 3))] 0):=by rw [hJ1];simp
 have k1:∀ t',t'.g 1=.c (.ptr 0 0 0)→t'.g 2=.c (.ptr 1 0 0)→t'.g 3=.c (.ptr 3 0 0)→ZI x cs c s h tr ct yr cy t' J1:=fun t' g1 g2 g3=>
  ⟨up _ _ k.raw,up _ _ k.res,k.cal.keep fun i y hy _=>up i y hy,up _ _ k.zb,by rw [hJ1];exact k.lt.push _,by rw [hJ1];exact k.ly.push _,k.ne,g1,g2,g3⟩
 have n3:J.length≠3:=by have:=aF k.zb;omega
 have k1':=k1 t k.g1 k.g2 k.g3
 have l0:ldV J1 none (.c (.ptr J.length 0 0))=some (.c (.f (u8 (x.y j 0)))):=by simp [ldV,aO,eb,aS]
 have l1:ldV J1 none (.c (.ptr J.length 1 0))=some (.c (.f (u8 (x.y j 1)))):=by simp [ldV,aO,eb,aS]
 have l2:ldV J1 none (.c (.ptr J.length 2 0))=some (.c (.f (u8 (x.y j 2)))):=by simp [ldV,aO,eb,aS]
 have i0:aU J1 1 (some 4) (.c (.ptr J.length 0 0)) (vi 0)=some (.c (.ptr J.length 0 0)):=by simp [aU,iK]
 have i1:aU J1 1 (some 4) (.c (.ptr J.length 0 0)) (vi 1)=some (.c (.ptr J.length 1 0)):=by simp [aU,iK]
 have i2:aU J1 1 (some 4) (.c (.ptr J.length 0 0)) (vi 2)=some (.c (.ptr J.length 2 0)):=by simp [aU,iK]
 have r0:bU .rem (.c (.f (u8 (x.y j 0)))) (.c (.f (.int .u8 3)))=some (.c (.f (u8 (x.y j 0 % 3)))):=xY _ (by decide)
 have r2:bU .rem (.c (.f (u8 (x.y j 2)))) (.c (.f (.int .u8 5)))=some (.c (.f (u8 (x.y j 2 % 5)))):=xY _ (by decide)
 have r3:bU .rem (.c (.f (u8 (x.y j 3)))) (.c (.f (.int .u8 2)))=some (.c (.f (u8 (x.y j 3 % 2)))):=xY _ (by decide)
 have hso:=Gp (n:=x.y j 2 % 5) (by omega)
 have w0:IntKind.i64.wrap (1+(j:Int))=1+(j:Int):=wrap64 (by omega) (by omega)
 have w1:IntKind.i64.wrap ((x.y j 0:Int) % 3)=(x.y j 0:Int) % 3:=wrap64 (by omega) (by omega)
 have w2:IntKind.i64.wrap ((x.y j 1:Nat):Int)=((x.y j 1:Nat):Int):=wrap64 (by omega) (by omega)
 have w3:IntKind.i64.wrap (((x.y j 1:Nat):Int)*5)=((x.y j 1:Nat):Int)*5:=wrap64 (by omega) (by omega)
 obtain⟨c3,H3,happ,hst,hbk,hk⟩:=k1'.aEq (by omega) ⟨1+(j:Int),1,(x.y j 0:Int) % 3,((x.y j 1:Nat):Int)*5,qx (x.y j 2 % 5)⟩
 have hq1:YrD.OK ⟨1+(j:Int),1,(x.y j 0:Int) % 3,((x.y j 1:Nat):Int)*5,qx (x.y j 2 % 5)⟩:=
  ⟨by simp only;omega,.inl rfl,by simp only;omega,by simp only;omega,by simp only;omega,by simp only;omega,(oN _).1,(oN _).2⟩
 have hq5:YrD.OK ⟨1+(j:Int),5,(x.y j 0:Int) % 3,((x.y j 1:Nat):Int)*5,qx (x.y j 2 % 5)⟩:=
  ⟨by simp only;omega,.inr rfl,by simp only;omega,by simp only;omega,by simp only;omega,by simp only;omega,(oN _).1,(oN _).2⟩
 simp only [YrD.row,aR,bj]at happ
 refine ak (aj (.inl rfl) ?_)
 simp [k.g3,g6,aDQ k1'.cal k1'.zb,-aH,i0,i1,i2,l0,l1,l2,r0,r2,hso,w0,w1,w2,w3,happ,hst,-bI]
 obtain⟨J4,hJ4⟩:∃ J4:Heap,J4=H3.set 3 (qJ cs s ct h c3):=⟨_,rfl⟩
 rw [←hJ4]at hk hbk ⊢
 have eb4:=hbk _ _ _ eb n3
 have l3:ldV J4 none (.c (.ptr J.length 3 0))=some (.c (.f (u8 (x.y j 3)))):=by simp [ldV,aO,eb4,aS]
 have i3:aU J4 1 (some 4) (.c (.ptr J.length 0 0)) (vi 3)=some (.c (.ptr J.length 3 0)):=by simp [aU,iK]
 have hk':=hk t k.g1 k.g2 k.g3
 refine ak (aj (.inl rfl) ?_)
 by_cases h3:x.y j 3 % 2=1
 ·simp [i3,l3,r3,-aH,h3]
  refine aB (by simp) (aj (.inl rfl) ?_)
  obtain⟨b,ep,H5,hix,hst5,hk5⟩:=hk'.aEp (by omega)
  rw [hjl]at hix hst5
  simp [k.g3,g6,aDQ hk'.cal hk'.zb,-aH,hix,hst5,-bI]
  exact aK (next _ _ _ _ hq5 (hk5 _ (by simp [k.g1]) (by simp [k.g2]) (by simp [k.g3])) (by simp [g6]))
 ·have h3':x.y j 3 % 2=0:=by omega
  simp [i3,l3,r3,-aH,h3']
  refine ay (by simp) (aG ?_)
  exact aK (next _ _ _ _ hq1 (hk _ (by simp [k.g1]) (by simp [k.g2]) (by simp [k.g3])) (by simp [g6]))
end Go.Proofs.YthfeogjbpgocbaaGreat
end
section
namespace Go.Proofs.YthfeogjbpgocbaaGreat
open Go Km
set_option maxRecDepth 100000 in
theorem made2{x:kE}(hx:x.OK){cs:List C}{c:Nat}{s h:Int}{tr:List TrD}{ct:C}{t:T}{J:Heap}(k:ZI x cs c s h tr ct [] (.f .aA) t J)(hs:-1080≤s∧s≤1080)(htl:tr.length≤3)(htb:∀ y ∈ tr,0≤y.at_∧y.at_<h∧-1080≤y.off∧y.off≤1080)
  (hts:∀(i:Nat) a b,tr[i]?=some a→tr[i+1]?=some b→a.at_+2160≤b.at_) (hh:0≤h∧h≤40000) {Q:Option ah→St→Prop}
  (hQ:∀ j s z o,OKZ z o→xP [.cell (P.nat 2) (some 8)] (.a (z.row.map .f)) s→Q j s) :
  WP tab.get nJ none [.code zk] ⟨t,[],J⟩ Q:=by
 have hc:=k.cal.lt
 have pre:∀(tg yg:Tg) (yr:List YrD),aAV ⟨c,s,tg,tr,h,yg,yr⟩:=fun tg yg yr=>⟨hc,hs,htl,htb,hts,hh⟩
 refine ak (ak (aj (.inl rfl) ?_))
 cases hr:x.rules with
 | false=>
  simp [k.g1,Jt k.raw,-aH,hr]
  refine aB (by simp) (ak (aj (.inl rfl) ?_))
  obtain⟨z,o,J',hz,hst,hf⟩:=k.e.fin ⟨.nil,.nil,[],(pre .nil .nil []).none rfl⟩ (((t.s 77 (.c (.ptr 0 13 0))).s 78 (vb false)).s 79 (vb true) |>.s 80 (.a (cs++[.f (fi s),ct,.f (fi h),.f .aA]))) (by simp [k.g2])
  have hl4:cs.length=4:=by obtain⟨a,b,d,e,e4⟩:=k.cal.four;rw [e4];rfl
  simp [k.g2,k.g3,LV k.cal k.zb,-aH,hl4,hst,-bI]
  exact aP (hQ _ _ z o hz hf)
 | true=>
  simp [k.g1,Jt k.raw,-aH,hr]
  refine ay (by simp) (aG ?_)
  refine ak (ak (aj (.inl rfl) ?_))
  simp
  refine kS 2 (fun j t J=>∃ yr cy,yr.length=j∧(∀ q ∈ yr,q.OK)∧ZI x cs c s h tr ct yr cy t J) (by decide) (by decide) (by simp)
   ⟨[],_,rfl,by simp,⟨k.raw,k.res,k.cal,k.zb,k.lt,k.ly,k.ne,by simp [k.g1],by simp [k.g2],by simp [k.g3]⟩⟩ ?_ ?_ ?_
  ·rintro j t J L hj ⟨yr,cy,hyl,hyo,k⟩ ha hn
   simp [ha]
   exact hn _ ⟨yr,cy,hyl,hyo,⟨k.raw,k.res,k.cal,k.zb,k.lt,k.ly,k.ne,by simp [k.g1],by simp [k.g2],by simp [k.g3]⟩⟩ (by simp [ha]) (by simp)
  ·rintro j t J hj ⟨yr,cy,hyl,hyo,k⟩ ha nx
   refine aNK hx k hj hyl ha fun t J q cy hq k g6=>?_
   refine nx _ _ ⟨yr++[q],cy,by simp;omega,fun p hp=>?_,⟨k.raw,k.res,k.cal,k.zb,k.lt,k.ly,k.ne,by simp [k.g1],by simp [k.g2],by simp [k.g3]⟩⟩ g6
   rcases ba.1 hp with hp | hp
   ·exact hyo p hp
   ·simp at hp;subst hp;exact hq
  rintro t J ⟨yr,cy,hyl,hyo,k⟩ ha
  obtain⟨r,q,rfl⟩:∃ r q,yr=[r,q]:=by
   match yr,hyl with
   | [r,q],_=>exact⟨r,q,rfl⟩
  obtain⟨tg,yg,hex⟩:=k.e.ex
  obtain⟨e,hv,he⟩:=L8 (pre tg yg [r,q]) (r:=r) (q:=q) rfl (hyo r (by simp)) (hyo q (by simp))
  have hex':=hex J (fun _ _ h _=>h)
  have hvv:dN deep J (.a (cs++[.f (fi s),ct,.f (fi h),cy]))=some (ZD.v ⟨c,s,tg,tr,h,yg,[r,q]⟩):=by
   simp only [dN,deep,hex'];rfl
  have tail:∀(t:T) (J:Heap) (yr:List YrD) (cy:C),ZE cs c s h tr ct yr cy J→t.g 2=.c (.ptr 1 0 0)→t.g 3=.c (.ptr 3 0 0)→(∃ tg yg o,OKZ ⟨c,s,tg,tr,h,yg,yr⟩ o)→WP tab.get nJ none [.code FZ] ⟨t,[],J⟩ Q:=by
   intro t J yr cy k g2 g3 ho
   refine ak (aj (.inl rfl) ?_)
   obtain⟨z,o,J',hz,hst,hf⟩:=k.fin ho (t.s 122 (.a (cs++[.f (fi s),ct,.f (fi h),cy]))) (by simp [g2])
   have hl4:cs.length=4:=by obtain⟨a,b,d,e,e4⟩:=k.cal.four;rw [e4];rfl
   simp [g2,g3,LV k.cal k.zb,-aH,hl4,hst,-bI]
   exact aP (hQ _ _ z o hz hf)
  have km:=k.e.marked
  refine ak (ak (aj (.inl rfl) ?_))
  simp only [dN]at hvv
  simp [k.g3,LV k.cal k.zb,-aH]
  simp only [hvv,bX,aAY,hv,aQj]
  obtain⟨J5,hJ5⟩:∃ J5,J5=mkC deep cy (mkC deep ct (List.foldl (fun H x=>mkC deep x H) J cs)):=⟨_,rfl⟩
  rw [←hJ5]at km ⊢
  simp
  by_cases h0:e=0
  ·subst h0
   obtain⟨o,ho⟩:=he rfl
   simp
   refine ay (by simp) (aG ?_)
   exact tail _ _ _ _ km (by simp [k.g2]) (by simp [k.g3]) ⟨_,_,o,ho⟩
  ·simp [h0]
   refine aB (by simp) (aj (.inl rfl) ?_)
   simp [k.g3,aDP km.cal km.zb,-bI]
   refine tail _ _ [] (.f .aA) ⟨?_,?_,?_,?_,.inl ⟨rfl,.inl rfl⟩⟩ (by simp [k.g2]) (by simp [k.g3]) ⟨.nil,.nil,[],(pre .nil .nil []).none rfl⟩
   ·rw [ag (by decide)];exact km.res
   ·exact km.cal.keep fun i y hy hi=>by rw [ag (by omega)];exact hy
   ·exact ax (aF km.zb)
   ·exact km.lt.keep fun i s l fl ep st h=>⟨fl,by rw [ag (by rintro rfl;rw [km.zb]at h;cases h)];exact h⟩
end Go.Proofs.YthfeogjbpgocbaaGreat
end
section
namespace Go.Proofs.YthfeogjbpgocbaaGreat
open Go Km
set_option maxRecDepth 100000 in
theorem U3{x:kE}(hx:x.OK):∃ z o,OKZ z o∧Km.Pure tab.get nJ [.a (x.row.map .f)]=Eq (.a (z.row.map .f)):=by
 obtain⟨rr,⟨z,o,hz,rfl⟩,hp⟩:∃ rr,(∃ z o,OKZ z o∧rr=.a (z.row.map .f))∧Km.Pure tab.get nJ [.a (x.row.map .f)] rr:=by
  refine iM aK4 rfl fun Q hQ=>?_
  have hQ':∀ j s z o,OKZ z o→xP [.cell (P.nat 2) (some 8)] (.a (z.row.map .f)) s→Q j s:=fun j s z o h1 h2=>hQ j s _ ⟨z,o,h1,rfl⟩ h2
  have hs:=oN x.st
  have hso:=Gp hx.st
  have fK:=hx.cal
  have rest:∀(t:T) (J:Heap) (cs:List C) (c:Nat),ZI x cs c (qx x.st) 0 [] (.f .aA) [] (.f .aA) t J→WP tab.get nJ none [.code Dv] ⟨t,[],J⟩ Q:=fun t J cs c k=>
   made1 hx k fun t J tr ct h k htl htb hts hh=>made2 hx k hs htl htb hts hh hQ'
  refine ak (aj (.inl rfl) ?_)
  simp
  obtain⟨B0,hB0⟩:∃ B0:Blk,B0=.box (x.row.map .f) 0:=⟨_,rfl⟩
  rw [←hB0]
  have l0:∀(b1:Blk) (J:Heap),ldV (B0::b1::J) none (.c (.ptr 0 0 0))=some (.c (.f (u8 x.st))):=fun b1 J=>by simp [ldV,aO,hB0,aS,kE.row]
  have l12:∀(b1:Blk) (J:Heap),ldV (B0::b1::J) none (.c (.ptr 0 12 0))=some (.c (.f (u8 x.cal))):=fun b1 J=>by simp [ldV,aO,hB0,aS,kE.row]
  have r2:bU .rem (.c (.f (u8 x.cal))) (.c (.f (.int .u8 2)))=some (.c (.f (u8 (x.cal % 2)))):=xY _ (by decide)
  have q2:bU .quo (.c (.f (u8 x.cal))) (.c (.f (.int .u8 2)))=some (.c (.f (u8 (x.cal / 2)))):=u8_quo fK (by decide)
  have r4:bU .rem (.c (.f (u8 (x.cal / 2)))) (.c (.f (.int .u8 2)))=some (.c (.f (u8 (x.cal / 2 % 2)))):=xY _ (by decide)
  have w4:IntKind.i64.wrap ((x.cal:Int) / 2 % 2)=(x.cal:Int) / 2 % 2:=wrap64 (by omega) (by omega)
  refine ak (aj (.inl rfl) ?_)
  simp [l0,-aH,hso]
  refine ak (ak (aj (.inl rfl) ?_))
  by_cases hodd:x.cal % 2=1
  ·simp [l12,-aH,r2,hodd]
   refine aB (by simp) (aj (.inl rfl) ?_)
   simp [l12,-aH,q2,r4,w4]
   refine rest _ _ [.f (fi 5),.sl 4 0 2 2 0 1,.f (fi 1),.sl 5 0 1 1 0 3] (x.cal / 2 % 2+1) ⟨by rw [hB0];rfl,rfl,.inr ⟨x.cal / 2 % 2,by omega,rfl,rfl,⟨0,rfl⟩,0,rfl⟩,rfl,LR.nil _ _,LR.nil _ _,(fun i h=>by cases h),by simp,by simp,by simp⟩
  ·have h0:x.cal % 2=0:=by omega
   simp [l12,-aH,r2,h0]
   refine ay (by simp) (aG ?_)
   refine rest _ _ [.f (fi 2),.sl 2 0 2 2 0 1,.f (fi (-1)),.f .aA] 0 ⟨by rw [hB0];rfl,rfl,.inl ⟨rfl,rfl,0,rfl⟩,rfl,LR.nil _ _,LR.nil _ _,(fun i h=>by cases h),by simp,by simp,by simp⟩
 exact⟨z,o,hz,hp.eq⟩
end Go.Proofs.YthfeogjbpgocbaaGreat
end
section
namespace Go.Proofs.YthfeogjbpgocbaaGreat
open Go Km
def atN(b:List Nat)(i:Nat):Nat:=b[i]?.getD 0
theorem Iw{b:List Nat}(h:∀ n ∈ b,n<256)(i:Nat):atN b i<256:=by
 unfold atN
 by_cases hi:i<b.length
 ·rw [ae hi];exact h _ (av hi)
 ·rw [cC.2 (by omega)];decide
theorem ES(g:Tg)(b:List Nat)(hb:∀ n ∈ b,n<256)(hl:b.length≤9223372036854775807)(i:Nat)(hi:i≤1000):Km.Pure tab.get kD [.c (.f (sl g (fB b))),vi i]=Eq (vi (atN b i:Nat)):=Km.Pure.eq (by
 refine cu aK7 rfl fun Q hQ=>?_
 refine ak (aj (.inl rfl) ?_)
 simp
 refine ak (ak (aj (.inl rfl) ?_))
 simp
 by_cases h:i<b.length
 ·have h1:=ug (g:=g) h (H:=[])
  have h2:=wS h (H:=[])
  have h3:=hb _ (av h)
  have w:IntKind.i64.wrap ((b[i]:Nat):Int)=((b[i]:Nat):Int):=wrap64 (by omega) (by omega)
  refine aB (by simp [h]) (ak (aj (.inl rfl) ?_))
  simp [h1,h2,w]
  refine aP (hQ _ _ ?_)
  simp [atN,ae h]
 ·refine ay (by simp [h]) (aG ?_)
  refine ak (aj (.inl rfl) ?_)
  simp
  refine aP (hQ _ _ ?_)
  simp [atN,cC.2 (show b.length≤i by omega)])
theorem Ec{limit:Int}:∀ {l:List Int} {last:Int},(∀ x ∈ l,last<x∧x<limit)→l.Pairwise (· < ·)→gI limit last l=true
 | [],_,_,_=>rfl
 | n::r,last,h,hp=>by
  have h0:=h n aE
  rw [List.pairwise_cons]at hp
  simp only [gI,decide_eq_true h0.1,decide_eq_true h0.2,Bool.true_and]
  exact Ec (fun x hx=>⟨hp.1 x hx,(h x (a8 _ hx)).2⟩) hp.2
def Up(l:List Int)(n:Nat):Prop:=(∀ x ∈ l,0≤x∧x<n)∧l.Pairwise (· < ·)∧l.length≤n
theorem Up.nil:Up [] 0:=⟨by simp,List.Pairwise.nil,by simp⟩
theorem Up.skip{l:List Int}{n:Nat}(h:Up l n):Up l (n+1):=⟨fun x hx=>by have:=h.1 x hx;omega,h.2.1,by have:=h.2.2;omega⟩
theorem Up.app{l:List Int}{n:Nat}(h:Up l n):Up (l++[(n:Int)]) (n+1):=by
 refine⟨fun x hx=>?_,?_,by simp;exact h.2.2⟩
 ·rcases ba.1 hx with hx | hx
  ·have:=h.1 x hx;omega
  ·simp at hx;subst hx;omega
 ·rw [cR]
  exact⟨h.2.1,cQ _ _,fun a ha b hb=>by simp at hb;subst hb;have:=h.1 a ha;omega⟩
theorem Up.rising{l:List Int}{n:Nat}(h:Up l n):gI n (-1) l=true:=Ec (fun x hx=>by have:=h.1 x hx;omega) h.2.1
theorem kN(l:List Int):Grid 1 (ints l):=Grid.map fun _=>rfl
structure FI(b:V)(fr per:Nat)(hd cy:List Int)(ch cc:C)(t:T)(J:Heap):Prop where
 res:J[0]?=some (.box [.f .aA,.f (fi 0),.f (fi 0),.f .aA] 0)
 pb:J[1]?=some (.box [ch,.f (fi fr),.f (fi per),cc] 0)
 lh:LR J ch 1 (ints hd)
 lc:LR J cc 1 (ints cy)
 ne:∀ i,cO ch=some i→cO cc≠some i
 g0:t.g 0=b
 g2:t.g 2=.c (.ptr 0 0 0)
 g3:t.g 3=.c (.ptr 1 0 0)
section
variable{b:V}{fr per:Nat}{hd cy:List Int}{ch cc:C}{t:T}{J:Heap}
theorem FI.to(k:FI b fr per hd cy ch cc t J){t':T}(g0:t'.g 0=b)(g2:t'.g 2=.c (.ptr 0 0 0))(g3:t'.g 3=.c (.ptr 1 0 0)):FI b fr per hd cy ch cc t' J:=⟨k.res,k.pb,k.lh,k.lc,k.ne,g0,g2,g3⟩
theorem FI.aAH(k:FI b fr per hd cy ch cc t J)(hl:cy.length≤1000)(n:Int) :
  ∃ c3 H3,bP (J++[.box [.f (fi n)] 0]) 1 8 (.c cc) (.c (.sl J.length 0 1 1 0 1))=some (.c c3,H3)∧stC H3 (.ptr 1 3 0) [c3]=some (H3.set 1 (.box [ch,.f (fi fr),.f (fi per),c3] 0)) ∧
   ∀ t':T,t'.g 0=b→t'.g 2=.c (.ptr 0 0 0)→t'.g 3=.c (.ptr 1 0 0)→FI b fr per hd (cy++[n]) ch c3 t' (H3.set 1 (.box [ch,.f (fi fr),.f (fi per),c3] 0)):=by
 obtain⟨J2,hJ2⟩:∃ J2:Heap,J2=J++[.box ([fi n].map .f) 0]:=⟨_,rfl⟩
 have up:∀ i y,J[i]?=some y→J2[i]?=some y:=fun i y hy=>by rw [hJ2,ai (aF hy)];exact hy
 have hL2:LR J2 cc 1 (ints cy):=by rw [hJ2];exact k.lc.push _
 have hb2:J2[J.length]?=some (.box ([fi n].map .f) 0):=by rw [hJ2];simp
 obtain⟨c3,H3,happ,hL3,hK3,hc3⟩:=hL2.app (kN cy) (by decide) (row:=[fi n]) rfl (bytes:=8) (iy (by simp [ints];omega) (by decide)) hb2
 have up3:∀(i:Nat) (cs:List C) (fl:Nat),J[i]?=some (.box cs fl)→H3[i]?=some (.box cs fl):=fun i cs fl hy=>hK3.2 i _ (up _ _ hy) (hL2.dK (up _ _ hy))
 have hpb:=up3 _ _ _ k.pb
 have e3:ints cy++[[fi n]]=ints (cy++[n]):=by simp [ints]
 rw [e3]at hL3
 have hLh:LR H3 ch 1 (ints hd):=k.lh.keep fun i y hy hi=>hK3.2 i y (up _ _ hy) (k.ne i hi)
 refine⟨c3,H3,by rw [hJ2]at happ;exact happ,by simp [stC,hpb,over],fun t' g0 g2 g3=>⟨?_,ax (aF hpb),hLh.set (hLh.dK hpb) _,hL3.set (hL3.dK hpb) _,?_,g0,g2,g3⟩⟩
 ·rw [ag (by decide)];exact up3 _ _ _ k.res
 ·intro i hi
  rcases hc3 with e | e
  ·rw [e];exact k.ne i hi
  ·rw [e]
   intro e'
   cases e'
   have:=k.lh.lt hi
   have h2:J2.length=J.length+1:=by rw [hJ2];simp
   omega
theorem FI.akF(k:FI b fr per hd cy ch cc t J)(hl:hd.length≤1000)(n:Int) :
  ∃ c3 H3,bP (J++[.box [.f (fi n)] 0]) 1 8 (.c ch) (.c (.sl J.length 0 1 1 0 1))=some (.c c3,H3)∧stC H3 (.ptr 1 0 0) [c3]=some (H3.set 1 (.box [c3,.f (fi fr),.f (fi per),cc] 0)) ∧
   ∀ t':T,t'.g 0=b→t'.g 2=.c (.ptr 0 0 0)→t'.g 3=.c (.ptr 1 0 0)→FI b fr per (hd++[n]) cy c3 cc t' (H3.set 1 (.box [c3,.f (fi fr),.f (fi per),cc] 0)):=by
 obtain⟨J2,hJ2⟩:∃ J2:Heap,J2=J++[.box ([fi n].map .f) 0]:=⟨_,rfl⟩
 have up:∀ i y,J[i]?=some y→J2[i]?=some y:=fun i y hy=>by rw [hJ2,ai (aF hy)];exact hy
 have hL2:LR J2 ch 1 (ints hd):=by rw [hJ2];exact k.lh.push _
 have hb2:J2[J.length]?=some (.box ([fi n].map .f) 0):=by rw [hJ2];simp
 obtain⟨c3,H3,happ,hL3,hK3,hc3⟩:=hL2.app (kN hd) (by decide) (row:=[fi n]) rfl (bytes:=8) (iy (by simp [ints];omega) (by decide)) hb2
 have up3:∀(i:Nat) (cs:List C) (fl:Nat),J[i]?=some (.box cs fl)→H3[i]?=some (.box cs fl):=fun i cs fl hy=>hK3.2 i _ (up _ _ hy) (hL2.dK (up _ _ hy))
 have hpb:=up3 _ _ _ k.pb
 have e3:ints hd++[[fi n]]=ints (hd++[n]):=by simp [ints]
 rw [e3]at hL3
 have hLc:LR H3 cc 1 (ints cy):=k.lc.keep fun i y hy hi=>hK3.2 i y (up _ _ hy) (fun e=>k.ne i e hi)
 refine⟨c3,H3,by rw [hJ2]at happ;exact happ,by simp [stC,hpb,over],fun t' g0 g2 g3=>⟨?_,ax (aF hpb),hL3.set (hL3.dK hpb) _,hLc.set (hLc.dK hpb) _,?_,g0,g2,g3⟩⟩
 ·rw [ag (by decide)];exact up3 _ _ _ k.res
 ·intro i hi hi'
  rcases hc3 with e | e
  ·rw [e]at hi;exact k.ne i hi hi'
  ·rw [e]at hi
   cases hi
   have:=k.lc.lt hi'
   have h2:J2.length=J.length+1:=by rw [hJ2];simp
   omega
end
end Go.Proofs.YthfeogjbpgocbaaGreat
end
section
namespace Go.Proofs.YthfeogjbpgocbaaGreat
open Go Km
theorem ai0(a:Int)(j:Nat):bU .shr (vi a) (vi j)=some (vi (a.fdiv (2 ^ (min j 64)))):=by
 have:¬ ((j:Int)<0):=by omega
 simp only [bU,this,if_false]
 rw [Int.toNat_natCast]
 rfl
theorem Rt(a:Int)(j:Nat):bU .rem (vi (a.fdiv (2 ^ (min j 64)))) (vi 2)=some (vi ((a.fdiv (2 ^ (min j 64))).tmod 2)):=by
 simp [bU,nK,V.int]
set_option maxRecDepth 100000 in
theorem DL(g:Tg){b:List Nat}(hb:∀ n ∈ b,n<256)(hbl:b.length≤9223372036854775807) :
  ∃ p:dn,jS p=true∧Km.Pure tab.get IZ [.c (.f (sl g (fB b)))]=Eq (.a (p.row.map .f)):=by
 obtain⟨rr,⟨p,hp,rfl⟩,hpp⟩:∃ rr,(∃ p:dn,jS p=true∧rr=.a (p.row.map .f))∧Km.Pure tab.get IZ [.c (.f (sl g (fB b)))] rr:=by
  refine iM aK8 rfl fun Q hQ=>?_
  have a0:Km.Pure tab.get kD [.c (.f (sl g (fB b))),vi 0]=Eq (vi (atN b 0:Nat)):=ES g b hb hbl 0 (by decide)
  have a1:Km.Pure tab.get kD [.c (.f (sl g (fB b))),vi 1]=Eq (vi (atN b 1:Nat)):=ES g b hb hbl 1 (by decide)
  have a2:Km.Pure tab.get kD [.c (.f (sl g (fB b))),vi 2]=Eq (vi (atN b 2:Nat)):=ES g b hb hbl 2 (by decide)
  have a3:Km.Pure tab.get kD [.c (.f (sl g (fB b))),vi 3]=Eq (vi (atN b 3:Nat)):=ES g b hb hbl 3 (by decide)
  have a4:Km.Pure tab.get kD [.c (.f (sl g (fB b))),vi 4]=Eq (vi (atN b 4:Nat)):=ES g b hb hbl 4 (by decide)
  have b0:=Iw hb 0
  have b1:=Iw hb 1
  have b2:=Iw hb 2
  have b3:=Iw hb 3
  obtain⟨fr,hfr⟩:∃ fr:Nat,fr=atN b 1 % 9:=⟨_,rfl⟩
  obtain⟨per,aS4⟩:∃ per:Nat,per=1+atN b 0 % 12:=⟨_,rfl⟩
  have r1:bU .rem (vi (atN b 1:Nat)) (vi 9)=some (vi fr):=by rw [oq (by omega) (by decide),hfr];simp
  have r0:bU .rem (vi (atN b 0:Nat)) (vi 12)=some (vi (atN b 0 % 12:Nat)):=by rw [oq (by omega) (by decide)];simp
  have w0:IntKind.i64.wrap (1+(atN b 0:Int) % 12)=per:=by rw [wrap64 (by omega) (by omega),aS4];simp
  have w3:IntKind.i64.wrap (256*(atN b 3:Int))=256*(atN b 3:Int):=wrap64 (by omega) (by omega)
  obtain⟨bits,aOl⟩:∃ x,x=IntKind.i64.wrap ((atN b 2:Int)+256*(atN b 3:Int)):=⟨_,rfl⟩
  refine ak (aj (.inl rfl) ?_)
  simp
  refine ak (aj (.inl rfl) ?_)
  simp [a0,a1,r0,r1,w0]
  refine ak (aj (.inl rfl) ?_)
  simp [a2,a3,w3,←aOl]
  refine ak (ak (aj (.inl rfl) ?_))
  simp
  refine kS per (fun j t J=>∃ cy cc,Up cy j∧FI (.c (.f (sl g (fB b)))) fr per [] cy (.f .aA) cc t J∧t.g 4=vi bits) (by omega) (by decide) (by simp)
   ⟨[],.f .aA,Up.nil,⟨rfl,rfl,LR.nil _ _,LR.nil _ _,(fun i h=>by cases h),by simp,by simp,by simp⟩,by simp⟩ ?_ ?_ ?_
  ·rintro j t J L hj ⟨cy,cc,hu,k,g4⟩ ha hn
   simp [ha,k.g3,k.pb,aS]
   exact hn _ ⟨cy,cc,hu,k.to (by simp [k.g0]) (by simp [k.g2]) (by simp [k.g3]),by simp [g4]⟩ (by simp [ha]) (by simp)
  ·rintro j t J hj ⟨cy,cc,hu,k,g4⟩ ha nx
   refine aN (ak (aj (.inl rfl) ?_))
   simp [ha,g4,ai0,Rt]
   by_cases h1:(bits.fdiv (2 ^ (min j 64))).tmod 2=1
   ·simp [h1]
    refine aB (by simp) (aj (.inl rfl) ?_)
    obtain⟨c3,H3,happ,hst,hk⟩:=k.aAH (by have:=hu.2.2;omega) j
    simp [ha,k.g3,k.pb,aS,happ,hst,-bI]
    refine aK (nx _ _ ⟨_,_,hu.app,hk _ (by simp [k.g0]) (by simp [k.g2]) (by simp [k.g3]),by simp [g4]⟩ (by simp [ha]))
   ·simp [h1]
    refine ay (by simp) (aG ?_)
    refine aK (nx _ _ ⟨_,_,hu.skip,k.to (by simp [k.g0]) (by simp [k.g2]) (by simp [k.g3]),by simp [g4]⟩ (by simp [ha]))
  rintro t J ⟨cy,cc,hu,k,g4⟩ ha
  refine ak (ak (aj (.inl rfl) ?_))
  simp
  refine kS fr (fun j t J=>∃ hd ch,Up hd j∧FI (.c (.f (sl g (fB b)))) fr per hd cy ch cc t J) (by omega) (by decide) (by simp)
   ⟨[],.f .aA,Up.nil,k.to (by simp [k.g0]) (by simp [k.g2]) (by simp [k.g3])⟩ ?_ ?_ ?_
  ·clear k g4 ha
   rintro j t J L hj ⟨hd,ch,hv,k⟩ ha hn
   simp [ha,k.g3,k.pb,aS]
   exact hn _ ⟨hd,ch,hv,k.to (by simp [k.g0]) (by simp [k.g2]) (by simp [k.g3])⟩ (by simp [ha]) (by simp)
  ·clear k g4 ha
   rintro j t J hj ⟨hd,ch,hv,k⟩ ha nx
   refine aN (ak (aj (.inl rfl) ?_))
   simp [ha,k.g0,a4,ai0,Rt]
   by_cases h1:((atN b 4:Int).fdiv (2 ^ (min j 64))).tmod 2=1
   ·simp [h1]
    refine aB (by simp) (aj (.inl rfl) ?_)
    obtain⟨c3,H3,happ,hst,hk⟩:=k.akF (by have:=hv.2.2;omega) j
    simp [ha,k.g3,k.pb,aS,happ,hst,-bI]
    refine aK (nx _ _ ⟨_,_,hv.app,hk _ (by simp [k.g0]) (by simp [k.g2]) (by simp [k.g3])⟩ (by simp [ha]))
   ·simp [h1]
    refine ay (by simp) (aG ?_)
    refine aK (nx _ _ ⟨_,_,hv.skip,k.to (by simp [k.g0]) (by simp [k.g2]) (by simp [k.g3])⟩ (by simp [ha]))
  clear k g4 ha
  rintro t J ⟨hd,ch,hv,k⟩ ha
  refine ak (aj (.inl rfl) ?_)
  simp [k.g2,k.g3,k.pb,k.res,aS]
  obtain⟨hg,hh⟩:=k.lh.exU (kN _)
  obtain⟨cg,hc⟩:=k.lc.exU (kN _)
  have hl0:=aF k.res
  have e1:=hh (J.set 0 (.box [ch,.f (fi fr),.f (fi per),cc] 0)) 63 fun i y hi he=>by
   rw [ag (by rintro rfl;exact k.lh.dK k.res he)];exact hi
  have e2:=hc (J.set 0 (.box [ch,.f (fi fr),.f (fi per),cc] 0)) 63 fun i y hi he=>by
   rw [ag (by rintro rfl;exact k.lc.dK k.res he)];exact hi
  refine aP (hQ _ _ _ ⟨⟨hg,hd,fr,per,cg,cy⟩,?_,rfl⟩ ⟨rfl,.a [ch,.f (fi fr),.f (fi per),cc],?_,?_⟩)
  ·have h1:=hu.2.2
   have h2:=hv.2.2
   have h3:=hu.rising
   have h4:=hv.rising
   simp [jS,h3,h4]
   omega
  ·simp [Km.results,dG,bC,k.g2,hl0,aS]
  ·simp [exV,dN,bC,deep,e1,e2,dn.row]
 exact⟨p,hp,hpp.eq⟩
end Go.Proofs.YthfeogjbpgocbaaGreat
end
section
namespace Go.Proofs.YthfeogjbpgocbaaGreat
open Go Km
def Inner(J:Heap)(c:C)(fs:List dn):Prop:=
 (∃ p m,fs=[p]∧c=.sl m 0 1 1 0 4∧J[m]?=some (.box (p.row.map .f) 0))∨(fs≠[]∧LR J c 4 (cZ fs))
theorem GK(fs:List dn)(q:dn):cZ fs++[q.row]=cZ (fs++[q]):=by simp [cZ]
section
variable{J J':Heap}{c:C}{fs:List dn}
theorem Inner.keep(h:Inner J c fs)(hk:∀ i y,J[i]?=some y→cO c=some i→J'[i]?=some y):Inner J' c fs:=by
 rcases h with⟨p,m,rfl,rfl,h⟩ | ⟨h,h2⟩
 ·exact .inl ⟨p,m,rfl,rfl,hk m _ h rfl⟩
 ·exact .inr ⟨h,h2.keep hk⟩
theorem Inner.push(h:Inner J c fs)(L:Heap):Inner (J++L) c fs:=h.keep fun i y hy _=>by rw [ai (aF hy)];exact hy
theorem Inner.len(h:Inner J c fs):bM J c=some fs.length:=by
 rcases h with⟨p,m,rfl,rfl,h⟩ | ⟨h,h2⟩
 ·simp [bM,h]
 ·simpa using h2.len
theorem Inner.blk(h:Inner J c fs):∃ m,cO c=some m∧m<J.length∧∀ cs fl ep st,J[m]?≠some (.opn 1 cs fl ep st):=by
 rcases h with⟨p,m,rfl,rfl,h⟩ | ⟨h,⟨h1,_⟩ | ⟨_,b,ep,rfl,hb⟩⟩
 ·exact⟨m,rfl,aF h,fun cs fl ep st e=>by rw [h]at e;cases e⟩
 ·exact absurd (by simpa [cZ]using h1) h
 ·unfold RB at hb
  exact⟨b,rfl,aF hb,fun cs fl ep st e=>by rw [hb]at e;cases e⟩
theorem Inner.app(h:Inner J c fs)(hl:fs.length≤10)(q:dn){b1:Nat}(hb1:J[b1]?=some (.box (q.row.map .f) 0)) :
  ∃ c' H',bP J 4 64 (.c c) (.c (.sl b1 0 1 1 0 4))=some (.c c',H')∧Inner H' c' (fs++[q])∧Kb J H' c∧(cO c'=cO c∨cO c'=some J.length):=by
 rcases h with⟨p,m,rfl,rfl,h⟩ | ⟨h,h2⟩
 ·have hadd:fE J 4 (.c (.sl b1 0 1 1 0 4))=some (1,q.row.map .f):=yS hb1 rfl
  have hroom:bV 2 64=true:=iy (by decide) (by decide)
  refine⟨.sl J.length 0 2 0 0 4,J++[.opn 4 (p.row.map .f++q.row.map .f) 0 0 .loc],?_,.inr ⟨by simp,.inr ⟨by simp [cZ],J.length,0,rfl,?_⟩⟩,Kb.push _ _ _,.inr rfl⟩
  ·simp [bP,hadd,h,hroom,dn.row]
  ·unfold RB;simp [cZ]
 ·obtain⟨c3,H3,happ,hL3,hK3,hc3⟩:=h2.app (lT fs) (by decide) (row:=q.row) rfl (bytes:=64) (iy (by simp;omega) (by decide)) hb1
  exact⟨c3,H3,happ,.inr ⟨by simp,GK fs q▸hL3⟩,hK3,hc3⟩
theorem Inner.ex(h:Inner J c fs)(n:Nat):exC (n+1) J c=some (sl .fs (cZ fs)):=by
 rcases h with⟨p,m,rfl,rfl,h⟩ | ⟨h,h2⟩
 ·simp [zJ,h,cZ,sl,dn.row,bC]
 ·obtain⟨g,e⟩:=h2.ex (lT fs) n
  rw [e,aiX (g':=.fs) (by simpa [cZ]using h)]
end
inductive Fa2{α β:Type}(R:α→β→Prop):List α→List β→Prop
 | nil:Fa2 R [] []
 | cons {a b l m}:R a b→Fa2 R l m→Fa2 R (a::l) (b::m)
def TL(J:Heap)(ct:C)(ts:List (List dn)):Prop:=(ts=[]∧ct=.f .aA) ∨
 (ts≠[]∧∃ b ep cs,ct=.sl b 0 ts.length 0 ep 1∧J[b]?=some (.opn 1 cs 0 ep .loc)∧Fa2 (Inner J) cs ts∧cs.Pairwise (fun a b=>cO a≠cO b))
theorem kY{α β:Type}{R S:α→β→Prop}:∀ {l:List α} {m:List β},Fa2 R l m→(∀ a b,a ∈ l→R a b→S a b)→Fa2 S l m
 | [],[],_,_=>.nil
 | a::l,b::m,.cons h t,hi=>.cons (hi a b aE h) (kY t fun x y hx=>hi x y (a8 _ hx))
theorem nS{α β:Type}{R:α→β→Prop}:∀ {l:List α} {m:List β},Fa2 R l m→l.length=m.length
 | [],[],_=>rfl
 | _::_,_::_,.cons _ t=>by simp [nS t]
theorem qc{α β:Type}{R:α→β→Prop}:∀ {l:List α} {m:List β},Fa2 R l m→∀ {a b},R a b→Fa2 R (l++[a]) (m++[b])
 | [],[],_,a,b,h=>.cons h .nil
 | _::_,_::_,.cons h t,a,b,h'=>.cons h (qc t h')
theorem sF{α β:Type}{R:α→β→Prop}:∀ {l:List α} {m:List β} {b:β},Fa2 R l (m++[b])→∃ l' a,l=l'++[a]∧Fa2 R l' m∧R a b
 | _,[],b,h=>by
  cases h with
  | cons h t=>cases t;exact⟨[],_,rfl,.nil,h⟩
 | _,y::m,b,h=>by
  cases h with
  | cons h t=>
   obtain⟨l',a,rfl,h1,h2⟩:=sF t
   exact⟨_::l',a,rfl,.cons h h1,h2⟩
theorem sG{α β:Type}{R:α→β→Prop}:∀ {l:List α} {m:List β},Fa2 R l m→∀ a ∈ l,∃ b,R a b
 | [],[],_,a,h=>by cases h
 | x::_,y::_,.cons h t,a,ha=>by
  rcases List.mem_cons.1 ha with rfl | ha
  ·exact⟨y,h⟩
  ·exact sG t a ha
section
variable{J J':Heap}{ct:C}{ts:List (List dn)}
theorem TL.keep(h:TL J ct ts)(hk:∀ i y,J[i]?=some y→i≠0→i≠1→J'[i]?=some y)(h0:∃ x fl,J[0]?=some (.box [x] fl))(h1:∃ x fl,J[1]?=some (.box [x] fl)):TL J' ct ts:=by
 obtain⟨x0,f0,h0⟩:=h0
 obtain⟨x1,f1,h1⟩:=h1
 rcases h with h | ⟨h,b,ep,cs,rfl,hb,hf,hp⟩
 ·exact .inl h
 ·refine .inr ⟨h,b,ep,cs,rfl,hk _ _ hb (by rintro rfl;rw [h0]at hb;cases hb) (by rintro rfl;rw [h1]at hb;cases hb),kY hf fun c fs _ hi=>hi.keep fun i y hy hi'=>hk i y hy ?_ ?_,hp⟩
  all_goals
   rintro rfl
   rcases hi with⟨p,m,rfl,rfl,hm⟩ | ⟨hne,⟨e,_⟩ | ⟨_,m,ep',rfl,hm⟩⟩
   ·cases hi'
    first | (rw [h0]at hm;simp [dn.row]at hm) | (rw [h1]at hm;simp [dn.row]at hm)
   ·exact hne (by simpa [cZ]using e)
   ·cases hi'
    unfold RB at hm
    first | (rw [h0]at hm;cases hm) | (rw [h1]at hm;cases hm)
theorem TL.push(h:TL J ct ts)(L:Heap):TL (J++L) ct ts:=by
 rcases h with h | ⟨h,b,ep,cs,rfl,hb,hf,hp⟩
 ·exact .inl h
 ·exact .inr ⟨h,b,ep,cs,rfl,by rw [ai (aF hb)];exact hb,kY hf fun c fs _ hi=>hi.push L,hp⟩
theorem TL.len(h:TL J ct ts):bM J ct=some ts.length:=by
 rcases h with⟨rfl,rfl⟩ | ⟨h,b,ep,cs,rfl,hb,hf,hp⟩
 ·rfl
 ·simp [bM,hb]
theorem wL{α β γ:Type}{R:α→β→Prop}{g:α→Option γ}{k:β→γ}(hg:∀ a b,R a b→g a=some (k b)):∀ {l:List α} {m:List β},Fa2 R l m→bC g l=some (m.map k)
 | [],[],_=>rfl
 | _::_,_::_,.cons h t=>by simp only [bC,hg _ _ h,wL hg t,aR]
theorem qC:∀ {l:List (List dn)},(l.map fun fs=>[sl .fs (cZ fs)]).flatten=l.map fun fs=>sl .fs (cZ fs)
 | []=>rfl
 | x::l=>by simp [qC (l:=l)]
theorem TL.ex(h:TL J ct ts)(n:Nat):∃ g,exC (n+2) J ct=some (sl g (termRows (ts.map fun fs=>⟨.fs,fs⟩))):=by
 rcases h with⟨rfl,rfl⟩ | ⟨h,b,ep,cs,rfl,hb,hf,hp⟩
 ·exact⟨.nil,rfl⟩
 ·refine⟨.fs,?_⟩
  have hl:=nS hf
  have hm:=wL (g:=exC (n+1) J) (k:=fun fs=>sl .fs (cZ fs)) (fun c fs hi=>hi.ex n) hf
  simp only [zJ,hb]
  rw [if_pos ⟨trivial,trivial,by omega⟩,List.drop_zero,bA (by omega),hm]
  have hne:¬ (termRows (ts.map fun fs=>(⟨.fs,fs⟩:TermD))).isEmpty=true:=by simpa [termRows]using h
  have e:(termRows (ts.map fun fs=>(⟨.fs,fs⟩:TermD))).flatten=ts.map fun fs=>sl .fs (cZ fs):=by
   simp only [termRows,List.map_map]
   exact qC
  have el:(termRows (ts.map fun fs=>(⟨.fs,fs⟩:TermD))).length=ts.length:=by simp
  have es:sl .fs (termRows (ts.map fun fs=>(⟨.fs,fs⟩:TermD)))=.fs (ts.map fun fs=>sl .fs (cZ fs)) ts.length:=by
   rw [←e,←el];unfold sl;rw [if_neg hne]
  rw [es];rfl
end
end Go.Proofs.YthfeogjbpgocbaaGreat
end
section
namespace Go.Proofs.YthfeogjbpgocbaaGreat
open Go Km
structure SI(J:Heap)(ct:C)(ts:List (List dn)):Prop where
 res:J[0]?=some (.box [.f .aA] 0)
 out:J[1]?=some (.box [ct] 0)
 tl:TL J ct ts
theorem SI.push{J:Heap}{ct:C}{ts:List (List dn)}(h:SI J ct ts)(L:Heap):SI (J++L) ct ts:=
 ⟨by rw [ai (aF h.res)];exact h.res,by rw [ai (aF h.out)];exact h.out,h.tl.push L⟩
theorem RG{R:C→C→Prop}{l:List C}{a:C}(h:l.Pairwise R)(ha:∀ x ∈ l,R x a):(l++[a]).Pairwise R:=by
 rw [cR]
 exact⟨h,cQ _ _,fun x hx y hy=>by simp at hy;subst hy;exact ha x hx⟩
theorem SI.new{J:Heap}{ct:C}{ts:List (List dn)}(h:SI J ct ts)(hl:ts.length≤10)(q:dn) :
  ∃ c' H',bP (J++[.box (q.row.map .f) 0]++[.box [.sl J.length 0 1 1 0 4] 0]) 1 24 (.c ct) (.c (.sl (J.length+1) 0 1 1 0 1))=some (.c c',H')∧stC H' (.ptr 1 0 0) [c']=some (H'.set 1 (.box [c'] 0))∧SI (H'.set 1 (.box [c'] 0)) c' (ts++[[q]]):=by
 obtain⟨J1,hJ1⟩:∃ J1:Heap,J1=J++[.box (q.row.map .f) 0]:=⟨_,rfl⟩
 obtain⟨J2,hJ2⟩:∃ J2:Heap,J2=J1++[.box [.sl J.length 0 1 1 0 4] 0]:=⟨_,rfl⟩
 rw [←hJ1,←hJ2]
 have l1:J1.length=J.length+1:=by rw [hJ1];simp
 have l2:J2.length=J.length+2:=by rw [hJ2];simp [l1]
 have k2:SI J2 ct ts:=by rw [hJ2,hJ1];exact(h.push _).push _
 have bq:J2[J.length]?=some (.box (q.row.map .f) 0):=by rw [hJ2,ai (by omega),hJ1];simp
 have bx:J2[J.length+1]?=some (.box [.sl J.length 0 1 1 0 4] 0):=by rw [hJ2,←l1];simp
 have hadd:fE J2 1 (.c (.sl (J.length+1) 0 1 1 0 1))=some (1,[.sl J.length 0 1 1 0 4]):=by simp [fE,bM,dO,bx]
 have hroom:bV (ts.length+1) 24=true:=iy (by omega) (by decide)
 have h0:=aF h.res
 have h1:=aF h.out
 rcases k2.tl with⟨e1,e2⟩ | ⟨hne,b,ep,cs,rfl,hb,hf,hp⟩
 ·subst e1 e2
  have hroom:bV 1 24=true:=iy (by decide) (by decide)
  refine⟨.sl J2.length 0 1 0 0 1,J2++[.opn 1 [.sl J.length 0 1 1 0 4] 0 0 .loc],?_,?_,?_,?_,?_⟩
  ·simp [bP,hadd,hroom]
  ·have:(J2++[.opn 1 [.sl J.length 0 1 1 0 4] 0 0 .loc])[1]?=some (.box [.f .aA] 0):=by rw [ai (by omega)];exact k2.out
   simp [stC,this,over]
  ·rw [ag (by decide),ai (by omega)];exact k2.res
  ·rw [ax (by simp;omega)]
  ·refine .inr ⟨by simp,J2.length,0,[.sl J.length 0 1 1 0 4],rfl,?_,.cons (.inl ⟨q,J.length,rfl,rfl,?_⟩) .nil,cQ _ _⟩
   ·rw [ag (by omega)];simp
   ·rw [ag (by omega),ai (by omega)];exact bq
 ·have hcl:=nS hf
  have b1:b≠1:=by rintro rfl;rw [k2.out]at hb;cases hb
  have b0:b≠0:=by rintro rfl;rw [k2.res]at hb;cases hb
  have bl:=aF hb
  obtain⟨H',hH'⟩:∃ H':Heap,H'=J2.set b (.opn 1 (cs++[.sl J.length 0 1 1 0 4]) 0 (ep+1) .loc):=⟨_,rfl⟩
  have hb1:H'[1]?=some (.box [.sl b 0 ts.length 0 ep 1] 0):=by rw [hH',ag b1];exact k2.out
  have lH:H'.length=J2.length:=by rw [hH'];simp
  refine⟨.sl b 0 (ts.length+1) 0 (ep+1) 1,H',?_,?_,?_,?_,?_⟩
  ·simp [bP,hadd,hroom,hb,hcl,hH']
  ·simp [stC,hb1,over]
  ·rw [ag (by decide),hH',ag b0];exact k2.res
  ·rw [ax (by omega)]
  ·refine .inr ⟨by simp,b,ep+1,cs++[.sl J.length 0 1 1 0 4],by simp,?_,qc (kY hf fun c fs hc hi=>?_) (.inl ⟨q,J.length,rfl,rfl,?_⟩),RG hp fun c hc=>?_⟩
   ·rw [ag (Ne.symm b1),hH',ax bl]
   ·obtain⟨m,em,lm,om⟩:=hi.blk
    refine hi.keep fun i y hy hi'=>?_
    rw [em]at hi';cases hi'
    have m1:1≠m:=by
     rintro rfl
     rcases hi with⟨p,m,rfl,rfl,hm⟩ | ⟨hne,⟨e,_⟩ | ⟨_,m,ep',rfl,hm⟩⟩
     ·cases em;rw [k2.out]at hm;simp [dn.row]at hm
     ·exact hne (by simpa [cZ]using e)
     ·cases em;unfold RB at hm;rw [k2.out]at hm;cases hm
    have mb:b≠m:=by rintro rfl;exact om _ _ _ _ hb
    rw [ag m1,hH',ag mb];exact hy
   ·rw [ag (by omega),hH',ag (by rintro rfl;rw [bq]at hb;cases hb)];exact bq
   ·have h3:Fa2 (Inner J) cs ts:=by
     rcases h.tl with⟨e,_⟩ | ⟨_,b',ep',cs',e,hb',hf',_⟩
     ·exact absurd e hne
     ·cases e
      have:J2[b]?=some (.opn 1 cs' 0 ep .loc):=by rw [hJ2,hJ1,c6,ai (aF hb')];exact hb'
      rw [hb]at this;cases this
      exact hf'
    obtain⟨fs,hi⟩:=sG h3 c hc
    obtain⟨m,em,lm,om⟩:=hi.blk
    rw [em]
    intro e;cases e;omega
theorem SI.more{J:Heap}{ct:C}{ts:List (List dn)}{fs:List dn}(h:SI J ct (ts++[fs]))(hl:fs.length≤10)(q:dn) :
  ∃ b ep c,aU J 1 none (.c ct) (vi ts.length)=some (.c (.ptr b ts.length ep))∧ldV J none (.c (.ptr b ts.length ep))=some (.c c)∧bM J c=some fs.length ∧
   ∃ c' H',bP (J++[.box (q.row.map .f) 0]) 4 64 (.c c) (.c (.sl J.length 0 1 1 0 4))=some (.c c',H')∧aU H' 1 none (.c ct) (vi ts.length)=some (.c (.ptr b ts.length ep))∧H'[1]?=some (.box [ct] 0) ∧
    ∃ H2,stC H' (.ptr b ts.length ep) [c']=some H2∧SI H2 ct (ts++[fs++[q]]):=by
 rcases h.tl with⟨e,_⟩ | ⟨_,b,ep,cs,rfl,hb,hf,hp⟩
 ·simp at e
 obtain⟨cs',c,rfl,hf',hi⟩:=sF hf
 have hcl:=nS hf'
 obtain⟨J1,hJ1⟩:∃ J1:Heap,J1=J++[.box (q.row.map .f) 0]:=⟨_,rfl⟩
 have l1:J1.length=J.length+1:=by rw [hJ1];simp
 have k1:SI J1 (.sl b 0 (ts++[fs]).length 0 ep 1) (ts++[fs]):=by rw [hJ1];exact h.push _
 have bq:J1[J.length]?=some (.box (q.row.map .f) 0):=by rw [hJ1];simp
 have hi1:Inner J1 c fs:=by rw [hJ1];exact hi.push _
 obtain⟨m,em,lm,om⟩:=hi.blk
 obtain⟨c',H',happ,hi',hK,hc'⟩:=hi1.app hl q bq
 have up:∀ i y,J[i]?=some y→J1[i]?=some y:=fun i y hy=>by rw [hJ1,ai (aF hy)];exact hy
 have upH:∀ i y,J[i]?=some y→i≠m→H'[i]?=some y:=fun i y hy hne=>hK.2 i y (up i y hy) (by rw [em];intro e;cases e;exact hne rfl)
 have mb:b≠m:=by rintro rfl;exact om _ _ _ _ hb
 have hbH:=upH _ _ hb mb
 have m01:m≠0∧m≠1:=by
  rcases hi with⟨p,m',rfl,rfl,hm⟩ | ⟨hne,⟨e,_⟩ | ⟨_,m',ep',rfl,hm⟩⟩
  ·cases em
   exact⟨by rintro rfl;rw [h.res]at hm;simp [dn.row]at hm,by rintro rfl;rw [h.out]at hm;simp [dn.row]at hm⟩
  ·exact absurd (by simpa [cZ]using e) hne
  ·cases em
   unfold RB at hm
   exact⟨(by rintro rfl;rw [h.res]at hm;cases hm),(by rintro rfl;rw [h.out]at hm;cases hm)⟩
 have r0:=upH _ _ h.res (Ne.symm m01.1)
 have r1:=upH _ _ h.out (Ne.symm m01.2)
 have b0:b≠0:=by rintro rfl;rw [h.res]at hb;cases hb
 have b1:b≠1:=by rintro rfl;rw [h.out]at hb;cases hb
 obtain⟨m',em',lm',om'⟩:=hi'.blk
 have mb':b≠m':=by rintro rfl;exact om' _ _ _ _ hbH
 rw [cR]at hp
 obtain⟨p1,-,p3⟩:=hp
 refine⟨b,ep,c,?_,?_,hi.len,c',H',by rw [hJ1]at happ;exact happ,?_,r1,H'.set b (.opn 1 (cs'++[c']) 0 ep .loc),?_,?_,?_,?_⟩
 ·simp [aU,iK,hb];omega
 ·simp [ldV,aO,hb,←hcl,aS]
 ·simp [aU,iK,hbH];omega
 ·simp [stC,hbH,over,←hcl]
 ·rw [ag b0];exact r0
 ·rw [ag b1];simpa using r1
 ·refine .inr ⟨by simp,b,ep,cs'++[c'],by simp,ax (aF hbH),qc (kY hf' fun a f ha hia=>?_) (hi'.keep fun i y hy hiy=>?_),RG p1 fun a ha=>?_⟩
  ·obtain⟨k,ek,lk,ok⟩:=hia.blk
   refine hia.keep fun i y hy hiy=>?_
   rw [ek]at hiy;cases hiy
   have hkm:k≠m:=by
    have:=p3 a ha c (by simp)
    rw [ek,em]at this
    exact fun e=>this (by rw [e])
   rw [ag (by rintro rfl;exact ok _ _ _ _ hb)]
   exact upH _ _ hy hkm
  ·rw [em']at hiy;cases hiy
   rw [ag mb'];exact hy
  ·rcases hc' with e | e
   ·rw [e];exact p3 a ha c (by simp)
   ·obtain⟨f,hia⟩:=sG hf' a ha
    obtain⟨k,ek,lk,ok⟩:=hia.blk
    rw [e,ek]
    intro e2;cases e2;omega
end Go.Proofs.YthfeogjbpgocbaaGreat
end
section
namespace Go.Proofs.YthfeogjbpgocbaaGreat
open Go Km
abbrev ByD:=Tg × List Nat
def aLh(b:ByD):Prop:=b.2.length≤9223372036854775807∧∀ n ∈ b.2,n<256
def jq(l:List ByD):List (List FC):=l.map fun b=>[sl b.1 (fB b.2)]
@[simp] theorem aJj (l:List ByD):(jq l).length=l.length:=by simp [jq]
theorem Le(l:List ByD):Grid 1 (jq l):=Grid.map fun _=>rfl
theorem aNR{j:Nat}{l:List ByD}(hj:j<l.length){H:Heap}:ldV H none (.c (.f (.fp (jq l).flatten j)))=some (.c (.f (sl l[j].1 (fB l[j].2)))):=by
 have:=pV (H:=H) (rows:=jq l) (j:=j) (sz:=1) (row:=[sl l[j].1 (fB l[j].2)]) (x:=sl l[j].1 (fB l[j].2)) (Le l) (by simp [jq,hj]) rfl
 simpa using this
theorem aIF{j:Nat}{l:List ByD}{g:Tg}(hj:j<l.length){H:Heap}:aU H 1 none (.c (.f (sl g (jq l)))) (vi j)=some (.c (.f (.fp (jq l).flatten j))):=by
 have:=gX (H:=H) (g:=g) (rows:=jq l) (sz:=1) (k:=.i64) (i:=(j:Int)) (by omega) (by simp;omega)
 simpa using this
def IE(ts:List (List dn)):Prop:=ts.length≤3∧∀ fs ∈ ts,fs≠[]∧fs.length≤3∧∀ p ∈ fs,jS p=true
theorem IE.new{ts:List (List dn)}(h:IE ts)(hl:ts.length<3){p:dn}(hp:jS p=true):IE (ts++[[p]]):=by
 refine⟨by simp;omega,fun fs hf=>?_⟩
 rcases ba.1 hf with hf | hf
 ·exact h.2 fs hf
 ·simp at hf;subst hf;exact⟨by simp,by simp,fun q hq=>by simp at hq;subst hq;exact hp⟩
theorem IE.more{ts:List (List dn)}{fs:List dn}(h:IE (ts++[fs]))(hl:fs.length<3){p:dn}(hp:jS p=true):IE (ts++[fs++[p]]):=by
 refine⟨by have:=h.1;simpa using this,fun gs hg=>?_⟩
 rcases ba.1 hg with hg | hg
 ·exact h.2 gs (List.mem_append_left _ hg)
 ·simp at hg;subst hg
  have h2:=(h.2 fs (by simp)).2.2
  refine⟨by simp,by simp;omega,fun q hq=>?_⟩
  rcases ba.1 hq with hq | hq
  ·exact h2 q hq
  ·simp at hq;subst hq;exact hp
theorem IE.mix{ts:List (List dn)}(h:IE ts):mixB (ts.map fun fs=>⟨.fs,fs⟩)=true:=by
 have h1:=h.1
 simp only [mixB,am,decide_eq_true_eq,aM,a9]
 refine⟨by omega,fun t ht=>?_⟩
 obtain⟨fs,hf,rfl⟩:=b7.1 ht
 obtain⟨a,b,c⟩:=h.2 fs hf
 have:=dT.2 a
 simp only [oL,am,decide_eq_true_eq,aM]
 exact⟨⟨by omega,by omega⟩,c⟩
set_option maxRecDepth 100000 in
theorem akd(g:Tg){l:List ByD}(hl:l.length≤9223372036854775807)(hb:∀ b ∈ l,aLh b) :
  ∃ tg ts,mixB ts=true∧Km.Pure tab.get vV [.c (.f (sl g (jq l)))]=Eq (.a [.f (sl tg (termRows ts))]):=by
 obtain⟨rr,⟨tg,ts,hm,rfl⟩,hp⟩:∃ rr,(∃ tg ts,mixB ts=true∧rr=.a [.f (sl tg (termRows ts))])∧Km.Pure tab.get vV [.c (.f (sl g (jq l)))] rr:=by
  refine iM aK9 rfl fun Q hQ=>?_
  obtain⟨N,hN⟩:∃ N,N=min l.length 9:=⟨_,rfl⟩
  refine ak (aj (.inl rfl) ?_)
  simp
  refine ak (aj (.inl rfl) ?_)
  simp
  refine ak (ak (aj (.inl rfl) ?_))
  simp
  refine kS N (fun j t J=>∃ ct ts,IE ts∧SI J ct ts∧t.g 0=.c (.f (sl g (jq l)))∧t.g 2=.c (.ptr 0 0 0)∧t.g 3=.c (.ptr 1 0 0)) (by omega) (by decide) (by simp)
   ⟨.f .aA,[],⟨by simp,by simp⟩,⟨rfl,rfl,.inl ⟨rfl,rfl⟩⟩,by simp,by simp,by simp⟩ ?_ ?_ ?_
  ·rintro j t J L hj ⟨ct,ts,hT,k,g0,g2,g3⟩ ha hn
   by_cases c1:(j:Int)<l.length
   ·simp [ha,g0,c1]
    exact hn _ ⟨ct,ts,hT,k,by simp [g0],by simp [g2],by simp [g3]⟩ (by simp [ha]) (by simp;omega)
   ·simp [ha,g0,c1]
    exact hn _ ⟨ct,ts,hT,k,by simp [g0],by simp [g2],by simp [g3]⟩ (by simp [ha]) (by simp;omega)
  ·rintro j t J hj ⟨ct,ts,hT,k,g0,g2,g3⟩ ha nx
   have hjl:j<l.length:=by omega
   obtain⟨bl,bb⟩:=hb _ (av hjl)
   obtain⟨p,hpB,hmf⟩:=DL l[j].1 bb bl
   have ha0:Km.Pure tab.get kD [.c (.f (sl l[j].1 (fB l[j].2))),vi 0]=Eq (vi (atN l[j].2 0:Nat)):=ES l[j].1 l[j].2 bb bl 0 (by decide)
   obtain⟨a,hav⟩:∃ a,a=(atN l[j].2 0:Int):=⟨_,rfl⟩
   rw [←hav]at ha0
   have ii:=fun H=>aIF (g:=g) hjl (H:=H)
   have dd:=fun H=>aNR hjl (H:=H)
   have aRn:=k.tl.len
   have ld1:ldV J none (.c (.ptr 1 0 0))=some (.c ct):=by simp [ldV,aO,k.out,aS]
   refine aN (ak (aj (.inl rfl) ?_))
   simp [g3,ld1,-aH,aRn]
   refine ak (aj (.inl rfl) ?_)
   simp [g0,ha,ii,dd,hmf,dn.row,-aH]
   obtain⟨J1,hJ1⟩:∃ J1:Heap,J1=J++[.box (p.row.map .f) 0]:=⟨_,rfl⟩
   have k1:SI J1 ct ts:=by rw [hJ1];exact k.push _
   have l1:J1.length=J.length+1:=by rw [hJ1];simp
   have bx:J1[J.length]?=some (.box (p.row.map .f) 0):=by rw [hJ1];simp
   have ldp:ldV J1 (some 4) (.c (.ptr J.length 0 0))=some (.a [.f (sl p.hg (ints p.head)),.f (fi p.fr),.f (fi p.per),.f (sl p.cg (ints p.cyc))]):=by simp [ldV,aO,bx,aS,dn.row]
   have ld2:ldV J1 none (.c (.ptr 1 0 0))=some (.c ct):=by simp [ldV,aO,k1.out,aS]
   simp only [dn.row,aR,bj]at hJ1
   rw [←hJ1]
   have new:∀ t:T,t.g 0=.c (.f (sl g (jq l)))→t.g 2=.c (.ptr 0 0 0)→t.g 3=.c (.ptr 1 0 0)→t.g 4=vi j→t.g 5=vi ts.length→t.g 6=.c (.ptr J.length 0 0) →
     WP tab.get vV none [.code zl,.inBlock 1,.code (ED 4 16 17),.inLoop xU,.inBlock 0,.code uo] ⟨t,[],J1⟩ Q:=by
    intro t g0 g2 g3 g4 g5 g6
    refine ak (aj (.inl rfl) ?_)
    by_cases h3:ts.length<3
    ·simp [g5,show(ts.length:Int)<3 by omega]
     refine aB (by simp) (aj (.inl rfl) ?_)
     obtain⟨c',H',happ,hst,hk⟩:=k1.new (by omega) p
     simp only [dn.row,aR,bj]at happ
     have aOo:bP (J1++[.box [.f (sl p.hg (ints p.head)),.f (fi p.fr),.f (fi p.per),.f (sl p.cg (ints p.cyc))] 0,.box [.sl J1.length 0 1 1 0 4] 0]) 1 24 (.c ct) (.c (.sl (J1.length+1) 0 1 1 0 1))=some (.c c',H'):=by
      rw [←happ,c6];rfl
     simp [g3,g6,ld2,ldp,-aH,aOo,hst,-bI]
     refine aK (nx _ _ ⟨c',_,hT.new h3 hpB,hk,by simp [g0],by simp [g2],by simp [g3]⟩ (by simp [g4]))
    ·simp [g5,show¬ (ts.length:Int)<3 by omega]
     refine ay (by simp) (aG ?_)
     refine aK (nx _ _ ⟨ct,ts,hT,k1,by simp [g0],by simp [g2],by simp [g3]⟩ (by simp [g4]))
   have w0:IntKind.i64.wrap 0=0:=by decide
   refine ak (aj (.inl rfl) ?_)
   rcases List.eq_nil_or_concat ts with rfl | ⟨ts',fs,rfl⟩
   ·simp
    refine ay (by simp) ?_
    exact new _ (by simp [g0]) (by simp [g2]) (by simp [g3]) (by simp [ha]) (by simp) (by simp)
   rw [List.concat_eq_append]at *
   have hT1:=hT.1
   simp at hT1
   have h3:=(hT.2 fs (by simp)).2.1
   obtain⟨b,ep,c,ix,ldc,U9,c',H',happ,ix',hout,H2,hst,k2⟩:=k1.more (by omega) p
   simp only [dn.row,aR,bj]at happ
   have wn:IntKind.i64.wrap (ts'.length:Int)=ts'.length:=wrap64 (by omega) (by omega)
   have ld3:ldV H' none (.c (.ptr 1 0 0))=some (.c ct):=by simp [ldV,aO,hout,aS]
   have hbeq:(V.c ct).beq (.c ct)=true:=by
    rcases k1.tl with⟨e,_⟩ | ⟨_,b,ep,cs,rfl,_⟩
    ·simp at e
    ·simp [V.beq,C.beq]
   have more:∀ t:T,fs.length<3→t.g 0=.c (.f (sl g (jq l)))→t.g 2=.c (.ptr 0 0 0)→t.g 3=.c (.ptr 1 0 0)→t.g 4=vi j→t.g 5=vi ((ts'.length:Int)+1)→t.g 6=.c (.ptr J.length 0 0) →
     WP tab.get vV none [.code F6,.inBlock 1,.code (ED 4 16 17),.inLoop xU,.inBlock 0,.code uo] ⟨t,[],J1⟩ Q:=by
    intro t h3 g0 g2 g3 g4 g5 g6
    refine ny (.inl rfl) ?_ ?_
    case refine_2=>
     intro c hcm
     have hcc:c=(1,14):=by simpa using hcm
     subst hcc
     refine⟨by decide,_,rfl,.inl ⟨by decide,?_⟩⟩
     simp [g3,g5,g6,ld2,ldp,ix,ldc,wn,happ,ix',ld3,sS,-aH]
     exact hbeq
    simp [g3,g5,g6,ld2,ldp,ix,ldc,wn,happ,ix',hst,-aH,-bI]
    refine aK (nx _ _ ⟨ct,_,hT.more h3 hpB,k2,by simp [g0],by simp [g2],by simp [g3]⟩ (by simp [g4]))
   have hnew:∀ t:T,t.g 0=.c (.f (sl g (jq l)))→t.g 2=.c (.ptr 0 0 0)→t.g 3=.c (.ptr 1 0 0)→t.g 4=vi j→t.g 5=vi ((ts'.length:Int)+1)→t.g 6=.c (.ptr J.length 0 0) →
     WP tab.get vV none [.code zl,.inBlock 1,.code (ED 4 16 17),.inLoop xU,.inBlock 0,.code uo] ⟨t,[],J1⟩ Q:=fun t g0 g2 g3 g4 g5 g6=>new t g0 g2 g3 g4 (by rw [g5];simp) g6
   by_cases ha1:a<128
   ·by_cases h3':fs.length<3
    ·simp [g0,g3,ha,ii,dd,ha0,ha1,ld2,-aH,wn,ix,ldc,U9,show(fs.length:Int)<3 by omega,show(0:Int)<(ts'.length:Int)+1 by omega]
     refine aB (by simp) ?_
     exact more _ h3' (by simp [g0]) (by simp [g2]) (by simp [g3]) (by simp [ha]) (by simp) (by simp)
    ·simp [g0,g3,ha,ii,dd,ha0,ha1,ld2,-aH,wn,ix,ldc,U9,show¬ (fs.length:Int)<3 by omega,show(0:Int)<(ts'.length:Int)+1 by omega]
     refine ay (by simp) ?_
     exact hnew _ (by simp [g0]) (by simp [g2]) (by simp [g3]) (by simp [ha]) (by simp) (by simp)
   ·by_cases h4:(ts'.length:Int)+1=3
    ·by_cases h3':fs.length<3
     ·simp [g0,g3,ha,ii,dd,ha0,ha1,ld2,-aH,wn,ix,ldc,U9,show(fs.length:Int)<3 by omega,show(0:Int)<(ts'.length:Int)+1 by omega]
      rw [decide_eq_true h4]
      simp [g3,ld2,-aH,wn,ix,ldc,U9,show(fs.length:Int)<3 by omega]
      refine aB (by simp) ?_
      exact more _ h3' (by simp [g0]) (by simp [g2]) (by simp [g3]) (by simp [ha]) (by simp) (by simp)
     ·simp [g0,g3,ha,ii,dd,ha0,ha1,ld2,-aH,wn,ix,ldc,U9,show¬ (fs.length:Int)<3 by omega,show(0:Int)<(ts'.length:Int)+1 by omega]
      rw [decide_eq_true h4]
      simp [g3,ld2,-aH,wn,ix,ldc,U9,show¬ (fs.length:Int)<3 by omega]
      refine ay (by simp) ?_
      exact hnew _ (by simp [g0]) (by simp [g2]) (by simp [g3]) (by simp [ha]) (by simp) (by simp)
    ·simp [g0,g3,ha,ii,dd,ha0,ha1,h4,show(0:Int)<(ts'.length:Int)+1 by omega]
     refine ay (by simp) ?_
     exact hnew _ (by simp [g0]) (by simp [g2]) (by simp [g3]) (by simp [ha]) (by simp) (by simp)
  rintro t J ⟨ct,ts,hT,k,g0,g2,g3⟩ ha
  have h0:=aF k.res
  have ld1:ldV J (some 1) (.c (.ptr 1 0 0))=some (.a [ct]):=by simp [ldV,aO,k.out,aS]
  have st0:stC J (.ptr 0 0 0) [ct]=some (J.set 0 (.box [ct] 0)):=by simp [stC,k.res,over]
  refine ak (aj (.inl rfl) ?_)
  simp [g2,g3,ld1,st0,-aH,-bI]
  have kl:TL (J.set 0 (.box [ct] 0)) ct ts:=k.tl.keep (fun i y hy hi _=>by rw [ag (Ne.symm hi)];exact hy) ⟨_,_,k.res⟩ ⟨_,_,k.out⟩
  obtain⟨tg,hex⟩:=kl.ex 62
  refine aP (hQ _ _ _ ⟨tg,_,hT.mix,rfl⟩ ⟨rfl,.a [ct],?_,?_⟩)
  ·simp [Km.results,dG,bC,g2,h0,aS]
  ·simp [exV,dN,bC,deep,hex]
 exact⟨tg,ts,hm,hp.eq⟩
end Go.Proofs.YthfeogjbpgocbaaGreat
end
section
namespace Go.Proofs.YthfeogjbpgocbaaGreat
open Go Km
structure HrD where
 dg:Tg
 days:List ByD
 fr:Nat
 le:Nat
abbrev u16(n:Nat):FC:=.int .u16 (n:Nat)
def HrD.row(x:HrD):List FC:=[sl x.dg (jq x.days),u16 x.fr,u16 x.le]
structure HrD.OK(x:HrD):Prop where
 dl:x.days.length≤9223372036854775807
 d:∀ b ∈ x.days,aLh b
 fr:x.fr<65536
 le:x.le<65536
set_option maxRecDepth 100000 in
theorem wM{x:HrD}(hx:x.OK):∃ h:HourD,h.OK∧Km.Pure tab.get IV [.a (x.row.map .f)]=Eq (.a (h.row.map .f)):=by
 obtain⟨tg,ts,hm,hmd⟩:=akd x.dg hx.dl hx.d
 have hf:=hx.fr
 have hle:=hx.le
 refine⟨⟨tg,ts,(x.fr:Int) % 1440,min 1440 ((x.fr:Int) % 1440+1+(x.le:Int) % 1440)⟩,⟨hm,by simp only;omega,by simp only;omega,by simp only;omega⟩,Km.Pure.eq ?_⟩
 refine cu aKW rfl fun Q hQ=>?_
 have w1:IntKind.i64.wrap (x.fr:Int)=x.fr:=wrap64 (by omega) (by omega)
 have w2:IntKind.i64.wrap (x.le:Int)=x.le:=wrap64 (by omega) (by omega)
 have w3:IntKind.i64.wrap ((x.fr:Int) % 1440+1)=(x.fr:Int) % 1440+1:=wrap64 (by omega) (by omega)
 have w4:IntKind.i64.wrap ((x.fr:Int) % 1440+1+(x.le:Int) % 1440)=(x.fr:Int) % 1440+1+(x.le:Int) % 1440:=wrap64 (by omega) (by omega)
 have r1:bU .rem (vi x.fr) (vi 1440)=some (vi ((x.fr:Int) % 1440)):=oq (by omega) (by decide)
 have r2:bU .rem (vi x.le) (vi 1440)=some (vi ((x.le:Int) % 1440)):=oq (by omega) (by decide)
 refine ak (aj (.inl rfl) ?_)
 simp [HrD.row]
 refine ak (aj (.inl rfl) ?_)
 simp [aS,w1,r1]
 refine ak (aj (.inl rfl) ?_)
 simp [aS,hmd,w2,r2,w3,w4]
 refine aP (hQ _ _ ?_)
 simp [HourD.row,aS,exV,dN,bC]
end Go.Proofs.YthfeogjbpgocbaaGreat
end
section
namespace Go.Proofs.YthfeogjbpgocbaaGreat
open Go Km
structure uP where
 z:kE
 hg:Tg
 hs:List HrD
 cg:Tg
 cl:List Nat
def nC(l:List HrD):List (List FC):=l.map HrD.row
@[simp] theorem aIN (l:List HrD):(nC l).length=l.length:=by simp [nC]
theorem KA(l:List HrD):Grid 3 (nC l):=Grid.map fun _=>rfl
theorem Vj{l:List HrD}{j:Nat}(hj:j<l.length):(nC l)[j]?=some l[j].row:=by simp [nC,hj]
def uP.row(x:uP):List FC:=x.z.row++[sl x.hg (nC x.hs),sl x.cg (fB x.cl)]
structure uP.OK(x:uP):Prop where
 z:x.z.OK
 hl:x.hs.length≤9223372036854775807
 hs:∀ h ∈ x.hs,h.OK
 cl:x.cl.length≤9223372036854775807
 cs:∀ n ∈ x.cl,n<256
structure OpD where
 z:ZD
 hg:Tg
 hs:List HourD
 cg:Tg
 cl:List Int
def OpD.row(x:OpD):List FC:=x.z.row++[sl x.hg (bH x.hs),sl x.cg (ints x.cl)]
structure OpD.OK(x:OpD)(o:List TrD):Prop where
 z:OKZ x.z o
 hl:x.hs.length≤4
 hs:∀ h ∈ x.hs,h.OK
 cl:x.cl.length≤64
 cb:∀ d ∈ x.cl,0≤d∧d≤1000000
 cp:x.cl.Pairwise (· < ·)
theorem zO{z:ZD}(hc:z.c<3):∃ a b c d e f g h,z.row=[a,b,c,d,e,f,g,h]:=by
 have:=ZD.Aa hc
 match hr:z.row,this with
 | [a,b,c,d,e,f,g,h],_=>exact⟨a,b,c,d,e,f,g,h,rfl⟩
structure OI(x:uP)(z:ZD)(hs:List HourD)(ch:C)(cl:List Int)(cc:C)(t:T)(J:Heap):Prop where
 raw:J[0]?=some (.box (x.row.map .f) 0)
 res:J[1]?=some (.box [.f (fi 0),.f .aA,.f (fi 0),.f .aA,.f (fi 0),.f .aA,.f (fi 0),.f .aA,.f .aA,.f .aA] 0)
 ob:J[2]?=some (.box (z.row.map .f++[ch,cc]) 0)
 lh:LR J ch 3 (bH hs)
 lc:LR J cc 1 (ints cl)
 ne:∀ i,cO ch=some i→cO cc≠some i
 g1:t.g 1=.c (.ptr 0 0 0)
 g2:t.g 2=.c (.ptr 1 0 0)
 g3:t.g 3=.c (.ptr 2 0 0)
section
variable{x:uP}{z:ZD}{hs:List HourD}{ch ch':C}{cl:List Int}{cc cc':C}{t:T}{J:Heap}
theorem OI.to(k:OI x z hs ch cl cc t J){t':T}(g1:t'.g 1=.c (.ptr 0 0 0))(g2:t'.g 2=.c (.ptr 1 0 0))(g3:t'.g 3=.c (.ptr 2 0 0)):OI x z hs ch cl cc t' J:=⟨k.raw,k.res,k.ob,k.lh,k.lc,k.ne,g1,g2,g3⟩
theorem aSX(hc:z.c<3)(h:J[2]?=some (.box (z.row.map .f++[ch,cc]) 0)):ldV J none (.c (.ptr 2 8 0))=some (.c ch):=by
 obtain⟨a,b,c,d,e,f,g,i,hr⟩:=zO hc
 rw [hr]at h
 simp [ldV,aO,h,aS]
theorem aSY(hc:z.c<3)(h:J[2]?=some (.box (z.row.map .f++[ch,cc]) 0)):ldV J none (.c (.ptr 2 9 0))=some (.c cc):=by
 obtain⟨a,b,c,d,e,f,g,i,hr⟩:=zO hc
 rw [hr]at h
 simp [ldV,aO,h,aS]
theorem aH7(hc:z.c<3)(h:J[2]?=some (.box (z.row.map .f++[ch,cc]) 0)):ldV J (some 10) (.c (.ptr 2 0 0))=some (.a (z.row.map .f++[ch,cc])):=by
 obtain⟨a,b,c,d,e,f,g,i,hr⟩:=zO hc
 rw [hr]at h ⊢
 simp [ldV,aO,h,aS]
theorem aST(hc:z.c<3)(h:J[2]?=some (.box (z.row.map .f++[ch,cc]) 0)):stC J (.ptr 2 8 0) [ch']=some (J.set 2 (.box (z.row.map .f++[ch',cc]) 0)):=by
 obtain⟨a,b,c,d,e,f,g,i,hr⟩:=zO hc
 rw [hr]at h ⊢
 simp [stC,h,over]
theorem aSU(hc:z.c<3)(h:J[2]?=some (.box (z.row.map .f++[ch,cc]) 0)):stC J (.ptr 2 9 0) [cc']=some (J.set 2 (.box (z.row.map .f++[ch,cc']) 0)):=by
 obtain⟨a,b,c,d,e,f,g,i,hr⟩:=zO hc
 rw [hr]at h ⊢
 simp [stC,h,over]
theorem aMb(hx:J[0]?=some (.box (x.row.map .f) 0)):ldV J (some 14) (.c (.ptr 0 0 0))=some (.a (x.z.row.map .f)):=by
 simp [ldV,aO,hx,aS,uP.row,kE.row]
theorem aD0(hx:J[0]?=some (.box (x.row.map .f) 0)):ldV J none (.c (.ptr 0 14 0))=some (.c (.f (sl x.hg (nC x.hs)))):=by
 simp [ldV,aO,hx,aS,uP.row,kE.row]
theorem aD1(hx:J[0]?=some (.box (x.row.map .f) 0)):ldV J none (.c (.ptr 0 15 0))=some (.c (.f (sl x.cg (fB x.cl)))):=by
 simp [ldV,aO,hx,aS,uP.row,kE.row]
theorem OI.aOq(hzc:z.c<3)(k:OI x z hs ch cl cc t J)(hl:hs.length≤10)(q:HourD) :
  ∃ c3 H3,bP (J++[.box (q.row.map .f) 0]) 3 40 (.c ch) (.c (.sl J.length 0 1 1 0 3))=some (.c c3,H3)∧stC H3 (.ptr 2 8 0) [c3]=some (H3.set 2 (.box (z.row.map .f++[c3,cc]) 0)) ∧
   ∀ t':T,t'.g 1=.c (.ptr 0 0 0)→t'.g 2=.c (.ptr 1 0 0)→t'.g 3=.c (.ptr 2 0 0)→OI x z (hs++[q]) c3 cl cc t' (H3.set 2 (.box (z.row.map .f++[c3,cc]) 0)):=by
 obtain⟨J2,hJ2⟩:∃ J2:Heap,J2=J++[.box (q.row.map .f) 0]:=⟨_,rfl⟩
 have up:∀ i y,J[i]?=some y→J2[i]?=some y:=fun i y hy=>by rw [hJ2,ai (aF hy)];exact hy
 have hL2:LR J2 ch 3 (bH hs):=by rw [hJ2];exact k.lh.push _
 have hb2:J2[J.length]?=some (.box (q.row.map .f) 0):=by rw [hJ2];simp
 obtain⟨c3,H3,happ,hL3,hK3,hc3⟩:=hL2.app (iH hs) (by decide) (row:=q.row) rfl (bytes:=40) (iy (by simp;omega) (by decide)) hb2
 have up3:∀(i:Nat) (cs:List C) (fl:Nat),J[i]?=some (.box cs fl)→H3[i]?=some (.box cs fl):=fun i cs fl hy=>hK3.2 i _ (up _ _ hy) (hL2.dK (up _ _ hy))
 have hpb:=up3 _ _ _ k.ob
 have e3:bH hs++[q.row]=bH (hs++[q]):=by simp [bH]
 rw [e3]at hL3
 have hLc:LR H3 cc 1 (ints cl):=k.lc.keep fun i y hy hi=>hK3.2 i y (up _ _ hy) (fun e=>k.ne i e hi)
 refine⟨c3,H3,by rw [hJ2]at happ;exact happ,aST hzc hpb,fun t' g1 g2 g3=>⟨?_,?_,ax (aF hpb),hL3.set (hL3.dK hpb) _,hLc.set (hLc.dK hpb) _,?_,g1,g2,g3⟩⟩
 ·rw [ag (by decide)];exact up3 _ _ _ k.raw
 ·rw [ag (by decide)];exact up3 _ _ _ k.res
 ·intro i hi hi'
  rcases hc3 with e | e
  ·rw [e]at hi;exact k.ne i hi hi'
  ·rw [e]at hi
   cases hi
   have:=k.lc.lt hi'
   have h2:J2.length=J.length+1:=by rw [hJ2];simp
   omega
theorem OI.aOK(hzc:z.c<3)(k:OI x z hs ch cl cc t J)(hl:cl.length≤10)(n:Int) :
  ∃ c3 H3,bP (J++[.box [.f (fi n)] 0]) 1 8 (.c cc) (.c (.sl J.length 0 1 1 0 1))=some (.c c3,H3)∧stC H3 (.ptr 2 9 0) [c3]=some (H3.set 2 (.box (z.row.map .f++[ch,c3]) 0)) ∧
   ∀ t':T,t'.g 1=.c (.ptr 0 0 0)→t'.g 2=.c (.ptr 1 0 0)→t'.g 3=.c (.ptr 2 0 0)→OI x z hs ch (cl++[n]) c3 t' (H3.set 2 (.box (z.row.map .f++[ch,c3]) 0)):=by
 obtain⟨J2,hJ2⟩:∃ J2:Heap,J2=J++[.box ([fi n].map .f) 0]:=⟨_,rfl⟩
 have up:∀ i y,J[i]?=some y→J2[i]?=some y:=fun i y hy=>by rw [hJ2,ai (aF hy)];exact hy
 have hL2:LR J2 cc 1 (ints cl):=by rw [hJ2];exact k.lc.push _
 have hb2:J2[J.length]?=some (.box ([fi n].map .f) 0):=by rw [hJ2];simp
 obtain⟨c3,H3,happ,hL3,hK3,hc3⟩:=hL2.app (kN cl) (by decide) (row:=[fi n]) rfl (bytes:=8) (iy (by simp [ints];omega) (by decide)) hb2
 have up3:∀(i:Nat) (cs:List C) (fl:Nat),J[i]?=some (.box cs fl)→H3[i]?=some (.box cs fl):=fun i cs fl hy=>hK3.2 i _ (up _ _ hy) (hL2.dK (up _ _ hy))
 have hpb:=up3 _ _ _ k.ob
 have e3:ints cl++[[fi n]]=ints (cl++[n]):=by simp [ints]
 rw [e3]at hL3
 have hLh:LR H3 ch 3 (bH hs):=k.lh.keep fun i y hy hi=>hK3.2 i y (up _ _ hy) (k.ne i hi)
 refine⟨c3,H3,by rw [hJ2]at happ;exact happ,aSU hzc hpb,fun t' g1 g2 g3=>⟨?_,?_,ax (aF hpb),hLh.set (hLh.dK hpb) _,hL3.set (hL3.dK hpb) _,?_,g1,g2,g3⟩⟩
 ·rw [ag (by decide)];exact up3 _ _ _ k.raw
 ·rw [ag (by decide)];exact up3 _ _ _ k.res
 ·intro i hi
  rcases hc3 with e | e
  ·rw [e];exact k.ne i hi
  ·rw [e]
   intro e'
   cases e'
   have:=k.lh.lt hi
   have h2:J2.length=J.length+1:=by rw [hJ2];simp
   omega
end
set_option maxRecDepth 100000 in
theorem U2{x:uP}(hx:x.OK):∃ p o,OpD.OK p o∧p.hs.length≤3∧Km.Pure tab.get IW [.a (x.row.map .f)]=Eq (.a (p.row.map .f)):=by
 obtain⟨z,o,hz,hmz⟩:=U3 hx.z
 have hzc:=hz.c
 obtain⟨z0,z1,z2,z3,z4,z5,z6,z7,hr⟩:=zO hzc
 obtain⟨rr,⟨p,hp,hp3,rfl⟩,hpp⟩:∃ rr,(∃ p,OpD.OK p o∧p.hs.length≤3∧rr=.a (p.row.map .f))∧Km.Pure tab.get IW [.a (x.row.map .f)] rr:=by
  refine iM aKX rfl fun Q hQ=>?_
  have hhl:=hx.hl
  have hcl:=hx.cl
  obtain⟨N,hN⟩:∃ N,N=min x.hs.length 3:=⟨_,rfl⟩
  obtain⟨M,hM⟩:∃ M,M=min x.cl.length 5:=⟨_,rfl⟩
  refine ak (aj (.inl rfl) ?_)
  simp
  obtain⟨B0,hB0⟩:∃ B0:Blk,B0=.box (x.row.map .f) 0:=⟨_,rfl⟩
  rw [←hB0]
  have lz:∀(J:Heap),ldV (B0::J) (some 14) (.c (.ptr 0 0 0))=some (.a (x.z.row.map .f)):=fun J=>aMb (by rw [hB0];rfl)
  refine ak (aj (.inl rfl) ?_)
  simp [lz,-aH,hmz,hr]
  obtain⟨J0,hJ0⟩:∃ J0:Heap,J0=[B0,.box [.f (fi 0),.f .aA,.f (fi 0),.f .aA,.f (fi 0),.f .aA,.f (fi 0),.f .aA,.f .aA,.f .aA] 0,.box [.f z0,.f z1,.f z2,.f z3,.f z4,.f z5,.f z6,.f z7,.f .aA,.f .aA] 0]:=⟨_,rfl⟩
  rw [←hJ0]
  have k0:∀ t:T,t.g 1=.c (.ptr 0 0 0)→t.g 2=.c (.ptr 1 0 0)→t.g 3=.c (.ptr 2 0 0)→OI x z [] (.f .aA) [] (.f .aA) t J0:=fun t g1 g2 g3=>
   ⟨by rw [hJ0,hB0];rfl,by rw [hJ0];rfl,by rw [hJ0,hr];rfl,LR.nil _ _,LR.nil _ _,(fun i h=>by cases h),g1,g2,g3⟩
  refine ak (ak (aj (.inl rfl) ?_))
  simp
  refine kS N (fun j t J=>∃ hs ch,hs.length=j∧(∀ h ∈ hs,h.OK)∧OI x z hs ch [] (.f .aA) t J) (by omega) (by decide) (by simp)
   ⟨[],.f .aA,rfl,by simp,k0 _ (by simp) (by simp) (by simp)⟩ ?_ ?_ ?_
  ·rintro j t J L hj ⟨hs,ch,hl,ho,k⟩ ha hn
   have lh:=aD0 k.raw
   by_cases c1:(j:Int)<x.hs.length
   ·simp [ha,k.g1,lh,-aH,c1]
    exact hn _ ⟨hs,ch,hl,ho,k.to (by simp [k.g1]) (by simp [k.g2]) (by simp [k.g3])⟩ (by simp [ha]) (by simp;omega)
   ·simp [ha,k.g1,lh,-aH,c1]
    exact hn _ ⟨hs,ch,hl,ho,k.to (by simp [k.g1]) (by simp [k.g2]) (by simp [k.g3])⟩ (by simp [ha]) (by simp;omega)
  ·rintro j t J hj ⟨hs,ch,hl,ho,k⟩ ha nx
   have hjl:j<x.hs.length:=by omega
   have lh:=aD0 k.raw
   have ii:aU J 3 none (.c (.f (sl x.hg (nC x.hs)))) (vi j)=some (.c (.f (.fp (nC x.hs).flatten (j*3)))):=by
    have:=gX (H:=J) (g:=x.hg) (rows:=nC x.hs) (sz:=3) (k:=.i64) (i:=(j:Int)) (by omega) (by simp;omega)
    simpa using this
   have dd:ldV J (some 3) (.c (.f (.fp (nC x.hs).flatten (j*3))))=some (.a (x.hs[j].row.map .f)):=jd (KA x.hs) (Vj hjl)
   obtain⟨h,hh,hm⟩:=wM (hx.hs _ (av hjl))
   obtain⟨c3,H3,happ,hst,hk⟩:=k.aOq hzc (by omega) h
   simp only [HourD.row,aR,bj]at happ hm
   refine aN (aj (.inl rfl) ?_)
   simp [ha,k.g1,k.g3,lh,aSX hzc k.ob,ii,dd,hm,happ,hst,-aH,-bI]
   refine aK (nx _ _ ⟨hs++[h],c3,by simp;omega,fun y hy=>?_,hk _ (by simp [k.g1]) (by simp [k.g2]) (by simp [k.g3])⟩ (by simp [ha]))
   rcases ba.1 hy with hy | hy
   ·exact ho y hy
   ·simp at hy;subst hy;exact hh
  rintro t J ⟨hs,ch,hl,ho,k⟩ ha
  refine ak (aj (.inl rfl) ?_)
  simp
  refine ak (ak (aj (.inl rfl) ?_))
  simp
  refine kS M (fun j t J=>∃(cl:List Int) (cc:C) (day:Int),cl.length=j∧-1≤day∧day≤9*j∧(∀ d ∈ cl,0≤d∧d≤day)∧cl.Pairwise (· < ·)∧t.g 5=vi day∧OI x z hs ch cl cc t J) (by omega) (by decide) (by simp)
   ⟨[],.f .aA,-1,rfl,by decide,by decide,by simp,List.Pairwise.nil,by simp,k.to (by simp [k.g1]) (by simp [k.g2]) (by simp [k.g3])⟩ ?_ ?_ ?_
  ·clear k ha
   rintro j t J L hj ⟨cl,cc,day,hcj,d0,d1,hcb,hcp,g5,k⟩ ha hn
   have lc:=aD1 k.raw
   by_cases c1:(j:Int)<x.cl.length
   ·simp [ha,k.g1,lc,-aH,c1]
    exact hn _ ⟨cl,cc,day,hcj,d0,d1,hcb,hcp,by simp [g5],k.to (by simp [k.g1]) (by simp [k.g2]) (by simp [k.g3])⟩ (by simp [ha]) (by simp;omega)
   ·simp [ha,k.g1,lc,-aH,c1]
    exact hn _ ⟨cl,cc,day,hcj,d0,d1,hcb,hcp,by simp [g5],k.to (by simp [k.g1]) (by simp [k.g2]) (by simp [k.g3])⟩ (by simp [ha]) (by simp;omega)
  ·clear k ha
   rintro j t J hj ⟨cl,cc,day,hcj,d0,d1,hcb,hcp,g5,k⟩ ha nx
   have hjl:j<x.cl.length:=by omega
   have lc:=aD1 k.raw
   have ii:=ug (g:=x.cg) hjl (H:=J)
   have dd:=wS hjl (H:=J)
   have bn:=hx.cs _ (av hjl)
   have r9:bU .rem (.c (.f (u8 x.cl[j]))) (.c (.f (.int .u8 9)))=some (.c (.f (u8 (x.cl[j] % 9)))):=xY _ (by decide)
   have w1:IntKind.i64.wrap (day+1)=day+1:=wrap64 (by omega) (by omega)
   have w2:IntKind.i64.wrap ((x.cl[j]:Int) % 9)=(x.cl[j]:Int) % 9:=wrap64 (by omega) (by omega)
   have w3:IntKind.i64.wrap (day+1+(x.cl[j]:Int) % 9)=day+1+(x.cl[j]:Int) % 9:=wrap64 (by omega) (by omega)
   obtain⟨c3,H3,happ,hst,hk⟩:=k.aOK hzc (by omega) (day+1+(x.cl[j]:Int) % 9)
   refine aN (ak (aj (.inl rfl) ?_))
   simp [ha,k.g1,g5,lc,ii,dd,r9,w1,w2,w3,-aH]
   refine aj (.inl rfl) ?_
   simp [k.g3,aSY hzc k.ob,happ,hst,-aH,-bI]
   refine aK (nx _ _ ⟨cl++[day+1+(x.cl[j]:Int) % 9],c3,day+1+(x.cl[j]:Int) % 9,by simp;omega,by omega,by omega,fun y hy=>?_,?_,by simp,hk _ (by simp [k.g1]) (by simp [k.g2]) (by simp [k.g3])⟩ (by simp [ha]))
   ·rcases ba.1 hy with hy | hy
    ·have:=hcb y hy;omega
    ·simp at hy;subst hy;omega
   ·rw [cR]
    exact⟨hcp,cQ _ _,fun a ha b hb=>by simp at hb;subst hb;have:=hcb a ha;omega⟩
  clear k ha
  rintro t J ⟨cl,cc,day,hcj,d0,d1,hcb,hcp,g5,k⟩ ha
  have hres:stC J (.ptr 1 0 0) (z.row.map .f++[ch,cc])=some (J.set 1 (.box (z.row.map .f++[ch,cc]) 0)):=by rw [hr];simp [stC,k.res,over]
  have hl0:=aF k.res
  obtain⟨hg,hh⟩:=k.lh.exU (iH _)
  obtain⟨cg,hc⟩:=k.lc.exU (kN _)
  have e1:=hh (J.set 1 (.box (z.row.map .f++[ch,cc]) 0)) 63 fun i y hi he=>by
   rw [ag (by rintro rfl;exact k.lh.dK k.res he)];exact hi
  have e2:=hc (J.set 1 (.box (z.row.map .f++[ch,cc]) 0)) 63 fun i y hi he=>by
   rw [ag (by rintro rfl;exact k.lc.dK k.res he)];exact hi
  have hall:=aH7 hzc k.ob
  rw [hr]at hres hall e1 e2
  simp only [aR,bj,cT,cV]at hres hall e1 e2
  refine ak (aj (.inl rfl) ?_)
  simp [k.g2,k.g3,hall,hres,-aH,-bI]
  refine aP (hQ _ _ _ ⟨⟨z,hg,hs,cg,cl⟩,⟨hz,?_,ho,?_,fun d hd=>?_,hcp⟩,?_,rfl⟩ ⟨rfl,.a [.f z0,.f z1,.f z2,.f z3,.f z4,.f z5,.f z6,.f z7,ch,cc],?_,?_⟩)
  ·simp only;omega
  ·simp only;omega
  ·have:=hcb d hd;omega
  ·simp only;omega
  ·simp [Km.results,dG,bC,k.g2,hl0,aS]
  ·simp [exV,dN,bC,deep,e1,e2,OpD.row,hr]
 exact⟨p,o,hp,hp3,hpp.eq⟩
end Go.Proofs.YthfeogjbpgocbaaGreat
end
section
namespace Go.Proofs.YthfeogjbpgocbaaGreat
open Go Km
section
variable{J:Heap}{b fl:Nat}{p:OpD}
theorem aD9(hc:p.z.c<3)(h:J[b]?=some (.box (p.row.map .f) fl)):ldV J (some 8) (.c (.ptr b 0 0))=some p.z.v:=by
 obtain⟨z,hg,hs,cg,cl⟩:=p
 obtain⟨a0,a1,a2,a3,a4,a5,a6,a7,hr⟩:=zO hc
 simp only at hr
 simp [ldV,aO,h,aS,OpD.row,hr]
theorem akl(hc:p.z.c<3)(h:J[b]?=some (.box (p.row.map .f) fl)):ldV J none (.c (.ptr b 8 0))=some (.c (.f (sl p.hg (bH p.hs)))):=by
 obtain⟨z,hg,hs,cg,cl⟩:=p
 obtain⟨a0,a1,a2,a3,a4,a5,a6,a7,hr⟩:=zO hc
 simp only at hr
 simp [ldV,aO,h,aS,OpD.row,hr]
theorem SN(hc:p.z.c<3)(h:J[b]?=some (.box (p.row.map .f) fl)):ldV J none (.c (.ptr b 9 0))=some (.c (.f (sl p.cg (ints p.cl)))):=by
 obtain⟨z,hg,hs,cg,cl⟩:=p
 obtain⟨a0,a1,a2,a3,a4,a5,a6,a7,hr⟩:=zO hc
 simp only at hr
 simp [ldV,aO,h,aS,OpD.row,hr]
theorem Ag(hc:p.z.c<3)(h:J[b]?=some (.box (p.row.map .f) fl)):ldV J (some 10) (.c (.ptr b 0 0))=some (.a (p.row.map .f)):=by
 obtain⟨z,hg,hs,cg,cl⟩:=p
 obtain⟨a0,a1,a2,a3,a4,a5,a6,a7,hr⟩:=zO hc
 simp only at hr
 simp [ldV,aO,h,aS,OpD.row,hr]
theorem aNO(hc:p.z.c<3):ldV J none (.c (.f (.fp p.row 8)))=some (.c (.f (sl p.hg (bH p.hs)))):=by
 obtain⟨z,hg,hs,cg,cl⟩:=p
 obtain⟨a0,a1,a2,a3,a4,a5,a6,a7,hr⟩:=zO hc
 simp only at hr
 simp [ldV,aO,aS,OpD.row,hr]
theorem Hf{j:Nat}(hj:j<p.hs.length):ldV J (some 3) (.c (.f (.fp (bH p.hs).flatten (j*3))))=some (.a (p.hs[j].row.map .f)):=jd (iH p.hs) (KG hj)
theorem idh{j:Nat}(hj:j<p.hs.length):aU J 3 none (.c (.f (sl p.hg (bH p.hs)))) (vi j)=some (.c (.f (.fp (bH p.hs).flatten (j*3)))):=by
 have:=gX (H:=J) (g:=p.hg) (rows:=bH p.hs) (sz:=3) (k:=.i64) (i:=(j:Int)) (by omega) (by simp;omega)
 simpa using this
theorem idc{j:Nat}(hj:j<p.cl.length):aU J 1 none (.c (.f (sl p.cg (ints p.cl)))) (vi j)=some (.c (.f (.fp (ints p.cl).flatten j))):=by
 have:=gX (H:=J) (g:=p.cg) (rows:=ints p.cl) (sz:=1) (k:=.i64) (i:=(j:Int)) (by omega) (by simp;omega)
 simpa using this
theorem aNQ{j:Nat}(hj:j<p.cl.length):ldV J none (.c (.f (.fp (ints p.cl).flatten j)))=some (vi p.cl[j]):=by
 have:=SQ (H:=J) (ae hj)
 simpa [ints]using this
end
theorem mixV_sp(g:Tg){l:List TermD}(h:mixB l=true):Km.Pure tab.get F_x39 [.a [.f (sl g (termRows l))]]=Eq (vb true):=by
 obtain⟨h1,h2⟩:=Ep h
 have hm:=aj7 g l (by omega) (fun t ht=>⟨by have:=(kH (h2 t ht)).2.1;omega,fun p hp=>GL ((kH (h2 t ht)).2.2 p hp)⟩)
 rw [hm,h]
set_option maxRecDepth 100000 in
theorem D5{p:OpD}{o:List TrD}(h:p.OK o):Km.Pure tab.get TP [.a (p.row.map .f)]=Eq (vi 0):=Km.Pure.eq (by
 have hz:=TY h.z
 have hc:=h.z.c
 have hhl:=h.hl
 have hcl:=h.cl
 refine cu aP0 rfl fun Q hQ=>?_
 refine ak (aj (.inl rfl) ?_)
 simp
 obtain⟨H0,hH0⟩:∃ H0:Heap,H0=[.box (p.row.map .f) 0]:=⟨_,rfl⟩
 rw [←hH0]
 have z0:H0[0]?=some (.box (p.row.map .f) 0):=by rw [hH0];rfl
 clear hH0
 refine ak (ak (aj (.inl rfl) ?_))
 simp [aD9 hc z0,akl hc z0,-aH,hz,show¬ 32<(p.hs.length:Int) by omega]
 refine ay (by simp) (aG ?_)
 refine ak (ak (aj (.inl rfl) ?_))
 simp [akl hc z0,-aH]
 refine jo p.hs.length (fun j t J=>J[0]?=some (.box (p.row.map .f) 0)∧t.g 1=.c (.ptr 0 0 0)∧t.g 19=.c (.f (sl p.hg (bH p.hs)))) (by omega) (by decide) (by decide) (by simp) (by simp) ⟨z0,by simp,by simp⟩ ?_ ?_
 ·rintro j t J hj ⟨y0,g1,g19⟩ ha hb nx
  obtain⟨hm,a1,a2,a3⟩:=h.hs _ (av hj)
  have hmv:=mixV_sp p.hs[j].tg hm
  have hrow:=Hf (J:=J) hj
  simp only [HourD.row,aR,bj]at hrow
  obtain⟨J1,hJ1⟩:∃ J1:Heap,J1=J++[.box [.f (sl p.hs[j].tg (termRows p.hs[j].ts)),.f (fi p.hs[j].fr),.f (fi p.hs[j].to)] 0]:=⟨_,rfl⟩
  have y1:J1[0]?=some (.box (p.row.map .f) 0):=by rw [hJ1,ai (aF y0)];exact y0
  have eb:J1[J.length]?=some (.box [.f (sl p.hs[j].tg (termRows p.hs[j].ts)),.f (fi p.hs[j].fr),.f (fi p.hs[j].to)] 0):=by rw [hJ1];simp
  refine aN (ak (aj (.inl rfl) ?_))
  simp [g19,ha,idh hj,hrow]
  rw [←hJ1]
  refine ak (aj (.inl rfl) ?_)
  simp [eb,aS,show¬ p.hs[j].fr<0 by omega,show¬ p.hs[j].to≤p.hs[j].fr by omega,show¬ 1440<p.hs[j].to by omega,hmv]
  refine ay (by simp) (aG (aK ?_))
  exact nx _ _ ⟨y1,by simp [g1],by simp [g19]⟩ (by simp [ha]) (by simp [hb])
 clear z0
 rintro t J ⟨z0,g1,g19⟩ ha hb
 refine ak (aj (.inl rfl) ?_)
 simp
 refine ak (ak (aj (.inl rfl) ?_))
 simp [g1,SN hc z0,-aH]
 refine jo p.cl.length (fun j t J=>J[0]?=some (.box (p.row.map .f) 0)∧t.g 1=.c (.ptr 0 0 0)∧t.g 48=.c (.f (sl p.cg (ints p.cl)))∧∃ last:Int,t.g 5=vi last∧∀ i (hi:i<p.cl.length),j≤i→last<p.cl[i]) (by omega) (by decide) (by decide) (by simp) (by simp)
  ⟨z0,by simp [g1],by simp,-1,by simp,fun i hi _=>by have:=h.cb _ (av hi);omega⟩ ?_ ?_
 ·clear g1 g19 ha hb z0
  rintro j t J hj ⟨y0,g1,g48,last,g5,hlast⟩ ha hb nx
  have hcb:=h.cb _ (av hj)
  have hl:=hlast j hj (aw j)
  refine aN (ak (aj (.inl rfl) ?_))
  simp [g48,ha,idc hj,aNQ hj]
  refine ak (ak (aj (.inl rfl) ?_))
  simp [g5,show¬ p.cl[j]≤last by omega,show¬ 1099511627776≤p.cl[j] by omega]
  refine ay (by simp) (aG ?_)
  refine aj (.inl rfl) ?_
  simp
  refine aK ?_
  exact nx _ _ ⟨y0,by simp [g1],by simp [g48],_,by simp,fun i hi hji=>List.pairwise_iff_getElem.1 h.cp j i hj hi (by omega)⟩ (by simp [ha]) (by simp [hb])
 clear g1 g19 ha hb z0
 rintro t J ⟨z0,g1,g48,last,g5,hlast⟩ ha hb
 refine ak (ak (aj (.inl rfl) ?_))
 simp [g1,SN hc z0,-aH,show¬ 64<(p.cl.length:Int) by omega]
 refine ay (by simp) (aG ?_)
 refine ak (aj (.inl rfl) ?_)
 simp
 refine aP (hQ _ _ ?_)
 simp)
end Go.Proofs.YthfeogjbpgocbaaGreat
end
section
namespace Go.Proofs.YthfeogjbpgocbaaGreat
open Go Km
theorem Vu{hs:List HourD}{j:Nat}(hj:j<hs.length)(day:Int):oG (hs.take (j+1)) day=oG (hs.take j) day++(if rU hs[j].ts day then [hs[j].sp]else []):=by
 rw [List.take_add_one,ae hj,KU]
 simp only [Option.toList]
 congr 1
 simp only [oG,List.filter_cons,List.filter_nil]
 split<;>rfl
set_option maxRecDepth 100000 in
theorem ajW{p:OpD}{o:List TrD}(h:p.OK o){day:Int}(d0:0≤day)(d1:day≤1000000) :
  ∃ g l,(sU l∧l.length≤2*p.hs.length∧InR l∧∀ t,fZ l t↔fZ (onL p.hs p.cl day) t)∧Km.Pure tab.get Dc [.a (p.row.map .f),vi day]=Eq (.t [.c (.f (sl g (aZ l))),vi 0]):=by
 have hhl:=h.hl
 have inr:InR (onL p.hs p.cl day):=fun s hs=>by have:=aH6 h.hs hs;omega
 have hon:(onL p.hs p.cl day).length≤4:=bz (Sr _ _ _) hhl
 obtain⟨rr,⟨g,l,hl,rfl⟩,hp⟩:∃ rr,(∃ g l,(sU l∧l.length≤2*p.hs.length∧InR l∧∀ t,fZ l t↔fZ (onL p.hs p.cl day) t)∧rr=.t [.c (.f (sl g (aZ l))),vi 0])∧Km.Pure tab.get Dc [.a (p.row.map .f),vi day] rr:=by
  have hv:=D5 h
  have hc:=h.z.c
  obtain⟨bi,-,-,-,hbs⟩:=vT p.cg p.cl day (by have:=h.cl;omega) h.cp
  refine iM aP1 rfl fun Q hQ=>?_
  refine ak (aj (.inl rfl) ?_)
  simp
  obtain⟨H0,hH0⟩:∃ H0:Heap,H0=[.box (p.row.map .f) 0]:=⟨_,rfl⟩
  rw [←hH0]
  have z0:H0[0]?=some (.box (p.row.map .f) 0):=by rw [hH0];rfl
  clear hH0
  have fin:∀(t:T) (J:Heap) (c:C),t.g 6=.c c→LR J c 2 (aZ (onL p.hs p.cl day))→WP tab.get Dc none [.code LU] ⟨t,[],J⟩ Q:=by
   intro t J c g6 hL
   obtain⟨g,hex⟩:=hL.ex (iq _) 63
   obtain⟨g',l,hl,hno⟩:=azG g (onL p.hs p.cl day) (by omega) inr
   refine ak (aj (.inl rfl) ?_)
   have hex':exC deep J c=some (sl g (aZ (onL p.hs p.cl day))):=hex
   simp [g6,hex',hno]
   refine aP (hQ _ _ _ ⟨g',l,⟨hl.1,by have:=hl.2.1;have:=Sr p.hs p.cl day;omega,hl.2.2⟩,rfl⟩ ⟨rfl,.t [.c (.f (sl g' (aZ l))),vi 0],?_,?_⟩)
   ·simp [Km.results,dG,bC]
   ·simp [exV,dN,bC]
  refine ak (ak (aj (.inl rfl) ?_))
  simp [Ag hc z0,-aH,hv,show¬ day<0 by omega,show¬ 1099511627776<day by omega]
  refine ay (by simp) (aG ?_)
  refine ak (aj (.inl rfl) ?_)
  simp
  refine ak (ak (aj (.inl rfl) ?_))
  simp [SN hc z0,-aH,hbs]
  refine ak (aj (.inl rfl) ?_)
  by_cases hcl:day ∈ p.cl
  ·simp [hcl]
   refine ay (by simp) (aG ?_)
   exact fin _ _ (.f .aA) (by simp) (by unfold onL;rw [if_pos hcl];exact LR.nil _ _)
  ·simp [hcl]
   have aS7:onL p.hs p.cl day=oG p.hs day:=by unfold onL;rw [if_neg hcl]
   refine aB (by simp) (ak (aj (.inl rfl) ?_))
   simp [akl hc z0,-aH]
   refine jo p.hs.length (fun j t J=>∃ c,LR J c 2 (aZ (oG (p.hs.take j) day))∧t.g 1=vi day∧t.g 6=.c c∧t.g 32=.c (.f (sl p.hg (bH p.hs)))) (by omega) (by decide) (by decide) (by simp) (by simp)
    ⟨.f .aA,by simpa [oG,aZ]using LR.nil H0 2,by simp,by simp,by simp⟩ ?_ ?_
   ·rintro j t J hj ⟨c,hL,g1,g6,g32⟩ ha hb nx
    obtain⟨hm,a1,a2,a3⟩:=h.hs _ (av hj)
    have hmh:=SG p.hs[j].tg p.hs[j].ts hm day (by unfold Day;omega)
    have hrow:=Hf (J:=J) hj
    simp only [HourD.row,aR,bj]at hrow
    obtain⟨J1,hJ1⟩:∃ J1:Heap,J1=J++[.box [.f (sl p.hs[j].tg (termRows p.hs[j].ts)),.f (fi p.hs[j].fr),.f (fi p.hs[j].to)] 0]:=⟨_,rfl⟩
    have eb:J1[J.length]?=some (.box [.f (sl p.hs[j].tg (termRows p.hs[j].ts)),.f (fi p.hs[j].fr),.f (fi p.hs[j].to)] 0):=by rw [hJ1];simp
    have hL1:LR J1 c 2 (aZ (oG (p.hs.take j) day)):=by rw [hJ1];exact hL.push _
    have hsucc:=Vu hj day
    refine aN (ak (aj (.inl rfl) ?_))
    simp [g32,ha,idh hj,hrow]
    rw [←hJ1]
    refine ak (aj (.inl rfl) ?_)
    simp [eb,aS,g1,hmh]
    by_cases hh:rU p.hs[j].ts day=true
    ·refine aB (by simp [hh]) (aj (.inl rfl) ?_)
     obtain⟨J2,hJ2⟩:∃ J2:Heap,J2=J1++[.box (p.hs[j].sp.row.map .f) 0]:=⟨_,rfl⟩
     have hL2:LR J2 c 2 (aZ (oG (p.hs.take j) day)):=by rw [hJ2];exact hL1.push _
     have hb2:J2[J1.length]?=some (.box (p.hs[j].sp.row.map .f) 0):=by rw [hJ2];simp
     have hdl:(oG (p.hs.take j) day).length≤4:=bz (KT _ _) (by simp;omega)
     obtain⟨c3,H3,happ,hL3,hK3,hc3⟩:=hL2.app (iq _) (by decide) (row:=p.hs[j].sp.row) rfl (bytes:=16) (iy (by simp;omega) (by decide)) hb2
     rw [hJ2]at happ
     simp only [SpD.row,HourD.sp,aR,bj]at happ
     have e3:aZ (oG (p.hs.take j) day)++[p.hs[j].sp.row]=aZ (oG (p.hs.take (j+1)) day):=by rw [hsucc,if_pos hh];simp [aZ]
     rw [e3]at hL3
     simp [g6,eb,aS,happ]
     exact aK (nx _ _ ⟨c3,hL3,by simp [g1],by simp,by simp [g32]⟩ (by simp [ha]) (by simp [hb]))
    ·have hh':rU p.hs[j].ts day=false:=by simpa using hh
     refine ay (by simp [hh']) (aG ?_)
     refine aK (nx _ _ ⟨c,?_,by simp [g1],by simp [g6],by simp [g32]⟩ (by simp [ha]) (by simp [hb]))
     rw [hsucc,if_neg hh,List.append_nil];exact hL1
   ·rintro t J ⟨c,hL,g1,g6,g32⟩ ha hb
    rw [List.take_length]at hL
    exact fin _ _ c (by simp [g6]) (by rw [aS7];exact hL)
 exact⟨g,l,hl,hp.eq⟩
end Go.Proofs.YthfeogjbpgocbaaGreat
end
section
namespace Go.Proofs.YthfeogjbpgocbaaGreat
open Go Km
theorem aiU(n:Int)(h0:-1000000000≤n)(h1:n≤1000000000):Km.Pure tab.get aly [vi n]=Eq (.t [vi (n / 1440),vi (n % 1440)]):=Km.Pure.eq (by
 have f:=KJ n 1440 (by decide) (by omega) (by omega)
 have m:=aId n 1440 (by decide) (by omega) (by omega) (by decide)
 refine cu aPW rfl fun Q hQ=>?_
 refine ak (aj (.inl rfl) ?_)
 simp
 refine ak (aj (.inl rfl) ?_)
 simp [f]
 refine ak (aj (.inl rfl) ?_)
 simp [m]
 refine ak (aj (.inl rfl) ?_)
 simp
 refine aP (hQ _ _ ?_)
 simp)
abbrev elF(p:OpD)(m n:Int):V:=.c (.f (.fn EW [.fp p.row 0,.fp [fi m] 0,.fp [fi n] 0]))
theorem KQ(p:OpD)(m n:Int):Km.Pure tab.get alz [.a (p.row.map .f),vi m,vi n]=Eq (elF p m n):=Km.Pure.eq (by
 refine cu aPY rfl fun Q hQ=>?_
 refine ak (aj (.inl rfl) ?_)
 simp
 refine ak (aj (.inl rfl) ?_)
 simp
 refine aP (hQ _ _ ?_)
 simp [exV,dN,bC,deep,exC])
set_option maxRecDepth 100000 in
theorem KR{p:OpD}(hc:p.z.c<3)(hhl:p.hs.length≤4)(hb:∀ h ∈ p.hs,h.OK){m n:Int}(m0:0≤m)(m1:m≤1000000)(n0:0≤n)(n1:n≤1000000){b:Nat}{H:Heap}(I:Nat→Heap→Prop){PP:Heap→Prop}
  (hI0:I 0 H) (hpush:∀ j J L,I j J→I j (J++L)) (aEe:∀ j J (hj:j<p.hs.length),Cb p.hs[j] m n=false→I j J→I (j+1) J)
  (aIK:∀ j J (hj:j<p.hs.length),Cb p.hs[j] m n=true→I j J→(∃ J',Ev tab.get (.yield b) [.a (p.hs[j].row.map .f)] J (vb true) J'∧I (j+1) J')∨(∃ J',Ev tab.get (.yield b) [.a (p.hs[j].row.map .f)] J (vb false) J'∧PP J'))
  (hdone:∀ J,I p.hs.length J→PP J) :
  ∃ r H',Ev tab.get (.fn EW) [.c (.yl b),.c (.f (.fp p.row 0)),.c (.f (.fp [fi m] 0)),.c (.f (.fp [fi n] 0))] H r H'∧(r=.t []∧PP H'):=by
 refine iT aPX rfl fun Q hQ=>?_
 have lm:∀ J:Heap,ldV J none (.c (.f (.fp [fi m] 0)))=some (vi m):=fun J=>by simp [ldV,aO,aS]
 have ln:∀ J:Heap,ldV J none (.c (.f (.fp [fi n] 0)))=some (vi n):=fun J=>by simp [ldV,aO,aS]
 have w1:IntKind.i64.wrap (m+n)=m+n:=wrap64 (by omega) (by omega)
 refine ak (aj (.inl rfl) ?_)
 simp [aNO hc]
 refine jo p.hs.length (fun j t J=>I j J∧t.g 0=.c (.yl b)∧t.g 2=.c (.f (.fp [fi m] 0))∧t.g 3=.c (.f (.fp [fi n] 0))∧t.g 8=.c (.f (sl p.hg (bH p.hs)))) (by omega) (by decide) (by decide) (by simp) (by simp)
  ⟨hI0,by simp,by simp,by simp,by simp⟩ ?_ ?_
 ·rintro j t J hj ⟨hI,g0,g2,g3,g8⟩ ha hb' nx
  have hrow:=Hf (J:=J) hj
  simp only [HourD.row,aR,bj]at hrow
  obtain⟨J1,hJ1⟩:∃ J1:Heap,J1=J++[.box [.f (sl p.hs[j].tg (termRows p.hs[j].ts)),.f (fi p.hs[j].fr),.f (fi p.hs[j].to)] 0]:=⟨_,rfl⟩
  have eb:J1[J.length]?=some (.box [.f (sl p.hs[j].tg (termRows p.hs[j].ts)),.f (fi p.hs[j].fr),.f (fi p.hs[j].to)] 0):=by rw [hJ1];simp
  have hI1:I j J1:=by rw [hJ1];exact hpush _ _ _ hI
  refine aN (ak (aj (.inl rfl) ?_))
  simp [g8,ha,idh hj,hrow]
  rw [←hJ1]
  refine ak (aj (.inl rfl) ?_)
  by_cases c1:p.hs[j].fr≤m
  ·by_cases c2:m+n≤p.hs[j].to
   ·have hfit:Cb p.hs[j] m n=true:=by simp [Cb,c1,c2]
    rcases aIK j J1 hj hfit hI1 with⟨J',hev,hI'⟩ | ⟨J',hev,hPP⟩
    ·simp only [HourD.row,aR,bj]at hev
     simp [g0,g2,g3,eb,aS,lm,ln,w1,c1,c2,hev.eq]
     refine ay (by simp) (aG (aK ?_))
     exact nx _ _ ⟨hI',by simp [g0],by simp [g2],by simp [g3],by simp [g8]⟩ (by simp [ha]) (by simp [hb'])
    ·simp only [HourD.row,aR,bj]at hev
     simp [g0,g2,g3,eb,aS,lm,ln,w1,c1,c2,hev.eq]
     refine aB (by simp) ?_
     exact aP (hQ _ _ _ rfl rfl ⟨rfl,hPP⟩)
   ·have hfit:Cb p.hs[j] m n=false:=by simp [Cb,c1,c2]
    simp [g2,g3,eb,aS,lm,ln,w1,c1,c2]
    refine ay (by simp) (aG (aK ?_))
    exact nx _ _ ⟨aEe j J1 hj hfit hI1,by simp [g0],by simp [g2],by simp [g3],by simp [g8]⟩ (by simp [ha]) (by simp [hb'])
  ·have hfit:Cb p.hs[j] m n=false:=by simp [Cb,c1]
   simp [g2,eb,aS,lm,c1]
   refine ay (by simp) (aG (aK ?_))
   exact nx _ _ ⟨aEe j J1 hj hfit hI1,by simp [g0],by simp [g2],by simp [g3],by simp [g8]⟩ (by simp [ha]) (by simp [hb'])
 ·rintro t J ⟨hI,-⟩ ha hb'
  exact pW (hQ _ _ _ rfl rfl ⟨rfl,hdone J hI⟩)
end Go.Proofs.YthfeogjbpgocbaaGreat
end
section
namespace Go.Proofs.YthfeogjbpgocbaaGreat
open Go Km
set_option maxRecDepth 100000 in
theorem OA{p:OpD}{o:List TrD}(h:p.OK o){fr to:Int}(f0:-1000000≤fr)(ft:fr<to)(t1:to≤1000000)(hle:to-fr≤1000000) :
  ∃ r,Last h.z.S fr r∧Km.Pure tab.get nV [.a (p.row.map .f),.a [.f (fi fr),.f (fi to)]]=Eq (vb (jM p.hs p.cl ((fr+offO p.z r) / 1440) ((fr+offO p.z r) % 1440) (to-fr))):=by
 obtain⟨r,hr,hloc⟩:=U8 h.z (t:=fr) (by omega) (by omega)
 refine⟨r,hr,?_⟩
 have hob:=h.z.offO hr
 obtain⟨lo,hlo⟩:∃ lo,lo=fr+offO p.z r:=⟨_,rfl⟩
 rw [←hlo]at hloc ⊢
 have hsp:=aiU lo (by omega) (by omega)
 obtain⟨day,aI3⟩:∃ d,d=lo / 1440:=⟨_,rfl⟩
 obtain⟨mi,hmi⟩:∃ d,d=lo % 1440:=⟨_,rfl⟩
 obtain⟨n,hn⟩:∃ n,n=to-fr:=⟨_,rfl⟩
 rw [←aI3,←hmi]at hsp ⊢
 rw [←hn]
 have dB:Day day:=by unfold Day;omega
 have mB:0≤mi∧mi≤1440:=by omega
 have wn:IntKind.i64.wrap n=n:=wrap64 (by omega) (by omega)
 have hc:=h.z.c
 have hhl:=h.hl
 obtain⟨bi,-,-,-,hbs⟩:=vT p.cg p.cl day (by have:=h.cl;omega) h.cp
 have hel:=KQ p mi n
 obtain⟨rr,rfl,hp⟩:∃ rr,rr=vb (jM p.hs p.cl day mi n)∧Km.Pure tab.get nV [.a (p.row.map .f),.a [.f (fi fr),.f (fi to)]] rr:=by
  refine JF aPZ rfl fun Q hQ=>?_
  refine ak (aj (.inl rfl) ?_)
  simp
  obtain⟨H0,hH0⟩:∃ H0:Heap,H0=[.box (p.row.map .f) 0,.box [.f (fi fr),.f (fi to)] 0,.box [.f (.bool false)] 0]:=⟨_,rfl⟩
  rw [←hH0]
  have z0:H0[0]?=some (.box (p.row.map .f) 0):=by rw [hH0];rfl
  have z1:H0[1]?=some (.box [.f (fi fr),.f (fi to)] 0):=by rw [hH0];rfl
  have z2:H0[2]?=some (.box [.f (.bool false)] 0):=by rw [hH0];rfl
  have hl0:H0.length=3:=by rw [hH0];rfl
  have lf:∀ J:Heap,J[1]?=some (.box [.f (fi fr),.f (fi to)] 0)→ldV J none (.c (.ptr 1 0 0))=some (vi fr):=fun J hJ=>by simp [ldV,aO,hJ,aS]
  have lt:∀ J:Heap,J[1]?=some (.box [.f (fi fr),.f (fi to)] 0)→ldV J none (.c (.ptr 1 1 0))=some (vi to):=fun J hJ=>by simp [ldV,aO,hJ,aS]
  refine ak (aj (.inl rfl) ?_)
  simp [aD9 hc z0,lf H0 z1,-aH,hloc]
  refine ak (aj (.inl rfl) ?_)
  simp [hsp]
  obtain⟨J0,hJ0⟩:∃ J0:Heap,J0=H0++[.box [.f (fi day)] 0]:=⟨_,rfl⟩
  rw [←hJ0]
  have y0:J0[0]?=some (.box (p.row.map .f) 0):=by rw [hJ0,ai (by omega)];exact z0
  have y1:J0[1]?=some (.box [.f (fi fr),.f (fi to)] 0):=by rw [hJ0,ai (by omega)];exact z1
  have y2:J0[2]?=some (.box [.f (.bool false)] 0):=by rw [hJ0,ai (by omega)];exact z2
  have y3:J0[3]?=some (.box [.f (fi day)] 0):=by rw [hJ0,←hl0];simp
  have hl1:J0.length=4:=by rw [hJ0];simp [hl0]
  clear hJ0 hH0
  have ld3:∀ J:Heap,J[3]?=some (.box [.f (fi day)] 0)→ldV J none (.c (.ptr 3 0 0))=some (vi day):=fun J hJ=>by simp [ldV,aO,hJ,aS]
  have fin:∀(t:T) (J:Heap) (ds:List fF),jM p.hs p.cl day mi n=false→t.g 4=.c (.ptr 2 0 0)→J[2]?=some (.box [.f (.bool false)] 0)→(ds=[]∨∃ b,ds=[.coll b]∧2<b∧J[b]?=some (.dfr true))→∀ s',s'=(⟨t,ds,J.set 2 (.box [.f (.bool false)] 0)⟩:St)→Q (some .ret) s':=by
   rintro t J ds aIS g4 x2 hds s' rfl
   have l2:=aF x2
   have k2:(J.set 2 (.box [.f (.bool false)] 0))[2]?=some (.box [.f (.bool false)] 0):=ax l2
   refine hQ _ _ _ rfl ?_
   rw [aIS]
   rcases hds with rfl | ⟨b,rfl,hb,hxb⟩
   ·refine .inl ⟨rfl,vb false,?_,?_⟩
    ·simp [Km.results,dG,bC,g4,l2,aS]
    ·simp [exV,dN]
   ·have kb:(J.set 2 (.box [.f (.bool false)] 0))[b]?=some (.dfr true):=by rw [ag (by omega)];exact hxb
    have r2:((J.set 2 (.box [.f (.bool false)] 0)).set b (.dfr false))[2]?=some (.box [.f (.bool false)] 0):=by rw [ag (by omega)];exact k2
    refine .inr ⟨b,rfl,kb,vb false,?_,?_⟩
    ·simp [Km.results,dG,bC,g4,r2,aS]
    ·simp [exV,dN]
  have st2:∀(J:Heap) (v w:Bool),J[2]?=some (.box [.f (.bool v)] 0)→stC J (.ptr 2 0 0) [.f (.bool w)]=some (J.set 2 (.box [.f (.bool w)] 0)):=fun J v w hJ=>by simp [stC,hJ,over]
  refine ak (ak (aj (.inl rfl) ?_))
  simp [hl0,SN hc y0,ld3 J0 y3,-aH,hbs]
  refine ak (aj (.inl rfl) ?_)
  simp
  by_cases hcl:day ∈ p.cl
  ·refine aB (by simp [hcl]) (ak (aj (.inl rfl) ?_))
   simp [st2 J0 false false y2,-bI]
   refine aP (fin _ J0 [] (by unfold jM;simp [hcl]) (by simp) y2 (.inl rfl) _ rfl)
  refine ay (by simp [hcl]) (aG ?_)
  have hall:jM p.hs p.cl day mi n=p.hs.any fun h=>Cb h mi n&&rU h.ts day:=by unfold jM;simp [hcl]
  refine ak (ak (aj (.inl rfl) ?_))
  simp [Ag hc y0,lf J0 y1,lt J0 y1,-aH,←hn,wn,hel]
  refine aN ?_
  have stage:∀ t:T,t.g 4=.c (.ptr 2 0 0)→t.g 7=.c (.ptr 3 0 0)→t.g 40=elF p mi n →
    WP tab.get nV none [.code (.iC (R 40) [P.nat 41] iW iV),.inBlock 0,.code LQ] ⟨t,[],J0⟩ Q:=by
   intro t g4 g7 g40
   obtain⟨H1,hH1⟩:∃ H1:Heap,H1=J0++[.dfr true,.lp nV t [P.nat 41] iW iV .ready none J0.length]:=⟨_,rfl⟩
   have up1:∀ i y,J0[i]?=some y→H1[i]?=some y:=fun i y hy=>by rw [hH1,ai (aF hy)];exact hy
   have w2:=up1 _ _ y2
   have w3:=up1 _ _ y3
   have hd:H1[4]?=some (.dfr true):=by rw [hH1,←hl1];simp
   have hlp:H1[5]?=some (.lp nV t [P.nat 41] iW iV .ready none 4):=by rw [hH1,bB (by omega),hl1];rfl
   obtain⟨r,H',he,rfl,hPP⟩:=KR hc hhl h.hs mB.1 (show mi≤1000000 by omega) (show 0≤n by omega) (show n≤1000000 by omega) (b:=5) (H:=H1)
    (fun j J=>Keeps H1 J∧∀ i (hi:i<p.hs.length),i<j→(Cb p.hs[i] mi n&&rU p.hs[i].ts day)=false)
    (PP:=fun H'=>(jM p.hs p.cl day mi n=false∧Keeps H1 H')∨(jM p.hs p.cl day mi n=true∧H'[2]?=some (.box [.f (.bool true)] 0)∧H'[4]?=some (.dfr true)∧∃ f2 tm ps aa bd,H'[5]?=some (.lp f2 tm ps aa bd .done (some .ret) 4)))
    ⟨Keeps.refl _,fun i hi h0=>by omega⟩ (fun j J L hI=>⟨hI.1.push L,hI.2⟩)
    (fun j J hj hf hI=>⟨hI.1,fun i hi hij=>by
     by_cases e:i=j
     ·subst e;rw [hf];rfl
     ·exact hI.2 i hi (by omega)⟩)
    (fun j J hj hf hI=>by
     have hmh:=SG p.hs[j].tg p.hs[j].ts (h.hs _ (av hj)).1 day dB
     have hlJ:=aF (hI.1 _ _ hlp)
     obtain⟨M,hM⟩:∃ M:Heap,M=(J++[Blk.box [.f (sl p.hs[j].tg (termRows p.hs[j].ts)),.f (fi p.hs[j].fr),.f (fi p.hs[j].to)] 0]).set 5 (.lp nV t [P.nat 41] iW iV .busy none 4):=⟨_,rfl⟩
     have upM:∀ i y,H1[i]?=some y→i≠5→M[i]?=some y:=fun i y hy hi=>by
      rw [hM,ag (by omega),ai (aF (hI.1 _ _ hy))];exact hI.1 _ _ hy
     have m2:=upM _ _ w2 (by decide)
     have m3:=upM _ _ w3 (by decide)
     have m4:=upM _ _ hd (by decide)
     have mb:M[5]?=some (.lp nV t [P.nat 41] iW iV .busy none 4):=by rw [hM,ax (by simp;omega)]
     have mx:M[J.length]?=some (.box [.f (sl p.hs[j].tg (termRows p.hs[j].ts)),.f (fi p.hs[j].fr),.f (fi p.hs[j].to)] 0):=by rw [hM,ag (by omega)];simp
     have lx:ldV M (some 1) (.c (.ptr J.length 0 0))=some (.a [.f (sl p.hs[j].tg (termRows p.hs[j].ts))]):=by simp [ldV,aO,mx,aS]
     cases hhas:rU p.hs[j].ts day with
     | true=>
      refine .inr ?_
      obtain⟨r,H',e,rfl,hPP⟩:=sJ (tab:=tab.get) (b:=5) (args:=[.a (p.hs[j].row.map .f)]) (H:=J)
       (C:=fun r H'=>r=vb false∧H'[2]?=some (.box [.f (.bool true)] 0)∧H'[4]?=some (.dfr true)∧∃ f2 tm ps aa bd,H'[5]?=some (.lp f2 tm ps aa bd .done (some .ret) 4)) (hI.1 _ _ hlp) rfl fun Q' hQ'=>by
        simp only [HourD.row,aR,bj]
        refine aj (.inr rfl) ?_
        simp
        refine Hl (by rw [ai hlJ];exact hI.1 _ _ hlp) ?_
        rw [←hM]
        refine aN (ak (aj (.inr rfl) ?_))
        simp [lx,g7,ld3 M m3,-aH,hmh,hhas]
        refine aB (by simp) (ak (aj (.inr rfl) ?_))
        simp [g4,st2 M false true m2,-bI]
        have kb:(M.set 2 (.box [.f (.bool true)] 0))[5]?=some (.lp nV t [P.nat 41] iW iV .busy none 4):=by rw [ag (by decide)];exact mb
        refine aP (hQ' _ _ _ _ _ _ _ _ _ _ rfl kb ⟨rfl,?_,?_,nV,t,[P.nat 41],iW,iV,?_⟩)
        ·simp only
         rw [ag (by decide),ax (aF m2)]
        ·simp only
         rw [ag (by decide),ag (by decide)];exact m4
        ·exact ax (aF kb)
      refine⟨H',e,.inr ⟨?_,hPP⟩⟩
      rw [hall,List.any_eq_true]
      exact⟨p.hs[j],av hj,by rw [hf,hhas];rfl⟩
     | false=>
      refine .inl ?_
      obtain⟨r,H',e,rfl,hK⟩:=sJ (tab:=tab.get) (b:=5) (args:=[.a (p.hs[j].row.map .f)]) (H:=J)
       (C:=fun r H'=>r=vb true∧Keeps H1 H') (hI.1 _ _ hlp) rfl fun Q' hQ'=>by
        simp only [HourD.row,aR,bj]
        refine aj (.inr rfl) ?_
        simp
        refine Hl (by rw [ai hlJ];exact hI.1 _ _ hlp) ?_
        rw [←hM]
        refine aN (ak (aj (.inr rfl) ?_))
        simp [lx,g7,ld3 M m3,-aH,hmh,hhas]
        refine ay (by simp) (aG (aK (pW ?_)))
        refine hQ' _ _ _ _ _ _ _ _ _ _ rfl mb ⟨rfl,fun i y hy=>?_⟩
        by_cases e:i=5
        ·subst e
         rw [hlp]at hy;cases hy
         exact ax (aF mb)
        ·simp only
         rw [ag (Ne.symm e)];exact upM _ _ hy e
      refine⟨H',e,hK,fun i hi hij=>?_⟩
      by_cases e:i=j
      ·subst e;rw [hhas,Bool.and_false]
      ·exact hI.2 i hi (by omega))
    (fun J hI=>.inl ⟨by
     rw [hall,List.any_eq_false]
     intro x hx
     obtain⟨i,hi,rfl⟩:=bk hx
     simpa using hI.2 i hi hi,hI.1⟩)
   rw [hH1]at he
   have he':Ev tab.get (.fn EW) [.c (.yl (J0.length+1)),.c (.f (.fp p.row 0)),.c (.f (.fp [fi mi] 0)),.c (.f (.fp [fi n] 0))] (J0++[.dfr true,.lp nV t [P.nat 41] iW iV .ready none J0.length]) (.t []) H':=by rw [hl1]at he ⊢;exact he
   refine yD (g:=EW) (by rw [aLc,g40];simp [dw]) he' ?_
   rw [hl1]
   rcases hPP with⟨aIS,hK⟩ | ⟨aS1,p2,p4,f2,tm,ps,aa,bd,p5⟩
   ·refine Kt (hK _ _ hlp) (by decide) ?_
    refine aK (ak (aj (.inl rfl) ?_))
    have x2:(H'.set 5 (.lp nV t [P.nat 41] iW iV .exhausted none 4))[2]?=some (.box [.f (.bool false)] 0):=by rw [ag (by decide)];exact hK _ _ w2
    have x4:(H'.set 5 (.lp nV t [P.nat 41] iW iV .exhausted none 4))[4]?=some (.dfr true):=by rw [ag (by decide)];exact hK _ _ hd
    simp [g4,st2 _ false false x2,-bI]
    refine aP (fin _ _ _ aIS g4 x2 (.inr ⟨4,rfl,by decide,x4⟩) _ rfl)
   ·refine wU p5 (by decide) ?_
    have x2:((H'.set 5 (.lp f2 tm ps aa bd .exhausted (some .ret) 4)).set 4 (.dfr false))[2]?=some (.box [.f (.bool true)] 0):=by rw [ag (by decide),ag (by decide)];exact p2
    have x4:(H'.set 5 (.lp f2 tm ps aa bd .exhausted (some .ret) 4))[4]?=some (.dfr true):=by rw [ag (by decide)];exact p4
    refine aP (hQ _ _ _ rfl (.inr ⟨4,rfl,x4,vb true,?_,?_⟩))
    ·simp [Km.results,dG,bC,g4,x2,aS]
    ·rw [aS1];simp [exV,dN]
  exact stage _ (by simp) (by simp) (by simp)
 exact hp.eq
end Go.Proofs.YthfeogjbpgocbaaGreat
end
section
namespace Go.Proofs.YthfeogjbpgocbaaGreat
open Go Km
theorem yx(a b:Int)(hb:1≤b)(hb':b≤1000000000)(ha:-9223372036854775808≤a)(ha':a≤9223372036854775807):Km.Pure tab.get Dq [vi a,vi b]=Eq (vi (a % b)):=Km.Pure.eq (by
 refine cu aLa rfl fun Q hQ=>?_
 refine ak (aj (.inl rfl) ?_)
 simp
 have e0:=b5 a (show b≠0 by omega)
 have e1:=cm a (show 0<b by omega)
 have aTj:bU .rem (vi a) (vi b)=some (vi (a.tmod b)):=by
  have:¬ b=0:=by omega
  simp [bU,nK,this,V.int]
 refine ak (aj (.inl rfl) ?_)
 simp [aTj]
 refine ak (ak (aj (.inl rfl) ?_))
 rcases Int.le_total 0 a with h | h
 ·have ht:a.tmod b=a % b:=dk h
  simp [ht,show¬ a % b<0 by omega]
  refine ay (by simp) (aG (ak (aj (.inl rfl) ?_)))
  simp
  refine aP (hQ _ _ ?_)
  simp
 ·have ht:a.tmod b = -((-a) % b):=by
   have h1:(-(-a)).tmod b = -((-a).tmod b):=Int.neg_tmod ..
   rw [Int.neg_neg]at h1
   rw [h1,dk (by omega)]
  have n0:=b5 (-a) (show b≠0 by omega)
  have n1:=cm (-a) (show 0<b by omega)
  by_cases hz:(-a) % b=0
  ·have he:a % b=0:=by
    have hd:b ∣ -a:=Int.dvd_of_emod_eq_zero hz
    exact dt (Int.dvd_neg.1 hd)
   simp [ht,hz]
   refine ay (by simp) (aG (ak (aj (.inl rfl) ?_)))
   simp
   refine aP (hQ _ _ ?_)
   simp [he]
  ·have he:a % b=b-(-a) % b:=by
    have q1:=bN a b
    have q2:=bN (-a) b
    have hs:b*(a / b+(-a) / b) = - (a % b+(-a) % b):=by rw [Int.mul_add];omega
    have hne:a % b≠0:=by
     intro h0
     exact hz (dt (Int.dvd_neg.2 (Int.dvd_of_emod_eq_zero h0)))
    have hk:a / b+(-a) / b = -1:=by
     obtain⟨k,hk⟩:∃ k,k=a / b+(-a) / b:=⟨_,rfl⟩
     rw [←hk]at hs ⊢
     rcases Int.lt_trichotomy k (-1)with h1 | h1 | h1
     ·have:b*k≤b*(-2):=Int.mul_le_mul_of_nonneg_left (by omega) (by omega)
      omega
     ·exact h1
     ·have:0≤b*k:=Int.mul_nonneg (by omega) (by omega)
      omega
    rw [hk]at hs
    omega
   have w:IntKind.i64.wrap (-(-a % b)+b)=b-(-a) % b:=by rw [wrap64 (by omega) (by omega)];omega
   simp [ht,show(0:Int) < -a % b by omega]
   refine aB (by simp) (aj (.inl rfl) ?_)
   simp [w]
   refine ak (aj (.inl rfl) ?_)
   simp
   refine aP (hQ _ _ ?_)
   simp [he])
def I64(n:Int):Prop:=-9223372036854775808≤n∧n≤9223372036854775807
def SC(a:Int):Int:=a % 60000-2000
def SB(a l:Int):Int:=a % 60000-2000+1+l % 1500
theorem azI{a l:Int}(ha:I64 a)(hl:I64 l):Km.Pure tab.get alE [vi a,vi l]=Eq (.a [.f (fi (SC a)),.f (fi (SB a l))]):=Km.Pure.eq (by
 have m1:=yx a 60000 (by decide) (by decide) ha.1 ha.2
 have m2:=yx l 1500 (by decide) (by decide) hl.1 hl.2
 have w1:IntKind.i64.wrap (a % 60000-2000)=a % 60000-2000:=wrap64 (by omega) (by omega)
 have w2:IntKind.i64.wrap (a % 60000-2000+1)=a % 60000-2000+1:=wrap64 (by omega) (by omega)
 have w3:IntKind.i64.wrap (a % 60000-2000+1+l % 1500)=a % 60000-2000+1+l % 1500:=wrap64 (by omega) (by omega)
 refine cu aQc rfl fun Q hQ=>?_
 refine ak (aj (.inl rfl) ?_)
 simp
 refine ak (aj (.inl rfl) ?_)
 simp [m1,w1]
 refine ak (aj (.inl rfl) ?_)
 simp [m2,w2,w3]
 refine aP (hQ _ _ ?_)
 simp [aS,SC,SB,exV,dN,bC])
theorem Jo{g:Tg}{l:List SpD}{j:Nat}(hj:j<l.length){H:Heap}:aU H 2 none (.c (.f (sl g (aZ l)))) (vi j)=some (.c (.f (.fp (aZ l).flatten (j*2)))):=by
 have:=gX (H:=H) (g:=g) (rows:=aZ l) (sz:=2) (k:=.i64) (i:=(j:Int)) (by omega) (by simp;omega)
 simpa using this
theorem ai2(g g':Tg)(l:List SpD)(hl:l.length≤1000):Km.Pure tab.get O9 [.c (.f (sl g (aZ l))),.c (.f (sl g' (aZ l)))]=Eq (vb true):=Km.Pure.eq (by
 refine cu aK6 rfl fun Q hQ=>?_
 refine ak (aj (.inl rfl) ?_)
 simp
 refine ak (ak (aj (.inl rfl) ?_))
 simp
 refine ay (by simp) (aG (ak (ak (aj (.inl rfl) ?_))))
 simp
 refine kS (H:=[]) l.length (fun j t J=>t.g 0=.c (.f (sl g (aZ l)))∧t.g 1=.c (.f (sl g' (aZ l)))) (by omega) (by decide) (by simp) ⟨by simp,by simp⟩ ?_ ?_ ?_
 ·rintro j t J L hj ⟨g0,g1⟩ ha hn
  simp [ha,g0]
  exact hn _ ⟨by simp [g0],by simp [g1]⟩ (by simp [ha]) (by simp)
 ·rintro j t J hj ⟨g0,g1⟩ ha nx
  have hrow:=jd (H:=J) (iq l) (yh hj)
  simp only [SpD.row,aR,bj]at hrow
  have i0:=Jo (g:=g) hj (H:=J)
  have i1:=Jo (g:=g') hj (H:=J)
  refine aN (ak (aj (.inl rfl) ?_))
  simp [ha,g0,g1,i0,i1,hrow,eqV,eqL,eqP]
  refine ay (by simp) (aG (aK ?_))
  exact nx _ _ ⟨by simp [g0],by simp [g1]⟩ (by simp [ha])
 rintro t J ⟨g0,g1⟩ ha
 refine ak (aj (.inl rfl) ?_)
 simp
 refine aP (hQ _ _ ?_)
 simp)
end Go.Proofs.YthfeogjbpgocbaaGreat
end
section
namespace Go.Proofs.YthfeogjbpgocbaaGreat
open Go Km
set_option maxRecDepth 100000 in
theorem yR{p:OpD}{o:List TrD}(h:p.OK o){fr to:Int}(f0:-1000000≤fr)(ft:fr<to)(t1:to≤1000000)(hle:to-fr≤1000000) :
  ∃ r,Last h.z.S fr r∧Km.Pure tab.get LH [.a (p.row.map .f),.a [.f (fi fr),.f (fi to)]]=Eq (.t [vb (jM p.hs p.cl ((fr+offO p.z r) / 1440) ((fr+offO p.z r) % 1440) (to-fr)),vi 0]):=by
 obtain⟨r,hr,hal⟩:=OA h f0 ft t1 hle
 refine⟨r,hr,Km.Pure.eq ?_⟩
 have hv:=D5 h
 have hc:=h.z.c
 refine cu aP2 rfl fun Q hQ=>?_
 refine ak (aj (.inl rfl) ?_)
 simp
 obtain⟨H0,hH0⟩:∃ H0:Heap,H0=[.box (p.row.map .f) 0,.box [.f (fi fr),.f (fi to)] 0]:=⟨_,rfl⟩
 rw [←hH0]
 have z0:H0[0]?=some (.box (p.row.map .f) 0):=by rw [hH0];rfl
 have z1:H0[1]?=some (.box [.f (fi fr),.f (fi to)] 0):=by rw [hH0];rfl
 have lf:ldV H0 none (.c (.ptr 1 0 0))=some (vi fr):=by simp [ldV,aO,z1,aS]
 have lt:ldV H0 none (.c (.ptr 1 1 0))=some (vi to):=by simp [ldV,aO,z1,aS]
 have ls:ldV H0 (some 2) (.c (.ptr 1 0 0))=some (.a [.f (fi fr),.f (fi to)]):=by simp [ldV,aO,z1,aS]
 refine ak (ak (aj (.inl rfl) ?_))
 simp [Ag hc z0,lf,lt,-aH,hv,show¬ fr < -2251799813685248 by omega,show¬ to≤fr by omega,show¬ 2251799813685248<to by omega]
 refine ay (by simp) (aG (ak (aj (.inl rfl) ?_)))
 simp [Ag hc z0,ls,-aH,hal]
 refine aP (hQ _ _ ?_)
 simp
end Go.Proofs.YthfeogjbpgocbaaGreat
end
section
namespace Go.Proofs.YthfeogjbpgocbaaGreat
open Go Km
theorem awP{J:Heap}{x:uP}{b:Nat}(h:J[b]?=some (.box (x.row.map .f) 0)):ldV J (some 16) (.c (.ptr b 0 0))=some (.a (x.row.map .f)):=by
 simp [ldV,aO,h,aS,uP.row,kE.row]
end Go.Proofs.YthfeogjbpgocbaaGreat
end
section
namespace Go.Proofs.YthfeogjbpgocbaaGreat
open Go Km
def Rf(n:Nat)(x:FC):Prop:=FC.beq n x x=true
theorem oh(n:Nat)(k:IntKind)(m:Int):Rf n (.int k m):=by unfold Rf;cases n<;>simp [FC.beq]
theorem aLY{n:Nat}{xs:List FC}{l:Nat}(h:∀ x ∈ xs,Rf n x):Rf (n+1) (.fs xs l):=by unfold Rf;simp [FC.beq,all2b_self h]
theorem Ed{n:Nat}{rows:List (List FC)}(g:Tg)(h:∀ r ∈ rows,∀ x ∈ r,Rf n x):Rf (n+1) (sl g rows):=by
 unfold sl
 split
 ·unfold Rf;cases g<;>rfl
 ·exact aLY fun x hx=>by
   obtain⟨r,hr,hx⟩:=List.mem_flatten.1 hx
   exact h r hr x hx
theorem Gy(n:Nat)(g:Tg)(l:List Int):Rf (n+1) (sl g (ints l)):=Ed g fun r hr x hx=>by
 obtain⟨k,-,rfl⟩:=b7.1 hr
 simp at hx;subst hx;exact oh _ _ _
theorem aEM{n:Nat}(p:dn):∀ x ∈ p.row,Rf (n+1) x:=by
 intro x hx
 simp [dn.row]at hx
 rcases hx with rfl | rfl | rfl | rfl
 ·exact Gy _ _ _
 ·exact oh _ _ _
 ·exact oh _ _ _
 ·exact Gy _ _ _
theorem awK(n:Nat)(g:Tg)(l:List dn):Rf (n+2) (sl g (cZ l)):=Ed g fun r hr x hx=>by
 obtain⟨k,-,rfl⟩:=b7.1 hr
 exact aEM k x hx
theorem ai8(n:Nat)(g:Tg)(l:List TermD):Rf (n+3) (sl g (termRows l)):=Ed g fun r hr x hx=>by
 obtain⟨k,-,rfl⟩:=b7.1 hr
 simp [TermD.row]at hx;subst hx;exact awK _ _ _
theorem awL{n:Nat}(h:HourD):∀ x ∈ h.row,Rf (n+3) x:=by
 intro x hx
 simp [HourD.row]at hx
 rcases hx with rfl | rfl | rfl
 ·exact ai8 _ _ _
 ·exact oh _ _ _
 ·exact oh _ _ _
theorem ai9(n:Nat)(g:Tg)(l:List HourD):Rf (n+4) (sl g (bH l)):=Ed g fun r hr x hx=>by
 obtain⟨k,-,rfl⟩:=b7.1 hr
 exact awL k x hx
theorem aLW(n:Nat)(g:Tg)(l:List TrD):Rf (n+1) (sl g (aT l)):=Ed g fun r hr x hx=>by
 obtain⟨k,-,rfl⟩:=b7.1 hr
 simp [TrD.row]at hx
 rcases hx with rfl | rfl<;>exact oh _ _ _
theorem aLV(n:Nat)(g:Tg)(l:List YrD):Rf (n+1) (sl g (bT l)):=Ed g fun r hr x hx=>by
 obtain⟨k,-,rfl⟩:=b7.1 hr
 simp [YrD.row]at hx
 rcases hx with rfl | rfl | rfl | rfl | rfl<;>exact oh _ _ _
theorem awJ{z:ZD}(hc:z.c<3):∀ x ∈ z.row,Rf 64 x:=by
 intro x hx
 simp only [ZD.row,ba]at hx
 rcases hx with hx | hx
 ·have:z.c=0∨z.c=1∨z.c=2:=by omega
  rcases this with e | e | e<;>rw [e]at hx<;>simp [jL]at hx<;>rcases hx with rfl | rfl | rfl | rfl<;>first | exact oh _ _ _ | rfl
 ·simp at hx
  rcases hx with rfl | rfl | rfl | rfl
  ·exact oh _ _ _
  ·exact aLW 63 _ _
  ·exact oh _ _ _
  ·exact aLV 63 _ _
theorem aLX{p:OpD}(hc:p.z.c<3):∀ x ∈ p.row,Rf 64 x:=by
 intro x hx
 simp only [OpD.row,ba]at hx
 rcases hx with hx | hx
 ·exact awJ hc x hx
 ·simp at hx
  rcases hx with rfl | rfl
  ·exact ai9 60 _ _
  ·exact Gy 63 _ _
theorem aAO:∀ {xs:List FC},(∀ x ∈ xs,Rf 64 x)→V.beq (.a (xs.map .f)) (.a (xs.map .f))=true:=by
 intro xs h
 simp only [V.beq,am,beq_self_eq_true,true_and,aM]
 intro q hq
 obtain⟨i,hi,rfl⟩:=bk hq
 rw [List.getElem_zip]
 simp only [List.getElem_map,C.beq]
 exact h _ (av _)
end Go.Proofs.YthfeogjbpgocbaaGreat
end
section
namespace Go.Proofs.YthfeogjbpgocbaaGreat
open Go Km
end Go.Proofs.YthfeogjbpgocbaaGreat
end
section
namespace Go.Proofs.YthfeogjbpgocbaaGreat
open Go Km
end Go.Proofs.YthfeogjbpgocbaaGreat
end
section
namespace Go.Proofs.YthfeogjbpgocbaaGreat
open Go Km
structure FI2(Y P S A B:List C)(hd:HourD)(rows:List (List FC))(c2:C)(J:Heap):Prop where
 y:J[2]?=some (.box Y 0)
 o:J[3]?=some (.box P 0)
 s:J[4]?=some (.box S 0)
 a:J[5]?=some (.box A 0)
 b:J[6]?=some (.box B 0)
 h:∃ fl,J[7]?=some (.box (hd.row.map .f) fl)
 l:LRw J c2 3 rows
section
variable{Y P S A B:List C}{hd:HourD}{rows:List (List FC)}{c2:C}{J:Heap}
theorem FI2.exA(k:FI2 Y P S A B hd rows c2 J):exC deep J (.sl 7 0 1 1 0 3)=some (sl .fs (bH [hd])):=by
 obtain⟨fl,h⟩:=k.h
 simp [deep,zJ,h,HourD.row,bH,sl,bC]
theorem FI2.mkA(k:FI2 Y P S A B hd rows c2 J):FI2 Y P S A B hd rows c2 (mkC deep (.sl 7 0 1 1 0 3) J):=by
 obtain⟨fl,h⟩:=k.h
 rw [mk_box h]
 refine⟨?_,?_,?_,?_,?_,⟨_,ax (aF h)⟩,k.l.keep fun i s l fl ep st hi=>⟨fl,?_⟩⟩
 ·rw [ag (by decide)];exact k.y
 ·rw [ag (by decide)];exact k.o
 ·rw [ag (by decide)];exact k.s
 ·rw [ag (by decide)];exact k.a
 ·rw [ag (by decide)];exact k.b
 ·rw [ag (by rintro rfl;rw [h]at hi;cases hi)];exact hi
theorem FI2.mkB(k:FI2 Y P S A B hd rows c2 J):FI2 Y P S A B hd rows c2 (mkC deep c2 J):=by
 obtain⟨fl,h⟩:=k.h
 obtain⟨m1,m2⟩:=k.l.mk
 exact⟨m1 _ _ _ k.y,m1 _ _ _ k.o,m1 _ _ _ k.s,m1 _ _ _ k.a,m1 _ _ _ k.b,⟨fl,m1 _ _ _ h⟩,k.l.keep m2⟩
end
theorem OpD.OK.withH{p:OpD}{o:List TrD}(h:p.OK o)(g:Tg){l:List HourD}(hl:l.length≤4)(ho:∀ x ∈ l,x.OK):OpD.OK ⟨p.z,g,l,p.cg,p.cl⟩ o:=⟨h.z,hl,ho,h.cl,h.cb,h.cp⟩
set_option maxRecDepth 100000 in
theorem N7(sane:Km.Pure tab.get LP [] (vb true)){x:uP}(hx:x.OK){q:HrD}(hq:q.OK){y0 y1 y2:Int}(h0:I64 y0)(h1:I64 y1)(h2:I64 y2) :
  Km.Pure tab.get TT [.a (x.row.map .f),.a (q.row.map .f),.a [.f (fi y0),.f (fi y1),.f (fi y2)]] (vb true):=by
 obtain⟨p,o,hp,hp3,hm⟩:=U2 hx
 obtain⟨hd,hdo,hmh⟩:=wM hq
 have hs:=sane.eq
 have hc:=hp.z.c
 have aEf:=azI h0 h1
 obtain⟨fr,hfr⟩:∃ fr,fr=SC y0:=⟨_,rfl⟩
 obtain⟨to,hto⟩:∃ to,to=SB y0 y1:=⟨_,rfl⟩
 rw [←hfr,←hto]at aEf
 have hfb:-2000≤fr∧fr≤60000∧fr<to∧to≤fr+1500:=by unfold SC at hfr;unfold SB at hto;omega
 have m60:=yx y2 60 (by decide) (by decide) h2.1 h2.2
 obtain⟨z0,z1,z2,z3,z4,z5,z6,z7,hr⟩:=zO hc
 have hrf:=aLX hc
 simp only [OpD.row,hr,List.map_append,aR,bj,cT,cV]at hm hrf
 obtain⟨hrs,aIR⟩:∃ y,y=sl p.hg (bH p.hs):=⟨_,rfl⟩
 obtain⟨crs,aOj⟩:∃ y,y=sl p.cg (ints p.cl):=⟨_,rfl⟩
 rw [←aIR,←aOj]at hm hrf
 have hbq:(V.a [.f z0,.f z1,.f z2,.f z3,.f z4,.f z5,.f z6,.f z7,.f hrs,.f crs]).beq (.a [.f z0,.f z1,.f z2,.f z3,.f z4,.f z5,.f z6,.f z7,.f hrs,.f crs])=true:=aAO hrf
 refine cu aQd rfl fun Q hQ=>?_
 refine ak (aj (.inl rfl) ?_)
 simp
 refine ak (aj (.inl rfl) ?_)
 simp [hs]
 obtain⟨H0,hH0⟩:∃ H0:Heap,H0=[.box (x.row.map .f) 0,.box (q.row.map .f) 0,.box [.f (fi y0),.f (fi y1),.f (fi y2)] 0]:=⟨_,rfl⟩
 rw [←hH0]
 have q0:H0[0]?=some (.box (x.row.map .f) 0):=by rw [hH0];rfl
 have q1:H0[1]?=some (.box (q.row.map .f) 0):=by rw [hH0];rfl
 have q2:H0[2]?=some (.box [.f (fi y0),.f (fi y1),.f (fi y2)] 0):=by rw [hH0];rfl
 have hl0:H0.length=3:=by rw [hH0];rfl
 clear hH0
 have ly0:ldV H0 none (.c (.ptr 2 0 0))=some (vi y0):=by simp [ldV,aO,q2,aS]
 have ly1:ldV H0 none (.c (.ptr 2 1 0))=some (vi y1):=by simp [ldV,aO,q2,aS]
 have iy0:∀ H:Heap,aU H 1 (some 3) (.c (.ptr 2 0 0)) (vi 0)=some (.c (.ptr 2 0 0)):=fun H=>by simp [aU,iK]
 have iy1:∀ H:Heap,aU H 1 (some 3) (.c (.ptr 2 0 0)) (vi 1)=some (.c (.ptr 2 1 0)):=fun H=>by simp [aU,iK]
 have iy2:∀ H:Heap,aU H 1 (some 3) (.c (.ptr 2 0 0)) (vi 2)=some (.c (.ptr 2 2 0)):=fun H=>by simp [aU,iK]
 refine ak (aj (.inl rfl) ?_)
 simp [awP q0,-aH,hm,aEf,hl0,ly0,ly1,iy0,iy1]
 obtain⟨P,hP⟩:∃ P:List C,P=[.f z0,.f z1,.f z2,.f z3,.f z4,.f z5,.f z6,.f z7,.f hrs,.f crs]:=⟨_,rfl⟩
 obtain⟨J1,hJ1⟩:∃ J1:Heap,J1=H0++[.box [.f z0,.f z1,.f z2,.f z3,.f z4,.f z5,.f z6,.f z7,.f hrs,.f crs] 0,.box [.f (fi fr),.f (fi to)] 0]:=⟨_,rfl⟩
 rw [←hJ1]
 have up1:∀ i y,H0[i]?=some y→J1[i]?=some y:=fun i y hy=>by rw [hJ1,ai (aF hy)];exact hy
 have c3:J1[3]?=some (.box [.f z0,.f z1,.f z2,.f z3,.f z4,.f z5,.f z6,.f z7,.f hrs,.f crs] 0):=by rw [hJ1,←hl0];simp
 have c4:J1[4]?=some (.box [.f (fi fr),.f (fi to)] 0):=by rw [hJ1,show 4=H0.length+1 by omega];simp
 have cl1:J1.length=5:=by rw [hJ1];simp [hl0]
 have c1:=up1 _ _ q1
 have c2:=up1 _ _ q2
 clear hJ1 up1
 have l3:∀ J:Heap,J[3]?=some (.box [.f z0,.f z1,.f z2,.f z3,.f z4,.f z5,.f z6,.f z7,.f hrs,.f crs] 0)→ldV J (some 10) (.c (.ptr 3 0 0))=some (.a [.f z0,.f z1,.f z2,.f z3,.f z4,.f z5,.f z6,.f z7,.f hrs,.f crs]):=fun J hJ=>by simp [ldV,aO,hJ,aS]
 have l3h:∀ J:Heap,J[3]?=some (.box [.f z0,.f z1,.f z2,.f z3,.f z4,.f z5,.f z6,.f z7,.f hrs,.f crs] 0)→ldV J none (.c (.ptr 3 8 0))=some (.c (.f hrs)):=fun J hJ=>by simp [ldV,aO,hJ,aS]
 have l4a:∀ J:Heap,J[4]?=some (.box [.f (fi fr),.f (fi to)] 0)→ldV J (some 2) (.c (.ptr 4 0 0))=some (.a [.f (fi fr),.f (fi to)]):=fun J hJ=>by simp [ldV,aO,hJ,aS]
 have aEa:∀ L:Heap,ldV (J1++L) (some 10) (.c (.ptr 3 0 0))=some (.a [.f z0,.f z1,.f z2,.f z3,.f z4,.f z5,.f z6,.f z7,.f hrs,.f crs]):=fun L=>l3 _ (by rw [ai (aF c3)];exact c3)
 refine ak (ny (.inl rfl) ?_ ?_)
 case refine_2=>
  intro c hcm
  have hcc:c=(1,5):=by simpa using hcm
  subst hcc
  refine⟨by decide,_,rfl,.inl ⟨by decide,?_⟩⟩
  simp [l3 J1 c3,aEa,sS,-aH,cl1]
  exact hbq
 simp [l3 J1 c3,-aH,cl1]
 obtain⟨J2,hJ2⟩:∃ J2:Heap,J2=J1++[.box [.f z0,.f z1,.f z2,.f z3,.f z4,.f z5,.f z6,.f z7,.f hrs,.f crs] 0,.box [.f z0,.f z1,.f z2,.f z3,.f z4,.f z5,.f z6,.f z7,.f hrs,.f crs] 0]:=⟨_,rfl⟩
 rw [←hJ2]
 have up2:∀ i y,J1[i]?=some y→J2[i]?=some y:=fun i y hy=>by rw [hJ2,ai (aF hy)];exact hy
 have d1:=up2 _ _ c1
 have d2:=up2 _ _ c2
 have d3:=up2 _ _ c3
 have d4:=up2 _ _ c4
 have d5:J2[5]?=some (.box [.f z0,.f z1,.f z2,.f z3,.f z4,.f z5,.f z6,.f z7,.f hrs,.f crs] 0):=by rw [hJ2,←cl1];simp
 have d6:J2[6]?=some (.box [.f z0,.f z1,.f z2,.f z3,.f z4,.f z5,.f z6,.f z7,.f hrs,.f crs] 0):=by rw [hJ2,show 6=J1.length+1 by omega];simp
 have dl:J2.length=7:=by rw [hJ2];simp [cl1]
 clear hJ2 up2 aEa
 have lq:ldV J2 (some 3) (.c (.ptr 1 0 0))=some (.a (q.row.map .f)):=by simp [ldV,aO,d1,aS,HrD.row]
 simp only [HourD.row,aR,bj]at hmh
 obtain⟨J3,hJ3⟩:∃ J3:Heap,J3=J2++[.box (hd.row.map .f) 0]:=⟨_,rfl⟩
 have e5:J3[5]?=some (.box [.f z0,.f z1,.f z2,.f z3,.f z4,.f z5,.f z6,.f z7,.f hrs,.f crs] 0):=by rw [hJ3,ai (by omega)];exact d5
 have s9:stC J3 (.ptr 5 8 0) [.sl 7 0 1 1 0 3]=some (J3.set 5 (.box [.f z0,.f z1,.f z2,.f z3,.f z4,.f z5,.f z6,.f z7,.sl 7 0 1 1 0 3,.f crs] 0)):=by simp [stC,e5,over]
 have aI6:=hJ3
 simp only [HourD.row,aR,bj]at aI6
 refine ak (aj (.inl rfl) ?_)
 simp [lq,-aH,hmh,dl,-bI]
 rw [←aI6]
 simp [s9,-bI]
 obtain⟨J4,hJ4⟩:∃ J4:Heap,J4=J3.set 5 (.box [.f z0,.f z1,.f z2,.f z3,.f z4,.f z5,.f z6,.f z7,.sl 7 0 1 1 0 3,.f crs] 0):=⟨_,rfl⟩
 rw [←hJ4]
 have Ku:∀ i y,J2[i]?=some y→i≠5→J4[i]?=some y:=fun i y hy hi=>by rw [hJ4,ag (Ne.symm hi),hJ3,ai (aF hy)];exact hy
 have f2:=Ku _ _ d2 (by decide)
 have f3:=Ku _ _ d3 (by decide)
 have f4:=Ku _ _ d4 (by decide)
 have f5:J4[5]?=some (.box [.f z0,.f z1,.f z2,.f z3,.f z4,.f z5,.f z6,.f z7,.sl 7 0 1 1 0 3,.f crs] 0):=by rw [hJ4,ax (aF e5)]
 have f6:=Ku _ _ d6 (by decide)
 have f7:J4[7]?=some (.box (hd.row.map .f) 0):=by rw [hJ4,ag (by decide),hJ3,←dl];simp
 have fl4:J4.length=8:=by rw [hJ4,hJ3];simp [dl]
 clear hJ4 hJ3 aI6 s9 e5 Ku d1 d2 d3 d4 d5 d6 dl lq
 obtain⟨cA,H5,happ,hL5,hK5,hcA⟩:=LR.aTE (H:=J4) (c:=.f .es) (sz:=3) (rows:=[]) (.inl ⟨rfl,.inr rfl⟩) (by intro r hr;cases hr) (by decide) (iH p.hs) (bytes:=40) (iy (by simp;omega) (by decide)) p.hg
 rw [←aIR]at happ
 rw [cV]at hL5
 have up5:∀(i:Nat) (l:List C) (fl:Nat),J4[i]?=some (.box l fl)→H5[i]?=some (.box l fl):=fun i l fl hy=>hK5.2 i _ hy (by simp [cO])
 have g2':=up5 _ _ _ f2
 have g3':=up5 _ _ _ f3
 have g4':=up5 _ _ _ f4
 have g5':=up5 _ _ _ f5
 have g6':=up5 _ _ _ f6
 have g7':=up5 _ _ _ f7
 have s11:stC H5 (.ptr 6 8 0) [cA]=some (H5.set 6 (.box [.f z0,.f z1,.f z2,.f z3,.f z4,.f z5,.f z6,.f z7,cA,.f crs] 0)):=by simp [stC,g6',over]
 refine ak (aj (.inl rfl) ?_)
 simp [l3h J4 f3,-aH,happ,s11,-bI]
 obtain⟨J6,hJ6⟩:∃ J6:Heap,J6=H5.set 6 (.box [.f z0,.f z1,.f z2,.f z3,.f z4,.f z5,.f z6,.f z7,cA,.f crs] 0):=⟨_,rfl⟩
 rw [←hJ6]
 have Ez:∀ i y,H5[i]?=some y→i≠6→J6[i]?=some y:=fun i y hy hi=>by rw [hJ6,ag (Ne.symm hi)];exact hy
 have k2:=Ez _ _ g2' (by decide)
 have k3:=Ez _ _ g3' (by decide)
 have k4:=Ez _ _ g4' (by decide)
 have k5:=Ez _ _ g5' (by decide)
 have k7:=Ez _ _ g7' (by decide)
 have k6:J6[6]?=some (.box [.f z0,.f z1,.f z2,.f z3,.f z4,.f z5,.f z6,.f z7,cA,.f crs] 0):=by rw [hJ6,ax (aF g6')]
 have hL6:LR J6 cA 3 (bH p.hs):=by rw [hJ6];exact hL5.set (hL5.dK g6') _
 clear hJ6 Ez s11 g2' g3' g4' g5' g6' g7' hL5 hK5 happ up5 f2 f3 f4 f5 f6 f7
 obtain⟨J7,hJ7⟩:∃ J7:Heap,J7=J6++[.box (hd.row.map .f) 0]:=⟨_,rfl⟩
 have hL7:LR J7 cA 3 (bH p.hs):=by rw [hJ7];exact hL6.push _
 have hb7:J7[J6.length]?=some (.box (hd.row.map .f) 0):=by rw [hJ7];simp
 obtain⟨cB,H8,happ,hL8,hK8,hcB⟩:=hL7.app (iH p.hs) (by decide) (row:=hd.row) rfl (bytes:=40) (iy (by simp;omega) (by decide)) hb7
 have up8:∀(i:Nat) (l:List C) (fl:Nat),J6[i]?=some (.box l fl)→H8[i]?=some (.box l fl):=fun i l fl hy=>by
  have h7:J7[i]?=some (.box l fl):=by rw [hJ7,ai (aF hy)];exact hy
  exact hK8.2 i _ h7 (hL7.dK h7)
 have e8:bH p.hs++[hd.row]=bH (p.hs++[hd]):=by simp [bH]
 rw [e8]at hL8
 rw [hJ7]at happ
 simp only [HourD.row,aR,bj]at happ
 have m2:=up8 _ _ _ k2
 have m3:=up8 _ _ _ k3
 have m4:=up8 _ _ _ k4
 have m5:=up8 _ _ _ k5
 have m6:=up8 _ _ _ k6
 have m7:=up8 _ _ _ k7
 have s13:stC H8 (.ptr 6 8 0) [cB]=some (H8.set 6 (.box [.f z0,.f z1,.f z2,.f z3,.f z4,.f z5,.f z6,.f z7,cB,.f crs] 0)):=by simp [stC,m6,over]
 have l6h:ldV J6 none (.c (.ptr 6 8 0))=some (.c cA):=by simp [ldV,aO,k6,aS]
 have l5h:ldV J6 none (.c (.ptr 5 8 0))=some (.c (.sl 7 0 1 1 0 3)):=by simp [ldV,aO,k5,aS]
 have i7:aU J6 3 none (.c (.sl 7 0 1 1 0 3)) (vi 0)=some (.c (.ptr 7 0 0)):=by simp [aU,iK,k7]
 have l7:ldV J6 (some 3) (.c (.ptr 7 0 0))=some (.a [.f (sl hd.tg (termRows hd.ts)),.f (fi hd.fr),.f (fi hd.to)]):=by simp [ldV,aO,k7,aS,HourD.row]
 refine ak (aj (.inl rfl) ?_)
 simp [l6h,l5h,i7,l7,-aH,happ,s13,-bI]
 obtain⟨J9,hJ9⟩:∃ J9:Heap,J9=H8.set 6 (.box [.f z0,.f z1,.f z2,.f z3,.f z4,.f z5,.f z6,.f z7,cB,.f crs] 0):=⟨_,rfl⟩
 rw [←hJ9]
 have Ey:∀ i y,H8[i]?=some y→i≠6→J9[i]?=some y:=fun i y hy hi=>by rw [hJ9,ag (Ne.symm hi)];exact hy
 have n2':=Ey _ _ m2 (by decide)
 have st:FI2 [.f (fi y0),.f (fi y1),.f (fi y2)] [.f z0,.f z1,.f z2,.f z3,.f z4,.f z5,.f z6,.f z7,.f hrs,.f crs] [.f (fi fr),.f (fi to)] [.f z0,.f z1,.f z2,.f z3,.f z4,.f z5,.f z6,.f z7,.sl 7 0 1 1 0 3,.f crs] [.f z0,.f z1,.f z2,.f z3,.f z4,.f z5,.f z6,.f z7,cB,.f crs] hd (bH (p.hs++[hd])) cB J9:=
  ⟨n2',Ey _ _ m3 (by decide),Ey _ _ m4 (by decide),Ey _ _ m5 (by decide),by rw [hJ9,ax (aF m6)],⟨0,Ey _ _ m7 (by decide)⟩,by rw [hJ9];exact LRw.of (hL8.set (hL8.dK m6) _)⟩
 clear hJ9 Ey s13 m2 m3 m4 m5 m6 m7 hL8 hK8 happ up8 hL7 hJ7 hb7 hL6 k2 k3 k4 k5 k6 k7 l6h l5h i7 l7
 obtain⟨gB,aOg⟩:=st.l.exU (iH _)
 have aTi:∀ y ∈ p.hs++[hd],y.OK:=fun y hy=>by
  rcases ba.1 hy with hy | hy
  ·exact hp.hs y hy
  ·simp at hy;subst hy;exact hdo
 have hpa:OpD.OK ⟨p.z,.fs,[hd],p.cg,p.cl⟩ o:=hp.withH .fs (by simp) (fun y hy=>by simp at hy;subst hy;exact hdo)
 have hpb:OpD.OK ⟨p.z,gB,p.hs++[hd],p.cg,p.cl⟩ o:=hp.withH gB (by simp;omega) aTi
 obtain⟨r,hrl,al0⟩:=yR hp (fr:=fr) (to:=to) (by omega) (by omega) (by omega) (by omega)
 obtain⟨r1,aS3,al1⟩:=yR hpa (fr:=fr) (to:=to) (by omega) (by omega) (by omega) (by omega)
 obtain⟨r2,hrl2,al2⟩:=yR hpb (fr:=fr) (to:=to) (by omega) (by omega) (by omega) (by omega)
 obtain rfl:=JV hp.z hrl aS3
 obtain rfl:=JV hp.z hrl hrl2
 obtain⟨day,aI3⟩:∃ d,d=y2 % 60:=⟨_,rfl⟩
 rw [←aI3]at m60
 have hdb:0≤day∧day<60:=by omega
 obtain⟨g0,l0,⟨n0,b0,i0,s0⟩,on0⟩:=ajW hp (day:=day) hdb.1 (by omega)
 obtain⟨g1,l1,⟨n1,b1,i1,s1⟩,on1⟩:=ajW hpa (day:=day) hdb.1 (by omega)
 obtain⟨g2,l2,⟨n2,b2,i2,s2⟩,on2⟩:=ajW hpb (day:=day) hdb.1 (by omega)
 simp only [List.length_singleton,List.length_append]at b1 b2
 obtain⟨gu,lu,⟨nu,bu,iu,su⟩,hun⟩:=Je g0 g1 l0 l1 (by omega) i0 i1
 have elu:lu=l2:=sU.ext nu n2 fun t=>by
  rw [su,s2,s0,s1]
  simp only
  exact(azE p.hs [hd] p.cl day t).symm
 subst elu
 have hsame:=ai2 g2 gu lu (by omega)
 simp only [VJ p.hs [hd]]at al2
 obtain⟨A,hA⟩:∃ A,A=jM p.hs p.cl ((fr+offO p.z r) / 1440) ((fr+offO p.z r) % 1440) (to-fr):=⟨_,rfl⟩
 obtain⟨B,hB⟩:∃ B,B=jM [hd] p.cl ((fr+offO p.z r) / 1440) ((fr+offO p.z r) % 1440) (to-fr):=⟨_,rfl⟩
 simp only [←hA,←hB]at al0 al1 al2
 simp only [OpD.row,hr,List.map_append,aR,bj,cT,cV,←aIR,←aOj]at al0 al1 al2 on0 on1 on2
 have l5:∀ J:Heap,J[5]?=some (.box [.f z0,.f z1,.f z2,.f z3,.f z4,.f z5,.f z6,.f z7,.sl 7 0 1 1 0 3,.f crs] 0)→ldV J (some 10) (.c (.ptr 5 0 0))=some (.a [.f z0,.f z1,.f z2,.f z3,.f z4,.f z5,.f z6,.f z7,.sl 7 0 1 1 0 3,.f crs]):=fun J hJ=>by simp [ldV,aO,hJ,aS]
 have l6:∀ J:Heap,J[6]?=some (.box [.f z0,.f z1,.f z2,.f z3,.f z4,.f z5,.f z6,.f z7,cB,.f crs] 0)→ldV J (some 10) (.c (.ptr 6 0 0))=some (.a [.f z0,.f z1,.f z2,.f z3,.f z4,.f z5,.f z6,.f z7,cB,.f crs]):=fun J hJ=>by simp [ldV,aO,hJ,aS]
 have ly2:∀ J:Heap,J[2]?=some (.box [.f (fi y0),.f (fi y1),.f (fi y2)] 0)→ldV J none (.c (.ptr 2 2 0))=some (vi y2):=fun J hJ=>by simp [ldV,aO,hJ,aS]
 refine ak (aj (.inl rfl) ?_)
 simp [l3 J9 st.o,l4a J9 st.s,-aH,al0]
 refine ak (aj (.inl rfl) ?_)
 simp [l5 J9 st.a,l4a J9 st.s,-aH,st.exA,al1]
 obtain⟨J10,aOw⟩:∃ J:Heap,J=mkC deep (.sl 7 0 1 1 0 3) J9:=⟨_,rfl⟩
 have Ue:=st.mkA
 rw [←aOw]at Ue ⊢
 clear aOw st n2'
 have aOy:exC deep J10 cB=some (sl gB (bH (p.hs++[hd]))):=aOg J10 63 Ue.l
 refine ak (aj (.inl rfl) ?_)
 simp [l6 J10 Ue.b,l4a J10 Ue.s,-aH,aOy,al2]
 obtain⟨J11,aOv⟩:∃ J:Heap,J=mkC deep cB J10:=⟨_,rfl⟩
 have Mc:=Ue.mkB
 rw [←aOv]at Mc ⊢
 clear aOv Ue aOy
 refine ak (aj (.inl rfl) ?_)
 simp [iy2,ly2 J11 Mc.y,-aH,m60]
 refine ak (aj (.inl rfl) ?_)
 simp [l3 J11 Mc.o,-aH,on0]
 refine ak (aj (.inl rfl) ?_)
 simp [l5 J11 Mc.a,-aH,Mc.exA,on1]
 obtain⟨J12,aOu⟩:∃ J:Heap,J=mkC deep (.sl 7 0 1 1 0 3) J11:=⟨_,rfl⟩
 have awp:=Mc.mkA
 rw [←aOu]at awp ⊢
 clear aOu Mc
 have aOx:exC deep J12 cB=some (sl gB (bH (p.hs++[hd]))):=aOg J12 63 awp.l
 refine ak (aj (.inl rfl) ?_)
 simp [l6 J12 awp.b,-aH,aOx,on2]
 obtain⟨J13,aOt⟩:∃ J:Heap,J=mkC deep cB J12:=⟨_,rfl⟩
 rw [←aOt]
 clear aOt awp aOx
 refine ak (aj (.inl rfl) ?_)
 simp [hun]
 refine ak (aj (.inl rfl) ?_)
 cases hAc:A with
 | false=>
  simp [eqV,eqP,hAc,hsame]
  refine aP (hQ _ _ ?_)
  simp
 | true=>
  simp [eqV,eqP,hAc,hsame]
  refine aP (hQ _ _ ?_)
  simp
end Go.Proofs.YthfeogjbpgocbaaGreat
end
section
namespace Go.Proofs.YthfeogjbpgocbaaGreat
open Go Km
set_option maxRecDepth 100000
theorem sane:Km.Pure tab.get LP [] (vb true):=Dz (reckoned ev)
theorem byte_of{x:List FC}(h:∃ m,x=[FC.int .u8 m]∧Lit.wf (.int .u8 m)):∃ m:Nat,x=[u8 m]∧m<256:=by
 obtain⟨m,rfl,hw⟩:=h
 simp [Lit.wf,IntKind.min,IntKind.max,IntKind.signed,IntKind.bits]at hw
 refine⟨m.toNat,?_,by omega⟩
 have:((m.toNat:Nat):Int)=m:=dE hw.1
 simp [this]
theorem Rl{x:List FC}(h:∃ m,x=[FC.int .u16 m]∧Lit.wf (.int .u16 m)):∃ m:Nat,x=[u16 m]∧m<65536:=by
 obtain⟨m,rfl,hw⟩:=h
 simp [Lit.wf,IntKind.min,IntKind.max,IntKind.signed,IntKind.bits]at hw
 refine⟨m.toNat,?_,by omega⟩
 have:((m.toNat:Nat):Int)=m:=dE hw.1
 simp [this]
theorem aII{m:Int}(hw:Lit.wf (.int .i64 m)):I64 m:=by
 simp [Lit.wf,IntKind.min,IntKind.max,IntKind.signed,IntKind.bits]at hw
 exact⟨by omega,by omega⟩
theorem NP{n:Nat}(h:n≤maxLen):n≤9223372036854775807:=bz h (by decide)
theorem xG{n:Nat}{ys:List FC}(h:Shp Tryz.prog (n+2) 22 ys):∃ g l,ys=[sl g (fB l)]∧l.length≤9223372036854775807∧∀ m ∈ l,m<256:=by
 obtain⟨g,rows,rfl,_,hl,hr⟩:=yw Tryz.underlying22 h
 obtain⟨l,rfl,hx⟩:=tV (enc:=fun n:Nat=>[u8 n]) (p:=fun n=>n<256) fun r hr'=>byte_of (nN Tryz.underlying5 (hr r hr'))
 exact⟨g,l,rfl,NP (by simpa using hl),hx⟩
theorem Ti{n:Nat}{ys:List FC}(h:Shp Tryz.prog (n+2) 23 ys):∃ y:Nat→Nat,ys=[u8 (y 0),u8 (y 1),u8 (y 2),u8 (y 3)]∧∀ i,i<4→y i<256:=by
 obtain⟨rows,rfl,hl,_,hr⟩:=Gs Tryz.underlying23 h
 obtain⟨l,rfl,hx⟩:=tV (enc:=fun n:Nat=>[u8 n]) (p:=fun n=>n<256) fun r hr'=>byte_of (nN Tryz.underlying5 (hr r hr'))
 match l,hl,hx with
 | [a,b,c,d],_,hx=>
  refine⟨fun i=>match i with | 0=>a | 1=>b | 2=>c | _=>d,rfl,fun i hi=>?_⟩
  have:i=0∨i=1∨i=2∨i=3:=by omega
  rcases this with rfl | rfl | rfl | rfl
  ·exact hx a (by simp)
  ·exact hx b (by simp)
  ·exact hx c (by simp)
  ·exact hx d (by simp)
 | [],hl,_=>simp at hl
 | [_],hl,_=>simp at hl
 | [_,_],hl,_=>simp at hl
 | [_,_,_],hl,_=>simp at hl
 | _::_::_::_::_::_,hl,_=>simp at hl
theorem awO{n:Nat}{ys:List FC}(h:Shp Tryz.prog (n+4) 26 ys):∃ x:kE,ys=x.row∧x.OK:=by
 obtain⟨_,q1,rfl,h1,k1⟩:=gQ (vF (ts:=[5,22,22,5,24,5,4]) Tryz.underlying26 rfl h)
 obtain⟨st,rfl,b1⟩:=byte_of (nN Tryz.underlying5 h1)
 obtain⟨_,q2,rfl,h1,k2⟩:=gQ k1
 obtain⟨gg,gaps,rfl,lg,bg⟩:=xG h1
 obtain⟨_,q3,rfl,h1,k3⟩:=gQ k2
 obtain⟨og,Bz,rfl,lo,bo⟩:=xG h1
 obtain⟨_,q4,rfl,h1,k4⟩:=gQ k3
 obtain⟨be,rfl,b4⟩:=byte_of (nN Tryz.underlying5 h1)
 obtain⟨_,q5,rfl,h1,k5⟩:=gQ k4
 obtain⟨rows,rfl,hl,_,hr⟩:=Gs Tryz.underlying24 h1
 obtain⟨_,q6,rfl,h1,k6⟩:=gQ k5
 obtain⟨cal,rfl,b6⟩:=byte_of (nN Tryz.underlying5 h1)
 obtain⟨_,q7,rfl,h1,k7⟩:=gQ k6
 obtain⟨rules,rfl⟩:=ai1 Tryz.underlying4 h1
 obtain rfl:q7=[]:=k7
 match rows,hl,hr with
 | [r0,r1],_,hr=>
  obtain⟨y0,rfl,c0⟩:=Ti (hr r0 (by simp))
  obtain⟨y1,rfl,c1⟩:=Ti (hr r1 (by simp))
  refine⟨⟨st,gg,gaps,og,Bz,be,fun k=>if k=0 then y0 else y1,cal,rules⟩,rfl,b1,lg,lo,bg,bo,b4,fun k i hk hi=>?_,b6⟩
  simp only
  split
  ·exact c0 i hi
  ·exact c1 i hi
 | [],hl,_=>simp at hl
 | [_],hl,_=>simp at hl
 | _::_::_::_,hl,_=>simp at hl
theorem aky{n:Nat}{ys:List FC}(h:Shp Tryz.prog (n+4) 61 ys):∃ x:HrD,ys=x.row∧x.OK:=by
 obtain⟨_,q1,rfl,h1,k1⟩:=gQ (vF (ts:=[58,59,59]) Tryz.underlying61 rfl h)
 obtain⟨dg,rows,rfl,_,hl,hr⟩:=yw Tryz.underlying58 h1
 obtain⟨days,rfl,hd⟩:=tV (enc:=fun b:ByD=>[sl b.1 (fB b.2)]) (p:=aLh) fun r hr'=>by
  obtain⟨g,l,rfl,a,b⟩:=xG (hr r hr')
  exact⟨(g,l),rfl,a,b⟩
 obtain⟨_,q2,rfl,h1,k2⟩:=gQ k1
 obtain⟨fr,rfl,b2⟩:=Rl (nN Tryz.underlying59 h1)
 obtain⟨_,q3,rfl,h1,k3⟩:=gQ k2
 obtain⟨le,rfl,b3⟩:=Rl (nN Tryz.underlying59 h1)
 obtain rfl:q3=[]:=k3
 exact⟨⟨dg,days,fr,le⟩,rfl,NP (by simpa using hl),hd,b2,b3⟩
theorem ajc{n:Nat}{ys:List FC}(h:Shp Tryz.prog (n+6) 29 ys):∃ x:uP,ys=x.row∧x.OK:=by
 obtain⟨_,q1,rfl,h1,k1⟩:=gQ (vF (ts:=[26,27,22]) Tryz.underlying29 rfl h)
 obtain⟨z,rfl,hz⟩:=awO h1
 obtain⟨_,q2,rfl,h1,k2⟩:=gQ k1
 obtain⟨hg,rows,rfl,_,hl,hr⟩:=yw Tryz.underlying27 h1
 obtain⟨hs,rfl,hh⟩:=tV (enc:=HrD.row) (p:=fun x=>x.OK) fun r hr'=>aky (hr r hr')
 obtain⟨_,q3,rfl,h1,k3⟩:=gQ k2
 obtain⟨cg,cl,rfl,lc,bc⟩:=xG h1
 obtain rfl:q3=[]:=k3
 exact⟨⟨z,hg,hs,cg,cl⟩,rfl,hz,NP (by simpa using hl),hh,lc,bc⟩
theorem awN{a:V}(h:zn Tryz.prog 29 a):∃ x:uP,a=.a (x.row.map .f)∧x.OK:=by
 rcases h with⟨xs,rfl,hs,_⟩ | ⟨x,rfl,hs⟩
 ·obtain⟨x,rfl,hx⟩:=ajc (n:=34) hs
  exact⟨x,rfl,hx⟩
 ·exfalso
  obtain⟨x,e,_⟩:=ajc (n:=34) hs
  simp [uP.row,kE.row]at e
theorem aIM{a:V}(h:zn Tryz.prog 61 a):∃ x:HrD,a=.a (x.row.map .f)∧x.OK:=by
 rcases h with⟨xs,rfl,hs,_⟩ | ⟨x,rfl,hs⟩
 ·obtain⟨x,rfl,hx⟩:=aky (n:=36) hs
  exact⟨x,rfl,hx⟩
 ·exfalso
  obtain⟨x,e,_⟩:=aky (n:=36) hs
  simp [HrD.row]at e
theorem Tm:∀ l:List Int,(l.map fun n=>[fi n]).flatten=l.map fi
 | []=>rfl
 | x::l=>by simp only [aR,List.flatten_cons,Tm l];rfl
theorem SX{k:Nat}{ys:List FC}{t:Nat}(ht:Tryz.prog.underlying t=some (.array k 3))(h:Shp Tryz.prog 40 t ys):∃ l:List Int,ys=l.map fi∧l.length=k∧∀ n ∈ l,I64 n:=by
 obtain⟨rows,rfl,hl,_,hr⟩:=Gs (n:=39) ht h
 obtain⟨l,rfl,hx⟩:=tV (enc:=fun n:Int=>[fi n]) (p:=I64) fun r hr'=>by
  obtain⟨m,rfl,hw⟩:=nN (n:=38) Tryz.underlying3 (hr r hr')
  exact⟨m,rfl,aII hw⟩
 exact⟨l,Tm l,by simpa using hl,hx⟩
theorem Ud{a:V}(h:zn Tryz.prog 62 a):∃ n m k:Int,a=.a [.f (fi n),.f (fi m),.f (fi k)]∧I64 n∧I64 m∧I64 k:=by
 rcases h with⟨xs,rfl,hs,_⟩ | ⟨x,rfl,hs⟩
 ·obtain⟨l,rfl,hl,hx⟩:=SX Tryz.underlying62 hs
  match l,hl,hx with
  | [n,m,k],_,hx=>exact⟨n,m,k,rfl,hx n (by simp),hx m (by simp),hx k (by simp)⟩
  | [],hl,_=>simp at hl
  | [_],hl,_=>simp at hl
  | [_,_],hl,_=>simp at hl
  | _::_::_::_::_,hl,_=>simp at hl
 ·exfalso
  obtain⟨l,e,hl,hx⟩:=SX Tryz.underlying62 hs
  have:=congrArg List.length e
  simp [hl]at this
theorem Hu(ar:List V)(h:Ap Tryz.prog [29,61,62] ar):Km.Pure tab.get TT ar (vb true):=by
 obtain⟨a0,_,rfl,h0,a1,_,rfl,h1,a2,_,rfl,h2,rfl⟩:=h
 obtain⟨x,rfl,hx⟩:=awN h0
 obtain⟨q,rfl,hq⟩:=aIM h1
 obtain⟨n,m,k,rfl,hn,hm,hk⟩:=Ud h2
 exact N7 sane hx hq hn hm hk
end Go.Proofs.YthfeogjbpgocbaaGreat
end
