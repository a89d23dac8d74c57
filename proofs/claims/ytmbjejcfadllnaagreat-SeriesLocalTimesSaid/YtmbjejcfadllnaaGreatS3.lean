/-
  What the program's functions and the reference's answer, for all arguments of their kind, in the small machine: part 3.
-/
import Derived.Test.YtmbjejcfadllnaaGreatS2
import Derived.Test.YtmbjejcfadllnaaGreatS1
import Derived.Test.YtmbjejcfadllnaaGreatProg
import Derived.Test.YtmbjejcfadllnaaGreatK4
import Derived.Test.YtmbjejcfadllnaaGreatTie
import Derived.Test.YtmbjejcfadllnaaGreatEv
open List renaming pairwise_singleton → dc, getElem?_set_self → az, mem_append → cA, getElem?_append_left → ag, length_append → bp, length_singleton → db, length_pos_iff → cN, mem_cons_self → bh, pairwise_cons → dj, mem_cons → cG, mem_cons_of_mem → bA, take_succ_eq_append_getElem → aR, find?_eq_none → d4, getElem_of_mem → bq, pairwise_iff_getElem → bL, take_length → cm, getElem_mem → aw, getElem?_set_ne → am, map_cons → aM, map_nil → ba
open Nat renaming le_refl → ax
open Int renaming toNat_of_nonneg → dg
open Option renaming bind_some → bE
set_option linter.unusedVariables false
set_option linter.unusedSimpArgs false
set_option linter.unusedSectionVars false
set_option linter.unnecessarySimpa false
set_option maxRecDepth 100000
namespace Go.Proofs.YtmbjejcfadllnaaGreat
open Go Km
section
theorem DJ{tab:Nat→Option AFunc}{fn:Nat}{ro:Option Nat}{a:ACode}{k:List AItem}{s:St}{Q:Option ACode→St→Prop}(h:WP tab fn ro (.code a::.inLoop a::k) s Q):WP tab fn ro (.code (.loop a)::k) s Q:=sG h fun _ _ _=>rfl
abbrev dK(l:List Int):List (List FC):=l.map fun n=>[fi n]
theorem DT(l:List Int):Grid 1 (dK l):=Grid.map fun _=>rfl
def lN(H:Heap)(c:C)(l:List Int)(H':Heap):Prop:=∃ l',l'.Perm l∧l'.Pairwise (·≤·)∧LR H' c 1 (dK l')∧Kb H H' c
theorem afD{l:List Int}(h:l.length<2):l.Pairwise (·≤·):=by
 match l,h with
 | [],_=>exact List.Pairwise.nil
 | [_],_=>exact dc _ _
theorem ag3{H:Heap}{c:C}{l:List Int}(hL:LR H c 1 (dK l))(hl:l.length≤2) :
  ∃ H',Ev tab.get (.fn Eu) [.c c,vi 0,vi l.length] H (.t []) H'∧lN H c l H':=by
 suffices h:∃ r H',Ev tab.get (.fn Eu) [.c c,vi 0,vi l.length] H r H'∧(r=.t []∧lN H c l H') by
  obtain⟨r,H',h1,rfl,h2⟩:=h;exact⟨H',h1,h2⟩
 refine fV aUR rfl fun Q hQ=>?_
 have w1:IntKind.i64.wrap 1=1:=by decide
 have w2:IntKind.i64.wrap 2=2:=by decide
 have w0:IntKind.i64.wrap 0=0:=by decide
 refine kw_sr ?_;simp [w1];refine aB (DJ (kw_seq ?_));refine kw_sr ?_;by_cases h2:l.length<2
 ·simp [show¬ (1:Int)<(l.length:Int) by omega]
  refine ah (by simp) (bC rfl (nS (hQ _ _ _ rfl rfl ⟨rfl,l,List.Perm.refl _,afD h2,hL,Kb.refl _ _⟩)))
 obtain⟨x,y,rfl⟩:∃ x y,l=[x,y]:=by
  match l,hl,h2 with
  | [],_,h2=>simp at h2
  | [_],_,h2=>simp at h2
  | [x,y],_,_=>exact⟨x,y,rfl⟩
  | _::_::_::_,hl,_=>simp at hl
 rcases hL with⟨h,_⟩ | ⟨_,b,ep,rfl,hb⟩
 ·simp at h
 have hb':H[b]?=some (.opn 1 [.f (fi x),.f (fi y)] 0 ep .loc):=hb;clear h2
 have aPi:∀(t:T) (J:Heap),lN H (.sl b 0 2 0 ep 1) [x,y] J→t.g 2=vi 2→t.g 6=vi 1→WP tab.get Eu none [.inBlock 1,.code Ig,.inLoop Pm,.inBlock 0] ⟨t,[],J⟩ Q:=by
  intro t J hS g2 g6;refine au (kw_region (.inl rfl) ?_);simp [g6,w2];refine zH (kw_seq (kw_sr ?_));simp [g2];exact ah (by simp) (bC rfl (nS (hQ _ _ _ rfl rfl ⟨rfl,hS⟩)))
 simp;refine aj (by simp) (aG (kw_seq ?_))
 refine aB (kw_sr ?_);simp;refine aB (DJ (kw_seq (kw_sr ?_)));have i1:aP H 1 none (.c (.sl b 0 2 0 ep 1)) (vi 1)=some (.c (.ptr b 1 ep)):=by simp [aP,fU,hb']
 have i0:aP H 1 none (.c (.sl b 0 2 0 ep 1)) (vi 0)=some (.c (.ptr b 0 ep)):=by simp [aP,fU,hb']
 have l1:ldV H none (.c (.ptr b 1 ep))=some (vi y):=by simp [ldV,aF,hb',aO]
 have l0:ldV H none (.c (.ptr b 0 ep))=some (vi x):=by simp [ldV,aF,hb',aO]
 simp [w0,i1,i0,l1,l0,-ak,MC];by_cases hlt:y<x
 ·simp [hlt];refine aj (by simp) (aG (kw_seq ?_))
  obtain⟨H1,hH1⟩:∃ H1:Heap,H1=H.set b (.opn 1 [.f (fi x),.f (fi x)] 0 ep .loc):=⟨_,rfl⟩;have hb1:H1[b]?=some (.opn 1 [.f (fi x),.f (fi x)] 0 ep .loc):=by rw [hH1,az (aA hb')]
  have s1:stC H (.ptr b 1 ep) [.f (fi x)]=some H1:=by simp [stC,hb',over,hH1]
  have i0':aP H1 1 none (.c (.sl b 0 2 0 ep 1)) (vi 0)=some (.c (.ptr b 0 ep)):=by simp [aP,fU,hb1]
  obtain⟨H2,hH2⟩:∃ H2:Heap,H2=H1.set b (.opn 1 [.f (fi y),.f (fi x)] 0 ep .loc):=⟨_,rfl⟩;have s2:stC H1 (.ptr b 0 ep) [.f (fi y)]=some H2:=by simp [stC,hb1,over,hH2]
  have hb2:H2[b]?=some (.opn 1 [.f (fi y),.f (fi x)] 0 ep .loc):=by rw [hH2,az (aA hb1)]
  have hS:lN H (.sl b 0 2 0 ep 1) [x,y] H2:=by
   refine⟨[y,x],List.Perm.swap _ _ _,by simp;omega,.inr ⟨by simp,b,ep,rfl,hb2⟩,Kb.aX0 ?_⟩
   rw [hH2,hH1];exact(Fm.set _ _).trans (Fm.set _ _)
  refine aB (kw_region (.inl rfl) ?_);simp [w0,i1,i0,l1,l0,s1,i0',s2,-ak,-bJ];refine au (kw_region (.inl rfl) ?_);simp [w0];refine zH (kw_seq (kw_sr ?_));simp;refine ah (by simp) (bC rfl ?_)
  exact aPi _ _ hS (by simp) (by simp)
 ·simp [hlt];refine ah (by simp) (bC rfl ?_)
  exact aPi _ _ ⟨_,List.Perm.refl _,by simp;omega,.inr ⟨by simp,b,ep,rfl,hb⟩,Kb.refl _ _⟩ (by simp) (by simp)
theorem Wx:((List.range 3).all fun n=>match (CF tab.get 60 20 (.fn NM) [.c (.f (.int .u64 (n:Nat)))] [])with | some (.c (.f (.int .i64 (.ofNat _))),_)=>true | _=>false)=true:=by kernel_rfl
theorem Jh{n:Nat}(h:n≤2):∃ k:Nat,Km.Pure tab.get NM [.c (.f (.int .u64 (n:Nat)))]=Eq (vi (k:Nat)):=by
 have h1:=fM Wx (show n<3 by omega)
 revert h1;split
 ·rename_i k H' hr;intro _;exact⟨k,(iG (by rw [hr];rfl)).eq⟩
 ·intro h;cases h
theorem af8{H:Heap}{c:C}{l:List Int}(hL:LR H c 1 (dK l))(hl:l.length≤2)(k:Nat) :
  ∃ H',Ev tab.get (.fn Ac) [.c c,vi 0,vi l.length,vi k] H (.t []) H'∧lN H c l H':=by
 obtain⟨H',hi,hS⟩:=ag3 hL hl
 suffices h:∃ r H',Ev tab.get (.fn Ac) [.c c,vi 0,vi l.length,vi k] H r H'∧(r=.t []∧lN H c l H') by
  obtain⟨r,H',h1,rfl,h2⟩:=h;exact⟨H',h1,h2⟩
 refine fV aUI rfl fun Q hQ=>?_
 have wl:IntKind.i64.wrap (l.length:Int)=l.length:=wrap64 (by omega) (by omega)
 have hi:=hi.eq;refine kw_sr ?_;simp;refine kw_sr ?_;simp;refine aB (DJ (aB (kw_sr ?_)));simp [wl];refine kw_seq (kw_sr ?_);simp [show(l.length:Int)≤12 by omega]
 refine aj (by simp) (kw_sr ?_)
 simp [hi];exact aH (hQ _ _ _ rfl rfl ⟨rfl,hS⟩)
theorem VA{H:Heap}{c:C}{l:List Int}(hL:LR H c 1 (dK l))(hl:l.length≤2) :
  ∃ H',Ev tab.get (.fn JW) [.c c] H (.t []) H'∧lN H c l H':=by
 obtain⟨k,hk⟩:=Jh hl;obtain⟨H',hi,hS⟩:=af8 hL hl k
 suffices h:∃ r H',Ev tab.get (.fn JW) [.c c] H r H'∧(r=.t []∧lN H c l H') by
  obtain⟨r,H',h1,rfl,h2⟩:=h;exact⟨H',h1,h2⟩
 refine fV aUW rfl fun Q hQ=>?_
 have hi:=hi.eq;have hlen:=hL.len
 have wu:IntKind.u64.wrap (l.length:Int)=l.length:=by
  have:l.length=0∨l.length=1∨l.length=2:=by omega
  rcases this with e | e | e<;>rw [e]<;>decide
 refine kw_sr ?_;simp [hlen];refine kw_region (.inl rfl) ?_;simp [wu,hk,hi];exact nS (hQ _ _ _ rfl rfl ⟨rfl,hS⟩)
end
section
section
variable{z:ZD}{o:List TrD}
def iK(h:OKZ z o)(aSL a:Int):Prop:=∃ r,Last h.S a r∧a+offO z r=aSL
theorem xU(h:OKZ z o){t:Int}{r q:Option TrD}(hr:Last h.S t r)(hq:Last h.S t q):r=q:=Last.uniq h.apart hr hq
theorem LV(h:OKZ z o){t l:Int}(hr:Last h.S t none)(h1:l-offO z none≤t):iK h l (l-offO z none):=⟨none,hr.F6 h1,by omega⟩
theorem LU(h:OKZ z o){t l:Int}{x:TrD}(hr:Last h.S t (some x))(h1:l-offO z (some x)≤t)(h2:x.at_≤l-offO z (some x)):iK h l (l-offO z (some x)):=⟨some x,hr.back h2 h1,by omega⟩
theorem aHa(h:OKZ z o){t:Int}{x:TrD}(hr:Last h.S t (some x)):∀ y,h.S y→y.at_≤x.at_-1→y.at_+2160≤x.at_:=by
 intro y hy h1;rcases h.apart x y hr.1 hy with h2 | h2 | h2
 ·omega
 ·exact h2
 ·subst h2;omega
end
end
section
def ah8{z:ZD}{o:List TrD}(h:OKZ z o)(lo:Int)(m:Nat)(tm:Int)(n:Nat):Prop:=
 (m=2∧tm=lo+1080∧n=0)∨(m=1∧tm≤lo+1079∧n≤1∧∀ y,h.S y→y.at_≤tm→y.at_≤lo-1080)∨(m=0∧tm=lo-1081∧n≤2∧∀ y,h.S y→y.at_≤tm→y.at_<lo-1080)
structure JM{z:ZD}{o:List TrD}(h:OKZ z o)(lo tm:Int)(l:List Int):Prop where
 at_:∀ a ∈ l,iK h lo a
 low:∀ a ∈ l,tm<a
 pw:l.Pairwise (· > ·)
 all:∀ a,iK h lo a→a ∈ l∨a≤tm
structure JL{z:ZD}{o:List TrD}(h:OKZ z o)(lo:Int)(r:Option TrD)(l:List Int):Prop where
 at_:∀ a ∈ l,iK h lo a
 low:∀ a ∈ l,∀ x,r=some x→x.at_≤a
 pw:l.Pairwise (· > ·)
 all:∀ a,iK h lo a→a ∈ l∨∃ x,r=some x∧a<x.at_
section
variable{z:ZD}{o:List TrD}{h:OKZ z o}{lo tm:Int}{l:List Int}{r:Option TrD}
theorem zB(h:OKZ z o){a:Int}(ha:iK h lo a):lo-1080≤a∧a≤lo+1080:=by
 obtain⟨r,hr,e⟩:=ha;have:=h.offO hr;omega
theorem JM.case(hr:Last h.S tm r){a:Int}(ha:iK h lo a)(hle:a≤tm):(a=lo-offO z r∧∀ x,r=some x→x.at_≤a)∨∃ x,r=some x∧a<x.at_:=by
 obtain⟨r',hr',e⟩:=ha
 cases r with
 | none=>
  have:=xU h hr' (hr.F6 hle);subst this
  exact .inl ⟨by omega,fun x hx=>by cases hx⟩
 | some x=>
  by_cases hx:x.at_≤a
  ·have:=xU h hr' (hr.back hx hle);subst this;exact .inl ⟨by omega,fun y hy=>by cases hy;exact hx⟩
  ·exact .inr ⟨x,rfl,by omega⟩
theorem JM.app(k:JM h lo tm l)(hr:Last h.S tm r)(hat:iK h lo (lo-offO z r))(h1:lo-offO z r≤tm)(h2:∀ x,r=some x→x.at_≤lo-offO z r):JL h lo r (l++[lo-offO z r]):=by
 refine⟨fun a ha=>?_,fun a ha x hx=>?_,?_,fun a ha=>?_⟩
 ·rcases cA.1 ha with ha | ha
  ·exact k.at_ a ha
  ·simp at ha;subst ha;exact hat
 ·rcases cA.1 ha with ha | ha
  ·have:=k.low a ha;subst hx;have:=hr.2.1;omega
  ·simp at ha;subst ha;exact h2 x hx
 ·rw [List.pairwise_append];exact⟨k.pw,dc _ _,fun a ha b hb=>by simp at hb;have:=k.low a ha;show b<a;omega⟩
 ·rcases k.all a ha with h3 | h3
  ·exact .inl (List.mem_append_left _ h3)
  ·rcases JM.case hr ha h3 with⟨e,-⟩ | h4
   ·exact .inl (List.mem_append_right _ (by simp [e]))
   ·exact .inr h4
theorem JM.no(k:JM h lo tm l)(hr:Last h.S tm r)(hn:¬ (lo-offO z r≤tm∧∀ x,r=some x→x.at_≤lo-offO z r)):JL h lo r l:=by
 refine⟨k.at_,fun a ha x hx=>?_,k.pw,fun a ha=>?_⟩
 ·have:=k.low a ha;subst hx;have:=hr.2.1;omega
 ·rcases k.all a ha with h3 | h3
  ·exact .inl h3
  ·rcases JM.case hr ha h3 with⟨e,h4⟩ | h4
   ·exact absurd ⟨by omega,fun x hx=>by have:=h4 x hx;omega⟩ hn
   ·exact .inr h4
theorem JL.next{x:TrD}(k:JL h lo (some x) l):JM h lo (x.at_-1) l:=by
 refine⟨k.at_,fun a ha=>by have:=k.low a ha x rfl;omega,k.pw,fun a ha=>?_⟩
 rcases k.all a ha with h3 | ⟨y,hy,h3⟩
 ·exact .inl h3
 ·cases hy;exact .inr (by omega)
theorem JL.done(k:JL h lo r l)(hd:∀ x,r=some x→x.at_<lo-1080):∀ a,iK h lo a→a ∈ l:=by
 intro a ha;rcases k.all a ha with h3 | ⟨y,hy,h3⟩
 ·exact h3
 ·have:=hd y hy;have:=zB h ha;omega
theorem ahn{t:Int}{x:TrD}{r2:Option TrD}(hr:Last h.S t (some x))(hr2:Last h.S (x.at_-1) r2)(h1:x.at_+offO z r2≤lo)(h2:lo<x.at_+x.off):∀ a,¬ iK h lo a:=by
 rintro a ⟨r,hra,e⟩;have hb:=h.offO hra;have hxo:=h.off hr.1;have hb2:=h.offO hr2;have ap:=h.apart;rcases Int.lt_or_le a x.at_ with hlt | hge
 ·
  cases r with
  | none=>
   cases r2 with
   | none=>omega
   | some y=>
    have h3:=hra y hr2.1;have h4:=hr2.2.1;rcases ap y x hr2.1 hr.1 with h5 | h5 | h5
    ·omega
    ·omega
    ·subst h5;omega
  | some w=>
   cases r2 with
   | none=>have:=hr2 w hra.1;have:=hra.2.1;omega
   | some y=>
    by_cases hya:y.at_≤a
    ·have h3:=hra.2.2 y hr2.1 hya;have h4:=hr2.2.2 w hra.1 (by have:=hra.2.1;omega)
     rcases ap w y hra.1 hr2.1 with h5 | h5 | h5
     ·omega
     ·omega
     ·subst h5;omega
    ·have h4:=hr2.2.1;rcases ap y x hr2.1 hr.1 with h5 | h5 | h5
     ·omega
     ·omega
     ·subst h5;omega
 ·
  cases r with
  | none=>have:=hra x hr.1;omega
  | some w=>
   have h3:=hra.2.2 x hr.1 hge;have h4:=hra.2.1;rcases ap x w hr.1 hra.1 with h5 | h5 | h5
   ·omega
   ·omega
   ·subst h5;have:offO z (some x)=x.off:=rfl;omega
end
theorem rise_of{l l':List Int}(hp:l'.Perm l)(hl:l'.Pairwise (·≤·))(hd:l.Pairwise (· > ·)):l'.Pairwise (· < ·):=by
 have hn:l.Nodup:=List.Pairwise.imp (fun h=>by omega) hd
 have hn':l'.Nodup:=hp.nodup_iff.2 hn;exact List.Pairwise.imp (fun⟨h1,h2⟩=>by omega) (hl.and hn')
theorem AV{z:ZD}{o:List TrD}(h:OKZ z o)(g:Tg){lo:Int}(l0:0≤lo)(l1:lo≤460000) :
  ∃(l:List Int) (tg:Tg) (e b:Int),l.length≤2∧l.Pairwise (· < ·)∧(∀ a,a ∈ l↔iK h lo a)∧(-1000000≤e∧e≤1000000∧-1080≤b∧b≤1080)∧Km.Pure tab.get o7 [ckV z g o,vi lo]=Eq (.t [.c (.f (sl tg (dK l))),vi e,vi b]):=by
 obtain⟨rr,⟨l,tg,e,b,hl,hpw,hA,heb,rfl⟩,hp⟩:∃ rr,(∃(l:List Int) (tg:Tg) (e b:Int),l.length≤2∧l.Pairwise (· < ·)∧(∀ a,a ∈ l↔iK h lo a)∧(-1000000≤e∧e≤1000000∧-1080≤b∧b≤1080)∧rr=.t [.c (.f (sl tg (dK l))),vi e,vi b])∧Km.Pure tab.get o7 [ckV z g o,vi lo] rr:=by
  refine dN aUx rfl fun Q hQ=>?_
  refine kw_sr ?_;simp;refine kw_sr ?_;simp [wrap64 (n:=lo+1080) (by omega) (by omega)]
  refine kw_seq (aB ?_)
  refine bM (fun m s=>∃(t:T) (J:Heap) (l:List Int) (c:C) (tm:Int),s=⟨t,[],J⟩∧LR J c 1 (dK l)∧JM h lo tm l∧ah8 h lo m tm l.length∧-2000≤tm∧t.g 0=ckV z g o∧t.g 1=vi lo∧t.g 4=.c c∧t.g 7=vi tm) 2
   ⟨_,_,[],_,lo+1080,rfl,LR.nil _ _,⟨by simp,by simp,List.Pairwise.nil,fun a ha=>.inr (by have:=zB h ha;omega)⟩,.inl ⟨rfl,rfl,rfl⟩,by omega,by simp,by simp,by simp,by simp⟩ ?_
  rintro m s ⟨t,J,l,c,tm,rfl,hL,hA,hI,ht0,g0,g1,g4,g7⟩ ih;have ht1:tm≤500000:=by rcases hI with⟨-,e,-⟩ | ⟨-,e,-⟩ | ⟨-,e,-⟩<;>omega
  have hll:l.length≤2:=by rcases hI with⟨-,-,e⟩ | ⟨-,-,e,-⟩ | ⟨-,-,e,-⟩<;>omega
  obtain⟨r,hr,hlast⟩:=h.last g (t:=tm) (by omega) (by omega)
  obtain⟨r',hr',hoff⟩:=zC h g (t:=tm) (by omega) (by omega)
  obtain rfl:=xU h hr hr';have hb:=h.offO hr
  have tail:∀(t:T) (J:Heap) (l:List Int) (c:C) (b8:Nat),LR J c 1 (dK l)→JL h lo r l→ah8 h lo m tm 0→(m=2→l.length≤1)→l.length≤2→t.g 0=ckV z g o→t.g 1=vi lo→t.g 4=.c c→t.g 7=vi tm→t.g 8=.c (.ptr b8 0 0)→t.g 9=vb r.isSome →
    J[b8]?=some (.box ((r.getD ⟨0,0⟩).row.map .f) 0) →
    WP tab.get o7 none [.code vV,.inBlock 1,.inLoop vg,.inBlock 0,.code nG] ⟨t,[],J⟩ Q:=by
   clear hL hA hll g0 g1 g4 g7 hI;intro t J l c b8 hL hA hI hl1 hll g0 g1 g4 g7 g8 g9 x8
   have fin:∀ t:T,(∀ x,r=some x→x.at_<lo-1080)→t.g 4=.c c→WP tab.get o7 none [.code nG] ⟨t,[],J⟩ Q:=by
    intro t hd g4;obtain⟨H',hso,l',hp,hpl,hL',-⟩:=VA hL hll;have hcm:=hA.done hd;have hso:=hso.eq;refine kw_sr ?_;simp [g4,hso];refine kw_sr ?_;simp [g4];obtain⟨tg,hex⟩:=hL'.ex (DT _) 63;refine aH (hQ _ _ (.t [.c (.f (sl tg (dK l'))),vi 0,vi 0]) ⟨l',tg,0,0,by rw [hp.length_eq];exact hll,rise_of hp hpl hA.pw,fun a=>⟨fun ha=>hA.at_ a (hp.subset ha),fun ha=>hp.symm.subset (hcm a ha)⟩,by decide,rfl⟩ ⟨rfl,.t [.c c,vi 0,vi 0],?_,?_⟩)
    ·simp [Km.results,bT,aZ]
    ·simp [exV,dG,aZ,deep,hex]
   refine kw_seq (kw_sr ?_)
   cases r with
   | none=>
    simp [g9];refine aj (by simp) (bC rfl ?_)
    exact fin _ (fun x hx=>by cases hx) (by simp [g4])
   | some x=>
    simp [TrD.row]at x8;have hw:IntKind.i64.wrap (lo-1080)=lo-1080:=wrap64 (by omega) (by omega)
    by_cases hx:x.at_<lo-1080
    ·simp [g9,g8,g1,x8,aO,hw,hx];refine aj (by simp) (bC rfl ?_)
     exact fin _ (fun y hy=>by cases hy;exact hx) (by simp [g4])
    ·simp [g9,g8,g1,x8,aO,hw,hx];refine bD (by simp) ?_
     have hxt:=hr.2.1;have w1:IntKind.i64.wrap (x.at_-1)=x.at_-1:=wrap64 (by omega) (by omega)
     obtain⟨r2,hr2,aYT⟩:=zC h g (t:=x.at_-1) (by omega) (by omega)
     have hb2:=h.offO hr2;have w2:IntKind.i64.wrap (x.at_+offO z r2)=x.at_+offO z r2:=wrap64 (by omega) (by omega)
     have hxo:=h.off hr.1;have w3:IntKind.i64.wrap (x.at_+x.off)=x.at_+x.off:=wrap64 (by omega) (by omega)
     have hm0:m≠0:=by
      rintro rfl;rcases hI with⟨e1,-⟩ | ⟨e1,-⟩ | ⟨-,-,-,e3⟩
      ·cases e1
      ·cases e1
      ·exact hx (e3 x hr.1 hxt)
     refine kw_seq (kw_sr ?_);simp [g0,g8,x8,aO,w1,aYT];refine kw_sr ?_
     have next:∀ t:T,t.g 0=ckV z g o→t.g 1=vi lo→t.g 4=.c c→t.g 8=.c (.ptr b8 0 0)→WP tab.get o7 none [.code Ib,.inBlock 1,.inLoop vg,.inBlock 0,.code nG] ⟨t,[],J⟩ Q:=by
      intro t g0 g1 g4 g8;refine kw_region (.inl rfl) ?_;simp [g8,x8,aO,w1];refine au ?_;have aY5:=aHa h hr;refine ih (m-1) _ (by omega) ⟨_,J,l,c,x.at_-1,rfl,hL,hA.next,?_,by omega,by simp [g0],by simp [g1],by simp [g4],by simp⟩
      rcases hI with⟨e1,e2,-⟩ | ⟨e1,e2,-,e3⟩ | ⟨e1,-⟩
      ·exact .inr (.inl ⟨by omega,by omega,hl1 e1,fun y hy h1=>by have:=aY5 y hy h1;omega⟩)
      ·have:=e3 x hr.1 hxt;exact .inr (.inr ⟨by omega,by omega,hll,fun y hy h1=>by have:=aY5 y hy h1;omega⟩)
      ·omega
     by_cases h1:x.at_+offO z r2≤lo
     ·by_cases h2:lo<x.at_+x.off
      ·simp [g1,g8,x8,aO,w2,w3,h1,h2];refine aj (by simp) (kw_sr ?_)
       simp [g8,x8,aO];refine aH (hQ _ _ (.t [.c (.f (sl .nil (dK []))),vi x.at_,vi (offO z r2)]) ⟨[],.nil,_,_,by simp,List.Pairwise.nil,fun a=>⟨fun ha=>(by cases ha),fun ha=>absurd ha (ahn hr hr2 h1 h2 a)⟩,⟨by omega,by omega,hb2.1,hb2.2⟩,rfl⟩ ⟨rfl,.t [.c (.f .aC),vi x.at_,vi (offO z r2)],?_,?_⟩)
       ·simp [Km.results,bT,aZ]
       ·simp [exV,dG,aZ,sl,Tg.fc]
      ·simp [g1,g8,x8,aO,w2,w3,h1,h2];refine bD (by simp) ?_
       exact next _ (by simp [g0]) (by simp [g1]) (by simp [g4]) (by simp [g8])
     ·simp [g1,w2,g8,x8,aO,h1];refine bD (by simp) ?_
      exact next _ (by simp [g0]) (by simp [g1]) (by simp [g4]) (by simp [g8])
  refine aB (kw_sr ?_);simp [g0,g7,hlast,TrD.row];obtain⟨J1,hJ1⟩:∃ J1:Heap,J1=J++[.box [.f (fi (r.getD ⟨0,0⟩).at_),.f (fi (r.getD ⟨0,0⟩).off)] 0]:=⟨_,rfl⟩;rw [←hJ1];have x8:J1[J.length]?=some (.box [.f (fi (r.getD ⟨0,0⟩).at_),.f (fi (r.getD ⟨0,0⟩).off)] 0):=by rw [hJ1];simp
  have hL1:LR J1 c 1 (dK l):=by rw [hJ1];exact hL.push _
  refine kw_sr ?_;simp [g0,g7,hoff];refine kw_seq (kw_sr ?_);simp [g1,wrap64 (n:=lo-offO z r) (by omega) (by omega)]
  have hI0:ah8 h lo m tm 0:=by
   rcases hI with⟨e1,e2,-⟩ | ⟨e1,e2,-,e3⟩ | ⟨e1,e2,-,e3⟩
   ·exact .inl ⟨e1,e2,rfl⟩
   ·exact .inr (.inl ⟨e1,e2,by omega,e3⟩)
   ·exact .inr (.inr ⟨e1,e2,by omega,e3⟩)
  obtain⟨at_,hat⟩:∃ a,a=lo-offO z r:=⟨_,rfl⟩;rw [←hat]
  have hm0:at_≤tm→m=2∧l.length=0∨m=1∧l.length≤1:=by
   intro hle;rcases hI with⟨e1,e2,e3⟩ | ⟨e1,e2,e4,e3⟩ | ⟨e1,e2,-,e3⟩<;>omega
  have app:∀ t:T,at_≤tm→JL h lo r (l++[at_])→t.g 0=ckV z g o→t.g 1=vi lo→t.g 4=.c c→t.g 7=vi tm→t.g 8=.c (.ptr J.length 0 0)→t.g 9=vb r.isSome→t.g 11=vi at_ →
    WP tab.get o7 none [.code Ic,.code vV,.inBlock 1,.inLoop vg,.inBlock 0,.code nG] ⟨t,[],J1⟩ Q:=by
   intro t hle hat' g0 g1 g4 g7 g8 g9 g11;obtain⟨J2,hJ2⟩:∃ J2:Heap,J2=J1++[.box ([fi at_].map .f) 0]:=⟨_,rfl⟩;have hL2:LR J2 c 1 (dK l):=by rw [hJ2];exact hL1.push _
   have hb2:J2[J1.length]?=some (.box ([fi at_].map .f) 0):=by rw [hJ2];simp
   have x8':J2[J.length]?=some (.box [.f (fi (r.getD ⟨0,0⟩).at_),.f (fi (r.getD ⟨0,0⟩).off)] 0):=by rw [hJ2,ag (aA x8)];exact x8
   obtain⟨c3,J3,happ,hL3,hK3,hc3⟩:=hL2.app (DT l) (by decide) (row:=[fi at_]) rfl (bytes:=8) (fB (by simp;omega) (by decide)) hb2
   have x83:=hK3.2 _ _ x8' (hL2.eG x8');have hm:=hm0 hle;refine kw_region (.inl rfl) ?_;have e2:J1++[.box [.f (fi at_)] 0]=J2:=hJ2.symm;simp [g4,g11];rw [e2];simp [happ];have e3:dK l++[[fi at_]]=dK (l++[at_]):=by simp
   rw [e3]at hL3;refine tail _ J3 (l++[at_]) c3 J.length hL3 hat' hI0 (fun e=>by rw [bp,db];omega) (by rw [bp,db];omega) (by simp [g0]) (by simp [g1]) (by simp) (by simp [g7]) (by simp [g8]) (by simp [g9]) (by simpa [TrD.row]using x83)
  have aPd:∀ t:T,JL h lo r l→t.g 0=ckV z g o→t.g 1=vi lo→t.g 4=.c c→t.g 7=vi tm→t.g 8=.c (.ptr J.length 0 0)→t.g 9=vb r.isSome →
    WP tab.get o7 none [.code vV,.inBlock 1,.inLoop vg,.inBlock 0,.code nG] ⟨t,[],J1⟩ Q:=by
   intro t hR g0 g1 g4 g7 g8 g9;exact tail _ J1 l c J.length hL1 hR hI0 (by rcases hI with⟨e1,e2,e3⟩ | ⟨e1,e2,e4,e3⟩ | ⟨e1,e2,-,e3⟩<;>omega) hll g0 g1 g4 g7 g8 g9 (by simpa [TrD.row]using x8)
  refine kw_sr ?_;by_cases hle:at_≤tm
  ·cases r with
   | none=>
    simp [g7,hle];refine aj (by simp) ?_
    exact app _ hle (by rw [hat]at hle ⊢;exact hA.app hr (LV h hr (by omega)) hle (fun x hx=>by cases hx)) (by simp [g0]) (by simp [g1]) (by simp [g4]) (by simp [g7]) (by simp) (by simp) (by simp)
   | some x=>
    simp at x8;by_cases hx:x.at_≤at_
    ·simp [g7,hle,x8,aO,hx];refine aj (by simp) ?_
     exact app _ hle (by rw [hat]at hle hx ⊢;exact hA.app hr (LU h hr (by omega) (by omega)) hle (fun y hy=>by cases hy;exact hx)) (by simp [g0]) (by simp [g1]) (by simp [g4]) (by simp [g7]) (by simp) (by simp) (by simp)
    ·simp [g7,hle,x8,aO,hx];refine bD (by simp) ?_
     exact aPd _ (hA.no hr fun k=>hx (by rw [hat];exact k.2 x rfl)) (by simp [g0]) (by simp [g1]) (by simp [g4]) (by simp [g7]) (by simp) (by simp)
  ·simp [g7,hle];refine bD (by simp) ?_
   exact aPd _ (hA.no hr fun k=>hle (by rw [hat];exact k.1)) (by simp [g0]) (by simp [g1]) (by simp [g4]) (by simp [g7]) (by simp) (by simp)
 exact⟨l,tg,e,b,hl,hpw,hA,heb,hp.eq⟩
end
section
theorem uf:Km.Pure tab.get aie []=Eq (.a [.f (.fn JR []),.f (.fn JQ []),.f (.fn JO [])]):=Km.Pure.eq (aQ (m:=40) (d:=10) (by kernel_rfl))
theorem aEH(a b c:V)(H:Heap):Ev tab.get (.fn JR) [a,b,c] H (.c (.f .aC)) H:=by
 obtain⟨r,H',he,rfl,rfl⟩:∃ r H',Ev tab.get (.fn JR) [a,b,c] H r H'∧r=.c (.f .aC)∧H'=H:=by
  refine fV aUr rfl fun Q hQ=>?_
  refine kw_sr ?_;simp;refine kw_sr ?_;simp;exact aH (hQ _ _ _ rfl (res_one (by simp)) ⟨rfl,rfl⟩)
 exact he
theorem afE{a c:Int}(hw:IntKind.i64.wrap (a-c)=a-c)(b:V)(H:Heap):Ev tab.get (.fn JQ) [vi a,b,vi c] H (.c (.sl H.length 0 1 1 0 1)) (H++[.box [.f (fi (a-c))] 0]):=by
 obtain⟨r,H',he,rfl,rfl⟩:∃ r H',Ev tab.get (.fn JQ) [vi a,b,vi c] H r H'∧r=.c (.sl H.length 0 1 1 0 1)∧H'=H++[.box [.f (fi (a-c))] 0]:=by
  refine fV aUq rfl fun Q hQ=>?_
  refine kw_sr ?_;simp;refine kw_sr ?_;simp [hw];exact aH (hQ _ _ _ rfl (res_one (by simp)) ⟨rfl,rfl⟩)
 exact he
theorem aIl(a c:V)(b:Int)(H:Heap):Ev tab.get (.fn JO) [a,vi b,c] H (.c (.sl H.length 0 1 1 0 1)) (H++[.box [.f (fi b)] 0]):=by
 obtain⟨r,H',he,rfl,rfl⟩:∃ r H',Ev tab.get (.fn JO) [a,vi b,c] H r H'∧r=.c (.sl H.length 0 1 1 0 1)∧H'=H++[.box [.f (fi b)] 0]:=by
  refine fV aUp rfl fun Q hQ=>?_
  refine kw_sr ?_;simp;refine kw_sr ?_;simp;exact aH (hQ _ _ _ rfl (res_one (by simp)) ⟨rfl,rfl⟩)
 exact he
theorem mW{z:ZD}{o:List TrD}(h:OKZ z o){lo:Int}(l0:0≤lo)(l1:lo≤460000) :
  ∃(l:List Int) (e b:Int),l.length≤2∧l.Pairwise (· < ·)∧(∀ a,a ∈ l↔iK h lo a)∧(-1000000≤e∧e≤1000000∧-1080≤b∧b≤1080) ∧
   ∀ gap fold:Int,0≤gap→gap≤2→0≤fold→fold≤2→∃ tg:Tg,Km.Pure tab.get xB [z.v,vi lo,vi gap,vi fold]=Eq (.t [.c (.f (sl tg (dK (nN gap fold lo l e b)))),vi 0]):=by
 obtain⟨g,hop⟩:=BJ h;obtain⟨l,tg,e,b,hl,hpw,hA,heb,hin⟩:=AV h g l0 l1;have hc:=h.c;refine⟨l,e,b,hl,hpw,hA,heb,fun gap fold gp0 gp1 fo0 fo1=>?_⟩
 obtain⟨rr,⟨tg',rfl⟩,hp⟩:∃ rr,(∃ tg':Tg,rr=.t [.c (.f (sl tg' (dK (nN gap fold lo l e b)))),vi 0])∧Km.Pure tab.get xB [z.v,vi lo,vi gap,vi fold] rr:=by
  refine dN aUE rfl fun Q hQ=>?_
  refine kw_sr ?_;simp;obtain⟨H0,hH0⟩:∃ H0:Heap,H0=[.box (z.row.map .f) 0]:=⟨_,rfl⟩;rw [←hH0];have z0:H0[0]?=some (.box (z.row.map .f) 0):=by rw [hH0];rfl
  have hl0:H0.length=1:=by rw [hH0];rfl
  clear hH0;refine kw_sr ?_;simp [iL z0 hc,-ak,hop];refine kw_seq (kw_sr ?_);simp [Aq (n:=lo) (m:=2251799813684168) (by decide) (by decide) (by omega) (by omega),show¬ gap<0 by omega,show¬ 2<gap by omega,show¬ fold<0 by omega,show¬ 2<fold by omega]
  refine bD (by simp) ?_
  refine kw_sr ?_;simp [hin]
  have fin:∀(t:T) (J:Heap) (c:C) (tg':Tg),t.g 12=.c c→exC deep J c=some (sl tg' (dK (nN gap fold lo l e b)))→WP tab.get xB none [.inBlock 0,.code Ie] ⟨t,[],J⟩ Q:=by
   intro t J c tg' g12 hex;refine au (kw_sr ?_);simp [g12];refine aH (hQ _ _ _ ⟨tg',rfl⟩ ⟨rfl,.t [.c c,vi 0],?_,?_⟩)
   ·simp [Km.results,bT,aZ]
   ·simp [exV,dG,aZ,hex]
  refine kw_seq (aB (kw_sr ?_));by_cases h0:l=[]
  ·subst h0;have hsl:bQ H0 (.f (sl tg (dK [])))=some 0:=by simpa using zG (H:=H0) tg (dK [])
   simp at hsl;simp [hsl];refine aj (by simp) (kw_region (.inl rfl) ?_)
   have hg:gap=0∨gap=1∨gap=2:=by omega
   rcases hg with rfl | rfl | rfl
   ·have hsk:=(aEH (vi lo) (vi e) (vi b) H0).eq;simp [uf,nT,fU,aO,dh,hsk];exact fin _ _ (.f .aC) .nil (by simp) (by simp [nN,sl,Tg.fc])
   ·have hsk:=(afE (a:=lo) (c:=b) (wrap64 (by omega) (by omega)) (vi e) H0).eq
    simp [uf,nT,fU,aO,dh,hsk];exact fin _ _ (.sl H0.length 0 1 1 0 1) .fs (by simp) (by simp [nN,sl,deep,uM])
   ·have hsk:=(aIl (vi lo) (vi b) e H0).eq;simp [uf,nT,fU,aO,dh,hsk];exact fin _ _ (.sl H0.length 0 1 1 0 1) .fs (by simp) (by simp [nN,sl,deep,uM])
  ·have hpos:0<l.length:=cN.2 h0;have hsl:bQ H0 (.f (sl tg (dK l)))=some l.length:=by simpa using zG (H:=H0) tg (dK l)
   have hfs:sl tg (dK l)=.fs (dK l).flatten l.length:=by
    have:¬ (dK l).isEmpty=true:=by simpa using h0
    unfold sl;rw [if_neg this];simp
   simp [hsl,h0];refine ah (by simp) ?_
   refine kw_sr ?_;by_cases f0:fold=0
   ·subst f0;simp;refine aj (by simp) (kw_region (.inl rfl) ?_)
    have hs:jF H0 1 (.c (.f (.fs (dK l).flatten l.length))) none (some (vi 1)) none=some (.c (.f (sl .fs (dK (l.take 1))))):=by
     rcases l with _ | ⟨x,_ | ⟨y,_ | ⟨w,l⟩⟩⟩
     ·exact absurd rfl h0
     ·rfl
     ·rfl
     ·simp at hl
    simp [hfs,hs];exact fin _ _ (.f (sl .fs (dK (l.take 1)))) .fs (by simp) (by simp [nN,h0])
   simp [f0];refine ah (by simp) ?_
   refine kw_sr ?_;by_cases f1:fold=1
   ·subst f1;simp;refine aj (by simp) (kw_region (.inl rfl) ?_)
    have hs:jF H0 1 (.c (.f (.fs (dK l).flatten l.length))) (some (vi ((l.length:Int)-1))) none none=some (.c (.f (sl .fs (dK (l.drop (l.length-1)))))):=by
     rcases l with _ | ⟨x,_ | ⟨y,_ | ⟨w,l⟩⟩⟩
     ·exact absurd rfl h0
     ·rfl
     ·rfl
     ·simp at hl
    have hlen:bQ H0 (.f (.fs (dK l).flatten l.length))=some l.length:=hfs▸hsl;simp [hfs,hlen,wrap64 (n:=(l.length:Int)-1) (by omega) (by omega),hs]
    exact fin _ _ (.f (sl .fs (dK (l.drop (l.length-1))))) .fs (by simp) (by simp [nN,h0])
   simp [f1];refine bD (by simp) ?_
   exact fin _ _ (.f (sl tg (dK l))) tg (by simp) (by simp [nN,h0,f0,f1])
 exact⟨tg',hp.eq⟩
end
section
section
variable{z:ZD}{o:List TrD}
noncomputable def zK (h:OKZ z o) (lo gap fold:Int):List Int:=
 if hb:0≤lo∧lo≤460000 then
  nN gap fold lo (Classical.choose (mW h hb.1 hb.2)) (Classical.choose (Classical.choose_spec (mW h hb.1 hb.2))) (Classical.choose (Classical.choose_spec (Classical.choose_spec (mW h hb.1 hb.2))))
 else []
structure a06(h:OKZ z o)(lo:Int)(l:List Int)(e b:Int):Prop where
 len:l.length≤2
 pw:l.Pairwise (· < ·)
 mem:∀ a,a ∈ l↔iK h lo a
 bd:-1000000≤e∧e≤1000000∧-1080≤b∧b≤1080
 run:∀ gap fold:Int,0≤gap→gap≤2→0≤fold→fold≤2→∃ tg:Tg,Km.Pure tab.get xB [z.v,vi lo,vi gap,vi fold]=Eq (.t [.c (.f (sl tg (dK (nN gap fold lo l e b)))),vi 0])
 ins:∀ gap fold:Int,zK h lo gap fold=nN gap fold lo l e b
theorem Fp(h:OKZ z o){lo:Int}(l0:0≤lo)(l1:lo≤460000):∃ l e b,a06 h lo l e b:=by
 have hx:=Classical.choose_spec (Classical.choose_spec (Classical.choose_spec (mW h l0 l1)));exact⟨_,_,_,hx.1,hx.2.1,hx.2.2.1,hx.2.2.2.1,hx.2.2.2.2,fun gap fold=>by unfold zK;rw [dif_pos ⟨l0,l1⟩]⟩
theorem aHx(h:OKZ z o){lo:Int}(l0:0≤lo)(l1:lo≤460000){gap fold:Int}(g0:0≤gap)(g1:gap≤2)(f0:0≤fold)(f1:fold≤2) :
  ∃ tg:Tg,Km.Pure tab.get xB [z.v,vi lo,vi gap,vi fold]=Eq (.t [.c (.f (sl tg (dK (zK h lo gap fold)))),vi 0]):=by
 obtain⟨l,e,b,k⟩:=Fp h l0 l1;rw [k.ins];exact k.run gap fold g0 g1 f0 f1
noncomputable def oU (h:OKZ z o) (lo:Int):List Int:=zK h lo 0 2
theorem afW(lo:Int)(l:List Int)(e b:Int):nN 0 2 lo l e b=l:=by
 unfold nN;split
 ·rename_i h;rw [h];rfl
 ·rfl
theorem vM{h:OKZ z o}{lo:Int}{l:List Int}{e b:Int}(k:a06 h lo l e b):oU h lo=l:=by unfold oU;rw [k.ins,afW]
theorem ag7(h:OKZ z o){lo:Int}(l0:0≤lo)(l1:lo≤460000):(oU h lo).length≤2:=by
 obtain⟨l,e,b,k⟩:=Fp h l0 l1;rw [vM k];exact k.len
theorem aHz(h:OKZ z o){lo:Int}(l0:0≤lo)(l1:lo≤460000):(oU h lo).Pairwise (· < ·):=by
 obtain⟨l,e,b,k⟩:=Fp h l0 l1;rw [vM k];exact k.pw
theorem ag6(h:OKZ z o){lo:Int}(l0:0≤lo)(l1:lo≤460000)(a:Int):a ∈ oU h lo↔iK h lo a:=by
 obtain⟨l,e,b,k⟩:=Fp h l0 l1;rw [vM k];exact k.mem a
theorem Gt(h:OKZ z o){lo:Int}(l0:0≤lo)(l1:lo≤460000){gap fold:Int}(f0:0≤fold)(f1:fold≤2):(zK h lo gap fold).length≤2:=by
 obtain⟨l,e,b,k⟩:=Fp h l0 l1;have hl:=k.len;rw [k.ins];by_cases hn:l=[]
 ·subst hn;rw [FW];split<;>decide
 ·rw [Lp hn ⟨f0,f1⟩];split<;>omega
theorem aHy(h:OKZ z o){lo:Int}(l0:0≤lo)(l1:lo≤460000){gap fold:Int}:(zK h lo gap fold).Pairwise (· < ·):=by
 obtain⟨l,e,b,k⟩:=Fp h l0 l1;rw [k.ins];exact aE1 k.pw
theorem ag5(h:OKZ z o){lo:Int}(l0:0≤lo)(l1:lo≤460000){gap fold:Int}(hn:oU h lo=[]):(zK h lo gap fold).length=if gap=0 then 0 else 1:=by
 obtain⟨l,e,b,k⟩:=Fp h l0 l1;rw [vM k]at hn;subst hn;rw [k.ins,FW]
theorem WE(h:OKZ z o){lo:Int}(l0:0≤lo)(l1:lo≤460000){gap fold:Int}(f0:0≤fold)(f1:fold≤2)(hn:oU h lo≠[]):(zK h lo gap fold).length=if fold=2 then(oU h lo).length else 1:=by
 obtain⟨l,e,b,k⟩:=Fp h l0 l1;rw [vM k]at hn ⊢;rw [k.ins,Lp hn ⟨f0,f1⟩]
theorem ag4(h:OKZ z o){lo:Int}(l0:0≤lo)(l1:lo≤460000){gap fold:Int}(hn:oU h lo≠[]){a:Int}(ha:a ∈ zK h lo gap fold):iK h lo a:=by
 obtain⟨l,e,b,k⟩:=Fp h l0 l1;rw [vM k]at hn;rw [k.ins]at ha;exact(k.mem a).1 (Ll hn ha)
theorem UJ(h:OKZ z o){lo:Int}(l0:0≤lo)(l1:lo≤460000){gap fold:Int}:∀ a ∈ zK h lo gap fold,-1000000≤a∧a≤1000000:=by
 intro a ha;obtain⟨l,e,b,k⟩:=Fp h l0 l1;have hb:=k.bd;rw [k.ins]at ha;by_cases hn:l=[]
 ·subst hn;unfold nN at ha;rw [if_pos rfl]at ha;split at ha
  ·cases ha
  ·split at ha<;>simp at ha<;>omega
 ·have:=zB h ((k.mem a).1 (Ll hn ha));omega
theorem aEZ:∀ {l m:List Int},l.Pairwise (· < ·)→m.Pairwise (· < ·)→(∀ a,a ∈ l↔a ∈ m)→l=m:=by
 intro l
 induction l with
 | nil=>
  intro m _ _ h
  cases m with
  | nil=>rfl
  | cons x m=>exact absurd ((h x).2 bh) (by simp)
 | cons x l ih=>
  intro m hl hm h
  cases m with
  | nil=>exact absurd ((h x).1 bh) (by simp)
  | cons y m=>
   have hl':=dj.1 hl;have hm':=dj.1 hm
   have e:x=y:=by
    rcases cG.1 ((h x).1 bh)with e | e
    ·exact e
    ·rcases cG.1 ((h y).2 bh)with e2 | e2
     ·exact e2.symm
     ·have:=hl'.1 _ e2;have:=hm'.1 _ e;omega
   subst e;rw [ih hl'.2 hm'.2];intro a;constructor
   ·intro ha;rcases cG.1 ((h a).1 (bA _ ha))with e | e
    ·have:=hl'.1 _ ha;omega
    ·exact e
   ·intro ha;rcases cG.1 ((h a).2 (bA _ ha))with e | e
    ·have:=hm'.1 _ ha;omega
    ·exact e
end
noncomputable def onL {z:ZD} {o:List TrD} (h:OKZ z o) (s:dn) (d:Int):List IsD:=
 if s.dropped d=true then []else(zK h (s.at_ d) s.gap s.fold).map fun a=>⟨d,a,a+s.long d⟩
end
section
def a05(a b:IsD):Prop:=a.fr<b.fr∨a.fr=b.fr∧(a.day<b.day∨a.day=b.day∧a.to<b.to)
instance(a b:IsD):Decidable (a05 a b):=by unfold a05;exact inferInstance
end
section
theorem AB{l:List bG}(h:SortM l){j:Nat}(hj:j<l.length)(d:Int):eH (l.take (j+1)) d=if l[j].day=d then some l[j]else eH (l.take j) d:=by
 unfold eH;rw [aR hj,List.find?_append];by_cases hd:l[j].day=d
 ·rw [if_pos hd]
  have:(l.take j).find? (fun x=>decide (x.day=d))=none:=by
   rw [d4];intro x hx;obtain⟨i,hi,rfl⟩:=bq hx;simp at hi;rw [List.getElem_take];have:=bL.1 h i j (by omega) hj (by omega)
   simp;omega
  rw [this];simp [hd]
 ·rw [if_neg hd];simp [hd]
theorem LZ{l:List bG}(h:SortM l){j:Nat}(hj:j<l.length){d:Int}(hd:l[j].day=d):eH l d=some l[j]:=by
 unfold eH
 have key:∀(i:Nat),i≤l.length→j<i→(l.take i).find? (fun x=>decide (x.day=d))=some l[j]:=by
  intro i
  induction i with
  | zero=>intro _ h;omega
  | succ i ih=>
   intro hi hji;have:=AB h (j:=i) (by omega) d
   unfold eH at this;rw [this];by_cases e:j=i
   ·subst e;rw [if_pos hd]
   ·have hlt:=bL.1 h j i hj (by omega) (by omega)
    rw [if_neg (by omega)]
    exact ih (by omega) (by omega)
 have:=key l.length (ax _) hj
 rwa [cm]at this
theorem L6{l:List bG}{d:Int}(h:∀ j (hj:j<l.length),l[j].day≠d):eH l d=none:=by
 unfold eH;rw [d4];intro x hx;obtain⟨j,hj,rfl⟩:=bq hx;have:=h j hj;simp [this]
theorem Dx{l:List bG}{d:Int}{m:bG}(h:eH l d=some m):m ∈ l∧m.day=d:=by
 unfold eH at h;exact⟨List.mem_of_find?_eq_some h,by simpa using List.find?_some h⟩
def atO(s:dn)(d:Int):Option bG→Int
 | none=>d*1440+s.mi
 | some m=>m.to*1440+m.mi
def loO(s:dn):Option bG→Int
 | none=>s.le
 | some m=>m.le
def drO:Option bG→Bool
 | none=>false
 | some m=>m.drop
theorem aIu(s:dn)(d:Int):s.at_ d=atO s d (eH s.mv d):=by unfold dn.at_ atO;split<;>rename_i h<;>rw [h]
theorem Jg(s:dn)(d:Int):s.long d=loO s (eH s.mv d):=by unfold dn.long loO;split<;>rename_i h<;>rw [h]
theorem D6(s:dn)(d:Int):s.dropped d=drO (eH s.mv d):=by unfold dn.dropped drO;split<;>rename_i h<;>rw [h]
structure dn.zZ(s:dn):Prop where
 ok:s.OK
 ml:s.mv.length≤4
 zo:s.zo=⟨#[122]⟩
 rl:s.ru.length≤15
 le:s.le≤2880
 mo:∀ m ∈ s.mv,m.day≤39∧m.to≤39∧m.mi≤1275∧m.le≤256
theorem dn.zZ.at_{s:dn}(h:s.zZ){d:Int}(d0:0≤d)(d1:d≤300):0≤s.at_ d∧s.at_ d≤460000:=by
 rw [aIu];have hmi:=h.ok.mi
 cases hm:eH s.mv d with
 | none=>simp only [atO];omega
 | some m=>
  have hmm:=(Dx hm).1;have h1:=h.mo m hmm;have h2:=h.ok.mo m hmm;simp only [atO]
  cases hd:m.drop with
  | true=>have:=h2.dr hd;omega
  | false=>have:=h2.nd hd;omega
theorem dn.zZ.long{s:dn}(h:s.zZ)(d:Int)(hd:s.dropped d=false):1≤s.long d∧s.long d≤2880:=by
 rw [Jg];rw [D6]at hd
 cases hm:eH s.mv d with
 | none=>simp only [loO];have:=h.ok.le;have:=h.le;omega
 | some m=>
  have hmm:=(Dx hm).1;have h1:=h.mo m hmm;have h2:=h.ok.mo m hmm;rw [hm]at hd;have:=h2.nd hd;simp only [loO];omega
end
section
structure M5 where
 a:Nat
 b:Nat
 c:Nat
 d:Nat
 e:Nat
def M5.row(x:M5):List FC:=[u8 x.a,u8 x.b,u8 x.c,u8 x.d,u8 x.e]
structure M5.OK(x:M5):Prop where
 a:x.a<256
 b:x.b<256
 c:x.c<256
 d:x.d<256
 e:x.e<256
theorem V6{x:M5}(hx:x.OK):∃ m:bG,m.OK∧(m.day≤39∧m.to≤39∧m.mi≤1275∧m.le≤256)∧Km.Pure tab.get Vj [.a (x.row.map .f)]=Eq (.a (m.row.map .f)):=by
 obtain⟨rr,⟨m,h1,h2,rfl⟩,hp⟩:∃ rr,(∃ m:bG,m.OK∧(m.day≤39∧m.to≤39∧m.mi≤1275∧m.le≤256)∧rr=.a (m.row.map .f))∧Km.Pure tab.get Vj [.a (x.row.map .f)] rr:=by
  obtain⟨a,b,c,d,e⟩:=x;obtain⟨ha,hb,hc,hd,he⟩:=hx;simp only at ha hb hc hd he;obtain⟨p,p1,rp⟩:=l9 a (m:=40) (by decide)
  obtain⟨q,q1,rq⟩:=l9 b (m:=40) (by decide)
  obtain⟨r,r1,r2⟩:=l9 e (m:=4) (by decide)
  have w5:IntKind.i64.wrap ((c:Int)*5)=(c:Int)*5:=wrap64 (by omega) (by omega)
  have w1:IntKind.i64.wrap (1+(d:Int))=1+d:=wrap64 (by omega) (by omega)
  have i0:∀ H,aP H 1 (some 5) (.c (.ptr 0 0 0)) (vi 0)=some (.c (.ptr 0 0 0)):=fun _=>rfl
  have i1:∀ H,aP H 1 (some 5) (.c (.ptr 0 0 0)) (vi 1)=some (.c (.ptr 0 1 0)):=fun _=>rfl
  have i2:∀ H,aP H 1 (some 5) (.c (.ptr 0 0 0)) (vi 2)=some (.c (.ptr 0 2 0)):=fun _=>rfl
  have i3:∀ H,aP H 1 (some 5) (.c (.ptr 0 0 0)) (vi 3)=some (.c (.ptr 0 3 0)):=fun _=>rfl
  have i4:∀ H,aP H 1 (some 5) (.c (.ptr 0 0 0)) (vi 4)=some (.c (.ptr 0 4 0)):=fun _=>rfl
  refine dN a0u rfl fun Q hQ=>?_
  refine kw_sr ?_;simp [M5.row];refine kw_seq (kw_sr ?_);simp [i4,r2];by_cases h0:r=0
  ·refine aj (by simp [h0]) (kw_sr ?_)
   simp [i0,rp,tN p (by omega)]
   refine aH (hQ _ _ _ ⟨⟨p,true,0,0,0⟩,⟨by dsimp only;omega,fun _=>⟨rfl,rfl,rfl⟩,fun h=>by cases h⟩,by dsimp only;omega,rfl⟩ ?_)
   simp [bG.row,exV,dG,aZ]
  ·refine ah (by simp [h0]) (aG (kw_sr ?_))
   simp [i0,i1,i2,i3,rp,rq,tN p (by omega),tN q (by omega),tN c (by omega),tN d (by omega),w5,w1]
   refine aH (hQ _ _ _ ⟨⟨p,false,q,(c:Int)*5,1+d⟩,⟨(by dsimp only;omega),fun h=>(by cases h),fun _=>(by dsimp only;omega)⟩,by dsimp only;omega,rfl⟩ ?_)
   simp [bG.row,exV,dG,aZ]
 exact⟨m,h1,h2,hp.eq⟩
def jZ(l:List M5):List (List FC):=l.map M5.row
@[simp] theorem aSK (l:List M5):(jZ l).length=l.length:=by simp [jZ]
theorem Md(l:List M5):Grid 5 (jZ l):=Grid.map fun _=>rfl
theorem Wp{l:List M5}{j:Nat}(hj:j<l.length):(jZ l)[j]?=some l[j].row:=by simp [jZ,hj]
theorem aS9{H:Heap}{g:Tg}{l:List M5}{j:Nat}(hj:j<l.length)(_:l.length≤9223372036854775807):aP H 5 none (.c (.f (sl g (jZ l)))) (vi j)=some (.c (.f (.fp (jZ l).flatten (j*5)))):=by
 have:=iq (H:=H) (g:=g) (rows:=jZ l) (sz:=5) (k:=.i64) (i:=(j:Int)) (by omega) (by simp;omega)
 simpa using this
theorem aYy{H:Heap}{l:List M5}{j:Nat}(hj:j<l.length):ldV H (some 5) (.c (.f (.fp (jZ l).flatten (j*5))))=some (.a (l[j].row.map .f)):=by
 have:=mM (H:=H) (rows:=jZ l) (j:=j) (sz:=5) (row:=l[j].row) (Md l) (Wp hj);simpa using this
structure yQ where
 ng:Tg
 no:List qm
 mi:Nat
 le:Nat
 gap:Nat
 fold:Nat
 mg:Tg
 mv:List M5
abbrev u16(n:Nat):FC:=.int .u16 n
def yQ.row(x:yQ):List FC:=[sl x.ng (iI x.no),u16 x.mi,u16 x.le,u8 x.gap,u8 x.fold,sl x.mg (jZ x.mv)]
structure yQ.OK(x:yQ):Prop where
 nl:x.no.length≤9223372036854775807
 no:∀ n ∈ x.no,n.OK
 mi:x.mi<65536
 le:x.le<65536
 gap:x.gap<256
 fold:x.fold<256
 ml:x.mv.length≤9223372036854775807
 mv:∀ m ∈ x.mv,m.OK
theorem Cm(n:Nat){m:Int}(hm:0<m):∃ a:Nat,(a:Int)<m∧bW .rem (.c (.f (.int .u16 n))) (.c (.f (.int .u16 m)))=some (.c (.f (.int .u16 a))):=by
 have h0:=Int.emod_nonneg (n:Int) (show m≠0 by omega)
 have h1:=Int.emod_lt_of_pos (n:Int) hm;refine⟨((n:Int) % m).toNat,by omega,?_⟩
 rw [vS (by omega),Int.tmod_eq_emod_of_nonneg (by omega),dg h0]
theorem dn.Eqv.near{a b:dn}(h:dn.Eqv a b)(k:b.zZ):a.zZ:=by
 have hrl:a.ru.length=b.ru.length:=by have:=congrArg List.length h.ru;simpa using this
 refine⟨⟨by rw [h.ru];exact k.ok.ru,by rw [hrl];exact k.ok.rl,by rw [h.mi];exact k.ok.mi,by rw [h.le];exact k.ok.le,by rw [h.zo];exact k.ok.zo,by rw [h.gap];exact k.ok.gap,by rw [h.fold];exact k.ok.fold,by rw [h.mv];exact k.ok.ml,by rw [h.mv];exact k.ok.ms,by rw [h.mv];exact k.ok.mo⟩,by rw [h.mv];exact k.ml,by rw [h.zo];exact k.zo,by rw [hrl];exact k.rl,by rw [h.le];exact k.le,by rw [h.mv];exact k.mo⟩
set_option maxHeartbeats 1000000 in
theorem V9{lJ:Nat}(hc:lJ=0∨lJ=2){x:yQ}(hx:x.OK) :
  ∃ s:dn,s.zZ∧Km.Pure tab.get Vk [.a (x.row.map .f),vi lJ]=Eq s.v:=by
 obtain⟨rr,⟨s,h1,rfl⟩,hp⟩:∃ rr,(∃ s:dn,s.zZ∧rr=s.v)∧Km.Pure tab.get Vk [.a (x.row.map .f),vi lJ] rr:=by
  obtain⟨r,hr,hrl,aYW⟩:=agN hc x.ng x.no hx.nl hx.no;have hxm:=hx.mi;have hxl:=hx.le;have hxg:=hx.gap;have hxf:=hx.fold;obtain⟨p,p1,rp⟩:=Cm x.mi (m:=1440) (by decide)
  obtain⟨q,q1,rq⟩:=Cm x.le (m:=2880) (by decide)
  obtain⟨ga,ga1,rga⟩:=l9 x.gap (m:=3) (by decide)
  obtain⟨fo,fo1,rfo⟩:=l9 x.fold (m:=3) (by decide)
  have w1:IntKind.i64.wrap (1+(q:Int))=1+q:=wrap64 (by omega) (by omega)
  refine dN a0v rfl fun Q hQ=>?_
  refine kw_sr ?_;simp [yQ.row];refine kw_sr ?_;simp [aYW,rp,rq,rga,rfo,tN p (by omega),tN q (by omega),tN ga (by omega),tN fo (by omega),w1]
  obtain⟨K0,hK0⟩:∃ K0:Heap,K0=[.box (x.row.map .f) 0,.box wR 0,.box ((dn.row ⟨r.tg,r.l,p,1+q,⟨#[122]⟩,ga,fo,.nil,[]⟩).map .f) 0]:=⟨_,rfl⟩
  have hn0:dn.zZ ⟨r.tg,r.l,p,1+q,⟨#[122]⟩,ga,fo,.nil,[]⟩:=
   ⟨⟨hr,by dsimp only;omega,by dsimp only;omega,by dsimp only;omega,by dsimp only;decide,by dsimp only;omega,by dsimp only;omega,by simp,List.Pairwise.nil,by simp⟩,by simp,rfl,hrl,by dsimp only;omega,by simp⟩
  have hk0:K0[0]?=some (.box (x.row.map .f) 0)∧K0[1]?=some (.box wR 0):=by rw [hK0];exact⟨rfl,rfl⟩
  have hk2:K0[2]?=some (.box ((dn.row ⟨r.tg,r.l,p,1+q,⟨#[122]⟩,ga,fo,.nil,[]⟩).map .f) 0):=by rw [hK0];rfl
  have eK:K0=[.box [.f (sl x.ng (iI x.no)),.f (u16 x.mi),.f (u16 x.le),.f (u8 x.gap),.f (u8 x.fold),.f (sl x.mg (jZ x.mv))] 0,.box [.f .aC,.f (fi 0),.f (fi 0),.f (.str ⟨#[]⟩),.f (fi 0),.f (fi 0),.f .aC] 0,
   .box [.f (sl r.tg (aI r.l)),.f (fi p),.f (fi (1+q)),.f (.str ⟨#[122]⟩),.f (fi ga),.f (fi fo),.f .aC] 0]:=by rw [hK0];rfl
  rw [←eK];refine kw_seq (kw_sr ?_);simp;obtain⟨N,hN⟩:∃ N,N=min x.mv.length 4:=⟨_,rfl⟩
  refine dU N (fun i t K=>∃ s:dn,s.zZ∧s.mv.length≤i∧(K[0]?=some (.box (x.row.map .f) 0)∧K[1]?=some (.box wR 0))∧K[2]?=some (.box (s.row.map .f) 0)∧t.g 2=.c (.ptr 0 0 0)∧t.g 4=.c (.ptr 1 0 0)∧t.g 5=.c (.ptr 2 0 0)) (by omega) (by decide) (by simp)
   ⟨_,hn0,by simp,hk0,hk2,by simp,by simp,by simp⟩ ?_ ?_ ?_
  ·rintro i t K L hi' ⟨s,hs,hsl,hk,hk2,g2,g4,g5⟩ ha hn;have h0:=hk.1;have l5:ldV K none (.c (.ptr 0 5 0))=some (.c (.f (sl x.mg (jZ x.mv)))):=by simp [ldV,h0,aF,aO,yQ.row]
   by_cases c1:(i:Int)<x.mv.length
   ·simp [ha,g2,l5,-ak,c1];exact hn _ ⟨s,hs,hsl,hk,hk2,by simp [g2],by simp [g4],by simp [g5]⟩ (by simp [ha]) (by simp;omega)
   ·simp [ha,g2,l5,-ak,c1];exact hn _ ⟨s,hs,hsl,hk,hk2,by simp [g2],by simp [g4],by simp [g5]⟩ (by simp [ha]) (by simp;omega)
  ·rintro i t K hi' ⟨s,hs,hsl,hk,hk2,g2,g4,g5⟩ ha nx;have h0:=hk.1;have l5:ldV K none (.c (.ptr 0 5 0))=some (.c (.f (sl x.mg (jZ x.mv)))):=by simp [ldV,h0,aF,aO,yQ.row]
   obtain⟨-,-,-,-,-,-,-,e8⟩:=oJ hk2;have hil:i<x.mv.length:=by omega
   obtain⟨y,hy⟩:∃ y,y=x.mv[i]:=⟨_,rfl⟩;obtain⟨m,hm,hmb,hmv⟩:=V6 (x:=y) (by rw [hy];exact hx.mv _ (aw hil))
   obtain⟨s2,hs2,hov⟩:=E5 hs.ok (by omega) hm
   have hol:=Ut (m:=m) hs.ok.ms
   have aYV:dn.zZ ⟨s.rg,s.ru,s.mi,s.le,s.zo,s.gap,s.fold,s.mg,ovr s.mv m⟩:=by
    have k:=hs.ok;refine⟨⟨k.ru,k.rl,k.mi,k.le,k.zo,k.gap,k.fold,by dsimp only;omega,Qj k.ms,fun z hz=>?_⟩,by dsimp only;omega,hs.zo,hs.rl,hs.le,fun z hz=>?_⟩
    ·rcases Us hz with rfl | hz
     ·exact hm
     ·exact k.mo z hz
    ·rcases Us hz with rfl | hz
     ·exact hmb
     ·exact hs.mo z hz
   have a5t:s2.mv.length≤i+1:=by rw [hs2.mv];dsimp only;omega
   have hl2:=aA hk2;obtain⟨K1,hK1⟩:∃ K1:Heap,K1=K++[.box (s2.row.map .f) 0]:=⟨_,rfl⟩;have hn1:K1[K.length]?=some (.box (s2.row.map .f) 0):=by rw [hK1];simp
   have hk1:(K1[0]?=some (.box (x.row.map .f) 0)∧K1[1]?=some (.box wR 0))∧K1[2]?=some (.box (s.row.map .f) 0):=by
    rw [hK1,ag (by omega),ag (by omega),ag (by omega)]
    exact⟨hk,hk2⟩
   obtain⟨-,-,-,-,-,-,-,e9⟩:=oJ hn1
   have st1:stC K1 (.ptr 2 0 0) (s2.row.map .f)=some (K1.set 2 (.box (s2.row.map .f) 0)):=by
    have:=hk1.2;simp [stC,this,over,dn.row]
   have hr7:(s2.row.map C.f).length=7:=rfl;have a5u:s2.row.length=7:=rfl;refine aB (kw_sr ?_);simp [g2,g5,e8,l5,-ak,ha,aS9 hil hx.ml,aYy hil,←hy,hmv,hov,hr7];rw [←hK1];refine kw_sr ?_;simp;refine aj (by simp) (kw_region (.inl rfl) ?_)
   simp [g5,e9,-ak,a5u,st1,-bJ];refine au ?_;refine nx _ _ ⟨s2,hs2.near aYV,a5t,?_,?_,by simp [g2],by simp [g4],by simp [g5]⟩ (by simp [ha])
   ·rw [am (by decide),am (by decide)];exact hk1.1
   ·exact az (aA hk1.2)
  ·rintro t K ⟨s,hs,hsl,hk,hk2,g2,g4,g5⟩ ha;obtain⟨-,-,-,-,-,-,-,e8⟩:=oJ hk2;have h1:=hk.2;have st1:stC K (.ptr 1 0 0) (s.row.map .f)=some (K.set 1 (.box (s.row.map .f) 0)):=by simp [stC,h1,over,dn.row,wR]
   obtain⟨K1,hK1⟩:∃ K1:Heap,K1=K.set 1 (.box (s.row.map .f) 0):=⟨_,rfl⟩;have hn1:K1[1]?=some (.box (s.row.map .f) 0):=by rw [hK1];exact az (aA h1)
   obtain⟨-,-,-,-,-,-,-,e9⟩:=oJ hn1;have hr7:s.row.length=7:=rfl;refine kw_sr ?_;simp [g4,g5,e8,-ak,st1,-bJ,hr7];rw [←hK1];refine aH (hQ _ _ _ ⟨s,hs,rfl⟩ ⟨rfl,s.v,?_,?_⟩)
   ·simp [Km.results,bT,aZ,g4,e9,-ak]
   ·simp [exV,dG]
 exact⟨s,h1,hp.eq⟩
end
section
theorem ahI(x:bG)(d:Int):Kf tab.get Ae [.a (x.row.map .f),vi d] (vi (rU x.day d)):=by
 refine yw aU7 rfl fun H Q hQ=>?_
 refine kw_sr ?_;simp [bG.row];refine kw_sr ?_;simp [xu];refine aH (hQ _ _ ?_);simp
def dayOf:List FC→Int
 | .int _ n::_=>n
 | _=>0
theorem qh(x:bG):dayOf x.row=x.day:=rfl
theorem bsM(g:Tg)(l:List bG)(hs:SortM l)(hl:l.length≤1000)(d:Int):∃(i:Nat) (w:Bool),i≤l.length∧(w=true→∃ h:i<l.length,eH l d=some l[i])∧(w=false→eH l d=none) ∧
  Km.Pure tab.get JX [.c (.f (sl g (aY l))),vi d,.c (.f (.fn Ae []))]=Eq (.t [vi i,vb w]):=by
 have hF:tab.get JX=some (ahK 5):=aU2;have hrow:∀(j:Nat) (hj:j<(aY l).length),(aY l)[j]=(l[j]'(by simpa using hj)).row:=fun j hj=>by simp [aY]
 obtain⟨i,h1,h2,h3,w,h4,h5⟩:=ahJ hF g (aY l) (dw l) (.c (.f (.fn Ae []))) (fi d) (fun r=>rU (dayOf r) d) (by simp;omega)
  (fun r hr=>by
   obtain⟨x,-,rfl⟩:=List.mem_map.1 hr
   exact⟨Ae,_,by simp [dh],ahI x d⟩)
  (fun i j hi hj h=>by
   have hjl:j<l.length:=by simpa using hj
   have hil:i<l.length:=by omega
   simp only [hrow,qh]at h ⊢;have:=bL.1 hs i j hil hjl hi;rw [BQ]at h;rw [MZ]
   omega)
 refine⟨i,w,by simpa using h1,fun hw=>?_,fun hw=>?_,h5⟩
 ·obtain⟨h,e⟩:=h4.1 hw;rw [hrow,qh,vP]at e;exact⟨by simpa using h,LZ hs (by simpa using h) e⟩
 ·refine L6 fun j hj e=>?_
  have hjr:j<(aY l).length:=by simpa using hj
  by_cases hji:j<i
  ·have:=h2 j hjr hji;rw [hrow,qh,uQ]at this;omega
  ·by_cases hij:i=j
   ·subst hij;have:w=true:=h4.2 ⟨hjr,by rw [hrow,qh,vP];exact e⟩
    rw [hw]at this;cases this
   ·have h6:=h3 i (by omega) (ax _)
    rw [hrow,qh,BQ]at h6;have:=bL.1 hs i j (by omega) hj (by omega)
    omega
theorem MG(l:List IsD)(x:IsD):fQ (l++[x])=fQ l++[x.row]:=by simp [fQ]
set_option maxHeartbeats 1000000 in
theorem aXX{z:ZD}{o:List TrD}(h:OKZ z o){s:dn}(hs:s.zZ){d:Int}(d0:0≤d)(d1:d≤300) :
  ∃ g,Km.Pure tab.get Ez [s.v,z.v,vi d]=Eq (.c (.f (sl g (fQ (onL h s d))))):=by
 obtain⟨rr,⟨g,rfl⟩,hp⟩:∃ rr,(∃ g,rr=.c (.f (sl g (fQ (onL h s d)))))∧Km.Pure tab.get Ez [s.v,z.v,vi d] rr:=by
  have hat:=hs.at_ d0 d1;have hmi:=hs.ok.mi;have aTj:=hs.ok.gap;have hfold:=hs.ok.fold;have hc:=h.c;obtain⟨i,w,hi,hw1,hw0,hbs⟩:=bsM s.mg s.mv hs.ok.ms (by have:=hs.ml;omega) d
  have hml:=hs.ml;refine dN aU5 rfl fun Q hQ=>?_
  refine kw_sr ?_;simp;obtain⟨K,hK⟩:∃ K:Heap,K=[.box (s.row.map .f) 0,.box (z.row.map .f) 0]:=⟨_,rfl⟩;have b0:K[0]?=some (.box (s.row.map .f) 0):=by rw [hK];rfl
  have b1:K[1]?=some (.box (z.row.map .f) 0):=by rw [hK];rfl
  rw [←hK];clear hK;obtain⟨-,e1,e2,-,e4,e5,e6,-⟩:=oJ b0;have w1:IntKind.i64.wrap (d*1440)=d*1440:=wrap64 (by omega) (by omega)
  have w2:IntKind.i64.wrap (d*1440+s.mi)=d*1440+s.mi:=wrap64 (by omega) (by omega)
  refine kw_sr ?_;simp [e1,e2,-ak,w1,w2];refine kw_seq (kw_sr ?_);simp [e6,-ak,hbs]
  have tail:∀(t:T) (H:Heap) (L:Int),s.dropped d=false→s.long d=L→H[0]?=some (.box (s.row.map .f) 0)→H[1]?=some (.box (z.row.map .f) 0)→t.g 2=vi d→t.g 3=.c (.ptr 0 0 0)→t.g 4=.c (.ptr 1 0 0)→t.g 7=vi (s.at_ d)→t.g 8=vi L →
    WP tab.get Ez none [.code Ij] ⟨t,[],H⟩ Q:=by
   intro t H L hdr hL b0 b1 g2 g3 g4 g7 g8;obtain⟨-,e1,e2,-,e4,e5,e6,-⟩:=oJ b0;obtain⟨tg,hin⟩:=aHx h hat.1 hat.2 aTj.1 aTj.2 hfold.1 hfold.2;obtain⟨I,hI⟩:∃ I,I=zK h (s.at_ d) s.gap s.fold:=⟨_,rfl⟩;have hIl:=Gt h hat.1 hat.2 (gap:=s.gap) hfold.1 hfold.2;have hIb:=UJ h hat.1 hat.2 (gap:=s.gap) (fold:=s.fold);have hlo:=hs.long d hdr;rw [hL]at hlo;have hon:onL h s d=I.map fun a=>⟨d,a,a+L⟩:=by unfold onL;rw [hdr,if_neg (by decide),←hI,hL]
   rw [←hI]at hin hIl hIb;have z8:ldV H (some 8) (.c (.ptr 1 0 0))=some z.v:=iL b1 hc;refine kw_sr ?_;simp [g3,g4,g7,z8,e4,e5,-ak,hin];refine kw_sr ?_;simp;have hsl:bQ H (.f (sl tg (dK I)))=some I.length:=by simpa using zG (H:=H) tg (dK I)
   refine kw_seq (kw_sr ?_);simp [hsl]
   refine kV I.length (fun j t K=>∃ c,t.g 2=vi d∧t.g 8=vi L∧t.g 57=.c (.f (sl tg (dK I)))∧t.g 14=.c c∧LR K c 3 (fQ ((I.take j).map fun a=>⟨d,a,a+L⟩))) (by omega) (by decide) (by decide) (by simp) (by simp)
    ⟨.f .aC,by simp [g2],by simp [g8],by simp,by simp,.inl ⟨rfl,.inl rfl⟩⟩ ?_ ?_
   ·rintro j t K hj ⟨c,g2,g8,g57,g14,hLR⟩ ha hb nx;obtain⟨a,hae⟩:∃ a,a=I[j]:=⟨_,rfl⟩;have hab:=hIb _ (aw hj);rw [←hae]at hab
    have ix:aP K 1 none (.c (.f (sl tg (dK I)))) (vi j)=some (.c (.f (.fp (dK I).flatten j))):=by
     have:=iq (H:=K) (g:=tg) (rows:=dK I) (sz:=1) (k:=.i64) (i:=(j:Int)) (by omega) (by simp;omega)
     simpa using this
    have lx:ldV K none (.c (.f (.fp (dK I).flatten j)))=some (vi a):=by rw [hae];exact rJ hj
    have wa:IntKind.i64.wrap (a+L)=a+L:=wrap64 (by omega) (by omega)
    obtain⟨K1,hK1⟩:∃ K1:Heap,K1=K++[.box ((IsD.row ⟨d,a,a+L⟩).map .f) 0]:=⟨_,rfl⟩;have hL1:LR K1 c 3 (fQ ((I.take j).map fun a=>⟨d,a,a+L⟩)):=by rw [hK1];exact hLR.push _
    have hb1:K1[K.length]?=some (.box ((IsD.row ⟨d,a,a+L⟩).map .f) 0):=by rw [hK1];simp
    obtain⟨c',H',happ,hL',hK',hc'⟩:=hL1.app (lH _) (by decide) (row:=IsD.row ⟨d,a,a+L⟩) rfl (bytes:=24) (fB (by simp;omega) (by decide)) hb1
    simp only [IsD.row,aM,ba]at hK1;refine aB (kw_sr ?_);simp [g57,ha,ix,lx];refine kw_region (.inl rfl) ?_;simp [g2,g8,g14,wa];rw [←hK1];simp [happ];refine au ?_;refine nx _ _ ⟨c',by simp [g2],by simp [g8],by simp [g57],by simp,?_⟩ (by simp [ha]) (by simp [hb])
    rw [aR hj,←hae,List.map_append];simp only [aM,ba];rw [MG];exact hL'
   ·rintro t K ⟨c,g2,g8,g57,g14,hLR⟩ ha hb;rw [cm,←hon]at hLR;obtain⟨g',hx⟩:=Je hLR (lH _);refine kw_sr ?_;simp [g14];refine aH (hQ _ _ _ ⟨g',rfl⟩ ⟨rfl,.c c,?_,?_⟩)
    ·simp [Km.results,bT,aZ]
    ·simp [exV,dG,hx]
  cases w
  ·have hm:=hw0 rfl;have hdr:s.dropped d=false:=by rw [D6,hm];rfl
   refine kw_sr ?_;simp;refine bD (by simp) ?_
   refine tail _ _ s.le hdr (by rw [Jg,hm];rfl) b0 b1 (by simp) (by simp) (by simp) ?_ (by simp)
   rw [aIu,hm];simp [atO]
  ·obtain⟨hil,hm⟩:=hw1 rfl;obtain⟨m,hme⟩:∃ m,m=s.mv[i]:=⟨_,rfl⟩;rw [←hme]at hm;have aHI:=hs.ok.mo m (by rw [hme];exact aw hil)
   have hmb:=hs.mo m (by rw [hme];exact aw hil)
   have hix:=DR (H:=K) (g:=s.mg) hil (by omega)
   have hld:=MF (H:=K) hil;rw [←hme]at hld;refine kw_sr ?_;simp;refine aj (by simp) (kw_sr ?_)
   have hr5:m.row.length=5:=rfl;simp [e6,-ak,hix,hld,hr5];obtain⟨K1,hK1⟩:∃ K1:Heap,K1=K++[.box (m.row.map .f) 0]:=⟨_,rfl⟩;have c0:K1[0]?=some (.box (s.row.map .f) 0):=by rw [hK1,ag (aA b0)];exact b0
   have c1:K1[1]?=some (.box (z.row.map .f) 0):=by rw [hK1,ag (aA b1)];exact b1
   have c2:K1[K.length]?=some (.box (m.row.map .f) 0):=by rw [hK1];simp
   have f1:ldV K1 none (.c (.ptr K.length 1 0))=some (vb m.drop):=by simp [ldV,c2,aF,aO,bG.row]
   have f2:ldV K1 none (.c (.ptr K.length 2 0))=some (vi m.to):=by simp [ldV,c2,aF,aO,bG.row]
   have f3:ldV K1 none (.c (.ptr K.length 3 0))=some (vi m.mi):=by simp [ldV,c2,aF,aO,bG.row]
   have f4:ldV K1 none (.c (.ptr K.length 4 0))=some (vi m.le):=by simp [ldV,c2,aF,aO,bG.row]
   rw [←hK1];refine kw_seq (kw_sr ?_);simp [f1,-ak];cases hdr:m.drop
   ·have hdr':s.dropped d=false:=by rw [D6,hm];exact hdr
    have hnd:=aHI.nd hdr;have wA:IntKind.i64.wrap (m.to*1440)=m.to*1440:=wrap64 (by omega) (by omega)
    have wB:IntKind.i64.wrap (m.to*1440+m.mi)=m.to*1440+m.mi:=wrap64 (by omega) (by omega)
    refine ah (by simp [hdr]) (aG (kw_region (.inl rfl) ?_))
    simp [f2,f3,f4,-ak,wA,wB];refine tail _ _ m.le hdr' (by rw [Jg,hm];rfl) c0 c1 (by simp) (by simp) (by simp) ?_ (by simp)
    rw [aIu,hm];simp [atO]
   ·have hdr':s.dropped d=true:=by rw [D6,hm];exact hdr
    refine aj (by simp [hdr]) (kw_sr ?_)
    simp;refine aH (hQ _ _ _ ⟨.nil,rfl⟩ ?_);have:onL h s d=[]:=by unfold onL;rw [if_pos hdr']
    rw [this];simp [sl,fQ,Tg.fc]
 exact⟨g,hp.eq⟩
theorem a01{z:ZD}{o:List TrD}(h:OKZ z o){s:dn}(hs:s.zZ){d:Int}(d0:0≤d)(d1:d≤300) :
  ∃ g,Km.Pure tab.get RN [s.v,z.v,vi d]=Eq (.t [.c (.f (sl g (fQ (onL h s d)))),vi 0]):=by
 obtain⟨g,hon⟩:=aXX h hs d0 d1;refine⟨g,Km.Pure.eq ?_⟩;have ahd:=afw hs.ok.ru hs.ok.rl (by have:=hs.ml;omega) (by have:=hs.ok.zo;omega)
 rw [hs.ok.sound]at ahd;have hzv:=Vw h;have hc:=h.c;have hw:=CJ d 0 1099511627776;rw [show decide (0≤d∧d≤1099511627776)=true from decide_eq_true (by omega)]at hw
 refine bU aU8 rfl fun Q hQ=>?_
 refine kw_sr ?_;simp;obtain⟨K,hK⟩:∃ K:Heap,K=[.box (s.row.map .f) 0,.box (z.row.map .f) 0]:=⟨_,rfl⟩;have b0:K[0]?=some (.box (s.row.map .f) 0):=by rw [hK];rfl
 have b1:K[1]?=some (.box (z.row.map .f) 0):=by rw [hK];rfl
 rw [←hK];clear hK;obtain⟨-,-,-,-,-,-,-,e7⟩:=oJ b0;have z8:ldV K (some 8) (.c (.ptr 1 0 0))=some z.v:=iL b1 hc;refine kw_seq (kw_sr ?_);simp [e7,z8,-ak,ahd,hzv,hw];refine bD (by simp) ?_
 refine kw_sr ?_;simp [e7,z8,-ak,hon];refine aH (hQ _ _ ?_);simp
theorem WG{z:ZD}{o:List TrD}(h:OKZ z o){lo:Int}(l0:0≤lo)(l1:lo≤460000){l:List Int}(hp:l.Pairwise (· < ·))(hA:∀ a,a ∈ l↔iK h lo a):l=oU h lo:=
 aEZ hp (aHz h l0 l1) fun a=>by rw [hA,ag6 h l0 l1]
def yu(n:Nat):Int:=if n=0 then 1 else if n=1 then 0 else 2
theorem aHv{z:ZD}{o:List TrD}(h:OKZ z o){lo:Int}(l0:0≤lo)(l1:lo≤460000) :
  Km.Pure tab.get RF [z.v,vi lo]=Eq (.t [vi (yu (oU h lo).length),vi 0]):=Km.Pure.eq (by
 obtain⟨g,hop⟩:=BJ h;obtain⟨l,tg,e,b,hl,hpw,hA,heb,hin⟩:=AV h g l0 l1;have hc:=h.c;rw [←WG h l0 l1 hpw hA];refine bU aUD rfl fun Q hQ=>?_
 refine kw_sr ?_;simp;obtain⟨H0,hH0⟩:∃ H0:Heap,H0=[.box (z.row.map .f) 0]:=⟨_,rfl⟩;rw [←hH0];have z0:H0[0]?=some (.box (z.row.map .f) 0):=by rw [hH0];rfl
 clear hH0;refine kw_sr ?_;simp [iL z0 hc,-ak,hop];refine kw_seq (kw_sr ?_);simp [Aq (n:=lo) (m:=2251799813684168) (by decide) (by decide) (by omega) (by omega)]
 refine bD (by simp) ?_
 refine kw_sr ?_;simp [hin];have hsl:bQ H0 (.f (sl tg (dK l)))=some l.length:=by simpa using zG (H:=H0) tg (dK l)
 have hn:l.length=0∨l.length=1∨l.length=2:=by omega
 refine kw_sr ?_;rcases hn with e | e | e
 ·have hk:yu l.length=1:=by rw [e];rfl
  rw [hk]at hQ;simp [hsl,e,nT,fU,aO];refine aH (hQ _ _ ?_);simp
 ·have hk:yu l.length=0:=by rw [e];rfl
  rw [hk]at hQ;simp [hsl,e,nT,fU,aO];refine aH (hQ _ _ ?_);simp
 ·have hk:yu l.length=2:=by rw [e];rfl
  rw [hk]at hQ;simp [hsl,e,nT,fU,aO];refine aH (hQ _ _ ?_)
  simp)
end
section
theorem ZI.aPy{x:kY}{cs:List C}{c:Nat}{s h:Int}{tr:List TrD}{ct:C}{cy:C}{t:T}{J:Heap}(k:ZI x cs c s h tr ct [] cy t J)(hcy:bf cy=none)(hl:tr.length≤2)(q:TrD) :
  ∃ c3 H3,dI (J++[.box (q.row.map .f) 0]) 2 16 (.c ct) (.c (.sl J.length 0 1 1 0 2))=some (.c c3,H3)∧stC H3 (.ptr 3 5 0) [c3]=some (H3.set 3 (tK cs s c3 h cy)) ∧
   ∀ t',t'.g 1=.c (.ptr 0 0 0)→t'.g 2=.c (.ptr 1 0 0)→t'.g 3=.c (.ptr 3 0 0)→ZI x cs c s h (tr++[q]) c3 [] cy t' (H3.set 3 (tK cs s c3 h cy)):=by
 obtain⟨J2,hJ2⟩:∃ J2:Heap,J2=J++[.box (q.row.map .f) 0]:=⟨_,rfl⟩;rw [←hJ2];have up:∀ i y,J[i]?=some y→J2[i]?=some y:=fun i y hy=>by rw [hJ2,ag (aA hy)];exact hy
 have hL2:LR J2 ct 2 (aS tr):=by rw [hJ2];exact k.lt.push _
 have hb2:J2[J.length]?=some (.box (q.row.map .f) 0):=by rw [hJ2];simp
 obtain⟨c3,H3,happ,hL3,hK3,hc3⟩:=hL2.app (dD tr) (by decide) (row:=q.row) rfl (bytes:=16) (fB (by simp;omega) (by decide)) hb2
 have up3:∀(i:Nat) (cs:List C) (fl:Nat),J[i]?=some (.box cs fl)→H3[i]?=some (.box cs fl):=fun i cs fl hy=>hK3.2 i _ (up _ _ hy) (hL2.eG (up _ _ hy))
 have fD:lS H3 cs c:=k.cal.keep' fun i l fl h _=>⟨fl,up3 i l fl h⟩
 have hzb:=up3 _ _ _ k.zb;have e3:aS tr++[q.row]=aS (tr++[q]):=by simp [aS]
 rw [e3]at hL3;refine⟨c3,H3,happ,aVD fD hzb,fun t' g1 g2 g3=>?_⟩
 refine⟨?_,?_,?_,?_,?_,?_,?_,g1,g2,g3⟩
 ·rw [am (by decide)];exact up3 _ _ _ k.raw
 ·rw [am (by decide)];exact up3 _ _ _ k.res
 ·exact fD.keep fun i y hy hi=>by rw [am (by omega)];exact hy
 ·exact az (aA hzb)
 ·exact hL3.set (hL3.eG hzb) _
 ·rcases k.ly with⟨h1,h2⟩ | ⟨h1,-⟩
  ·exact .inl ⟨h1,h2⟩
  ·exact absurd rfl h1
 ·intro i _;rw [hcy];exact fun e=>by cases e
theorem made1{x:kY}(hx:x.OK){cs:List C}{c:Nat}{s:Int}{t:T}{J:Heap}(k:ZI x cs c s 0 [] (.f .aC) [] (.f .aC) t J){Q:Option ACode→St→Prop}
  (next:∀(t:T) (J:Heap) (tr:List TrD) (ct:C) (h:Int),ZI x cs c s h tr ct [] (.f .aC) t J→tr.length≤3→(∀ y ∈ tr,0≤y.at_∧y.at_<h∧-1080≤y.off∧y.off≤1080)→(∀(i:Nat) a b,tr[i]?=some a→tr[i+1]?=some b→a.at_+2160≤b.at_)→0≤h∧h≤40000 →
   WP tab.get uX none [.code EJ] ⟨t,[],J⟩ Q) :
  WP tab.get uX none [.code JZ] ⟨t,[],J⟩ Q:=by
 obtain⟨N,hN⟩:∃ N,N=min (min x.gaps.length x.Dn.length) 3:=⟨_,rfl⟩;refine kw_sr ?_;simp;refine kw_seq (kw_sr ?_);simp
 refine dU N (fun j t J=>∃ tr ct at_,tr.length=j∧TrP tr at_∧ZI x cs c s 0 tr ct [] (.f .aC) t J∧t.g 4=vi at_) (by omega) (by decide) (by simp)
  ⟨[],.f .aC,0,rfl,TrP.nil,⟨k.raw,k.res,k.cal,k.zb,k.lt,k.ly,k.ne,by simp [k.g1],by simp [k.g2],by simp [k.g3]⟩,by simp⟩ ?_ ?_ ?_
 ·rintro j t J L hj ⟨tr,ct,at_,htl,hT,k,g4⟩ ha hn;have hgl:=hx.gl;have hol:=hx.ol;have l1:=Ua k.raw;have l2:=TY k.raw
  have hn':∀ t',t'.g 1=t.g 1→t'.g 2=t.g 2→t'.g 3=t.g 3→t'.g 4=t.g 4→t'.g 5=t.g 5→t'.g 43=vb (decide ((j:Int)<(N:Int)))→L ⟨t',[],J⟩:=fun t' e1 e2 e3 e4 e5 e43=>
   hn t' ⟨tr,ct,at_,htl,hT,⟨k.raw,k.res,k.cal,k.zb,k.lt,k.ly,k.ne,by rw [e1];exact k.g1,by rw [e2];exact k.g2,by rw [e3];exact k.g3⟩,by rw [e4];exact g4⟩ (by rw [e5];exact ha) e43
  by_cases c1:(j:Int)<x.gaps.length
  ·by_cases c2:(j:Int)<x.Dn.length
   ·simp [k.g1,ha,l1,l2,-ak,c1,c2];exact hn' _ (by simp [k.g1]) (by simp [k.g2]) (by simp [k.g3]) (by simp) (by simp) (by simp;omega)
   ·simp [k.g1,ha,l1,l2,-ak,c1,c2];exact hn' _ (by simp [k.g1]) (by simp [k.g2]) (by simp [k.g3]) (by simp) (by simp) (by simp;omega)
  ·simp [k.g1,ha,l1,l2,-ak,c1];exact hn' _ (by simp [k.g1]) (by simp [k.g2]) (by simp [k.g3]) (by simp) (by simp) (by simp;omega)
 ·rintro j t J hj ⟨tr,ct,at_,htl,hT,k,g4⟩ ha nx;have hg:j<x.gaps.length:=by omega
  have ho:j<x.Dn.length:=by omega
  have bg:=hx.ga _ (aw hg);have bo:=hx.of _ (aw ho);have hlo:=hT.lo;have l1:=Ua k.raw;have l2:=TY k.raw;have i1:=zM (g:=x.gg) hg (H:=J);have i2:=zM (g:=x.og) ho (H:=J);have d1:=DI hg (H:=J);have d2:=DI ho (H:=J);have w1:IntKind.i64.wrap (at_+2160)=at_+2160:=wrap64 (by omega) (by omega)
  have w2:IntKind.i64.wrap ((x.gaps[j]:Nat):Int)=((x.gaps[j]:Nat):Int):=wrap64 (by omega) (by omega)
  have w3:IntKind.i64.wrap (20*((x.gaps[j]:Nat):Int))=20*((x.gaps[j]:Nat):Int):=wrap64 (by omega) (by omega)
  have w4:IntKind.i64.wrap (at_+2160+20*((x.gaps[j]:Nat):Int))=at_+2160+20*((x.gaps[j]:Nat):Int):=wrap64 (by omega) (by omega)
  have hso:=IG bo;obtain⟨c3,H3,happ,hst,hk⟩:=k.aPy rfl (by omega) ⟨at_+2160+20*((x.gaps[j]:Nat):Int),su x.Dn[j]⟩
  simp only [TrD.row,aM,ba]at happ;refine aB (kw_sr ?_);simp [k.g1,g4,ha,l1,i1,d1,-ak,w1,w2,w3,w4];refine kw_region (.inl rfl) ?_;simp [k.g1,k.g3,ha,l2,i2,d2,-ak,hso,aVF k.cal k.zb,happ,hst,-bJ];refine au ?_;refine nx _ _ ⟨_,_,_,by simp;omega,hT.app (by omega) bg (m:=x.Dn[j]),hk _ (by simp [k.g1]) (by simp [k.g2]) (by simp [k.g3]),by simp⟩ (by simp [ha])
 rintro t J ⟨tr,ct,at_,htl,hT,k,g4⟩ ha;have hlo:=hT.lo;have bb:=hx.be;have l3:=aVV k.raw;have w1:IntKind.i64.wrap (at_+2160)=at_+2160:=wrap64 (by omega) (by omega)
 have w2:IntKind.i64.wrap ((x.be:Nat):Int)=((x.be:Nat):Int):=wrap64 (by omega) (by omega)
 have w3:IntKind.i64.wrap (20*((x.be:Nat):Int))=20*((x.be:Nat):Int):=wrap64 (by omega) (by omega)
 have w4:IntKind.i64.wrap (at_+2160+20*((x.be:Nat):Int))=at_+2160+20*((x.be:Nat):Int):=wrap64 (by omega) (by omega)
 refine kw_sr ?_;simp [k.g1,k.g3,g4,l3,-ak,w1,w2,w3,w4,aVE k.cal k.zb,-bJ];refine next _ _ tr ct (at_+2160+20*((x.be:Nat):Int)) ⟨?_,?_,?_,?_,?_,?_,k.ne,by simp [k.g1],by simp [k.g2],by simp [k.g3]⟩ hT.tl (fun y hy=>by have:=hT.tb y hy;omega) hT.ts (by omega)
 ·rw [am (by decide)];exact k.raw
 ·rw [am (by decide)];exact k.res
 ·exact k.cal.keep fun i y hy hi=>by rw [am (by omega)];exact hy
 ·exact az (aA k.zb)
 ·exact k.lt.set (k.lt.eG k.zb) _
 ·exact k.ly.set (k.ly.eG k.zb) _
end
section
theorem ZI.aPu{x:kY}{cs:List C}{c:Nat}{s h:Int}{tr:List TrD}{ct:C}{yr:List YrD}{cy:C}{t:T}{J:Heap}(k:ZI x cs c s h tr ct yr cy t J)(hl:yr.length≤2)(q:YrD) :
  ∃ c3 H3,dI (J++[.box (q.row.map .f) 0]) 5 40 (.c cy) (.c (.sl J.length 0 1 1 0 5))=some (.c c3,H3)∧stC H3 (.ptr 3 7 0) [c3]=some (H3.set 3 (tK cs s ct h c3)) ∧
   (∀(b:Nat) (l:List C) (fl:Nat),J[b]?=some (.box l fl)→b≠3→(H3.set 3 (tK cs s ct h c3))[b]?=some (.box l fl)) ∧
   ∀ t',t'.g 1=.c (.ptr 0 0 0)→t'.g 2=.c (.ptr 1 0 0)→t'.g 3=.c (.ptr 3 0 0)→ZI x cs c s h tr ct (yr++[q]) c3 t' (H3.set 3 (tK cs s ct h c3)):=by
 obtain⟨J2,hJ2⟩:∃ J2:Heap,J2=J++[.box (q.row.map .f) 0]:=⟨_,rfl⟩;rw [←hJ2];have up:∀ i y,J[i]?=some y→J2[i]?=some y:=fun i y hy=>by rw [hJ2,ag (aA hy)];exact hy
 have hL2:LR J2 cy 5 (bV yr):=by rw [hJ2];exact k.ly.push _
 have hb2:J2[J.length]?=some (.box (q.row.map .f) 0):=by rw [hJ2];simp
 obtain⟨c3,H3,happ,hL3,hK3,hc3⟩:=hL2.app (oz yr) (by decide) (row:=q.row) rfl (bytes:=40) (fB (by simp;omega) (by decide)) hb2
 have up3:∀(i:Nat) (cs:List C) (fl:Nat),J[i]?=some (.box cs fl)→H3[i]?=some (.box cs fl):=fun i cs fl hy=>hK3.2 i _ (up _ _ hy) (hL2.eG (up _ _ hy))
 have fD:lS H3 cs c:=k.cal.keep' fun i l fl h _=>⟨fl,up3 i l fl h⟩
 have hzb:=up3 _ _ _ k.zb;have e3:bV yr++[q.row]=bV (yr++[q]):=by simp [bV]
 rw [e3]at hL3;have hLt:LR H3 ct 2 (aS tr):=k.lt.keep fun i y hy hi=>hK3.2 i y (up _ _ hy) (k.ne i hi)
 refine⟨c3,H3,happ,aOX fD hzb,fun b l fl hb hb3=>by rw [am (Ne.symm hb3)];exact up3 _ _ _ hb,fun t' g1 g2 g3=>?_⟩
 refine⟨?_,?_,?_,?_,?_,?_,?_,g1,g2,g3⟩
 ·rw [am (by decide)];exact up3 _ _ _ k.raw
 ·rw [am (by decide)];exact up3 _ _ _ k.res
 ·exact fD.keep fun i y hy hi=>by rw [am (by omega)];exact hy
 ·exact az (aA hzb)
 ·exact hLt.set (hLt.eG hzb) _
 ·exact hL3.set (hL3.eG hzb) _
 ·intro i hi;rcases hc3 with e | e
  ·rw [e];exact k.ne i hi
  ·rw [e];intro e';cases e';have:=k.lt.lt hi;have h2:J2.length=J.length+1:=by rw [hJ2];simp
   omega
theorem ZI.aPt{x:kY}{cs:List C}{c:Nat}{s h:Int}{tr:List TrD}{ct:C}{yr:List YrD}{q:YrD}{cy:C}{t:T}{J:Heap}(k:ZI x cs c s h tr ct (yr++[q]) cy t J)(hl:yr.length≤1) :
  ∃ b ep H3,aP J 5 none (.c cy) (vi yr.length)=some (.c (.ptr b (yr.length*5) ep))∧stC J (.ptr b (yr.length*5+1) ep) [.f (fi 5)]=some H3 ∧
   ∀ t',t'.g 1=.c (.ptr 0 0 0)→t'.g 2=.c (.ptr 1 0 0)→t'.g 3=.c (.ptr 3 0 0)→ZI x cs c s h tr ct (yr++[⟨q.mo,5,q.wd,q.mi,q.off⟩]) cy t' H3:=by
 rcases k.ly with⟨h1,_⟩ | ⟨_,b,ep,e,hb⟩
 ·simp [bV]at h1
 subst e;unfold RB at hb
 have hbx:∀(i:Nat) (l:List C) (fl:Nat),J[i]?=some (.box l fl)→b≠i:=by
  rintro i l fl hi rfl;rw [hb]at hi;cases hi
 have hbt:bf ct≠some b:=fun e=>k.ne b e rfl
 have key:∃ cs',stC J (.ptr b (yr.length*5+1) ep) [.f (fi 5)]=some (J.set b (.opn 5 cs' 0 ep .loc))∧cs'=(bV (yr++[⟨q.mo,5,q.wd,q.mi,q.off⟩])).flatten.map .f:=by
  match yr,hl,hb with
  | [],_,hb=>exact⟨_,by simp [stC,hb,over,bV,YrD.row];rfl,by simp [bV,YrD.row]⟩
  | [p],_,hb=>exact⟨_,by simp [stC,hb,over,bV,YrD.row];rfl,by simp [bV,YrD.row]⟩
  | _::_::_,hl,_=>simp at hl
 obtain⟨cs',hst,hcs⟩:=key;refine⟨b,ep,_,?_,hst,fun t' g1 g2 g3=>?_⟩
 ·simp [aP,fU,hb];omega
 refine⟨?_,?_,?_,?_,?_,?_,?_,g1,g2,g3⟩
 ·rw [am (hbx _ _ _ k.raw)];exact k.raw
 ·rw [am (hbx _ _ _ k.res)];exact k.res
 ·exact k.cal.keep' fun i l fl h _=>⟨fl,by rw [am (hbx _ _ _ h)];exact h⟩
 ·rw [am (hbx _ _ _ k.zb)];exact k.zb
 ·exact k.lt.set hbt _
 ·refine .inr ⟨by simp [bV],b,ep,?_,?_⟩
  ·simp
  ·unfold RB;rw [az (aA hb),hcs]
 ·exact k.ne
end
section
theorem aYr{x:kY}(hx:x.OK){cs:List C}{c:Nat}{s h:Int}{tr:List TrD}{ct:C}{yr:List YrD}{cy:C}{t:T}{J:Heap}(k:ZI x cs c s h tr ct yr cy t J){j:Nat}(hj:j<2)(hjl:yr.length=j)(g6:t.g 6=vi j){K:List AItem}{Q:Option ACode→St→Prop}
  (next:∀(t:T) (J:Heap) (q:YrD) (cy:C),q.OK→ZI x cs c s h tr ct (yr++[q]) cy t J→t.g 6=vi j→WP tab.get uX none K ⟨t,[],J⟩ Q) :
  WP tab.get uX none (.code OA::K) ⟨t,[],J⟩ Q:=by
 have y0:=hx.y j 0 hj (by decide)
 have y1:=hx.y j 1 hj (by decide)
 have y2:=hx.y j 2 hj (by decide)
 have y3:=hx.y j 3 hj (by decide)
 have lr:=a3m k.raw hj;have hib:aP J 4 (some 2) (.c (.ptr 0 4 0)) (vi j)=some (.c (.ptr 0 (4+j*4) 0)):=by simp [aP,fU];omega
 refine aB (kw_sr ?_);simp [k.g1,g6,hib,lr,-ak];obtain⟨J1,hJ1⟩:∃ J1:Heap,J1=J++[.box [.f (u8 (x.y j 0)),.f (u8 (x.y j 1)),.f (u8 (x.y j 2)),.f (u8 (x.y j 3))] 0]:=⟨_,rfl⟩;rw [←hJ1];have up:∀ i y,J[i]?=some y→J1[i]?=some y:=fun i y hy=>by rw [hJ1,ag (aA hy)];exact hy
 have eb:J1[J.length]?=some (.box [.f (u8 (x.y j 0)),.f (u8 (x.y j 1)),.f (u8 (x.y j 2)),.f (u8 (x.y j 3))] 0):=by rw [hJ1];simp
 have k1:∀ t',t'.g 1=.c (.ptr 0 0 0)→t'.g 2=.c (.ptr 1 0 0)→t'.g 3=.c (.ptr 3 0 0)→ZI x cs c s h tr ct yr cy t' J1:=fun t' g1 g2 g3=>
  ⟨up _ _ k.raw,up _ _ k.res,k.cal.keep fun i y hy _=>up i y hy,up _ _ k.zb,by rw [hJ1];exact k.lt.push _,by rw [hJ1];exact k.ly.push _,k.ne,g1,g2,g3⟩
 have n3:J.length≠3:=by have:=aA k.zb;omega
 have k1':=k1 t k.g1 k.g2 k.g3;have l0:ldV J1 none (.c (.ptr J.length 0 0))=some (.c (.f (u8 (x.y j 0)))):=by simp [ldV,aF,eb,aO]
 have l1:ldV J1 none (.c (.ptr J.length 1 0))=some (.c (.f (u8 (x.y j 1)))):=by simp [ldV,aF,eb,aO]
 have l2:ldV J1 none (.c (.ptr J.length 2 0))=some (.c (.f (u8 (x.y j 2)))):=by simp [ldV,aF,eb,aO]
 have i0:aP J1 1 (some 4) (.c (.ptr J.length 0 0)) (vi 0)=some (.c (.ptr J.length 0 0)):=by simp [aP,fU]
 have i1:aP J1 1 (some 4) (.c (.ptr J.length 0 0)) (vi 1)=some (.c (.ptr J.length 1 0)):=by simp [aP,fU]
 have i2:aP J1 1 (some 4) (.c (.ptr J.length 0 0)) (vi 2)=some (.c (.ptr J.length 2 0)):=by simp [aP,fU]
 have r0:bW .rem (.c (.f (u8 (x.y j 0)))) (.c (.f (.int .u8 3)))=some (.c (.f (u8 (x.y j 0 % 3)))):=Cj _ (by decide)
 have r2:bW .rem (.c (.f (u8 (x.y j 2)))) (.c (.f (.int .u8 5)))=some (.c (.f (u8 (x.y j 2 % 5)))):=Cj _ (by decide)
 have r3:bW .rem (.c (.f (u8 (x.y j 3)))) (.c (.f (.int .u8 2)))=some (.c (.f (u8 (x.y j 3 % 2)))):=Cj _ (by decide)
 have hso:=IG (n:=x.y j 2 % 5) (by omega)
 have w0:IntKind.i64.wrap (1+(j:Int))=1+(j:Int):=wrap64 (by omega) (by omega)
 have w1:IntKind.i64.wrap ((x.y j 0:Int) % 3)=(x.y j 0:Int) % 3:=wrap64 (by omega) (by omega)
 have w2:IntKind.i64.wrap ((x.y j 1:Nat):Int)=((x.y j 1:Nat):Int):=wrap64 (by omega) (by omega)
 have w3:IntKind.i64.wrap (((x.y j 1:Nat):Int)*5)=((x.y j 1:Nat):Int)*5:=wrap64 (by omega) (by omega)
 obtain⟨c3,H3,happ,hst,hbk,hk⟩:=k1'.aPu (by omega) ⟨1+(j:Int),1,(x.y j 0:Int) % 3,((x.y j 1:Nat):Int)*5,su (x.y j 2 % 5)⟩
 have hq1:YrD.OK ⟨1+(j:Int),1,(x.y j 0:Int) % 3,((x.y j 1:Nat):Int)*5,su (x.y j 2 % 5)⟩:=
  ⟨by simp only;omega,.inl rfl,by simp only;omega,by simp only;omega,by simp only;omega,by simp only;omega,(pF _).1,(pF _).2⟩
 have hq5:YrD.OK ⟨1+(j:Int),5,(x.y j 0:Int) % 3,((x.y j 1:Nat):Int)*5,su (x.y j 2 % 5)⟩:=
  ⟨by simp only;omega,.inr rfl,by simp only;omega,by simp only;omega,by simp only;omega,by simp only;omega,(pF _).1,(pF _).2⟩
 simp only [YrD.row,aM,ba]at happ;refine kw_sr ?_;simp [k.g3,g6,aOY k1'.cal k1'.zb,-ak,i0,i1,i2,l0,l1,l2,r0,r2,hso,w0,w1,w2,w3,happ,hst,-bJ];obtain⟨J4,hJ4⟩:∃ J4:Heap,J4=H3.set 3 (tK cs s ct h c3):=⟨_,rfl⟩;rw [←hJ4]at hk hbk ⊢;have eb4:=hbk _ _ _ eb n3;have l3:ldV J4 none (.c (.ptr J.length 3 0))=some (.c (.f (u8 (x.y j 3)))):=by simp [ldV,aF,eb4,aO]
 have i3:aP J4 1 (some 4) (.c (.ptr J.length 0 0)) (vi 3)=some (.c (.ptr J.length 3 0)):=by simp [aP,fU]
 have hk':=hk t k.g1 k.g2 k.g3;refine kw_sr ?_;by_cases h3:x.y j 3 % 2=1
 ·simp [i3,l3,r3,-ak,h3];refine aj (by simp) (kw_region (.inl rfl) ?_)
  obtain⟨b,ep,H5,hix,hst5,hk5⟩:=hk'.aPt (by omega)
  rw [hjl]at hix hst5;simp [k.g3,g6,aOY hk'.cal hk'.zb,-ak,hix,hst5,-bJ];exact au (next _ _ _ _ hq5 (hk5 _ (by simp [k.g1]) (by simp [k.g2]) (by simp [k.g3])) (by simp [g6]))
 ·have h3':x.y j 3 % 2=0:=by omega
  simp [i3,l3,r3,-ak,h3'];refine bD (by simp) ?_
  exact au (next _ _ _ _ hq1 (hk _ (by simp [k.g1]) (by simp [k.g2]) (by simp [k.g3])) (by simp [g6]))
end
section
theorem made2{x:kY}(hx:x.OK){cs:List C}{c:Nat}{s h:Int}{tr:List TrD}{ct:C}{t:T}{J:Heap}(k:ZI x cs c s h tr ct [] (.f .aC) t J)(hs:-1080≤s∧s≤1080)(htl:tr.length≤3)(htb:∀ y ∈ tr,0≤y.at_∧y.at_<h∧-1080≤y.off∧y.off≤1080)
  (hts:∀(i:Nat) a b,tr[i]?=some a→tr[i+1]?=some b→a.at_+2160≤b.at_) (hh:0≤h∧h≤40000) {Q:Option ACode→St→Prop}
  (hQ:∀ j s z o,OKZ z o→yT [.cell (P.nat 2) (some 8)] (.a (z.row.map .f)) s→Q j s) :
  WP tab.get uX none [.code EJ] ⟨t,[],J⟩ Q:=by
 have hc:=k.cal.lt;have pre:∀(tg yg:Tg) (yr:List YrD),aIB ⟨c,s,tg,tr,h,yg,yr⟩:=fun tg yg yr=>⟨hc,hs,htl,htb,hts,hh⟩
 refine kw_seq (kw_sr ?_)
 cases hr:x.rules with
 | false=>
  simp [k.g1,KX k.raw,-ak,hr];refine aj (by simp) (kw_sr ?_)
  obtain⟨z,o,J',hz,hst,hf⟩:=k.e.fin ⟨.nil,.nil,[],(pre .nil .nil []).none rfl⟩ (((t.s 77 (.c (.ptr 0 13 0))).s 78 (vb false)).s 79 (vb true) |>.s 80 (.a (cs++[.f (fi s),ct,.f (fi h),.f .aC]))) (by simp [k.g2])
  have hl4:cs.length=4:=by obtain⟨a,b,d,e,e4⟩:=k.cal.four;rw [e4];rfl
  simp [k.g2,k.g3,Pn k.cal k.zb,-ak,hl4,hst,-bJ]
  exact aH (hQ _ _ z o hz hf)
 | true=>
  simp [k.g1,KX k.raw,-ak,hr];refine bD (by simp) ?_
  refine kw_seq (kw_sr ?_);simp
  refine dU 2 (fun j t J=>∃ yr cy,yr.length=j∧(∀ q ∈ yr,q.OK)∧ZI x cs c s h tr ct yr cy t J) (by decide) (by decide) (by simp)
   ⟨[],_,rfl,by simp,⟨k.raw,k.res,k.cal,k.zb,k.lt,k.ly,k.ne,by simp [k.g1],by simp [k.g2],by simp [k.g3]⟩⟩ ?_ ?_ ?_
  ·rintro j t J L hj ⟨yr,cy,hyl,hyo,k⟩ ha hn;simp [ha];exact hn _ ⟨yr,cy,hyl,hyo,⟨k.raw,k.res,k.cal,k.zb,k.lt,k.ly,k.ne,by simp [k.g1],by simp [k.g2],by simp [k.g3]⟩⟩ (by simp [ha]) (by simp)
  ·rintro j t J hj ⟨yr,cy,hyl,hyo,k⟩ ha nx;refine aYr hx k hj hyl ha fun t J q cy hq k g6=>?_
   refine nx _ _ ⟨yr++[q],cy,by simp;omega,fun p hp=>?_,⟨k.raw,k.res,k.cal,k.zb,k.lt,k.ly,k.ne,by simp [k.g1],by simp [k.g2],by simp [k.g3]⟩⟩ g6
   rcases cA.1 hp with hp | hp
   ·exact hyo p hp
   ·simp at hp;subst hp;exact hq
  rintro t J ⟨yr,cy,hyl,hyo,k⟩ ha
  obtain⟨r,q,rfl⟩:∃ r q,yr=[r,q]:=by
   match yr,hyl with
   | [r,q],_=>exact⟨r,q,rfl⟩
  obtain⟨tg,yg,hex⟩:=k.e.ex;obtain⟨e,hv,he⟩:=PD (pre tg yg [r,q]) (r:=r) (q:=q) rfl (hyo r (by simp)) (hyo q (by simp))
  have hex':=hex J (fun _ _ h _=>h)
  have hvv:dG deep J (.a (cs++[.f (fi s),ct,.f (fi h),cy]))=some (ZD.v ⟨c,s,tg,tr,h,yg,[r,q]⟩):=by
   simp only [dG,deep,hex'];rfl
  have tail:∀(t:T) (J:Heap) (yr:List YrD) (cy:C),ZE cs c s h tr ct yr cy J→t.g 2=.c (.ptr 1 0 0)→t.g 3=.c (.ptr 3 0 0)→(∃ tg yg o,OKZ ⟨c,s,tg,tr,h,yg,yr⟩ o)→WP tab.get uX none [.code Oz] ⟨t,[],J⟩ Q:=by
   intro t J yr cy k g2 g3 ho;refine kw_sr ?_;obtain⟨z,o,J',hz,hst,hf⟩:=k.fin ho (t.s 122 (.a (cs++[.f (fi s),ct,.f (fi h),cy]))) (by simp [g2])
   have hl4:cs.length=4:=by obtain⟨a,b,d,e,e4⟩:=k.cal.four;rw [e4];rfl
   simp [g2,g3,Pn k.cal k.zb,-ak,hl4,hst,-bJ];exact aH (hQ _ _ z o hz hf)
  have km:=k.e.marked;refine kw_seq (kw_sr ?_);simp only [dG]at hvv;simp [k.g3,Pn k.cal k.zb,-ak];simp only [hvv,bE,aID,hv,a04];obtain⟨J5,hJ5⟩:∃ J5,J5=mkC deep cy (mkC deep ct (List.foldl (fun H x=>mkC deep x H) J cs)):=⟨_,rfl⟩
  rw [←hJ5]at km ⊢;simp;by_cases h0:e=0
  ·subst h0;obtain⟨o,ho⟩:=he rfl;simp;refine bD (by simp) ?_
   exact tail _ _ _ _ km (by simp [k.g2]) (by simp [k.g3]) ⟨_,_,o,ho⟩
  ·simp [h0];refine aj (by simp) (kw_region (.inl rfl) ?_)
   simp [k.g3,aOX km.cal km.zb,-bJ];refine tail _ _ [] (.f .aC) ⟨?_,?_,?_,?_,.inl ⟨rfl,.inl rfl⟩⟩ (by simp [k.g2]) (by simp [k.g3]) ⟨.nil,.nil,[],(pre .nil .nil []).none rfl⟩
   ·rw [am (by decide)];exact km.res
   ·exact km.cal.keep fun i y hy hi=>by rw [am (by omega)];exact hy
   ·exact az (aA km.zb)
   ·exact km.lt.keep fun i s l fl ep st h=>⟨fl,by rw [am (by rintro rfl;rw [km.zb]at h;cases h)];exact h⟩
end
section
theorem Wh{x:kY}(hx:x.OK):∃ z o,OKZ z o∧Km.Pure tab.get uX [.a (x.row.map .f)]=Eq (.a (z.row.map .f)):=by
 obtain⟨rr,⟨z,o,hz,rfl⟩,hp⟩:∃ rr,(∃ z o,OKZ z o∧rr=.a (z.row.map .f))∧Km.Pure tab.get uX [.a (x.row.map .f)] rr:=by
  refine dN a0B rfl fun Q hQ=>?_
  have hQ':∀ j s z o,OKZ z o→yT [.cell (P.nat 2) (some 8)] (.a (z.row.map .f)) s→Q j s:=fun j s z o h1 h2=>hQ j s _ ⟨z,o,h1,rfl⟩ h2
  have hs:=pF x.st;have hso:=IG hx.st;have fD:=hx.cal
  have rest:∀(t:T) (J:Heap) (cs:List C) (c:Nat),ZI x cs c (su x.st) 0 [] (.f .aC) [] (.f .aC) t J→WP tab.get uX none [.code JZ] ⟨t,[],J⟩ Q:=fun t J cs c k=>
   made1 hx k fun t J tr ct h k htl htb hts hh=>made2 hx k hs htl htb hts hh hQ'
  refine kw_sr ?_;simp;obtain⟨B0,hB0⟩:∃ B0:Blk,B0=.box (x.row.map .f) 0:=⟨_,rfl⟩;rw [←hB0];have l0:∀(b1:Blk) (J:Heap),ldV (B0::b1::J) none (.c (.ptr 0 0 0))=some (.c (.f (u8 x.st))):=fun b1 J=>by simp [ldV,aF,hB0,aO,kY.row]
  have l12:∀(b1:Blk) (J:Heap),ldV (B0::b1::J) none (.c (.ptr 0 12 0))=some (.c (.f (u8 x.cal))):=fun b1 J=>by simp [ldV,aF,hB0,aO,kY.row]
  have r2:bW .rem (.c (.f (u8 x.cal))) (.c (.f (.int .u8 2)))=some (.c (.f (u8 (x.cal % 2)))):=Cj _ (by decide)
  have q2:bW .quo (.c (.f (u8 x.cal))) (.c (.f (.int .u8 2)))=some (.c (.f (u8 (x.cal / 2)))):=u8_quo fD (by decide)
  have r4:bW .rem (.c (.f (u8 (x.cal / 2)))) (.c (.f (.int .u8 2)))=some (.c (.f (u8 (x.cal / 2 % 2)))):=Cj _ (by decide)
  have w4:IntKind.i64.wrap ((x.cal:Int) / 2 % 2)=(x.cal:Int) / 2 % 2:=wrap64 (by omega) (by omega)
  refine kw_sr ?_;simp [l0,-ak,hso];refine kw_seq (kw_sr ?_);by_cases hodd:x.cal % 2=1
  ·simp [l12,-ak,r2,hodd];refine aj (by simp) (kw_region (.inl rfl) ?_)
   simp [l12,-ak,q2,r4,w4];refine rest _ _ [.f (fi 5),.sl 4 0 2 2 0 1,.f (fi 1),.sl 5 0 1 1 0 3] (x.cal / 2 % 2+1) ⟨by rw [hB0];rfl,rfl,.inr ⟨x.cal / 2 % 2,by omega,rfl,rfl,⟨0,rfl⟩,0,rfl⟩,rfl,LR.nil _ _,LR.nil _ _,(fun i h=>by cases h),by simp,by simp,by simp⟩
  ·have h0:x.cal % 2=0:=by omega
   simp [l12,-ak,r2,h0];refine bD (by simp) ?_
   refine rest _ _ [.f (fi 2),.sl 2 0 2 2 0 1,.f (fi (-1)),.f .aC] 0 ⟨by rw [hB0];rfl,rfl,.inl ⟨rfl,rfl,0,rfl⟩,rfl,LR.nil _ _,LR.nil _ _,(fun i h=>by cases h),by simp,by simp,by simp⟩
 exact⟨z,o,hz,hp.eq⟩
end
section
theorem ahb{H:Heap}{g:Tg}{l:List IsD}{j:Nat}(hj:j<l.length)(hl:l.length≤100000):aP H 3 none (.c (.f (sl g (fQ l)))) (vi j)=some (.c (.f (.fp (fQ l).flatten (j*3)))):=by
 have:=iq (H:=H) (g:=g) (rows:=fQ l) (sz:=3) (k:=.i64) (i:=(j:Int)) (by omega) (by simp;omega)
 simpa using this
theorem aSR{H:Heap}{l:List IsD}{j:Nat}(hj:j<l.length):ldV H none (.c (.f (.fp (fQ l).flatten (j*3))))=some (vi l[j].day):=mP (lH l) (zI hj) rfl
theorem agW{H:Heap}{l:List IsD}{j:Nat}(hj:j<l.length):ldV H none (.c (.f (.fp (fQ l).flatten (j*3+1))))=some (vi l[j].fr):=rG (k:=1) (lH l) (zI hj) rfl
theorem aSQ{H:Heap}{l:List IsD}{j:Nat}(hj:j<l.length):ldV H none (.c (.f (.fp (fQ l).flatten (j*3+2))))=some (vi l[j].to):=rG (k:=2) (lH l) (zI hj) rfl
theorem aSP{H:Heap}{mv:List bG}{j:Nat}(hj:j<mv.length):ldV H none (.c (.f (.fp (aY mv).flatten (j*5+1))))=some (vb mv[j].drop)∧ldV H none (.c (.f (.fp (aY mv).flatten (j*5+2))))=some (vi mv[j].to)∧ldV H none (.c (.f (.fp (aY mv).flatten (j*5+3))))=some (vi mv[j].mi)∧ldV H none (.c (.f (.fp (aY mv).flatten (j*5+4))))=some (vi mv[j].le):=
 ⟨rG (k:=1) (dw mv) (iH hj) rfl,rG (k:=2) (dw mv) (iH hj) rfl,rG (k:=3) (dw mv) (iH hj) rfl,rG (k:=4) (dw mv) (iH hj) rfl⟩
structure a6h(K:Heap)(x:yQ)(y:kY)(s:dn)(z:ZD):Prop where
 x:K[0]?=some (.box (x.row.map .f) 0)
 y:K[1]?=some (.box (y.row.map .f) 0)
 s:K[2]?=some (.box (s.row.map .f) 0)
 z:K[3]?=some (.box (z.row.map .f) 0)
set_option maxHeartbeats 1000000 in
theorem Fj(sane:Km.Pure tab.get NP [] (vb true)){x:yQ}(hx:x.OK){y:kY}(hy:y.OK){day:Nat}(hd:day<65536) :
  Km.Pure tab.get NQ [.a (x.row.map .f),.a (y.row.map .f),.c (.f (u16 day))] (vb true):=by
 obtain⟨s,hs,hsm⟩:=V9 (lJ:=2) (.inr rfl) hx;obtain⟨z,o,hz,hzm⟩:=Wh hy;rw [show((2:Nat):Int)=2 from rfl]at hsm
 have hsn:=sane.eq;have hc:=hz.c;have hz8:=ZD.BD hc;obtain⟨d,d1,rd⟩:=Cm day (m:=300) (by decide)
 obtain⟨gl,hon⟩:=a01 hz hs (d:=d) (by omega) (by omega)
 have hat:=hs.at_ (d:=d) (by omega) (by omega)
 have hmi:=hs.ok.mi;have hml:=hs.ml;have hkind:=aHv hz hat.1 hat.2;have w1:IntKind.i64.wrap ((d:Int)*1440)=(d:Int)*1440:=wrap64 (by omega) (by omega)
 have w2:IntKind.i64.wrap ((d:Int)*1440+s.mi)=(d:Int)*1440+s.mi:=wrap64 (by omega) (by omega)
 refine bU a0U rfl fun Q hQ=>?_
 refine kw_sr ?_;simp;refine kw_sr ?_;simp [hsn];obtain⟨K0,hK0⟩:∃ K0:Heap,K0=[.box (x.row.map .f) 0,.box (y.row.map .f) 0]:=⟨_,rfl⟩;have a0:K0[0]?=some (.box (x.row.map .f) 0):=by rw [hK0];rfl
 have a1:K0[1]?=some (.box (y.row.map .f) 0):=by rw [hK0];rfl
 have hl0:K0.length=2:=by rw [hK0];rfl
 rw [←hK0];have lx:ldV K0 (some 6) (.c (.ptr 0 0 0))=some (.a (x.row.map .f)):=by simp [ldV,a0,aF,aO,yQ.row]
 have hs7:s.row.length=7:=rfl;refine kw_sr ?_;simp [lx,-ak,hsm,hs7,hl0];obtain⟨K1,hK1⟩:∃ K1:Heap,K1=K0++[.box (s.row.map .f) 0]:=⟨_,rfl⟩;have c0:K1[0]?=some (.box (x.row.map .f) 0):=by rw [hK1,ag (aA a0)];exact a0
 have c1:K1[1]?=some (.box (y.row.map .f) 0):=by rw [hK1,ag (aA a1)];exact a1
 have c2:K1[2]?=some (.box (s.row.map .f) 0):=by rw [hK1,←hl0];simp
 have hl1:K1.length=3:=by rw [hK1];simp [hl0]
 rw [←hK1];have ly:ldV K1 (some 14) (.c (.ptr 1 0 0))=some (.a (y.row.map .f)):=by simp [ldV,c1,aF,aO,kY.row]
 refine kw_sr ?_;simp [ly,-ak,hzm,hz8,hl1];obtain⟨K2,hK2⟩:∃ K2:Heap,K2=K1++[.box (z.row.map .f) 0]:=⟨_,rfl⟩;have hB:a6h K2 x y s z:=⟨by rw [hK2,ag (aA c0)];exact c0,by rw [hK2,ag (aA c1)];exact c1,by rw [hK2,ag (aA c2)];exact c2,by rw [hK2,←hl1];simp⟩
 rw [←hK2];clear hK2 hK1 hK0;obtain⟨-,e1,e2,-,e4,e5,e6,e7⟩:=oJ hB.s;have z8:ldV K2 (some 8) (.c (.ptr 3 0 0))=some z.v:=iL hB.z hc;refine kw_sr ?_;simp [rd,tN d (by omega)]
 refine kw_sr ?_;simp [e7,z8,-ak,hon];refine kw_sr ?_;simp [e1,-ak,w1,w2];refine kw_sr ?_;simp [e2,-ak];refine kw_sr ?_;simp;refine kw_seq (kw_sr ?_);simp;have hix:=fun i (hi:i<s.mv.length)=>DR (H:=K2) (g:=s.mg) hi (by omega)
 have hl0':=fun i (hi:i<s.mv.length)=>DF (H:=K2) hi
 have hlk:=fun i (hi:i<s.mv.length)=>aSP (H:=K2) hi
 refine dU s.mv.length (fun j t K=>K=K2∧t.g 7=vb true∧t.g 8=.c (.ptr 2 0 0)∧t.g 9=.c (.ptr 3 0 0)∧t.g 10=vi d∧t.g 11=.c (.f (sl gl (fQ (onL hz s d))))∧t.g 12=vi 0 ∧
   t.g 13=vi (atO s d (eH (s.mv.take j) d))∧t.g 14=vi (loO s (eH (s.mv.take j) d))∧t.g 15=vb (drO (eH (s.mv.take j) d))) (by omega) (by decide) (by simp)
  ⟨rfl,by simp,by simp,by simp,by simp,by simp,by simp,by simp [eH,atO],by simp [eH,loO],by simp [eH,drO]⟩ ?_ ?_ ?_
 ·rintro j t K L hj ⟨rfl,g7,g8,g9,g10,g11,g12,g13,g14,g15⟩ ha hn;simp [ha,g8,e6,-ak];exact hn _ ⟨rfl,by simp [g7],by simp [g8],by simp [g9],by simp [g10],by simp [g11],by simp [g12],by simp [g13],by simp [g14],by simp [g15]⟩ (by simp [ha]) (by simp)
 ·rintro j t K hj ⟨rfl,g7,g8,g9,g10,g11,g12,g13,g14,g15⟩ ha nx;obtain⟨m,hm⟩:∃ m,m=s.mv[j]:=⟨_,rfl⟩;have hmk:=AB hs.ok.ms hj (d:=d);have i1:=hix j hj;have l0:=hl0' j hj;obtain⟨l1,l2,l3,l4⟩:=hlk j hj;rw [←hm]at hmk l0 l1 l2 l3 l4;have aHI:=hs.ok.mo m (by rw [hm];exact aw hj)
  have hmb:=hs.mo m (by rw [hm];exact aw hj)
  refine aB (kw_sr ?_);simp [g8,g10,ha,e6,-ak,i1,l0];by_cases hmd:m.day=d
  ·rw [if_pos hmd]at hmk
   have hb:-1000000≤m.to∧-1000000≤m.mi:=by
    cases hdr:m.drop
    ·have:=aHI.nd hdr;omega
    ·have:=aHI.dr hdr;omega
   have wA:IntKind.i64.wrap (m.to*1440)=m.to*1440:=wrap64 (by omega) (by omega)
   have wB:IntKind.i64.wrap (m.to*1440+m.mi)=m.to*1440+m.mi:=wrap64 (by omega) (by omega)
   refine aj (by simp [hmd]) (kw_sr ?_)
   simp [g8,ha,e6,-ak,i1,l2,l3,wA,wB];refine kw_sr ?_;simp [g8,ha,e6,-ak,i1,l4];refine kw_region (.inl rfl) ?_;simp [g8,ha,e6,-ak,i1,l1];refine au (nx _ _ ⟨rfl,by simp [g7],by simp [g8],by simp [g9],by simp [g10],by simp [g11],by simp [g12],by simp [hmk,atO],by simp [hmk,loO],by simp [hmk,drO]⟩ (by simp [ha]))
  ·rw [if_neg hmd]at hmk;refine ah (by simp [hmd]) (aG (au ?_))
   exact nx _ _ ⟨rfl,by simp [g7],by simp [g8],by simp [g9],by simp [g10],by simp [g11],by simp [g12],by simp [hmk,g13],by simp [hmk,g14],by simp [hmk,g15]⟩ (by simp [ha])
 ·rintro t K ⟨rfl,g7,g8,g9,g10,g11,g12,g13,g14,g15⟩ ha;rw [cm]at g13 g14 g15;rw [←aIu]at g13;rw [←Jg]at g14;rw [←D6]at g15;refine kw_seq (kw_sr ?_);simp [g15];cases hdr:s.dropped d
  ·have hlo:=hs.long d hdr;obtain⟨len,hlen⟩:∃ len,len=s.long d:=⟨_,rfl⟩;obtain⟨lo,aYY⟩:∃ lo,lo=s.at_ d:=⟨_,rfl⟩;rw [←hlen]at g14 hlo;rw [←aYY]at g13 hat hkind;refine bD (by simp [hdr]) ?_
   refine kw_sr ?_;simp [g9,g13,z8,-ak,hkind];refine kw_seq (kw_sr ?_);simp [g12];refine bD (by simp) ?_
   obtain⟨al,hal⟩:∃ al,al=zK hz lo s.gap s.fold:=⟨_,rfl⟩;have aTj:=hs.ok.gap;have hfold:=hs.ok.fold;have hall:=Gt hz hat.1 hat.2 (gap:=s.gap) hfold.1 hfold.2;have aZb:=UJ hz hat.1 hat.2 (gap:=s.gap) (fold:=s.fold);have aZa:=aHy hz hat.1 hat.2 (gap:=s.gap) (fold:=s.fold);have a5L:oU hz lo≠[]→∀ a ∈ al,iK hz lo a:=fun hn a ha=>ag4 hz hat.1 hat.2 (gap:=s.gap) (fold:=s.fold) hn (by rw [←hal];exact ha)
   have hlen0:oU hz lo=[]→al.length=if s.gap=0 then 0 else 1:=fun hn=>by rw [hal];exact ag5 hz hat.1 hat.2 hn
   have hlen1:oU hz lo≠[]→al.length=if s.fold=2 then(oU hz lo).length else 1:=fun hn=>by rw [hal];exact WE hz hat.1 hat.2 hfold.1 hfold.2 hn
   have hI2:=ag7 hz hat.1 hat.2;rw [←hal]at hall aZb aZa;have hL:onL hz s d=al.map fun a=>⟨d,a,a+len⟩:=by unfold onL;rw [hdr,if_neg (by decide),←aYY,←hal,hlen]
   obtain⟨L,hLe⟩:∃ L,L=onL hz s d:=⟨_,rfl⟩;rw [←hLe]at hL g11;have hLl:L.length=al.length:=by rw [hL];simp
   obtain⟨κ,hκ⟩:∃ κ,κ=yu (oU hz lo).length:=⟨_,rfl⟩;rw [←hκ];have hκ1:κ≠1→oU hz lo≠[]:=fun h e=>h (by rw [hκ,e];rfl)
   refine kw_seq (kw_sr ?_);simp
   refine dU L.length (fun j t J=>J=K∧t.g 7=vb true∧t.g 8=.c (.ptr 2 0 0)∧t.g 9=.c (.ptr 3 0 0)∧t.g 10=vi d∧t.g 11=.c (.f (sl gl (fQ L)))∧t.g 13=vi lo∧t.g 14=vi len∧t.g 17=vi κ) (by omega) (by decide) (by simp)
    ⟨rfl,by simp [g7],by simp [g8],by simp [g9],by simp [g10],by simp [g11],by simp [g13],by simp [g14],by simp⟩ ?_ ?_ ?_
   ·rintro j t J A hj ⟨rfl,g7,g8,g9,g10,g11,g13,g14,g17⟩ ha hn;simp [ha,g11];exact hn _ ⟨rfl,by simp [g7],by simp [g8],by simp [g9],by simp [g10],by simp [g11],by simp [g13],by simp [g14],by simp [g17]⟩ (by simp [ha]) (by simp)
   ·rintro j t J hj ⟨rfl,g7,g8,g9,g10,g11,g13,g14,g17⟩ ha nx;have hja:j<al.length:=by omega
    obtain⟨a,hae⟩:∃ a,a=al[j]:=⟨_,rfl⟩;have hLj:L[j]=⟨d,a,a+len⟩:=by simp [hL,hae]
    have hab:=aZb a (by rw [hae];exact aw hja)
    obtain⟨r,hr,hloc⟩:=Ws hz (t:=a) (by omega) (by omega)
    have hro:=hz.offO hr;obtain⟨at_,a5K⟩:∃ at_,at_=a+offO z r:=⟨_,rfl⟩;rw [←a5K]at hloc
    have aY8:κ≠1→at_=lo:=fun hk=>by
     obtain⟨r',hr',e⟩:=a5L (hκ1 hk) a (by rw [hae];exact aw hja)
     have:=xU hz hr hr';subst this;omega
    have i1:=ahb (H:=J) (g:=gl) (l:=L) (j:=j) hj (by omega)
    have l0:=aSR (H:=J) (l:=L) hj;have l1:=agW (H:=J) (l:=L) hj;have l2:=aSQ (H:=J) (l:=L) hj;rw [hLj]at l0 l1 l2;simp only at l0 l1 l2;have wa:IntKind.i64.wrap (a+len)=a+len:=wrap64 (by omega) (by omega)
    refine aB (kw_sr ?_);simp [g9,g11,ha,z8,-ak,i1,l1,hloc];refine kw_sr ?_
    have fin:∀ t:T,t.g 7=vb true→t.g 8=.c (.ptr 2 0 0)→t.g 9=.c (.ptr 3 0 0)→t.g 10=vi d→t.g 11=.c (.f (sl gl (fQ L)))→t.g 13=vi lo→t.g 14=vi len→t.g 17=vi κ→t.g 19=vi j→t.g 181=vb false →
      WP tab.get NQ none [.code Ph,.inBlock 3,.code (UK 19 112 113),.inLoop (BF 2 19 111 112 113 [⟨D 108,.mov (R 19),none⟩,⟨D 109,.mov (R 11),none⟩,⟨D 110,.len (R 109),none⟩,⟨D 111,.bin .lss (R 108) (R 110),none⟩] Pj),.inBlock 2,.code Pg] ⟨t,[],J⟩ Q:=by
     intro t g7 g8 g9 g10 g11 g13 g14 g17 g19 a5P;refine ah a5P (aG (au ?_));exact nx _ _ ⟨rfl,by simp [g7],by simp [g8],by simp [g9],by simp [g10],by simp [g11],by simp [g13],by simp [g14],by simp [g17]⟩ g19
    have key:(κ=1∨at_=lo):=by
     by_cases hk:κ=1
     ·exact .inl hk
     ·exact .inr (aY8 hk)
    rcases Nat.eq_zero_or_pos j with hj0 | hj0
    ·have ha0:t.g 19=vi 0:=by rw [ha,hj0];rfl
     subst hj0;simp only [Nat.zero_mul,Nat.zero_add,Int.natCast_zero]at i1 l0 l1 l2;rcases key with hk | hk
     ·simp [g10,g11,g13,g14,g17,ha0,i1,l0,l1,l2,-ak,wa,hk];exact fin _ (by simp [g7]) (by simp [g8]) (by simp [g9]) (by simp [g10]) (by simp [g11]) (by simp [g13]) (by simp [g14]) (by simp [g17]) (by simp [ha0]) (by simp)
     ·by_cases hk1:κ=1
      ·simp [g10,g11,g13,g14,g17,ha0,i1,l0,l1,l2,-ak,wa,hk1];exact fin _ (by simp [g7]) (by simp [g8]) (by simp [g9]) (by simp [g10]) (by simp [g11]) (by simp [g13]) (by simp [g14]) (by simp [g17]) (by simp [ha0]) (by simp)
      ·simp [g10,g11,g13,g14,g17,ha0,i1,l0,l1,l2,-ak,wa,hk1,hk];exact fin _ (by simp [g7]) (by simp [g8]) (by simp [g9]) (by simp [g10]) (by simp [g11]) (by simp [g13]) (by simp [g14]) (by simp [g17]) (by simp [ha0]) (by simp)
    ·have hjp:L[j-1]=⟨d,al[j-1],al[j-1]+len⟩:=by simp [hL]
     have hlt:al[j-1]<a:=by rw [hae];exact bL.1 aZa (j-1) j (by omega) hja (by omega)
     obtain⟨pa,hpa⟩:∃ pa,pa=al[j-1]:=⟨_,rfl⟩;rw [←hpa]at hjp hlt;have p1:=ahb (H:=J) (g:=gl) (l:=L) (j:=j-1) (by omega) (by omega)
     have p2:=agW (H:=J) (l:=L) (j:=j-1) (by omega)
     rw [hjp]at p2;simp only at p2;rw [show((j-1:Nat):Int)=(j:Int)-1 by omega]at p1
     have wj:IntKind.i64.wrap ((j:Int)-1)=(j:Int)-1:=wrap64 (by omega) (by omega)
     have hjz:(0:Int)<j:=by omega
     have aTg:¬ a≤pa:=by omega
     rcases key with hk | hk
     ·simp [g10,g11,g13,g14,g17,ha,i1,l0,l1,l2,p1,p2,-ak,wa,wj,hk,show 0<j by omega,aTg]
      exact fin _ (by simp [g7]) (by simp [g8]) (by simp [g9]) (by simp [g10]) (by simp [g11]) (by simp [g13]) (by simp [g14]) (by simp [g17]) (by simp [ha]) (by simp)
     ·by_cases hk1:κ=1
      ·simp [g10,g11,g13,g14,g17,ha,i1,l0,l1,l2,p1,p2,-ak,wa,wj,hk1,show 0<j by omega,aTg]
       exact fin _ (by simp [g7]) (by simp [g8]) (by simp [g9]) (by simp [g10]) (by simp [g11]) (by simp [g13]) (by simp [g14]) (by simp [g17]) (by simp [ha]) (by simp)
      ·simp [g10,g11,g13,g14,g17,ha,i1,l0,l1,l2,p1,p2,-ak,wa,wj,hk1,hk,show 0<j by omega,aTg]
       exact fin _ (by simp [g7]) (by simp [g8]) (by simp [g9]) (by simp [g10]) (by simp [g11]) (by simp [g13]) (by simp [g14]) (by simp [g17]) (by simp [ha]) (by simp)
   ·rintro t J ⟨rfl,g7,g8,g9,g10,g11,g13,g14,g17⟩ ha;refine kw_seq (kw_sr ?_);by_cases hk1:κ=1
    ·have hn:oU hz lo=[]:=by
      cases hI:oU hz lo with
      | nil=>rfl
      | cons a I=>
       have:κ=yu (I.length+1):=by rw [hκ,hI];rfl
       unfold yu at this;rw [if_neg (by omega)]at this
       split at this<;>omega
     have hl:=hlen0 hn;rw [←hLl]at hl;simp [g17,hk1];refine aj (by simp) (kw_sr ?_)
     by_cases hg0:s.gap=0
     ·rw [if_pos hg0]at hl;have hnil:L=[]:=List.eq_nil_of_length_eq_zero hl;subst hnil;simp [g7,g8,g11,e4,-ak,hg0,eqV];refine aH (hQ _ _ ?_);simp
     ·rw [if_neg hg0]at hl;have hnn:L≠[]:=fun e=>by rw [e]at hl;cases hl
      simp [g7,g8,g11,e4,-ak,hg0,hl,hnn,eqV];refine aH (hQ _ _ ?_);simp
    ·have hn:=hκ1 hk1;have hl:=hlen1 hn;rw [←hLl]at hl;simp [g17,hk1];refine bD (by simp) ?_
     refine kw_seq (kw_sr ?_);have hpos:=cN.2 hn;by_cases hk2:κ=2
     ·have h2:(oU hz lo).length=2:=by
       rw [hκ]at hk2;unfold yu at hk2;split at hk2
       ·omega
       ·split at hk2<;>omega
      by_cases hf2:s.fold=2
      ·rw [if_pos hf2,h2]at hl;simp [g8,g17,hk2,e5,-ak,hf2];refine aj (by simp) (kw_sr ?_)
       simp [g7,g11,hl];refine aH (hQ _ _ ?_);simp
      ·rw [if_neg hf2]at hl;simp [g8,g17,hk2,e5,-ak,hf2];refine ah (by simp) (aG (kw_sr ?_))
       simp [g7,g11,hl];refine aH (hQ _ _ ?_);simp
     ·have h1:(oU hz lo).length=1:=by
       rw [hκ]at hk2 hk1;unfold yu at hk2 hk1;split at hk2
       ·omega
       ·split at hk2<;>omega
      have hl1:L.length=1:=by rw [hl,h1];split<;>rfl
      simp [g8,g17,hk2];refine ah (by simp) (aG (kw_sr ?_))
      simp [g7,g11,hl1];refine aH (hQ _ _ ?_);simp
  ·have hnil:onL hz s d=[]:=by unfold onL;rw [if_pos hdr]
   refine aj (by simp [hdr]) (kw_sr ?_)
   simp [g7,g12,g11,hnil];refine aH (hQ _ _ ?_);simp
end
section
theorem sane:Km.Pure tab.get NP [] (vb true):=EX (reckoned ev)
theorem byte_of{x:List FC}(h:∃ m,x=[FC.int .u8 m]∧Lit.wf (.int .u8 m)):∃ m:Nat,x=[u8 m]∧m<256:=by
 obtain⟨m,rfl,hw⟩:=h;simp [Lit.wf,IntKind.min,IntKind.max,IntKind.signed,IntKind.bits]at hw;refine⟨m.toNat,?_,by omega⟩
 have:((m.toNat:Nat):Int)=m:=dg hw.1;simp [this]
theorem Ip{x:List FC}(h:∃ m,x=[FC.int .u16 m]∧Lit.wf (.int .u16 m)):∃ m:Nat,x=[u16 m]∧m<65536:=by
 obtain⟨m,rfl,hw⟩:=h;simp [Lit.wf,IntKind.min,IntKind.max,IntKind.signed,IntKind.bits]at hw;refine⟨m.toNat,?_,by omega⟩
 have:((m.toNat:Nat):Int)=m:=dg hw.1;simp [this]
theorem QE{n:Nat}(h:n≤maxLen):n≤9223372036854775807:=Nat.le_trans h (by decide)
theorem Ei{n:Nat}{ys:List FC}(h:Shp Tryz.prog (n+2) 27 ys):∃ g l,ys=[sl g (fJ l)]∧l.length≤9223372036854775807∧∀ m ∈ l,m<256:=by
 obtain⟨g,rows,rfl,_,hl,hr⟩:=zq Tryz.underlying27 h;obtain⟨l,rfl,hx⟩:=vH (enc:=fun n:Nat=>[u8 n]) (p:=fun n=>n<256) fun r hr'=>byte_of (jc Tryz.underlying5 (hr r hr'))
 exact⟨g,l,rfl,QE (by simpa using hl),hx⟩
theorem UR{n:Nat}{ys:List FC}(h:Shp Tryz.prog (n+2) 28 ys):∃ y:Nat→Nat,ys=[u8 (y 0),u8 (y 1),u8 (y 2),u8 (y 3)]∧∀ i,i<4→y i<256:=by
 obtain⟨rows,rfl,hl,_,hr⟩:=IK Tryz.underlying28 h;obtain⟨l,rfl,hx⟩:=vH (enc:=fun n:Nat=>[u8 n]) (p:=fun n=>n<256) fun r hr'=>byte_of (jc Tryz.underlying5 (hr r hr'))
 match l,hl,hx with
 | [a,b,c,d],_,hx=>
  refine⟨fun i=>match i with | 0=>a | 1=>b | 2=>c | _=>d,rfl,fun i hi=>?_⟩
  have:i=0∨i=1∨i=2∨i=3:=by omega
  rcases this with rfl | rfl | rfl | rfl
  ·exact hx a (by simp)
  ·exact hx b (by simp)
  ·exact hx c (by simp)
  ·exact hx d (by simp)
 | [],hl,_=>simp at hl
 | [_],hl,_=>simp at hl
 | [_,_],hl,_=>simp at hl
 | [_,_,_],hl,_=>simp at hl
 | _::_::_::_::_::_,hl,_=>simp at hl
theorem Ue{n:Nat}{ys:List FC}(h:Shp Tryz.prog (n+4) 31 ys):∃ x:kY,ys=x.row∧x.OK:=by
 obtain⟨_,q1,rfl,h1,k1⟩:=eF (wP (ts:=[5,27,27,5,29,5,4]) Tryz.underlying31 rfl h);obtain⟨st,rfl,b1⟩:=byte_of (jc Tryz.underlying5 h1);obtain⟨_,q2,rfl,h1,k2⟩:=eF k1;obtain⟨gg,gaps,rfl,lg,bg⟩:=Ei h1;obtain⟨_,q3,rfl,h1,k3⟩:=eF k2;obtain⟨og,Dn,rfl,lo,bo⟩:=Ei h1;obtain⟨_,q4,rfl,h1,k4⟩:=eF k3;obtain⟨be,rfl,b4⟩:=byte_of (jc Tryz.underlying5 h1);obtain⟨_,q5,rfl,h1,k5⟩:=eF k4;obtain⟨rows,rfl,hl,_,hr⟩:=IK Tryz.underlying29 h1;obtain⟨_,q6,rfl,h1,k6⟩:=eF k5;obtain⟨cal,rfl,b6⟩:=byte_of (jc Tryz.underlying5 h1);obtain⟨_,q7,rfl,h1,k7⟩:=eF k6;obtain⟨rules,rfl⟩:=afC Tryz.underlying4 h1;obtain rfl:q7=[]:=k7
 match rows,hl,hr with
 | [r0,r1],_,hr=>
  obtain⟨y0,rfl,c0⟩:=UR (hr r0 (by simp))
  obtain⟨y1,rfl,c1⟩:=UR (hr r1 (by simp))
  refine⟨⟨st,gg,gaps,og,Dn,be,fun k=>if k=0 then y0 else y1,cal,rules⟩,rfl,b1,lg,lo,bg,bo,b4,fun k i hk hi=>?_,b6⟩
  simp only;split
  ·exact c0 i hi
  ·exact c1 i hi
 | [],hl,_=>simp at hl
 | [_],hl,_=>simp at hl
 | _::_::_::_,hl,_=>simp at hl
theorem aYN{x:List FC}(h:∃ m,x=[FC.int .i8 m]∧Lit.wf (.int .i8 m)):∃ m:Int,x=[.int .i8 m]∧-128≤m∧m≤127:=by
 obtain⟨m,rfl,hw⟩:=h;simp [Lit.wf,IntKind.min,IntKind.max,IntKind.signed,IntKind.bits]at hw;exact⟨m,rfl,by omega,by omega⟩
theorem aEX{n:Nat}{ys:List FC}(h:Shp Tryz.prog (n+4) 173 ys):∃ x:qm,ys=x.row∧x.OK:=by
 obtain⟨_,q1,rfl,h1,k1⟩:=eF (wP (ts:=[5,171,5,27]) Tryz.underlying173 rfl h);obtain⟨k,rfl,b1⟩:=byte_of (jc Tryz.underlying5 h1);obtain⟨_,q2,rfl,h1,k2⟩:=eF k1;obtain⟨m,rfl,b2⟩:=aYN (jc Tryz.underlying171 h1);obtain⟨_,q3,rfl,h1,k3⟩:=eF k2;obtain⟨o,rfl,b3⟩:=byte_of (jc Tryz.underlying5 h1);obtain⟨_,q4,rfl,h1,k4⟩:=eF k3;obtain⟨lg,li,rfl,l4,b4⟩:=Ei h1;obtain rfl:q4=[]:=k4;exact⟨⟨k,m,o,lg,li⟩,rfl,b1,b2,b3,l4,b4⟩
theorem aYu{n:Nat}{ys:List FC}(h:Shp Tryz.prog (n+2) 77 ys):∃ x:M5,ys=x.row∧x.OK:=by
 obtain⟨rows,rfl,hl,_,hr⟩:=IK Tryz.underlying77 h;obtain⟨l,rfl,hx⟩:=vH (enc:=fun n:Nat=>[u8 n]) (p:=fun n=>n<256) fun r hr'=>byte_of (jc Tryz.underlying5 (hr r hr'))
 match l,hl,hx with
 | [a,b,c,d,e],_,hx=>exact⟨⟨a,b,c,d,e⟩,rfl,hx a (by simp),hx b (by simp),hx c (by simp),hx d (by simp),hx e (by simp)⟩
 | [],hl,_=>simp at hl
 | [_],hl,_=>simp at hl
 | [_,_],hl,_=>simp at hl
 | [_,_,_],hl,_=>simp at hl
 | [_,_,_,_],hl,_=>simp at hl
 | _::_::_::_::_::_::_,hl,_=>simp at hl
theorem Uf{n:Nat}{ys:List FC}(h:Shp Tryz.prog (n+6) 26 ys):∃ x:yQ,ys=x.row∧x.OK:=by
 obtain⟨_,q1,rfl,h1,k1⟩:=eF (wP (ts:=[22,23,23,5,5,24]) Tryz.underlying26 rfl h);obtain⟨ng,rows,rfl,_,hl,hr⟩:=zq Tryz.underlying22 h1;obtain⟨no,rfl,hno⟩:=vH (enc:=qm.row) (p:=fun x=>x.OK) fun r hr'=>aEX (hr r hr')
 obtain⟨_,q2,rfl,h1,k2⟩:=eF k1;obtain⟨mi,rfl,b2⟩:=Ip (jc Tryz.underlying23 h1);obtain⟨_,q3,rfl,h1,k3⟩:=eF k2;obtain⟨le,rfl,b3⟩:=Ip (jc Tryz.underlying23 h1);obtain⟨_,q4,rfl,h1,k4⟩:=eF k3;obtain⟨ga,rfl,b4⟩:=byte_of (jc Tryz.underlying5 h1);obtain⟨_,q5,rfl,h1,k5⟩:=eF k4;obtain⟨fo,rfl,b5⟩:=byte_of (jc Tryz.underlying5 h1);obtain⟨_,q6,rfl,h1,k6⟩:=eF k5;obtain⟨mg,a7b,rfl,_,hl2,hr2⟩:=zq Tryz.underlying24 h1;obtain⟨mv,rfl,hmv⟩:=vH (enc:=M5.row) (p:=fun x=>x.OK) fun r hr'=>aYu (hr2 r hr')
 obtain rfl:q6=[]:=k6;exact⟨⟨ng,no,mi,le,ga,fo,mg,mv⟩,rfl,QE (by simpa using hl),hno,b2,b3,b4,b5,QE (by simpa using hl2),hmv⟩
theorem afP{a:V}(h:Am Tryz.prog 26 a):∃ x:yQ,a=.a (x.row.map .f)∧x.OK:=by
 rcases h with⟨xs,rfl,hs,_⟩ | ⟨x,rfl,hs⟩
 ·obtain⟨x,rfl,hx⟩:=Uf (n:=34) hs;exact⟨x,rfl,hx⟩
 ·exfalso;obtain⟨x,e,_⟩:=Uf (n:=34) hs;simp [yQ.row]at e
theorem afO{a:V}(h:Am Tryz.prog 31 a):∃ x:kY,a=.a (x.row.map .f)∧x.OK:=by
 rcases h with⟨xs,rfl,hs,_⟩ | ⟨x,rfl,hs⟩
 ·obtain⟨x,rfl,hx⟩:=Ue (n:=36) hs;exact⟨x,rfl,hx⟩
 ·exfalso;obtain⟨x,e,_⟩:=Ue (n:=36) hs;simp [kY.row]at e
theorem afi{a:V}(h:Am Tryz.prog 23 a):∃ n:Nat,a=.c (.f (u16 n))∧n<65536:=by
 rcases h with⟨xs,_,_,d,hd,hd'⟩ | ⟨z,rfl,h1⟩
 ·rw [Tryz.underlying23]at hd;cases hd;rcases hd' with⟨_,e⟩ | ⟨_,_,e⟩<;>cases e
 ·obtain⟨m,e,hw⟩:=Ip (jc Tryz.underlying23 h1);cases e;exact⟨m,rfl,hw⟩
theorem Bh(ar:List V)(h:BX Tryz.prog [26,31,23] ar):Km.Pure tab.get NQ ar (vb true):=by
 obtain⟨a0,_,rfl,h0,a1,_,rfl,h1,a2,_,rfl,h2,rfl⟩:=h;obtain⟨x,rfl,hx⟩:=afP h0;obtain⟨y,rfl,hy⟩:=afO h1;obtain⟨d,rfl,hd⟩:=afi h2;exact Fj sane hx hy hd
end
end Go.Proofs.YtmbjejcfadllnaaGreat
