/-
  ahY the qE jX and the rI answer, for all arguments of their kind, in the small machine: part 3.
-/
import Derived.Test.YtmbjejcfadllnaaGreatS2
import Derived.Test.YtmbjejcfadllnaaGreatS1
import Derived.Test.YtmbjejcfadllnaaGreatProg
import Derived.Test.YtmbjejcfadllnaaGreatK4
import Derived.Test.YtmbjejcfadllnaaGreatTie
import Derived.Test.YtmbjejcfadllnaaGreatEv
import Derived.Test.YtmbjejcfadllnaaGreatIns
import Derived.Test.YtmbjejcfadllnaaGreatK5
open Option renaming some → aa,none → ab
open Bool renaming true → ae,false → ag
open Go.IntKind renaming wrap → ah
open List renaming pairwise_singleton → arL, getElem?_set_self → IS, mem_append → aq4, getElem?_append_left → AI, length_append → aft, length_singleton → arz, take_succ_eq_append_getElem → aqC, find?_eq_none → arA, getElem_of_mem → aqE, pairwise_iff_getElem → aqM, take_length → aqX, getElem_mem → OF, getElem?_set_ne → AT, mem_map → aq9, map_cons → ao1, map_nil → aqD, map_append → art, length_map → aq3, filter_append → arG, filter_eq_nil_iff → arW, take_append_drop → aq0
open Nat renaming le_refl → IT
open Int renaming toNat_of_nonneg → arC, toNat_natCast → aqP
set_option linter.unusedVariables false
set_option linter.constructorNameAsVariable false
set_option linter.unusedSimpArgs false
set_option linter.unusedSectionVars false
set_option linter.unnecessarySimpa false
set_option maxRecDepth 100000
set_option maxHeartbeats 2000000
namespace Go.Proofs.YtmbjejcfadllnaaGreat
open Go Km
theorem tN{tab:Nat→Option aD}{fn:Nat}{b:Option Nat}{a:av}{k:List cd}{s:St}{Q:Option av→St→Prop}(h:WP tab fn b (.code a::.inLoop a::k) s Q):WP tab fn b (.code (.loop a)::k) s Q:=lj h fun _ _ _=>rfl
abbrev cj(l:List Int):List (List FC):=l.map fun n=>[fi n]
theorem tJ(l:List Int):bL 1 (cj l):=bL.map fun _=>rfl
def gP(H:aj)(c:C)(l:List Int)(H':aj):Prop:=∃ b,b.Perm l∧b.Pairwise (·≤·)∧LR H' c 1 (cj b)∧Kb H H' c
theorem Xa{l:List Int}(h:l.length<2):l.Pairwise (·≤·):=by
 match l,h with
 | [],_=>exact List.Pairwise.nil| [_],_=>exact arL _ _
theorem Vy{H:aj}{c:C}{l:List Int}(L:LR H c 1 (cj l))(F:l.length≤2) :
  ∃ H',Ev tab.get (.fn 151) [.c c,vi 0,vi l.length] H (.t []) H'∧gP H c l H':=by
 suffices h:∃ r H',Ev tab.get (.fn 151) [.c c,vi 0,vi l.length] H r H'∧(r=.t []∧gP H c l H') by
  obtain⟨r,H',X,rfl,m⟩:=h;exact⟨H',X,m⟩
 refine dk rfl rfl fun Q M=>?_;have w1:ah .i64 1=1:=by decide
 have w2:ah .i64 2=2:=by decide
 have K:ah .i64 0=0:=by decide
 apply ai;simp [w1];refine aC (tN (an ?_));apply ai;by_cases m:l.length<2
 ·simp [show¬ (1:Int)<(l.length:Int) by omega];refine ak (by simp) (bp rfl (iV (M _ _ _ rfl rfl ⟨rfl,l,List.Perm.refl _,Xa m,L,Kb.refl _ _⟩)))
 obtain⟨x,y,rfl⟩:∃ x y,l=[x,y]:=by
  match l,F,m with
  | [],_,m=>simp at m| [_],_,m=>simp at m| [x,y],_,_=>exact⟨x,y,rfl⟩| _::_::_::_,F,_=>simp at F
 rcases L with⟨h,_⟩ | ⟨_,b,d,rfl,N⟩
 ·simp at h
 have g:H[b]?=aa (.bG 1 [.f (fi x),.f (fi y)] 0 d .loc):=N;clear m;have j:∀(t:T) (J:aj),gP H (.sl b 0 2 0 d 1) [x,y] J→t.g 2=vi 2→t.g 6=vi 1→WP tab.get 151 ab [.inBlock 1,.code vP,.inLoop zH,.inBlock 0] ⟨t,[],J⟩ Q:=by
  intro t J B U W;refine aA (aq (.inl rfl) ?_);simp [W,w2];refine qy (an (ai ?_));simp [U];exact ak (by simp) (bp rfl (iV (M _ _ _ rfl rfl ⟨rfl,B⟩)))
 simp;refine al (by simp) (aM (an ?_));refine aC (ai ?_);simp;refine aC (tN (an (ai ?_)));have i1:aL H 1 ab (.c (.sl b 0 2 0 d 1)) (vi 1)=aa (.c (.ptr b 1 d)):=by simp [aL,dy,g]
 have i0:aL H 1 ab (.c (.sl b 0 2 0 d 1)) (vi 0)=aa (.c (.ptr b 0 d)):=by simp [aL,dy,g]
 have S:aX H ab (.c (.ptr b 1 d))=aa (vi y):=by simp [aX,aF,g,aI]
 have O:aX H ab (.c (.ptr b 0 d))=aa (vi x):=by simp [aX,aF,g,aI]
 simp [K,i1,i0,S,O,-au,Bq];by_cases z:y<x
 ·simp [z];refine al (by simp) (aM (an ?_));obtain⟨v,q⟩:=aT (H.set b (.bG 1 [.f (fi x),.f (fi x)] 0 d .loc):aj);have u:v[b]?=aa (.bG 1 [.f (fi x),.f (fi x)] 0 d .loc):=by rw [q,IS (aw g)]
  have Y:df H (.ptr b 1 d) [.f (fi x)]=aa v:=by simp [df,g,over,q]
  have I:aL v 1 ab (.c (.sl b 0 2 0 d 1)) (vi 0)=aa (.c (.ptr b 0 d)):=by simp [aL,dy,u]
  obtain⟨A,s⟩:=aT (v.set b (.bG 1 [.f (fi y),.f (fi x)] 0 d .loc):aj);have Z:df v (.ptr b 0 d) [.f (fi y)]=aa A:=by simp [df,u,over,s]
  have E:A[b]?=aa (.bG 1 [.f (fi y),.f (fi x)] 0 d .loc):=by rw [s,IS (aw u)]
  have B:gP H (.sl b 0 2 0 d 1) [x,y] A:=by
   refine⟨[y,x],List.Perm.swap _ _ _,by simp;omega,.inr ⟨by simp,b,d,rfl,E⟩,Kb.ajA ?_⟩;rw [s,q];exact(Fm.set _ _).trans (Fm.set _ _)
  refine aC (aq (.inl rfl) ?_);simp [K,i1,i0,S,O,Y,I,Z,-au,-bu];refine aA (aq (.inl rfl) ?_);simp [K];refine qy (an (ai ?_));simp;refine ak (by simp) (bp rfl ?_);exact j _ _ B (by simp) (by simp)
 ·simp [z];refine ak (by simp) (bp rfl ?_);exact j _ _ ⟨_,List.Perm.refl _,by simp;omega,.inr ⟨by simp,b,d,rfl,N⟩,Kb.refl _ _⟩ (by simp) (by simp)
theorem Ki:((List.range 3).all fun n=>match (CF tab.get 60 20 (.fn 78) [.c (.f (.int .u64 (n:Nat)))] [])with | some (.c (.f (.int .i64 (.ofNat _))),_)=>ae | _=>ag)=ae:=by kernel_rfl
theorem yI{n:Nat}(h:n≤2):∃ k:Nat,bF tab.get 78 [.c (.f (.int .u64 (n:Nat)))]=Eq (vi (k:Nat)):=by
 have b:=dm Ki (show n<3 by omega);revert b;split
 ·rename_i k H' hr;intro _;exact⟨k,(dY (by rw [hr];rfl)).eq⟩
 ·intro h;cases h
theorem Wy{H:aj}{c:C}{l:List Int}(g:LR H c 1 (cj l))(q:l.length≤2)(k:Nat) :
  ∃ H',Ev tab.get (.fn 127) [.c c,vi 0,vi l.length,vi k] H (.t []) H'∧gP H c l H':=by
 obtain⟨H',hi,m⟩:=Vy g q
 suffices h:∃ r H',Ev tab.get (.fn 127) [.c c,vi 0,vi l.length,vi k] H r H'∧(r=.t []∧gP H c l H') by
  obtain⟨r,H',b,rfl,d⟩:=h;exact⟨H',b,d⟩
 refine dk rfl rfl fun Q j=>?_;have s:ah .i64 (l.length:Int)=l.length:=aO;have hi:=hi.eq;apply ai;simp;apply ai;simp;refine aC (tN (aC (ai ?_)));simp [s];refine an (ai ?_);simp [show(l.length:Int)≤12 by omega];refine al (by simp) (ai ?_);simp [hi];exact aH (j _ _ _ rfl rfl ⟨rfl,m⟩)
theorem Lc{H:aj}{c:C}{l:List Int}(d:LR H c 1 (cj l))(g:l.length≤2) :
  ∃ H',Ev tab.get (.fn 88) [.c c] H (.t []) H'∧gP H c l H':=by
 obtain⟨k,u⟩:=yI g;obtain⟨H',hi,s⟩:=Wy d g k
 suffices h:∃ r H',Ev tab.get (.fn 88) [.c c] H r H'∧(r=.t []∧gP H c l H') by
  obtain⟨r,H',j,rfl,m⟩:=h;exact⟨H',j,m⟩
 refine dk rfl rfl fun Q q=>?_;have hi:=hi.eq;have b:=d.len;have v:IntKind.u64.wrap (l.length:Int)=l.length:=by
  have:l.length=0∨l.length=1∨l.length=2:=by omega
  rcases this with e | e | e<;>rw [e]<;>decide
 apply ai;simp [b];refine aq (.inl rfl) ?_;simp [v,u,hi];exact iV (q _ _ _ rfl rfl ⟨rfl,s⟩)
section
variable{z:ZD}{o:List bI}
def fH(h:ft z o)(b a:Int):Prop:=∃ r,fM h.S a r∧a+offO z r=b
theorem gT(h:ft z o){t:Int}{r q:Option bI}(hr:fM h.S t r)(b:fM h.S t q):r=q:=fM.uniq h.apart hr b
theorem BF(h:ft z o){t l:Int}(hr:fM h.S t ab)(b:l-offO z ab≤t):fH h l (l-offO z ab):=⟨ab,hr.xm b,by omega⟩
theorem BG(h:ft z o){t l:Int}{x:bI}(hr:fM h.S t (aa x))(b:l-offO z (aa x)≤t)(d:x.at_≤l-offO z (aa x)):fH h l (l-offO z (aa x)):=⟨aa x,hr.back d b,by omega⟩
theorem abR(h:ft z o){t:Int}{x:bI}(hr:fM h.S t (aa x)):∀ y,h.S y→y.at_≤x.at_-1→y.at_+2160≤x.at_:=by
 intro y d g;rcases h.apart x y hr.1 d with b | b | b
 ·omega
 ·exact b
 ·subst b;omega
end
def UG{z:ZD}{o:List bI}(h:ft z o)(lo:Int)(m:Nat)(tm:Int)(n:Nat):Prop:=
 (m=2∧tm=lo+1080∧n=0)∨(m=1∧tm≤lo+1079∧n≤1∧∀ y,h.S y→y.at_≤tm→y.at_≤lo-1080)∨(m=0∧tm=lo-1081∧n≤2∧∀ y,h.S y→y.at_≤tm→y.at_<lo-1080)
structure xP{z:ZD}{o:List bI}(h:ft z o)(lo tm:Int)(l:List Int):Prop where
 at_:∀ a ∈ l,fH h lo a
 low:∀ a ∈ l,tm<a
 pw:l.Pairwise (· > ·)
 all:∀ a,fH h lo a→a ∈ l∨a≤tm
structure xQ{z:ZD}{o:List bI}(h:ft z o)(lo:Int)(r:Option bI)(l:List Int):Prop where
 at_:∀ a ∈ l,fH h lo a
 low:∀ a ∈ l,∀ x,r=aa x→x.at_≤a
 pw:l.Pairwise (· > ·)
 all:∀ a,fH h lo a→a ∈ l∨∃ x,r=aa x∧a<x.at_
section
variable{z:ZD}{o:List bI}{h:ft z o}{lo tm:Int}{l:List Int}{r:Option bI}
theorem qC(h:ft z o){a:Int}(b:fH h lo a):lo-1080≤a∧a≤lo+1080:=by
 obtain⟨r,hr,e⟩:=b;have:=h.offO hr;omega
theorem xP.case(hr:fM h.S tm r){a:Int}(j:fH h lo a)(b:a≤tm):(a=lo-offO z r∧∀ x,r=aa x→x.at_≤a)∨∃ x,r=aa x∧a<x.at_:=by
 obtain⟨r',d,e⟩:=j;cases r with
 | none=>
  have:=gT h d (hr.xm b);subst this;exact .inl ⟨by omega,fun x g=>by cases g⟩
 | some x=>
  by_cases g:x.at_≤a
  ·have:=gT h d (hr.back g b);subst this;exact .inl ⟨by omega,fun y hy=>by cases hy;exact g⟩
  ·exact .inr ⟨x,rfl,by omega⟩
theorem xP.app(k:xP h lo tm l)(hr:fM h.S tm r)(j:fH h lo (lo-offO z r))(v:lo-offO z r≤tm)(q:∀ x,r=aa x→x.at_≤lo-offO z r):xQ h lo r (l++[lo-offO z r]):=by
 refine⟨fun a d=>?_,fun a d x m=>?_,?_,fun a d=>?_⟩
 ·rcases aq4.1 d with d | d
  ·exact k.at_ a d
  ·simp at d;subst d;exact j
 ·rcases aq4.1 d with d | d
  ·have:=k.low a d;subst m;have:=hr.2.1;omega
  ·simp at d;subst d;exact q x m
 ·rw [List.pairwise_append];exact⟨k.pw,arL _ _,fun a d b u=>by simp at u;have:=k.low a d;show b<a;omega⟩
 ·rcases k.all a d with g | g
  ·exact .inl (List.mem_append_left _ g)
  ·rcases xP.case hr d g with⟨e,-⟩ | s
   ·exact .inl (List.mem_append_right _ (by simp [e]))
   ·exact .inr s
theorem xP.no(k:xP h lo tm l)(hr:fM h.S tm r)(m:¬ (lo-offO z r≤tm∧∀ x,r=aa x→x.at_≤lo-offO z r)):xQ h lo r l:=by
 refine⟨k.at_,fun a b x j=>?_,k.pw,fun a b=>?_⟩
 ·have:=k.low a b;subst j;have:=hr.2.1;omega
 ·rcases k.all a b with d | d
  ·exact .inl d
  ·rcases xP.case hr b d with⟨e,g⟩ | g
   ·exact absurd ⟨by omega,fun x j=>by have:=g x j;omega⟩ m
   ·exact .inr g
theorem xQ.next{x:bI}(k:xQ h lo (aa x) l):xP h lo (x.at_-1) l:=by
 refine⟨k.at_,fun a b=>by have:=k.low a b x rfl;omega,k.pw,fun a b=>?_⟩;rcases k.all a b with d | ⟨y,hy,d⟩
 ·exact .inl d
 ·cases hy;exact .inr (by omega)
theorem xQ.done(k:xQ h lo r l)(g:∀ x,r=aa x→x.at_<lo-1080):∀ a,fH h lo a→a ∈ l:=by
 intro a d;rcases k.all a d with b | ⟨y,hy,b⟩
 ·exact b
 ·have:=g y hy;have:=qC h d;omega
theorem Vm{t:Int}{x:bI}{r2:Option bI}(hr:fM h.S t (aa x))(d:fM h.S (x.at_-1) r2)(B:x.at_+offO z r2≤lo)(E:lo<x.at_+x.off):∀ a,¬ fH h lo a:=by
 rintro a ⟨r,b,e⟩;have F:=h.offO b;have A:=h.off hr.1;have u:=h.offO d;have j:=h.apart;rcases Int.lt_or_le a x.at_ with v | m
 ·
  cases r with
  | none=>
   cases r2 with
   | none=>omega
   | some y=>
    have s:=b y d.1;have l:=d.2.1;rcases j y x d.1 hr.1 with g | g | g
    ·omega
    ·omega
    ·subst g;omega
  | some w=>
   cases r2 with
   | none=>have:=d w b.1;have:=b.2.1;omega
   | some y=>
    by_cases q:y.at_≤a
    ·have s:=b.2.2 y d.1 q;have l:=d.2.2 w b.1 (by have:=b.2.1;omega);rcases j w y b.1 d.1 with g | g | g
     ·omega
     ·omega
     ·subst g;omega
    ·have l:=d.2.1;rcases j y x d.1 hr.1 with g | g | g
     ·omega
     ·omega
     ·subst g;omega
 ·
  cases r with
  | none=>have:=b x hr.1;omega
  | some w=>
   have s:=b.2.2 x hr.1 m;have l:=b.2.1;rcases j x w hr.1 b.1 with g | g | g
   ·omega
   ·omega
   ·subst g;have:offO z (aa x)=x.off:=rfl;omega
end
theorem acR{l b:List Int}(q:b.Perm l)(j:b.Pairwise (·≤·))(g:l.Pairwise (· > ·)):b.Pairwise (· < ·):=by
 have m:l.Nodup:=List.Pairwise.imp (fun h=>by omega) g;have d:b.Nodup:=q.nodup_iff.2 m;exact List.Pairwise.imp (fun⟨s,u⟩=>by omega) (j.and d)
def aaH{z:ZD}{o:List bI}(h:ft z o)(lo e b:Int):Prop:=∀ x r2,fM h.S (lo+1080) (aa x)→fM h.S (x.at_-1) r2→x.at_+offO z r2≤lo→lo<x.at_+x.off→e=x.at_∧b=offO z r2
def UI{z:ZD}{o:List bI}(h:ft z o)(lo:Int):Prop:=∀ x r2,fM h.S (lo+1080) (aa x)→fM h.S (x.at_-1) r2→x.at_+offO z r2≤lo→lo<x.at_+x.off→False
theorem Bn{z:ZD}{o:List bI}(h:ft z o)(g:Tg){lo:Int}(l0:0≤lo)(l1:lo≤460000) :
  ∃(l:List Int) (tg:Tg) (e b:Int),l.length≤2∧l.Pairwise (· < ·)∧(∀ a,a ∈ l↔fH h lo a)∧(-1000000≤e∧e≤1000000∧-1080≤b∧b≤1080)∧(l=[]→aaH h lo e b)∧bF tab.get 50 [rT z g o,vi lo]=Eq (.t [.c (.f (sl tg (cj l))),vi e,vi b]):=by
 obtain⟨rr,⟨l,tg,e,b,hl,n_,U,m_,n5,rfl⟩,hp⟩:∃ rr,(∃(l:List Int) (tg:Tg) (e b:Int),l.length≤2∧l.Pairwise (· < ·)∧(∀ a,a ∈ l↔fH h lo a)∧(-1000000≤e∧e≤1000000∧-1080≤b∧b≤1080)∧(l=[]→aaH h lo e b)∧rr=.t [.c (.f (sl tg (cj l))),vi e,vi b])∧bF tab.get 50 [rT z g o,vi lo] rr:=by
  refine cA rfl rfl fun Q hQ=>?_;apply ai;simp;apply ai;simp [aO (n:=lo+1080)];refine an (aC ?_);refine bD (fun m s=>∃(t:T) (J:aj) (l:List Int) (c:C) (tm:Int),s=⟨t,[],J⟩∧LR J c 1 (cj l)∧xP h lo tm l∧UG h lo m tm l.length∧(m≠2→UI h lo)∧-2000≤tm∧t.g 0=rT z g o∧t.g 1=vi lo∧t.g 4=.c c∧t.g 7=vi tm) 2
   ⟨_,_,[],_,lo+1080,rfl,LR.nil _ _,⟨by simp,by simp,List.Pairwise.nil,fun a ha=>.inr (by have:=qC h ha;omega)⟩,.inl ⟨rfl,rfl,rfl⟩,fun k=>absurd rfl k,by omega,by simp,by simp,by simp,by simp⟩ ?_
  rintro m s ⟨t,J,l,c,tm,rfl,hL,U,Z,c9,o9,F,A,B,H⟩ ih;have o_:tm≤500000:=by rcases Z with⟨-,e,-⟩ | ⟨-,e,-⟩ | ⟨-,e,-⟩<;>omega
  have N:l.length≤2:=by rcases Z with⟨-,-,e⟩ | ⟨-,-,e,-⟩ | ⟨-,-,e,-⟩<;>omega
  obtain⟨r,hr,c_⟩:=h.last g (t:=tm) (by omega) (by omega);obtain⟨r',o6,k_⟩:=xo h g (t:=tm) (by omega) (by omega);obtain rfl:=gT h hr o6;have hb:=h.offO hr;have b7:∀(t:T) (J:aj) (l:List Int) (c:C) (b8:Nat),LR J c 1 (cj l)→xQ h lo r l→UG h lo m tm 0→(m=2→l.length≤1)→l.length≤2→t.g 0=rT z g o→t.g 1=vi lo→t.g 4=.c c→t.g 7=vi tm→t.g 8=.c (.ptr b8 0 0)→t.g 9=vb r.isSome →
    J[b8]?=aa (.box ((r.getD ⟨0,0⟩).row.map .f) 0) →
    WP tab.get 50 ab [.code mG,.inBlock 1,.inLoop lL,.inBlock 0,.code iD] ⟨t,[],J⟩ Q:=by
   clear hL U N F A B H Z;intro t J l c b8 hL U Z n6 N F A B H L g9 I;have b9:m=2→tm=lo+1080:=by
    intro e;rcases Z with⟨u,v,-⟩ | ⟨u,-⟩ | ⟨u,-⟩<;>omega
   have e_:∀ t:T,(∀ x,r=aa x→x.at_<lo-1080)→t.g 4=.c c→WP tab.get 50 ab [.code iD] ⟨t,[],J⟩ Q:=by
    intro t hd B;obtain⟨H',d9,l',hp,n9,m7,-⟩:=Lc hL N;have m9:=U.done hd;have d6:UI h lo:=by
     by_cases hm:m=2
     ·intro x r2 E X S h2;rw [←b9 hm]at E;have h3:=hd x (gT h hr E);have h4:=h.off E.1;omega
     ·exact c9 hm
    have d9:=d9.eq;apply ai;simp [B,d9];apply ai;simp [B];obtain⟨tg,n4⟩:=m7.ex (tJ _) 63;refine aH (hQ _ _ (.t [.c (.f (sl tg (cj l'))),vi 0,vi 0]) ⟨l',tg,0,0,by rw [hp.length_eq];exact N,acR hp n9 U.pw,fun a=>⟨fun ha=>U.at_ a (hp.subset ha),fun ha=>hp.symm.subset (m9 a ha)⟩,by decide,fun _ x r2 a b c d=>(d6 x r2 a b c d).elim,rfl⟩ ⟨rfl,.t [.c c,vi 0,vi 0],?_,?_⟩)
    ·simp [Km.results,bJ,bj]
    ·simp [iI,cg,bj,deep,n4]
   refine an (ai ?_);cases r with
   | none=>
    simp [g9];refine al (by simp) (bp rfl ?_);exact e_ _ (fun x E=>by cases E) (by simp [B])
   | some x=>
    simp [bI.row]at I;have hw:=aO (n:=lo-1080);by_cases E:x.at_<lo-1080
    ·simp [g9,L,A,I,aI,hw,E];refine al (by simp) (bp rfl ?_);exact e_ _ (fun y hy=>by cases hy;exact E) (by simp [B])
    ·simp [g9,L,A,I,aI,hw,E];refine a5 (by simp) ?_;have l7:=hr.2.1;have w1:=aO (n:=x.at_-1);obtain⟨r2,X,d8⟩:=xo h g (t:=x.at_-1) (by omega) (by omega);have a9:=h.offO X;have w2:=aO (n:=x.at_+offO z r2);have p_:=h.off hr.1;have w3:=aO (n:=x.at_+x.off);have j_:m≠0:=by
      rintro rfl;rcases Z with⟨u,-⟩ | ⟨u,-⟩ | ⟨-,-,-,K⟩
      ·cases u
      ·cases u
      ·exact E (K x hr.1 l7)
     refine an (ai ?_);simp [F,L,I,aI,w1,d8];apply ai;have next:¬ (x.at_+offO z r2≤lo∧lo<x.at_+x.off)→∀ t:T,t.g 0=rT z g o→t.g 1=vi lo→t.g 4=.c c→t.g 8=.c (.ptr b8 0 0)→WP tab.get 50 ab [.code vS,.inBlock 1,.inLoop lL,.inBlock 0,.code iD] ⟨t,[],J⟩ Q:=by
      intro n7 t F A B L;have d6:UI h lo:=by
       by_cases hm:m=2
       ·intro x' l9 O M S h2;rw [←b9 hm]at O;have u:=gT h hr O;cases u;have v:=gT h X M;subst v;exact n7 ⟨S,h2⟩
       ·exact c9 hm
      refine aq (.inl rfl) ?_;simp [L,I,aI,w1];refine aA ?_;have a_:=abR h hr;refine ih (m-1) _ (by omega) ⟨_,J,l,c,x.at_-1,rfl,hL,U.next,?_,fun _=>d6,by omega,by simp [F],by simp [A],by simp [B],by simp⟩;rcases Z with⟨u,v,-⟩ | ⟨u,v,-,K⟩ | ⟨u,-⟩
      ·exact .inr (.inl ⟨by omega,by omega,n6 u,fun y hy S=>by have:=a_ y hy S;omega⟩)
      ·have:=K x hr.1 l7;exact .inr (.inr ⟨by omega,by omega,N,fun y hy S=>by have:=a_ y hy S;omega⟩)
      ·omega
     by_cases S:x.at_+offO z r2≤lo
     ·by_cases h2:lo<x.at_+x.off
      ·simp [A,L,I,aI,w2,w3,S,h2];refine al (by simp) (ai ?_);simp [L,I,aI];refine aH (hQ _ _ (.t [.c (.f (sl .nil (cj []))),vi x.at_,vi (offO z r2)]) ⟨[],.nil,_,_,by simp,List.Pairwise.nil,fun a=>⟨fun ha=>(by cases ha),fun ha=>absurd ha (Vm hr X S h2 a)⟩,⟨by omega,by omega,a9.1,a9.2⟩,fun _ x' l9 O M k1 k2=>(by
        by_cases hm:m=2
        ·rw [←b9 hm]at O;have u:=gT h hr O;cases u;have v:=gT h X M;subst v;exact⟨rfl,rfl⟩
        ·exact(c9 hm x' l9 O M k1 k2).elim),rfl⟩ ⟨rfl,.t [.c (.f .aE),vi x.at_,vi (offO z r2)],?_,?_⟩)
       ·simp [Km.results,bJ,bj]
       ·simp [iI,cg,bj,sl,Tg.fc]
      ·simp [A,L,I,aI,w2,w3,S,h2];refine a5 (by simp) ?_;exact next (fun k=>h2 k.2) _ (by simp [F]) (by simp [A]) (by simp [B]) (by simp [L])
     ·simp [A,w2,L,I,aI,S];refine a5 (by simp) ?_;exact next (fun k=>S k.1) _ (by simp [F]) (by simp [A]) (by simp [B]) (by simp [L])
  refine aC (ai ?_);simp [F,H,c_,bI.row];obtain⟨J1,b_⟩:=aT (J++[.box [.f (fi (r.getD ⟨0,0⟩).at_),.f (fi (r.getD ⟨0,0⟩).off)] 0]:aj);rw [←b_];have I:J1[J.length]?=aa (.box [.f (fi (r.getD ⟨0,0⟩).at_),.f (fi (r.getD ⟨0,0⟩).off)] 0):=by rw [b_];simp
  have f_:LR J1 c 1 (cj l):=by rw [b_];exact hL.push _
  apply ai;simp [F,H,k_];refine an (ai ?_);simp [A,aO (n:=lo-offO z r)];have f9:UG h lo m tm 0:=by
   rcases Z with⟨u,v,-⟩ | ⟨u,v,-,K⟩ | ⟨u,v,-,K⟩
   ·exact .inl ⟨u,v,rfl⟩
   ·exact .inr (.inl ⟨u,v,by omega,K⟩)
   ·exact .inr (.inr ⟨u,v,by omega,K⟩)
  obtain⟨q,W⟩:=aT (lo-offO z r);rw [←W];have j_:q≤tm→m=2∧l.length=0∨m=1∧l.length≤1:=by
   intro j;rcases Z with⟨u,v,K⟩ | ⟨u,v,e4,K⟩ | ⟨u,v,-,K⟩<;>omega
  have d_:∀ t:T,q≤tm→xQ h lo r (l++[q])→t.g 0=rT z g o→t.g 1=vi lo→t.g 4=.c c→t.g 7=vi tm→t.g 8=.c (.ptr J.length 0 0)→t.g 9=vb r.isSome→t.g 11=vi q →
    WP tab.get 50 ab [.code vR,.code mG,.inBlock 1,.inLoop lL,.inBlock 0,.code iD] ⟨t,[],J1⟩ Q:=by
   intro t j j9 F A B H L g9 m4;obtain⟨J2,a8⟩:=aT (J1++[.box ([fi q].map .f) 0]:aj);have g_:LR J2 c 1 (cj l):=by rw [a8];exact f_.push _
   have a9:J2[J1.length]?=aa (.box ([fi q].map .f) 0):=by rw [a8];simp
   have l_:J2[J.length]?=aa (.box [.f (fi (r.getD ⟨0,0⟩).at_),.f (fi (r.getD ⟨0,0⟩).off)] 0):=by rw [a8,AI (aw I)];exact I
   obtain⟨c3,J3,i_,h_,m6,o8⟩:=g_.app (tJ l) (by decide) (row:=[fi q]) rfl (bytes:=8) (cO (by simp;omega) (by decide)) a9;have o7:=m6.2 _ _ l_ (g_.cY l_);have hm:=j_ j;refine aq (.inl rfl) ?_;have v:J1++[.box [.f (fi q)] 0]=J2:=a8.symm;simp [B,m4];rw [v];simp [i_];have K:cj l++[[fi q]]=cj (l++[q]):=by simp
   rw [K]at h_;refine b7 _ J3 (l++[q]) c3 J.length h_ j9 f9 (fun e=>by rw [aft,arz];omega) (by rw [aft,arz];omega) (by simp [F]) (by simp [A]) (by simp) (by simp [H]) (by simp [L]) (by simp [g9]) (by simpa [bI.row]using o7)
  have Y:∀ t:T,xQ h lo r l→t.g 0=rT z g o→t.g 1=vi lo→t.g 4=.c c→t.g 7=vi tm→t.g 8=.c (.ptr J.length 0 0)→t.g 9=vb r.isSome →
    WP tab.get 50 ab [.code mG,.inBlock 1,.inLoop lL,.inBlock 0,.code iD] ⟨t,[],J1⟩ Q:=by
   intro t hR F A B H L g9;exact b7 _ J1 l c J.length f_ hR f9 (by rcases Z with⟨u,v,K⟩ | ⟨u,v,e4,K⟩ | ⟨u,v,-,K⟩<;>omega) N F A B H L g9 (by simpa [bI.row]using I)
  apply ai;by_cases j:q≤tm
  ·cases r with
   | none=>
    simp [H,j];refine al (by simp) ?_;exact d_ _ j (by rw [W]at j ⊢;exact U.app hr (BF h hr (by omega)) j (fun x E=>by cases E)) (by simp [F]) (by simp [A]) (by simp [B]) (by simp [H]) (by simp) (by simp) (by simp)
   | some x=>
    simp at I;by_cases E:x.at_≤q
    ·simp [H,j,I,aI,E];refine al (by simp) ?_;exact d_ _ j (by rw [W]at j E ⊢;exact U.app hr (BG h hr (by omega) (by omega)) j (fun y hy=>by cases hy;exact E)) (by simp [F]) (by simp [A]) (by simp [B]) (by simp [H]) (by simp) (by simp) (by simp)
    ·simp [H,j,I,aI,E];refine a5 (by simp) ?_;exact Y _ (U.no hr fun k=>E (by rw [W];exact k.2 x rfl)) (by simp [F]) (by simp [A]) (by simp [B]) (by simp [H]) (by simp) (by simp)
  ·simp [H,j];refine a5 (by simp) ?_;exact Y _ (U.no hr fun k=>j (by rw [W];exact k.1)) (by simp [F]) (by simp [A]) (by simp [B]) (by simp [H]) (by simp) (by simp)
 exact⟨l,tg,e,b,hl,n_,U,m_,n5,hp.eq⟩
theorem mw:bF tab.get 51 []=Eq (.a [.f (.fn 89 []),.f (.fn 90 []),.f (.fn 91 [])]):=bF.eq (eU (m:=40) (d:=10) (by kernel_rfl))
theorem acX(a b c:V)(H:aj):Ev tab.get (.fn 89) [a,b,c] H (.c (.f .aE)) H:=by
 obtain⟨r,H',g,rfl,rfl⟩:∃ r H',Ev tab.get (.fn 89) [a,b,c] H r H'∧r=.c (.f .aE)∧H'=H:=by
  refine dk rfl rfl fun Q d=>?_;apply ai;simp;apply ai;simp;exact aH (d _ _ _ rfl (jz (by simp)) ⟨rfl,rfl⟩)
 exact g
theorem W9{a c:Int}(j:ah .i64 (a-c)=a-c)(b:V)(H:aj):Ev tab.get (.fn 90) [vi a,b,vi c] H (.c (.sl H.length 0 1 1 0 1)) (H++[.box [.f (fi (a-c))] 0]):=by
 obtain⟨r,H',g,rfl,rfl⟩:∃ r H',Ev tab.get (.fn 90) [vi a,b,vi c] H r H'∧r=.c (.sl H.length 0 1 1 0 1)∧H'=H++[.box [.f (fi (a-c))] 0]:=by
  refine dk rfl rfl fun Q d=>?_;apply ai;simp;apply ai;simp [j];exact aH (d _ _ _ rfl (jz (by simp)) ⟨rfl,rfl⟩)
 exact g
theorem aa0(a c:V)(b:Int)(H:aj):Ev tab.get (.fn 91) [a,vi b,c] H (.c (.sl H.length 0 1 1 0 1)) (H++[.box [.f (fi b)] 0]):=by
 obtain⟨r,H',g,rfl,rfl⟩:∃ r H',Ev tab.get (.fn 91) [a,vi b,c] H r H'∧r=.c (.sl H.length 0 1 1 0 1)∧H'=H++[.box [.f (fi b)] 0]:=by
  refine dk rfl rfl fun Q d=>?_;apply ai;simp;apply ai;simp;exact aH (d _ _ _ rfl (jz (by simp)) ⟨rfl,rfl⟩)
 exact g
theorem iq{z:ZD}{o:List bI}(h:ft z o){lo:Int}(l0:0≤lo)(l1:lo≤460000) :
  ∃(l:List Int) (e b:Int),l.length≤2∧l.Pairwise (· < ·)∧(∀ a,a ∈ l↔fH h lo a)∧(-1000000≤e∧e≤1000000∧-1080≤b∧b≤1080)∧(l=[]→aaH h lo e b) ∧
   ∀ cJ fold:Int,0≤cJ→cJ≤2→0≤fold→fold≤2→∃ A:Tg,bF tab.get 13 [z.v,vi lo,vi cJ,vi fold]=Eq (.t [.c (.f (sl A (cj (kR cJ fold lo l e b)))),vi 0]):=by
 obtain⟨g,U⟩:=Fw h;obtain⟨l,A,e,b,S,W,r,L,N,O⟩:=Bn h g l0 l1;have hc:=h.c;refine⟨l,e,b,S,W,r,L,N,fun cJ fold k p f i=>?_⟩;obtain⟨Y,⟨d,rfl⟩,hp⟩:∃ Y,(∃ d:Tg,Y=.t [.c (.f (sl d (cj (kR cJ fold lo l e b)))),vi 0])∧bF tab.get 13 [z.v,vi lo,vi cJ,vi fold] Y:=by
  refine cA rfl rfl fun Q hQ=>?_;apply ai;simp;obtain⟨H0,v⟩:=aT ([.box (z.row.map .f) 0]:aj);rw [←v];have z0:H0[0]?=aa (.box (z.row.map .f) 0):=by rw [v];rfl
  have a8:H0.length=1:=by rw [v];rfl
  clear v;apply ai;simp [eR z0 hc,-au,U];refine an (ai ?_);simp [xF (n:=lo) (m:=2251799813684168) (by decide) (by decide) (by omega) (by omega),show¬ cJ<0 by omega,show¬ 2<cJ by omega,show¬ fold<0 by omega,show¬ 2<fold by omega];refine a5 (by simp) ?_;apply ai;simp [O];have j:∀(t:T) (J:aj) (c:C) (d:Tg),t.g 12=.c c→da deep J c=aa (sl d (cj (kR cJ fold lo l e b)))→WP tab.get 13 ab [.inBlock 0,.code vQ] ⟨t,[],J⟩ Q:=by
   intro t J c d K M;refine aA (ai ?_);simp [K];refine aH (hQ _ _ _ ⟨d,rfl⟩ ⟨rfl,.t [.c c,vi 0],?_,?_⟩)
   ·simp [Km.results,bJ,bj]
   ·simp [iI,cg,bj,M]
  refine an (aC (ai ?_));by_cases u:l=[]
  ·subst u;have s:bE H0 (.f (sl A (cj [])))=aa 0:=by simpa using tQ (H:=H0) A (cj [])
   simp at s;simp [s];refine al (by simp) (aq (.inl rfl) ?_);have hg:cJ=0∨cJ=1∨cJ=2:=by omega
   rcases hg with rfl | rfl | rfl
   ·have q:=(acX (vi lo) (vi e) (vi b) H0).eq;simp [mw,lh,dy,aI,bQ,q];exact j _ _ (.f .aE) .nil (by simp) (by simp [kR,sl,Tg.fc])
   ·have q:=(W9 (a:=lo) (c:=b) (aO) (vi e) H0).eq;simp [mw,lh,dy,aI,bQ,q];exact j _ _ (.sl H0.length 0 1 1 0 1) .fs (by simp) (by simp [kR,sl,deep,lf])
   ·have q:=(aa0 (vi lo) (vi b) e H0).eq;simp [mw,lh,dy,aI,bQ,q];exact j _ _ (.sl H0.length 0 1 1 0 1) .fs (by simp) (by simp [kR,sl,deep,lf])
  ·have Z:0<l.length:=List.length_pos_iff.2 u;have s:bE H0 (.f (sl A (cj l)))=aa l.length:=by simpa using tQ (H:=H0) A (cj l)
   have B:sl A (cj l)=.fs (cj l).flatten l.length:=by
    have:¬ (cj l).isEmpty=ae:=by simpa using u
    unfold sl;rw [aY this];simp
   simp [s,u];refine ak (by simp) ?_;apply ai;by_cases F:fold=0
   ·subst F;simp;refine al (by simp) (aq (.inl rfl) ?_);have X:fq H0 1 (.c (.f (.fs (cj l).flatten l.length))) ab (aa (vi 1)) ab=aa (.c (.f (sl .fs (cj (l.take 1))))):=by
     rcases l with _ | ⟨x,_ | ⟨y,_ | ⟨w,l⟩⟩⟩
     ·exact absurd rfl u
     ·rfl
     ·rfl
     ·simp at S
    simp [B,X];exact j _ _ (.f (sl .fs (cj (l.take 1)))) .fs (by simp) (by simp [kR,u])
   simp [F];refine ak (by simp) ?_;apply ai;by_cases I:fold=1
   ·subst I;simp;refine al (by simp) (aq (.inl rfl) ?_);have X:fq H0 1 (.c (.f (.fs (cj l).flatten l.length))) (aa (vi ((l.length:Int)-1))) ab ab=aa (.c (.f (sl .fs (cj (l.drop (l.length-1)))))):=by
     rcases l with _ | ⟨x,_ | ⟨y,_ | ⟨w,l⟩⟩⟩
     ·exact absurd rfl u
     ·rfl
     ·rfl
     ·simp at S
    have E:bE H0 (.f (.fs (cj l).flatten l.length))=aa l.length:=B▸s;simp [B,E,aO (n:=(l.length:Int)-1),X];exact j _ _ (.f (sl .fs (cj (l.drop (l.length-1))))) .fs (by simp) (by simp [kR,u])
   simp [I];refine a5 (by simp) ?_;exact j _ _ (.f (sl A (cj l))) A (by simp) (by simp [kR,u,F,I])
 exact⟨d,hp.eq⟩
section
variable{z:ZD}{o:List bI}
noncomputable def yD (h:ft z o) (lo cJ fold:Int):List Int:=
 if b:0≤lo∧lo≤460000 then
  kR cJ fold lo (Classical.choose (iq h b.1 b.2)) (Classical.choose (Classical.choose_spec (iq h b.1 b.2))) (Classical.choose (Classical.choose_spec (Classical.choose_spec (iq h b.1 b.2))))
 else []
structure al7(h:ft z o)(lo:Int)(l:List Int)(e b:Int):Prop where
 len:l.length≤2
 pw:l.Pairwise (· < ·)
 mem:∀ a,a ∈ l↔fH h lo a
 bd:-1000000≤e∧e≤1000000∧-1080≤b∧b≤1080
 cJ:l=[]→aaH h lo e b
 run:∀ cJ fold:Int,0≤cJ→cJ≤2→0≤fold→fold≤2→∃ tg:Tg,bF tab.get 13 [z.v,vi lo,vi cJ,vi fold]=Eq (.t [.c (.f (sl tg (cj (kR cJ fold lo l e b)))),vi 0])
 ins:∀ cJ fold:Int,yD h lo cJ fold=kR cJ fold lo l e b
theorem afq(h:ft z o){lo:Int}(g:0≤lo)(j:lo≤460000):∃ l e b,al7 h lo l e b:=by
 have d:=Classical.choose_spec (Classical.choose_spec (Classical.choose_spec (iq h g j)));exact⟨_,_,_,d.1,d.2.1,d.2.2.1,d.2.2.2.1,d.2.2.2.2.1,d.2.2.2.2.2,fun cJ fold=>by unfold yD;rw [dif_pos ⟨g,j⟩]⟩
theorem Fg(h:ft z o){lo:Int}(q:0≤lo)(s:lo≤460000){cJ fold:Int}(j:0≤cJ)(m:cJ≤2)(d:0≤fold)(g:fold≤2) :
  ∃ u:Tg,bF tab.get 13 [z.v,vi lo,vi cJ,vi fold]=Eq (.t [.c (.f (sl u (cj (yD h lo cJ fold)))),vi 0]):=by
 obtain⟨l,e,b,k⟩:=afq h q s;rw [k.ins];exact k.run cJ fold j m d g
theorem qv(h:ft z o){lo:Int}(m:0≤lo)(q:lo≤460000){cJ fold:Int}(g:0≤fold)(j:fold≤2):(yD h lo cJ fold).length≤2:=by
 obtain⟨l,e,b,k⟩:=afq h m q;have s:=k.len;rw [k.ins];by_cases d:l=[]
 ·subst d;rw [KQ];split<;>decide
 ·rw [WK d ⟨g,j⟩];split<;>omega
theorem Ff(h:ft z o){lo:Int}(j:0≤lo)(m:lo≤460000){cJ fold:Int}:∀ a ∈ yD h lo cJ fold,-1000000≤a∧a≤1000000:=by
 intro a d;obtain⟨l,e,b,k⟩:=afq h j m;have q:=k.bd;rw [k.ins]at d;by_cases g:l=[]
 ·subst g;unfold kR at d;rw [bh rfl]at d;split at d
  ·cases d
  ·split at d<;>simp at d<;>omega
 ·have:=qC h ((k.mem a).1 (WL g d));omega
end
noncomputable def ud {z:ZD} {o:List bI} (h:ft z o) (s:bl) (d:Int):List uV:=
 if s.dropped d=ae then []else(yD h (s.at_ d) s.cJ s.fold).map fun a=>⟨d,a,a+s.tR d⟩
theorem KB{z:ZD}{o:List bI}(h:ft z o){s t:bl}{d:Int}(m:cN s.mv d=cN t.mv d)(b:s.mi=t.mi)(g:s.le=t.le)(j:s.cJ=t.cJ)(l:s.fold=t.fold):ud h s d=ud h t d:=by
 unfold ud bl.dropped bl.at_ bl.tR;rw [m,b,g,j,l]
def ahP(a b:uV):Prop:=a.fr<b.fr∨a.fr=b.fr∧(a.day<b.day∨a.day=b.day∧a.to<b.to)
instance(a b:uV):Decidable (ahP a b):=by unfold ahP;exact inferInstance
theorem BB{l:List aZ}(h:nq l){j:Nat}(g:j<l.length)(d:Int):cN (l.take (j+1)) d=if l[j].day=d then aa l[j]else cN (l.take j) d:=by
 unfold cN;rw [aqC g,List.find?_append];by_cases b:l[j].day=d
 ·rw [bh b];have:(l.take j).find? (fun x=>decide (x.day=d))=ab:=by
   rw [arA];intro x m;obtain⟨i,hi,rfl⟩:=aqE m;simp at hi;rw [List.getElem_take];have:=aqM.1 h i j (by omega) g (by omega);simp;omega
  rw [this];simp [b]
 ·rw [aY b];simp [b]
theorem BA{l:List aZ}(h:nq l){j:Nat}(b:j<l.length){d:Int}(g:l[j].day=d):cN l d=aa l[j]:=by
 unfold cN;have key:∀(i:Nat),i≤l.length→j<i→(l.take i).find? (fun x=>decide (x.day=d))=aa l[j]:=by
  intro i;induction i with
  | zero=>intro _ h;omega
  | succ i s=>
   intro hi m;have:=BB h (j:=i) (by omega) d;unfold cN at this;rw [this];by_cases e:j=i
   ·subst e;rw [bh g]
   ·have q:=aqM.1 h j i b (by omega) (by omega);rw [aY (by omega)];exact s (by omega) (by omega)
 have:=key l.length (IT _) b;rwa [aqX]at this
theorem Bz{l:List aZ}{d:Int}(h:∀ j (b:j<l.length),l[j].day≠d):cN l d=ab:=by
 unfold cN;rw [arA];intro x g;obtain⟨j,b,rfl⟩:=aqE g;have:=h j b;simp [this]
theorem tU{l:List aZ}{d:Int}{m:aZ}(h:cN l d=aa m):m ∈ l∧m.day=d:=by
 unfold cN at h;exact⟨List.mem_of_find?_eq_some h,by simpa using List.find?_some h⟩
def atO(s:bl)(d:Int):Option aZ→Int
 | none=>d*1440+s.mi| some m=>m.to*1440+m.mi
def loO(s:bl):Option aZ→Int
 | none=>s.le| some m=>m.le
def drO:Option aZ→Bool
 | none=>ag| some m=>m.drop
theorem aeS(s:bl)(d:Int):s.at_ d=atO s d (cN s.mv d):=by unfold bl.at_ atO;split<;>rename_i h<;>rw [h]
theorem DN(s:bl)(d:Int):s.tR d=loO s (cN s.mv d):=by unfold bl.tR loO;split<;>rename_i h<;>rw [h]
theorem yv(s:bl)(d:Int):s.dropped d=drO (cN s.mv d):=by unfold bl.dropped drO;split<;>rename_i h<;>rw [h]
structure bl.ky(s:bl):Prop where
 ok:s.OK
 ml:s.mv.length≤8
 zo:s.zo=⟨#[122]⟩
 rl:s.ru.length≤15
 le:s.le≤2880
 mo:∀ m ∈ s.mv,m.day≤44∧m.to≤44∧m.mi≤1439∧m.le≤2880
theorem bl.ky.at_{s:bl}(h:s.ky){d:Int}(u:0≤d)(v:d≤300):0≤s.at_ d∧s.at_ d≤460000:=by
 rw [aeS];have q:=h.ok.mi;cases l:cN s.mv d with
 | none=>simp only [atO];omega
 | some m=>
  have b:=(tU l).1;have x:=h.mo m b;have g:=h.ok.mo m b;simp only [atO];cases j:m.drop with
  | true=>have:=g.dr j;omega| false=>have:=g.nd j;omega
theorem bl.ky.tR{s:bl}(h:s.ky)(d:Int)(g:s.dropped d=ag):1≤s.tR d∧s.tR d≤2880:=by
 rw [DN];rw [yv]at g;cases j:cN s.mv d with
 | none=>simp only [loO];have:=h.ok.le;have:=h.le;omega
 | some m=>
  have b:=(tU j).1;have q:=h.mo m b;have l:=h.ok.mo m b;rw [j]at g;have:=l.nd g;simp only [loO];omega
structure M5 where
 a:Nat
 b:Nat
 c:Nat
 d:Nat
 e:Nat
def M5.row(x:M5):List FC:=[u8 x.a,u8 x.b,u8 x.c,u8 x.d,u8 x.e]
structure M5.OK(x:M5):Prop where
 a:x.a<256
 b:x.b<256
 c:x.c<256
 d:x.d<256
 e:x.e<256
theorem qB{x:M5}(I:x.OK):∃ m:aZ,m.OK∧(m.day≤39∧m.to≤39∧m.mi≤1275∧m.le≤256)∧bF tab.get 12 [.a (x.row.map .f)]=Eq (.a (m.row.map .f)):=by
 obtain⟨g,⟨m,u,v,rfl⟩,F⟩:∃ g,(∃ m:aZ,m.OK∧(m.day≤39∧m.to≤39∧m.mi≤1275∧m.le≤256)∧g=.a (m.row.map .f))∧bF tab.get 12 [.a (x.row.map .f)] g:=by
  obtain⟨a,b,c,d,e⟩:=x;obtain⟨y,z,A,B,E⟩:=I;simp only at y z A B E;obtain⟨p,p1,s⟩:=gL a (m:=40) (by decide);obtain⟨q,M,J⟩:=gL b (m:=40) (by decide);obtain⟨r,r1,r2⟩:=gL e (m:=4) (by decide);have L:=aO (n:=(c:Int)*5);have K:ah .i64 (1+(d:Int))=1+d:=aO;have i0:∀ H,aL H 1 (aa 5) (.c (.ptr 0 0 0)) (vi 0)=aa (.c (.ptr 0 0 0)):=fun _=>rfl;have i1:∀ H,aL H 1 (aa 5) (.c (.ptr 0 0 0)) (vi 1)=aa (.c (.ptr 0 1 0)):=fun _=>rfl;have i2:∀ H,aL H 1 (aa 5) (.c (.ptr 0 0 0)) (vi 2)=aa (.c (.ptr 0 2 0)):=fun _=>rfl;have i3:∀ H,aL H 1 (aa 5) (.c (.ptr 0 0 0)) (vi 3)=aa (.c (.ptr 0 3 0)):=fun _=>rfl;have i4:∀ H,aL H 1 (aa 5) (.c (.ptr 0 0 0)) (vi 4)=aa (.c (.ptr 0 4 0)):=fun _=>rfl;refine cA rfl rfl fun Q l=>?_;apply ai;simp [M5.row];refine an (ai ?_);simp [i4,r2];by_cases j:r=0
  ·refine al (by simp [j]) (ai ?_);simp [i0,s,mE p (by omega)];refine aH (l _ _ _ ⟨⟨p,ae,0,0,0⟩,⟨by dsimp only;omega,fun _=>⟨rfl,rfl,rfl⟩,fun h=>by cases h⟩,by dsimp only;omega,rfl⟩ ?_);simp [aZ.row,iI,cg,bj]
  ·refine ak (by simp [j]) (aM (ai ?_));simp [i0,i1,i2,i3,s,J,mE p (by omega),mE q (by omega),mE c (by omega),mE d (by omega),L,K];refine aH (l _ _ _ ⟨⟨p,ag,q,(c:Int)*5,1+d⟩,⟨(by dsimp only;omega),fun h=>(by cases h),fun _=>(by dsimp only;omega)⟩,by dsimp only;omega,rfl⟩ ?_);simp [aZ.row,iI,cg,bj]
 exact⟨m,u,v,F.eq⟩
def fX(l:List M5):List (List FC):=l.map M5.row
@[simp] theorem afF (l:List M5):(fX l).length=l.length:=by simp [fX]
theorem Bt(l:List M5):bL 5 (fX l):=bL.map fun _=>rfl
theorem Kn{l:List M5}{j:Nat}(b:j<l.length):(fX l)[j]?=aa l[j].row:=by simp [fX,b]
theorem afo{H:aj}{g:Tg}{l:List M5}{j:Nat}(b:j<l.length)(_:l.length≤9223372036854775807):aL H 5 ab (.c (.f (sl g (fX l)))) (vi j)=aa (.c (.f (.fp (fX l).flatten (j*5)))):=by
 have:=dg (H:=H) (g:=g) (rows:=fX l) (sz:=5) (k:=.i64) (i:=(j:Int)) (by omega) (by simp;omega);simpa using this
theorem ajd{H:aj}{l:List M5}{j:Nat}(b:j<l.length):aX H (aa 5) (.c (.f (.fp (fX l).flatten (j*5))))=aa (.a (l[j].row.map .f)):=by
 have:=fV (H:=H) (rows:=fX l) (j:=j) (sz:=5) (row:=l[j].row) (Bt l) (Kn b);simpa using this
structure qc where
 ng:Tg
 no:List jP
 mi:Nat
 le:Nat
 cJ:Nat
 fold:Nat
 mg:Tg
 mv:List M5
abbrev u16(n:Nat):FC:=.int .u16 n
def qc.row(x:qc):List FC:=[sl x.ng (ee x.no),u16 x.mi,u16 x.le,u8 x.cJ,u8 x.fold,sl x.mg (fX x.mv)]
structure qc.OK(x:qc):Prop where
 nl:x.no.length≤9223372036854775807
 no:∀ n ∈ x.no,n.OK
 mi:x.mi<65536
 le:x.le<65536
 cJ:x.cJ<256
 fold:x.fold<256
 ml:x.mv.length≤9223372036854775807
 mv:∀ m ∈ x.mv,m.OK
theorem Cp(n:Nat){m:Int}(d:0<m):∃ a:Nat,(a:Int)<m∧bM .rem (.c (.f (.int .u16 n))) (.c (.f (.int .u16 m)))=aa (.c (.f (.int .u16 a))):=by
 have b:=Int.emod_nonneg (n:Int) (show m≠0 by omega);have g:=Int.emod_lt_of_pos (n:Int) d;refine⟨((n:Int) % m).toNat,by omega,?_⟩;rw [mI (by omega),Int.tmod_eq_emod_of_nonneg (by omega),arC b]
theorem bl.xO.afL{a b:bl}(h:bl.xO a b)(k:b.ky):a.ky:=by
 have d:a.ru.length=b.ru.length:=by have:=congrArg List.length h.ru;simpa using this
 refine⟨⟨by rw [h.ru];exact k.ok.ru,by rw [d];exact k.ok.rl,by rw [h.mi];exact k.ok.mi,by rw [h.le];exact k.ok.le,by rw [h.zo];exact k.ok.zo,by rw [h.cJ];exact k.ok.cJ,by rw [h.fold];exact k.ok.fold,by rw [h.mv];exact k.ok.ml,by rw [h.mv];exact k.ok.ms,by rw [h.mv];exact k.ok.mo⟩,by rw [h.mv];exact k.ml,by rw [h.zo];exact k.zo,by rw [d];exact k.rl,by rw [h.le];exact k.le,by rw [h.mv];exact k.mo⟩
theorem Kt{cals:Nat}(hc:cals=0∨cals=2){x:qc}(E:x.OK) :
  ∃ s:bl,s.ky∧s.mv.length≤4∧bF tab.get 2 [.a (x.row.map .f),vi cals]=Eq s.v:=by
 obtain⟨rr,⟨s,n,h4,rfl⟩,hp⟩:∃ rr,(∃ s:bl,s.ky∧s.mv.length≤4∧rr=s.v)∧bF tab.get 2 [.a (x.row.map .f),vi cals] rr:=by
  obtain⟨r,hr,b_,O⟩:=VN hc x.ng x.no E.nl E.no;have h_:=E.mi;have g_:=E.le;have f_:=E.cJ;have f9:=E.fold;obtain⟨p,p1,rp⟩:=Cp x.mi (m:=1440) (by decide);obtain⟨q,q1,rq⟩:=Cp x.le (m:=2880) (by decide);obtain⟨a,d8,c_⟩:=gL x.cJ (m:=3) (by decide);obtain⟨Z,d6,c9⟩:=gL x.fold (m:=3) (by decide);have w1:ah .i64 (1+(q:Int))=1+q:=aO;refine cA rfl rfl fun Q hQ=>?_;apply ai;simp [qc.row];apply ai;simp [O,rp,rq,c_,c9,mE p (by omega),mE q (by omega),mE a (by omega),mE Z (by omega),w1];obtain⟨h,I⟩:=aT ([.box (x.row.map .f) 0,.box kh 0,.box ((bl.row ⟨r.tg,r.l,p,1+q,⟨#[122]⟩,a,Z,.nil,[]⟩).map .f) 0]:aj);have b7:bl.ky ⟨r.tg,r.l,p,1+q,⟨#[122]⟩,a,Z,.nil,[]⟩:=
   ⟨⟨hr,by dsimp only;omega,by dsimp only;omega,by dsimp only;omega,by dsimp only;decide,by dsimp only;omega,by dsimp only;omega,by simp,List.Pairwise.nil,by simp⟩,by simp,rfl,b_,by dsimp only;omega,by simp⟩
  have a9:h[0]?=aa (.box (x.row.map .f) 0)∧h[1]?=aa (.box kh 0):=by rw [I];exact⟨rfl,rfl⟩
  have b:h[2]?=aa (.box ((bl.row ⟨r.tg,r.l,p,1+q,⟨#[122]⟩,a,Z,.nil,[]⟩).map .f) 0):=by rw [I];rfl
  have eK:h=[.box [.f (sl x.ng (ee x.no)),.f (u16 x.mi),.f (u16 x.le),.f (u8 x.cJ),.f (u8 x.fold),.f (sl x.mg (fX x.mv))] 0,.box [.f .aE,.f (fi 0),.f (fi 0),.f (.str ⟨#[]⟩),.f (fi 0),.f (fi 0),.f .aE] 0,
   .box [.f (sl r.tg (aG r.l)),.f (fi p),.f (fi (1+q)),.f (.str ⟨#[122]⟩),.f (fi a),.f (fi Z),.f .aE] 0]:=by rw [I];rfl
  rw [←eK];refine an (ai ?_);simp;obtain⟨N,hN⟩:=aT (min x.mv.length 4);refine cw N (fun i t K=>∃ s:bl,s.ky∧s.mv.length≤i∧(K[0]?=aa (.box (x.row.map .f) 0)∧K[1]?=aa (.box kh 0))∧K[2]?=aa (.box (s.row.map .f) 0)∧t.g 2=.c (.ptr 0 0 0)∧t.g 4=.c (.ptr 1 0 0)∧t.g 5=.c (.ptr 2 0 0)) (by omega) (by decide) (by simp)
   ⟨_,b7,by simp,a9,b,by simp,by simp,by simp⟩ ?_ ?_ ?_
  ·rintro i t K L a8 ⟨s,g,j,B,b,u,H,v⟩ A hn;have h0:=B.1;have o:aX K ab (.c (.ptr 0 5 0))=aa (.c (.f (sl x.mg (fX x.mv)))):=by simp [aX,h0,aF,aI,qc.row]
   by_cases c1:(i:Int)<x.mv.length
   ·simp [A,u,o,-au,c1];exact hn _ ⟨s,g,j,B,b,by simp [u],by simp [H],by simp [v]⟩ (by simp [A]) (by simp;omega)
   ·simp [A,u,o,-au,c1];exact hn _ ⟨s,g,j,B,b,by simp [u],by simp [H],by simp [v]⟩ (by simp [A]) (by simp;omega)
  ·rintro i t K a8 ⟨s,g,j,B,b,u,H,v⟩ A nx;have h0:=B.1;have o:aX K ab (.c (.ptr 0 5 0))=aa (.c (.f (sl x.mg (fX x.mv)))):=by simp [aX,h0,aF,aI,qc.row]
   obtain⟨-,-,-,-,-,-,-,w⟩:=dI b;have J:i<x.mv.length:=by omega
   obtain⟨y,hy⟩:=aT (x.mv[i]);obtain⟨m,hm,d_,a_⟩:=qB (x:=y) (by rw [hy];exact E.mv _ (OF J));obtain⟨F,e,b9⟩:=vt g.ok (by omega) hm;have e_:=sA (m:=m) g.ok.ms;have U:bl.ky ⟨s.rg,s.ru,s.mi,s.le,s.zo,s.cJ,s.fold,s.mg,ku s.mv m⟩:=by
    have k:=g.ok;refine⟨⟨k.ru,k.rl,k.mi,k.le,k.zo,k.cJ,k.fold,by dsimp only;omega,ug k.ms,fun z X=>?_⟩,by dsimp only;omega,g.zo,g.rl,g.le,fun z X=>?_⟩
    ·rcases sB X with rfl | X
     ·exact hm
     ·exact k.mo z X
    ·rcases sB X with rfl | X
     ·omega
     ·exact g.mo z X
   have f:F.mv.length≤i+1:=by rw [e.mv];dsimp only;omega
   have d9:=aw b;obtain⟨l,d⟩:=aT (K++[.box (F.row.map .f) 0]:aj);have S:l[K.length]?=aa (.box (F.row.map .f) 0):=by rw [d];simp
   have M:(l[0]?=aa (.box (x.row.map .f) 0)∧l[1]?=aa (.box kh 0))∧l[2]?=aa (.box (s.row.map .f) 0):=by
    rw [d,AI (by omega),AI (by omega),AI (by omega)];exact⟨B,b⟩
   obtain⟨-,-,-,-,-,-,-,e9⟩:=dI S;have Y:df l (.ptr 2 0 0) (F.row.map .f)=aa (l.set 2 (.box (F.row.map .f) 0)):=by
    have:=M.2;simp [df,this,over,bl.row]
   have W:(F.row.map C.f).length=7:=rfl;have c:F.row.length=7:=rfl;refine aC (ai ?_);simp [u,v,w,o,-au,A,afo J E.ml,ajd J,←hy,a_,b9,W];rw [←d];apply ai;simp;refine al (by simp) (aq (.inl rfl) ?_);simp [v,e9,-au,c,Y,-bu];refine aA ?_;refine nx _ _ ⟨F,e.afL U,f,?_,?_,by simp [u],by simp [H],by simp [v]⟩ (by simp [A])
   ·rw [AT (by decide),AT (by decide)];exact M.1
   ·exact IS (aw M.2)
  ·rintro t K ⟨s,g,j,B,b,u,H,v⟩ A;obtain⟨-,-,-,-,-,-,-,w⟩:=dI b;have n:=B.2;have Y:df K (.ptr 1 0 0) (s.row.map .f)=aa (K.set 1 (.box (s.row.map .f) 0)):=by simp [df,n,over,bl.row,kh]
   obtain⟨l,d⟩:=aT (K.set 1 (.box (s.row.map .f) 0):aj);have S:l[1]?=aa (.box (s.row.map .f) 0):=by rw [d];exact IS (aw n)
   obtain⟨-,-,-,-,-,-,-,e9⟩:=dI S;have W:s.row.length=7:=rfl;apply ai;simp [H,v,w,-au,Y,-bu,W];rw [←d];refine aH (hQ _ _ _ ⟨s,g,by omega,rfl⟩ ⟨rfl,s.v,?_,?_⟩)
   ·simp [Km.results,bJ,bj,H,e9,-au]
   ·simp [iI,cg]
 exact⟨s,n,h4,hp.eq⟩
theorem A3(x:aZ)(d:Int):Kf tab.get 32 [.a (x.row.map .f),vi d] (vi (jS x.day d)):=by
 refine oH rfl rfl fun H Q b=>?_;apply ai;simp [aZ.row];apply ai;simp [nD];refine aH (b _ _ ?_);simp
def Vb:List FC→Int
 | .int _ n::_=>n| _=>0
theorem ej(x:aZ):Vb x.row=x.day:=rfl
theorem bsM(g:Tg)(l:List aZ)(z:nq l)(L:l.length≤1000)(d:Int):∃(i:Nat) (w:Bool),i≤l.length∧(w=ae→∃ h:i<l.length,cN l d=aa l[i])∧(w=ag→cN l d=ab) ∧
  bF tab.get 31 [.c (.f (sl g (aQ l))),vi d,.c (.f (.fn 32 []))]=Eq (.t [vi i,vb w]):=by
 have K:tab.get 31=aa (EW 5):=UK;have b:∀(j:Nat) (m:j<(aQ l).length),(aQ l)[j]=(l[j]'(by simpa using m)).row:=fun j m=>by simp [aQ]
 obtain⟨i,E,F,H,w,B,I⟩:=Dm K g (aQ l) (bR l) (.c (.f (.fn 32 []))) (fi d) (fun r=>jS (Vb r) d) (by simp;omega)
  (fun r hr=>by
   obtain⟨x,-,rfl⟩:=aq9.1 hr;exact⟨32,_,by simp [bQ],A3 x d⟩)
  (fun i j hi m h=>by
   have y:j<l.length:=by simpa using m
   have u:i<l.length:=by omega
   simp only [b,ej]at h ⊢;have:=aqM.1 z i j u y hi;rw [mJ]at h;rw [tv];omega)
 refine⟨i,w,by simpa using E,fun A=>?_,fun A=>?_,I⟩
 ·obtain⟨h,e⟩:=B.1 A;rw [b,ej,iG]at e;exact⟨by simpa using h,BA z (by simpa using h) e⟩
 ·refine Bz fun j m e=>?_;have q:j<(aQ l).length:=by simpa using m
  by_cases v:j<i
  ·have:=F j q v;rw [b,ej,jT]at this;omega
  ·by_cases s:i=j
   ·subst s;have:w=ae:=B.2 ⟨q,by rw [b,ej,iG];exact e⟩;rw [A]at this;cases this
   ·have J:=H i (by omega) (IT _);rw [b,ej,mJ]at J;have:=aqM.1 z i j (by omega) m (by omega);omega
theorem Bp(l:List uV)(x:uV):cR (l++[x])=cR l++[x.row]:=by simp [cR]
theorem ajD{z:ZD}{o:List bI}(h:ft z o){s:bl}(y:s.ky){d:Int}(d0:0≤d)(d1:d≤300) :
  ∃ g,bF tab.get 27 [s.v,z.v,vi d]=Eq (.c (.f (sl g (cR (ud h s d))))):=by
 obtain⟨rr,⟨g,rfl⟩,hp⟩:∃ rr,(∃ g,rr=.c (.f (sl g (cR (ud h s d)))))∧bF tab.get 27 [s.v,z.v,vi d] rr:=by
  have u:=y.at_ d0 d1;have h_:=y.ok.mi;have J:=y.ok.cJ;have q:=y.ok.fold;have hc:=h.c;obtain⟨i,w,hi,e_,d_,b_⟩:=bsM s.mg s.mv y.ok.ms (by have:=y.ml;omega) d;have i_:=y.ml;refine cA rfl rfl fun Q hQ=>?_;apply ai;simp;obtain⟨K,hK⟩:=aT ([.box (s.row.map .f) 0,.box (z.row.map .f) 0]:aj);have b0:K[0]?=aa (.box (s.row.map .f) 0):=by rw [hK];rfl
  have b1:K[1]?=aa (.box (z.row.map .f) 0):=by rw [hK];rfl
  rw [←hK];clear hK;obtain⟨-,e1,e2,-,e4,e5,e6,-⟩:=dI b0;have w1:=aO (n:=d*1440);have w2:=aO (n:=d*1440+s.mi);apply ai;simp [e1,e2,-au,w1,w2];refine an (ai ?_);simp [e6,-au,b_];have M:∀(t:T) (H:aj) (L:Int),s.dropped d=ag→s.tR d=L→H[0]?=aa (.box (s.row.map .f) 0)→H[1]?=aa (.box (z.row.map .f) 0)→t.g 2=vi d→t.g 3=.c (.ptr 0 0 0)→t.g 4=.c (.ptr 1 0 0)→t.g 7=vi (s.at_ d)→t.g 8=vi L →
    WP tab.get 27 ab [.code vM] ⟨t,[],H⟩ Q:=by
   intro t H L b hL b0 b1 U g3 g4 g7 W;obtain⟨-,e1,e2,-,e4,e5,e6,-⟩:=dI b0;obtain⟨p,Z⟩:=Fg h u.1 u.2 J.1 J.2 q.1 q.2;obtain⟨I,hI⟩:=aT (yD h (s.at_ d) s.cJ s.fold);have a8:=qv h u.1 u.2 (cJ:=s.cJ) q.1 q.2;have X:=Ff h u.1 u.2 (cJ:=s.cJ) (fold:=s.fold);have c_:=y.tR d b;rw [hL]at c_;have d6:ud h s d=I.map fun a=>⟨d,a,a+L⟩:=by unfold ud;rw [b,aY (by decide),←hI,hL]
   rw [←hI]at Z a8 X;have z8:aX H (aa 8) (.c (.ptr 1 0 0))=aa z.v:=eR b1 hc;apply ai;simp [g3,g4,g7,z8,e4,e5,-au,Z];apply ai;simp;have d9:bE H (.f (sl p (cj I)))=aa I.length:=by simpa using tQ (H:=H) p (cj I)
   refine an (ai ?_);simp [d9];refine fU I.length (fun j t K=>∃ c,t.g 2=vi d∧t.g 8=vi L∧t.g 57=.c (.f (sl p (cj I)))∧t.g 14=.c c∧LR K c 3 (cR ((I.take j).map fun a=>⟨d,a,a+L⟩))) (by omega) (by decide) (by decide) (by simp) (by simp)
    ⟨.f .aE,by simp [U],by simp [W],by simp,by simp,.inl ⟨rfl,.inl rfl⟩⟩ ?_ ?_
   ·rintro j t K hj ⟨c,U,W,O,N,A⟩ ha hb nx;obtain⟨a,S⟩:=aT (I[j]);have b7:=X _ (OF hj);rw [←S]at b7;have ix:aL K 1 ab (.c (.f (sl p (cj I)))) (vi j)=aa (.c (.f (.fp (cj I).flatten j))):=by
     have:=dg (H:=K) (g:=p) (rows:=cj I) (sz:=1) (k:=.i64) (i:=(j:Int)) (by omega) (by simp;omega);simpa using this
    have lx:aX K ab (.c (.f (.fp (cj I).flatten j)))=aa (vi a):=by rw [S];exact iW hj
    have wa:=aO (n:=a+L);obtain⟨x,l⟩:=aT (K++[.box ((uV.row ⟨d,a,a+L⟩).map .f) 0]:aj);have a_:LR x c 3 (cR ((I.take j).map fun a=>⟨d,a,a+L⟩)):=by rw [l];exact A.push _
    have b9:x[K.length]?=aa (.box ((uV.row ⟨d,a,a+L⟩).map .f) 0):=by rw [l];simp
    obtain⟨c',H',Y,a9,f9,f_⟩:=a_.app (mc _) (by decide) (row:=uV.row ⟨d,a,a+L⟩) rfl (bytes:=24) (cO (by simp;omega) (by decide)) b9;simp only [uV.row,ao1,aqD]at l;refine aC (ai ?_);simp [O,ha,ix,lx];refine aq (.inl rfl) ?_;simp [U,W,N,wa];rw [←l];simp [Y];refine aA ?_;refine nx _ _ ⟨c',by simp [U],by simp [W],by simp [O],by simp,?_⟩ (by simp [ha]) (by simp [hb]);rw [aqC hj,←S,art];simp only [ao1,aqD];rw [Bp];exact a9
   ·rintro t K ⟨c,U,W,O,N,A⟩ ha hb;rw [aqX,←d6]at A;obtain⟨g',hx⟩:=yJ A (mc _);apply ai;simp [N];refine aH (hQ _ _ _ ⟨g',rfl⟩ ⟨rfl,.c c,?_,?_⟩)
    ·simp [Km.results,bJ,bj]
    ·simp [iI,cg,hx]
  cases w
  ·have E:=d_ rfl;have b:s.dropped d=ag:=by rw [yv,E];rfl
   apply ai;simp;refine a5 (by simp) ?_;refine M _ _ s.le b (by rw [DN,E];rfl) b0 b1 (by simp) (by simp) (by simp) ?_ (by simp);rw [aeS,E];simp [atO]
  ·obtain⟨B,E⟩:=e_ rfl;obtain⟨m,F⟩:=aT (s.mv[i]);rw [←F]at E;have f:=y.ok.mo m (by rw [F];exact OF B);have g_:=y.mo m (by rw [F];exact OF B);have c9:=qt (H:=K) (g:=s.mg) B (by omega);have e:=xa (H:=K) B;rw [←F]at e;apply ai;simp;refine al (by simp) (ai ?_);have d8:m.row.length=5:=rfl;simp [e6,-au,c9,e,d8];obtain⟨x,l⟩:=aT (K++[.box (m.row.map .f) 0]:aj);have c0:x[0]?=aa (.box (s.row.map .f) 0):=by rw [l,AI (aw b0)];exact b0
   have c1:x[1]?=aa (.box (z.row.map .f) 0):=by rw [l,AI (aw b1)];exact b1
   have r:x[K.length]?=aa (.box (m.row.map .f) 0):=by rw [l];simp
   have f1:aX x ab (.c (.ptr K.length 1 0))=aa (vb m.drop):=by simp [aX,r,aF,aI,aZ.row]
   have f2:aX x ab (.c (.ptr K.length 2 0))=aa (vi m.to):=by simp [aX,r,aF,aI,aZ.row]
   have f3:aX x ab (.c (.ptr K.length 3 0))=aa (vi m.mi):=by simp [aX,r,aF,aI,aZ.row]
   have f4:aX x ab (.c (.ptr K.length 4 0))=aa (vi m.le):=by simp [aX,r,aF,aI,aZ.row]
   rw [←l];refine an (ai ?_);simp [f1,-au];cases b:m.drop
   ·have v:s.dropped d=ag:=by rw [yv,E];exact b
    have j9:=f.nd b;have wA:=aO (n:=m.to*1440);have wB:=aO (n:=m.to*1440+m.mi);refine ak (by simp [b]) (aM (aq (.inl rfl) ?_));simp [f2,f3,f4,-au,wA,wB];refine M _ _ m.le v (by rw [DN,E];rfl) c0 c1 (by simp) (by simp) (by simp) ?_ (by simp);rw [aeS,E];simp [atO]
   ·have v:s.dropped d=ae:=by rw [yv,E];exact b
    refine al (by simp [b]) (ai ?_);simp;refine aH (hQ _ _ _ ⟨.nil,rfl⟩ ?_);have:ud h s d=[]:=by unfold ud;rw [bh v]
    rw [this];simp [sl,cR,Tg.fc]
 exact⟨g,hp.eq⟩
theorem AU{z:ZD}{o:List bI}(h:ft z o){s:bl}(j:s.ky){d:Int}(y:0≤d)(A:d≤300) :
  ∃ g,bF tab.get 4 [s.v,z.v,vi d]=Eq (.t [.c (.f (sl g (cR (ud h s d)))),vi 0]):=by
 obtain⟨g,m⟩:=ajD h j y A;refine⟨g,bF.eq ?_⟩;have b:=Cg j.ok.ru j.ok.rl (by have:=j.ml;omega) (by have:=j.ok.zo;omega);rw [j.ok.sound]at b;have q:=Lh h;have E:=h.c;have v:=uK d 0 1099511627776;rw [show decide (0≤d∧d≤1099511627776)=ae from decide_eq_true (by omega)]at v;refine bK rfl rfl fun Q B=>?_;apply ai;simp;obtain⟨K,l⟩:=aT ([.box (s.row.map .f) 0,.box (z.row.map .f) 0]:aj);have b0:K[0]?=aa (.box (s.row.map .f) 0):=by rw [l];rfl
 have b1:K[1]?=aa (.box (z.row.map .f) 0):=by rw [l];rfl
 rw [←l];clear l;obtain⟨-,-,-,-,-,-,-,u⟩:=dI b0;have x:aX K (aa 8) (.c (.ptr 1 0 0))=aa z.v:=eR b1 E;refine an (ai ?_);simp [u,x,-au,b,q,v];refine a5 (by simp) ?_;apply ai;simp [u,x,-au,m];refine aH (B _ _ ?_);simp
theorem ZI.ahf{x:gO}{cs:List C}{c:Nat}{s h:Int}{tr:List bI}{I:C}{A:C}{t:T}{J:aj}(k:ZI x cs c s h tr I [] A t J)(N:bf A=ab)(U:tr.length≤2)(q:bI) :
  ∃ m g,bX (J++[.box (q.row.map .f) 0]) 2 16 (.c I) (.c (.sl J.length 0 1 1 0 2))=aa (.c m,g)∧df g (.ptr 3 5 0) [m]=aa (g.set 3 (mF cs s m h A)) ∧
   ∀ F,F.g 1=.c (.ptr 0 0 0)→F.g 2=.c (.ptr 1 0 0)→F.g 3=.c (.ptr 3 0 0)→ZI x cs c s h (tr++[q]) m [] A F (g.set 3 (mF cs s m h A)):=by
 obtain⟨H,b⟩:=aT (J++[.box (q.row.map .f) 0]:aj);rw [←b];have up:∀ i y,J[i]?=aa y→H[i]?=aa y:=fun i y hy=>by rw [b,AI (aw hy)];exact hy
 have B:LR H I 2 (aR tr):=by rw [b];exact k.lt.push _
 have M:H[J.length]?=aa (.box (q.row.map .f) 0):=by rw [b];simp
 obtain⟨m,g,E,u,L,S⟩:=B.app (cq tr) (by decide) (row:=q.row) rfl (bytes:=16) (cO (by simp;omega) (by decide)) M;have d:∀(i:Nat) (cs:List C) (z:Nat),J[i]?=aa (.box cs z)→g[i]?=aa (.box cs z):=fun i cs z hy=>L.2 i _ (up _ _ hy) (B.cY (up _ _ hy));have j:gN g cs c:=k.dW.wY fun i l z h _=>⟨z,d i l z h⟩
 have v:=d _ _ _ k.zb;have O:aR tr++[q.row]=aR (tr++[q]):=by simp [aR]
 rw [O]at u;refine⟨m,g,E,alr j v,fun F g1 g2 g3=>?_⟩;refine⟨?_,?_,?_,?_,?_,?_,?_,g1,g2,g3⟩
 ·rw [AT (by decide)];exact d _ _ _ k.raw
 ·rw [AT (by decide)];exact d _ _ _ k.res
 ·exact j.bY fun i y hy hi=>by rw [AT (by omega)];exact hy
 ·exact IS (aw v)
 ·exact u.set (u.cY v) _
 ·rcases k.ly with⟨K,Q⟩ | ⟨K,-⟩
  ·exact .inl ⟨K,Q⟩
  ·exact absurd rfl K
 ·intro i _;rw [N];exact fun e=>by cases e
theorem ajj{x:gO}(I:x.OK){cs:List C}{c:Nat}{s:Int}{t:T}{J:aj}(k:ZI x cs c s 0 [] (.f .aE) [] (.f .aE) t J){Q:Option av→St→Prop}
  (next:∀(t:T) (J:aj) (l:List bI) (z:C) (h:Int),ZI x cs c s h l z [] (.f .aE) t J→l.length≤3→(∀ y ∈ l,0≤y.at_∧y.at_<h∧-1080≤y.off∧y.off≤1080)→(∀(i:Nat) a b,l[i]?=aa a→l[i+1]?=aa b→a.at_+2160≤b.at_)→0≤h∧h≤40000 →
   WP tab.get 3 ab [.code sR] ⟨t,[],J⟩ Q) :
  WP tab.get 3 ab [.code xL] ⟨t,[],J⟩ Q:=by
 obtain⟨N,hN⟩:=aT (min (min x.rV.length x.yV.length) 3);apply ai;simp;refine an (ai ?_);simp;refine cw N (fun j t J=>∃ l z d,l.length=j∧TrP l d∧ZI x cs c s 0 l z [] (.f .aE) t J∧t.g 4=vi d) (by omega) (by decide) (by simp)
  ⟨[],.f .aE,0,rfl,TrP.nil,⟨k.raw,k.res,k.dW,k.zb,k.lt,k.ly,k.ne,by simp [k.g1],by simp [k.g2],by simp [k.g3]⟩,by simp⟩ ?_ ?_ ?_
 ·rintro j t J L hj ⟨l,z,d,E,q,k,F⟩ u hn;have a8:=I.gl;have a9:=I.ol;have K:=FU k.raw;have M:=FW k.raw;have B:∀ v,v.g 1=t.g 1→v.g 2=t.g 2→v.g 3=t.g 3→v.g 4=t.g 4→v.g 5=t.g 5→v.g 43=vb (decide ((j:Int)<(N:Int)))→L ⟨v,[],J⟩:=fun v e1 e2 e3 e4 e5 S=>
   hn v ⟨l,z,d,E,q,⟨k.raw,k.res,k.dW,k.zb,k.lt,k.ly,k.ne,by rw [e1];exact k.g1,by rw [e2];exact k.g2,by rw [e3];exact k.g3⟩,by rw [e4];exact F⟩ (by rw [e5];exact u) S
  by_cases O:(j:Int)<x.rV.length
  ·by_cases w:(j:Int)<x.yV.length
   ·simp [k.g1,u,K,M,-au,O,w];exact B _ (by simp [k.g1]) (by simp [k.g2]) (by simp [k.g3]) (by simp) (by simp) (by simp;omega)
   ·simp [k.g1,u,K,M,-au,O,w];exact B _ (by simp [k.g1]) (by simp [k.g2]) (by simp [k.g3]) (by simp) (by simp) (by simp;omega)
  ·simp [k.g1,u,K,M,-au,O];exact B _ (by simp [k.g1]) (by simp [k.g2]) (by simp [k.g3]) (by simp) (by simp) (by simp;omega)
 ·rintro j t J hj ⟨l,z,d,E,q,k,F⟩ u nx;have U:j<x.rV.length:=by omega
  have X:j<x.yV.length:=by omega
  have bg:=I.ga _ (OF U);have bo:=I.of _ (OF X);have W:=q.lo;have K:=FU k.raw;have M:=FW k.raw;have i1:=qq (g:=x.gg) U (H:=J);have i2:=qq (g:=x.og) X (H:=J);have d1:=tO U (H:=J);have d2:=tO X (H:=J);have f:=aO (n:=d+2160);have o:ah .i64 ((x.rV[j]:Nat):Int)=((x.rV[j]:Nat):Int):=aO;have p:=aO (n:=20*((x.rV[j]:Nat):Int));have r:=aO (n:=d+2160+20*((x.rV[j]:Nat):Int));have Y:=zn bo;obtain⟨c3,H3,A,Z,hk⟩:=k.ahf rfl (by omega) ⟨d+2160+20*((x.rV[j]:Nat):Int),lC x.yV[j]⟩;simp only [bI.row,ao1,aqD]at A;refine aC (ai ?_);simp [k.g1,F,u,K,i1,d1,-au,f,o,p,r];refine aq (.inl rfl) ?_;simp [k.g1,k.g3,u,M,i2,d2,-au,Y,alp k.dW k.zb,A,Z,-bu];refine aA ?_;refine nx _ _ ⟨_,_,_,by simp;omega,q.app (by omega) bg (m:=x.yV[j]),hk _ (by simp [k.g1]) (by simp [k.g2]) (by simp [k.g3]),by simp⟩ (by simp [u])
 rintro t J ⟨l,z,d,E,q,k,F⟩ u;have W:=q.lo;have bb:=I.be;have l3:=ak7 k.raw;have f:=aO (n:=d+2160);have o:ah .i64 ((x.be:Nat):Int)=((x.be:Nat):Int):=aO;have p:=aO (n:=20*((x.be:Nat):Int));have r:=aO (n:=d+2160+20*((x.be:Nat):Int));apply ai;simp [k.g1,k.g3,F,l3,-au,f,o,p,r,alq k.dW k.zb,-bu];refine next _ _ l z (d+2160+20*((x.be:Nat):Int)) ⟨?_,?_,?_,?_,?_,?_,k.ne,by simp [k.g1],by simp [k.g2],by simp [k.g3]⟩ q.tl (fun y e=>by have:=q.tb y e;omega) q.ts (by omega)
 ·rw [AT (by decide)];exact k.raw
 ·rw [AT (by decide)];exact k.res
 ·exact k.dW.bY fun i y e hi=>by rw [AT (by omega)];exact e
 ·exact IS (aw k.zb)
 ·exact k.lt.set (k.lt.cY k.zb) _
 ·exact k.ly.set (k.ly.cY k.zb) _
theorem ZI.ahk{x:gO}{cs:List C}{c:Nat}{s h:Int}{tr:List bI}{B:C}{yr:List ey}{M:C}{t:T}{J:aj}(k:ZI x cs c s h tr B yr M t J)(Y:yr.length≤2)(q:ey) :
  ∃ v j,bX (J++[.box (q.row.map .f) 0]) 5 40 (.c M) (.c (.sl J.length 0 1 1 0 5))=aa (.c v,j)∧df j (.ptr 3 7 0) [v]=aa (j.set 3 (mF cs s B h v)) ∧
   (∀(b:Nat) (l:List C) (m:Nat),J[b]?=aa (.box l m)→b≠3→(j.set 3 (mF cs s B h v))[b]?=aa (.box l m)) ∧
   ∀ K,K.g 1=.c (.ptr 0 0 0)→K.g 2=.c (.ptr 1 0 0)→K.g 3=.c (.ptr 3 0 0)→ZI x cs c s h tr B (yr++[q]) v K (j.set 3 (mF cs s B h v)):=by
 obtain⟨L,d⟩:=aT (J++[.box (q.row.map .f) 0]:aj);rw [←d];have up:∀ i y,J[i]?=aa y→L[i]?=aa y:=fun i y hy=>by rw [d,AI (aw hy)];exact hy
 have F:LR L M 5 (bO yr):=by rw [d];exact k.ly.push _
 have N:L[J.length]?=aa (.box (q.row.map .f) 0):=by rw [d];simp
 obtain⟨v,j,I,A,E,Q⟩:=F.app (jB yr) (by decide) (row:=q.row) rfl (bytes:=40) (cO (by simp;omega) (by decide)) N;have g:∀(i:Nat) (cs:List C) (m:Nat),J[i]?=aa (.box cs m)→j[i]?=aa (.box cs m):=fun i cs m hy=>E.2 i _ (up _ _ hy) (F.cY (up _ _ hy));have z:gN j cs c:=k.dW.wY fun i l m h _=>⟨m,g i l m h⟩
 have u:=g _ _ _ k.zb;have U:bO yr++[q.row]=bO (yr++[q]):=by simp [bO]
 rw [U]at A;have H:LR j B 2 (aR tr):=k.lt.bY fun i y hy hi=>E.2 i y (up _ _ hy) (k.ne i hi);refine⟨v,j,I,aee z u,fun b l m W O=>by rw [AT (Ne.symm O)];exact g _ _ _ W,fun K g1 g2 g3=>?_⟩;refine⟨?_,?_,?_,?_,?_,?_,?_,g1,g2,g3⟩
 ·rw [AT (by decide)];exact g _ _ _ k.raw
 ·rw [AT (by decide)];exact g _ _ _ k.res
 ·exact z.bY fun i y hy hi=>by rw [AT (by omega)];exact hy
 ·exact IS (aw u)
 ·exact H.set (H.cY u) _
 ·exact A.set (A.cY u) _
 ·intro i hi;rcases Q with e | e
  ·rw [e];exact k.ne i hi
  ·rw [e];intro S;cases S;have:=k.lt.lt hi;have X:L.length=J.length+1:=by rw [d];simp
   omega
theorem ZI.ahl{x:gO}{cs:List C}{c:Nat}{s h:Int}{tr:List bI}{v:C}{yr:List ey}{q:ey}{y:C}{t:T}{J:aj}(k:ZI x cs c s h tr v (yr++[q]) y t J)(B:yr.length≤1) :
  ∃ b j F,aL J 5 ab (.c y) (vi yr.length)=aa (.c (.ptr b (yr.length*5) j))∧df J (.ptr b (yr.length*5+1) j) [.f (fi 5)]=aa F ∧
   ∀ m,m.g 1=.c (.ptr 0 0 0)→m.g 2=.c (.ptr 1 0 0)→m.g 3=.c (.ptr 3 0 0)→ZI x cs c s h tr v (yr++[⟨q.mo,5,q.wd,q.mi,q.off⟩]) y m F:=by
 rcases k.ly with⟨H,_⟩ | ⟨_,b,j,e,d⟩
 ·simp [bO]at H
 subst e;unfold RB at d;have g:∀(i:Nat) (l:List C) (u:Nat),J[i]?=aa (.box l u)→b≠i:=by
  rintro i l u hi rfl;rw [d]at hi;cases hi
 have z:bf v≠aa b:=fun e=>k.ne b e rfl;have key:∃ cs',df J (.ptr b (yr.length*5+1) j) [.f (fi 5)]=aa (J.set b (.bG 5 cs' 0 j .loc))∧cs'=(bO (yr++[⟨q.mo,5,q.wd,q.mi,q.off⟩])).flatten.map .f:=by
  match yr,B,d with
  | [],_,d=>exact⟨_,by simp [df,d,over,bO,ey.row];rfl,by simp [bO,ey.row]⟩
  | [p],_,d=>exact⟨_,by simp [df,d,over,bO,ey.row];rfl,by simp [bO,ey.row]⟩
  | _::_::_,B,_=>simp at B
 obtain⟨cs',E,A⟩:=key;refine⟨b,j,_,?_,E,fun m g1 g2 g3=>?_⟩
 ·simp [aL,dy,d];omega
 refine⟨?_,?_,?_,?_,?_,?_,?_,g1,g2,g3⟩
 ·rw [AT (g _ _ _ k.raw)];exact k.raw
 ·rw [AT (g _ _ _ k.res)];exact k.res
 ·exact k.dW.wY fun i l u h _=>⟨u,by rw [AT (g _ _ _ h)];exact h⟩
 ·rw [AT (g _ _ _ k.zb)];exact k.zb
 ·exact k.lt.set z _
 ·refine .inr ⟨by simp [bO],b,j,?_,?_⟩
  ·simp
  ·unfold RB;rw [IS (aw d),A]
 ·exact k.ne
theorem ajl{x:gO}(M:x.OK){cs:List C}{c:Nat}{s h:Int}{r:List bI}{H:C}{yr:List ey}{I:C}{t:T}{J:aj}(k:ZI x cs c s h r H yr I t J){j:Nat}(E:j<2)(Y:yr.length=j)(z:t.g 6=vi j){K:List cd}{Q:Option av→St→Prop}
  (next:∀(t:T) (J:aj) (q:ey) (I:C),q.OK→ZI x cs c s h r H (yr++[q]) I t J→t.g 6=vi j→WP tab.get 3 ab K ⟨t,[],J⟩ Q) :
  WP tab.get 3 ab (.code Al::K) ⟨t,[],J⟩ Q:=by
 have y0:=M.y j 0 E (by decide);have y1:=M.y j 1 E (by decide);have y2:=M.y j 2 E (by decide);have y3:=M.y j 3 E (by decide);have lr:=aoA k.raw E;have X:aL J 4 (aa 2) (.c (.ptr 0 4 0)) (vi j)=aa (.c (.ptr 0 (4+j*4) 0)):=by simp [aL,dy];omega
 refine aC (ai ?_);simp [k.g1,z,X,lr,-au];obtain⟨g,d⟩:=aT (J++[.box [.f (u8 (x.y j 0)),.f (u8 (x.y j 1)),.f (u8 (x.y j 2)),.f (u8 (x.y j 3))] 0]:aj);rw [←d];have O:∀ i y,J[i]?=aa y→g[i]?=aa y:=fun i y N=>by rw [d,AI (aw N)];exact N
 have L:g[J.length]?=aa (.box [.f (u8 (x.y j 0)),.f (u8 (x.y j 1)),.f (u8 (x.y j 2)),.f (u8 (x.y j 3))] 0):=by rw [d];simp
 have k1:∀ F,F.g 1=.c (.ptr 0 0 0)→F.g 2=.c (.ptr 1 0 0)→F.g 3=.c (.ptr 3 0 0)→ZI x cs c s h r H yr I F g:=fun F g1 g2 g3=>
  ⟨O _ _ k.raw,O _ _ k.res,k.dW.bY fun i y N _=>O i y N,O _ _ k.zb,by rw [d];exact k.lt.push _,by rw [d];exact k.ly.push _,k.ne,g1,g2,g3⟩
 have n3:J.length≠3:=by have:=aw k.zb;omega
 have v:=k1 t k.g1 k.g2 k.g3;have l0:aX g ab (.c (.ptr J.length 0 0))=aa (.c (.f (u8 (x.y j 0)))):=by simp [aX,aF,L,aI]
 have l1:aX g ab (.c (.ptr J.length 1 0))=aa (.c (.f (u8 (x.y j 1)))):=by simp [aX,aF,L,aI]
 have l2:aX g ab (.c (.ptr J.length 2 0))=aa (.c (.f (u8 (x.y j 2)))):=by simp [aX,aF,L,aI]
 have i0:aL g 1 (aa 4) (.c (.ptr J.length 0 0)) (vi 0)=aa (.c (.ptr J.length 0 0)):=by simp [aL,dy]
 have i1:aL g 1 (aa 4) (.c (.ptr J.length 0 0)) (vi 1)=aa (.c (.ptr J.length 1 0)):=by simp [aL,dy]
 have i2:aL g 1 (aa 4) (.c (.ptr J.length 0 0)) (vi 2)=aa (.c (.ptr J.length 2 0)):=by simp [aL,dy]
 have r0:bM .rem (.c (.f (u8 (x.y j 0)))) (.c (.f (.int .u8 3)))=aa (.c (.f (u8 (x.y j 0 % 3)))):=uN _ (by decide);have r2:bM .rem (.c (.f (u8 (x.y j 2)))) (.c (.f (.int .u8 5)))=aa (.c (.f (u8 (x.y j 2 % 5)))):=uN _ (by decide);have r3:bM .rem (.c (.f (u8 (x.y j 3)))) (.c (.f (.int .u8 2)))=aa (.c (.f (u8 (x.y j 3 % 2)))):=uN _ (by decide);have o:=zn (n:=x.y j 2 % 5) (by omega);have w0:=aO (n:=1+(j:Int));have w1:=aO (n:=(x.y j 0:Int) % 3);have w2:ah .i64 ((x.y j 1:Nat):Int)=((x.y j 1:Nat):Int):=aO;have w3:=aO (n:=((x.y j 1:Nat):Int)*5);obtain⟨c3,H3,l,p,A,Z⟩:=v.ahk (by omega) ⟨1+(j:Int),1,(x.y j 0:Int) % 3,((x.y j 1:Nat):Int)*5,lC (x.y j 2 % 5)⟩;have e:ey.OK ⟨1+(j:Int),1,(x.y j 0:Int) % 3,((x.y j 1:Nat):Int)*5,lC (x.y j 2 % 5)⟩:=
  ⟨by simp only;omega,.inl rfl,by simp only;omega,by simp only;omega,by simp only;omega,by simp only;omega,(kj _).1,(kj _).2⟩
 have f:ey.OK ⟨1+(j:Int),5,(x.y j 0:Int) % 3,((x.y j 1:Nat):Int)*5,lC (x.y j 2 % 5)⟩:=
  ⟨by simp only;omega,.inr rfl,by simp only;omega,by simp only;omega,by simp only;omega,by simp only;omega,(kj _).1,(kj _).2⟩
 simp only [ey.row,ao1,aqD]at l;apply ai;simp [k.g3,z,aed v.dW v.zb,-au,i0,i1,i2,l0,l1,l2,r0,r2,o,w0,w1,w2,w3,l,p,-bu];obtain⟨w,W⟩:=aT (H3.set 3 (mF cs s H h c3):aj);rw [←W]at Z A ⊢;have S:=A _ _ _ L n3;have l3:aX w ab (.c (.ptr J.length 3 0))=aa (.c (.f (u8 (x.y j 3)))):=by simp [aX,aF,S,aI]
 have i3:aL w 1 (aa 4) (.c (.ptr J.length 0 0)) (vi 3)=aa (.c (.ptr J.length 3 0)):=by simp [aL,dy]
 have u:=Z t k.g1 k.g2 k.g3;apply ai;by_cases h3:x.y j 3 % 2=1
 ·simp [i3,l3,r3,-au,h3];refine al (by simp) (aq (.inl rfl) ?_);obtain⟨b,ep,H5,B,m,a⟩:=u.ahl (by omega);rw [Y]at B m;simp [k.g3,z,aed u.dW u.zb,-au,B,m,-bu];exact aA (next _ _ _ _ f (a _ (by simp [k.g1]) (by simp [k.g2]) (by simp [k.g3])) (by simp [z]))
 ·have U:x.y j 3 % 2=0:=by omega
  simp [i3,l3,r3,-au,U];refine a5 (by simp) ?_;exact aA (next _ _ _ _ e (Z _ (by simp [k.g1]) (by simp [k.g2]) (by simp [k.g3])) (by simp [z]))
theorem ajk{x:gO}(hx:x.OK){cs:List C}{c:Nat}{s h:Int}{v:List bI}{E:C}{t:T}{J:aj}(k:ZI x cs c s h v E [] (.f .aE) t J)(hs:-1080≤s∧s≤1080)(a9:v.length≤3)(a8:∀ y ∈ v,0≤y.at_∧y.at_<h∧-1080≤y.off∧y.off≤1080)
  (a_:∀(i:Nat) a b,v[i]?=aa a→v[i+1]?=aa b→a.at_+2160≤b.at_) (hh:0≤h∧h≤40000) {Q:Option av→St→Prop}
  (hQ:∀ j s z o,ft z o→n8 [.cell (P.nat 2) (aa 8)] (.a (z.row.map .f)) s→Q j s) :
  WP tab.get 3 ab [.code sR] ⟨t,[],J⟩ Q:=by
 have hc:=k.dW.lt;have pre:∀(K M:Tg) (yr:List ey),aaK ⟨c,s,K,v,h,M,yr⟩:=fun K M yr=>⟨hc,hs,a9,a8,a_,hh⟩
 refine an (ai ?_);cases hr:x.rules with
 | false=>
  simp [k.g1,B9 k.raw,-au,hr];refine al (by simp) (ai ?_);obtain⟨z,o,J',hz,I,Z⟩:=k.e.fin ⟨.nil,.nil,[],(pre .nil .nil []).none rfl⟩ (((t.s 77 (.c (.ptr 0 13 0))).s 78 (vb ag)).s 79 (vb ae) |>.s 80 (.a (cs++[.f (fi s),E,.f (fi h),.f .aE]))) (by simp [k.g2]);have F:cs.length=4:=by obtain⟨a,b,d,e,W⟩:=k.dW.four;rw [W];rfl
  simp [k.g2,k.g3,EK k.dW k.zb,-au,F,I,-bu];exact aH (hQ _ _ z o hz Z)
 | true=>
  simp [k.g1,B9 k.raw,-au,hr];refine a5 (by simp) ?_;refine an (ai ?_);simp;refine cw 2 (fun j t J=>∃ yr g,yr.length=j∧(∀ q ∈ yr,q.OK)∧ZI x cs c s h v E yr g t J) (by decide) (by decide) (by simp)
   ⟨[],_,rfl,by simp,⟨k.raw,k.res,k.dW,k.zb,k.lt,k.ly,k.ne,by simp [k.g1],by simp [k.g2],by simp [k.g3]⟩⟩ ?_ ?_ ?_
  ·rintro j t J L hj ⟨yr,g,u,m,k⟩ O hn;simp [O];exact hn _ ⟨yr,g,u,m,⟨k.raw,k.res,k.dW,k.zb,k.lt,k.ly,k.ne,by simp [k.g1],by simp [k.g2],by simp [k.g3]⟩⟩ (by simp [O]) (by simp)
  ·rintro j t J hj ⟨yr,g,u,m,k⟩ O nx;refine ajl hx k hj u O fun t J q g hq k g6=>?_;refine nx _ _ ⟨yr++[q],g,by simp;omega,fun p N=>?_,⟨k.raw,k.res,k.dW,k.zb,k.lt,k.ly,k.ne,by simp [k.g1],by simp [k.g2],by simp [k.g3]⟩⟩ g6;rcases aq4.1 N with N | N
   ·exact m p N
   ·simp at N;subst N;exact hq
  rintro t J ⟨yr,g,u,m,k⟩ O;obtain⟨r,q,rfl⟩:∃ r q,yr=[r,q]:=by
   match yr,u with
   | [r,q],_=>exact⟨r,q,rfl⟩
  obtain⟨K,M,Y⟩:=k.e.ex;obtain⟨e,hv,he⟩:=EE (pre K M [r,q]) (r:=r) (q:=q) rfl (m r (by simp)) (m q (by simp));have S:=Y J (fun _ _ h _=>h);have U:cg deep J (.a (cs++[.f (fi s),E,.f (fi h),g]))=aa (ZD.v ⟨c,s,K,v,h,M,[r,q]⟩):=by
   simp only [cg,deep,S];rfl
  have B:∀(t:T) (J:aj) (yr:List ey) (g:C),ZE cs c s h v E yr g J→t.g 2=.c (.ptr 1 0 0)→t.g 3=.c (.ptr 3 0 0)→(∃ K M o,ft ⟨c,s,K,v,h,M,yr⟩ o)→WP tab.get 3 ab [.code Am] ⟨t,[],J⟩ Q:=by
   intro t J yr g k g2 g3 ho;apply ai;obtain⟨z,o,J',hz,I,Z⟩:=k.fin ho (t.s 122 (.a (cs++[.f (fi s),E,.f (fi h),g]))) (by simp [g2]);have F:cs.length=4:=by obtain⟨a,b,d,e,W⟩:=k.dW.four;rw [W];rfl
   simp [g2,g3,EK k.dW k.zb,-au,F,I,-bu];exact aH (hQ _ _ z o hz Z)
  have A:=k.e.marked;refine an (ai ?_);simp only [cg]at U;simp [k.g3,EK k.dW k.zb,-au];simp only [U,Option.bind_some,aaI,hv,ahQ];obtain⟨J5,X⟩:=aT (iX deep g (iX deep E (List.foldl (fun H x=>iX deep x H) J cs)));rw [←X]at A ⊢;simp;by_cases h0:e=0
  ·subst h0;obtain⟨o,ho⟩:=he rfl;simp;refine a5 (by simp) ?_;exact B _ _ _ _ A (by simp [k.g2]) (by simp [k.g3]) ⟨_,_,o,ho⟩
  ·simp [h0];refine al (by simp) (aq (.inl rfl) ?_);simp [k.g3,aee A.dW A.zb,-bu];refine B _ _ [] (.f .aE) ⟨?_,?_,?_,?_,.inl ⟨rfl,.inl rfl⟩⟩ (by simp [k.g2]) (by simp [k.g3]) ⟨.nil,.nil,[],(pre .nil .nil []).none rfl⟩
   ·rw [AT (by decide)];exact A.res
   ·exact A.dW.bY fun i y hy hi=>by rw [AT (by omega)];exact hy
   ·exact IS (aw A.zb)
   ·exact A.lt.bY fun i s l fl ep st h=>⟨fl,by rw [AT (by rintro rfl;rw [A.zb]at h;cases h)];exact h⟩
theorem Ks{x:gO}(m:x.OK):∃ z o,ft z o∧bF tab.get 3 [.a (x.row.map .f)]=Eq (.a (z.row.map .f)):=by
 obtain⟨B,⟨z,o,O,rfl⟩,M⟩:∃ B,(∃ z o,ft z o∧B=.a (z.row.map .f))∧bF tab.get 3 [.a (x.row.map .f)] B:=by
  refine cA rfl rfl fun Q K=>?_;have q:∀ j s z o,ft z o→n8 [.cell (P.nat 2) (aa 8)] (.a (z.row.map .f)) s→Q j s:=fun j s z o H I=>K j s _ ⟨z,o,H,rfl⟩ I;have N:=kj x.st;have u:=zn m.st;have g:=m.dW;have rest:∀(t:T) (J:aj) (cs:List C) (c:Nat),ZI x cs c (lC x.st) 0 [] (.f .aE) [] (.f .aE) t J→WP tab.get 3 ab [.code xL] ⟨t,[],J⟩ Q:=fun t J cs c k=>
   ajj m k fun t J Y X h k y v A L=>ajk m k N y v A L q
  apply ai;simp;obtain⟨E,b⟩:=aT (.box (x.row.map .f) 0:cS);rw [←b];have S:∀(b1:cS) (J:aj),aX (E::b1::J) ab (.c (.ptr 0 0 0))=aa (.c (.f (u8 x.st))):=fun b1 J=>by simp [aX,aF,b,aI,gO.row]
  have d:∀(b1:cS) (J:aj),aX (E::b1::J) ab (.c (.ptr 0 12 0))=aa (.c (.f (u8 x.dW))):=fun b1 J=>by simp [aX,aF,b,aI,gO.row]
  have r2:bM .rem (.c (.f (u8 x.dW))) (.c (.f (.int .u8 2)))=aa (.c (.f (u8 (x.dW % 2)))):=uN _ (by decide);have U:bM .quo (.c (.f (u8 x.dW))) (.c (.f (.int .u8 2)))=aa (.c (.f (u8 (x.dW / 2)))):=u8_quo g (by decide);have r4:bM .rem (.c (.f (u8 (x.dW / 2)))) (.c (.f (.int .u8 2)))=aa (.c (.f (u8 (x.dW / 2 % 2)))):=uN _ (by decide);have W:=aO (n:=(x.dW:Int) / 2 % 2);apply ai;simp [S,-au,u];refine an (ai ?_);by_cases l:x.dW % 2=1
  ·simp [d,-au,r2,l];refine al (by simp) (aq (.inl rfl) ?_);simp [d,-au,U,r4,W];refine rest _ _ [.f (fi 5),.sl 4 0 2 2 0 1,.f (fi 1),.sl 5 0 1 1 0 3] (x.dW / 2 % 2+1) ⟨by rw [b];rfl,rfl,.inr ⟨x.dW / 2 % 2,by omega,rfl,rfl,⟨0,rfl⟩,0,rfl⟩,rfl,LR.nil _ _,LR.nil _ _,(fun i h=>by cases h),by simp,by simp,by simp⟩
  ·have F:x.dW % 2=0:=by omega
   simp [d,-au,r2,F];refine a5 (by simp) ?_;refine rest _ _ [.f (fi 2),.sl 2 0 2 2 0 1,.f (fi (-1)),.f .aE] 0 ⟨by rw [b];rfl,rfl,.inl ⟨rfl,rfl,0,rfl⟩,rfl,LR.nil _ _,LR.nil _ _,(fun i h=>by cases h),by simp,by simp,by simp⟩
 exact⟨z,o,O,M.eq⟩
theorem DG{H:aj}{g:Tg}{l:List uV}{j:Nat}(b:j<l.length)(d:l.length≤100000):aL H 3 ab (.c (.f (sl g (cR l)))) (vi j)=aa (.c (.f (.fp (cR l).flatten (j*3)))):=by
 have:=dg (H:=H) (g:=g) (rows:=cR l) (sz:=3) (k:=.i64) (i:=(j:Int)) (by omega) (by simp;omega);simpa using this
theorem VF{H:aj}{l:List uV}{j:Nat}(b:j<l.length):aX H (aa 3) (.c (.f (.fp (cR l).flatten (j*3))))=aa (.a (l[j].row.map .f)):=fV (mc l) (Ke b)
theorem ag6:bF tab.get 1 [] (vb ae):=vD (B3 ev)
theorem gI{x:List FC}(h:∃ m,x=[FC.int .u8 m]∧Lit.wf (.int .u8 m)):∃ m:Nat,x=[u8 m]∧m<256:=by
 obtain⟨m,rfl,b⟩:=h;simp [Lit.wf,IntKind.min,IntKind.max,IntKind.signed,IntKind.bits]at b;refine⟨m.toNat,?_,by omega⟩;have:((m.toNat:Nat):Int)=m:=arC b.1;simp [this]
theorem F6{x:List FC}(h:∃ m,x=[FC.int .u16 m]∧Lit.wf (.int .u16 m)):∃ m:Nat,x=[u16 m]∧m<65536:=by
 obtain⟨m,rfl,b⟩:=h;simp [Lit.wf,IntKind.min,IntKind.max,IntKind.signed,IntKind.bits]at b;refine⟨m.toNat,?_,by omega⟩;have:((m.toNat:Nat):Int)=m:=arC b.1;simp [this]
theorem DL{n:Nat}(h:n≤maxLen):n≤9223372036854775807:=Nat.le_trans h (by decide)
theorem ti{n:Nat}{ys:List FC}(h:lE Tryz.prog (n+2) 27 ys):∃ g l,ys=[sl g (dj l)]∧l.length≤9223372036854775807∧∀ m ∈ l,m<256:=by
 obtain⟨g,rows,rfl,_,d,hr⟩:=qS Tryz.underlying27 h;obtain⟨l,rfl,j⟩:=kU (enc:=fun n:Nat=>[u8 n]) (p:=fun n=>n<256) fun r b=>gI (eX Tryz.underlying5 (hr r b));exact⟨g,l,rfl,DL (by simpa using d),j⟩
theorem E_{n:Nat}{ys:List FC}(h:lE Tryz.prog (n+2) 28 ys):∃ y:Nat→Nat,ys=[u8 (y 0),u8 (y 1),u8 (y 2),u8 (y 3)]∧∀ i,i<4→y i<256:=by
 obtain⟨rows,rfl,g,_,hr⟩:=sJ Tryz.underlying28 h;obtain⟨l,rfl,j⟩:=kU (enc:=fun n:Nat=>[u8 n]) (p:=fun n=>n<256) fun r m=>gI (eX Tryz.underlying5 (hr r m))
 match l,g,j with
 | [a,b,c,d],_,j=>
  refine⟨fun i=>match i with | 0=>a | 1=>b | 2=>c | _=>d,rfl,fun i hi=>?_⟩;have:i=0∨i=1∨i=2∨i=3:=by omega
  rcases this with rfl | rfl | rfl | rfl
  ·exact j a (by simp)
  ·exact j b (by simp)
  ·exact j c (by simp)
  ·exact j d (by simp)
 | [],g,_=>simp at g| [_],g,_=>simp at g| [_,_],g,_=>simp at g| [_,_,_],g,_=>simp at g| _::_::_::_::_::_,g,_=>simp at g
theorem FP{n:Nat}{ys:List FC}(h:lE Tryz.prog (n+4) 31 ys):∃ x:gO,ys=x.row∧x.OK:=by
 obtain⟨_,S,rfl,b,B⟩:=c6 (nO (ts:=[5,27,27,5,29,5,4]) Tryz.underlying31 rfl h);obtain⟨st,rfl,b1⟩:=gI (eX Tryz.underlying5 b);obtain⟨_,U,rfl,b,E⟩:=c6 B;obtain⟨gg,j,rfl,L,v⟩:=ti b;obtain⟨_,W,rfl,b,F⟩:=c6 E;obtain⟨og,l,rfl,lo,y⟩:=ti b;obtain⟨_,X,rfl,b,H⟩:=c6 F;obtain⟨u,rfl,q⟩:=gI (eX Tryz.underlying5 b);obtain⟨_,Y,rfl,b,I⟩:=c6 H;obtain⟨rows,rfl,d,_,hr⟩:=sJ Tryz.underlying29 b;obtain⟨_,Z,rfl,b,J⟩:=c6 I;obtain⟨m,rfl,s⟩:=gI (eX Tryz.underlying5 b);obtain⟨_,M,rfl,b,K⟩:=c6 J;obtain⟨g,rfl⟩:=Xb Tryz.underlying4 b;obtain rfl:M=[]:=K
 match rows,d,hr with
 | [r0,r1],_,hr=>
  obtain⟨N,rfl,z⟩:=E_ (hr r0 (by simp));obtain⟨O,rfl,A⟩:=E_ (hr r1 (by simp));refine⟨⟨st,gg,j,og,l,u,fun k=>if k=0 then N else O,m,g⟩,rfl,b1,L,lo,v,y,q,fun k i Q hi=>?_,s⟩;simp only;split
  ·exact z i hi
  ·exact A i hi
 | [],d,_=>simp at d| [_],d,_=>simp at d| _::_::_::_,d,_=>simp at d
theorem ai6{x:List FC}(h:∃ m,x=[FC.int .i8 m]∧Lit.wf (.int .i8 m)):∃ m:Int,x=[.int .i8 m]∧-128≤m∧m≤127:=by
 obtain⟨m,rfl,b⟩:=h;simp [Lit.wf,IntKind.min,IntKind.max,IntKind.signed,IntKind.bits]at b;exact⟨m,rfl,by omega,by omega⟩
theorem acP{n:Nat}{ys:List FC}(h:lE Tryz.prog (n+4) 173 ys):∃ x:jP,ys=x.row∧x.OK:=by
 obtain⟨_,A,rfl,b,l⟩:=c6 (nO (ts:=[5,171,5,27]) Tryz.underlying173 rfl h);obtain⟨k,rfl,b1⟩:=gI (eX Tryz.underlying5 b);obtain⟨_,B,rfl,b,q⟩:=c6 l;obtain⟨m,rfl,d⟩:=ai6 (eX Tryz.underlying171 b);obtain⟨_,E,rfl,b,s⟩:=c6 q;obtain⟨o,rfl,g⟩:=gI (eX Tryz.underlying5 b);obtain⟨_,z,rfl,b,u⟩:=c6 s;obtain⟨y,li,rfl,v,j⟩:=ti b;obtain rfl:z=[]:=u;exact⟨⟨k,m,o,y,li⟩,rfl,b1,d,g,v,j⟩
theorem ad0{n:Nat}{ys:List FC}(h:lE Tryz.prog (n+2) 77 ys):∃ x:M5,ys=x.row∧x.OK:=by
 obtain⟨rows,rfl,g,_,hr⟩:=sJ Tryz.underlying77 h;obtain⟨l,rfl,j⟩:=kU (enc:=fun n:Nat=>[u8 n]) (p:=fun n=>n<256) fun r m=>gI (eX Tryz.underlying5 (hr r m))
 match l,g,j with
 | [a,b,c,d,e],_,j=>exact⟨⟨a,b,c,d,e⟩,rfl,j a (by simp),j b (by simp),j c (by simp),j d (by simp),j e (by simp)⟩
 | [],g,_=>simp at g| [_],g,_=>simp at g| [_,_],g,_=>simp at g| [_,_,_],g,_=>simp at g| [_,_,_,_],g,_=>simp at g| _::_::_::_::_::_::_,g,_=>simp at g
theorem FO{n:Nat}{ys:List FC}(h:lE Tryz.prog (n+6) 26 ys):∃ x:qc,ys=x.row∧x.OK:=by
 obtain⟨_,W,rfl,b,E⟩:=c6 (nO (ts:=[22,23,23,5,5,24]) Tryz.underlying26 rfl h);obtain⟨Q,rows,rfl,_,B,hr⟩:=qS Tryz.underlying22 b;obtain⟨S,rfl,l⟩:=kU (enc:=jP.row) (p:=fun x=>x.OK) fun r d=>acP (hr r d);obtain⟨_,X,rfl,b,F⟩:=c6 E;obtain⟨N,rfl,s⟩:=F6 (eX Tryz.underlying23 b);obtain⟨_,Y,rfl,b,H⟩:=c6 F;obtain⟨L,rfl,u⟩:=F6 (eX Tryz.underlying23 b);obtain⟨_,Z,rfl,b,I⟩:=c6 H;obtain⟨A,rfl,v⟩:=gI (eX Tryz.underlying5 b);obtain⟨_,a,rfl,b,J⟩:=c6 I;obtain⟨z,rfl,y⟩:=gI (eX Tryz.underlying5 b);obtain⟨_,U,rfl,b,K⟩:=c6 J;obtain⟨M,q,rfl,_,g,m⟩:=qS Tryz.underlying24 b;obtain⟨O,rfl,j⟩:=kU (enc:=M5.row) (p:=fun x=>x.OK) fun r d=>ad0 (m r d);obtain rfl:U=[]:=K;exact⟨⟨Q,S,N,L,A,z,M,O⟩,rfl,DL (by simpa using B),l,s,u,v,y,DL (by simpa using g),j⟩
theorem WU{a:V}(h:pU Tryz.prog 26 a):∃ x:qc,a=.a (x.row.map .f)∧x.OK:=by
 rcases h with⟨xs,rfl,b,_⟩ | ⟨x,rfl,b⟩
 ·obtain⟨x,rfl,d⟩:=FO (n:=34) b;exact⟨x,rfl,d⟩
 ·exfalso;obtain⟨x,e,_⟩:=FO (n:=34) b;simp [qc.row]at e
theorem WV{a:V}(h:pU Tryz.prog 31 a):∃ x:gO,a=.a (x.row.map .f)∧x.OK:=by
 rcases h with⟨xs,rfl,b,_⟩ | ⟨x,rfl,b⟩
 ·obtain⟨x,rfl,d⟩:=FP (n:=36) b;exact⟨x,rfl,d⟩
 ·exfalso;obtain⟨x,e,_⟩:=FP (n:=36) b;simp [gO.row]at e
def XC(H J:aj):Prop:=∀(i:Nat) (y:cS),H[i]?=aa y→J[i]?=aa y
def UJ(J:aj)(b:Nat)(l:List aN)(rest:List C):Prop:=
 ∃ ps:List (aN × C),ps.map (·.1)=l∧J[b]?=aa (.box (ig ps++rest) 0)∧∀ p ∈ ps,LR J p.2 1 (ints p.1.d.li)∧∀ i,bf p.2=aa i→b<i
theorem V6(ps:List (aN × C))(x:aN)(c:C)(z rest:List C)(b:z.length=8)(n:Nat)(d:n=ps.length*8):over (ig ps++(z++rest)) n (x.dA c)=ig (ps++[(x,c)])++rest:=by
 have h:=oQ (ig ps) (z++rest) (x.dA c) (by rw [aft,b];show 8≤_;omega);rw [d,←iR ps,h,wC,List.drop_left' (show z.length=(x.dA c).length from b)]
theorem Bb{H:aj}(g:Tg)(l:List aN)(hl:l.length≤64)(c9:∀ x ∈ l,x.d.li.length≤61) :
  ∃ r,∃ J:aj,Ev tab.get (.fn 33) [.c (.f (sl g (aG l)))] H r J∧r=.c (.sl H.length 0 l.length (l.length+1) 0 8)∧UJ J H.length l eT∧XC H J:=by
 refine dk (C:=fun r (J:aj)=>r=.c (.sl H.length 0 l.length (l.length+1) 0 8)∧UJ J H.length l eT∧XC H J) aek rfl fun Q hQ=>?_;apply ai;simp;have w1:ah .i64 ((l.length:Int)+1)=((l.length+1:Nat):Int):=by rw [aO];omega
 have L:bN (l.length+1) 88=ae:=cO (by omega) (by decide);have f:∀(t:T) (K:aj),(R 7).ev t=vi l.length→(R 10).ev t=vi (l.length+1:Nat)→bs t K (.cE 8 88 [fi 0,fi 0,fi 0,fi 0,fi 0,fi 0,.aE,.str ⟨#[]⟩] (R 7) (R 10))=aa (.c (.sl K.length 0 l.length (l.length+1) 0 8),K++[.box (bV (l.length+1) eT) 0]):=fun t K h1 h2=>by
  have e:bV (l.length+1) eT=(bV (l.length+1) [fi 0,fi 0,fi 0,fi 0,fi 0,fi 0,FC.aE,.str ⟨#[]⟩]).map C.f:=by simp [bV,eT,List.map_flatten]
  rw [e];simp only [bs,h1,h2,dy];rw [bh ⟨by omega,by omega,by simpa using L,rfl⟩,aY (by omega)];simp
 obtain⟨z,hz⟩:=aT (bV (l.length+1) eT:List C);rw [←hz]at f;apply ai;simp [w1,f];obtain⟨b,hb⟩:=aT (H.length);obtain⟨K0,E⟩:=aT (H++[.box z 0]:aj);have k0:K0[b]?=aa (.box z 0):=by rw [E,hb];simp
 have ko:∀ i y,H[i]?=aa y→K0[i]?=aa y:=fun i y h=>by rw [E,AI (aw h)];exact h
 have f9:b<K0.length:=aw k0;rw [←E,←hb];rw [←hb]at hQ;refine an (ai ?_);simp;refine fU l.length (fun j t J=>t.g 3=.c (.sl b 0 l.length (l.length+1) 0 8)∧t.g 12=.c (.f (sl g (aG l)))∧UJ J b (l.take j) (bV (l.length+1-j) eT)∧XC H J) (by omega) (by decide) (by decide) (by simp) (by simp)
  ⟨by simp,by simp,⟨[],by simp,by rw [k0,hz];rfl,by simp⟩,ko⟩ ?_ ?_
 ·rintro j t J hj ⟨g3,B,⟨ps,w,Z,X⟩,d⟩ ha Y next
  obtain⟨x,hx⟩:=aT (l[j]);have o:ps.length=j:=by have:=congrArg List.length w;simpa [Nat.min_eq_left (Nat.le_of_lt hj)]using this
  have e_:=aw Z;have b9:∀ K,aL K 8 ab (.c (.f (sl g (aG l)))) (vi j)=aa (.c (.f (.fp (aG l).flatten (j*8)))):=fun K=>by
   have:=dg (H:=K) (g:=g) (rows:=aG l) (sz:=8) (k:=.i64) (i:=(j:Int)) (by omega) (by simp;omega);simpa using this
  have b_:∀ K,aX K (aa 8) (.c (.f (.fp (aG l).flatten (j*8))))=aa (.a (x.row.map .f)):=fun K=>by
   rw [hx];exact fV (dO l) (jv hj)
  obtain⟨q,hq⟩:=aT (J.length);have d8:x.row.length=8:=rfl;obtain⟨N,m⟩:=aT (J++[.box (x.row.map .f) 0]:aj);have a8:N[q]?=aa (.box (x.row.map .f) 0):=by rw [m,hq];simp
  have f_:N.length=J.length+1:=by rw [m];simp
  have o2:XC J N:=fun i y h=>by
   rw [m,AI (aw h)];exact h
  obtain⟨-,-,-,-,-,-,e6,-⟩:=oJ a8;obtain⟨r,H3,a,c,Jc,rfl,rfl,W,F⟩:=wG (H:=N) x.tg x.d.li (by rw [hx];have:=c9 _ (OF hj);omega);obtain⟨J3,U⟩:=aT (N++Jc:aj);have o3:XC N J3:=fun i y h=>by rw [U,AI (aw h)];exact h
  rw [←U]at a W;have a9:=o3 _ _ a8;have d9:df J3 (.ptr q 6 0) [c]=aa (J3.set q (.box (x.dA c) 0)):=by simp [df,a9,over,aN.row,aN.dA]
  obtain⟨v,s⟩:=aT (J3.set q (.box (x.dA c) 0):aj);have d6:v[q]?=aa (.box (x.dA c) 0):=by rw [s];exact IS (aw a9)
  have o4:XC J v:=fun i y h=>by
   rw [s,AT (by have:=aw h;omega)];exact o3 _ _ (o2 _ _ h)
  have e8:aX v (aa 8) (.c (.ptr q 0 0))=aa (.a (x.dA c)):=by simp [aX,d6,aF,aI,aN.dA]
  have u:=o4 _ _ Z;obtain⟨M,a_⟩:=aT (bV (l.length+1-(j+1)) eT);have S:bV (l.length+1-j) eT=eT++M:=by
   rw [a_,show l.length+1-j=(l.length+1-(j+1))+1 by omega];simp [bV,List.replicate_succ]
  rw [S]at u;have c_:=V6 ps x c eT M rfl (j*8) (by rw [o]);have A:(x.dA c).length=8:=rfl;have d_:df v (.ptr b (j*8) 0) (x.dA c)=aa (v.set b (.box (ig (ps++[(x,c)])++M) 0)):=by
   simp only [df,u,c_];rw [bh ⟨Nat.zero_le _,by rw [aft,iR,aft,o,A,show eT.length=8 from rfl];omega⟩]
  have g_:b≠q:=by omega
  have b7:∀ K,K[b]?=aa (cS.box (ig ps++(eT++M)) 0)→aL K 8 ab (.c (.sl b 0 l.length (l.length+1) 0 8)) (vi j)=aa (.c (.ptr b (j*8) 0)):=fun K h=>by
   simp only [aL,dy,h];rw [bh (by omega),bh (by omega)];simp
  have n:UJ (v.set b (.box (ig (ps++[(x,c)])++M) 0)) b (l.take (j+1)) M:=by
   refine⟨ps++[(x,c)],by rw [art,w,aqC hj,hx];rfl,IS (aw u),fun p O=>?_⟩;rcases aq4.1 O with O | O
   ·obtain⟨h1,h2⟩:=X p O;refine⟨((h1.bY fun i y hy hi=>o4 i y hy)).set (fun e=>by have:=h2 b e;omega) _,h2⟩
   ·simp at O;subst O;refine⟨?_,fun i h=>by have:=F i h;omega⟩;rw [s];exact(W.set (fun e=>by have:=F q e;omega) _).set (fun e=>by have:=F b e;omega) _
  have I:XC H (v.set b (.box (ig (ps++[(x,c)])++M) 0)):=fun i y h=>by
   rw [AT (by have:=aw h;omega)];exact o4 _ _ (d _ _ h)
  refine aC (ai ?_);simp [B,ha,b9,b_,-au,d8];rw [←m,←hq];apply ai;simp [e6,-au];refine⟨_,_,a,?_⟩;simp [d9,-bu];rw [←s];refine aq (.inl rfl) ?_;simp [g3,e8,-au,b7 v u,d_,-bu,A];exact aA (next _ _ ⟨by simp [g3],by simp [B],by rw [←a_];exact n,I⟩ (by simp [ha]) (by simp [Y]))
 ·rintro t J ⟨g3,B,hR,d⟩ ha Y;rw [aqX,show l.length+1-l.length=1 by omega,show bV 1 eT=eT by simp [bV]]at hR;apply ai;simp [g3];refine aH (hQ _ _ _ rfl (by simp [Km.results,bj]) ⟨rfl,hR,d⟩)
theorem ac3:tab.get lF=ab:=rfl
theorem EZ{sz:Nat}:∀ {rows:List (List FC)} (i:Nat),bL sz rows→i≤rows.length→rows.flatten.take (i*sz)=(rows.take i).flatten∧rows.flatten.drop (i*sz)=(rows.drop i).flatten
 | rows,0,_,_=>by simp
 | [],i+1,_,h=>by simp at h
 | r::rows,i+1,b,h=>by
  have hr:r.length=sz:=b r List.mem_cons_self;obtain⟨d,g⟩:=EZ (rows:=rows) i (fun x j=>b x (List.mem_cons_of_mem _ j)) (by simpa using h);simp only [List.flatten_cons,List.take_succ_cons,List.drop_succ_cons];rw [Nat.succ_mul,Nat.add_comm,←hr,List.take_append,List.drop_append];simp only [Nat.add_sub_cancel_left,List.take_of_length_le (Nat.le_add_right _ _),List.drop_of_length_le (Nat.le_add_right _ _)];rw [hr,d,g];simp
theorem Vi{f:Nat}{args:List V}{H H':aj}{r:V}(b:f=lF)(h:J8 args H=aa (r,H')):Ev tab.get (.fn f) args H r H':=by
 subst b;refine⟨0,1,?_⟩;have d:nJ tab.get lF args H=aa (aa (r,H')):=by simp [nJ,ac3,prm,h]
 simp only [CF,dG,d]
theorem Ka{K:aj}{c:C}{rows:List (List FC)}(x:LR K c 5 rows)(A:bL 5 rows)(U:rows.length≤1000){i:Nat}(hi:i≤rows.length){row:List FC}(d:row.length=5){vb:Nat}(H:K[vb]?=aa (.box (row.map .f) 0)) :
  ∃ m u,Ev tab.get (.fn 1000000000) [.c c,vi i,.c (.sl vb 0 1 1 0 5)] K (.c m) u∧LR u m 5 (rows.take i++row::rows.drop i)∧Kb K u c∧(bf m=bf c∨bf m=aa K.length):=by
 have l:cT K 5 (.c (.sl vb 0 1 1 0 5))=aa (1,row.map .f):=jQ H (by simp [d]);rcases Nat.lt_or_ge i rows.length with E | N
 ·rcases x with⟨rfl,_⟩ | ⟨Q,b,s,rfl,v⟩
  ·simp at E
  ·have g:=v;unfold RB at g;have z:rows.flatten.length=rows.length*5:=eE A;obtain⟨I,J⟩:=EZ i A hi;refine⟨.sl b 0 (rows.length+1) 0 (s+1) 5,K.set b (.bG 5 (((rows.take i++row::rows.drop i).flatten).map .f) 0 (s+1) .loc),Vi rfl ?_,.inr ⟨by simp,b,s+1,?_,?_⟩,⟨by simp,fun j y S F=>?_⟩,.inl rfl⟩
   ·have O:bE K (.sl b 0 rows.length 0 s 5)=aa rows.length:=by simp [bE,g]
    simp only [J8,O,l];rw [aY (by omega)];simp only [zk,g,H];rw [bh ⟨trivial,trivial,trivial,trivial,trivial,by rw [aq3];exact z,trivial,by omega,by omega,by omega,by simp [d]⟩]
    congr 4
    rw [aqP,←List.map_take,←List.map_drop,I,J];simp
   ·congr 1
    simp only [aft,List.length_take,List.length_cons,List.length_drop];omega
   ·unfold RB;exact IS (aw g)
   ·have:b≠j:=by rintro rfl;exact F rfl
    rw [AT this];exact S
 ·have B:i=rows.length:=by omega
  subst B;obtain⟨m,H',q,L,v,M⟩:=x.app A (by decide) d (bytes:=40) (cO (by omega) (by decide)) H;refine⟨m,H',Vi rfl ?_,by rw [aqX,List.drop_length];exact L,v,M⟩;simp only [J8,x.len,l];rw [bh trivial];exact q
theorem Fy{A B:List aZ}{m:aZ}(d:∀ x ∈ A,x.day<m.day)(g:∀ x ∈ B,m.day<x.day):ku (A++B) m=A++m::B:=by
 unfold ku;rw [arG,arG];have a1:A.filter (fun x=>decide (x.day<m.day))=A:=List.filter_eq_self.2 fun x b=>decide_eq_true (d x b);have j:A.filter (fun x=>decide (m.day<x.day))=[]:=arW.2 fun x b=>by have:=d x b;simp;omega
 have b1:B.filter (fun x=>decide (x.day<m.day))=[]:=arW.2 fun x b=>by have:=g x b;simp;omega
 have l:B.filter (fun x=>decide (m.day<x.day))=B:=List.filter_eq_self.2 fun x b=>decide_eq_true (g x b);rw [a1,j,b1,l];simp
theorem afZ{A B:List aZ}{m x:aZ}(b:∀ x ∈ A,x.day<m.day)(g:x.day=m.day)(d:∀ x ∈ B,m.day<x.day):ku (A++x::B) m=A++m::B:=by
 have h:=Fy b d;unfold ku at h ⊢;rw [arG,arG]at h ⊢;rw [List.filter_cons_of_neg (by simp;omega),List.filter_cons_of_neg (by simp;omega)];exact h
theorem al_(g:Tg)(l:List aZ)(B:nq l)(Q:l.length≤1000)(d:Int):∃(i:Nat) (w:Bool),i≤l.length∧(∀ x ∈ l.take i,x.day<d)∧(w=ae→∃ h:i<l.length,l[i].day=d∧∀ x ∈ l.drop (i+1),d<x.day)∧(w=ag→∀ x ∈ l.drop i,d<x.day) ∧
  bF tab.get 31 [.c (.f (sl g (aQ l))),vi d,.c (.f (.fn 32 []))]=Eq (.t [vi i,vb w]):=by
 have M:tab.get 31=aa (EW 5):=UK;have m:∀(j:Nat) (q:j<(aQ l).length),(aQ l)[j]=(l[j]'(by simpa using q)).row:=fun j q=>by simp [aQ]
 obtain⟨i,I,J,K,w,F,L⟩:=Dm M g (aQ l) (bR l) (.c (.f (.fn 32 []))) (fi d) (fun r=>jS (Vb r) d) (by simp;omega)
  (fun r hr=>by
   obtain⟨x,-,rfl⟩:=aq9.1 hr;exact⟨32,_,by simp [bQ],A3 x d⟩)
  (fun i j hi q h=>by
   have b:j<l.length:=by simpa using q
   have s:i<l.length:=by omega
   simp only [m,ej]at h ⊢;have:=aqM.1 B i j s b hi;rw [mJ]at h;rw [tv];omega)
 have v:∀ j (q:j<l.length),i≤j→d≤l[j].day:=fun j q z=>by
  have u:=K j (by simpa using q) z;rw [m,ej,mJ]at u;exact u
 refine⟨i,w,by simpa using I,fun x y=>?_,fun E=>?_,fun E x y=>?_,L⟩
 ·obtain⟨j,q,rfl⟩:=aqE y;have b:j<l.length:=by simp at q;omega
  have u:=J j (by simpa using b) (by simp at q;omega);rw [m,ej,jT]at u;rw [List.getElem_take];exact u
 ·obtain⟨h,e⟩:=F.1 E;rw [m,ej,iG]at e;have s:i<l.length:=by simpa using h
  refine⟨s,e,fun x y=>?_⟩;obtain⟨j,q,rfl⟩:=aqE y;have b:i+1+j<l.length:=by simp at q;omega
  have:=aqM.1 B i (i+1+j) s b (by omega);rw [List.getElem_drop];omega
 ·obtain⟨j,q,rfl⟩:=aqE y;have b:i+j<l.length:=by simp at q;omega
  rw [List.getElem_drop];have N:=v (i+j) b (by omega);by_cases H:l[i+j].day=d
  ·exfalso;by_cases A:j=0
   ·subst A;have:w=ae:=F.2 ⟨by simpa using b,by rw [m,ej,iG];exact H⟩;rw [E]at this;cases this
   ·have O:=v i (by omega) (IT _);have:=aqM.1 B i (i+j) (by omega) b (by omega);omega
  ·omega
theorem UJ.bY{J K:aj}{b:Nat}{l:List aN}{rest:List C}(h:UJ J b l rest)(j:∀(i:Nat) (y:cS),J[i]?=aa y→b≤i→K[i]?=aa y):UJ K b l rest:=by
 obtain⟨ps,m,q,d⟩:=h;exact⟨ps,m,j _ _ q (IT _),fun p g=>⟨(d p g).1.bY fun i y hy hi=>j i y hy (Nat.le_of_lt ((d p g).2 i hi)),(d p g).2⟩⟩
theorem UJ.ex{J:aj}{b:Nat}{l:List aN}{rest:List C}(h:UJ J b l rest){cap:Nat}:∃ g,∃ d:List aN,dB d=dB l∧da deep J (.sl b 0 l.length cap 0 8)=aa (sl g (aG d)):=by
 obtain⟨ps,rfl,q,s⟩:=h;obtain⟨d,j,u⟩:=yj (J:=J) 62 fun p x=>(s p x).1;refine⟨.fs,d,by rw [j];simp [dB],?_⟩;have m:d.length=ps.length:=by have:=congrArg List.length j;simpa using this
 show da (63+1) J _=_;rw [lf,q];have e:(((ig ps++rest).drop 0).take (ps.length*8))=ig ps:=by rw [List.drop_zero,List.take_left' (iR ps)]
 rw [aq3];simp only [e,u,Option.map_some];rw [bh (by rw [aft,iR];omega)];unfold sl;split
 ·rename_i v;have:d=[]:=by simpa using v
  subst this;have:ps=[]:=by cases ps with
   | nil=>rfl| cons _ _=>simp at m
  subst this;rfl
 ·rw [kL,m]
theorem W0(g:Tg)(l:List aZ):FC.beq 64 (sl g (aQ l)) (sl g (aQ l))=ae:=by
 unfold sl;split
 ·cases g<;>rfl
 ·have:kZ (FC.beq 63) (aQ l).flatten (aQ l).flatten=ae:=nB fun x b=>by
   obtain⟨r,hr,b⟩:=List.mem_flatten.1 b;obtain⟨m,-,rfl⟩:=aq9.1 hr;simp [aZ.row]at b;rcases b with rfl | rfl | rfl | rfl | rfl<;>simp [FC.beq]
  simp [FC.beq,this]
def bl.iQ(s:bl)(a c:C):List C:=[a,cI s.mi,cI s.le,.f (.str s.zo),cI s.cJ,cI s.fold,c]
theorem sy{s:bl}(h:s.OK)(u6:s.mv.length≤60){m:aZ}(hm:m.OK) :
  ∃ q,bl.xO q ⟨s.rg,s.ru,s.mi,s.le,s.zo,s.cJ,s.fold,s.mg,ku s.mv m⟩∧bF tab.get 5 [s.v,.a (m.row.map .f)]=Eq (.t [q.v,vi 0]):=by
 obtain⟨rr,⟨q',o6,rfl⟩,hp⟩:∃ rr,(∃ q',bl.xO q' ⟨s.rg,s.ru,s.mi,s.le,s.zo,s.cJ,s.fold,s.mg,ku s.mv m⟩∧rr=.t [q'.v,vi 0])∧bF tab.get 5 [s.v,.a (m.row.map .f)] rr:=by
  have Y:=Cg h.ru h.rl (by omega) (by have:=h.zo;omega);rw [h.sound]at Y;have j_:=xg m;rw [Bx hm]at j_;refine cA rfl rfl fun Q hQ=>?_;apply ai;simp;obtain⟨H,hH⟩:=aT ([.box (s.row.map .f) 0,.box (m.row.map .f) 0,.box kh 0]:aj);have b0:H[0]?=aa (.box (s.row.map .f) 0):=by rw [hH];rfl
  have b1:H[1]?=aa (.box (m.row.map .f) 0):=by rw [hH];rfl
  have b2:H[2]?=aa (.box kh 0):=by rw [hH];rfl
  have hl:H.length=3:=by rw [hH];rfl
  simp only [kh]at hH;rw [←hH];clear hH;obtain⟨-,-,-,-,-,-,-,e7⟩:=dI b0;have e5:aX H (aa 5) (.c (.ptr 1 0 0))=aa (.a (m.row.map .f)):=by simp [aX,b1,aF,aI,aZ.row]
  have l7:aX H ab (.c (.ptr 1 0 0))=aa (vi m.day):=by simp [aX,b1,aF,aI,aZ.row]
  have N:∀ K:aj,K[0]?=aa (.box (s.row.map .f) 0)→aX K ab (.c (.ptr 0 6 0))=aa (.c (.f (sl s.mg (aQ s.mv)))):=fun K hK=>by simp [aX,hK,aF,aI,bl.row]
  have b_:∀ K:aj,K[0]?=aa (.box (s.row.map .f) 0)→aX K ab (.c (.ptr 0 0 0))=aa (.c (.f (sl s.rg (aG s.ru)))):=fun K hK=>by simp [aX,hK,aF,aI,bl.row]
  refine an (ai ?_);simp [e7,e5,-au,Y,j_];refine a5 (by simp) ?_;obtain⟨i,w,hi,j9,o_,o9,m9⟩:=al_ s.mg s.mv h.ms (by omega) m.day;apply ai;simp [N H b0,l7,-au,m9];obtain⟨r,J,X,rfl,hR,M⟩:=Bb (H:=H) s.rg s.ru h.rl (fun x hx=>by
   obtain⟨i,hi,rfl⟩:=aqE hx;have:=(h.ru.at_ i (by simpa using hi)).ok.1;simpa using this)
  rw [hl]at X hR;have j0:=M _ _ b0;have j1:=M _ _ b1;have j2:=M _ _ b2;obtain⟨r,Z,g_,c,Jc,rfl,rfl,d8,W⟩:=A9 (F:=34) (sz:=5) (zs:=[fi 0,.bool ag,fi 0,fi 0,fi 0]) (bytes:=40) (H:=J) (g:=s.mg) (rows:=aQ s.mv) aem (by decide) (bR _) (cO (by simp;omega) (by decide));obtain⟨Z,a8⟩:=aT (J++Jc:aj);rw [←a8]at g_ d8;have s_:3<J.length:=by
   obtain⟨ps,-,h2,-⟩:=hR;exact aw h2
  have o2:XC J Z:=fun i y h=>by rw [a8,AI (aw h)];exact h
  have k0:=o2 _ _ j0;have k1:=o2 _ _ j1;have k2:=o2 _ _ j2;have m6:=hR.bY fun i y A _=>o2 i y A;obtain⟨a,ha⟩:=aT (.sl 3 0 s.ru.length (s.ru.length+1) 0 8:C);rw [←ha]at X;have q8:df Z (.ptr 0 0 0) [a]=aa (Z.set 0 (.box (s.iQ a (.f (sl s.mg (aQ s.mv)))) 0)):=by simp [df,k0,over,bl.row,bl.iQ]
  obtain⟨J3,u⟩:=aT (Z.set 0 (.box (s.iQ a (.f (sl s.mg (aQ s.mv)))) 0):aj);have l0:J3[0]?=aa (.box (s.iQ a (.f (sl s.mg (aQ s.mv)))) 0):=by rw [u];exact IS (aw k0)
  have q9:df J3 (.ptr 0 6 0) [c]=aa (J3.set 0 (.box (s.iQ a c) 0)):=by simp [df,l0,over,bl.iQ]
  obtain⟨v,O⟩:=aT (J3.set 0 (.box (s.iQ a c) 0):aj);have m0:v[0]?=aa (.box (s.iQ a c) 0):=by rw [O];exact IS (aw l0)
  have B:∀(i:Nat) (y:cS),i≠0→Z[i]?=aa y→v[i]?=aa y:=fun i y hi h=>by
   rw [O,AT (Ne.symm hi),u,AT (Ne.symm hi)];exact h
  have m1:=B _ _ (by decide) k1;have m2:=B _ _ (by decide) k2;have t_:=m6.bY fun i y A h3=>B i y (by omega) A;have a_:LR v c 5 (aQ s.mv):=d8.bY fun i y A hi=>B i y (by have:=W i hi;omega) A;have n_:v.length=Z.length:=by rw [O,u];simp
  have q_:J.length≤v.length:=by rw [n_,a8];simp
  refine an (kG (.inl rfl) ?_ ?_)
  case refine_2=>
   intro cc n5;have n4:cc=(4,2):=by simpa using n5
   subst n4;refine⟨by decide,_,rfl,.inr ⟨by decide,?_⟩⟩;simp [b_ H b0,-au];refine⟨_,_,X,?_⟩;simp [np,N H b0,N J j0,-au];exact W0 _ _
  simp [b_ H b0,-au];refine⟨_,_,X,?_⟩;simp [N J j0,-au];refine⟨_,_,g_,?_⟩;simp [q8,-bu];rw [←u];simp [q9,-bu];rw [←O];have c_:∀(t:T) (K:aj) (d:C),t.g 2=.c (.ptr 0 0 0)→t.g 4=.c (.ptr 2 0 0)→K[0]?=aa (.box (s.iQ a d) 0)→K[2]?=aa (.box kh 0)→UJ K 3 s.ru eT→LR K d 5 (aQ (ku s.mv m))→(∀ i,bf d=aa i→3<i) →
    WP tab.get 5 ab [.code vL] ⟨t,[],K⟩ Q:=by
   intro t K d g2 g4 n0 n2 m7 U m_;have f_:(s.iQ a d).length=7:=rfl;have e7:aX K (aa 7) (.c (.ptr 0 0 0))=aa (.a (s.iQ a d)):=by simp [aX,n0,aF,aI,bl.iQ]
   have st:df K (.ptr 2 0 0) (s.iQ a d)=aa (K.set 2 (.box (s.iQ a d) 0)):=by simp [df,n2,over,kh,f_]
   obtain⟨K2,S⟩:=aT (K.set 2 (.box (s.iQ a d) 0):aj);have p2:K2[2]?=aa (.box (s.iQ a d) 0):=by rw [S];exact IS (aw n2)
   have e_:UJ K2 3 s.ru eT:=m7.bY fun i y A h3=>by rw [S,AT (by omega)];exact A
   have d6:LR K2 d 5 (aQ (ku s.mv m)):=by rw [S];exact U.set (fun e=>by have:=m_ 2 e;omega) _
   obtain⟨rg,p_,o7,k_⟩:=e_.ex (cap:=s.ru.length+1);obtain⟨mg,b9⟩:=d6.ex (bR _) 63;have b9:da deep K2 d=aa (sl mg (aQ (ku s.mv m))):=b9;rw [←ha]at k_;have l9:aX K2 (aa 7) (.c (.ptr 2 0 0))=aa (.a (s.iQ a d)):=by simp [aX,p2,aF,aI,bl.iQ]
   apply ai;simp [g2,g4,e7,-au,f_,st,-bu];rw [←S];refine aH (hQ _ _ _ ⟨⟨rg,p_,s.mi,s.le,s.zo,s.cJ,s.fold,mg,ku s.mv m⟩,⟨o7,rfl,rfl,rfl,rfl,rfl,rfl⟩,rfl⟩ ⟨rfl,.t [.a (s.iQ a d),vi 0],?_,?_⟩)
   ·simp [Km.results,bJ,bj,g4,l9,-au]
   ·simp [iI,cg,bj,bl.iQ,k_,b9,bl.row]
  refine an (aC (ai ?_));simp;have c9:∀ K:aj,K[1]?=aa (.box (m.row.map .f) 0)→aX K (aa 5) (.c (.ptr 1 0 0))=aa (.a (m.row.map .f)):=fun K hK=>by simp [aX,hK,aF,aI,aZ.row]
  have E:aX v ab (.c (.ptr 0 6 0))=aa (.c c):=by simp [aX,m0,aF,aI,bl.iQ]
  have m5:m.row.length=5:=rfl;cases w with
  | true=>
   obtain⟨z,L,n9⟩:=o_ rfl;have l:ku s.mv m=s.mv.set i m:=by
    rw [List.set_eq_take_append_cons_drop,bh z];have:s.mv=s.mv.take i++s.mv[i]::s.mv.drop (i+1):=by rw [List.getElem_cons_drop,aq0]
    rw [this];have h:=afZ j9 L n9;rw [←this]at h;rw [←this];exact h
   obtain⟨b,ep,rfl,d9⟩:∃ b ep,c=.sl b 0 s.mv.length 0 ep 5∧RB v b 5 ep (aQ s.mv):=by
    rcases a_ with⟨h,-⟩ | ⟨-,b,ep,h1,h2⟩
    ·have:=congrArg List.length h;simp at this;rw [this]at z;simp at z
    ·exact⟨b,ep,by rw [h1,yR],h2⟩
   have u4:J.length≤b:=W b rfl;obtain⟨J5,o8,d_,hF,u5⟩:=d9.str (bR _) (by simpa using z) m5;have h_:=d9.idx (n:=s.mv.length) (c:=0) (k:=.i64) (o:=0) (i:=(i:Int)) (by omega) (by omega);rw [aqP,Nat.zero_add]at h_;have b7:(aQ s.mv).set i m.row=aQ (ku s.mv m):=by rw [l];simp [aQ,List.map_set]
   refine al (by simp) ?_;refine aq (.inl rfl) ?_;simp [E,c9 v m1,-au,h_,o8,-bu,m5];refine aA (c_ _ _ _ (by simp) (by simp) (hF.get m0 (by omega)) (hF.get m2 (by omega)) (hR.bY fun j y A h3=>hF.get (B j y (by omega) (o2 _ _ A)) (by have:=aw A;omega)) ?_ (fun j hj=>by simp [bf]at hj;omega));refine .inr ⟨?_,b,ep,by simp [l],by rw [←b7];exact d_⟩;intro e;have:=congrArg List.length e;simp [l]at this;rw [this]at z;simp at z
  | false=>
   have L:=o9 rfl;have l:ku s.mv m=s.mv.take i++m::s.mv.drop i:=by
    have h:=Fy j9 L;rw [aq0]at h;exact h
   have i_:=a_.len;have l_:¬ ((s.mv.length:Int)=64):=by omega
   refine ak (by simp) ?_;apply ai;simp [E,-au,i_,l_];refine ak (by simp) ?_;obtain⟨J5,I⟩:=aT (v++[.box (m.row.map .f) 0]:aj);have o5:XC v J5:=fun i y h=>by rw [I,AI (aw h)];exact h
   have hv:J5[v.length]?=aa (.box (m.row.map .f) 0):=by rw [I];simp
   have m4:LR J5 c 5 (aQ s.mv):=by rw [I];exact a_.push _
   obtain⟨d,K,n7,U,a9,n6⟩:=Ka m4 (bR _) (by simp;omega) (i:=i) (by simpa using hi) m5 hv;have b7:(aQ s.mv).take i++m.row ::(aQ s.mv).drop i=aQ (ku s.mv m):=by rw [l];simp [aQ]
   rw [b7]at U;have nb:∀ j,j<J.length→bf c≠aa j:=fun j hj e=>by have:=W j e;omega
   have q0:=a9.2 0 _ (o5 _ _ m0) (nb 0 (by omega));have q2:=a9.2 2 _ (o5 _ _ m2) (nb 2 (by omega));have r_:J5.length=v.length+1:=by rw [I];simp
   have f9:∀ j,bf d=aa j→J.length≤j:=fun j hj=>by
    rcases n6 with e | e
    ·exact W j (by rw [←e];exact hj)
    ·rw [hj]at e;cases e;omega
   have st:df K (.ptr 0 6 0) [d]=aa (K.set 0 (.box (s.iQ a d) 0)):=by simp [df,q0,over,bl.iQ]
   refine aq (.inl rfl) ?_;simp [E,c9 v m1,-au,m5];rw [←I];refine⟨_,_,n7,?_⟩;simp [st,-bu];refine aA (c_ _ _ d (by simp) (by simp) (IS (aw q0)) (by rw [AT (by decide)];exact q2) (hR.bY fun j y A h3=>?_) (U.set (fun e=>by have:=f9 0 e;omega) _) (fun j hj=>by have:=f9 j hj;omega));rw [AT (by omega)];exact a9.2 _ _ (o5 _ _ (B _ _ (by omega) (o2 _ _ A))) (nb j (aw A))
 exact⟨q',o6,hp.eq⟩
theorem Vs{H:aj}{g:Tg}{l:List Int}{j:Nat}(b:j<l.length)(d:l.length≤1000):aL H 1 ab (.c (.f (sl g (ints l)))) (vi j)=aa (.c (.f (.fp (ints l).flatten j))):=by
 have:=dg (H:=H) (g:=g) (rows:=ints l) (sz:=1) (k:=.i64) (i:=(j:Int)) (by omega) (by simp;omega);simpa using this
theorem Xm(s:ByteArray):bM .neq (.c (.f (.str s))) (.c (.f (.str s)))=aa (vb ag):=by
 simp [bM,JF];rfl
theorem D4(g s:Tg)(l:List Int)(u:l.length≤1000):bF tab.get 73 [.c (.f (sl g (ints l))),.c (.f (sl s (ints l)))]=Eq (vb ae):=bF.eq (by
 refine bK rfl rfl fun Q v=>?_;apply ai;simp;refine an (ai ?_);simp;refine a5 (by simp) ?_;refine an (ai ?_);simp;refine cw l.length (fun j t K=>K=[]∧t.g 0=.c (.f (sl g (ints l)))∧t.g 1=.c (.f (sl s (ints l)))) (by omega) (by decide) (by simp)
  ⟨rfl,by simp,by simp⟩ ?_ ?_ ?_
 ·rintro j t K L q ⟨rfl,b,m⟩ d x;simp [d,b];exact x _ ⟨rfl,by simp [b],by simp [m]⟩ (by simp [d]) (by simp)
 ·rintro j t K q ⟨rfl,b,m⟩ d z;have i1:=Vs (H:=[]) (g:=g) (l:=l) (j:=j) q u;have i2:=Vs (H:=[]) (g:=s) (l:=l) (j:=j) q u;have y:=iW (l:=l) q (H:=[]);refine aC (ai ?_);simp [b,m,d,i1,i2,y];refine ak (by simp) (aM (aA ?_));exact z _ _ ⟨rfl,by simp [b],by simp [m]⟩ (by simp [d])
 ·rintro t K ⟨rfl,b,m⟩ d;apply ai;simp;refine aH (v _ _ ?_);simp)
theorem W5(g W:Tg)(l u:List aN)(e:dB l=dB u)(hl:l.length≤64)(X:∀ x ∈ l,x.d.li.length≤61):bF tab.get 39 [.c (.f (sl g (aG l))),.c (.f (sl W (aG u)))]=Eq (vb ae):=bF.eq (by
 have Y:u.length=l.length:=by have:=congrArg List.length e;simpa using this.symm
 refine bK rfl rfl fun Q hQ=>?_;apply ai;simp;refine an (ai ?_);simp [Y];refine a5 (by simp) ?_;refine an (ai ?_);simp;refine cw l.length (fun j t K=>t.g 0=.c (.f (sl g (aG l)))∧t.g 1=.c (.f (sl W (aG u)))) (by omega) (by decide) (by simp)
  ⟨by simp,by simp⟩ ?_ ?_ ?_
 ·rintro j t K L E ⟨A,B⟩ v S;simp [v,A];exact S _ ⟨by simp [A],by simp [B]⟩ (by simp [v]) (by simp)
 ·rintro j t K E ⟨A,B⟩ v nx;have z:j<u.length:=by omega
  obtain⟨x,Z⟩:=aT (l[j]);obtain⟨y,f⟩:=aT (u[j]);have N:x.d=y.d:=by
   have h1:(dB l)[j]'(by simpa using E)=(dB u)[j]'(by simpa using z):=by simp only [e]
   simpa [Z,f]using h1
  have i1:=fun H=>dS (H:=H) (g:=g) (r:=l) (j:=j) E hl;have i2:=fun H=>dS (H:=H) (g:=W) (r:=u) (j:=j) z (by omega);have h:=fun H=>iu (H:=H) (r:=l) E;have i:=fun H=>iu (H:=H) (r:=u) z;rw [←Z]at h;rw [←f]at i;have S:=D4 x.tg y.tg x.d.li (by have:=X x (by rw [Z];exact OF E);omega);have x8:x.row.length=8:=rfl;have y8:y.row.length=8:=rfl;obtain⟨⟨k,d,a,b,n,m,li⟩,c⟩:=x;obtain⟨d',ty⟩:=y;simp only at N S;subst N;obtain⟨U,q⟩:=aT (K++[.box ((aN.row ⟨⟨k,d,a,b,n,m,li⟩,c⟩).map .f) 0]:aj);have F:U[K.length]?=aa (.box ((aN.row ⟨⟨k,d,a,b,n,m,li⟩,c⟩).map .f) 0):=by rw [q];simp
  have M:U.length=K.length+1:=by rw [q];simp
  obtain⟨O,s⟩:=aT (U++[.box ((aN.row ⟨⟨k,d,a,b,n,m,li⟩,ty⟩).map .f) 0]:aj);have I:O[K.length]?=aa (.box ((aN.row ⟨⟨k,d,a,b,n,m,li⟩,c⟩).map .f) 0):=by rw [s,AI (aw F)];exact F
  have J:O[K.length+1]?=aa (.box ((aN.row ⟨⟨k,d,a,b,n,m,li⟩,ty⟩).map .f) 0):=by rw [s,←M];simp
  obtain⟨p0,p1,p2,p3,p4,p5,p6,-⟩:=oJ I;obtain⟨o,p,w,q3,q4,q5,q6,-⟩:=oJ J;have p7:aX O ab (.c (.ptr K.length 7 0))=aa (.c (.f (.str uJ))):=by simp [aX,I,aF,aI,aN.row]
  have q7:aX O ab (.c (.ptr (K.length+1) 7 0))=aa (.c (.f (.str uJ))):=by simp [aX,J,aF,aI,aN.row]
  dsimp only at p0 p1 p2 p3 p4 p5 p6 o p w q3 q4 q5 q6;refine aC (ai ?_);simp [A,v,i1,h,-au,x8];rw [←q];apply ai;simp [B,v,i2,i,-au,y8];rw [←s,M];clear q s;apply ai;simp [p0,p1,p2,p3,p4,p5,p6,p7,o,p,w,q3,q4,q5,q6,q7,-au,S,Xm];refine ak (by simp) (aM (aA ?_));exact nx _ _ ⟨by simp [A],by simp [B]⟩ (by simp [v])
 ·rintro t K ⟨A,B⟩ v;apply ai;simp;refine aH (hQ _ _ ?_);simp)
theorem KY{a b:bl}(h:bl.xO a b)(k:a.ru.length≤64)(M:∀ x ∈ a.ru,x.d.li.length≤61)(hm:a.mv.length≤1000):bF tab.get 9 [a.v,b.v]=Eq (vb ae):=bF.eq (by
 obtain⟨arg,y,s,q,u,l,d,v,m⟩:=a;obtain⟨A,B,a9,a8,b7,W,S,z,a_⟩:=b;obtain⟨X,Y,Z,c,e,f,i⟩:=h;dsimp only at X Y Z c e f i k M hm;subst Y Z c e f i;have hs:=W5 arg A y B X k M;refine bK rfl rfl fun Q hQ=>?_;apply ai;simp;obtain⟨K,N⟩:=aT ([.box ((bl.row ⟨arg,y,s,q,u,l,d,v,m⟩).map .f) 0,.box ((bl.row ⟨A,B,s,q,u,l,d,z,m⟩).map .f) 0]:aj);have b0:K[0]?=aa (.box ((bl.row ⟨arg,y,s,q,u,l,d,v,m⟩).map .f) 0):=by rw [N];rfl
 have b1:K[1]?=aa (.box ((bl.row ⟨A,B,s,q,u,l,d,z,m⟩).map .f) 0):=by rw [N];rfl
 rw [←N];clear N;obtain⟨p0,p1,p2,p3,p4,p5,p6,-⟩:=dI b0;obtain⟨o,p,r,w,q4,q5,U,-⟩:=dI b1;dsimp only at p0 p1 p2 p3 p4 p5 p6 o p r w q4 q5 U;refine an (ai ?_);simp [p1,p2,p3,p4,p5,p6,p,r,w,q4,q5,U,-au,Xm];refine a5 (by simp) ?_;refine an (ai ?_);simp;refine cw m.length (fun j t J=>J=K∧t.g 2=.c (.ptr 0 0 0)∧t.g 3=.c (.ptr 1 0 0)) (by omega) (by decide) (by simp)
  ⟨rfl,by simp,by simp⟩ ?_ ?_ ?_
 ·rintro j t J L O ⟨rfl,E,F⟩ I hn;simp [I,E,p6,-au];exact hn _ ⟨rfl,by simp [E],by simp [F]⟩ (by simp [I]) (by simp)
 ·rintro j t J O ⟨rfl,E,F⟩ I nx;have i1:=qt (H:=J) (g:=v) O (by omega);have i2:=qt (H:=J) (g:=z) O (by omega);have n:=xa (H:=J) O;simp only [aZ.row,ao1,aqD]at n;refine aC (ai ?_);simp [E,F,I,p6,U,-au,i1,i2,n,wI];refine ak (by simp) (aM (aA ?_));exact nx _ _ ⟨rfl,by simp [E],by simp [F]⟩ (by simp [I])
 ·rintro t J ⟨rfl,E,F⟩ I;apply ai;simp [E,F,p0,o,-au,hs];refine aH (hQ _ _ ?_);simp)
theorem bl.xO.symm{a b:bl}(h:bl.xO a b):bl.xO b a:=⟨h.ru.symm,h.mi.symm,h.le.symm,h.zo.symm,h.cJ.symm,h.fold.symm,h.mv.symm⟩
theorem bl.xO.trans{a b c:bl}(h:bl.xO a b)(k:bl.xO b c):bl.xO a c:=⟨h.ru.trans k.ru,h.mi.trans k.mi,h.le.trans k.le,h.zo.trans k.zo,h.cJ.trans k.cJ,h.fold.trans k.fold,h.mv.trans k.mv⟩
abbrev bl.wm(s:bl)(m:aZ):bl:=⟨s.rg,s.ru,s.mi,s.le,s.zo,s.cJ,s.fold,s.mg,ku s.mv m⟩
theorem aeg{a b:bl}(h:bl.xO a b)(m:aZ):bl.xO (a.wm m) (b.wm m):=⟨h.ru,h.mi,h.le,h.zo,h.cJ,h.fold,by show ku _ _=ku _ _;rw [h.mv]⟩
theorem ale(s:bl){m n:aZ}(h:m.day=n.day):(s.wm m).wm n=s.wm n:=by
 simp only [bl.wm,abT _ _ _ h]
structure aZ.aei(m:aZ):Prop where
 ok:m.OK
 b:m.day≤44∧m.to≤44∧m.mi≤1439∧m.le≤2880
theorem F5{s:bl}(d:s.ky)(j:s.mv.length≤7){m:aZ}(g:aZ.aei m):(s.wm m).ky:=by
 have k:=d.ok;have:=sA (m:=m) k.ms;refine⟨⟨k.ru,k.rl,k.mi,k.le,k.zo,k.cJ,k.fold,by dsimp only;omega,ug k.ms,fun z b=>?_⟩,by dsimp only;omega,d.zo,d.rl,d.le,fun z b=>?_⟩
 ·rcases sB b with rfl | b
  ·exact g.ok
  ·exact k.mo z b
 ·rcases sB b with rfl | b
  ·exact g.b
  ·exact d.mo z b
theorem B_(g s:Tg)(l:List uV)(u:l.length≤100000):bF tab.get 8 [.c (.f (sl g (cR l))),.c (.f (sl s (cR l)))]=Eq (vb ae):=bF.eq (by
 refine bK rfl rfl fun Q x=>?_;apply ai;simp;refine an (ai ?_);simp;refine a5 (by simp) ?_;refine an (ai ?_);simp;refine cw l.length (fun j t K=>K=[]∧t.g 0=.c (.f (sl g (cR l)))∧t.g 1=.c (.f (sl s (cR l)))) (by omega) (by decide) (by simp)
  ⟨rfl,by simp,by simp⟩ ?_ ?_ ?_
 ·rintro j t K L q ⟨rfl,b,m⟩ d y;simp [d,b];exact y _ ⟨rfl,by simp [b],by simp [m]⟩ (by simp [d]) (by simp)
 ·rintro j t K q ⟨rfl,b,m⟩ d z;have i1:=DG (H:=[]) (g:=g) (l:=l) (j:=j) q u;have i2:=DG (H:=[]) (g:=s) (l:=l) (j:=j) q u;have v:=VF (H:=[]) (l:=l) q;simp only [uV.row,ao1,aqD]at v;refine aC (ai ?_);simp [b,m,d,i1,i2,v,wI];refine ak (by simp) (aM (aA ?_));exact z _ _ ⟨rfl,by simp [b],by simp [m]⟩ (by simp [d])
 ·rintro t K ⟨rfl,b,m⟩ d;apply ai;simp;refine aH (x _ _ ?_);simp)
def mv3(a b c:M5):List FC:=a.row++b.row++c.row
theorem zG{K b:aj}{B:cS}(h:b=K++[B]):XC K b∧b[K.length]?=aa B∧b.length=K.length+1:=by
 subst h;exact⟨fun i y h=>by rw [AI (aw h)];exact h,by simp,by simp⟩
theorem Kh{H:aj}{b:Nat}{m:aZ}(h:H[b]?=aa (.box (m.row.map .f) 0)):aX H (aa 5) (.c (.ptr b 0 0))=aa (.a (m.row.map .f))∧aX H ab (.c (.ptr b 0 0))=aa (vi m.day) ∧
  aX H ab (.c (.ptr b 1 0))=aa (vb m.drop)∧aX H ab (.c (.ptr b 2 0))=aa (vi m.to)∧aX H ab (.c (.ptr b 3 0))=aa (vi m.mi)∧aX H ab (.c (.ptr b 4 0))=aa (vi m.le):=by
 refine⟨?_,?_,?_,?_,?_,?_⟩<;>simp [aX,h,aF,aI,aZ.row]
theorem VW(ag6:bF tab.get 1 [] (vb ae)){x:qc}(hx:x.OK){y:gO}(hy:y.OK){u1 u2 u3:M5}(hu1:u1.OK)(hu2:u2.OK)(hu3:u3.OK) :
  bF tab.get 0 [.a (x.row.map .f),.a (y.row.map .f),.a ((mv3 u1 u2 u3).map .f)] (vb ae):=by
 obtain⟨s,A,hs4,z6⟩:=Kt (cals:=2) (.inr rfl) hx;rw [show((2:Nat):Int)=2 from rfl]at z6;obtain⟨z,o,q,hzm⟩:=Ks hy;obtain⟨l,a8,hb1,u9⟩:=qB hu1;obtain⟨o6,d8,hb2,u_⟩:=qB hu2;obtain⟨m2,a9⟩:=aT ({ o6 with day:=l.day }:aZ);have u7:m2.OK:=by rw [a9];exact⟨a8.day,d8.dr,d8.nd⟩
 have p_:l.day=m2.day:=by rw [a9]
 obtain⟨v,ot1,rot⟩:=gL u3.a (m:=45) (by decide);have n1:l.aei:=⟨a8,by omega⟩
 have hk1:=F5 A (by omega) n1;obtain⟨q1,u,w_⟩:=sy A.ok (by omega) a8;have F:q1.ky:=u.afL hk1;have apl:q1.mv.length≤8:=F.ml;obtain⟨q2,n7,x6⟩:=sy F.ok (by omega) u7;obtain⟨q3,hq3,x7⟩:=sy A.ok (by omega) u7;have y6:bl.xO q2 q3:=n7.trans ((aeg u m2).trans (by rw [ale s p_];exact hq3.symm));have hli:∀ w:bl,w.OK→∀ x ∈ w.ru,x.d.li.length≤61:=fun w hw x hx=>by
  obtain⟨i,hi,rfl⟩:=aqE hx;have:=(hw.ru.at_ i (by simpa using hi)).ok.1;simpa using this
 have apm:q2.mv.length≤9:=by
  have:=sA (m:=m2) F.ok.ms;have e:=n7.mv;rw [e];dsimp only;omega
 have e_:dB q2.ru=dB s.ru:=n7.ru.trans u.ru;have n9:q2.ru.length=s.ru.length:=by have:=congrArg List.length e_;simpa using this
 have n_:=KY y6 (by rw [n9];exact A.ok.rl) (fun x hx=>by
  obtain⟨i,hi,rfl⟩:=aqE hx;have q8:i<s.ru.length:=by omega
  have h1:(dB q2.ru)[i]'(by simpa using hi)=(dB s.ru)[i]'(by simpa using q8):=by simp only [e_]
  have:=hli s A.ok s.ru[i] (OF q8);simp at h1;rw [h1];exact this) (by omega)
 have o0:(0:Int)≤(v:Int):=by omega
 have o1:(v:Int)≤300:=by omega
 obtain⟨g1,v8⟩:=AU q A o0 o1;obtain⟨g2,v9⟩:=AU q F o0 o1;have hd0:=a8.day;obtain⟨g3,v_⟩:=AU q F (d:=l.day) (by omega) (by omega);obtain⟨pl,N⟩:=aT (⟨s.rg,s.ru,s.mi,s.le,s.zo,s.cJ,s.fold,.nil,[]⟩:bl);have c_:pl.ky:=by
  have k:=A.ok;rw [N];exact⟨⟨k.ru,k.rl,k.mi,k.le,k.zo,k.cJ,k.fold,by simp,List.Pairwise.nil,by simp⟩,by simp,A.zo,A.rl,A.le,by simp⟩
 obtain⟨mo,c9⟩:=aT (⟨v,ag,v,s.mi,s.le⟩:aZ);have apq:=A.ok.mi;have apo:=A.ok.le;have apn:=A.le;have z7:mo.aei:=by
  rw [c9];exact⟨⟨(by dsimp only;omega),(fun h=>absurd h (by simp)),(fun _=>by dsimp only;omega)⟩,(by dsimp only;omega)⟩
 have x9:pl.mv.length≤7:=by rw [N];simp
 obtain⟨q4,d6,b7⟩:=sy c_.ok (by omega) z7.ok;have y9:q4.ky:=d6.afL (F5 c_ x9 z7);obtain⟨g4,w7⟩:=AU q y9 o0 o1;obtain⟨g5,w9⟩:=AU q c_ o0 o1;have v7:q4.mv=[mo]:=by rw [d6.mv];simp [bl.wm,ku,N]
 have x_:pl.mv=[]:=by rw [N]
 have n6:ud q q4 v=ud q pl v:=by
  have e1:cN q4.mv v=aa mo:=by rw [v7];simp [cN,c9]
  have e2:cN pl.mv v=ab:=by rw [x_];rfl
  have e3:=d6.cJ;have e4:=d6.fold;unfold ud bl.dropped bl.at_ bl.tR;rw [e1,e2,e3,e4];simp only [c9,N]
 have d9:q1.mv=ku s.mv l:=u.mv;have n5:(v:Int)≠l.day→ud q s v=ud q q1 v:=fun a_=>KB q (by rw [d9,tV,aY a_]) u.mi.symm u.le.symm u.cJ.symm u.fold.symm;have hmd:cN q1.mv l.day=aa l:=by rw [d9,tV,bh rfl]
 have d_:∀(w:bl) (wn:w.ky) (d:Int),0≤d→d≤300→(ud q w d).length≤2:=fun w wn d d0 d1=>by
  have ha:=wn.at_ d0 d1;unfold ud;split
  ·simp
  ·rw [aq3];exact qv q ha.1 ha.2 wn.ok.fold.1 wn.ok.fold.2
 have hsn:=ag6.eq;have hc:=q.c;have hz8:=ZD.sH hc;have z5:s.row.length=7:=rfl;have m15:l.row.length=5:=rfl;have m25:o6.row.length=5:=rfl;refine bK rfl rfl fun Q hQ=>?_;apply ai;simp;obtain⟨K0,M⟩:=aT ([.box (x.row.map .f) 0,.box (y.row.map .f) 0,.box ((mv3 u1 u2 u3).map .f) 0]:aj);have a0:K0[0]?=aa (.box (x.row.map .f) 0):=by rw [M];rfl
 have a1:K0[1]?=aa (.box (y.row.map .f) 0):=by rw [M];rfl
 have a2:K0[2]?=aa (.box ((mv3 u1 u2 u3).map .f) 0):=by rw [M];rfl
 have r_:K0.length=3:=by rw [M];rfl
 rw [←M];clear M;apply ai;simp [hsn];have lx:aX K0 (aa 6) (.c (.ptr 0 0 0))=aa (.a (x.row.map .f)):=by simp [aX,a0,aF,aI,qc.row]
 apply ai;simp [lx,-au,z6,z5,r_];obtain⟨K1,f_⟩:=aT (K0++[.box (s.row.map .f) 0]:aj);obtain⟨b,b3,m4⟩:=zG f_;rw [r_]at b3 m4;have b1:=b _ _ a1;have b2:=b _ _ a2;rw [←f_];clear f_ b a0 a1 a2 lx;have ly:aX K1 (aa 14) (.c (.ptr 1 0 0))=aa (.a (y.row.map .f)):=by simp [aX,b1,aF,aI,gO.row]
 apply ai;simp [ly,-au,hzm,hz8,m4];obtain⟨K2,g_⟩:=aT (K1++[.box (z.row.map .f) 0]:aj);obtain⟨b,c4,m6⟩:=zG g_;rw [m4]at c4 m6;have c2:=b _ _ b2;have c3:=b _ _ b3;rw [←g_];clear g_ b b1 b2 b3 ly;have lu:∀ K:aj,K[2]?=aa (.box ((mv3 u1 u2 u3).map .f) 0)→aL K 5 (aa 3) (.c (.ptr 2 0 0)) (vi 0)=aa (.c (.ptr 2 0 0))∧aL K 5 (aa 3) (.c (.ptr 2 0 0)) (vi 1)=aa (.c (.ptr 2 5 0))∧aL K 5 (aa 3) (.c (.ptr 2 0 0)) (vi 2)=aa (.c (.ptr 2 10 0))∧aL K 1 (aa 5) (.c (.ptr 2 10 0)) (vi 0)=aa (.c (.ptr 2 10 0)) ∧
   aX K (aa 5) (.c (.ptr 2 0 0))=aa (.a (u1.row.map .f))∧aX K (aa 5) (.c (.ptr 2 5 0))=aa (.a (u2.row.map .f))∧aX K ab (.c (.ptr 2 10 0))=aa (.c (.f (u8 u3.a))):=fun K h=>by
  refine⟨rfl,rfl,rfl,rfl,?_,?_,?_⟩<;>simp [aX,h,aF,aI,mv3,M5.row]
 obtain⟨i0,-,-,-,v0,-,-⟩:=lu K2 c2;apply ai;simp [i0,v0,-au,u9,m6,m15];obtain⟨K3,h_⟩:=aT (K2++[.box (l.row.map .f) 0]:aj);obtain⟨b,d5,m7⟩:=zG h_;rw [m6]at d5 m7;have d2:=b _ _ c2;have d3:=b _ _ c3;have d4:=b _ _ c4;rw [←h_];clear h_ b c2 c3 c4 i0 v0;obtain⟨-,i1,-,-,-,v1,-⟩:=lu K3 d2;apply ai;simp [i1,v1,-au,u_,m7,m25];obtain⟨K4,i_⟩:=aT (K3++[.box (o6.row.map .f) 0]:aj);obtain⟨b,e6,s_⟩:=zG i_;rw [m7]at e6 s_;have e2:=b _ _ d2;have e3:=b _ _ d3;have e4:=b _ _ d4;have e5:=b _ _ d5;rw [←i_];clear i_ b d2 d3 d4 d5 i1 v1;obtain⟨-,l1,-⟩:=Kh e5;have st:df K4 (.ptr 6 0 0) [.f (fi l.day)]=aa (K4.set 6 (.box (m2.row.map .f) 0)):=by rw [a9];simp [df,e6,over,aZ.row]
 obtain⟨K5,U⟩:=aT (K4.set 6 (.box (m2.row.map .f) 0):aj);have f6:K5[6]?=aa (.box (m2.row.map .f) 0):=by rw [U];exact IS (aw e6)
 have b:∀ i y,i≠6→K4[i]?=aa y→K5[i]?=aa y:=fun i y hi h=>by rw [U,AT (Ne.symm hi)];exact h
 have f2:=b _ _ (by decide) e2;have f3:=b _ _ (by decide) e3;have f4:=b _ _ (by decide) e4;have f5:=b _ _ (by decide) e5;have t_:K5.length=7:=by rw [U];simp [s_]
 apply ai;simp [l1,-au,st,-bu];rw [←U];clear U b e2 e3 e4 e5 e6 l1 st;obtain⟨-,-,i2,i3,-,-,v2⟩:=lu K5 f2;apply ai;simp [i2,i3,v2,-au,rot,mE v (by omega)];clear i2 i3 v2 f2;have q17:q1.row.length=7:=rfl;have q27:q2.row.length=7:=rfl;have q37:q3.row.length=7:=rfl;have q47:q4.row.length=7:=rfl;obtain⟨ls,-⟩:=Kh f5;obtain⟨-,-,-,-,-,-,-,ss⟩:=dI f3;apply ai;simp [ls,ss,-au,w_,q17,t_];obtain⟨K6,j9⟩:=aT (K5++[.box (q1.row.map .f) 0]:aj);obtain⟨b,h7,m9⟩:=zG j9;rw [t_]at h7 m9;have h3:=b _ _ f3;have h4:=b _ _ f4;have h5:=b _ _ f5;have h6:=b _ _ f6;rw [←j9];clear j9 b f3 f4 f5 f6 ls ss;obtain⟨ls,-⟩:=Kh h6;obtain⟨-,-,-,-,-,-,-,ss⟩:=dI h7;apply ai;simp [ls,ss,-au,x6,q27,m9];obtain⟨K7,j_⟩:=aT (K6++[.box (q2.row.map .f) 0]:aj);obtain⟨b,j8,m_⟩:=zG j_;rw [m9]at j8 m_;have j3:=b _ _ h3;have j4:=b _ _ h4;have j5:=b _ _ h5;have j6:=b _ _ h6;have j7:=b _ _ h7;rw [←j_];clear j_ b h3 h4 h5 h6 h7 ls ss;obtain⟨ls,-⟩:=Kh j6;obtain⟨-,-,-,-,-,-,-,ss⟩:=dI j3;apply ai;simp [ls,ss,-au,x7,q37,m_];obtain⟨K8,k_⟩:=aT (K7++[.box (q3.row.map .f) 0]:aj);obtain⟨b,k9,n4⟩:=zG k_;rw [m_]at k9 n4;have k3:=b _ _ j3;have k4:=b _ _ j4;have k5:=b _ _ j5;have k7:=b _ _ j7;have k8:=b _ _ j8;rw [←k_];clear k_ b j3 j4 j5 j6 j7 j8 ls ss;obtain⟨-,-,-,-,-,-,-,s8⟩:=dI k8;obtain⟨-,-,-,-,-,-,-,s9⟩:=dI k9;refine an (ai ?_);simp [s8,s9,-au,n_];refine a5 (by simp) ?_;obtain⟨e0,p1,p2,p3,p4,p5,p6,s3⟩:=dI k3;obtain⟨-,-,-,-,-,-,-,s7⟩:=dI k7;have z8:aX K8 (aa 8) (.c (.ptr 4 0 0))=aa z.v:=eR k4 hc;obtain⟨w1,w2,w3,w4,w5,w6⟩:=Kh k5;apply ai;simp [s3,z8,-au,v8];apply ai;simp [s7,z8,-au,v9];have o_:∀ t:T,t.g 7=vb ae→t.g 8=.c (.ptr 3 0 0)→t.g 9=.c (.ptr 4 0 0)→t.g 13=.c (.ptr 7 0 0)→t.g 10=.c (.ptr 5 0 0)→t.g 12=vi v→t.g 19=.c (.f (sl g1 (cR (ud q s v))))→t.g 20=vi 0→t.g 21=.c (.f (sl g2 (cR (ud q q1 v))))→t.g 22=vi 0 →
   (∀ t':T,t'.g 7=vb ae→t'.g 8=.c (.ptr 3 0 0)→t'.g 9=.c (.ptr 4 0 0)→t'.g 10=.c (.ptr 5 0 0)→t'.g 12=vi v→t'.g 13=.c (.ptr 7 0 0)→WP tab.get 0 ab [.code zJ] ⟨t',[],K8⟩ Q)→WP tab.get 0 ab [.code zI] ⟨t,[],K8⟩ Q:=by
  intro t S g8 g9 b_ g10 B z_ o7 o8 o9 nx;by_cases a_:(v:Int)=l.day
  ·refine an (ai ?_);simp [g10,B,o7,o9,w2,-au,a_];exact ak (by simp) (aM (nx _ (by simp [S]) (by simp [g8]) (by simp [g9]) (by simp [g10]) (by simp [B]) (by simp [b_])))
  ·have hsl:=B_ g1 g2 (ud q s v) (by have:=d_ s A v o0 o1;omega);rw [←n5 a_]at o8;refine an (ai ?_);simp [g10,B,z_,o7,o8,o9,w2,-au,a_,hsl];exact ak (by simp) (aM (nx _ (by simp [S]) (by simp [g8]) (by simp [g9]) (by simp [g10]) (by simp [B]) (by simp [b_])))
 refine o_ _ (by simp) (by simp) (by simp) (by simp) (by simp) (by simp) (by simp) (by simp) (by simp) (by simp) ?_;intro t S g8 g9 g10 B b_;apply ai;simp [g8,s3,-au,z5,n4];obtain⟨K9,l7⟩:=aT (K8++[.box (s.row.map .f) 0]:aj);obtain⟨b,b9,u4⟩:=zG l7;rw [n4]at b9 u4;have c3:=b _ _ k3;have c4:=b _ _ k4;have c5:=b _ _ k5;have c7:=b _ _ k7;rw [←l7];clear l7 b;have st:df K9 (.ptr 10 6 0) [.f .aE]=aa (K9.set 10 (.box (pl.row.map .f) 0)):=by rw [N];simp [df,b9,over,bl.row,aQ];rfl
 obtain⟨L0,W⟩:=aT (K9.set 10 (.box (pl.row.map .f) 0):aj);have f9:L0[10]?=aa (.box (pl.row.map .f) 0):=by rw [W];exact IS (aw b9)
 have b:∀ i y,i≠10→K9[i]?=aa y→L0[i]?=aa y:=fun i y hi h=>by rw [W,AT (Ne.symm hi)];exact h
 have d3:=b _ _ (by decide) c3;have d4:=b _ _ (by decide) c4;have d5:=b _ _ (by decide) c5;have d7:=b _ _ (by decide) c7;have u5:L0.length=11:=by rw [W];simp [u4]
 apply ai;simp [st,-bu];rw [←W];clear W b c3 c4 c5 c7 b9 st;obtain⟨-,x1,x2,-,x4,x5,-,-⟩:=dI d3;obtain⟨-,-,-,-,-,-,-,z9⟩:=dI f9;rw [c9]at b7;simp only [aZ.row,ao1,aqD]at b7;apply ai;simp [g8,B,x1,x2,z9,-au,b7,q47,u5];obtain⟨L1,l9⟩:=aT (L0++[.box (q4.row.map .f) 0]:aj);obtain⟨b,dX,u6⟩:=zG l9;rw [u5]at dX u6;have r3:=b _ _ d3;have r4:=b _ _ d4;have r5:=b _ _ d5;have r7:=b _ _ d7;have ez:=b _ _ f9;rw [←l9];clear l9 b d3 d4 d5 d7 f9 x1 x2 x4 x5 z9;have z8:aX L1 (aa 8) (.c (.ptr 4 0 0))=aa z.v:=eR r4 hc;obtain⟨-,y1,y2,-,y4,y5,-,-⟩:=dI r3;obtain⟨-,-,-,-,-,-,-,y7⟩:=dI r7;obtain⟨-,-,-,-,-,-,-,y10⟩:=dI ez;obtain⟨-,-,-,-,-,-,-,y11⟩:=dI dX;obtain⟨v1,v2,v3,v4,v5,v6⟩:=Kh r5;apply ai;simp [g9,B,y11,z8,-au,w7];apply ai;simp [g9,B,y10,z8,-au,w9];have y_:=B_ g4 g5 (ud q pl v) (by have:=d_ pl c_ v o0 o1;omega);rw [n6];refine an (ai ?_);simp [y_];refine a5 (by simp) ?_;apply ai;simp [g9,g10,b_,y7,z8,v2,-au,v_];refine an (ai ?_);simp [g10,v3,-au];have E:ud q q1 l.day=if l.drop=ae then []else(yD q (l.to*1440+l.mi) s.cJ s.fold).map fun a=>⟨l.day,a,a+l.le⟩:=by
  unfold ud bl.dropped bl.at_ bl.tR;rw [hmd,u.cJ,u.fold]
 cases Z:l.drop with
 | true=>
  rw [Z,bh rfl]at E;refine al (by simp [Z]) ?_;apply ai;simp [S,E];exact aH (hQ _ _ (by simp))
 | false=>
  rw [Z,aY (by simp)]at E;obtain⟨-,-,-⟩:True∧True∧True:=⟨trivial,trivial,trivial⟩
  have hnd:=a8.nd Z;have X:0≤l.to*1440+l.mi:=by omega
  have Y:l.to*1440+l.mi≤460000:=by omega
  obtain⟨I,hI⟩:=aT (yD q (l.to*1440+l.mi) s.cJ s.fold);obtain⟨tg,q9⟩:=Fg q X Y A.ok.cJ.1 A.ok.cJ.2 A.ok.fold.1 A.ok.fold.2;have hIl:I.length≤2:=by rw [hI];exact qv q X Y A.ok.fold.1 A.ok.fold.2
  have hIb:∀ a ∈ I,-1000000≤a∧a≤1000000:=by rw [hI];exact Ff q X Y
  rw [←hI]at q9 E;have hw1:=aO (n:=l.to*1440);have hw2:=aO (n:=l.to*1440+l.mi);refine a5 (by simp [Z]) ?_;apply ai;simp [g8,g9,g10,y4,y5,z8,v4,v5,-au,hw1,hw2,q9];refine an (ai ?_);simp [E];refine a5 (by simp) ?_;have hLm:(cR (I.map fun a=>⟨l.day,a,a+l.le⟩)).length=I.length:=by simp
  refine an (ai ?_);simp;refine cw I.length (fun j t J=>J=L1∧t.g 7=vb ae∧t.g 10=.c (.ptr 5 0 0)∧t.g 30=.c (.f (sl g3 (cR (I.map fun a=>⟨l.day,a,a+l.le⟩))))∧t.g 32=.c (.f (sl tg (cj I)))) (by omega) (by decide) (by simp)
   ⟨rfl,by simp [S],by simp [g10],by simp,by simp⟩ ?_ ?_ ?_
  ·rintro j t J P hj ⟨rfl,S,g10,O,L⟩ ha hn;simp [ha,L];exact hn _ ⟨rfl,by simp [S],by simp [g10],by simp [O],by simp [L]⟩ (by simp [ha]) (by simp)
  ·rintro j t J hj ⟨rfl,S,g10,O,L⟩ ha nx;obtain⟨a,l_⟩:=aT (I[j]);have hab:=hIb _ (OF hj);rw [←l_]at hab;have q_:j<(I.map fun a=>(⟨l.day,a,a+l.le⟩:uV)).length:=by simpa using hj
   have ix:∀ K,aL K 1 ab (.c (.f (sl tg (cj I)))) (vi j)=aa (.c (.f (.fp (cj I).flatten j))):=fun K=>by
    have:=dg (H:=K) (g:=tg) (rows:=cj I) (sz:=1) (k:=.i64) (i:=(j:Int)) (by omega) (by simp;omega);simpa using this
   have lx:∀ K,aX K ab (.c (.f (.fp (cj I).flatten j)))=aa (vi a):=fun K=>by rw [l_];exact iW hj
   have ii:∀ K,aL K 3 ab (.c (.f (sl g3 (cR (I.map fun a=>⟨l.day,a,a+l.le⟩))))) (vi j)=_:=fun K=>DG (H:=K) (g:=g3) q_ (by simp;omega);have li:∀ K,aX K (aa 3) (.c (.f (.fp (cR (I.map fun a=>(⟨l.day,a,a+l.le⟩:uV))).flatten (j*3))))=aa (.a [cI l.day,cI a,cI (a+l.le)]):=fun K=>by
    rw [VF q_,List.getElem_map,←l_];rfl
   have wa:=aO (n:=a+l.le);refine aC (ai ?_);simp [g10,O,L,ha,ix,lx,ii,li,v2,v6,-au,wa,wI];refine ak (by simp) (aM (aA ?_));exact nx _ _ ⟨rfl,by simp [S],by simp [g10],by simp [O],by simp [L]⟩ (by simp [ha])
  ·rintro t J ⟨rfl,S,g10,O,L⟩ ha;apply ai;simp [S];exact aH (hQ _ _ (by simp))
theorem VX{n:Nat}{ys:List FC}(h:lE Tryz.prog (n+3) 78 ys):∃ a b c:M5,ys=mv3 a b c∧a.OK∧b.OK∧c.OK:=by
 obtain⟨rows,rfl,d,_,hr⟩:=sJ Tryz.underlying78 h;obtain⟨l,rfl,g⟩:=kU (enc:=M5.row) (p:=M5.OK) fun r j=>ad0 (hr r j)
 match l,d,g with
 | [a,b,c],_,g=>exact⟨a,b,c,by simp [mv3],g a (by simp),g b (by simp),g c (by simp)⟩
 | [],d,_=>simp at d| [_],d,_=>simp at d| [_,_],d,_=>simp at d| _::_::_::_::_,d,_=>simp at d
theorem abL{a:V}(h:pU Tryz.prog 78 a):∃ g j nc:M5,a=.a ((mv3 g j nc).map .f)∧g.OK∧j.OK∧nc.OK:=by
 rcases h with⟨xs,rfl,d,_⟩ | ⟨x,rfl,d⟩
 ·obtain⟨a,b,c,rfl,l⟩:=VX (n:=37) d;exact⟨a,b,c,rfl,l⟩
 ·exfalso;obtain⟨a,b,c,e,_⟩:=VX (n:=37) d;simp [mv3,M5.row]at e
theorem D0(b:List V)(h:sb Tryz.prog [26,31,78] b):bF tab.get 0 b (vb ae):=by
 obtain⟨v,_,rfl,d,a1,_,rfl,g,z,_,rfl,j,rfl⟩:=h;obtain⟨x,rfl,s⟩:=WU d;obtain⟨y,rfl,u⟩:=WV g;obtain⟨A,B,nc,rfl,l,m,q⟩:=abL j;exact VW ag6 s u l m q
end Go.Proofs.YtmbjejcfadllnaaGreat
