/-
  ahd the ow jO and the nP answer, for all arguments of their kind, in the small machine: part 3.
-/
import Derived.Test.YtmbjejcfadllnaaGreatS2
import Derived.Test.YtmbjejcfadllnaaGreatS1
import Derived.Test.YtmbjejcfadllnaaGreatProg
import Derived.Test.YtmbjejcfadllnaaGreatK4
import Derived.Test.YtmbjejcfadllnaaGreatTie
import Derived.Test.YtmbjejcfadllnaaGreatEv
import Derived.Test.YtmbjejcfadllnaaGreatIns
import Derived.Test.YtmbjejcfadllnaaGreatK5
open Option renaming some → aa,none → ab
open Bool renaming true → ae,false → ag
open Go.IntKind renaming wrap → ah
open List renaming pairwise_singleton → asP, getElem?_set_self → If, mem_append → ar3, getElem?_append_left → At, length_append → api, length_singleton → asH, mem_cons_self → arU, pairwise_cons → asN, mem_cons → ass, mem_cons_of_mem → ar0, take_succ_eq_append_getElem → aq8, find?_eq_none → as9, getElem_of_mem → arS, pairwise_iff_getElem → ar1, take_length → ar8, getElem_mem → IT, getElem?_set_ne → AI, mem_map → ase, map_cons → aft, map_nil → apr, map_append → asB, take_of_length_le → arT, length_map → asn, map_drop → ata, length_cons → asc, filter_append → asu, filter_eq_self → atj, filter_eq_nil_iff → atc, drop_zero → asV, take_append_drop → asf, eq_nil_of_length_eq_zero → anc, append_nil → ast, getElem?_eq_getElem → AT, drop_eq_getElem_cons → ar5
open Nat renaming le_refl → OF, lt_or_ge → ar9, zero_add → aso, lt_or_eq_of_le → asi
open Int renaming emod_nonneg → asd, emod_lt_of_pos → asj, toNat_of_nonneg → asK, toNat_natCast → ar4, le_refl → asR, mul_ediv_add_emod → asx, mul_comm → asO, natCast_zero → as7, mul_nonneg → ate
set_option linter.unusedVariables false
set_option linter.constructorNameAsVariable false
set_option linter.unusedSimpArgs false
set_option linter.unusedSectionVars false
set_option linter.unnecessarySimpa false
set_option maxRecDepth 100000
set_option maxHeartbeats 2000000
namespace Go.Proofs.YtmbjejcfadllnaaGreat
open Go Km
theorem qi{tab:Nat→Option aE}{fn:Nat}{b:Option Nat}{a:az}{k:List cA}{s:St}{Q:Option az→St→Prop}(h:WP tab fn b (.code a::.inLoop a::k) s Q):WP tab fn b (.code (.loop a)::k) s Q:=mD h fun _ _ _=>rfl
abbrev cL(l:List Int):List (List FC):=l.map fun n=>[fi n]
theorem uP(l:List Int):bR 1 (cL l):=bR.map fun _=>rfl
def ic(H:aj)(c:C)(l:List Int)(H':aj):Prop:=∃ b,b.Perm l∧b.Pairwise (·≤·)∧LR H' c 1 (cL b)∧Kb H H' c
theorem Ze{l:List Int}(h:l.length<2):l.Pairwise (·≤·):=by
 match l,h with
 | [],_=>exact List.Pairwise.nil| [_],_=>exact asP _ _
theorem XP{H:aj}{c:C}{l:List Int}(L:LR H c 1 (cL l))(F:l.length≤2) :
  ∃ H',Ev tab.get (.fn 162) [.c c,vi 0,vi l.length] H (.t []) H'∧ic H c l H':=by
 suffices h:∃ r H',Ev tab.get (.fn 162) [.c c,vi 0,vi l.length] H r H'∧(r=.t []∧ic H c l H') by
  obtain⟨r,H',X,rfl,m⟩:=h;exact⟨H',X,m⟩
 refine dn rfl rfl fun Q M=>?_;have w1:ah .i64 1=1:=by decide
 have w2:ah .i64 2=2:=by decide
 have K:ah .i64 0=0:=by decide
 apply ai;simp [w1];refine aB (qi (aq ?_));apply ai;by_cases m:l.length<2
 ·simp [show¬ (1:Int)<(l.length:Int) by omega];refine al (by simp) (bq rfl (jZ (M _ _ _ rfl rfl ⟨rfl,l,List.Perm.refl _,Ze m,L,Kb.refl _ _⟩)))
 obtain⟨x,y,rfl⟩:∃ x y,l=[x,y]:=by
  match l,F,m with
  | [],_,m=>simp at m| [_],_,m=>simp at m| [x,y],_,_=>exact⟨x,y,rfl⟩| _::_::_::_,F,_=>simp at F
 rcases L with⟨h,_⟩ | ⟨_,b,d,rfl,N⟩
 ·simp at h
 have g:H[b]?=aa (.bM 1 [.f (fi x),.f (fi y)] 0 d .loc):=N;clear m;have j:∀(t:T) (J:aj),ic H (.sl b 0 2 0 d 1) [x,y] J→t.g 2=vi 2→t.g 6=vi 1→WP tab.get 162 ab [.inBlock 1,.code wY,.inLoop Al,.inBlock 0] ⟨t,[],J⟩ Q:=by
  intro t J B U W;refine aw (av (.inl rfl) ?_);simp [W,w2];refine rP (aq (ai ?_));simp [U];exact al (by simp) (bq rfl (jZ (M _ _ _ rfl rfl ⟨rfl,B⟩)))
 simp;refine ak (by simp) (aL (aq ?_));refine aB (ai ?_);simp;refine aB (qi (aq (ai ?_)));have i1:aP H 1 ab (.c (.sl b 0 2 0 d 1)) (vi 1)=aa (.c (.ptr b 1 d)):=by simp [aP,dy,g]
 have i0:aP H 1 ab (.c (.sl b 0 2 0 d 1)) (vi 0)=aa (.c (.ptr b 0 d)):=by simp [aP,dy,g]
 have S:aU H ab (.c (.ptr b 1 d))=aa (vi y):=by simp [aU,aC,g,aK]
 have O:aU H ab (.c (.ptr b 0 d))=aa (vi x):=by simp [aU,aC,g,aK]
 simp [K,i1,i0,S,O,-an,BK];by_cases z:y<x
 ·simp [z];refine ak (by simp) (aL (aq ?_));obtain⟨v,q⟩:=aO (H.set b (.bM 1 [.f (fi x),.f (fi x)] 0 d .loc):aj);have u:v[b]?=aa (.bM 1 [.f (fi x),.f (fi x)] 0 d .loc):=by rw [q,If (au g)]
  have Y:cE H (.ptr b 1 d) [.f (fi x)]=aa v:=by simp [cE,g,over,q]
  have I:aP v 1 ab (.c (.sl b 0 2 0 d 1)) (vi 0)=aa (.c (.ptr b 0 d)):=by simp [aP,dy,u]
  obtain⟨A,s⟩:=aO (v.set b (.bM 1 [.f (fi y),.f (fi x)] 0 d .loc):aj);have Z:cE v (.ptr b 0 d) [.f (fi y)]=aa A:=by simp [cE,u,over,s]
  have E:A[b]?=aa (.bM 1 [.f (fi y),.f (fi x)] 0 d .loc):=by rw [s,If (au u)]
  have B:ic H (.sl b 0 2 0 d 1) [x,y] A:=by
   refine⟨[y,x],List.Perm.swap _ _ _,by simp;omega,.inr ⟨by simp,b,d,rfl,E⟩,Kb.amt ?_⟩;rw [s,q];exact(Fm.set _ _).trans (Fm.set _ _)
  refine aB (av (.inl rfl) ?_);simp [K,i1,i0,S,O,Y,I,Z,-an,-bh];refine aw (av (.inl rfl) ?_);simp [K];refine rP (aq (ai ?_));simp;refine al (by simp) (bq rfl ?_);exact j _ _ B (by simp) (by simp)
 ·simp [z];refine al (by simp) (bq rfl ?_);exact j _ _ ⟨_,List.Perm.refl _,by simp;omega,.inr ⟨by simp,b,d,rfl,N⟩,Kb.refl _ _⟩ (by simp) (by simp)
theorem LX:((List.range 3).all fun n=>match (CF tab.get 60 20 (.fn 84) [.c (.f (.int .u64 (n:Nat)))] [])with | some (.c (.f (.int .i64 (.ofNat _))),_)=>ae | _=>ag)=ae:=by kernel_rfl
theorem zn{n:Nat}(h:n≤2):∃ k:Nat,bA tab.get 84 [.c (.f (.int .u64 (n:Nat)))]=Eq (vi (k:Nat)):=by
 have b:=dz LX (show n<3 by omega);revert b;split
 ·rename_i k H' hr;intro _;exact⟨k,(eu (by rw [hr];rfl)).eq⟩
 ·intro h;cases h
theorem YD{H:aj}{c:C}{l:List Int}(g:LR H c 1 (cL l))(q:l.length≤2)(k:Nat) :
  ∃ H',Ev tab.get (.fn 137) [.c c,vi 0,vi l.length,vi k] H (.t []) H'∧ic H c l H':=by
 obtain⟨H',hi,m⟩:=XP g q
 suffices h:∃ r H',Ev tab.get (.fn 137) [.c c,vi 0,vi l.length,vi k] H r H'∧(r=.t []∧ic H c l H') by
  obtain⟨r,H',b,rfl,d⟩:=h;exact⟨H',b,d⟩
 refine dn rfl rfl fun Q j=>?_;have s:ah .i64 (l.length:Int)=l.length:=aQ;have hi:=hi.eq;apply ai;simp;apply ai;simp;refine aB (qi (aB (ai ?_)));simp [s];refine aq (ai ?_);simp [show(l.length:Int)≤12 by omega];refine ak (by simp) (ai ?_);simp [hi];exact aJ (j _ _ _ rfl rfl ⟨rfl,m⟩)
theorem MF{H:aj}{c:C}{l:List Int}(d:LR H c 1 (cL l))(g:l.length≤2) :
  ∃ H',Ev tab.get (.fn 94) [.c c] H (.t []) H'∧ic H c l H':=by
 obtain⟨k,u⟩:=zn g;obtain⟨H',hi,s⟩:=YD d g k
 suffices h:∃ r H',Ev tab.get (.fn 94) [.c c] H r H'∧(r=.t []∧ic H c l H') by
  obtain⟨r,H',j,rfl,m⟩:=h;exact⟨H',j,m⟩
 refine dn rfl rfl fun Q q=>?_;have hi:=hi.eq;have b:=d.len;have v:IntKind.u64.wrap (l.length:Int)=l.length:=by
  have:l.length=0∨l.length=1∨l.length=2:=by omega
  rcases this with e | e | e<;>rw [e]<;>decide
 apply ai;simp [b];refine av (.inl rfl) ?_;simp [v,u,hi];exact jZ (q _ _ _ rfl rfl ⟨rfl,s⟩)
section
variable{z:ZD}{o:List bC}
def dj(h:dZ z o)(b a:Int):Prop:=∃ r,ea h.S a r∧a+offO z r=b
theorem dV(h:dZ z o){t:Int}{r q:Option bC}(hr:ea h.S t r)(b:ea h.S t q):r=q:=ea.uniq h.apart hr b
theorem nH(h:dZ z o){t l:Int}(hr:ea h.S t ab)(b:l-offO z ab≤t):dj h l (l-offO z ab):=⟨ab,hr.rV b,by omega⟩
theorem nI(h:dZ z o){t l:Int}{x:bC}(hr:ea h.S t (aa x))(b:l-offO z (aa x)≤t)(d:x.at_≤l-offO z (aa x)):dj h l (l-offO z (aa x)):=⟨aa x,hr.back d b,by omega⟩
theorem zC(h:dZ z o){t:Int}{x:bC}(hr:ea h.S t (aa x)):∀ y,h.S y→y.at_≤x.at_-1→y.at_+2160≤x.at_:=by
 intro y d g;rcases h.apart x y hr.1 d with b | b | b
 ·omega
 ·exact b
 ·subst b;omega
end
def WR{z:ZD}{o:List bC}(h:dZ z o)(lo:Int)(m:Nat)(tm:Int)(n:Nat):Prop:=
 (m=2∧tm=lo+1080∧n=0)∨(m=1∧tm≤lo+1079∧n≤1∧∀ y,h.S y→y.at_≤tm→y.at_≤lo-1080)∨(m=0∧tm=lo-1081∧n≤2∧∀ y,h.S y→y.at_≤tm→y.at_<lo-1080)
structure yJ{z:ZD}{o:List bC}(h:dZ z o)(lo tm:Int)(l:List Int):Prop where
 at_:∀ a ∈ l,dj h lo a
 low:∀ a ∈ l,tm<a
 pw:l.Pairwise (· > ·)
 all:∀ a,dj h lo a→a ∈ l∨a≤tm
structure yK{z:ZD}{o:List bC}(h:dZ z o)(lo:Int)(r:Option bC)(l:List Int):Prop where
 at_:∀ a ∈ l,dj h lo a
 low:∀ a ∈ l,∀ x,r=aa x→x.at_≤a
 pw:l.Pairwise (· > ·)
 all:∀ a,dj h lo a→a ∈ l∨∃ x,r=aa x∧a<x.at_
section
variable{z:ZD}{o:List bC}{h:dZ z o}{lo tm:Int}{l:List Int}{r:Option bC}
theorem rW(h:dZ z o){a:Int}(b:dj h lo a):lo-1080≤a∧a≤lo+1080:=by
 obtain⟨r,hr,e⟩:=b;have:=h.offO hr;omega
theorem yJ.case(hr:ea h.S tm r){a:Int}(j:dj h lo a)(b:a≤tm):(a=lo-offO z r∧∀ x,r=aa x→x.at_≤a)∨∃ x,r=aa x∧a<x.at_:=by
 obtain⟨r',d,e⟩:=j;cases r with
 | none=>
  have:=dV h d (hr.rV b);subst this;exact .inl ⟨by omega,fun x g=>by cases g⟩
 | some x=>
  by_cases g:x.at_≤a
  ·have:=dV h d (hr.back g b);subst this;exact .inl ⟨by omega,fun y hy=>by cases hy;exact g⟩
  ·exact .inr ⟨x,rfl,by omega⟩
theorem yJ.app(k:yJ h lo tm l)(hr:ea h.S tm r)(j:dj h lo (lo-offO z r))(v:lo-offO z r≤tm)(q:∀ x,r=aa x→x.at_≤lo-offO z r):yK h lo r (l++[lo-offO z r]):=by
 refine⟨fun a d=>?_,fun a d x m=>?_,?_,fun a d=>?_⟩
 ·rcases ar3.1 d with d | d
  ·exact k.at_ a d
  ·simp at d;subst d;exact j
 ·rcases ar3.1 d with d | d
  ·have:=k.low a d;subst m;have:=hr.2.1;omega
  ·simp at d;subst d;exact q x m
 ·rw [List.pairwise_append];exact⟨k.pw,asP _ _,fun a d b u=>by simp at u;have:=k.low a d;show b<a;omega⟩
 ·rcases k.all a d with g | g
  ·exact .inl (List.mem_append_left _ g)
  ·rcases yJ.case hr d g with⟨e,-⟩ | s
   ·exact .inl (List.mem_append_right _ (by simp [e]))
   ·exact .inr s
theorem yJ.no(k:yJ h lo tm l)(hr:ea h.S tm r)(m:¬ (lo-offO z r≤tm∧∀ x,r=aa x→x.at_≤lo-offO z r)):yK h lo r l:=by
 refine⟨k.at_,fun a b x j=>?_,k.pw,fun a b=>?_⟩
 ·have:=k.low a b;subst j;have:=hr.2.1;omega
 ·rcases k.all a b with d | d
  ·exact .inl d
  ·rcases yJ.case hr b d with⟨e,g⟩ | g
   ·exact absurd ⟨by omega,fun x j=>by have:=g x j;omega⟩ m
   ·exact .inr g
theorem yK.next{x:bC}(k:yK h lo (aa x) l):yJ h lo (x.at_-1) l:=by
 refine⟨k.at_,fun a b=>by have:=k.low a b x rfl;omega,k.pw,fun a b=>?_⟩;rcases k.all a b with d | ⟨y,hy,d⟩
 ·exact .inl d
 ·cases hy;exact .inr (by omega)
theorem yK.done(k:yK h lo r l)(g:∀ x,r=aa x→x.at_<lo-1080):∀ a,dj h lo a→a ∈ l:=by
 intro a d;rcases k.all a d with b | ⟨y,hy,b⟩
 ·exact b
 ·have:=g y hy;have:=rW h d;omega
theorem XC{t:Int}{x:bC}{r2:Option bC}(hr:ea h.S t (aa x))(d:ea h.S (x.at_-1) r2)(B:x.at_+offO z r2≤lo)(E:lo<x.at_+x.off):∀ a,¬ dj h lo a:=by
 rintro a ⟨r,b,e⟩;have F:=h.offO b;have A:=h.off hr.1;have u:=h.offO d;have j:=h.apart;rcases Int.lt_or_le a x.at_ with v | m
 ·
  cases r with
  | none=>
   cases r2 with
   | none=>omega
   | some y=>
    have s:=b y d.1;have l:=d.2.1;rcases j y x d.1 hr.1 with g | g | g
    ·omega
    ·omega
    ·subst g;omega
  | some w=>
   cases r2 with
   | none=>have:=d w b.1;have:=b.2.1;omega
   | some y=>
    by_cases q:y.at_≤a
    ·have s:=b.2.2 y d.1 q;have l:=d.2.2 w b.1 (by have:=b.2.1;omega);rcases j w y b.1 d.1 with g | g | g
     ·omega
     ·omega
     ·subst g;omega
    ·have l:=d.2.1;rcases j y x d.1 hr.1 with g | g | g
     ·omega
     ·omega
     ·subst g;omega
 ·
  cases r with
  | none=>have:=b x hr.1;omega
  | some w=>
   have s:=b.2.2 x hr.1 m;have l:=b.2.1;rcases j x w hr.1 b.1 with g | g | g
   ·omega
   ·omega
   ·subst g;have:offO z (aa x)=x.off:=rfl;omega
end
theorem afe{l b:List Int}(q:b.Perm l)(j:b.Pairwise (·≤·))(g:l.Pairwise (· > ·)):b.Pairwise (· < ·):=by
 have m:l.Nodup:=List.Pairwise.imp (fun h=>by omega) g;have d:b.Nodup:=q.nodup_iff.2 m;exact List.Pairwise.imp (fun⟨s,u⟩=>by omega) (j.and d)
def ac2{z:ZD}{o:List bC}(h:dZ z o)(lo e b:Int):Prop:=∀ x r2,ea h.S (lo+1080) (aa x)→ea h.S (x.at_-1) r2→x.at_+offO z r2≤lo→lo<x.at_+x.off→e=x.at_∧b=offO z r2
def WT{z:ZD}{o:List bC}(h:dZ z o)(lo:Int):Prop:=∀ x r2,ea h.S (lo+1080) (aa x)→ea h.S (x.at_-1) r2→x.at_+offO z r2≤lo→lo<x.at_+x.off→False
theorem BI{z:ZD}{o:List bC}(h:dZ z o)(g:Tg){lo:Int}(l0:0≤lo)(l1:lo≤460000) :
  ∃(l:List Int) (tg:Tg) (e b:Int),l.length≤2∧l.Pairwise (· < ·)∧(∀ a,a ∈ l↔dj h lo a)∧(-1000000≤e∧e≤1000000∧-1080≤b∧b≤1080)∧(l=[]→ac2 h lo e b)∧bA tab.get 54 [sY z g o,vi lo]=Eq (.t [.c (.f (sl tg (cL l))),vi e,vi b]):=by
 obtain⟨rr,⟨l,tg,e,b,hl,n5,U,m4,m7,rfl⟩,hp⟩:∃ rr,(∃(l:List Int) (tg:Tg) (e b:Int),l.length≤2∧l.Pairwise (· < ·)∧(∀ a,a ∈ l↔dj h lo a)∧(-1000000≤e∧e≤1000000∧-1080≤b∧b≤1080)∧(l=[]→ac2 h lo e b)∧rr=.t [.c (.f (sl tg (cL l))),vi e,vi b])∧bA tab.get 54 [sY z g o,vi lo] rr:=by
  refine bQ rfl rfl fun Q hQ=>?_;apply ai;simp;apply ai;simp [aQ (n:=lo+1080)];refine aq (aB ?_);refine bI (fun m s=>∃(t:T) (J:aj) (l:List Int) (c:C) (tm:Int),s=⟨t,[],J⟩∧LR J c 1 (cL l)∧yJ h lo tm l∧WR h lo m tm l.length∧(m≠2→WT h lo)∧-2000≤tm∧t.g 0=sY z g o∧t.g 1=vi lo∧t.g 4=.c c∧t.g 7=vi tm) 2
   ⟨_,_,[],_,lo+1080,rfl,LR.nil _ _,⟨by simp,by simp,List.Pairwise.nil,fun a ha=>.inr (by have:=rW h ha;omega)⟩,.inl ⟨rfl,rfl,rfl⟩,fun k=>absurd rfl k,by omega,by simp,by simp,by simp,by simp⟩ ?_
  rintro m s ⟨t,J,l,c,tm,rfl,hL,U,Z,c_,n_,F,A,B,H⟩ ih;have o7:tm≤500000:=by rcases Z with⟨-,e,-⟩ | ⟨-,e,-⟩ | ⟨-,e,-⟩<;>omega
  have N:l.length≤2:=by rcases Z with⟨-,-,e⟩ | ⟨-,-,e,-⟩ | ⟨-,-,e,-⟩<;>omega
  obtain⟨r,hr,d3⟩:=h.last g (t:=tm) (by omega) (by omega);obtain⟨r',n6,j7⟩:=xY h g (t:=tm) (by omega) (by omega);obtain rfl:=dV h hr n6;have hb:=h.offO hr;have b9:∀(t:T) (J:aj) (l:List Int) (c:C) (b8:Nat),LR J c 1 (cL l)→yK h lo r l→WR h lo m tm 0→(m=2→l.length≤1)→l.length≤2→t.g 0=sY z g o→t.g 1=vi lo→t.g 4=.c c→t.g 7=vi tm→t.g 8=.c (.ptr b8 0 0)→t.g 9=vb r.isSome →
    J[b8]?=aa (.box ((r.getD ⟨0,0⟩).row.map .f) 0) →
    WP tab.get 54 ab [.code nZ,.inBlock 1,.inLoop mW,.inBlock 0,.code jJ] ⟨t,[],J⟩ Q:=by
   clear hL U N F A B H Z;intro t J l c b8 hL U Z m9 N F A B H L g9 I;have b_:m=2→tm=lo+1080:=by
    intro e;rcases Z with⟨u,v,-⟩ | ⟨u,-⟩ | ⟨u,-⟩<;>omega
   have d9:∀ t:T,(∀ x,r=aa x→x.at_<lo-1080)→t.g 4=.c c→WP tab.get 54 ab [.code jJ] ⟨t,[],J⟩ Q:=by
    intro t hd B;obtain⟨H',d7,l',hp,n4,l9,-⟩:=MF hL N;have l_:=U.done hd;have d5:WT h lo:=by
     by_cases hm:m=2
     ·intro x r2 E X S h2;rw [←b_ hm]at E;have h3:=hd x (dV h hr E);have h4:=h.off E.1;omega
     ·exact c_ hm
    have d7:=d7.eq;apply ai;simp [B,d7];apply ai;simp [B];obtain⟨tg,m6⟩:=l9.ex (uP _) 63;refine aJ (hQ _ _ (.t [.c (.f (sl tg (cL l'))),vi 0,vi 0]) ⟨l',tg,0,0,by rw [hp.length_eq];exact N,afe hp n4 U.pw,fun a=>⟨fun ha=>U.at_ a (hp.subset ha),fun ha=>hp.symm.subset (l_ a ha)⟩,by decide,fun _ x r2 a b c d=>(d5 x r2 a b c d).elim,rfl⟩ ⟨rfl,.t [.c c,vi 0,vi 0],?_,?_⟩)
    ·simp [Km.results,bs,ba]
    ·simp [fJ,bO,ba,deep,m6]
   refine aq (ai ?_);cases r with
   | none=>
    simp [g9];refine ak (by simp) (bq rfl ?_);exact d9 _ (fun x E=>by cases E) (by simp [B])
   | some x=>
    simp [bC.row]at I;have hw:=aQ (n:=lo-1080);by_cases E:x.at_<lo-1080
    ·simp [g9,L,A,I,aK,hw,E];refine ak (by simp) (bq rfl ?_);exact d9 _ (fun y hy=>by cases hy;exact E) (by simp [B])
    ·simp [g9,L,A,I,aK,hw,E];refine a5 (by simp) ?_;have j8:=hr.2.1;have w1:=aQ (n:=x.at_-1);obtain⟨r2,X,d6⟩:=xY h g (t:=x.at_-1) (by omega) (by omega);have a9:=h.offO X;have w2:=aQ (n:=x.at_+offO z r2);have o8:=h.off hr.1;have w3:=aQ (n:=x.at_+x.off);have i_:m≠0:=by
      rintro rfl;rcases Z with⟨u,-⟩ | ⟨u,-⟩ | ⟨-,-,-,K⟩
      ·cases u
      ·cases u
      ·exact E (K x hr.1 j8)
     refine aq (ai ?_);simp [F,L,I,aK,w1,d6];apply ai;have next:¬ (x.at_+offO z r2≤lo∧lo<x.at_+x.off)→∀ t:T,t.g 0=sY z g o→t.g 1=vi lo→t.g 4=.c c→t.g 8=.c (.ptr b8 0 0)→WP tab.get 54 ab [.code w9,.inBlock 1,.inLoop mW,.inBlock 0,.code jJ] ⟨t,[],J⟩ Q:=by
      intro m_ t F A B L;have d5:WT h lo:=by
       by_cases hm:m=2
       ·intro x' j9 O M S h2;rw [←b_ hm]at O;have u:=dV h hr O;cases u;have v:=dV h X M;subst v;exact m_ ⟨S,h2⟩
       ·exact c_ hm
      refine av (.inl rfl) ?_;simp [L,I,aK,w1];refine aw ?_;have a_:=zC h hr;refine ih (m-1) _ (by omega) ⟨_,J,l,c,x.at_-1,rfl,hL,U.next,?_,fun _=>d5,by omega,by simp [F],by simp [A],by simp [B],by simp⟩;rcases Z with⟨u,v,-⟩ | ⟨u,v,-,K⟩ | ⟨u,-⟩
      ·exact .inr (.inl ⟨by omega,by omega,m9 u,fun y hy S=>by have:=a_ y hy S;omega⟩)
      ·have:=K x hr.1 j8;exact .inr (.inr ⟨by omega,by omega,N,fun y hy S=>by have:=a_ y hy S;omega⟩)
      ·omega
     by_cases S:x.at_+offO z r2≤lo
     ·by_cases h2:lo<x.at_+x.off
      ·simp [A,L,I,aK,w2,w3,S,h2];refine ak (by simp) (ai ?_);simp [L,I,aK];refine aJ (hQ _ _ (.t [.c (.f (sl .nil (cL []))),vi x.at_,vi (offO z r2)]) ⟨[],.nil,_,_,by simp,List.Pairwise.nil,fun a=>⟨fun ha=>(by cases ha),fun ha=>absurd ha (XC hr X S h2 a)⟩,⟨by omega,by omega,a9.1,a9.2⟩,fun _ x' j9 O M k1 k2=>(by
        by_cases hm:m=2
        ·rw [←b_ hm]at O;have u:=dV h hr O;cases u;have v:=dV h X M;subst v;exact⟨rfl,rfl⟩
        ·exact(c_ hm x' j9 O M k1 k2).elim),rfl⟩ ⟨rfl,.t [.c (.f .aF),vi x.at_,vi (offO z r2)],?_,?_⟩)
       ·simp [Km.results,bs,ba]
       ·simp [fJ,bO,ba,sl,Tg.fc]
      ·simp [A,L,I,aK,w2,w3,S,h2];refine a5 (by simp) ?_;exact next (fun k=>h2 k.2) _ (by simp [F]) (by simp [A]) (by simp [B]) (by simp [L])
     ·simp [A,w2,L,I,aK,S];refine a5 (by simp) ?_;exact next (fun k=>S k.1) _ (by simp [F]) (by simp [A]) (by simp [B]) (by simp [L])
  refine aB (ai ?_);simp [F,H,d3,bC.row];obtain⟨J1,c9⟩:=aO (J++[.box [.f (fi (r.getD ⟨0,0⟩).at_),.f (fi (r.getD ⟨0,0⟩).off)] 0]:aj);rw [←c9];have I:J1[J.length]?=aa (.box [.f (fi (r.getD ⟨0,0⟩).at_),.f (fi (r.getD ⟨0,0⟩).off)] 0):=by rw [c9];simp
  have e_:LR J1 c 1 (cL l):=by rw [c9];exact hL.push _
  apply ai;simp [F,H,j7];refine aq (ai ?_);simp [A,aQ (n:=lo-offO z r)];have d_:WR h lo m tm 0:=by
   rcases Z with⟨u,v,-⟩ | ⟨u,v,-,K⟩ | ⟨u,v,-,K⟩
   ·exact .inl ⟨u,v,rfl⟩
   ·exact .inr (.inl ⟨u,v,by omega,K⟩)
   ·exact .inr (.inr ⟨u,v,by omega,K⟩)
  obtain⟨q,W⟩:=aO (lo-offO z r);rw [←W];have i_:q≤tm→m=2∧l.length=0∨m=1∧l.length≤1:=by
   intro j;rcases Z with⟨u,v,K⟩ | ⟨u,v,e4,K⟩ | ⟨u,v,-,K⟩<;>omega
  have d8:∀ t:T,q≤tm→yK h lo r (l++[q])→t.g 0=sY z g o→t.g 1=vi lo→t.g 4=.c c→t.g 7=vi tm→t.g 8=.c (.ptr J.length 0 0)→t.g 9=vb r.isSome→t.g 11=vi q →
    WP tab.get 54 ab [.code w7,.code nZ,.inBlock 1,.inLoop mW,.inBlock 0,.code jJ] ⟨t,[],J1⟩ Q:=by
   intro t j h_ F A B H L g9 k_;obtain⟨J2,a8⟩:=aO (J1++[.box ([fi q].map .f) 0]:aj);have f9:LR J2 c 1 (cL l):=by rw [a8];exact e_.push _
   have a9:J2[J1.length]?=aa (.box ([fi q].map .f) 0):=by rw [a8];simp
   have j_:J2[J.length]?=aa (.box [.f (fi (r.getD ⟨0,0⟩).at_),.f (fi (r.getD ⟨0,0⟩).off)] 0):=by rw [a8,At (au I)];exact I
   obtain⟨c3,J3,g_,f_,l7,n9⟩:=f9.app (uP l) (by decide) (row:=[fi q]) rfl (bytes:=8) (cC (by simp;omega) (by decide)) a9;have n7:=l7.2 _ _ j_ (f9.cQ j_);have hm:=i_ j;refine av (.inl rfl) ?_;have v:J1++[.box [.f (fi q)] 0]=J2:=a8.symm;simp [B,k_];rw [v];simp [g_];have K:cL l++[[fi q]]=cL (l++[q]):=by simp
   rw [K]at f_;refine b9 _ J3 (l++[q]) c3 J.length f_ h_ d_ (fun e=>by rw [api,asH];omega) (by rw [api,asH];omega) (by simp [F]) (by simp [A]) (by simp) (by simp [H]) (by simp [L]) (by simp [g9]) (by simpa [bC.row]using n7)
  have Y:∀ t:T,yK h lo r l→t.g 0=sY z g o→t.g 1=vi lo→t.g 4=.c c→t.g 7=vi tm→t.g 8=.c (.ptr J.length 0 0)→t.g 9=vb r.isSome →
    WP tab.get 54 ab [.code nZ,.inBlock 1,.inLoop mW,.inBlock 0,.code jJ] ⟨t,[],J1⟩ Q:=by
   intro t hR F A B H L g9;exact b9 _ J1 l c J.length e_ hR d_ (by rcases Z with⟨u,v,K⟩ | ⟨u,v,e4,K⟩ | ⟨u,v,-,K⟩<;>omega) N F A B H L g9 (by simpa [bC.row]using I)
  apply ai;by_cases j:q≤tm
  ·cases r with
   | none=>
    simp [H,j];refine ak (by simp) ?_;exact d8 _ j (by rw [W]at j ⊢;exact U.app hr (nH h hr (by omega)) j (fun x E=>by cases E)) (by simp [F]) (by simp [A]) (by simp [B]) (by simp [H]) (by simp) (by simp) (by simp)
   | some x=>
    simp at I;by_cases E:x.at_≤q
    ·simp [H,j,I,aK,E];refine ak (by simp) ?_;exact d8 _ j (by rw [W]at j E ⊢;exact U.app hr (nI h hr (by omega) (by omega)) j (fun y hy=>by cases hy;exact E)) (by simp [F]) (by simp [A]) (by simp [B]) (by simp [H]) (by simp) (by simp) (by simp)
    ·simp [H,j,I,aK,E];refine a5 (by simp) ?_;exact Y _ (U.no hr fun k=>E (by rw [W];exact k.2 x rfl)) (by simp [F]) (by simp [A]) (by simp [B]) (by simp [H]) (by simp) (by simp)
  ·simp [H,j];refine a5 (by simp) ?_;exact Y _ (U.no hr fun k=>j (by rw [W];exact k.1)) (by simp [F]) (by simp [A]) (by simp [B]) (by simp [H]) (by simp) (by simp)
 exact⟨l,tg,e,b,hl,n5,U,m4,m7,hp.eq⟩
theorem nM:bA tab.get 55 []=Eq (.a [.f (.fn 95 []),.f (.fn 96 []),.f (.fn 97 [])]):=bA.eq (ft (m:=40) (d:=10) (by kernel_rfl))
theorem afk(a b c:V)(H:aj):Ev tab.get (.fn 95) [a,b,c] H (.c (.f .aF)) H:=by
 obtain⟨r,H',g,rfl,rfl⟩:∃ r H',Ev tab.get (.fn 95) [a,b,c] H r H'∧r=.c (.f .aF)∧H'=H:=by
  refine dn rfl rfl fun Q d=>?_;apply ai;simp;apply ai;simp;exact aJ (d _ _ _ rfl (kM (by simp)) ⟨rfl,rfl⟩)
 exact g
theorem Zc{a c:Int}(j:ah .i64 (a-c)=a-c)(b:V)(H:aj):Ev tab.get (.fn 96) [vi a,b,vi c] H (.c (.sl H.length 0 1 1 0 1)) (H++[.box [.f (fi (a-c))] 0]):=by
 obtain⟨r,H',g,rfl,rfl⟩:∃ r H',Ev tab.get (.fn 96) [vi a,b,vi c] H r H'∧r=.c (.sl H.length 0 1 1 0 1)∧H'=H++[.box [.f (fi (a-c))] 0]:=by
  refine dn rfl rfl fun Q d=>?_;apply ai;simp;apply ai;simp [j];exact aJ (d _ _ _ rfl (kM (by simp)) ⟨rfl,rfl⟩)
 exact g
theorem ado(a c:V)(b:Int)(H:aj):Ev tab.get (.fn 97) [a,vi b,c] H (.c (.sl H.length 0 1 1 0 1)) (H++[.box [.f (fi b)] 0]):=by
 obtain⟨r,H',g,rfl,rfl⟩:∃ r H',Ev tab.get (.fn 97) [a,vi b,c] H r H'∧r=.c (.sl H.length 0 1 1 0 1)∧H'=H++[.box [.f (fi b)] 0]:=by
  refine dn rfl rfl fun Q d=>?_;apply ai;simp;apply ai;simp;exact aJ (d _ _ _ rfl (kM (by simp)) ⟨rfl,rfl⟩)
 exact g
theorem jo{z:ZD}{o:List bC}(h:dZ z o){lo:Int}(l0:0≤lo)(l1:lo≤460000) :
  ∃(l:List Int) (e b:Int),l.length≤2∧l.Pairwise (· < ·)∧(∀ a,a ∈ l↔dj h lo a)∧(-1000000≤e∧e≤1000000∧-1080≤b∧b≤1080)∧(l=[]→ac2 h lo e b) ∧
   ∀ cF fold:Int,0≤cF→cF≤2→0≤fold→fold≤2→∃ A:Tg,bA tab.get 15 [z.v,vi lo,vi cF,vi fold]=Eq (.t [.c (.f (sl A (cL (fK cF fold lo l e b)))),vi 0]):=by
 obtain⟨g,U⟩:=FU h;obtain⟨l,A,e,b,S,W,r,L,N,O⟩:=BI h g l0 l1;have hc:=h.c;refine⟨l,e,b,S,W,r,L,N,fun cF fold k p f i=>?_⟩;obtain⟨Y,⟨d,rfl⟩,hp⟩:∃ Y,(∃ d:Tg,Y=.t [.c (.f (sl d (cL (fK cF fold lo l e b)))),vi 0])∧bA tab.get 15 [z.v,vi lo,vi cF,vi fold] Y:=by
  refine bQ rfl rfl fun Q hQ=>?_;apply ai;simp;obtain⟨H0,v⟩:=aO ([.box (z.row.map .f) 0]:aj);rw [←v];have z0:H0[0]?=aa (.box (z.row.map .f) 0):=by rw [v];rfl
  have a8:H0.length=1:=by rw [v];rfl
  clear v;apply ai;simp [cm z0 hc,-an,U];refine aq (ai ?_);simp [yB (n:=lo) (m:=2251799813684168) (by decide) (by decide) (by omega) (by omega),show¬ cF<0 by omega,show¬ 2<cF by omega,show¬ fold<0 by omega,show¬ 2<fold by omega];refine a5 (by simp) ?_;apply ai;simp [O];have j:∀(t:T) (J:aj) (c:C) (d:Tg),t.g 12=.c c→c8 deep J c=aa (sl d (cL (fK cF fold lo l e b)))→WP tab.get 15 ab [.inBlock 0,.code wZ] ⟨t,[],J⟩ Q:=by
   intro t J c d K M;refine aw (ai ?_);simp [K];refine aJ (hQ _ _ _ ⟨d,rfl⟩ ⟨rfl,.t [.c c,vi 0],?_,?_⟩)
   ·simp [Km.results,bs,ba]
   ·simp [fJ,bO,ba,M]
  refine aq (aB (ai ?_));by_cases u:l=[]
  ·subst u;have s:bH H0 (.f (sl A (cL [])))=aa 0:=by simpa using rR (H:=H0) A (cL [])
   simp at s;simp [s];refine ak (by simp) (av (.inl rfl) ?_);have hg:cF=0∨cF=1∨cF=2:=by omega
   rcases hg with rfl | rfl | rfl
   ·have q:=(afk (vi lo) (vi e) (vi b) H0).eq;simp [nM,mC,dy,aK,bZ,q];exact j _ _ (.f .aF) .nil (by simp) (by simp [fK,sl,Tg.fc])
   ·have q:=(Zc (a:=lo) (c:=b) (aQ) (vi e) H0).eq;simp [nM,mC,dy,aK,bZ,q];exact j _ _ (.sl H0.length 0 1 1 0 1) .fs (by simp) (by simp [fK,sl,deep,kE])
   ·have q:=(ado (vi lo) (vi b) e H0).eq;simp [nM,mC,dy,aK,bZ,q];exact j _ _ (.sl H0.length 0 1 1 0 1) .fs (by simp) (by simp [fK,sl,deep,kE])
  ·have Z:0<l.length:=List.length_pos_iff.2 u;have s:bH H0 (.f (sl A (cL l)))=aa l.length:=by simpa using rR (H:=H0) A (cL l)
   have B:sl A (cL l)=.fs (cL l).flatten l.length:=by
    have:¬ (cL l).isEmpty=ae:=by simpa using u
    unfold sl;rw [aZ this];simp
   simp [s,u];refine al (by simp) ?_;apply ai;by_cases F:fold=0
   ·subst F;simp;refine ak (by simp) (av (.inl rfl) ?_);have X:dw H0 1 (.c (.f (.fs (cL l).flatten l.length))) ab (aa (vi 1)) ab=aa (.c (.f (sl .fs (cL (l.take 1))))):=by
     rcases l with _ | ⟨x,_ | ⟨y,_ | ⟨w,l⟩⟩⟩
     ·exact absurd rfl u
     ·rfl
     ·rfl
     ·simp at S
    simp [B,X];exact j _ _ (.f (sl .fs (cL (l.take 1)))) .fs (by simp) (by simp [fK,u])
   simp [F];refine al (by simp) ?_;apply ai;by_cases I:fold=1
   ·subst I;simp;refine ak (by simp) (av (.inl rfl) ?_);have X:dw H0 1 (.c (.f (.fs (cL l).flatten l.length))) (aa (vi ((l.length:Int)-1))) ab ab=aa (.c (.f (sl .fs (cL (l.drop (l.length-1)))))):=by
     rcases l with _ | ⟨x,_ | ⟨y,_ | ⟨w,l⟩⟩⟩
     ·exact absurd rfl u
     ·rfl
     ·rfl
     ·simp at S
    have E:bH H0 (.f (.fs (cL l).flatten l.length))=aa l.length:=B▸s;simp [B,E,aQ (n:=(l.length:Int)-1),X];exact j _ _ (.f (sl .fs (cL (l.drop (l.length-1))))) .fs (by simp) (by simp [fK,u])
   simp [I];refine a5 (by simp) ?_;exact j _ _ (.f (sl A (cL l))) A (by simp) (by simp [fK,u,F,I])
 exact⟨d,hp.eq⟩
section
variable{z:ZD}{o:List bC}
noncomputable def uS (h:dZ z o) (lo cF fold:Int):List Int:=
 if b:0≤lo∧lo≤460000 then
  fK cF fold lo (Classical.choose (jo h b.1 b.2)) (Classical.choose (Classical.choose_spec (jo h b.1 b.2))) (Classical.choose (Classical.choose_spec (Classical.choose_spec (jo h b.1 b.2))))
 else []
structure akB(h:dZ z o)(lo:Int)(l:List Int)(e b:Int):Prop where
 len:l.length≤2
 pw:l.Pairwise (· < ·)
 mem:∀ a,a ∈ l↔dj h lo a
 bd:-1000000≤e∧e≤1000000∧-1080≤b∧b≤1080
 cF:l=[]→ac2 h lo e b
 run:∀ cF fold:Int,0≤cF→cF≤2→0≤fold→fold≤2→∃ tg:Tg,bA tab.get 15 [z.v,vi lo,vi cF,vi fold]=Eq (.t [.c (.f (sl tg (cL (fK cF fold lo l e b)))),vi 0])
 ins:∀ cF fold:Int,uS h lo cF fold=fK cF fold lo l e b
theorem LL(h:dZ z o){lo:Int}(g:0≤lo)(j:lo≤460000):∃ l e b,akB h lo l e b:=by
 have d:=Classical.choose_spec (Classical.choose_spec (Classical.choose_spec (jo h g j)));exact⟨_,_,_,d.1,d.2.1,d.2.2.1,d.2.2.2.1,d.2.2.2.2.1,d.2.2.2.2.2,fun cF fold=>by unfold uS;rw [dif_pos ⟨g,j⟩]⟩
theorem adY(h:dZ z o){lo:Int}(q:0≤lo)(s:lo≤460000){cF fold:Int}(j:0≤cF)(m:cF≤2)(d:0≤fold)(g:fold≤2) :
  ∃ u:Tg,bA tab.get 15 [z.v,vi lo,vi cF,vi fold]=Eq (.t [.c (.f (sl u (cL (uS h lo cF fold)))),vi 0]):=by
 obtain⟨l,e,b,k⟩:=LL h q s;rw [k.ins];exact k.run cF fold j m d g
noncomputable def vY (h:dZ z o) (lo:Int):List Int:=uS h lo 0 2
theorem YO(lo:Int)(l:List Int)(e b:Int):fK 0 2 lo l e b=l:=by
 unfold fK;split
 ·rename_i h;rw [h];rfl
 ·rfl
theorem zi{h:dZ z o}{lo:Int}{l:List Int}{e b:Int}(k:akB h lo l e b):vY h lo=l:=by unfold vY;rw [k.ins,YO]
theorem adV(h:dZ z o){lo:Int}(d:0≤lo)(g:lo≤460000):(vY h lo).Pairwise (· < ·):=by
 obtain⟨l,e,b,k⟩:=LL h d g;rw [zi k];exact k.pw
theorem XN(h:dZ z o){lo:Int}(d:0≤lo)(g:lo≤460000)(a:Int):a ∈ vY h lo↔dj h lo a:=by
 obtain⟨l,e,b,k⟩:=LL h d g;rw [zi k];exact k.mem a
theorem rM(h:dZ z o){lo:Int}(m:0≤lo)(q:lo≤460000){cF fold:Int}(g:0≤fold)(j:fold≤2):(uS h lo cF fold).length≤2:=by
 obtain⟨l,e,b,k⟩:=LL h m q;have s:=k.len;rw [k.ins];by_cases d:l=[]
 ·subst d;rw [Mu];split<;>decide
 ·rw [YP d ⟨g,j⟩];split<;>omega
theorem FF(h:dZ z o){lo:Int}(j:0≤lo)(m:lo≤460000){cF fold:Int}:∀ a ∈ uS h lo cF fold,-1000000≤a∧a≤1000000:=by
 intro a d;obtain⟨l,e,b,k⟩:=LL h j m;have q:=k.bd;rw [k.ins]at d;by_cases g:l=[]
 ·subst g;unfold fK at d;rw [bp rfl]at d;split at d
  ·cases d
  ·split at d<;>simp at d<;>omega
 ·have:=rW h ((k.mem a).1 (YQ g d));omega
theorem afa:∀ {l m:List Int},l.Pairwise (· < ·)→m.Pairwise (· < ·)→(∀ a,a ∈ l↔a ∈ m)→l=m:=by
 intro l;induction l with
 | nil=>
  intro m _ _ h;cases m with
  | nil=>rfl| cons x m=>exact absurd ((h x).2 arU) (by simp)
 | cons x l u=>
  intro m q s h;cases m with
  | nil=>exact absurd ((h x).1 arU) (by simp)
  | cons y m=>
   have b:=asN.1 q;have d:=asN.1 s;have e:x=y:=by
    rcases ass.1 ((h x).1 arU)with e | e
    ·exact e
    ·rcases ass.1 ((h y).2 arU)with j | j
     ·exact j.symm
     ·have:=b.1 _ j;have:=d.1 _ e;omega
   subst e;rw [u b.2 d.2];intro a;constructor
   ·intro g;rcases ass.1 ((h a).1 (ar0 _ g))with e | e
    ·have:=b.1 _ g;omega
    ·exact e
   ·intro g;rcases ass.1 ((h a).2 (ar0 _ g))with e | e
    ·have:=d.1 _ g;omega
    ·exact e
end
noncomputable def Ec {z:ZD} {o:List bC} (h:dZ z o) (s:bf) (d:Int):List sS:=
 if s.dropped d=ae then []else(uS h (s.at_ d) s.cF s.fold).map fun a=>⟨d,a,a+s.uX d⟩
def akC(a b:sS):Prop:=a.fr<b.fr∨a.fr=b.fr∧(a.day<b.day∨a.day=b.day∧a.to<b.to)
instance(a b:sS):Decidable (akC a b):=by unfold akC;exact inferInstance
theorem sK{l:List aX}(h:oN l){j:Nat}(g:j<l.length)(d:Int):dO (l.take (j+1)) d=if l[j].day=d then aa l[j]else dO (l.take j) d:=by
 unfold dO;rw [aq8 g,List.find?_append];by_cases b:l[j].day=d
 ·rw [bp b];have:(l.take j).find? (fun x=>decide (x.day=d))=ab:=by
   rw [as9];intro x m;obtain⟨i,hi,rfl⟩:=arS m;simp at hi;rw [List.getElem_take];have:=ar1.1 h i j (by omega) g (by omega);simp;omega
  rw [this];simp [b]
 ·rw [aZ b];simp [b]
theorem sJ{l:List aX}(h:oN l){j:Nat}(b:j<l.length){d:Int}(g:l[j].day=d):dO l d=aa l[j]:=by
 unfold dO;have key:∀(i:Nat),i≤l.length→j<i→(l.take i).find? (fun x=>decide (x.day=d))=aa l[j]:=by
  intro i;induction i with
  | zero=>intro _ h;omega
  | succ i s=>
   intro hi m;have:=sK h (j:=i) (by omega) d;unfold dO at this;rw [this];by_cases e:j=i
   ·subst e;rw [bp g]
   ·have q:=ar1.1 h j i b (by omega) (by omega);rw [aZ (by omega)];exact s (by omega) (by omega)
 have:=key l.length (OF _) b;rwa [ar8]at this
theorem BU{l:List aX}{d:Int}(h:∀ j (b:j<l.length),l[j].day≠d):dO l d=ab:=by
 unfold dO;rw [as9];intro x g;obtain⟨j,b,rfl⟩:=arS g;have:=h j b;simp [this]
theorem u5{l:List aX}{d:Int}{m:aX}(h:dO l d=aa m):m ∈ l∧m.day=d:=by
 unfold dO at h;exact⟨List.mem_of_find?_eq_some h,by simpa using List.find?_some h⟩
def atO(s:bf)(d:Int):Option aX→Int
 | none=>d*1440+s.mi| some m=>m.to*1440+m.mi
def loO(s:bf):Option aX→Int
 | none=>s.le| some m=>m.le
def drO:Option aX→Bool
 | none=>ag| some m=>m.drop
theorem W7(s:bf)(d:Int):s.at_ d=atO s d (dO s.mv d):=by unfold bf.at_ atO;split<;>rename_i h<;>rw [h]
theorem uY(s:bf)(d:Int):s.uX d=loO s (dO s.mv d):=by unfold bf.uX loO;split<;>rename_i h<;>rw [h]
theorem rB(s:bf)(d:Int):s.dropped d=drO (dO s.mv d):=by unfold bf.dropped drO;split<;>rename_i h<;>rw [h]
structure bf.oH(s:bf):Prop where
 ok:s.OK
 ml:s.mv.length≤8
 zo:s.zo=⟨#[122]⟩
 rl:s.ru.length≤15
 le:s.le≤2880
 mo:∀ m ∈ s.mv,m.day≤44∧m.to≤44∧m.mi≤1439∧m.le≤2880
theorem bf.oH.at_{s:bf}(h:s.oH){d:Int}(u:0≤d)(v:d≤300):0≤s.at_ d∧s.at_ d≤460000:=by
 rw [W7];have q:=h.ok.mi;cases l:dO s.mv d with
 | none=>simp only [atO];omega
 | some m=>
  have b:=(u5 l).1;have x:=h.mo m b;have g:=h.ok.mo m b;simp only [atO];cases j:m.drop with
  | true=>have:=g.dr j;omega| false=>have:=g.nd j;omega
theorem bf.oH.uX{s:bf}(h:s.oH)(d:Int)(g:s.dropped d=ag):1≤s.uX d∧s.uX d≤2880:=by
 rw [uY];rw [rB]at g;cases j:dO s.mv d with
 | none=>simp only [loO];have:=h.ok.le;have:=h.le;omega
 | some m=>
  have b:=(u5 j).1;have q:=h.mo m b;have l:=h.ok.mo m b;rw [j]at g;have:=l.nd g;simp only [loO];omega
structure M5 where
 a:Nat
 b:Nat
 c:Nat
 d:Nat
 e:Nat
def M5.row(x:M5):List FC:=[u8 x.a,u8 x.b,u8 x.c,u8 x.d,u8 x.e]
structure M5.OK(x:M5):Prop where
 a:x.a<256
 b:x.b<256
 c:x.c<256
 d:x.d<256
 e:x.e<256
theorem Ma{x:M5}(I:x.OK):∃ m:aX,m.OK∧(m.day≤39∧m.to≤39∧m.mi≤1275∧m.le≤256)∧bA tab.get 14 [.a (x.row.map .f)]=Eq (.a (m.row.map .f)):=by
 obtain⟨g,⟨m,u,v,rfl⟩,F⟩:∃ g,(∃ m:aX,m.OK∧(m.day≤39∧m.to≤39∧m.mi≤1275∧m.le≤256)∧g=.a (m.row.map .f))∧bA tab.get 14 [.a (x.row.map .f)] g:=by
  obtain⟨a,b,c,d,e⟩:=x;obtain⟨y,z,A,B,E⟩:=I;simp only at y z A B E;obtain⟨p,p1,s⟩:=jI a (m:=40) (by decide);obtain⟨q,M,J⟩:=jI b (m:=40) (by decide);obtain⟨r,r1,r2⟩:=jI e (m:=4) (by decide);have L:=aQ (n:=(c:Int)*5);have K:ah .i64 (1+(d:Int))=1+d:=aQ;have i0:∀ H,aP H 1 (aa 5) (.c (.ptr 0 0 0)) (vi 0)=aa (.c (.ptr 0 0 0)):=fun _=>rfl;have i1:∀ H,aP H 1 (aa 5) (.c (.ptr 0 0 0)) (vi 1)=aa (.c (.ptr 0 1 0)):=fun _=>rfl;have i2:∀ H,aP H 1 (aa 5) (.c (.ptr 0 0 0)) (vi 2)=aa (.c (.ptr 0 2 0)):=fun _=>rfl;have i3:∀ H,aP H 1 (aa 5) (.c (.ptr 0 0 0)) (vi 3)=aa (.c (.ptr 0 3 0)):=fun _=>rfl;have i4:∀ H,aP H 1 (aa 5) (.c (.ptr 0 0 0)) (vi 4)=aa (.c (.ptr 0 4 0)):=fun _=>rfl;refine bQ rfl rfl fun Q l=>?_;apply ai;simp [M5.row];refine aq (ai ?_);simp [i4,r2];by_cases j:r=0
  ·refine ak (by simp [j]) (ai ?_);simp [i0,s,oL p (by omega)];refine aJ (l _ _ _ ⟨⟨p,ae,0,0,0⟩,⟨by dsimp only;omega,fun _=>⟨rfl,rfl,rfl⟩,fun h=>by cases h⟩,by dsimp only;omega,rfl⟩ ?_);simp [aX.row,fJ,bO,ba]
  ·refine al (by simp [j]) (aL (ai ?_));simp [i0,i1,i2,i3,s,J,oL p (by omega),oL q (by omega),oL c (by omega),oL d (by omega),L,K];refine aJ (l _ _ _ ⟨⟨p,ag,q,(c:Int)*5,1+d⟩,⟨(by dsimp only;omega),fun h=>(by cases h),fun _=>(by dsimp only;omega)⟩,by dsimp only;omega,rfl⟩ ?_);simp [aX.row,fJ,bO,ba]
 exact⟨m,u,v,F.eq⟩
def gw(l:List M5):List (List FC):=l.map M5.row
@[simp] theorem aib (l:List M5):(gw l).length=l.length:=by simp [gw]
theorem BN(l:List M5):bR 5 (gw l):=bR.map fun _=>rfl
theorem L3{l:List M5}{j:Nat}(b:j<l.length):(gw l)[j]?=aa l[j].row:=by simp [gw,b]
theorem ahW{H:aj}{g:Tg}{l:List M5}{j:Nat}(b:j<l.length)(_:l.length≤9223372036854775807):aP H 5 ab (.c (.f (sl g (gw l)))) (vi j)=aa (.c (.f (.fp (gw l).flatten (j*5)))):=by
 have:=c5 (H:=H) (g:=g) (rows:=gw l) (sz:=5) (k:=.i64) (i:=(j:Int)) (by omega) (by simp;omega);simpa using this
theorem al7{H:aj}{l:List M5}{j:Nat}(b:j<l.length):aU H (aa 5) (.c (.f (.fp (gw l).flatten (j*5))))=aa (.a (l[j].row.map .f)):=by
 have:=fM (H:=H) (rows:=gw l) (j:=j) (sz:=5) (row:=l[j].row) (BN l) (L3 b);simpa using this
structure rm where
 ng:Tg
 no:List lj
 mi:Nat
 le:Nat
 cF:Nat
 fold:Nat
 mg:Tg
 mv:List M5
abbrev u16(n:Nat):FC:=.int .u16 n
def rm.row(x:rm):List FC:=[sl x.ng (eE x.no),u16 x.mi,u16 x.le,u8 x.cF,u8 x.fold,sl x.mg (gw x.mv)]
structure rm.OK(x:rm):Prop where
 nl:x.no.length≤9223372036854775807
 no:∀ n ∈ x.no,n.OK
 mi:x.mi<65536
 le:x.le<65536
 cF:x.cF<256
 fold:x.fold<256
 ml:x.mv.length≤9223372036854775807
 mv:∀ m ∈ x.mv,m.OK
theorem CD(n:Nat){m:Int}(d:0<m):∃ a:Nat,(a:Int)<m∧bS .rem (.c (.f (.int .u16 n))) (.c (.f (.int .u16 m)))=aa (.c (.f (.int .u16 a))):=by
 have b:=asd (n:Int) (show m≠0 by omega);have g:=asj (n:Int) d;refine⟨((n:Int) % m).toNat,by omega,?_⟩;rw [lV (by omega),Int.tmod_eq_emod_of_nonneg (by omega),asK b]
theorem bf.Ad.aps{a b:bf}(h:bf.Ad a b)(k:b.oH):a.oH:=by
 have d:a.ru.length=b.ru.length:=by have:=congrArg List.length h.ru;simpa using this
 refine⟨⟨by rw [h.ru];exact k.ok.ru,by rw [d];exact k.ok.rl,by rw [h.mi];exact k.ok.mi,by rw [h.le];exact k.ok.le,by rw [h.zo];exact k.ok.zo,by rw [h.cF];exact k.ok.cF,by rw [h.fold];exact k.ok.fold,by rw [h.mv];exact k.ok.ml,by rw [h.mv];exact k.ok.ms,by rw [h.mv];exact k.ok.mo⟩,by rw [h.mv];exact k.ml,by rw [h.zo];exact k.zo,by rw [d];exact k.rl,by rw [h.le];exact k.le,by rw [h.mv];exact k.mo⟩
theorem L8{cals:Nat}(hc:cals=0∨cals=2){x:rm}(E:x.OK) :
  ∃ s:bf,s.oH∧s.mv.length≤4∧bA tab.get 2 [.a (x.row.map .f),vi cals]=Eq s.v:=by
 obtain⟨rr,⟨s,n,h4,rfl⟩,hp⟩:∃ rr,(∃ s:bf,s.oH∧s.mv.length≤4∧rr=s.v)∧bA tab.get 2 [.a (x.row.map .f),vi cals] rr:=by
  obtain⟨r,hr,c9,O⟩:=X6 hc x.ng x.no E.nl E.no;have f_:=E.mi;have f9:=E.le;have e_:=E.cF;have d_:=E.fold;obtain⟨p,p1,rp⟩:=CD x.mi (m:=1440) (by decide);obtain⟨q,q1,rq⟩:=CD x.le (m:=2880) (by decide);obtain⟨a,d6,d3⟩:=jI x.cF (m:=3) (by decide);obtain⟨Z,d5,c_⟩:=jI x.fold (m:=3) (by decide);have w1:ah .i64 (1+(q:Int))=1+q:=aQ;refine bQ rfl rfl fun Q hQ=>?_;apply ai;simp [rm.row];apply ai;simp [O,rp,rq,d3,c_,oL p (by omega),oL q (by omega),oL a (by omega),oL Z (by omega),w1];obtain⟨h,I⟩:=aO ([.box (x.row.map .f) 0,.box bB 0,.box ((bf.row ⟨r.tg,r.l,p,1+q,⟨#[122]⟩,a,Z,.nil,[]⟩).map .f) 0]:aj);have b9:bf.oH ⟨r.tg,r.l,p,1+q,⟨#[122]⟩,a,Z,.nil,[]⟩:=
   ⟨⟨hr,by dsimp only;omega,by dsimp only;omega,by dsimp only;omega,by dsimp only;decide,by dsimp only;omega,by dsimp only;omega,by simp,List.Pairwise.nil,by simp⟩,by simp,rfl,c9,by dsimp only;omega,by simp⟩
  have a9:h[0]?=aa (.box (x.row.map .f) 0)∧h[1]?=aa (.box bB 0):=by rw [I];exact⟨rfl,rfl⟩
  have b:h[2]?=aa (.box ((bf.row ⟨r.tg,r.l,p,1+q,⟨#[122]⟩,a,Z,.nil,[]⟩).map .f) 0):=by rw [I];rfl
  have eK:h=[.box [.f (sl x.ng (eE x.no)),.f (u16 x.mi),.f (u16 x.le),.f (u8 x.cF),.f (u8 x.fold),.f (sl x.mg (gw x.mv))] 0,.box [.f .aF,.f (fi 0),.f (fi 0),.f (.str ⟨#[]⟩),.f (fi 0),.f (fi 0),.f .aF] 0,
   .box [.f (sl r.tg (aH r.l)),.f (fi p),.f (fi (1+q)),.f (.str ⟨#[122]⟩),.f (fi a),.f (fi Z),.f .aF] 0]:=by rw [I];rfl
  rw [←eK];refine aq (ai ?_);simp;obtain⟨N,hN⟩:=aO (min x.mv.length 4);refine bV N (fun i t K=>∃ s:bf,s.oH∧s.mv.length≤i∧(K[0]?=aa (.box (x.row.map .f) 0)∧K[1]?=aa (.box bB 0))∧K[2]?=aa (.box (s.row.map .f) 0)∧t.g 2=.c (.ptr 0 0 0)∧t.g 4=.c (.ptr 1 0 0)∧t.g 5=.c (.ptr 2 0 0)) (by omega) (by decide) (by simp)
   ⟨_,b9,by simp,a9,b,by simp,by simp,by simp⟩ ?_ ?_ ?_
  ·rintro i t K L a8 ⟨s,g,j,B,b,u,H,v⟩ A hn;have h0:=B.1;have o:aU K ab (.c (.ptr 0 5 0))=aa (.c (.f (sl x.mg (gw x.mv)))):=by simp [aU,h0,aC,aK,rm.row]
   by_cases c1:(i:Int)<x.mv.length
   ·simp [A,u,o,-an,c1];exact hn _ ⟨s,g,j,B,b,by simp [u],by simp [H],by simp [v]⟩ (by simp [A]) (by simp;omega)
   ·simp [A,u,o,-an,c1];exact hn _ ⟨s,g,j,B,b,by simp [u],by simp [H],by simp [v]⟩ (by simp [A]) (by simp;omega)
  ·rintro i t K a8 ⟨s,g,j,B,b,u,H,v⟩ A nx;have h0:=B.1;have o:aU K ab (.c (.ptr 0 5 0))=aa (.c (.f (sl x.mg (gw x.mv)))):=by simp [aU,h0,aC,aK,rm.row]
   obtain⟨-,-,-,-,-,-,-,w⟩:=cR b;have J:i<x.mv.length:=by omega
   obtain⟨y,hy⟩:=aO (x.mv[i]);obtain⟨m,hm,d8,a_⟩:=Ma (x:=y) (by rw [hy];exact E.mv _ (IT J));obtain⟨F,e,b_⟩:=oQ g.ok (by omega) hm;have d9:=zG (m:=m) g.ok.ms;have U:bf.oH ⟨s.rg,s.ru,s.mi,s.le,s.zo,s.cF,s.fold,s.mg,qy s.mv m⟩:=by
    have k:=g.ok;refine⟨⟨k.ru,k.rl,k.mi,k.le,k.zo,k.cF,k.fold,by dsimp only;omega,Eg k.ms,fun z X=>?_⟩,by dsimp only;omega,g.zo,g.rl,g.le,fun z X=>?_⟩
    ·rcases FY X with rfl | X
     ·exact hm
     ·exact k.mo z X
    ·rcases FY X with rfl | X
     ·omega
     ·exact g.mo z X
   have f:F.mv.length≤i+1:=by rw [e.mv];dsimp only;omega
   have d7:=au b;obtain⟨l,d⟩:=aO (K++[.box (F.row.map .f) 0]:aj);have S:l[K.length]?=aa (.box (F.row.map .f) 0):=by rw [d];simp
   have M:(l[0]?=aa (.box (x.row.map .f) 0)∧l[1]?=aa (.box bB 0))∧l[2]?=aa (.box (s.row.map .f) 0):=by
    rw [d,At (by omega),At (by omega),At (by omega)];exact⟨B,b⟩
   obtain⟨-,-,-,-,-,-,-,e9⟩:=cR S;have Y:cE l (.ptr 2 0 0) (F.row.map .f)=aa (l.set 2 (.box (F.row.map .f) 0)):=by
    have:=M.2;simp [cE,this,over,bf.row]
   have W:(F.row.map C.f).length=7:=rfl;have c:F.row.length=7:=rfl;refine aB (ai ?_);simp [u,v,w,o,-an,A,ahW J E.ml,al7 J,←hy,a_,b_,W];rw [←d];apply ai;simp;refine ak (by simp) (av (.inl rfl) ?_);simp [v,e9,-an,c,Y,-bh];refine aw ?_;refine nx _ _ ⟨F,e.aps U,f,?_,?_,by simp [u],by simp [H],by simp [v]⟩ (by simp [A])
   ·rw [AI (by decide),AI (by decide)];exact M.1
   ·exact If (au M.2)
  ·rintro t K ⟨s,g,j,B,b,u,H,v⟩ A;obtain⟨-,-,-,-,-,-,-,w⟩:=cR b;have n:=B.2;have Y:cE K (.ptr 1 0 0) (s.row.map .f)=aa (K.set 1 (.box (s.row.map .f) 0)):=by simp [cE,n,over,bf.row,bB]
   obtain⟨l,d⟩:=aO (K.set 1 (.box (s.row.map .f) 0):aj);have S:l[1]?=aa (.box (s.row.map .f) 0):=by rw [d];exact If (au n)
   obtain⟨-,-,-,-,-,-,-,e9⟩:=cR S;have W:s.row.length=7:=rfl;apply ai;simp [H,v,w,-an,Y,-bh,W];rw [←d];refine aJ (hQ _ _ _ ⟨s,g,by omega,rfl⟩ ⟨rfl,s.v,?_,?_⟩)
   ·simp [Km.results,bs,ba,H,e9,-an]
   ·simp [fJ,bO]
 exact⟨s,n,h4,hp.eq⟩
theorem Bp(x:aX)(d:Int):Kf tab.get 36 [.a (x.row.map .f),vi d] (vi (lv x.day d)):=by
 refine qh rfl rfl fun H Q b=>?_;apply ai;simp [aX.row];apply ai;simp [oZ];refine aJ (b _ _ ?_);simp
def Xr:List FC→Int
 | .int _ n::_=>n| _=>0
theorem eL(x:aX):Xr x.row=x.day:=rfl
theorem bsM(g:Tg)(l:List aX)(z:oN l)(L:l.length≤1000)(d:Int):∃(i:Nat) (w:Bool),i≤l.length∧(w=ae→∃ h:i<l.length,dO l d=aa l[i])∧(w=ag→dO l d=ab) ∧
  bA tab.get 35 [.c (.f (sl g (aI l))),vi d,.c (.f (.fn 36 []))]=Eq (.t [vi i,vb w]):=by
 have K:tab.get 35=aa (Fk 5):=WU;have b:∀(j:Nat) (m:j<(aI l).length),(aI l)[j]=(l[j]'(by simpa using m)).row:=fun j m=>by simp [aI]
 obtain⟨i,E,F,H,w,B,I⟩:=Du K g (aI l) (bw l) (.c (.f (.fn 36 []))) (fi d) (fun r=>lv (Xr r) d) (by simp;omega)
  (fun r hr=>by
   obtain⟨x,-,rfl⟩:=ase.1 hr;exact⟨36,_,by simp [bZ],Bp x d⟩)
  (fun i j hi m h=>by
   have y:j<l.length:=by simpa using m
   have u:i<l.length:=by omega
   simp only [b,eL]at h ⊢;have:=ar1.1 z i j u y hi;rw [oa]at h;rw [uE];omega)
 refine⟨i,w,by simpa using E,fun A=>?_,fun A=>?_,I⟩
 ·obtain⟨h,e⟩:=B.1 A;rw [b,eL,jM]at e;exact⟨by simpa using h,sJ z (by simpa using h) e⟩
 ·refine BU fun j m e=>?_;have q:j<(aI l).length:=by simpa using m
  by_cases v:j<i
  ·have:=F j q v;rw [b,eL,lz]at this;omega
  ·by_cases s:i=j
   ·subst s;have:w=ae:=B.2 ⟨q,by rw [b,eL,jM];exact e⟩;rw [A]at this;cases this
   ·have J:=H i (by omega) (OF _);rw [b,eL,oa]at J;have:=ar1.1 z i j (by omega) m (by omega);omega
theorem sD(l:List sS)(x:sS):cX (l++[x])=cX l++[x.row]:=by simp [cX]
theorem amw{z:ZD}{o:List bC}(h:dZ z o){s:bf}(y:s.oH){d:Int}(d0:0≤d)(d1:d≤300) :
  ∃ g,bA tab.get 29 [s.v,z.v,vi d]=Eq (.c (.f (sl g (cX (Ec h s d))))):=by
 obtain⟨rr,⟨g,rfl⟩,hp⟩:∃ rr,(∃ g,rr=.c (.f (sl g (cX (Ec h s d)))))∧bA tab.get 29 [s.v,z.v,vi d] rr:=by
  have u:=y.at_ d0 d1;have f_:=y.ok.mi;have J:=y.ok.cF;have q:=y.ok.fold;have hc:=h.c;obtain⟨i,w,hi,d9,d8,c9⟩:=bsM s.mg s.mv y.ok.ms (by have:=y.ml;omega) d;have g_:=y.ml;refine bQ rfl rfl fun Q hQ=>?_;apply ai;simp;obtain⟨K,hK⟩:=aO ([.box (s.row.map .f) 0,.box (z.row.map .f) 0]:aj);have b0:K[0]?=aa (.box (s.row.map .f) 0):=by rw [hK];rfl
  have b1:K[1]?=aa (.box (z.row.map .f) 0):=by rw [hK];rfl
  rw [←hK];clear hK;obtain⟨-,e1,e2,-,e4,e5,e6,-⟩:=cR b0;have w1:=aQ (n:=d*1440);have w2:=aQ (n:=d*1440+s.mi);apply ai;simp [e1,e2,-an,w1,w2];refine aq (ai ?_);simp [e6,-an,c9];have M:∀(t:T) (H:aj) (L:Int),s.dropped d=ag→s.uX d=L→H[0]?=aa (.box (s.row.map .f) 0)→H[1]?=aa (.box (z.row.map .f) 0)→t.g 2=vi d→t.g 3=.c (.ptr 0 0 0)→t.g 4=.c (.ptr 1 0 0)→t.g 7=vi (s.at_ d)→t.g 8=vi L →
    WP tab.get 29 ab [.code wV] ⟨t,[],H⟩ Q:=by
   intro t H L b hL b0 b1 U g3 g4 g7 W;obtain⟨-,e1,e2,-,e4,e5,e6,-⟩:=cR b0;obtain⟨p,Z⟩:=adY h u.1 u.2 J.1 J.2 q.1 q.2;obtain⟨I,hI⟩:=aO (uS h (s.at_ d) s.cF s.fold);have a8:=rM h u.1 u.2 (cF:=s.cF) q.1 q.2;have X:=FF h u.1 u.2 (cF:=s.cF) (fold:=s.fold);have d3:=y.uX d b;rw [hL]at d3;have d5:Ec h s d=I.map fun a=>⟨d,a,a+L⟩:=by unfold Ec;rw [b,aZ (by decide),←hI,hL]
   rw [←hI]at Z a8 X;have z8:aU H (aa 8) (.c (.ptr 1 0 0))=aa z.v:=cm b1 hc;apply ai;simp [g3,g4,g7,z8,e4,e5,-an,Z];apply ai;simp;have d7:bH H (.f (sl p (cL I)))=aa I.length:=by simpa using rR (H:=H) p (cL I)
   refine aq (ai ?_);simp [d7];refine gu I.length (fun j t K=>∃ c,t.g 2=vi d∧t.g 8=vi L∧t.g 57=.c (.f (sl p (cL I)))∧t.g 14=.c c∧LR K c 3 (cX ((I.take j).map fun a=>⟨d,a,a+L⟩))) (by omega) (by decide) (by decide) (by simp) (by simp)
    ⟨.f .aF,by simp [U],by simp [W],by simp,by simp,.inl ⟨rfl,.inl rfl⟩⟩ ?_ ?_
   ·rintro j t K hj ⟨c,U,W,O,N,A⟩ ha hb nx;obtain⟨a,S⟩:=aO (I[j]);have b9:=X _ (IT hj);rw [←S]at b9;have ix:aP K 1 ab (.c (.f (sl p (cL I)))) (vi j)=aa (.c (.f (.fp (cL I).flatten j))):=by
     have:=c5 (H:=K) (g:=p) (rows:=cL I) (sz:=1) (k:=.i64) (i:=(j:Int)) (by omega) (by simp;omega);simpa using this
    have lx:aU K ab (.c (.f (.fp (cL I).flatten j)))=aa (vi a):=by rw [S];exact fW hj
    have wa:=aQ (n:=a+L);obtain⟨x,l⟩:=aO (K++[.box ((sS.row ⟨d,a,a+L⟩).map .f) 0]:aj);have a_:LR x c 3 (cX ((I.take j).map fun a=>⟨d,a,a+L⟩)):=by rw [l];exact A.push _
    have b_:x[K.length]?=aa (.box ((sS.row ⟨d,a,a+L⟩).map .f) 0):=by rw [l];simp
    obtain⟨c',H',Y,a9,d_,e_⟩:=a_.app (ir _) (by decide) (row:=sS.row ⟨d,a,a+L⟩) rfl (bytes:=24) (cC (by simp;omega) (by decide)) b_;simp only [sS.row,aft,apr]at l;refine aB (ai ?_);simp [O,ha,ix,lx];refine av (.inl rfl) ?_;simp [U,W,N,wa];rw [←l];simp [Y];refine aw ?_;refine nx _ _ ⟨c',by simp [U],by simp [W],by simp [O],by simp,?_⟩ (by simp [ha]) (by simp [hb]);rw [aq8 hj,←S,asB];simp only [aft,apr];rw [sD];exact a9
   ·rintro t K ⟨c,U,W,O,N,A⟩ ha hb;rw [ar8,←d5]at A;obtain⟨g',hx⟩:=qn A (ir _);apply ai;simp [N];refine aJ (hQ _ _ _ ⟨g',rfl⟩ ⟨rfl,.c c,?_,?_⟩)
    ·simp [Km.results,bs,ba]
    ·simp [fJ,bO,hx]
  cases w
  ·have E:=d8 rfl;have b:s.dropped d=ag:=by rw [rB,E];rfl
   apply ai;simp;refine a5 (by simp) ?_;refine M _ _ s.le b (by rw [uY,E];rfl) b0 b1 (by simp) (by simp) (by simp) ?_ (by simp);rw [W7,E];simp [atO]
  ·obtain⟨B,E⟩:=d9 rfl;obtain⟨m,F⟩:=aO (s.mv[i]);rw [←F]at E;have f:=y.ok.mo m (by rw [F];exact IT B);have f9:=y.mo m (by rw [F];exact IT B);have c_:=nz (H:=K) (g:=s.mg) B (by omega);have e:=sE (H:=K) B;rw [←F]at e;apply ai;simp;refine ak (by simp) (ai ?_);have d6:m.row.length=5:=rfl;simp [e6,-an,c_,e,d6];obtain⟨x,l⟩:=aO (K++[.box (m.row.map .f) 0]:aj);have c0:x[0]?=aa (.box (s.row.map .f) 0):=by rw [l,At (au b0)];exact b0
   have c1:x[1]?=aa (.box (z.row.map .f) 0):=by rw [l,At (au b1)];exact b1
   have r:x[K.length]?=aa (.box (m.row.map .f) 0):=by rw [l];simp
   have f1:aU x ab (.c (.ptr K.length 1 0))=aa (vb m.drop):=by simp [aU,r,aC,aK,aX.row]
   have f2:aU x ab (.c (.ptr K.length 2 0))=aa (vi m.to):=by simp [aU,r,aC,aK,aX.row]
   have f3:aU x ab (.c (.ptr K.length 3 0))=aa (vi m.mi):=by simp [aU,r,aC,aK,aX.row]
   have f4:aU x ab (.c (.ptr K.length 4 0))=aa (vi m.le):=by simp [aU,r,aC,aK,aX.row]
   rw [←l];refine aq (ai ?_);simp [f1,-an];cases b:m.drop
   ·have v:s.dropped d=ag:=by rw [rB,E];exact b
    have h_:=f.nd b;have wA:=aQ (n:=m.to*1440);have wB:=aQ (n:=m.to*1440+m.mi);refine al (by simp [b]) (aL (av (.inl rfl) ?_));simp [f2,f3,f4,-an,wA,wB];refine M _ _ m.le v (by rw [uY,E];rfl) c0 c1 (by simp) (by simp) (by simp) ?_ (by simp);rw [W7,E];simp [atO]
   ·have v:s.dropped d=ae:=by rw [rB,E];exact b
    refine ak (by simp [b]) (ai ?_);simp;refine aJ (hQ _ _ _ ⟨.nil,rfl⟩ ?_);have:Ec h s d=[]:=by unfold Ec;rw [bp v]
    rw [this];simp [sl,cX,Tg.fc]
 exact⟨g,hp.eq⟩
theorem akG{z:ZD}{o:List bC}(h:dZ z o){s:bf}(j:s.oH){d:Int}(y:0≤d)(A:d≤300) :
  ∃ g,bA tab.get 4 [s.v,z.v,vi d]=Eq (.t [.c (.f (sl g (cX (Ec h s d)))),vi 0]):=by
 obtain⟨g,m⟩:=amw h j y A;refine⟨g,bA.eq ?_⟩;have b:=qI j.ok.ru j.ok.rl (by have:=j.ml;omega) (by have:=j.ok.zo;omega);rw [j.ok.sound]at b;have q:=yy h;have E:=h.c;have v:=mw d 0 1099511627776;rw [show decide (0≤d∧d≤1099511627776)=ae from decide_eq_true (by omega)]at v;refine bG rfl rfl fun Q B=>?_;apply ai;simp;obtain⟨K,l⟩:=aO ([.box (s.row.map .f) 0,.box (z.row.map .f) 0]:aj);have b0:K[0]?=aa (.box (s.row.map .f) 0):=by rw [l];rfl
 have b1:K[1]?=aa (.box (z.row.map .f) 0):=by rw [l];rfl
 rw [←l];clear l;obtain⟨-,-,-,-,-,-,-,u⟩:=cR b0;have x:aU K (aa 8) (.c (.ptr 1 0 0))=aa z.v:=cm b1 E;refine aq (ai ?_);simp [u,x,-an,b,q,v];refine a5 (by simp) ?_;apply ai;simp [u,x,-an,m];refine aJ (B _ _ ?_);simp
theorem rL{z:ZD}{o:List bC}(h:dZ z o){lo:Int}(b:0≤lo)(d:lo≤460000){l:List Int}(j:l.Pairwise (· < ·))(g:∀ a,a ∈ l↔dj h lo a):l=vY h lo:=
 afa j (adV h b d) fun a=>by rw [g,XN h b d]
theorem ZI.aj0{x:ib}{cs:List C}{c:Nat}{s h:Int}{tr:List bC}{I:C}{A:C}{t:T}{J:aj}(k:ZI x cs c s h tr I [] A t J)(N:a6 A=ab)(U:tr.length≤2)(q:bC) :
  ∃ m g,bU (J++[.box (q.row.map .f) 0]) 2 16 (.c I) (.c (.sl J.length 0 1 1 0 2))=aa (.c m,g)∧cE g (.ptr 3 5 0) [m]=aa (g.set 3 (nX cs s m h A)) ∧
   ∀ F,F.g 1=.c (.ptr 0 0 0)→F.g 2=.c (.ptr 1 0 0)→F.g 3=.c (.ptr 3 0 0)→ZI x cs c s h (tr++[q]) m [] A F (g.set 3 (nX cs s m h A)):=by
 obtain⟨H,b⟩:=aO (J++[.box (q.row.map .f) 0]:aj);rw [←b];have up:∀ i y,J[i]?=aa y→H[i]?=aa y:=fun i y hy=>by rw [b,At (au hy)];exact hy
 have B:LR H I 2 (aT tr):=by rw [b];exact k.lt.push _
 have M:H[J.length]?=aa (.box (q.row.map .f) 0):=by rw [b];simp
 obtain⟨m,g,E,u,L,S⟩:=B.app (cu tr) (by decide) (row:=q.row) rfl (bytes:=16) (cC (by simp;omega) (by decide)) M;have d:∀(i:Nat) (cs:List C) (z:Nat),J[i]?=aa (.box cs z)→g[i]?=aa (.box cs z):=fun i cs z hy=>L.2 i _ (up _ _ hy) (B.cQ (up _ _ hy));have j:hZ g cs c:=k.er.xL fun i l z h _=>⟨z,d i l z h⟩
 have v:=d _ _ _ k.zb;have O:aT tr++[q.row]=aT (tr++[q]):=by simp [aT]
 rw [O]at u;refine⟨m,g,E,aop j v,fun F g1 g2 g3=>?_⟩;refine⟨?_,?_,?_,?_,?_,?_,?_,g1,g2,g3⟩
 ·rw [AI (by decide)];exact d _ _ _ k.raw
 ·rw [AI (by decide)];exact d _ _ _ k.res
 ·exact j.bT fun i y hy hi=>by rw [AI (by omega)];exact hy
 ·exact If (au v)
 ·exact u.set (u.cQ v) _
 ·rcases k.ly with⟨K,Q⟩ | ⟨K,-⟩
  ·exact .inl ⟨K,Q⟩
  ·exact absurd rfl K
 ·intro i _;rw [N];exact fun e=>by cases e
theorem amc{x:ib}(I:x.OK){cs:List C}{c:Nat}{s:Int}{t:T}{J:aj}(k:ZI x cs c s 0 [] (.f .aF) [] (.f .aF) t J){Q:Option az→St→Prop}
  (next:∀(t:T) (J:aj) (l:List bC) (z:C) (h:Int),ZI x cs c s h l z [] (.f .aF) t J→l.length≤3→(∀ y ∈ l,0≤y.at_∧y.at_<h∧-1080≤y.off∧y.off≤1080)→(∀(i:Nat) a b,l[i]?=aa a→l[i+1]?=aa b→a.at_+2160≤b.at_)→0≤h∧h≤40000 →
   WP tab.get 3 ab [.code tW] ⟨t,[],J⟩ Q) :
  WP tab.get 3 ab [.code yG] ⟨t,[],J⟩ Q:=by
 obtain⟨N,hN⟩:=aO (min (min x.s0.length x.zB.length) 3);apply ai;simp;refine aq (ai ?_);simp;refine bV N (fun j t J=>∃ l z d,l.length=j∧TrP l d∧ZI x cs c s 0 l z [] (.f .aF) t J∧t.g 4=vi d) (by omega) (by decide) (by simp)
  ⟨[],.f .aF,0,rfl,TrP.nil,⟨k.raw,k.res,k.er,k.zb,k.lt,k.ly,k.ne,by simp [k.g1],by simp [k.g2],by simp [k.g3]⟩,by simp⟩ ?_ ?_ ?_
 ·rintro j t J L hj ⟨l,z,d,E,q,k,F⟩ u hn;have a8:=I.gl;have a9:=I.ol;have K:=Gg k.raw;have M:=Gh k.raw;have B:∀ v,v.g 1=t.g 1→v.g 2=t.g 2→v.g 3=t.g 3→v.g 4=t.g 4→v.g 5=t.g 5→v.g 43=vb (decide ((j:Int)<(N:Int)))→L ⟨v,[],J⟩:=fun v e1 e2 e3 e4 e5 S=>
   hn v ⟨l,z,d,E,q,⟨k.raw,k.res,k.er,k.zb,k.lt,k.ly,k.ne,by rw [e1];exact k.g1,by rw [e2];exact k.g2,by rw [e3];exact k.g3⟩,by rw [e4];exact F⟩ (by rw [e5];exact u) S
  by_cases O:(j:Int)<x.s0.length
  ·by_cases w:(j:Int)<x.zB.length
   ·simp [k.g1,u,K,M,-an,O,w];exact B _ (by simp [k.g1]) (by simp [k.g2]) (by simp [k.g3]) (by simp) (by simp) (by simp;omega)
   ·simp [k.g1,u,K,M,-an,O,w];exact B _ (by simp [k.g1]) (by simp [k.g2]) (by simp [k.g3]) (by simp) (by simp) (by simp;omega)
  ·simp [k.g1,u,K,M,-an,O];exact B _ (by simp [k.g1]) (by simp [k.g2]) (by simp [k.g3]) (by simp) (by simp) (by simp;omega)
 ·rintro j t J hj ⟨l,z,d,E,q,k,F⟩ u nx;have U:j<x.s0.length:=by omega
  have X:j<x.zB.length:=by omega
  have bg:=I.ga _ (IT U);have bo:=I.of _ (IT X);have W:=q.lo;have K:=Gg k.raw;have M:=Gh k.raw;have i1:=rJ (g:=x.gg) U (H:=J);have i2:=rJ (g:=x.og) X (H:=J);have d1:=uU U (H:=J);have d2:=uU X (H:=J);have f:=aQ (n:=d+2160);have o:ah .i64 ((x.s0[j]:Nat):Int)=((x.s0[j]:Nat):Int):=aQ;have p:=aQ (n:=20*((x.s0[j]:Nat):Int));have r:=aQ (n:=d+2160+20*((x.s0[j]:Nat):Int));have Y:=zT bo;obtain⟨c3,H3,A,Z,hk⟩:=k.aj0 rfl (by omega) ⟨d+2160+20*((x.s0[j]:Nat):Int),mJ x.zB[j]⟩;simp only [bC.row,aft,apr]at A;refine aB (ai ?_);simp [k.g1,F,u,K,i1,d1,-an,f,o,p,r];refine av (.inl rfl) ?_;simp [k.g1,k.g3,u,M,i2,d2,-an,Y,aon k.er k.zb,A,Z,-bh];refine aw ?_;refine nx _ _ ⟨_,_,_,by simp;omega,q.app (by omega) bg (m:=x.zB[j]),hk _ (by simp [k.g1]) (by simp [k.g2]) (by simp [k.g3]),by simp⟩ (by simp [u])
 rintro t J ⟨l,z,d,E,q,k,F⟩ u;have W:=q.lo;have bb:=I.be;have l3:=an6 k.raw;have f:=aQ (n:=d+2160);have o:ah .i64 ((x.be:Nat):Int)=((x.be:Nat):Int):=aQ;have p:=aQ (n:=20*((x.be:Nat):Int));have r:=aQ (n:=d+2160+20*((x.be:Nat):Int));apply ai;simp [k.g1,k.g3,F,l3,-an,f,o,p,r,aoo k.er k.zb,-bh];refine next _ _ l z (d+2160+20*((x.be:Nat):Int)) ⟨?_,?_,?_,?_,?_,?_,k.ne,by simp [k.g1],by simp [k.g2],by simp [k.g3]⟩ q.tl (fun y e=>by have:=q.tb y e;omega) q.ts (by omega)
 ·rw [AI (by decide)];exact k.raw
 ·rw [AI (by decide)];exact k.res
 ·exact k.er.bT fun i y e hi=>by rw [AI (by omega)];exact e
 ·exact If (au k.zb)
 ·exact k.lt.set (k.lt.cQ k.zb) _
 ·exact k.ly.set (k.ly.cQ k.zb) _
theorem ZI.aj6{x:ib}{cs:List C}{c:Nat}{s h:Int}{tr:List bC}{B:C}{yr:List ey}{M:C}{t:T}{J:aj}(k:ZI x cs c s h tr B yr M t J)(Y:yr.length≤2)(q:ey) :
  ∃ v j,bU (J++[.box (q.row.map .f) 0]) 5 40 (.c M) (.c (.sl J.length 0 1 1 0 5))=aa (.c v,j)∧cE j (.ptr 3 7 0) [v]=aa (j.set 3 (nX cs s B h v)) ∧
   (∀(b:Nat) (l:List C) (m:Nat),J[b]?=aa (.box l m)→b≠3→(j.set 3 (nX cs s B h v))[b]?=aa (.box l m)) ∧
   ∀ K,K.g 1=.c (.ptr 0 0 0)→K.g 2=.c (.ptr 1 0 0)→K.g 3=.c (.ptr 3 0 0)→ZI x cs c s h tr B (yr++[q]) v K (j.set 3 (nX cs s B h v)):=by
 obtain⟨L,d⟩:=aO (J++[.box (q.row.map .f) 0]:aj);rw [←d];have up:∀ i y,J[i]?=aa y→L[i]?=aa y:=fun i y hy=>by rw [d,At (au hy)];exact hy
 have F:LR L M 5 (bP yr):=by rw [d];exact k.ly.push _
 have N:L[J.length]?=aa (.box (q.row.map .f) 0):=by rw [d];simp
 obtain⟨v,j,I,A,E,Q⟩:=F.app (iH yr) (by decide) (row:=q.row) rfl (bytes:=40) (cC (by simp;omega) (by decide)) N;have g:∀(i:Nat) (cs:List C) (m:Nat),J[i]?=aa (.box cs m)→j[i]?=aa (.box cs m):=fun i cs m hy=>E.2 i _ (up _ _ hy) (F.cQ (up _ _ hy));have z:hZ j cs c:=k.er.xL fun i l m h _=>⟨m,g i l m h⟩
 have u:=g _ _ _ k.zb;have U:bP yr++[q.row]=bP (yr++[q]):=by simp [bP]
 rw [U]at A;have H:LR j B 2 (aT tr):=k.lt.bT fun i y hy hi=>E.2 i y (up _ _ hy) (k.ne i hi);refine⟨v,j,I,agL z u,fun b l m W O=>by rw [AI (Ne.symm O)];exact g _ _ _ W,fun K g1 g2 g3=>?_⟩;refine⟨?_,?_,?_,?_,?_,?_,?_,g1,g2,g3⟩
 ·rw [AI (by decide)];exact g _ _ _ k.raw
 ·rw [AI (by decide)];exact g _ _ _ k.res
 ·exact z.bT fun i y hy hi=>by rw [AI (by omega)];exact hy
 ·exact If (au u)
 ·exact H.set (H.cQ u) _
 ·exact A.set (A.cQ u) _
 ·intro i hi;rcases Q with e | e
  ·rw [e];exact k.ne i hi
  ·rw [e];intro S;cases S;have:=k.lt.lt hi;have X:L.length=J.length+1:=by rw [d];simp
   omega
theorem ZI.aj7{x:ib}{cs:List C}{c:Nat}{s h:Int}{tr:List bC}{v:C}{yr:List ey}{q:ey}{y:C}{t:T}{J:aj}(k:ZI x cs c s h tr v (yr++[q]) y t J)(B:yr.length≤1) :
  ∃ b j F,aP J 5 ab (.c y) (vi yr.length)=aa (.c (.ptr b (yr.length*5) j))∧cE J (.ptr b (yr.length*5+1) j) [.f (fi 5)]=aa F ∧
   ∀ m,m.g 1=.c (.ptr 0 0 0)→m.g 2=.c (.ptr 1 0 0)→m.g 3=.c (.ptr 3 0 0)→ZI x cs c s h tr v (yr++[⟨q.mo,5,q.wd,q.mi,q.off⟩]) y m F:=by
 rcases k.ly with⟨H,_⟩ | ⟨_,b,j,e,d⟩
 ·simp [bP]at H
 subst e;unfold RB at d;have g:∀(i:Nat) (l:List C) (u:Nat),J[i]?=aa (.box l u)→b≠i:=by
  rintro i l u hi rfl;rw [d]at hi;cases hi
 have z:a6 v≠aa b:=fun e=>k.ne b e rfl;have key:∃ cs',cE J (.ptr b (yr.length*5+1) j) [.f (fi 5)]=aa (J.set b (.bM 5 cs' 0 j .loc))∧cs'=(bP (yr++[⟨q.mo,5,q.wd,q.mi,q.off⟩])).flatten.map .f:=by
  match yr,B,d with
  | [],_,d=>exact⟨_,by simp [cE,d,over,bP,ey.row];rfl,by simp [bP,ey.row]⟩
  | [p],_,d=>exact⟨_,by simp [cE,d,over,bP,ey.row];rfl,by simp [bP,ey.row]⟩
  | _::_::_,B,_=>simp at B
 obtain⟨cs',E,A⟩:=key;refine⟨b,j,_,?_,E,fun m g1 g2 g3=>?_⟩
 ·simp [aP,dy,d];omega
 refine⟨?_,?_,?_,?_,?_,?_,?_,g1,g2,g3⟩
 ·rw [AI (g _ _ _ k.raw)];exact k.raw
 ·rw [AI (g _ _ _ k.res)];exact k.res
 ·exact k.er.xL fun i l u h _=>⟨u,by rw [AI (g _ _ _ h)];exact h⟩
 ·rw [AI (g _ _ _ k.zb)];exact k.zb
 ·exact k.lt.set z _
 ·refine .inr ⟨by simp [bP],b,j,?_,?_⟩
  ·simp
  ·unfold RB;rw [If (au d),A]
 ·exact k.ne
theorem ame{x:ib}(M:x.OK){cs:List C}{c:Nat}{s h:Int}{r:List bC}{H:C}{yr:List ey}{I:C}{t:T}{J:aj}(k:ZI x cs c s h r H yr I t J){j:Nat}(E:j<2)(Y:yr.length=j)(z:t.g 6=vi j){K:List cA}{Q:Option az→St→Prop}
  (next:∀(t:T) (J:aj) (q:ey) (I:C),q.OK→ZI x cs c s h r H (yr++[q]) I t J→t.g 6=vi j→WP tab.get 3 ab K ⟨t,[],J⟩ Q) :
  WP tab.get 3 ab (.code AQ::K) ⟨t,[],J⟩ Q:=by
 have y0:=M.y j 0 E (by decide);have y1:=M.y j 1 E (by decide);have y2:=M.y j 2 E (by decide);have y3:=M.y j 3 E (by decide);have lr:=aqG k.raw E;have X:aP J 4 (aa 2) (.c (.ptr 0 4 0)) (vi j)=aa (.c (.ptr 0 (4+j*4) 0)):=by simp [aP,dy];omega
 refine aB (ai ?_);simp [k.g1,z,X,lr,-an];obtain⟨g,d⟩:=aO (J++[.box [.f (u8 (x.y j 0)),.f (u8 (x.y j 1)),.f (u8 (x.y j 2)),.f (u8 (x.y j 3))] 0]:aj);rw [←d];have O:∀ i y,J[i]?=aa y→g[i]?=aa y:=fun i y N=>by rw [d,At (au N)];exact N
 have L:g[J.length]?=aa (.box [.f (u8 (x.y j 0)),.f (u8 (x.y j 1)),.f (u8 (x.y j 2)),.f (u8 (x.y j 3))] 0):=by rw [d];simp
 have k1:∀ F,F.g 1=.c (.ptr 0 0 0)→F.g 2=.c (.ptr 1 0 0)→F.g 3=.c (.ptr 3 0 0)→ZI x cs c s h r H yr I F g:=fun F g1 g2 g3=>
  ⟨O _ _ k.raw,O _ _ k.res,k.er.bT fun i y N _=>O i y N,O _ _ k.zb,by rw [d];exact k.lt.push _,by rw [d];exact k.ly.push _,k.ne,g1,g2,g3⟩
 have n3:J.length≠3:=by have:=au k.zb;omega
 have v:=k1 t k.g1 k.g2 k.g3;have l0:aU g ab (.c (.ptr J.length 0 0))=aa (.c (.f (u8 (x.y j 0)))):=by simp [aU,aC,L,aK]
 have l1:aU g ab (.c (.ptr J.length 1 0))=aa (.c (.f (u8 (x.y j 1)))):=by simp [aU,aC,L,aK]
 have l2:aU g ab (.c (.ptr J.length 2 0))=aa (.c (.f (u8 (x.y j 2)))):=by simp [aU,aC,L,aK]
 have i0:aP g 1 (aa 4) (.c (.ptr J.length 0 0)) (vi 0)=aa (.c (.ptr J.length 0 0)):=by simp [aP,dy]
 have i1:aP g 1 (aa 4) (.c (.ptr J.length 0 0)) (vi 1)=aa (.c (.ptr J.length 1 0)):=by simp [aP,dy]
 have i2:aP g 1 (aa 4) (.c (.ptr J.length 0 0)) (vi 2)=aa (.c (.ptr J.length 2 0)):=by simp [aP,dy]
 have r0:bS .rem (.c (.f (u8 (x.y j 0)))) (.c (.f (.int .u8 3)))=aa (.c (.f (u8 (x.y j 0 % 3)))):=vH _ (by decide);have r2:bS .rem (.c (.f (u8 (x.y j 2)))) (.c (.f (.int .u8 5)))=aa (.c (.f (u8 (x.y j 2 % 5)))):=vH _ (by decide);have r3:bS .rem (.c (.f (u8 (x.y j 3)))) (.c (.f (.int .u8 2)))=aa (.c (.f (u8 (x.y j 3 % 2)))):=vH _ (by decide);have o:=zT (n:=x.y j 2 % 5) (by omega);have w0:=aQ (n:=1+(j:Int));have w1:=aQ (n:=(x.y j 0:Int) % 3);have w2:ah .i64 ((x.y j 1:Nat):Int)=((x.y j 1:Nat):Int):=aQ;have w3:=aQ (n:=((x.y j 1:Nat):Int)*5);obtain⟨c3,H3,l,p,A,Z⟩:=v.aj6 (by omega) ⟨1+(j:Int),1,(x.y j 0:Int) % 3,((x.y j 1:Nat):Int)*5,mJ (x.y j 2 % 5)⟩;have e:ey.OK ⟨1+(j:Int),1,(x.y j 0:Int) % 3,((x.y j 1:Nat):Int)*5,mJ (x.y j 2 % 5)⟩:=
  ⟨by simp only;omega,.inl rfl,by simp only;omega,by simp only;omega,by simp only;omega,by simp only;omega,(lK _).1,(lK _).2⟩
 have f:ey.OK ⟨1+(j:Int),5,(x.y j 0:Int) % 3,((x.y j 1:Nat):Int)*5,mJ (x.y j 2 % 5)⟩:=
  ⟨by simp only;omega,.inr rfl,by simp only;omega,by simp only;omega,by simp only;omega,by simp only;omega,(lK _).1,(lK _).2⟩
 simp only [ey.row,aft,apr]at l;apply ai;simp [k.g3,z,agK v.er v.zb,-an,i0,i1,i2,l0,l1,l2,r0,r2,o,w0,w1,w2,w3,l,p,-bh];obtain⟨w,W⟩:=aO (H3.set 3 (nX cs s H h c3):aj);rw [←W]at Z A ⊢;have S:=A _ _ _ L n3;have l3:aU w ab (.c (.ptr J.length 3 0))=aa (.c (.f (u8 (x.y j 3)))):=by simp [aU,aC,S,aK]
 have i3:aP w 1 (aa 4) (.c (.ptr J.length 0 0)) (vi 3)=aa (.c (.ptr J.length 3 0)):=by simp [aP,dy]
 have u:=Z t k.g1 k.g2 k.g3;apply ai;by_cases h3:x.y j 3 % 2=1
 ·simp [i3,l3,r3,-an,h3];refine ak (by simp) (av (.inl rfl) ?_);obtain⟨b,ep,H5,B,m,a⟩:=u.aj7 (by omega);rw [Y]at B m;simp [k.g3,z,agK u.er u.zb,-an,B,m,-bh];exact aw (next _ _ _ _ f (a _ (by simp [k.g1]) (by simp [k.g2]) (by simp [k.g3])) (by simp [z]))
 ·have U:x.y j 3 % 2=0:=by omega
  simp [i3,l3,r3,-an,U];refine a5 (by simp) ?_;exact aw (next _ _ _ _ e (Z _ (by simp [k.g1]) (by simp [k.g2]) (by simp [k.g3])) (by simp [z]))
theorem amd{x:ib}(hx:x.OK){cs:List C}{c:Nat}{s h:Int}{v:List bC}{E:C}{t:T}{J:aj}(k:ZI x cs c s h v E [] (.f .aF) t J)(hs:-1080≤s∧s≤1080)(a9:v.length≤3)(a8:∀ y ∈ v,0≤y.at_∧y.at_<h∧-1080≤y.off∧y.off≤1080)
  (a_:∀(i:Nat) a b,v[i]?=aa a→v[i+1]?=aa b→a.at_+2160≤b.at_) (hh:0≤h∧h≤40000) {Q:Option az→St→Prop}
  (hQ:∀ j s z o,dZ z o→mX [.cell (P.nat 2) (aa 8)] (.a (z.row.map .f)) s→Q j s) :
  WP tab.get 3 ab [.code tW] ⟨t,[],J⟩ Q:=by
 have hc:=k.er.lt;have pre:∀(K M:Tg) (yr:List ey),ac5 ⟨c,s,K,v,h,M,yr⟩:=fun K M yr=>⟨hc,hs,a9,a8,a_,hh⟩
 refine aq (ai ?_);cases hr:x.rules with
 | false=>
  simp [k.g1,Cl k.raw,-an,hr];refine ak (by simp) (ai ?_);obtain⟨z,o,J',hz,I,Z⟩:=k.e.fin ⟨.nil,.nil,[],(pre .nil .nil []).none rfl⟩ (((t.s 77 (.c (.ptr 0 13 0))).s 78 (vb ag)).s 79 (vb ae) |>.s 80 (.a (cs++[.f (fi s),E,.f (fi h),.f .aF]))) (by simp [k.g2]);have F:cs.length=4:=by obtain⟨a,b,d,e,W⟩:=k.er.four;rw [W];rfl
  simp [k.g2,k.g3,E3 k.er k.zb,-an,F,I,-bh];exact aJ (hQ _ _ z o hz Z)
 | true=>
  simp [k.g1,Cl k.raw,-an,hr];refine a5 (by simp) ?_;refine aq (ai ?_);simp;refine bV 2 (fun j t J=>∃ yr g,yr.length=j∧(∀ q ∈ yr,q.OK)∧ZI x cs c s h v E yr g t J) (by decide) (by decide) (by simp)
   ⟨[],_,rfl,by simp,⟨k.raw,k.res,k.er,k.zb,k.lt,k.ly,k.ne,by simp [k.g1],by simp [k.g2],by simp [k.g3]⟩⟩ ?_ ?_ ?_
  ·rintro j t J L hj ⟨yr,g,u,m,k⟩ O hn;simp [O];exact hn _ ⟨yr,g,u,m,⟨k.raw,k.res,k.er,k.zb,k.lt,k.ly,k.ne,by simp [k.g1],by simp [k.g2],by simp [k.g3]⟩⟩ (by simp [O]) (by simp)
  ·rintro j t J hj ⟨yr,g,u,m,k⟩ O nx;refine ame hx k hj u O fun t J q g hq k g6=>?_;refine nx _ _ ⟨yr++[q],g,by simp;omega,fun p N=>?_,⟨k.raw,k.res,k.er,k.zb,k.lt,k.ly,k.ne,by simp [k.g1],by simp [k.g2],by simp [k.g3]⟩⟩ g6;rcases ar3.1 N with N | N
   ·exact m p N
   ·simp at N;subst N;exact hq
  rintro t J ⟨yr,g,u,m,k⟩ O;obtain⟨r,q,rfl⟩:∃ r q,yr=[r,q]:=by
   match yr,u with
   | [r,q],_=>exact⟨r,q,rfl⟩
  obtain⟨K,M,Y⟩:=k.e.ex;obtain⟨e,hv,he⟩:=EU (pre K M [r,q]) (r:=r) (q:=q) rfl (m r (by simp)) (m q (by simp));have S:=Y J (fun _ _ h _=>h);have U:bO deep J (.a (cs++[.f (fi s),E,.f (fi h),g]))=aa (ZD.v ⟨c,s,K,v,h,M,[r,q]⟩):=by
   simp only [bO,deep,S];rfl
  have B:∀(t:T) (J:aj) (yr:List ey) (g:C),ZE cs c s h v E yr g J→t.g 2=.c (.ptr 1 0 0)→t.g 3=.c (.ptr 3 0 0)→(∃ K M o,dZ ⟨c,s,K,v,h,M,yr⟩ o)→WP tab.get 3 ab [.code AR] ⟨t,[],J⟩ Q:=by
   intro t J yr g k g2 g3 ho;apply ai;obtain⟨z,o,J',hz,I,Z⟩:=k.fin ho (t.s 122 (.a (cs++[.f (fi s),E,.f (fi h),g]))) (by simp [g2]);have F:cs.length=4:=by obtain⟨a,b,d,e,W⟩:=k.er.four;rw [W];rfl
   simp [g2,g3,E3 k.er k.zb,-an,F,I,-bh];exact aJ (hQ _ _ z o hz Z)
  have A:=k.e.marked;refine aq (ai ?_);simp only [bO]at U;simp [k.g3,E3 k.er k.zb,-an];simp only [U,Option.bind_some,ac3,hv,akD];obtain⟨J5,X⟩:=aO (jt deep g (jt deep E (List.foldl (fun H x=>jt deep x H) J cs)));rw [←X]at A ⊢;simp;by_cases h0:e=0
  ·subst h0;obtain⟨o,ho⟩:=he rfl;simp;refine a5 (by simp) ?_;exact B _ _ _ _ A (by simp [k.g2]) (by simp [k.g3]) ⟨_,_,o,ho⟩
  ·simp [h0];refine ak (by simp) (av (.inl rfl) ?_);simp [k.g3,agL A.er A.zb,-bh];refine B _ _ [] (.f .aF) ⟨?_,?_,?_,?_,.inl ⟨rfl,.inl rfl⟩⟩ (by simp [k.g2]) (by simp [k.g3]) ⟨.nil,.nil,[],(pre .nil .nil []).none rfl⟩
   ·rw [AI (by decide)];exact A.res
   ·exact A.er.bT fun i y hy hi=>by rw [AI (by omega)];exact hy
   ·exact If (au A.zb)
   ·exact A.lt.bT fun i s l fl ep st h=>⟨fl,by rw [AI (by rintro rfl;rw [A.zb]at h;cases h)];exact h⟩
theorem L7{x:ib}(m:x.OK):∃ z o,dZ z o∧bA tab.get 3 [.a (x.row.map .f)]=Eq (.a (z.row.map .f)):=by
 obtain⟨B,⟨z,o,O,rfl⟩,M⟩:∃ B,(∃ z o,dZ z o∧B=.a (z.row.map .f))∧bA tab.get 3 [.a (x.row.map .f)] B:=by
  refine bQ rfl rfl fun Q K=>?_;have q:∀ j s z o,dZ z o→mX [.cell (P.nat 2) (aa 8)] (.a (z.row.map .f)) s→Q j s:=fun j s z o H I=>K j s _ ⟨z,o,H,rfl⟩ I;have N:=lK x.st;have u:=zT m.st;have g:=m.er;have rest:∀(t:T) (J:aj) (cs:List C) (c:Nat),ZI x cs c (mJ x.st) 0 [] (.f .aF) [] (.f .aF) t J→WP tab.get 3 ab [.code yG] ⟨t,[],J⟩ Q:=fun t J cs c k=>
   amc m k fun t J Y X h k y v A L=>amd m k N y v A L q
  apply ai;simp;obtain⟨E,b⟩:=aO (.box (x.row.map .f) 0:cT);rw [←b];have S:∀(b1:cT) (J:aj),aU (E::b1::J) ab (.c (.ptr 0 0 0))=aa (.c (.f (u8 x.st))):=fun b1 J=>by simp [aU,aC,b,aK,ib.row]
  have d:∀(b1:cT) (J:aj),aU (E::b1::J) ab (.c (.ptr 0 12 0))=aa (.c (.f (u8 x.er))):=fun b1 J=>by simp [aU,aC,b,aK,ib.row]
  have r2:bS .rem (.c (.f (u8 x.er))) (.c (.f (.int .u8 2)))=aa (.c (.f (u8 (x.er % 2)))):=vH _ (by decide);have U:bS .quo (.c (.f (u8 x.er))) (.c (.f (.int .u8 2)))=aa (.c (.f (u8 (x.er / 2)))):=u8_quo g (by decide);have r4:bS .rem (.c (.f (u8 (x.er / 2)))) (.c (.f (.int .u8 2)))=aa (.c (.f (u8 (x.er / 2 % 2)))):=vH _ (by decide);have W:=aQ (n:=(x.er:Int) / 2 % 2);apply ai;simp [S,-an,u];refine aq (ai ?_);by_cases l:x.er % 2=1
  ·simp [d,-an,r2,l];refine ak (by simp) (av (.inl rfl) ?_);simp [d,-an,U,r4,W];refine rest _ _ [.f (fi 5),.sl 4 0 2 2 0 1,.f (fi 1),.sl 5 0 1 1 0 3] (x.er / 2 % 2+1) ⟨by rw [b];rfl,rfl,.inr ⟨x.er / 2 % 2,by omega,rfl,rfl,⟨0,rfl⟩,0,rfl⟩,rfl,LR.nil _ _,LR.nil _ _,(fun i h=>by cases h),by simp,by simp,by simp⟩
  ·have F:x.er % 2=0:=by omega
   simp [d,-an,r2,F];refine a5 (by simp) ?_;refine rest _ _ [.f (fi 2),.sl 2 0 2 2 0 1,.f (fi (-1)),.f .aF] 0 ⟨by rw [b];rfl,rfl,.inl ⟨rfl,rfl,0,rfl⟩,rfl,LR.nil _ _,LR.nil _ _,(fun i h=>by cases h),by simp,by simp,by simp⟩
 exact⟨z,o,O,M.eq⟩
theorem XJ{H:aj}{g:Tg}{l:List sS}{j:Nat}(b:j<l.length)(d:l.length≤100000):aP H 3 ab (.c (.f (sl g (cX l)))) (vi j)=aa (.c (.f (.fp (cX l).flatten (j*3)))):=by
 have:=c5 (H:=H) (g:=g) (rows:=cX l) (sz:=3) (k:=.i64) (i:=(j:Int)) (by omega) (by simp;omega);simpa using this
theorem ah9{H:aj}{l:List sS}{j:Nat}(b:j<l.length):aU H (aa 3) (.c (.f (.fp (cX l).flatten (j*3))))=aa (.a (l[j].row.map .f)):=fM (ir l) (LV b)
theorem ajO:bA tab.get 1 [] (vb ae):=wh (Ce ev)
theorem gW{x:List FC}(h:∃ m,x=[FC.int .u8 m]∧Lit.wf (.int .u8 m)):∃ m:Nat,x=[u8 m]∧m<256:=by
 obtain⟨m,rfl,b⟩:=h;simp [Lit.wf,IntKind.min,IntKind.max,IntKind.signed,IntKind.bits]at b;refine⟨m.toNat,?_,by omega⟩;have:((m.toNat:Nat):Int)=m:=asK b.1;simp [this]
theorem Gr{x:List FC}(h:∃ m,x=[FC.int .u16 m]∧Lit.wf (.int .u16 m)):∃ m:Nat,x=[u16 m]∧m<65536:=by
 obtain⟨m,rfl,b⟩:=h;simp [Lit.wf,IntKind.min,IntKind.max,IntKind.signed,IntKind.bits]at b;refine⟨m.toNat,?_,by omega⟩;have:((m.toNat:Nat):Int)=m:=asK b.1;simp [this]
theorem DS{n:Nat}(h:n≤maxLen):n≤9223372036854775807:=Nat.le_trans h (by decide)
theorem uq{n:Nat}{ys:List FC}(h:mU Tryz.prog (n+2) 27 ys):∃ g l,ys=[sl g (dx l)]∧l.length≤9223372036854775807∧∀ m ∈ l,m<256:=by
 obtain⟨g,rows,rfl,_,d,hr⟩:=sd Tryz.underlying27 h;obtain⟨l,rfl,j⟩:=oA (enc:=fun n:Nat=>[u8 n]) (p:=fun n=>n<256) fun r b=>gW (eU Tryz.underlying5 (hr r b));exact⟨g,l,rfl,DS (by simpa using d),j⟩
theorem Fy{n:Nat}{ys:List FC}(h:mU Tryz.prog (n+2) 28 ys):∃ y:Nat→Nat,ys=[u8 (y 0),u8 (y 1),u8 (y 2),u8 (y 3)]∧∀ i,i<4→y i<256:=by
 obtain⟨rows,rfl,g,_,hr⟩:=zP Tryz.underlying28 h;obtain⟨l,rfl,j⟩:=oA (enc:=fun n:Nat=>[u8 n]) (p:=fun n=>n<256) fun r m=>gW (eU Tryz.underlying5 (hr r m))
 match l,g,j with
 | [a,b,c,d],_,j=>
  refine⟨fun i=>match i with | 0=>a | 1=>b | 2=>c | _=>d,rfl,fun i hi=>?_⟩;have:i=0∨i=1∨i=2∨i=3:=by omega
  rcases this with rfl | rfl | rfl | rfl
  ·exact j a (by simp)
  ·exact j b (by simp)
  ·exact j c (by simp)
  ·exact j d (by simp)
 | [],g,_=>simp at g| [_],g,_=>simp at g| [_,_],g,_=>simp at g| [_,_,_],g,_=>simp at g| _::_::_::_::_::_,g,_=>simp at g
theorem Gc{n:Nat}{ys:List FC}(h:mU Tryz.prog (n+4) 31 ys):∃ x:ib,ys=x.row∧x.OK:=by
 obtain⟨_,S,rfl,b,B⟩:=dg (py (ts:=[5,27,27,5,29,5,4]) Tryz.underlying31 rfl h);obtain⟨st,rfl,b1⟩:=gW (eU Tryz.underlying5 b);obtain⟨_,U,rfl,b,E⟩:=dg B;obtain⟨gg,j,rfl,L,v⟩:=uq b;obtain⟨_,W,rfl,b,F⟩:=dg E;obtain⟨og,l,rfl,lo,y⟩:=uq b;obtain⟨_,X,rfl,b,H⟩:=dg F;obtain⟨u,rfl,q⟩:=gW (eU Tryz.underlying5 b);obtain⟨_,Y,rfl,b,I⟩:=dg H;obtain⟨rows,rfl,d,_,hr⟩:=zP Tryz.underlying29 b;obtain⟨_,Z,rfl,b,J⟩:=dg I;obtain⟨m,rfl,s⟩:=gW (eU Tryz.underlying5 b);obtain⟨_,M,rfl,b,K⟩:=dg J;obtain⟨g,rfl⟩:=Zf Tryz.underlying4 b;obtain rfl:M=[]:=K
 match rows,d,hr with
 | [r0,r1],_,hr=>
  obtain⟨N,rfl,z⟩:=Fy (hr r0 (by simp));obtain⟨O,rfl,A⟩:=Fy (hr r1 (by simp));refine⟨⟨st,gg,j,og,l,u,fun k=>if k=0 then N else O,m,g⟩,rfl,b1,L,lo,v,y,q,fun k i Q hi=>?_,s⟩;simp only;split
  ·exact z i hi
  ·exact A i hi
 | [],d,_=>simp at d| [_],d,_=>simp at d| _::_::_::_,d,_=>simp at d
theorem alY{x:List FC}(h:∃ m,x=[FC.int .i8 m]∧Lit.wf (.int .i8 m)):∃ m:Int,x=[.int .i8 m]∧-128≤m∧m≤127:=by
 obtain⟨m,rfl,b⟩:=h;simp [Lit.wf,IntKind.min,IntKind.max,IntKind.signed,IntKind.bits]at b;exact⟨m,rfl,by omega,by omega⟩
theorem afc{n:Nat}{ys:List FC}(h:mU Tryz.prog (n+4) 173 ys):∃ x:lj,ys=x.row∧x.OK:=by
 obtain⟨_,A,rfl,b,l⟩:=dg (py (ts:=[5,171,5,27]) Tryz.underlying173 rfl h);obtain⟨k,rfl,b1⟩:=gW (eU Tryz.underlying5 b);obtain⟨_,B,rfl,b,q⟩:=dg l;obtain⟨m,rfl,d⟩:=alY (eU Tryz.underlying171 b);obtain⟨_,E,rfl,b,s⟩:=dg q;obtain⟨o,rfl,g⟩:=gW (eU Tryz.underlying5 b);obtain⟨_,z,rfl,b,u⟩:=dg s;obtain⟨y,li,rfl,v,j⟩:=uq b;obtain rfl:z=[]:=u;exact⟨⟨k,m,o,y,li⟩,rfl,b1,d,g,v,j⟩
theorem al_{n:Nat}{ys:List FC}(h:mU Tryz.prog (n+2) 77 ys):∃ x:M5,ys=x.row∧x.OK:=by
 obtain⟨rows,rfl,g,_,hr⟩:=zP Tryz.underlying77 h;obtain⟨l,rfl,j⟩:=oA (enc:=fun n:Nat=>[u8 n]) (p:=fun n=>n<256) fun r m=>gW (eU Tryz.underlying5 (hr r m))
 match l,g,j with
 | [a,b,c,d,e],_,j=>exact⟨⟨a,b,c,d,e⟩,rfl,j a (by simp),j b (by simp),j c (by simp),j d (by simp),j e (by simp)⟩
 | [],g,_=>simp at g| [_],g,_=>simp at g| [_,_],g,_=>simp at g| [_,_,_],g,_=>simp at g| [_,_,_,_],g,_=>simp at g| _::_::_::_::_::_::_,g,_=>simp at g
theorem Gb{n:Nat}{ys:List FC}(h:mU Tryz.prog (n+6) 26 ys):∃ x:rm,ys=x.row∧x.OK:=by
 obtain⟨_,W,rfl,b,E⟩:=dg (py (ts:=[22,23,23,5,5,24]) Tryz.underlying26 rfl h);obtain⟨Q,rows,rfl,_,B,hr⟩:=sd Tryz.underlying22 b;obtain⟨S,rfl,l⟩:=oA (enc:=lj.row) (p:=fun x=>x.OK) fun r d=>afc (hr r d);obtain⟨_,X,rfl,b,F⟩:=dg E;obtain⟨N,rfl,s⟩:=Gr (eU Tryz.underlying23 b);obtain⟨_,Y,rfl,b,H⟩:=dg F;obtain⟨L,rfl,u⟩:=Gr (eU Tryz.underlying23 b);obtain⟨_,Z,rfl,b,I⟩:=dg H;obtain⟨A,rfl,v⟩:=gW (eU Tryz.underlying5 b);obtain⟨_,a,rfl,b,J⟩:=dg I;obtain⟨z,rfl,y⟩:=gW (eU Tryz.underlying5 b);obtain⟨_,U,rfl,b,K⟩:=dg J;obtain⟨M,q,rfl,_,g,m⟩:=sd Tryz.underlying24 b;obtain⟨O,rfl,j⟩:=oA (enc:=M5.row) (p:=fun x=>x.OK) fun r d=>al_ (m r d);obtain rfl:U=[]:=K;exact⟨⟨Q,S,N,L,A,z,M,O⟩,rfl,DS (by simpa using B),l,s,u,v,y,DS (by simpa using g),j⟩
theorem YZ{a:V}(h:qT Tryz.prog 26 a):∃ x:rm,a=.a (x.row.map .f)∧x.OK:=by
 rcases h with⟨xs,rfl,b,_⟩ | ⟨x,rfl,b⟩
 ·obtain⟨x,rfl,d⟩:=Gb (n:=34) b;exact⟨x,rfl,d⟩
 ·exfalso;obtain⟨x,e,_⟩:=Gb (n:=34) b;simp [rm.row]at e
theorem Y0{a:V}(h:qT Tryz.prog 31 a):∃ x:ib,a=.a (x.row.map .f)∧x.OK:=by
 rcases h with⟨xs,rfl,b,_⟩ | ⟨x,rfl,b⟩
 ·obtain⟨x,rfl,d⟩:=Gc (n:=36) b;exact⟨x,rfl,d⟩
 ·exfalso;obtain⟨x,e,_⟩:=Gc (n:=36) b;simp [ib.row]at e
def yL(H J:aj):Prop:=∀(i:Nat) (y:cT),H[i]?=aa y→J[i]?=aa y
def Fa(J:aj)(b:Nat)(l:List aR)(rest:List C):Prop:=
 ∃ ps:List (aR × C),ps.map (·.1)=l∧J[b]?=aa (.box (iL ps++rest) 0)∧∀ p ∈ ps,LR J p.2 1 (ints p.1.d.li)∧∀ i,a6 p.2=aa i→b<i
theorem B0(ps:List (aR × C))(x:aR)(c:C)(z rest:List C)(b:z.length=8)(n:Nat)(d:n=ps.length*8):over (iL ps++(z++rest)) n (x.dK c)=iL (ps++[(x,c)])++rest:=by
 have h:=qw (iL ps) (z++rest) (x.dK c) (by rw [api,b];show 8≤_;omega);rw [d,←im ps,h,xr,List.drop_left' (show z.length=(x.dK c).length from b)]
theorem sy{H:aj}(g:Tg)(l:List aR)(hl:l.length≤64)(c_:∀ x ∈ l,x.d.li.length≤61) :
  ∃ r,∃ J:aj,Ev tab.get (.fn 37) [.c (.f (sl g (aH l)))] H r J∧r=.c (.sl H.length 0 l.length (l.length+1) 0 8)∧Fa J H.length l fe∧yL H J:=by
 refine dn (C:=fun r (J:aj)=>r=.c (.sl H.length 0 l.length (l.length+1) 0 8)∧Fa J H.length l fe∧yL H J) agT rfl fun Q hQ=>?_;apply ai;simp;have w1:ah .i64 ((l.length:Int)+1)=((l.length+1:Nat):Int):=by rw [aQ];omega
 have L:bW (l.length+1) 88=ae:=cC (by omega) (by decide);have f:∀(t:T) (K:aj),(R 7).ev t=vi l.length→(R 10).ev t=vi (l.length+1:Nat)→bz t K (.cM 8 88 [fi 0,fi 0,fi 0,fi 0,fi 0,fi 0,.aF,.str ⟨#[]⟩] (R 7) (R 10))=aa (.c (.sl K.length 0 l.length (l.length+1) 0 8),K++[.box (cq (l.length+1) fe) 0]):=fun t K h1 h2=>by
  have e:cq (l.length+1) fe=(cq (l.length+1) [fi 0,fi 0,fi 0,fi 0,fi 0,fi 0,FC.aF,.str ⟨#[]⟩]).map C.f:=by simp [cq,fe,List.map_flatten]
  rw [e];simp only [bz,h1,h2,dy];rw [bp ⟨by omega,by omega,by simpa using L,rfl⟩,aZ (by omega)];simp
 obtain⟨z,hz⟩:=aO (cq (l.length+1) fe:List C);rw [←hz]at f;apply ai;simp [w1,f];obtain⟨b,hb⟩:=aO (H.length);obtain⟨K0,E⟩:=aO (H++[.box z 0]:aj);have k0:K0[b]?=aa (.box z 0):=by rw [E,hb];simp
 have ko:∀ i y,H[i]?=aa y→K0[i]?=aa y:=fun i y h=>by rw [E,At (au h)];exact h
 have d_:b<K0.length:=au k0;rw [←E,←hb];rw [←hb]at hQ;refine aq (ai ?_);simp;refine gu l.length (fun j t J=>t.g 3=.c (.sl b 0 l.length (l.length+1) 0 8)∧t.g 12=.c (.f (sl g (aH l)))∧Fa J b (l.take j) (cq (l.length+1-j) fe)∧yL H J) (by omega) (by decide) (by decide) (by simp) (by simp)
  ⟨by simp,by simp,⟨[],by simp,by rw [k0,hz];rfl,by simp⟩,ko⟩ ?_ ?_
 ·rintro j t J hj ⟨g3,B,⟨ps,w,Z,X⟩,d⟩ ha Y next
  obtain⟨x,hx⟩:=aO (l[j]);have o:ps.length=j:=by have:=congrArg List.length w;simpa [Nat.min_eq_left (Nat.le_of_lt hj)]using this
  have d9:=au Z;have b_:∀ K,aP K 8 ab (.c (.f (sl g (aH l)))) (vi j)=aa (.c (.f (.fp (aH l).flatten (j*8)))):=fun K=>by
   have:=c5 (H:=K) (g:=g) (rows:=aH l) (sz:=8) (k:=.i64) (i:=(j:Int)) (by omega) (by simp;omega);simpa using this
  have c9:∀ K,aU K (aa 8) (.c (.f (.fp (aH l).flatten (j*8))))=aa (.a (x.row.map .f)):=fun K=>by
   rw [hx];exact fM (ed l) (kK hj)
  obtain⟨q,hq⟩:=aO (J.length);have d6:x.row.length=8:=rfl;obtain⟨N,m⟩:=aO (J++[.box (x.row.map .f) 0]:aj);have a8:N[q]?=aa (.box (x.row.map .f) 0):=by rw [m,hq];simp
  have e_:N.length=J.length+1:=by rw [m];simp
  have o2:yL J N:=fun i y h=>by
   rw [m,At (au h)];exact h
  obtain⟨-,-,-,-,-,-,e6,-⟩:=qk a8;obtain⟨r,H3,a,c,Jc,rfl,rfl,W,F⟩:=xv (H:=N) x.tg x.d.li (by rw [hx];have:=c_ _ (IT hj);omega);obtain⟨J3,U⟩:=aO (N++Jc:aj);have o3:yL N J3:=fun i y h=>by rw [U,At (au h)];exact h
  rw [←U]at a W;have a9:=o3 _ _ a8;have d7:cE J3 (.ptr q 6 0) [c]=aa (J3.set q (.box (x.dK c) 0)):=by simp [cE,a9,over,aR.row,aR.dK]
  obtain⟨v,s⟩:=aO (J3.set q (.box (x.dK c) 0):aj);have d5:v[q]?=aa (.box (x.dK c) 0):=by rw [s];exact If (au a9)
  have o4:yL J v:=fun i y h=>by
   rw [s,AI (by have:=au h;omega)];exact o3 _ _ (o2 _ _ h)
  have e8:aU v (aa 8) (.c (.ptr q 0 0))=aa (.a (x.dK c)):=by simp [aU,d5,aC,aK,aR.dK]
  have u:=o4 _ _ Z;obtain⟨M,a_⟩:=aO (cq (l.length+1-(j+1)) fe);have S:cq (l.length+1-j) fe=fe++M:=by
   rw [a_,show l.length+1-j=(l.length+1-(j+1))+1 by omega];simp [cq,List.replicate_succ]
  rw [S]at u;have d3:=B0 ps x c fe M rfl (j*8) (by rw [o]);have A:(x.dK c).length=8:=rfl;have d8:cE v (.ptr b (j*8) 0) (x.dK c)=aa (v.set b (.box (iL (ps++[(x,c)])++M) 0)):=by
   simp only [cE,u,d3];rw [bp ⟨Nat.zero_le _,by rw [api,im,api,o,A,show fe.length=8 from rfl];omega⟩]
  have f9:b≠q:=by omega
  have b9:∀ K,K[b]?=aa (cT.box (iL ps++(fe++M)) 0)→aP K 8 ab (.c (.sl b 0 l.length (l.length+1) 0 8)) (vi j)=aa (.c (.ptr b (j*8) 0)):=fun K h=>by
   simp only [aP,dy,h];rw [bp (by omega),bp (by omega)];simp
  have n:Fa (v.set b (.box (iL (ps++[(x,c)])++M) 0)) b (l.take (j+1)) M:=by
   refine⟨ps++[(x,c)],by rw [asB,w,aq8 hj,hx];rfl,If (au u),fun p O=>?_⟩;rcases ar3.1 O with O | O
   ·obtain⟨h1,h2⟩:=X p O;refine⟨((h1.bT fun i y hy hi=>o4 i y hy)).set (fun e=>by have:=h2 b e;omega) _,h2⟩
   ·simp at O;subst O;refine⟨?_,fun i h=>by have:=F i h;omega⟩;rw [s];exact(W.set (fun e=>by have:=F q e;omega) _).set (fun e=>by have:=F b e;omega) _
  have I:yL H (v.set b (.box (iL (ps++[(x,c)])++M) 0)):=fun i y h=>by
   rw [AI (by have:=au h;omega)];exact o4 _ _ (d _ _ h)
  refine aB (ai ?_);simp [B,ha,b_,c9,-an,d6];rw [←m,←hq];apply ai;simp [e6,-an];refine⟨_,_,a,?_⟩;simp [d7,-bh];rw [←s];refine av (.inl rfl) ?_;simp [g3,e8,-an,b9 v u,d8,-bh,A];exact aw (next _ _ ⟨by simp [g3],by simp [B],by rw [←a_];exact n,I⟩ (by simp [ha]) (by simp [Y]))
 ·rintro t J ⟨g3,B,hR,d⟩ ha Y;rw [ar8,show l.length+1-l.length=1 by omega,show cq 1 fe=fe by simp [cq]]at hR;apply ai;simp [g3];refine aJ (hQ _ _ _ rfl (by simp [Km.results,ba]) ⟨rfl,hR,d⟩)
theorem afq:tab.get mN=ab:=rfl
theorem tu{sz:Nat}:∀ {rows:List (List FC)} (i:Nat),bR sz rows→i≤rows.length→rows.flatten.take (i*sz)=(rows.take i).flatten∧rows.flatten.drop (i*sz)=(rows.drop i).flatten
 | rows,0,_,_=>by simp
 | [],i+1,_,h=>by simp at h
 | r::rows,i+1,b,h=>by
  have hr:r.length=sz:=b r arU;obtain⟨d,g⟩:=tu (rows:=rows) i (fun x j=>b x (ar0 _ j)) (by simpa using h);simp only [List.flatten_cons,List.take_succ_cons,List.drop_succ_cons];rw [Nat.succ_mul,Nat.add_comm,←hr,List.take_append,List.drop_append];simp only [Nat.add_sub_cancel_left,arT (Nat.le_add_right _ _),List.drop_of_length_le (Nat.le_add_right _ _)];rw [hr,d,g];simp
theorem Xy{f:Nat}{args:List V}{H H':aj}{r:V}(b:f=mN)(h:LN args H=aa (r,H')):Ev tab.get (.fn f) args H r H':=by
 subst b;refine⟨0,1,?_⟩;have d:pk tab.get mN args H=aa (aa (r,H')):=by simp [pk,afq,prm,h]
 simp only [CF,dS,d]
theorem LQ{K:aj}{c:C}{rows:List (List FC)}(x:LR K c 5 rows)(A:bR 5 rows)(U:rows.length≤1000){i:Nat}(hi:i≤rows.length){row:List FC}(d:row.length=5){vb:Nat}(H:K[vb]?=aa (.box (row.map .f) 0)) :
  ∃ m u,Ev tab.get (.fn 1000000000) [.c c,vi i,.c (.sl vb 0 1 1 0 5)] K (.c m) u∧LR u m 5 (rows.take i++row::rows.drop i)∧Kb K u c∧(a6 m=a6 c∨a6 m=aa K.length):=by
 have l:c4 K 5 (.c (.sl vb 0 1 1 0 5))=aa (1,row.map .f):=lk H (by simp [d]);rcases ar9 i rows.length with E | N
 ·rcases x with⟨rfl,_⟩ | ⟨Q,b,s,rfl,v⟩
  ·simp at E
  ·have g:=v;unfold RB at g;have z:rows.flatten.length=rows.length*5:=et A;obtain⟨I,J⟩:=tu i A hi;refine⟨.sl b 0 (rows.length+1) 0 (s+1) 5,K.set b (.bM 5 (((rows.take i++row::rows.drop i).flatten).map .f) 0 (s+1) .loc),Xy rfl ?_,.inr ⟨by simp,b,s+1,?_,?_⟩,⟨by simp,fun j y S F=>?_⟩,.inl rfl⟩
   ·have O:bH K (.sl b 0 rows.length 0 s 5)=aa rows.length:=by simp [bH,g]
    simp only [LN,O,l];rw [aZ (by omega)];simp only [zO,g,H];rw [bp ⟨trivial,trivial,trivial,trivial,trivial,by rw [asn];exact z,trivial,by omega,by omega,by omega,by simp [d]⟩]
    congr 4
    rw [ar4,←List.map_take,←ata,I,J];simp
   ·congr 1
    simp only [api,List.length_take,asc,List.length_drop];omega
   ·unfold RB;exact If (au g)
   ·have:b≠j:=by rintro rfl;exact F rfl
    rw [AI this];exact S
 ·have B:i=rows.length:=by omega
  subst B;obtain⟨m,H',q,L,v,M⟩:=x.app A (by decide) d (bytes:=40) (cC (by omega) (by decide)) H;refine⟨m,H',Xy rfl ?_,by rw [ar8,List.drop_length];exact L,v,M⟩;simp only [LN,x.len,l];rw [bp trivial];exact q
theorem FX{A B:List aX}{m:aX}(d:∀ x ∈ A,x.day<m.day)(g:∀ x ∈ B,m.day<x.day):qy (A++B) m=A++m::B:=by
 unfold qy;rw [asu,asu];have a1:A.filter (fun x=>decide (x.day<m.day))=A:=atj.2 fun x b=>decide_eq_true (d x b);have j:A.filter (fun x=>decide (m.day<x.day))=[]:=atc.2 fun x b=>by have:=d x b;simp;omega
 have b1:B.filter (fun x=>decide (x.day<m.day))=[]:=atc.2 fun x b=>by have:=g x b;simp;omega
 have l:B.filter (fun x=>decide (m.day<x.day))=B:=atj.2 fun x b=>decide_eq_true (g x b);rw [a1,j,b1,l];simp
theorem aiw{A B:List aX}{m x:aX}(b:∀ x ∈ A,x.day<m.day)(g:x.day=m.day)(d:∀ x ∈ B,m.day<x.day):qy (A++x::B) m=A++m::B:=by
 have h:=FX b d;unfold qy at h ⊢;rw [asu,asu]at h ⊢;rw [List.filter_cons_of_neg (by simp;omega),List.filter_cons_of_neg (by simp;omega)];exact h
theorem aly(g:Tg)(l:List aX)(B:oN l)(Q:l.length≤1000)(d:Int):∃(i:Nat) (w:Bool),i≤l.length∧(∀ x ∈ l.take i,x.day<d)∧(w=ae→∃ h:i<l.length,l[i].day=d∧∀ x ∈ l.drop (i+1),d<x.day)∧(w=ag→∀ x ∈ l.drop i,d<x.day) ∧
  bA tab.get 35 [.c (.f (sl g (aI l))),vi d,.c (.f (.fn 36 []))]=Eq (.t [vi i,vb w]):=by
 have M:tab.get 35=aa (Fk 5):=WU;have m:∀(j:Nat) (q:j<(aI l).length),(aI l)[j]=(l[j]'(by simpa using q)).row:=fun j q=>by simp [aI]
 obtain⟨i,I,J,K,w,F,L⟩:=Du M g (aI l) (bw l) (.c (.f (.fn 36 []))) (fi d) (fun r=>lv (Xr r) d) (by simp;omega)
  (fun r hr=>by
   obtain⟨x,-,rfl⟩:=ase.1 hr;exact⟨36,_,by simp [bZ],Bp x d⟩)
  (fun i j hi q h=>by
   have b:j<l.length:=by simpa using q
   have s:i<l.length:=by omega
   simp only [m,eL]at h ⊢;have:=ar1.1 B i j s b hi;rw [oa]at h;rw [uE];omega)
 have v:∀ j (q:j<l.length),i≤j→d≤l[j].day:=fun j q z=>by
  have u:=K j (by simpa using q) z;rw [m,eL,oa]at u;exact u
 refine⟨i,w,by simpa using I,fun x y=>?_,fun E=>?_,fun E x y=>?_,L⟩
 ·obtain⟨j,q,rfl⟩:=arS y;have b:j<l.length:=by simp at q;omega
  have u:=J j (by simpa using b) (by simp at q;omega);rw [m,eL,lz]at u;rw [List.getElem_take];exact u
 ·obtain⟨h,e⟩:=F.1 E;rw [m,eL,jM]at e;have s:i<l.length:=by simpa using h
  refine⟨s,e,fun x y=>?_⟩;obtain⟨j,q,rfl⟩:=arS y;have b:i+1+j<l.length:=by simp at q;omega
  have:=ar1.1 B i (i+1+j) s b (by omega);rw [List.getElem_drop];omega
 ·obtain⟨j,q,rfl⟩:=arS y;have b:i+j<l.length:=by simp at q;omega
  rw [List.getElem_drop];have N:=v (i+j) b (by omega);by_cases H:l[i+j].day=d
  ·exfalso;by_cases A:j=0
   ·subst A;have:w=ae:=F.2 ⟨by simpa using b,by rw [m,eL,jM];exact H⟩;rw [E]at this;cases this
   ·have O:=v i (by omega) (OF _);have:=ar1.1 B i (i+j) (by omega) b (by omega);omega
  ·omega
theorem Fa.bT{J K:aj}{b:Nat}{l:List aR}{rest:List C}(h:Fa J b l rest)(j:∀(i:Nat) (y:cT),J[i]?=aa y→b≤i→K[i]?=aa y):Fa K b l rest:=by
 obtain⟨ps,m,q,d⟩:=h;exact⟨ps,m,j _ _ q (OF _),fun p g=>⟨(d p g).1.bT fun i y hy hi=>j i y hy (Nat.le_of_lt ((d p g).2 i hi)),(d p g).2⟩⟩
theorem Fa.ex{J:aj}{b:Nat}{l:List aR}{rest:List C}(h:Fa J b l rest){cap:Nat}:∃ g,∃ d:List aR,dN d=dN l∧c8 deep J (.sl b 0 l.length cap 0 8)=aa (sl g (aH d)):=by
 obtain⟨ps,rfl,q,s⟩:=h;obtain⟨d,j,u⟩:=yY (J:=J) 62 fun p x=>(s p x).1;refine⟨.fs,d,by rw [j];simp [dN],?_⟩;have m:d.length=ps.length:=by have:=congrArg List.length j;simpa using this
 show c8 (63+1) J _=_;rw [kE,q];have e:(((iL ps++rest).drop 0).take (ps.length*8))=iL ps:=by rw [asV,List.take_left' (im ps)]
 rw [asn];simp only [e,u,Option.map_some];rw [bp (by rw [api,im];omega)];unfold sl;split
 ·rename_i v;have:d=[]:=by simpa using v
  subst this;have:ps=[]:=by cases ps with
   | nil=>rfl| cons _ _=>simp at m
  subst this;rfl
 ·rw [me,m]
theorem vq(g:Tg)(l:List aX):FC.beq 64 (sl g (aI l)) (sl g (aI l))=ae:=by
 unfold sl;split
 ·cases g<;>rfl
 ·have:jS (FC.beq 63) (aI l).flatten (aI l).flatten=ae:=jT fun x b=>by
   obtain⟨r,hr,b⟩:=List.mem_flatten.1 b;obtain⟨m,-,rfl⟩:=ase.1 hr;simp [aX.row]at b;rcases b with rfl | rfl | rfl | rfl | rfl<;>simp [FC.beq]
  simp [FC.beq,this]
def bf.bL(s:bf)(a c:C):List C:=[a,cI s.mi,cI s.le,.f (.str s.zo),cI s.cF,cI s.fold,c]
theorem aek{s:bf}(h:s.OK)(s9:s.mv.length≤60){m:aX}(hm:m.OK) :
  ∃ q,bf.Ad q ⟨s.rg,s.ru,s.mi,s.le,s.zo,s.cF,s.fold,s.mg,qy s.mv m⟩∧bA tab.get 6 [s.v,.a (m.row.map .f)]=Eq (.t [q.v,vi 0]):=by
 obtain⟨rr,⟨q',n6,rfl⟩,hp⟩:∃ rr,(∃ q',bf.Ad q' ⟨s.rg,s.ru,s.mi,s.le,s.zo,s.cF,s.fold,s.mg,qy s.mv m⟩∧rr=.t [q'.v,vi 0])∧bA tab.get 6 [s.v,.a (m.row.map .f)] rr:=by
  have Y:=qI h.ru h.rl (by omega) (by have:=h.zo;omega);rw [h.sound]at Y;have i_:=rU m;rw [BS hm]at i_;refine bQ rfl rfl fun Q hQ=>?_;apply ai;simp;obtain⟨H,hH⟩:=aO ([.box (s.row.map .f) 0,.box (m.row.map .f) 0,.box bB 0]:aj);have b0:H[0]?=aa (.box (s.row.map .f) 0):=by rw [hH];rfl
  have b1:H[1]?=aa (.box (m.row.map .f) 0):=by rw [hH];rfl
  have b2:H[2]?=aa (.box bB 0):=by rw [hH];rfl
  have hl:H.length=3:=by rw [hH];rfl
  simp only [bB]at hH;rw [←hH];clear hH;obtain⟨-,-,-,-,-,-,-,e7⟩:=cR b0;have e5:aU H (aa 5) (.c (.ptr 1 0 0))=aa (.a (m.row.map .f)):=by simp [aU,b1,aC,aK,aX.row]
  have j8:aU H ab (.c (.ptr 1 0 0))=aa (vi m.day):=by simp [aU,b1,aC,aK,aX.row]
  have N:∀ K:aj,K[0]?=aa (.box (s.row.map .f) 0)→aU K ab (.c (.ptr 0 6 0))=aa (.c (.f (sl s.mg (aI s.mv)))):=fun K hK=>by simp [aU,hK,aC,aK,bf.row]
  have c9:∀ K:aj,K[0]?=aa (.box (s.row.map .f) 0)→aU K ab (.c (.ptr 0 0 0))=aa (.c (.f (sl s.rg (aH s.ru)))):=fun K hK=>by simp [aU,hK,aC,aK,bf.row]
  refine aq (ai ?_);simp [e7,e5,-an,Y,i_];refine a5 (by simp) ?_;obtain⟨i,w,hi,h_,o7,n_,l_⟩:=aly s.mg s.mv h.ms (by omega) m.day;apply ai;simp [N H b0,j8,-an,l_];obtain⟨r,J,X,rfl,hR,M⟩:=sy (H:=H) s.rg s.ru h.rl (fun x hx=>by
   obtain⟨i,hi,rfl⟩:=arS hx;have:=(h.ru.at_ i (by simpa using hi)).ok.1;simpa using this)
  rw [hl]at X hR;have j0:=M _ _ b0;have j1:=M _ _ b1;have j2:=M _ _ b2;obtain⟨r,Z,f9,c,Jc,rfl,rfl,d6,W⟩:=uB (F:=38) (sz:=5) (zs:=[fi 0,.bool ag,fi 0,fi 0,fi 0]) (bytes:=40) (H:=J) (g:=s.mg) (rows:=aI s.mv) WV (by decide) (bw _) (cC (by simp;omega) (by decide));obtain⟨Z,a8⟩:=aO (J++Jc:aj);rw [←a8]at f9 d6;have q9:3<J.length:=by
   obtain⟨ps,-,h2,-⟩:=hR;exact au h2
  have o2:yL J Z:=fun i y h=>by rw [a8,At (au h)];exact h
  have k0:=o2 _ _ j0;have k1:=o2 _ _ j1;have k2:=o2 _ _ j2;have l7:=hR.bT fun i y A _=>o2 i y A;obtain⟨a,ha⟩:=aO (.sl 3 0 s.ru.length (s.ru.length+1) 0 8:C);rw [←ha]at X;have o9:cE Z (.ptr 0 0 0) [a]=aa (Z.set 0 (.box (s.bL a (.f (sl s.mg (aI s.mv)))) 0)):=by simp [cE,k0,over,bf.row,bf.bL]
  obtain⟨J3,u⟩:=aO (Z.set 0 (.box (s.bL a (.f (sl s.mg (aI s.mv)))) 0):aj);have l0:J3[0]?=aa (.box (s.bL a (.f (sl s.mg (aI s.mv)))) 0):=by rw [u];exact If (au k0)
  have o_:cE J3 (.ptr 0 6 0) [c]=aa (J3.set 0 (.box (s.bL a c) 0)):=by simp [cE,l0,over,bf.bL]
  obtain⟨v,O⟩:=aO (J3.set 0 (.box (s.bL a c) 0):aj);have m0:v[0]?=aa (.box (s.bL a c) 0):=by rw [O];exact If (au l0)
  have B:∀(i:Nat) (y:cT),i≠0→Z[i]?=aa y→v[i]?=aa y:=fun i y hi h=>by
   rw [O,AI (Ne.symm hi),u,AI (Ne.symm hi)];exact h
  have m1:=B _ _ (by decide) k1;have m2:=B _ _ (by decide) k2;have q_:=l7.bT fun i y A h3=>B i y (by omega) A;have a_:LR v c 5 (aI s.mv):=d6.bT fun i y A hi=>B i y (by have:=W i hi;omega) A;have n5:v.length=Z.length:=by rw [O,u];simp
  have p_:J.length≤v.length:=by rw [n5,a8];simp
  refine aq (fV (.inl rfl) ?_ ?_)
  case refine_2=>
   intro cc m7;have m6:cc=(4,2):=by simpa using m7
   subst m6;refine⟨by decide,_,rfl,.inr ⟨by decide,?_⟩⟩;simp [c9 H b0,-an];refine⟨_,_,X,?_⟩;simp [jh,N H b0,N J j0,-an];exact vq _ _
  simp [c9 H b0,-an];refine⟨_,_,X,?_⟩;simp [N J j0,-an];refine⟨_,_,f9,?_⟩;simp [o9,-bh];rw [←u];simp [o_,-bh];rw [←O];have d3:∀(t:T) (K:aj) (d:C),t.g 2=.c (.ptr 0 0 0)→t.g 4=.c (.ptr 2 0 0)→K[0]?=aa (.box (s.bL a d) 0)→K[2]?=aa (.box bB 0)→Fa K 3 s.ru fe→LR K d 5 (aI (qy s.mv m))→(∀ i,a6 d=aa i→3<i) →
    WP tab.get 6 ab [.code wU] ⟨t,[],K⟩ Q:=by
   intro t K d g2 g4 n0 n2 l9 U m4;have e_:(s.bL a d).length=7:=rfl;have e7:aU K (aa 7) (.c (.ptr 0 0 0))=aa (.a (s.bL a d)):=by simp [aU,n0,aC,aK,bf.bL]
   have st:cE K (.ptr 2 0 0) (s.bL a d)=aa (K.set 2 (.box (s.bL a d) 0)):=by simp [cE,n2,over,bB,e_]
   obtain⟨K2,S⟩:=aO (K.set 2 (.box (s.bL a d) 0):aj);have p2:K2[2]?=aa (.box (s.bL a d) 0):=by rw [S];exact If (au n2)
   have d9:Fa K2 3 s.ru fe:=l9.bT fun i y A h3=>by rw [S,AI (by omega)];exact A
   have d5:LR K2 d 5 (aI (qy s.mv m)):=by rw [S];exact U.set (fun e=>by have:=m4 2 e;omega) _
   obtain⟨rg,o8,n7,j7⟩:=d9.ex (cap:=s.ru.length+1);obtain⟨mg,b_⟩:=d5.ex (bw _) 63;have b_:c8 deep K2 d=aa (sl mg (aI (qy s.mv m))):=b_;rw [←ha]at j7;have j9:aU K2 (aa 7) (.c (.ptr 2 0 0))=aa (.a (s.bL a d)):=by simp [aU,p2,aC,aK,bf.bL]
   apply ai;simp [g2,g4,e7,-an,e_,st,-bh];rw [←S];refine aJ (hQ _ _ _ ⟨⟨rg,o8,s.mi,s.le,s.zo,s.cF,s.fold,mg,qy s.mv m⟩,⟨n7,rfl,rfl,rfl,rfl,rfl,rfl⟩,rfl⟩ ⟨rfl,.t [.a (s.bL a d),vi 0],?_,?_⟩)
   ·simp [Km.results,bs,ba,g4,j9,-an]
   ·simp [fJ,bO,ba,bf.bL,j7,b_,bf.row]
  refine aq (aB (ai ?_));simp;have c_:∀ K:aj,K[1]?=aa (.box (m.row.map .f) 0)→aU K (aa 5) (.c (.ptr 1 0 0))=aa (.a (m.row.map .f)):=fun K hK=>by simp [aU,hK,aC,aK,aX.row]
  have E:aU v ab (.c (.ptr 0 6 0))=aa (.c c):=by simp [aU,m0,aC,aK,bf.bL]
  have m5:m.row.length=5:=rfl;cases w with
  | true=>
   obtain⟨z,L,n4⟩:=o7 rfl;have l:qy s.mv m=s.mv.set i m:=by
    rw [List.set_eq_take_append_cons_drop,bp z];have:s.mv=s.mv.take i++s.mv[i]::s.mv.drop (i+1):=by rw [List.getElem_cons_drop,asf]
    rw [this];have h:=aiw h_ L n4;rw [←this]at h;rw [←this];exact h
   obtain⟨b,ep,rfl,d7⟩:∃ b ep,c=.sl b 0 s.mv.length 0 ep 5∧RB v b 5 ep (aI s.mv):=by
    rcases a_ with⟨h,-⟩ | ⟨-,b,ep,h1,h2⟩
    ·have:=congrArg List.length h;simp at this;rw [this]at z;simp at z
    ·exact⟨b,ep,by rw [h1,qt],h2⟩
   have r_:J.length≤b:=W b rfl;obtain⟨J5,n9,d8,hF,s8⟩:=d7.str (bw _) (by simpa using z) m5;have f_:=d7.idx (n:=s.mv.length) (c:=0) (k:=.i64) (o:=0) (i:=(i:Int)) (by omega) (by omega);rw [ar4,aso]at f_;have b9:(aI s.mv).set i m.row=aI (qy s.mv m):=by rw [l];simp [aI,List.map_set]
   refine ak (by simp) ?_;refine av (.inl rfl) ?_;simp [E,c_ v m1,-an,f_,n9,-bh,m5];refine aw (d3 _ _ _ (by simp) (by simp) (hF.get m0 (by omega)) (hF.get m2 (by omega)) (hR.bT fun j y A h3=>hF.get (B j y (by omega) (o2 _ _ A)) (by have:=au A;omega)) ?_ (fun j hj=>by simp [a6]at hj;omega));refine .inr ⟨?_,b,ep,by simp [l],by rw [←b9];exact d8⟩;intro e;have:=congrArg List.length e;simp [l]at this;rw [this]at z;simp at z
  | false=>
   have L:=n_ rfl;have l:qy s.mv m=s.mv.take i++m::s.mv.drop i:=by
    have h:=FX h_ L;rw [asf]at h;exact h
   have g_:=a_.len;have j_:¬ ((s.mv.length:Int)=64):=by omega
   refine al (by simp) ?_;apply ai;simp [E,-an,g_,j_];refine al (by simp) ?_;obtain⟨J5,I⟩:=aO (v++[.box (m.row.map .f) 0]:aj);have o5:yL v J5:=fun i y h=>by rw [I,At (au h)];exact h
   have hv:J5[v.length]?=aa (.box (m.row.map .f) 0):=by rw [I];simp
   have k_:LR J5 c 5 (aI s.mv):=by rw [I];exact a_.push _
   obtain⟨d,K,m_,U,a9,m9⟩:=LQ k_ (bw _) (by simp;omega) (i:=i) (by simpa using hi) m5 hv;have b9:(aI s.mv).take i++m.row ::(aI s.mv).drop i=aI (qy s.mv m):=by rw [l];simp [aI]
   rw [b9]at U;have nb:∀ j,j<J.length→a6 c≠aa j:=fun j hj e=>by have:=W j e;omega
   have q0:=a9.2 0 _ (o5 _ _ m0) (nb 0 (by omega));have q2:=a9.2 2 _ (o5 _ _ m2) (nb 2 (by omega));have q8:J5.length=v.length+1:=by rw [I];simp
   have d_:∀ j,a6 d=aa j→J.length≤j:=fun j hj=>by
    rcases m9 with e | e
    ·exact W j (by rw [←e];exact hj)
    ·rw [hj]at e;cases e;omega
   have st:cE K (.ptr 0 6 0) [d]=aa (K.set 0 (.box (s.bL a d) 0)):=by simp [cE,q0,over,bf.bL]
   refine av (.inl rfl) ?_;simp [E,c_ v m1,-an,m5];rw [←I];refine⟨_,_,m_,?_⟩;simp [st,-bh];refine aw (d3 _ _ d (by simp) (by simp) (If (au q0)) (by rw [AI (by decide)];exact q2) (hR.bT fun j y A h3=>?_) (U.set (fun e=>by have:=d_ 0 e;omega) _) (fun j hj=>by have:=d_ j hj;omega));rw [AI (by omega)];exact a9.2 _ _ (o5 _ _ (B _ _ (by omega) (o2 _ _ A))) (nb j (au A))
 exact⟨q',n6,hp.eq⟩
theorem ago{i n:Nat}(h:i≤n):Af (vi i) n=aa i:=by
 simp only [Af,dy];rw [bp ⟨by omega,by omega⟩,ar4]
theorem W8{i n:Nat}(h:i≤n):cj n n ab (aa (vi i)) ab=aa (0,i,n):=by simp [cj,ago h]
theorem W9{i n:Nat}(h:i≤n):cj n n (aa (vi i)) ab ab=aa (i,n,n):=by simp [cj,ago h]
theorem Mc(H:aj)(g:Tg)(l:List aX){i:Nat}(hi:i≤l.length):∃ d,dw H 5 (.c (.f (sl g (aI l)))) ab (aa (vi i)) ab=aa (.c (.f (sl d (aI (l.take i))))):=by
 cases l with
 | nil=>
  have j:i=0:=by simpa using hi
  subst j;have m:=W8 (OF 0);refine⟨g,?_⟩;cases g<;>simp only [sl,aI,apr,List.isEmpty_nil,if_true,Tg.fc,dw,m,List.take_nil]<;>rfl
 | cons x l=>
  obtain⟨b,-⟩:=tu i (bw (x::l)) (by simpa using hi);refine⟨.fs,?_⟩;have q:sl g (aI (x::l))=.fs (aI (x::l)).flatten (x::l).length:=by simp [sl,aI]
  rw [q];simp only [dw,W8 hi,Nat.zero_mul,asV,Nat.sub_zero];rw [aZ (by simp),b];cases i with
  | zero=>rfl| succ i=>simp [sl,aI];simp at hi;omega
theorem Md(H:aj)(g:Tg)(l:List aX){i:Nat}(hi:i≤l.length):∃ j,dw H 5 (.c (.f (sl g (aI l)))) (aa (vi i)) ab ab=aa (.c (.f (sl j (aI (l.drop i))))):=by
 cases l with
 | nil=>
  have b:i=0:=by simpa using hi
  subst b;have m:=W9 (OF 0);refine⟨g,?_⟩;cases g<;>simp only [sl,aI,apr,List.isEmpty_nil,if_true,Tg.fc,dw,m,List.drop_nil]<;>rfl
 | cons x l=>
  obtain⟨-,d⟩:=tu i (bw (x::l)) (by simpa using hi);refine⟨.fs,?_⟩;have v:sl g (aI (x::l))=.fs (aI (x::l)).flatten (x::l).length:=by simp [sl,aI]
  have u:(aI (x::l)).drop i=aI ((x::l).drop i):=by simp [aI,ata]
  rw [v];simp only [dw,W9 hi];rw [aZ (by simp),d,u];have s:(aI ((x::l).drop i)).flatten.length=((x::l).length-i)*5:=by rw [et (bw _)];simp
  rw [arT (by omega)];unfold sl;split
  ·rename_i q;have b:(x::l).drop i=[]:=by
    have:=congrArg List.length (List.isEmpty_iff.1 q);rw [qt]at this;exact anc this
   have y:(x::l).length-i=0:=by have:=congrArg List.length b;simpa using this
   rw [b,y];rfl
  ·simp
theorem Fj(n:Int):(vi n).beq (vi n)=ae:=by simp [V.beq,C.beq,FC.beq]
theorem Y5(n:Nat)(g:Tg)(l:List Int):FC.beq (n+1) (sl g (ints l)) (sl g (ints l))=ae:=by
 unfold sl;split
 ·cases g<;>rfl
 ·have:jS (FC.beq n) (ints l).flatten (ints l).flatten=ae:=jT fun x b=>by
   obtain⟨r,hr,b⟩:=List.mem_flatten.1 b;obtain⟨m,-,rfl⟩:=ase.1 hr;simp at b;subst b;simp [FC.beq]
  simp [FC.beq,this]
theorem Ci(g:Tg)(l:List aR):FC.beq 64 (sl g (aH l)) (sl g (aH l))=ae:=by
 unfold sl;split
 ·cases g<;>rfl
 ·have:jS (FC.beq 63) (aH l).flatten (aH l).flatten=ae:=jT fun x b=>by
   obtain⟨r,hr,b⟩:=List.mem_flatten.1 b;obtain⟨m,-,rfl⟩:=ase.1 hr;simp [aR.row]at b;rcases b with rfl | rfl | rfl | rfl | rfl | rfl | rfl | rfl
   all_goals first | exact Y5 62 _ _ | simp [FC.beq]
  simp [FC.beq,this]
def Xp(k:Int)(n:Nat)(d:Int):bE:=⟨k,0,(n:Int)-1,0,d,0,[]⟩
def agj(s:bf)(d:Int)(H:aj)(k:Int)(l:List aX)(r:V)(J:aj):Prop:=
 ∃(b:Nat) (c:C),r=.a (s.bL (.sl b 0 (s.ru.length+1) (s.ru.length+1) 0 8) c)∧yL H J∧H.length≤b∧Fa J b (s.ru++[⟨Xp k s.ru.length d,.nil⟩]) []∧LR J c 5 (aI l)∧∀ i,a6 c=aa i→b<i
theorem tH{s:bf}(h:s.OK)(hr:s.ru.length≤63){d:Int}{H:aj}(b0:H[0]?=aa (.box (s.row.map .f) 0))(b1:H[1]?=aa (.box [cI d] 0))(k:Int)(g:Tg)(l:List aX)(hl:l.length≤1000) :
  ∃ r,∃ J:aj,Ev tab.get (.fn 41) [vi k,.c (.f (sl g (aI l))),.c (.ptr 0 0 0),.c (.ptr 1 0 0)] H r J∧agj s d H k l r J:=by
 refine dn (C:=agj s d H k l) agS rfl fun Q hQ=>?_;apply ai;simp;obtain⟨p,hp⟩:=aO (H.length);have l7:1<H.length:=au b1;obtain⟨H1,m⟩:=aO (H++[.box bB 0]:aj);have c0:H1[0]?=aa (.box (s.row.map .f) 0):=by rw [m,At (au b0)];exact b0
 have c1:H1[1]?=aa (.box [cI d] 0):=by rw [m,At (au b1)];exact b1
 have cp:H1[p]?=aa (.box bB 0):=by rw [m,hp];simp
 have Z:H1.length=p+1:=by rw [m,hp];simp
 have o1:yL H H1:=fun i y h=>by rw [m,At (au h)];exact h
 simp only [bB]at m;rw [←m,←hp];clear m;obtain⟨e0,-,-,-,-,-,-,e7⟩:=cR c0;have g_:s.row.length=7:=rfl;apply ai;simp [e7,-an,g_,Z];obtain⟨z,u⟩:=aO (H1++[.box (s.row.map .f) 0]:aj);have d0:z[0]?=aa (.box (s.row.map .f) 0):=by rw [u,At (au c0)];exact c0
 have d1:z[1]?=aa (.box [cI d] 0):=by rw [u,At (au c1)];exact c1
 have dp:z[p]?=aa (.box bB 0):=by rw [u,At (au cp)];exact cp
 have dq:z[p+1]?=aa (.box (s.row.map .f) 0):=by rw [u,←Z];simp
 have j_:z.length=p+2:=by rw [u];simp [Z]
 have o2:yL H z:=fun i y h=>by rw [u,At (au (o1 i y h))];exact o1 i y h
 rw [←u];clear u e0 e7;obtain⟨r,J,E,rfl,hR,v⟩:=sy (H:=z) s.rg s.ru h.rl (fun x hx=>by
  obtain⟨i,hi,rfl⟩:=arS hx;have:=(h.ru.at_ i (by simpa using hi)).ok.1;simpa using this)
 obtain⟨b,hb⟩:=aO (z.length);rw [←hb]at E hR;have j0:=v _ _ d0;have j1:=v _ _ d1;have jp:=v _ _ dp;have jq:=v _ _ dq;have j:∀ K:aj,K[0]?=aa (.box (s.row.map .f) 0)→aU K ab (.c (.ptr 0 0 0))=aa (.c (.f (sl s.rg (aH s.ru)))):=fun K hK=>by simp [aU,hK,aC,aK,bf.row]
 have W:∀ K:aj,K[1]?=aa (.box [cI d] 0)→aU K ab (.c (.ptr 1 0 0))=aa (vi d):=fun K hK=>by simp [aU,hK,aC,aK]
 have w1:=aQ (n:=(s.ru.length:Int)-1);obtain⟨ps,d5,b9,B⟩:=hR;have d3:ps.length=s.ru.length:=by rw [←d5];simp
 obtain⟨x,hx⟩:=aO (⟨Xp k s.ru.length d,.nil⟩:aR);have c_:=B0 ps x (.f .aF) fe [] rfl (s.ru.length*8) (by rw [d3]);rw [ast,ast]at c_;obtain⟨I,L⟩:=aO (J.set b (.box (iL (ps++[(x,C.f .aF)])) 0):aj);have O:∀ nr,nr=[fi k,fi 0,fi ((s.ru.length:Int)-1),fi 0,fi d,fi 0,FC.aF,.str ⟨#[]⟩]→bU J 8 88 (.c (.sl b 0 s.ru.length (s.ru.length+1) 0 8)) (.c (.f (.fs nr 1)))=aa (.c (.sl b 0 (s.ru.length+1) (s.ru.length+1) 0 8),I):=fun nr f_=>by
  subst f_;have a_:c4 J 8 (.c (.f (.fs [fi k,fi 0,fi ((s.ru.length:Int)-1),fi 0,fi d,fi 0,FC.aF,.str ⟨#[]⟩] 1)))=aa (1,x.dK (.f .aF)):=by rw [hx];rfl
  simp only [bU,a_,b9];rw [aZ (by decide),bp (by omega),bp ⟨Nat.zero_le _,by rw [aso,api,im,d3];exact OF _⟩,aso,c_,L]
 have d_:=au b9;have o3:∀(i:Nat) (y:cT),i≠b→J[i]?=aa y→I[i]?=aa y:=fun i y hi h=>by rw [L,AI (Ne.symm hi)];exact h
 have k0:=o3 _ _ (by omega) j0;have k1:=o3 _ _ (by omega) j1;have kp:=o3 _ _ (by omega) jp;have kq:=o3 _ _ (by omega) jq;have d7:Fa I b (s.ru++[x]) []:=by
  refine⟨ps++[(x,.f .aF)],by rw [asB,d5];rfl,by rw [ast,L];exact If d_,fun q S=>?_⟩;rcases ar3.1 S with S | S
  ·exact⟨(B q S).1.bT fun i y A hi=>o3 i y (by have:=(B q S).2 i hi;omega) A,(B q S).2⟩
  ·simp at S;subst S;exact⟨.inl ⟨by rw [hx];rfl,.inl rfl⟩,by simp [a6]⟩
 obtain⟨a,ha⟩:=aO (.sl b 0 (s.ru.length+1) (s.ru.length+1) 0 8:C);rw [←ha]at O;have h_:cE I (.ptr (p+1) 0 0) [a]=aa (I.set (p+1) (.box (s.bL a (.f (sl s.mg (aI s.mv)))) 0)):=by simp [cE,kq,over,bf.row,bf.bL]
 obtain⟨U,M⟩:=aO (I.set (p+1) (.box (s.bL a (.f (sl s.mg (aI s.mv)))) 0):aj);have lq:U[p+1]?=aa (.box (s.bL a (.f (sl s.mg (aI s.mv)))) 0):=by rw [M];exact If (au kq)
 have o4:∀(i:Nat) (y:cT),i≠p+1→I[i]?=aa y→U[i]?=aa y:=fun i y hi h=>by rw [M,AI (Ne.symm hi)];exact h
 have lp:=o4 _ _ (by omega) kp;have d8:=d7.bT fun i y A hi=>o4 i y (by omega) A;refine aq (fV (.inl rfl) ?_ ?_)
 case refine_2=>
  intro cc f9;have e_:cc=(5,2)∨cc=(6,2)∨cc=(8,2):=by simpa using f9
  rcases e_ with rfl | rfl | rfl
  ·refine⟨by decide,_,rfl,.inr ⟨by decide,?_⟩⟩;simp [j z d0,-an];refine⟨_,_,E,?_⟩;simp [jh,j z d0,j J j0,-an];exact Ci _ _
  ·refine⟨by decide,_,rfl,.inr ⟨by decide,?_⟩⟩;simp [j z d0,-an];refine⟨_,_,E,?_⟩;simp [jh,j J j0,-an,Fj]
  ·refine⟨by decide,_,rfl,.inr ⟨by decide,?_⟩⟩;simp [j z d0,-an];refine⟨_,_,E,?_⟩;simp [jh,j J j0,W z d1,W J j1,-an,w1,Fj]
 simp [j z d0,-an];refine⟨_,_,E,?_⟩;simp [j J j0,W J j1,-an,w1,ZN,O _ rfl,h_,-bh];rw [←M];obtain⟨r,J4,c9,c,Jc,rfl,rfl,a9,Y⟩:=uB (F:=38) (sz:=5) (zs:=[fi 0,.bool ag,fi 0,fi 0,fi 0]) (bytes:=40) (H:=U) (g:=g) (rows:=aI l) WV (by decide) (bw _) (cC (by simp;omega) (by decide));obtain⟨J4,a8⟩:=aO (U++Jc:aj);rw [←a8]at c9 a9;have o5:yL U J4:=fun i y h=>by rw [a8,At (au h)];exact h
 have mq:=o5 _ _ lq;have mp:=o5 _ _ lp;have j9:U.length=I.length:=by rw [M];simp
 have k_:I.length=J.length:=by rw [L];simp
 have d9:=d8.bT fun i y A _=>o5 i y A;have i_:cE J4 (.ptr (p+1) 6 0) [c]=aa (J4.set (p+1) (.box (s.bL a c) 0)):=by simp [cE,mq,over,bf.bL]
 obtain⟨J5,N⟩:=aO (J4.set (p+1) (.box (s.bL a c) 0):aj);have nq:J5[p+1]?=aa (.box (s.bL a c) 0):=by rw [N];exact If (au mq)
 have np:J5[p]?=aa (.box bB 0):=by rw [N,AI (by omega)];exact mp
 have b_:(s.bL a c).length=7:=rfl;have e7:aU J5 (aa 7) (.c (.ptr (p+1) 0 0))=aa (.a (s.bL a c)):=by simp [aU,nq,aC,aK,bf.bL]
 have j7:cE J5 (.ptr p 0 0) (s.bL a c)=aa (J5.set p (.box (s.bL a c) 0)):=by simp [cE,np,over,bB,b_]
 obtain⟨J6,X⟩:=aO (J5.set p (.box (s.bL a c) 0):aj);have pp:J6[p]?=aa (.box (s.bL a c) 0):=by rw [X];exact If (au np)
 have d6:aU J6 (aa 7) (.c (.ptr p 0 0))=aa (.a (s.bL a c)):=by simp [aU,pp,aC,aK,bf.bL]
 have o6:∀(i:Nat) (y:cT),i≠p→i≠p+1→J4[i]?=aa y→J6[i]?=aa y:=fun i y h1 h2 h=>by rw [X,AI (Ne.symm h1),N,AI (Ne.symm h2)];exact h
 have j8:b<U.length:=by omega
 apply ai;simp;refine⟨_,_,c9,?_⟩;simp [i_,-bh];rw [←N];apply ai;simp [e7,-an,b_,j7,-bh];rw [←X];refine aJ (hQ _ _ (.a (s.bL a c)) rfl ?_ ⟨b,c,by rw [ha],fun i y A=>?_,by omega,?_,?_,fun i hi=>by have:=Y i hi;omega⟩)
 ·simp [Km.results,bs,ba,d6,-an]
 ·have hi:=au A;exact o6 _ _ (by omega) (by omega) (o5 _ _ (o4 _ _ (by omega) (o3 _ _ (by omega) (v _ _ (o2 _ _ A)))))
 ·rw [←hx];exact d9.bT fun i y A hi=>o6 i y (by omega) (by omega) A
 ·exact a9.bT fun i y A hi=>o6 i y (by have:=Y i hi;omega) (by have:=Y i hi;omega) A
def gm(q s:bf)(k d:Int)(l:List aX):Prop:=dN q.ru=dN s.ru++[Xp k s.ru.length d]∧q.mi=s.mi∧q.le=s.le∧q.zo=s.zo∧q.cF=s.cF∧q.fold=s.fold∧q.mv=l
theorem gm.eqv{p q s:bf}{k d:Int}{l:List aX}(h:gm p s k d l)(A:gm q s k d l):bf.Ad p q:=by
 obtain⟨a1,b,g,j,m,u,v⟩:=h;obtain⟨b1,b2,b3,b4,x,y,z⟩:=A;exact⟨a1.trans b1.symm,b.trans b2.symm,g.trans b3.symm,j.trans b4.symm,m.trans x.symm,u.trans y.symm,v.trans z.symm⟩
theorem yd{s:bf}{J:aj}{b:Nat}{c:C}{l:List aX}{x:aR}{k d:Int}(A:x.d=Xp k s.ru.length d)(z:Fa J b (s.ru++[x]) [])(y:LR J c 5 (aI l)) :
  ∃ q:bf,gm q s k d l∧ba (c8 deep J) (s.bL (.sl b 0 (s.ru.length+1) (s.ru.length+1) 0 8) c)=aa q.row:=by
 obtain⟨rg,u,m,j⟩:=z.ex (cap:=s.ru.length+1);obtain⟨v,g⟩:=y.ex (bw _) 63;have g:c8 deep J c=aa (sl v (aI l)):=g;rw [api,asH]at j;refine⟨⟨rg,u,s.mi,s.le,s.zo,s.cF,s.fold,v,l⟩,⟨by rw [m];simp [dN,A],rfl,rfl,rfl,rfl,rfl,rfl⟩,?_⟩;simp [ba,bf.bL,j,g,bf.row]
theorem Zm{s:bf}(h:s.OK)(hr:s.ru.length≤60)(n_:s.mv.length≤60){d:Int}(d0:0≤d)(d1:d≤1099511627776) :
  ∃(i:Nat) (F I:bf),i≤s.mv.length∧(∀ x ∈ s.mv.take i,x.day<d)∧(∀ x ∈ s.mv.drop i,d≤x.day)∧gm F s 13 d (s.mv.take i)∧gm I s 12 d (s.mv.drop i)∧bA tab.get 8 [s.v,vi d]=Eq (.t [F.v,I.v,vi 0]):=by
 obtain⟨i,w,hi,j8,l7,k_,e_⟩:=aly s.mg s.mv h.ms (by omega) d;have N:∀ x ∈ s.mv.drop i,d≤x.day:=fun x hx=>by
  cases w with
  | true=>
   obtain⟨j7,n4,i_⟩:=l7 rfl;rw [←List.getElem_cons_drop j7]at hx;rcases ass.1 hx with rfl | hx
   ·omega
   ·have:=i_ x hx;omega
  | false=>have:=k_ rfl x hx;omega
 obtain⟨rr,⟨F,I,h1,h2,rfl⟩,hp⟩:∃ rr,(∃ F I:bf,gm F s 13 d (s.mv.take i)∧gm I s 12 d (s.mv.drop i)∧rr=.t [F.v,I.v,vi 0])∧bA tab.get 8 [s.v,vi d] rr:=by
  have M:=qI h.ru h.rl (by omega) (by have:=h.zo;omega);rw [h.sound]at M;have hw:=mw d 0 1099511627776;rw [show decide (0≤d∧d≤1099511627776)=ae from decide_eq_true (by omega)]at hw;refine bQ rfl rfl fun Q hQ=>?_;apply ai;simp;obtain⟨H,L⟩:=aO ([.box (s.row.map .f) 0,.box [cI d] 0,.box bB 0,.box bB 0]:aj);have b0:H[0]?=aa (.box (s.row.map .f) 0):=by rw [L];rfl
  have b1:H[1]?=aa (.box [cI d] 0):=by rw [L];rfl
  have b2:H[2]?=aa (.box bB 0):=by rw [L];rfl
  have b3:H[3]?=aa (.box bB 0):=by rw [L];rfl
  have hl:H.length=4:=by rw [L];rfl
  simp only [bB]at L;rw [←L];clear L;obtain⟨-,-,-,-,-,-,-,e7⟩:=cR b0;have c_:∀ K:aj,K[0]?=aa (.box (s.row.map .f) 0)→aU K ab (.c (.ptr 0 0 0))=aa (.c (.f (sl s.rg (aH s.ru)))):=fun K hK=>by simp [aU,hK,aC,aK,bf.row]
  have g:∀ K:aj,K[0]?=aa (.box (s.row.map .f) 0)→aU K ab (.c (.ptr 0 6 0))=aa (.c (.f (sl s.mg (aI s.mv)))):=fun K hK=>by simp [aU,hK,aC,aK,bf.row]
  have Y:aU H ab (.c (.ptr 1 0 0))=aa (vi d):=by simp [aU,b1,aC,aK]
  have d6:¬ ((s.ru.length:Int)=64):=by omega
  refine aq (aB (ai ?_));simp [e7,Y,-an,M,hw];refine al (by simp) (ai ?_);simp [c_ H b0,-an,d6];refine al (by simp) (aL (aw ?_));apply ai;simp;apply ai;simp [g H b0,Y,-an,e_];obtain⟨m7,O⟩:∃ S,∀ K,dw K 5 (.c (.f (sl s.mg (aI s.mv)))) ab (aa (vi i)) ab=aa (.c (.f (sl S (aI (s.mv.take i))))):=by
   obtain⟨S,e⟩:=Mc [] s.mg s.mv hi;refine⟨S,fun K=>?_⟩;rw [←e];unfold sl;split
   ·cases s.mg<;>rfl
   ·rfl
  obtain⟨m9,a_⟩:∃ S,∀ K,dw K 5 (.c (.f (sl s.mg (aI s.mv)))) (aa (vi i)) ab ab=aa (.c (.f (sl S (aI (s.mv.drop i))))):=by
   obtain⟨S,e⟩:=Md [] s.mg s.mv hi;refine⟨S,fun K=>?_⟩;rw [←e];unfold sl;split
   ·cases s.mg<;>rfl
   ·rfl
  obtain⟨r1,J,B,pb,pc,rfl,l,n6,d9,d7,f9⟩:=tH h (by omega) b0 b1 13 m7 (s.mv.take i) (by simp;omega);have j0:=l _ _ b0;have j1:=l _ _ b1;have j2:=l _ _ b2;have j3:=l _ _ b3;obtain⟨r2,U,a9,l9,l_,rfl,b,n7,d_,d8,f_⟩:=tH h (by omega) j0 j1 12 m9 (s.mv.drop i) (by simp;omega);have m_:=au j3;have k2:=b _ _ j2;have k3:=b _ _ j3;have n5:J.length≤U.length:=by
   rcases ar9 U.length J.length with n9 | N
   ·have:=b (J.length-1) J[J.length-1] (AT (by omega));have:=au this;omega
   ·exact N
  obtain⟨m,Z⟩:=aO (s.bL (.sl pb 0 (s.ru.length+1) (s.ru.length+1) 0 8) pc:List C);obtain⟨A2,a8⟩:=aO (s.bL (.sl l9 0 (s.ru.length+1) (s.ru.length+1) 0 8) l_:List C);have a17:m.length=7:=by rw [Z];rfl
  have u:A2.length=7:=by rw [a8];rfl
  have c9:∀ A:List C,A.length=7→over bB 0 A=A:=fun A hA=>by simp [over,bB,hA]
  have m4:cE U (.ptr 2 0 0) m=aa (U.set 2 (.box m 0)):=by
   simp only [cE,k2,c9 _ a17];rw [bp ⟨OF _,by rw [a17];decide⟩]
  obtain⟨X,v⟩:=aO (U.set 2 (.box m 0):aj);have l2:X[2]?=aa (.box m 0):=by rw [v];exact If (au k2)
  have l3:X[3]?=aa (.box bB 0):=by rw [v,AI (by decide)];exact k3
  have m6:cE X (.ptr 3 0 0) A2=aa (X.set 3 (.box A2 0)):=by
   simp only [cE,l3,c9 _ u];rw [bp ⟨OF _,by rw [u];decide⟩]
  obtain⟨q,z⟩:=aO (X.set 3 (.box A2 0):aj);have m2:q[2]?=aa (.box m 0):=by rw [z,AI (by decide)];exact l2
  have m3:q[3]?=aa (.box A2 0):=by rw [z];exact If (au l3)
  have up:∀(j:Nat) (y:cT),4≤j→U[j]?=aa y→q[j]?=aa y:=fun j y W E=>by
   rw [z,AI (by omega),v,AI (by omega)];exact E
  have o7:J.length≤J.length:=OF _;obtain⟨F,j9,b9⟩:=yd (k:=13) (d:=d) rfl (d9.bT (K:=q) fun j y E W=>up j y (by omega) (b _ _ E)) (d7.bT (H':=q) fun j y E W=>up j y (by have:=f9 j W;omega) (b _ _ E));obtain⟨I,j_,b_⟩:=yd (k:=12) (d:=d) rfl (d_.bT (K:=q) fun j y E W=>up j y (by omega) E) (d8.bT (H':=q) fun j y E W=>up j y (by have:=f_ j W;omega) E);rw [←Z]at b9 B;rw [←a8]at b_ a9;refine aq (fV (.inl rfl) ?_ ?_)
  case refine_2=>
   intro cc h_;have g_:cc=(8,5)∨cc=(10,5):=by simpa using h_
   rcases g_ with rfl | rfl
   ·refine⟨by decide,_,rfl,.inr ⟨by decide,?_⟩⟩;simp [g H b0,-an,O];refine⟨_,_,B,?_⟩;simp [jh,g H b0,g J j0,-an];exact vq _ _
   ·refine⟨by decide,_,rfl,.inr ⟨by decide,?_⟩⟩;simp [g H b0,-an,O];refine⟨_,_,B,?_⟩;simp [jh,g H b0,g J j0,-an,a_];exact vq _ _
  simp [g H b0,-an,O];refine⟨_,_,B,?_⟩;simp [g J j0,-an,a_];refine⟨_,_,a9,?_⟩;simp [m4,-bh,a17];rw [←v];simp [m6,-bh,u];rw [←z];have d3:aU q (aa 7) (.c (.ptr 2 0 0))=aa (.a m):=by
   have e:m.take 7=m:=arT (by omega);simp [aU,m2,aC,aK,a17,e]
  have d5:aU q (aa 7) (.c (.ptr 3 0 0))=aa (.a A2):=by
   have e:A2.take 7=A2:=arT (by omega);simp [aU,m3,aC,aK,u,e]
  refine aJ (hQ _ _ _ ⟨F,I,j9,j_,rfl⟩ ⟨rfl,.t [.a m,.a A2,vi 0],?_,?_⟩)
  ·simp [Km.results,bs,ba,d3,d5,-an]
  ·simp [fJ,bO,ba,b9,b_]
 exact⟨i,F,I,hi,j8,N,h1,h2,hp.eq⟩
theorem adx{q s:bf}(h:bf.Ad q s):q.row.map C.f=s.bL (.f (sl q.rg (aH q.ru))) (.f (sl q.mg (aI q.mv))):=by
 simp [bf.row,bf.bL,h.mi,h.le,h.zo,h.cF,h.fold]
theorem adj{H:aj}{c:C}{sz:Nat}{rows:List (List FC)}(h:LR H c sz rows):c.beq c=ae:=by
 rcases h with⟨-,rfl | rfl⟩ | ⟨-,b,d,rfl,-⟩<;>simp [C.beq,FC.beq]
theorem adk{s:bf}{a c:C}(b:a.beq a=ae)(d:c.beq c=ae):(V.a (s.bL a c)).beq (V.a (s.bL a c))=ae:=by
 simp [V.beq,bf.bL,jS,b,d];simp [C.beq,FC.beq]
structure ZK(s:bf)(a1 a2:C)(d:Int)(J:aj)(l:List aX)(c1 c2:C):Prop where
 b0:J[0]?=aa (.box (s.row.map .f) 0)
 b1:J[1]?=aa (.box bB 0)
 b2:J[2]?=aa (.box bB 0)
 b3:J[3]?=aa (.box (s.bL a1 c1) 0)
 b4:J[4]?=aa (.box (s.bL a2 c2) 0)
 l1:LR J c1 5 (aI (l.filter fun x=>decide (x.day<d)))
 l2:LR J c2 5 (aI (l.filter fun x=>decide (d≤x.day)))
 n1:∀ b,a6 c1=aa b→5≤b
 n2:∀ b,a6 c2=aa b→5≤b
 n3:∀ b,a6 c1=aa b→a6 c2≠aa b
theorem ZK.lds{s:bf}{a1 j:C}{d:Int}{J:aj}{l:List aX}{b g:C}(h:ZK s a1 j d J l b g) :
  aU J ab (.c (.ptr 0 6 0))=aa (.c (.f (sl s.mg (aI s.mv))))∧aU J ab (.c (.ptr 3 6 0))=aa (.c b)∧aU J ab (.c (.ptr 4 6 0))=aa (.c g):=by
 have m:=h.b0;have q:=h.b3;have u:=h.b4;refine⟨?_,?_,?_⟩
 ·simp [aU,m,aC,aK,bf.row]
 ·simp [aU,q,aC,aK,bf.bL]
 ·simp [aU,u,aC,aK,bf.bL]
theorem ZK.lo{s:bf}{a1 O:C}{d:Int}{J:aj}{l:List aX}{H u:C}(h:ZK s a1 O d J l H u)(hl:l.length≤1000){x:aX}(hx:x.day<d) :
  ∃ m H' K,bU (J++[.box (x.row.map .f) 0]) 5 40 (.c H) (.c (.sl J.length 0 1 1 0 5))=aa (.c m,H')∧cE H' (.ptr 3 6 0) [m]=aa K∧ZK s a1 O d K (l++[x]) m u:=by
 obtain⟨q,j⟩:=aO (J++[.box (x.row.map .f) 0]:aj);have F:yL J q:=fun i y hy=>by rw [j,At (au hy)];exact hy
 have N:q[J.length]?=aa (.box (x.row.map .f) 0):=by rw [j];simp
 have L:LR q H 5 (aI (l.filter fun x=>decide (x.day<d))):=by rw [j];exact h.l1.push _
 have M:LR q u 5 (aI (l.filter fun x=>decide (d≤x.day))):=by rw [j];exact h.l2.push _
 have Y:=au h.b4;obtain⟨m,H',z,I,g,B⟩:=L.app (bw _) (by decide) (row:=x.row) rfl (bytes:=40) (cC (by have:=fT (fun x:aX=>decide (x.day<d)) l;simp;omega) (by decide)) N;have E:∀ i,i<5→a6 H≠aa i:=fun i hi e=>by have:=h.n1 i e;omega
 have q0:=g.2 0 _ (F _ _ h.b0) (E 0 (by decide));have q1:=g.2 1 _ (F _ _ h.b1) (E 1 (by decide));have q2:=g.2 2 _ (F _ _ h.b2) (E 2 (by decide));have U:=g.2 3 _ (F _ _ h.b3) (E 3 (by decide));have q4:=g.2 4 _ (F _ _ h.b4) (E 4 (by decide));have Z:q.length=J.length+1:=by rw [j];simp
 have S:∀ b,a6 m=aa b→5≤b:=fun b A=>by
  rcases B with e | e
  ·exact h.n1 b (by rw [←e];exact A)
  ·rw [A]at e;cases e;omega
 have m3:∀ b,a6 m=aa b→a6 u≠aa b:=fun b A Q=>by
  rcases B with e | e
  ·exact h.n3 b (by rw [←e];exact A) Q
  ·rw [A]at e;cases e;have:=h.l2.lt Q;omega
 have v:LR H' u 5 (aI (l.filter fun x=>decide (d≤x.day))):=M.bT fun i y hy hi=>g.2 i y hy fun e=>h.n3 i e hi;have W:(l++[x]).filter (fun x=>decide (x.day<d))=l.filter (fun x=>decide (x.day<d))++[x]:=by rw [asu];simp [hx]
 have X:(l++[x]).filter (fun x=>decide (d≤x.day))=l.filter (fun x=>decide (d≤x.day)):=by rw [asu];simp;omega
 refine⟨m,H',H'.set 3 (.box (s.bL a1 m) 0),by rw [←j];exact z,by simp [cE,U,bf.bL,over],⟨?_,?_,?_,If (au U),?_,?_,?_,S,h.n2,m3⟩⟩
 ·rw [AI (by decide)];exact q0
 ·rw [AI (by decide)];exact q1
 ·rw [AI (by decide)];exact q2
 ·rw [AI (by decide)];exact q4
 ·rw [W,kW];exact I.set (fun e=>by have:=S 3 e;omega) _
 ·rw [X];exact v.set (fun e=>by have:=h.n2 3 e;omega) _
theorem ZK.hi{s:bf}{a1 I:C}{d:Int}{J:aj}{l:List aX}{u H:C}(h:ZK s a1 I d J l u H)(hl:l.length≤1000){x:aX}(hx:d≤x.day) :
  ∃ m H' K,bU (J++[.box (x.row.map .f) 0]) 5 40 (.c H) (.c (.sl J.length 0 1 1 0 5))=aa (.c m,H')∧cE H' (.ptr 4 6 0) [m]=aa K∧ZK s a1 I d K (l++[x]) u m:=by
 obtain⟨q,j⟩:=aO (J++[.box (x.row.map .f) 0]:aj);have F:yL J q:=fun i y hy=>by rw [j,At (au hy)];exact hy
 have O:q[J.length]?=aa (.box (x.row.map .f) 0):=by rw [j];simp
 have M:LR q u 5 (aI (l.filter fun x=>decide (x.day<d))):=by rw [j];exact h.l1.push _
 have N:LR q H 5 (aI (l.filter fun x=>decide (d≤x.day))):=by rw [j];exact h.l2.push _
 have Y:=au h.b4;obtain⟨m,H',z,L,g,B⟩:=N.app (bw _) (by decide) (row:=x.row) rfl (bytes:=40) (cC (by have:=fT (fun x:aX=>decide (d≤x.day)) l;simp;omega) (by decide)) O;have E:∀ i,i<5→a6 H≠aa i:=fun i hi e=>by have:=h.n2 i e;omega
 have q0:=g.2 0 _ (F _ _ h.b0) (E 0 (by decide));have q1:=g.2 1 _ (F _ _ h.b1) (E 1 (by decide));have q2:=g.2 2 _ (F _ _ h.b2) (E 2 (by decide));have q3:=g.2 3 _ (F _ _ h.b3) (E 3 (by decide));have U:=g.2 4 _ (F _ _ h.b4) (E 4 (by decide));have Z:q.length=J.length+1:=by rw [j];simp
 have S:∀ b,a6 m=aa b→5≤b:=fun b A=>by
  rcases B with e | e
  ·exact h.n2 b (by rw [←e];exact A)
  ·rw [A]at e;cases e;omega
 have m3:∀ b,a6 u=aa b→a6 m≠aa b:=fun b A Q=>by
  rcases B with e | e
  ·exact h.n3 b A (by rw [←e];exact Q)
  ·rw [Q]at e;cases e;have:=h.l1.lt A;omega
 have v:LR H' u 5 (aI (l.filter fun x=>decide (x.day<d))):=M.bT fun i y hy hi=>g.2 i y hy fun e=>h.n3 i hi e;have W:(l++[x]).filter (fun x=>decide (d≤x.day))=l.filter (fun x=>decide (d≤x.day))++[x]:=by rw [asu];simp [hx]
 have X:(l++[x]).filter (fun x=>decide (x.day<d))=l.filter (fun x=>decide (x.day<d)):=by rw [asu];simp;omega
 refine⟨m,H',H'.set 4 (.box (s.bL I m) 0),by rw [←j];exact z,by simp [cE,U,bf.bL,over],⟨?_,?_,?_,?_,If (au U),?_,?_,h.n1,S,m3⟩⟩
 ·rw [AI (by decide)];exact q0
 ·rw [AI (by decide)];exact q1
 ·rw [AI (by decide)];exact q2
 ·rw [AI (by decide)];exact q3
 ·rw [X];exact v.set (fun e=>by have:=h.n1 4 e;omega) _
 ·rw [W,kW];exact L.set (fun e=>by have:=S 4 e;omega) _
theorem EM{s:bf}(h:s.OK)(hr:s.ru.length≤60)(n7:s.mv.length≤60){d:Int}(d0:0≤d)(d1:d≤1099511627776) :
  ∃ q1 q2:bf,gm q1 s 13 d (s.mv.filter fun x=>decide (x.day<d))∧gm q2 s 12 d (s.mv.filter fun x=>decide (d≤x.day))∧bA tab.get 9 [s.v,vi d]=Eq (.t [q1.v,q2.v,vi 0]):=by
 have b9:=gS h;have m4:=dC d 0 1099511627776 (by omega);have d7:LiB s.ru:=fun x hx=>by
  obtain⟨i,hi,rfl⟩:=arS hx;have:=(h.ru.at_ i (by simpa using hi)).ok.1;simpa using this
 obtain⟨q,hq,S⟩:=sx (s:=s) h.rl d7 h.ml;obtain⟨g1,l1,l9,Z⟩:=vI ⟨⟨13,0,0,0,d,0,[]⟩,.nil⟩ (by simp) s.rg hr d7;obtain⟨M,l2,l_,a8⟩:=vI ⟨⟨12,0,0,0,d,0,[]⟩,.nil⟩ (by simp) s.rg hr d7;obtain⟨rr,⟨q1,q2,h1,h2,rfl⟩,hp⟩:∃ rr,(∃ q1 q2:bf,gm q1 s 13 d (s.mv.filter fun x=>decide (x.day<d))∧gm q2 s 12 d (s.mv.filter fun x=>decide (d≤x.day))∧rr=.t [q1.v,q2.v,vi 0])∧bA tab.get 9 [s.v,vi d] rr:=by
  refine bQ rfl rfl fun Q hQ=>?_;apply ai;simp;obtain⟨H,hH⟩:=aO ([.box (s.row.map .f) 0,.box bB 0,.box bB 0]:aj);have b0:H[0]?=aa (.box (s.row.map .f) 0):=by rw [hH];rfl
  have b1:H[1]?=aa (.box bB 0):=by rw [hH];rfl
  have b2:H[2]?=aa (.box bB 0):=by rw [hH];rfl
  have hl:H.length=3:=by rw [hH];rfl
  simp only [bB]at hH;rw [←hH];clear hH;have F:∀ K:aj,K[0]?=aa (.box (s.row.map .f) 0)→aU K ab (.c (.ptr 0 0 0))=aa (.c (.f (sl s.rg (aH s.ru))))∧aU K (aa 7) (.c (.ptr 0 0 0))=aa s.v:=fun K hK=>by
   obtain⟨e0,-,-,-,-,-,-,e7⟩:=cR hK;exact⟨e0,e7⟩
  have q7:q.row.length=7:=rfl;have i_:¬ ((64:Int)≤s.ru.length):=by omega
  refine aq (ai ?_);simp [(F H b0).2,-an,b9,m4];refine a5 (by simp) ?_;refine aq (ai ?_);simp [(F H b0).1,-an,i_];refine a5 (by simp) ?_;apply ai;simp [(F H b0).2,-an,S,q7,hl];obtain⟨H1,c9⟩:=aO (H++[.box (q.row.map .f) 0]:aj);obtain⟨U,c3,d5⟩:yL H H1∧H1[H.length]?=aa (.box (q.row.map .f) 0)∧H1.length=H.length+1:=by subst c9;exact⟨fun i y h=>by rw [At (au h)];exact h,by simp,by simp⟩
  rw [hl]at c3 d5;have c0:=U _ _ b0;have m:=U _ _ b1;have u:=U _ _ b2;rw [←c9];clear c9 U;apply ai;simp [(F H1 c0).2,-an,S,q7,d5];obtain⟨H2,c_⟩:=aO (H1++[.box (q.row.map .f) 0]:aj);obtain⟨U,d4,m6⟩:yL H1 H2∧H2[H1.length]?=aa (.box (q.row.map .f) 0)∧H2.length=H1.length+1:=by subst c_;exact⟨fun i y h=>by rw [At (au h)];exact h,by simp,by simp⟩
  rw [d5]at d4 m6;have b_:=U _ _ c0;have d_:=U _ _ m;have e_:=U _ _ u;have I:=U _ _ c3;rw [←c_];clear c_ U c0 m u c3 b0 b1 b2;rw [adx hq]at I d4;obtain⟨a0,j9⟩:=aO (.f (sl q.rg (aH q.ru)):C);obtain⟨m0,m7⟩:=aO (.f (sl q.mg (aI q.mv)):C);rw [←j9,←m7]at I d4;obtain⟨a1,f9⟩:=aO (.f (sl g1 (aH l1)):C);obtain⟨l,d3⟩:=aO (.f (sl M (aH l2)):C);rw [←f9]at Z;rw [←d3]at a8;simp only [aR.row,th,aft,apr,show sl .nil (ints [])=FC.aF from rfl]at Z a8;have s1:cE H2 (.ptr 3 0 0) [a1]=aa (H2.set 3 (.box (s.bL a1 m0) 0)):=by simp [cE,I,over,bf.bL]
  obtain⟨W,v⟩:=aO (H2.set 3 (.box (s.bL a1 m0) 0):aj);have x0:W[0]?=aa (.box (s.row.map .f) 0):=by rw [v,AI (by decide)];exact b_
  have x1:W[1]?=aa (.box bB 0):=by rw [v,AI (by decide)];exact d_
  have x2:W[2]?=aa (.box bB 0):=by rw [v,AI (by decide)];exact e_
  have x3:W[3]?=aa (.box (s.bL a1 m0) 0):=by rw [v];exact If (au I)
  have x4:W[4]?=aa (.box (s.bL a0 m0) 0):=by rw [v,AI (by decide)];exact d4
  have s2:cE W (.ptr 4 0 0) [l]=aa (W.set 4 (.box (s.bL l m0) 0)):=by simp [cE,x4,over,bf.bL]
  obtain⟨J2,z⟩:=aO (W.set 4 (.box (s.bL l m0) 0):aj);have y0:J2[0]?=aa (.box (s.row.map .f) 0):=by rw [z,AI (by decide)];exact x0
  have y1:J2[1]?=aa (.box bB 0):=by rw [z,AI (by decide)];exact x1
  have y2:J2[2]?=aa (.box bB 0):=by rw [z,AI (by decide)];exact x2
  have y3:J2[3]?=aa (.box (s.bL a1 m0) 0):=by rw [z,AI (by decide)];exact x3
  have y4:J2[4]?=aa (.box (s.bL l m0) 0):=by rw [z];exact If (au x4)
  have s3:cE J2 (.ptr 3 6 0) [.f .aF]=aa (J2.set 3 (.box (s.bL a1 (.f .aF)) 0)):=by simp [cE,y3,over,bf.bL]
  obtain⟨J3,A⟩:=aO (J2.set 3 (.box (s.bL a1 (.f .aF)) 0):aj);have z0:J3[0]?=aa (.box (s.row.map .f) 0):=by rw [A,AI (by decide)];exact y0
  have z1:J3[1]?=aa (.box bB 0):=by rw [A,AI (by decide)];exact y1
  have z2:J3[2]?=aa (.box bB 0):=by rw [A,AI (by decide)];exact y2
  have z3:J3[3]?=aa (.box (s.bL a1 (.f .aF)) 0):=by rw [A];exact If (au y3)
  have z4:J3[4]?=aa (.box (s.bL l m0) 0):=by rw [A,AI (by decide)];exact y4
  have s4:cE J3 (.ptr 4 6 0) [.f .aF]=aa (J3.set 4 (.box (s.bL l (.f .aF)) 0)):=by simp [cE,z4,over,bf.bL]
  obtain⟨J4,B⟩:=aO (J3.set 4 (.box (s.bL l (.f .aF)) 0):aj);have b:ZK s a1 l d J4 [] (.f .aF) (.f .aF):=by
   refine⟨?_,?_,?_,?_,?_,.inl ⟨rfl,.inl rfl⟩,.inl ⟨rfl,.inl rfl⟩,by simp [a6],by simp [a6],by simp [a6]⟩
   ·rw [B,AI (by decide)];exact z0
   ·rw [B,AI (by decide)];exact z1
   ·rw [B,AI (by decide)];exact z2
   ·rw [B,AI (by decide)];exact z3
   ·rw [B];exact If (au z4)
  apply ai;simp [(F H2 b_).1,-an,Z,s1,-bh];rw [←v];apply ai;simp [(F W x0).1,-an,a8,s2,-bh];rw [←z];apply ai;simp [s3,-bh];rw [←A];apply ai;simp [s4,-bh];rw [←B];clear v z A B s1 s2 s3 s4 x0 x1 x2 x3 x4 y0 y1 y2 y3 y4 z0 z1 z2 z3 z4 b_ d_ e_ I d4 S Z a8 b9;refine aq (ai ?_);simp;have ix:=fun(H:aj) i (hi:i<s.mv.length)=>nz (H:=H) (g:=s.mg) hi (by omega);refine bV s.mv.length (fun j t J=>∃ m u,t.g 1=vi d∧t.g 2=.c (.ptr 0 0 0)∧t.g 4=.c (.ptr 1 0 0)∧t.g 5=.c (.ptr 2 0 0)∧t.g 7=.c (.ptr 3 0 0)∧t.g 8=.c (.ptr 4 0 0)∧ZK s a1 l d J (s.mv.take j) m u) (by omega) (by decide) (by simp)
   ⟨_,_,by simp,by simp,by simp,by simp,by simp,by simp,by simpa using b⟩ ?_ ?_ ?_
  ·rintro j t J L hj ⟨m,u,g1,M,g4,g5,g7,X,b⟩ Y hn;obtain⟨p1,p2,p3⟩:=b.lds;simp [Y,M,p1,-an];exact hn _ ⟨m,u,by simp [g1],by simp [M],by simp [g4],by simp [g5],by simp [g7],by simp [X],b⟩ (by simp [Y]) (by simp)
  ·rintro j t J hj ⟨m,u,g1,M,g4,g5,g7,X,b⟩ Y nx;obtain⟨p1,p2,p3⟩:=b.lds;obtain⟨x,hx⟩:=aO (s.mv[j]);have d6:=sE (H:=J) hj;have a_:=uV (H:=J) hj;rw [←hx]at d6 a_;have f_:s.mv.take (j+1)=s.mv.take j++[x]:=by rw [aq8 hj,←hx]
   have x5:x.row.length=5:=rfl;refine aB (ai ?_);simp [g1,M,p1,-an,Y,ix J j hj,a_];by_cases hd:x.day<d
   ·obtain⟨c',H',K,h1,h2,h3⟩:=b.lo (by simp;omega) hd;rw [←f_]at h3;refine ak (by simp [hd]) ?_;refine av (.inl rfl) ?_;simp [M,g7,p1,p2,-an,Y,ix J j hj,d6,x5,h1,h2,-bh];refine aw ?_;exact nx _ _ ⟨c',u,by simp [g1],by simp [M],by simp [g4],by simp [g5],by simp [g7],by simp [X],h3⟩ (by simp [Y])
   ·obtain⟨c',H',K,h1,h2,h3⟩:=b.hi (by simp;omega) (show d≤x.day by omega);rw [←f_]at h3;refine al (by simp [hd]) ?_;refine av (.inl rfl) ?_;simp [M,X,p1,p3,-an,Y,ix J j hj,d6,x5,h1,h2,-bh];refine aw ?_;exact nx _ _ ⟨m,c',by simp [g1],by simp [M],by simp [g4],by simp [g5],by simp [g7],by simp [X],h3⟩ (by simp [Y])
  ·rintro t J ⟨m,u,n5,n6,g4,g5,g7,X,b⟩ Y;rw [ar8]at b;have h3:=b.b3;have h4:=b.b4;have O:∀ a c,(s.bL a c).length=7:=fun _ _=>rfl;have g_:∀ K:aj,K[3]?=aa (.box (s.bL a1 m) 0)→aU K (aa 7) (.c (.ptr 3 0 0))=aa (.a (s.bL a1 m)):=fun K hK=>by simp [aU,hK,aC,aK,bf.bL]
   have a9:∀ K:aj,K[4]?=aa (.box (s.bL l u) 0)→aU K (aa 7) (.c (.ptr 4 0 0))=aa (.a (s.bL l u)):=fun K hK=>by simp [aU,hK,aC,aK,bf.bL]
   have i1:=b.b1;have i2:=b.b2;have h_:cE J (.ptr 1 0 0) (s.bL a1 m)=aa (J.set 1 (.box (s.bL a1 m) 0)):=by simp [cE,i1,over,bB,O]
   obtain⟨K1,E⟩:=aO (J.set 1 (.box (s.bL a1 m) 0):aj);have j1:K1[1]?=aa (.box (s.bL a1 m) 0):=by rw [E];exact If (au i1)
   have j2:K1[2]?=aa (.box bB 0):=by rw [E,AI (by decide)];exact i2
   have j4:K1[4]?=aa (.box (s.bL l u) 0):=by rw [E,AI (by decide)];exact h4
   have n4:cE K1 (.ptr 2 0 0) (s.bL l u)=aa (K1.set 2 (.box (s.bL l u) 0)):=by simp [cE,j2,over,bB,O]
   obtain⟨K2,N⟩:=aO (K1.set 2 (.box (s.bL l u) 0):aj);have k1:K2[1]?=aa (.box (s.bL a1 m) 0):=by rw [N,AI (by decide)];exact j1
   have k2:K2[2]?=aa (.box (s.bL l u) 0):=by rw [N];exact If (au j2)
   have j7:LR K2 m 5 (aI (s.mv.filter fun x=>decide (x.day<d))):=by
    rw [N,E];exact(b.l1.set (fun e=>by have:=b.n1 1 e;omega) _).set (fun e=>by have:=b.n1 2 e;omega) _
   have j8:LR K2 u 5 (aI (s.mv.filter fun x=>decide (d≤x.day))):=by
    rw [N,E];exact(b.l2.set (fun e=>by have:=b.n2 1 e;omega) _).set (fun e=>by have:=b.n2 2 e;omega) _
   obtain⟨m9,d8⟩:=j7.ex (bw _) 63;obtain⟨m_,d9⟩:=j8.ex (bw _) 63;have d8:c8 deep K2 m=_:=d8;have d9:c8 deep K2 u=_:=d9;have e1:aU K2 (aa 7) (.c (.ptr 1 0 0))=aa (.a (s.bL a1 m)):=by simp [aU,k1,aC,aK,bf.bL]
   have e2:aU K2 (aa 7) (.c (.ptr 2 0 0))=aa (.a (s.bL l u)):=by simp [aU,k2,aC,aK,bf.bL]
   have j_:l.beq l=ae:=by rw [d3];exact Ci _ _
   refine aq (fV (.inl rfl) ?_ ?_)
   case refine_2=>
    intro cc l7;have k_:cc=(1,3):=by simpa using l7
    subst k_;refine⟨by decide,_,rfl,.inl ⟨by decide,?_⟩⟩;simp [g4,g7,X,g_ J h3,a9 J h4,-an,O,h_,-bh];rw [←E];simp [jh,X,a9 J h4,a9 K1 j4,-an];exact adk j_ (adj b.l2)
   simp [g4,g5,g7,X,g_ J h3,a9 J h4,-an,O,h_,-bh];rw [←E];simp [n4,-bh,O];rw [←N];refine aJ (hQ _ _ _ ⟨⟨g1,l1,s.mi,s.le,s.zo,s.cF,s.fold,m9,s.mv.filter fun x=>decide (x.day<d)⟩,⟨M,l2,s.mi,s.le,s.zo,s.cF,s.fold,m_,s.mv.filter fun x=>decide (d≤x.day)⟩,⟨l9,rfl,rfl,rfl,rfl,rfl,rfl⟩,⟨l_,rfl,rfl,rfl,rfl,rfl,rfl⟩,rfl⟩ ⟨rfl,.t [.a (s.bL a1 m),.a (s.bL l u),vi 0],?_,?_⟩)
   ·simp [Km.results,bs,ba,g4,g5,e1,e2,-an]
   ·simp [fJ,bO,ba,bf.bL,d8,d9,bf.row,f9,d3]
 exact⟨q1,q2,h1,h2,hp.eq⟩
theorem XI{H:aj}{g:Tg}{l:List Int}{j:Nat}(b:j<l.length)(d:l.length≤1000):aP H 1 ab (.c (.f (sl g (ints l)))) (vi j)=aa (.c (.f (.fp (ints l).flatten j))):=by
 have:=c5 (H:=H) (g:=g) (rows:=ints l) (sz:=1) (k:=.i64) (i:=(j:Int)) (by omega) (by simp;omega);simpa using this
theorem Zr(s:ByteArray):bS .neq (.c (.f (.str s))) (.c (.f (.str s)))=aa (vb ag):=by
 simp [bS,Lg];rfl
theorem Ea(g s:Tg)(l:List Int)(u:l.length≤1000):bA tab.get 79 [.c (.f (sl g (ints l))),.c (.f (sl s (ints l)))]=Eq (vb ae):=bA.eq (by
 refine bG rfl rfl fun Q v=>?_;apply ai;simp;refine aq (ai ?_);simp;refine a5 (by simp) ?_;refine aq (ai ?_);simp;refine bV l.length (fun j t K=>K=[]∧t.g 0=.c (.f (sl g (ints l)))∧t.g 1=.c (.f (sl s (ints l)))) (by omega) (by decide) (by simp)
  ⟨rfl,by simp,by simp⟩ ?_ ?_ ?_
 ·rintro j t K L q ⟨rfl,b,m⟩ d x;simp [d,b];exact x _ ⟨rfl,by simp [b],by simp [m]⟩ (by simp [d]) (by simp)
 ·rintro j t K q ⟨rfl,b,m⟩ d z;have i1:=XI (H:=[]) (g:=g) (l:=l) (j:=j) q u;have i2:=XI (H:=[]) (g:=s) (l:=l) (j:=j) q u;have y:=fW (l:=l) q (H:=[]);refine aB (ai ?_);simp [b,m,d,i1,i2,y];refine al (by simp) (aL (aw ?_));exact z _ _ ⟨rfl,by simp [b],by simp [m]⟩ (by simp [d])
 ·rintro t K ⟨rfl,b,m⟩ d;apply ai;simp;refine aJ (v _ _ ?_);simp)
theorem Y9(g W:Tg)(l u:List aR)(e:dN l=dN u)(hl:l.length≤64)(X:∀ x ∈ l,x.d.li.length≤61):bA tab.get 43 [.c (.f (sl g (aH l))),.c (.f (sl W (aH u)))]=Eq (vb ae):=bA.eq (by
 have Y:u.length=l.length:=by have:=congrArg List.length e;simpa using this.symm
 refine bG rfl rfl fun Q hQ=>?_;apply ai;simp;refine aq (ai ?_);simp [Y];refine a5 (by simp) ?_;refine aq (ai ?_);simp;refine bV l.length (fun j t K=>t.g 0=.c (.f (sl g (aH l)))∧t.g 1=.c (.f (sl W (aH u)))) (by omega) (by decide) (by simp)
  ⟨by simp,by simp⟩ ?_ ?_ ?_
 ·rintro j t K L E ⟨A,B⟩ v S;simp [v,A];exact S _ ⟨by simp [A],by simp [B]⟩ (by simp [v]) (by simp)
 ·rintro j t K E ⟨A,B⟩ v nx;have z:j<u.length:=by omega
  obtain⟨x,Z⟩:=aO (l[j]);obtain⟨y,f⟩:=aO (u[j]);have N:x.d=y.d:=by
   have h1:(dN l)[j]'(by simpa using E)=(dN u)[j]'(by simpa using z):=by simp only [e]
   simpa [Z,f]using h1
  have i1:=fun H=>ej (H:=H) (g:=g) (r:=l) (j:=j) E hl;have i2:=fun H=>ej (H:=H) (g:=W) (r:=u) (j:=j) z (by omega);have h:=fun H=>js (H:=H) (r:=l) E;have i:=fun H=>js (H:=H) (r:=u) z;rw [←Z]at h;rw [←f]at i;have S:=Ea x.tg y.tg x.d.li (by have:=X x (by rw [Z];exact IT E);omega);have x8:x.row.length=8:=rfl;have y8:y.row.length=8:=rfl;obtain⟨⟨k,d,a,b,n,m,li⟩,c⟩:=x;obtain⟨d',ty⟩:=y;simp only at N S;subst N;obtain⟨U,q⟩:=aO (K++[.box ((aR.row ⟨⟨k,d,a,b,n,m,li⟩,c⟩).map .f) 0]:aj);have F:U[K.length]?=aa (.box ((aR.row ⟨⟨k,d,a,b,n,m,li⟩,c⟩).map .f) 0):=by rw [q];simp
  have M:U.length=K.length+1:=by rw [q];simp
  obtain⟨O,s⟩:=aO (U++[.box ((aR.row ⟨⟨k,d,a,b,n,m,li⟩,ty⟩).map .f) 0]:aj);have I:O[K.length]?=aa (.box ((aR.row ⟨⟨k,d,a,b,n,m,li⟩,c⟩).map .f) 0):=by rw [s,At (au F)];exact F
  have J:O[K.length+1]?=aa (.box ((aR.row ⟨⟨k,d,a,b,n,m,li⟩,ty⟩).map .f) 0):=by rw [s,←M];simp
  obtain⟨p0,p1,p2,p3,p4,p5,p6,-⟩:=qk I;obtain⟨o,p,w,q3,q4,q5,q6,-⟩:=qk J;have p7:aU O ab (.c (.ptr K.length 7 0))=aa (.c (.f (.str th))):=by simp [aU,I,aC,aK,aR.row]
  have q7:aU O ab (.c (.ptr (K.length+1) 7 0))=aa (.c (.f (.str th))):=by simp [aU,J,aC,aK,aR.row]
  dsimp only at p0 p1 p2 p3 p4 p5 p6 o p w q3 q4 q5 q6;refine aB (ai ?_);simp [A,v,i1,h,-an,x8];rw [←q];apply ai;simp [B,v,i2,i,-an,y8];rw [←s,M];clear q s;apply ai;simp [p0,p1,p2,p3,p4,p5,p6,p7,o,p,w,q3,q4,q5,q6,q7,-an,S,Zr];refine al (by simp) (aL (aw ?_));exact nx _ _ ⟨by simp [A],by simp [B]⟩ (by simp [v])
 ·rintro t K ⟨A,B⟩ v;apply ai;simp;refine aJ (hQ _ _ ?_);simp)
theorem sa{a b:bf}(h:bf.Ad a b)(k:a.ru.length≤64)(M:∀ x ∈ a.ru,x.d.li.length≤61)(hm:a.mv.length≤1000):bA tab.get 11 [a.v,b.v]=Eq (vb ae):=bA.eq (by
 obtain⟨arg,y,s,q,u,l,d,v,m⟩:=a;obtain⟨A,B,a9,a8,b9,W,S,z,a_⟩:=b;obtain⟨X,Y,Z,c,e,f,i⟩:=h;dsimp only at X Y Z c e f i k M hm;subst Y Z c e f i;have hs:=Y9 arg A y B X k M;refine bG rfl rfl fun Q hQ=>?_;apply ai;simp;obtain⟨K,N⟩:=aO ([.box ((bf.row ⟨arg,y,s,q,u,l,d,v,m⟩).map .f) 0,.box ((bf.row ⟨A,B,s,q,u,l,d,z,m⟩).map .f) 0]:aj);have b0:K[0]?=aa (.box ((bf.row ⟨arg,y,s,q,u,l,d,v,m⟩).map .f) 0):=by rw [N];rfl
 have b1:K[1]?=aa (.box ((bf.row ⟨A,B,s,q,u,l,d,z,m⟩).map .f) 0):=by rw [N];rfl
 rw [←N];clear N;obtain⟨p0,p1,p2,p3,p4,p5,p6,-⟩:=cR b0;obtain⟨o,p,r,w,q4,q5,U,-⟩:=cR b1;dsimp only at p0 p1 p2 p3 p4 p5 p6 o p r w q4 q5 U;refine aq (ai ?_);simp [p1,p2,p3,p4,p5,p6,p,r,w,q4,q5,U,-an,Zr];refine a5 (by simp) ?_;refine aq (ai ?_);simp;refine bV m.length (fun j t J=>J=K∧t.g 2=.c (.ptr 0 0 0)∧t.g 3=.c (.ptr 1 0 0)) (by omega) (by decide) (by simp)
  ⟨rfl,by simp,by simp⟩ ?_ ?_ ?_
 ·rintro j t J L O ⟨rfl,E,F⟩ I hn;simp [I,E,p6,-an];exact hn _ ⟨rfl,by simp [E],by simp [F]⟩ (by simp [I]) (by simp)
 ·rintro j t J O ⟨rfl,E,F⟩ I nx;have i1:=nz (H:=J) (g:=v) O (by omega);have i2:=nz (H:=J) (g:=z) O (by omega);have n:=sE (H:=J) O;simp only [aX.row,aft,apr]at n;refine aB (ai ?_);simp [E,F,I,p6,U,-an,i1,i2,n,za];refine al (by simp) (aL (aw ?_));exact nx _ _ ⟨rfl,by simp [E],by simp [F]⟩ (by simp [I])
 ·rintro t J ⟨rfl,E,F⟩ I;apply ai;simp [E,F,p0,o,-an,hs];refine aJ (hQ _ _ ?_);simp)
theorem bf.Ad.symm{a b:bf}(h:bf.Ad a b):bf.Ad b a:=⟨h.ru.symm,h.mi.symm,h.le.symm,h.zo.symm,h.cF.symm,h.fold.symm,h.mv.symm⟩
theorem bf.Ad.trans{a b c:bf}(h:bf.Ad a b)(k:bf.Ad b c):bf.Ad a c:=⟨h.ru.trans k.ru,h.mi.trans k.mi,h.le.trans k.le,h.zo.trans k.zo,h.cF.trans k.cF,h.fold.trans k.fold,h.mv.trans k.mv⟩
theorem Za(g s:Tg)(l:List sS)(u:l.length≤100000):bA tab.get 10 [.c (.f (sl g (cX l))),.c (.f (sl s (cX l)))]=Eq (vb ae):=bA.eq (by
 refine bG rfl rfl fun Q x=>?_;apply ai;simp;refine aq (ai ?_);simp;refine a5 (by simp) ?_;refine aq (ai ?_);simp;refine bV l.length (fun j t K=>K=[]∧t.g 0=.c (.f (sl g (cX l)))∧t.g 1=.c (.f (sl s (cX l)))) (by omega) (by decide) (by simp)
  ⟨rfl,by simp,by simp⟩ ?_ ?_ ?_
 ·rintro j t K L q ⟨rfl,b,m⟩ d y;simp [d,b];exact y _ ⟨rfl,by simp [b],by simp [m]⟩ (by simp [d]) (by simp)
 ·rintro j t K q ⟨rfl,b,m⟩ d z;have i1:=XJ (H:=[]) (g:=g) (l:=l) (j:=j) q u;have i2:=XJ (H:=[]) (g:=s) (l:=l) (j:=j) q u;have v:=ah9 (H:=[]) (l:=l) q;simp only [sS.row,aft,apr]at v;refine aB (ai ?_);simp [b,m,d,i1,i2,v,za];refine al (by simp) (aL (aw ?_));exact z _ _ ⟨rfl,by simp [b],by simp [m]⟩ (by simp [d])
 ·rintro t K ⟨rfl,b,m⟩ d;apply ai;simp;refine aJ (x _ _ ?_);simp)
theorem Gn{K b:aj}{B:cT}(h:b=K++[B]):yL K b∧b[K.length]?=aa B∧b.length=K.length+1:=by
 subst h;exact⟨fun i y h=>by rw [At (au h)];exact h,by simp,by simp⟩
theorem ad7{H:aj}{b:Nat}{m:aX}(h:H[b]?=aa (.box (m.row.map .f) 0)):aU H (aa 5) (.c (.ptr b 0 0))=aa (.a (m.row.map .f))∧aU H ab (.c (.ptr b 0 0))=aa (vi m.day) ∧
  aU H ab (.c (.ptr b 1 0))=aa (vb m.drop)∧aU H ab (.c (.ptr b 2 0))=aa (vi m.to)∧aU H ab (.c (.ptr b 3 0))=aa (vi m.mi)∧aU H ab (.c (.ptr b 4 0))=aa (vi m.le):=by
 refine⟨?_,?_,?_,?_,?_,?_⟩<;>simp [aU,h,aC,aK,aX.row]
inductive Fa2{α β:Type}(R:α→β→Prop):List α→List β→Prop
 | nil:Fa2 R [] []
 | cons {a b l m}:R a b→Fa2 R l m→Fa2 R (a::l) (b::m)
theorem dZ.ZG{z:ZD}{o:List bC}(h:dZ z o):∃ g,bA tab.get 70 [z.v]=Eq (.t [.c (.f (sl g (aT o))),vb ae]):=by
 rcases h.y with⟨e,rfl⟩ | ⟨r,q,e,hr,m,hi,l,-⟩
 ·exact⟨.es,EZ z h.c e⟩
 ·obtain⟨g,o',b,j⟩:=sR z h.c e hr m;have d:o'=o:=nR (hV l) b.sorted (b.perm.trans hi.perm.symm);subst d;rw [l]at j;exact⟨g,j⟩
def Nu(o:List bC)(size b t:Int):Option bC→Prop
 | some x=>Mem o size x∧b≤x.at_∧x.at_≤t∧∀ y,Mem o size y→y.at_≤t→y.at_≤x.at_| none=>∀ y,Mem o size y→b≤y.at_→t<y.at_
structure tP(o:List bC)(size dJ t:Int)(k0 k i:Nat)(r:Option bC):Prop where
 mem:∀ x,r=aa x→dJ≤x.at_∧x.at_≤t∧∃(k' i':Nat) (hi:i'<o.length),k0≤k'∧(k'<k∨k'=k∧i'<i)∧x=⟨o[i'].at_+k'*size,o[i'].off⟩
 all:∀(k' i':Nat) (hi:i'<o.length),k0≤k'→(k'<k∨k'=k∧i'<i)→dJ≤o[i'].at_+k'*size→o[i'].at_+k'*size≤t→∃ x,r=aa x∧o[i'].at_+k'*size≤x.at_
theorem zN{o:List bC}{size:Int}(b:c6 o size=ae)(j:0≤size){k k' i g:Nat}(hi:i<o.length)(d:g<o.length)(h:k'<k∨k'=k∧g<i):o[g].at_+k'*size≤o[i].at_+k*size:=by
 rcases h with h | ⟨rfl,h⟩
 ·obtain⟨_,a1,l⟩:=ei b (IT d);obtain⟨_,b1,m⟩:=ei b (IT hi);have:=gC (size:=size) j h;omega
 ·have:=eG b h hi;omega
theorem tP.step{o:List bC}{size dJ t:Int}(q:c6 o size=ae)(z:0≤size){k0 k i:Nat}{r:Option bC}(h:tP o size dJ t k0 k i r)(y:k0≤k)(hi:i<o.length) :
  (dJ≤o[i].at_+k*size∧o[i].at_+k*size≤t→tP o size dJ t k0 k (i+1) (aa ⟨o[i].at_+k*size,o[i].off⟩))∧(¬ (dJ≤o[i].at_+k*size∧o[i].at_+k*size≤t)→tP o size dJ t k0 k (i+1) r):=by
 refine⟨fun hc=>⟨fun x s=>?_,fun k' i' g u v j l=>?_⟩,fun hc=>⟨fun x s=>?_,fun k' i' g u v j l=>?_⟩⟩
 ·cases s;exact⟨hc.1,hc.2,k,i,hi,y,.inr ⟨rfl,by omega⟩,rfl⟩
 ·refine⟨_,rfl,?_⟩;by_cases m:k'=k∧i'=i
  ·obtain⟨rfl,rfl⟩:=m;exact asR _
  ·exact zN q z hi g (by omega)
 ·obtain⟨a,b,k',i',g,c,d,e⟩:=h.mem x s;exact⟨a,b,k',i',g,c,by omega,e⟩
 ·by_cases m:k'=k∧i'=i
  ·obtain⟨rfl,rfl⟩:=m;exact absurd ⟨j,l⟩ hc
  ·exact h.all k' i' g u (by omega) j l
theorem tP.turn{o:List bC}{size dJ t:Int}{k0 k:Nat}{r:Option bC}(h:tP o size dJ t k0 k o.length r):tP o size dJ t k0 (k+1) 0 r:=by
 refine⟨fun x q=>?_,fun k' i' g j s l m=>h.all k' i' g j (by omega) l m⟩;obtain⟨a,b,k',i',g,c,d,e⟩:=h.mem x q;exact⟨a,b,k',i',g,c,by omega,e⟩
theorem tP.done{o:List bC}{size dJ t:Int}(l:c6 o size=ae)(I:0<size)(A:0<o.length)(M:o[0].at_≤t){K:Nat}(F:(K:Int)=(t-o[0].at_) / size){r:Option bC}(h:tP o size dJ t (K-1) (K+1) 0 r):Nu o size dJ t r:=by
 have J:=asx (t-o[0].at_) size;have N:=asd (t-o[0].at_) (show size≠0 by omega);have O:=asj (t-o[0].at_) I;rw [←F,asO]at J;have u:∀(m i:Nat) (hi:i<o.length),o[i].at_+m*size≤t→m≤K:=by
  intro m i hi hy;obtain⟨_,b1,b2⟩:=ei l (IT hi);rcases ar9 K m with e | e
  ·have:=gC (size:=size) (by omega) e;omega
  ·exact e
 cases r with
 | some x=>
  obtain⟨a,b,k',i',s,c,d,e⟩:=h.mem x rfl;refine⟨⟨k',o[i'],IT s,e⟩,a,b,?_⟩;rintro y ⟨m,E,j,rfl⟩ hy;obtain⟨i,hi,rfl⟩:=arS j;simp only at hy ⊢;have H:=u m i hi hy;by_cases z:dJ≤o[i].at_+m*size
  ·rcases ar9 m (K-1)with q | q
   ·rw [e];exact zN l (by omega) s hi (.inl (by omega))
   ·obtain⟨B,g,v⟩:=h.all m i hi q (by omega) z hy;cases g;exact v
  ·omega
 | none=>
  rintro y ⟨m,E,j,rfl⟩ z;obtain⟨i,hi,rfl⟩:=arS j;simp only at z ⊢;rcases Int.lt_or_le t (o[i].at_+m*size)with hy | hy
  ·exact hy
  exfalso;have H:=u m i hi hy;rcases ar9 m (K-1)with q | q
  ·have L:=zN l (by omega) A hi (k:=K) (k':=m) (.inl (by omega));obtain⟨B,g,_⟩:=h.all K 0 A (by omega) (by omega) (by omega) (by omega);cases g
  ·obtain⟨B,g,_⟩:=h.all m i hi q (by omega) z hy;cases g
theorem Bo(g:Tg)(o:List bC){n:Int}(n0:1≤n)(n1:n≤217)(U:c6 o (n*1440)=ae)(hb:∀ x ∈ o,pI x)(hl:o.length≤100)(l:Int){t:Int}(t0:-10000000≤t)(t1:t≤10000000) :
  ∃ r:Option bC,Nu o (n*1440) l t r∧bA tab.get 151 [.c (.f (sl g (aT o))),vi n,vi l,vi t]=Eq (.t [.a ((r.getD ⟨0,0⟩).row.map .f),vb r.isSome]):=by
 obtain⟨rr,⟨r,hr,rfl⟩,hp⟩:∃ rr,(∃ r:Option bC,Nu o (n*1440) l t r∧rr=.t [.a ((r.getD ⟨0,0⟩).row.map .f),vb r.isSome])∧bA tab.get 151 [.c (.f (sl g (aT o))),vi n,vi l,vi t] rr:=by
  refine bQ rfl rfl fun Q hQ=>?_;apply ai;simp;obtain⟨H0,N⟩:=aO ([.box [.f (fi 0),.f (fi 0)] 0]:aj);have z0:H0[0]?=aa (.box [.f (fi 0),.f (fi 0)] 0):=by rw [N];rfl
  have c9:H0.length=1:=by rw [N];rfl
  rw [←N];clear N;have l9:cE H0 (.ptr 0 0 0) [.f (fi 0),.f (fi 0)]=aa (H0.set 0 (.box [.f (fi 0),.f (fi 0)] 0)):=by simp [cE,z0,over]
  have no:∀ d:T,Nu o (n*1440) l t ab→d.g 8=.c (.ptr 0 0 0) →
    WP tab.get 151 ab [.code E7,.code E8] ⟨d,[],H0⟩ Q:=by
   intro d hP A;apply ai;simp [A,l9,-bh];have hl:=au z0;have l0:aU (H0.set 0 (.box [.f (fi 0),.f (fi 0)] 0)) (aa 2) (.c (.ptr 0 0 0))=aa (.a [.f (fi 0),.f (fi 0)]):=by simp [aU,aC,If hl,aK]
   refine aJ (hQ _ _ _ ⟨ab,hP,rfl⟩ ⟨rfl,.t [.a [.f (fi 0),.f (fi 0)],vb ag],?_,?_⟩)
   ·simp [Km.results,bs,ba,A,l0,-an]
   ·simp [fJ,bO,ba,bC.row]
  refine aq (ai ?_);by_cases X:0<o.length
  case neg=>
   have:o=[]:=anc (by omega);subst this;have l7:∀ H:aj,bH H (.f (sl g (aT [])))=aa 0:=by intro H;cases g<;>rfl
   simp [l7];refine ak (by simp) (no _ (fun y hy=>by obtain⟨k,b,Y,_⟩:=hy;cases Y) (by simp))
  have g_:=hb _ (IT X);unfold pI at g_;have i0:=fun H=>eF (g:=g) H X;have l0:=fun H=>mI H X;simp only [Nat.zero_mul,as7]at i0 l0;have c_:=fun H=>zR (g:=g) H X;simp [c_,i0,l0,show¬ (o.length:Int)=0 by omega,show¬ o=[] by intro e;rw [e]at X;simp at X];by_cases i_:o[0].at_≤t
  case neg=>
   refine ak (by simp;omega) (no _ (fun y hy _=>?_) (by simp));obtain⟨k,b,Y,rfl⟩:=hy;obtain⟨_,b1,b2⟩:=ei U Y;have:0≤(k:Int)*(n*1440):=ate (by omega) (by omega);simp only;omega
  refine al (by simp;omega) (aL ?_);obtain⟨size,Z⟩:=aO (n*1440);rw [←Z]at U;have n4:1440≤size∧size≤400000:=by omega
  have f_:0≤(t-o[0].at_) / size:=Int.ediv_nonneg (by omega) (by omega);obtain⟨K,hK⟩:∃ K:Nat,(K:Int)=(t-o[0].at_) / size:=⟨((t-o[0].at_) / size).toNat,asK f_⟩
  have m4:(K:Int)≤20000:=by
   rw [hK];have:=Int.ediv_le_ediv (a:=t-o[0].at_) (b:=20000*size) (c:=size) (by omega) (by omega);rw [Int.mul_ediv_cancel _ (by omega)]at this;exact this
  have m6:(K:Int)*size≤t-o[0].at_:=by
   have q0:=asx (t-o[0].at_) size;have q1:=asd (t-o[0].at_) (show size≠0 by omega);rw [←hK,asO]at q0;omega
  have wS:ah .i64 (n*1440)=size:=by rw [Z];exact aQ
  have wD:=aQ (n:=t-o[0].at_);have qD:bS .quo (vi (t-o[0].at_)) (vi size)=aa (vi K):=by
   rw [tt (by omega),Int.tdiv_eq_ediv_of_nonneg (by omega),←hK,aQ]
  have wK:=aQ (n:=(K:Int)-1);apply ai;simp [wS];apply ai;simp [c9];apply ai;simp;refine aq (ai ?_);simp [i0,l0,wD,qD,wK];obtain⟨k0,j9⟩:=aO (K-1);have j_:max ((K:Int)-1) 0=(k0:Int):=by omega
  rw [j_];obtain⟨H1,O⟩:=aO (H0++[.box [.f (fi 0),.f (fi 0)] 0]:aj);have F:H1[0]?=aa (.box [.f (fi 0),.f (fi 0)] 0):=by rw [O,At (au z0)];exact z0
  have I:H1[1]?=aa (.box ((bC.row ⟨0,0⟩).map .f) 0):=by rw [O,←c9];simp [bC.row]
  rw [←O];clear O;refine aB (bI (fun m st=>∃(j:Nat) (r:Option bC) (d:T) (J:aj),st=⟨d,[],J⟩∧k0≤j∧j≤K+1∧m=K+1-j∧tP o size l t k0 j 0 r∧J[0]?=aa (.box [.f (fi 0),.f (fi 0)] 0)∧J[1]?=aa (.box ((r.getD ⟨0,0⟩).row.map .f) 0) ∧
    d.g 0=.c (.f (sl g (aT o)))∧d.g 2=vi l∧d.g 3=vi t∧d.g 8=.c (.ptr 0 0 0)∧d.g 10=vi size∧d.g 11=.c (.ptr 1 0 0)∧d.g 12=vb r.isSome∧d.g 13=vi j) (K+1-k0)
   ⟨k0,ab,_,H1,rfl,by omega,by omega,rfl,⟨fun x hx=>(by cases hx),fun k' i' m7 h1 h2=>absurd h2 (by omega)⟩,F,I,by simp,by simp,by simp,by simp,by simp,by simp,by simp,by simp⟩ ?_)
  rintro m st ⟨j,r,d,J,rfl,j7,m9,rfl,S,F,I,B,M,E,A,g10,s,z,u⟩ ih;refine aq (ai ?_);simp [B,E,g10,u,i0,l0,wD,qD];by_cases j8:j≤K
  ·refine ak (by simp [j8]) (aL ?_);have m_:(j:Int)*size≤(K:Int)*size:=Int.mul_le_mul_of_nonneg_right (by omega) (by omega);have l_:0≤(j:Int)*size:=ate (by omega) (by omega);have wM:=aQ (n:=(j:Int)*size);have wJ:ah .i64 ((j:Int)+1)=((j+1:Nat):Int):=by rw [aQ];omega
   refine aq (aB (ai ?_));simp;refine bV o.length (fun i d J=>∃ r,tP o size l t k0 j i r∧J[0]?=aa (.box [.f (fi 0),.f (fi 0)] 0)∧J[1]?=aa (.box ((r.getD ⟨0,0⟩).row.map .f) 0) ∧
     d.g 0=.c (.f (sl g (aT o)))∧d.g 2=vi l∧d.g 3=vi t∧d.g 8=.c (.ptr 0 0 0)∧d.g 10=vi size∧d.g 11=.c (.ptr 1 0 0)∧d.g 12=vb r.isSome∧d.g 13=vi j) (by omega) (by decide) (by simp)
    ⟨r,S,F,I,by simp [B],by simp [M],by simp [E],by simp [A],by simp [g10],by simp [s],by simp [z],by simp [u]⟩ ?_ ?_ ?_
   ·rintro i d J L hi ⟨r,S,F,I,B,M,E,A,g10,s,z,u⟩ W hn;simp [W,B,c_];exact hn _ ⟨r,S,F,I,by simp [B],by simp [M],by simp [E],by simp [A],by simp [g10],by simp [s],by simp [z],by simp [u]⟩ (by simp [W]) (by simp)
   ·rintro i d J hi ⟨r,S,F,I,B,M,E,A,g10,s,z,u⟩ W nx;have ii:=eF (g:=g) J hi;have la:=mI J hi;have lo:=(fun(H:aj)=>zl (H:=H) (k:=1) (cu o) (dk (AT hi)) (x:=fi o[i].off) rfl) J;have h_:=hb _ (IT hi);unfold pI at h_;obtain⟨d3,d5⟩:=S.step U (by omega) j7 hi;obtain⟨v,a_⟩:=aO (o[i].at_+(j:Int)*size);have wA:ah .i64 (o[i].at_+(j:Int)*size)=v:=by rw [a_];exact aQ
    rw [←a_]at d3 d5;refine aB (ai ?_);simp [B,g10,u,W,ii,la,wM,wA];apply ai;by_cases hc:l≤v∧v≤t
    ·have a8:cE J (.ptr 1 0 0) [.f (fi v),.f (fi o[i].off)]=aa (J.set 1 (.box ((bC.row ⟨v,o[i].off⟩).map .f) 0)):=by simp [cE,I,over,bC.row]
     simp [M,E,hc.1,hc.2];refine ak (by simp) (ai ?_);simp [B,s,W,ii,lo,a8,-bh];refine av (.inl rfl) ?_;simp;refine aw ?_;refine nx _ _ ⟨aa ⟨v,o[i].off⟩,d3 hc,by rw [AI (by decide)];exact F,If (au I),by simp [B],by simp [M],by simp [E],by simp [A],by simp [g10],by simp [s],by simp,by simp [u]⟩ (by simp [W])
    ·have f9:=d5 hc;have a9:∀ q:T,q.g 75=vb ag→q.g 0=d.g 0→q.g 2=d.g 2→q.g 3=d.g 3→q.g 8=d.g 8→q.g 10=d.g 10→q.g 11=d.g 11→q.g 12=d.g 12→q.g 13=d.g 13→q.g 14=d.g 14 →
       WP tab.get 151 ab [.code A6,.inBlock 3,.code (FE 14 57 58),.inLoop (tL 2 14 56 57 58 [⟨D 53,.bJ (R 14),ab⟩,⟨D 54,.bJ (R 0),ab⟩,⟨D 55,.len (R 54),ab⟩,⟨D 56,.bin .lss (R 53) (R 55),ab⟩] A5),.inBlock 2,.inBlock 1,.code A7,.inLoop A4,.inBlock 0,.code A8] ⟨q,[],J⟩ Q:=by
      intro q e_ e0 e2 e3 e8 d6 d7 d8 d9 d_;refine al e_ (aL (aw ?_));refine nx _ _ ⟨r,f9,F,I,by simp [e0,B],by simp [e2,M],by simp [e3,E],by simp [e8,A],by simp [d6,g10],by simp [d7,s],by simp [d8,z],by simp [d9,u]⟩ (by rw [d_];exact W)
     by_cases b9:v≤t
     ·simp [M,E,b9,show¬ l≤v by omega];exact a9 _ (by simp) (by simp) (by simp) (by simp) (by simp) (by simp) (by simp) (by simp) (by simp) (by simp)
     ·simp [E,b9];exact a9 _ (by simp) (by simp) (by simp) (by simp) (by simp) (by simp) (by simp) (by simp) (by simp) (by simp)
   ·rintro d J ⟨r,S,F,I,B,M,E,A,g10,s,z,u⟩ W;refine aw (av (.inl rfl) ?_);simp [u,wJ];exact ih (K+1-(j+1)) _ (by omega) ⟨j+1,r,_,J,rfl,by omega,by omega,rfl,S.turn,F,I,by simp [B],by simp [M],by simp [E],by simp [A],by simp [g10],by simp [s],by simp [z],by simp⟩
  ·have b_:j=K+1:=by omega
   subst b_;have hP:Nu o (n*1440) l t r:=by
    rw [←Z];rw [j9]at S;exact S.done U (by omega) X i_ hK
   refine al (by simp) (bq rfl ?_);have e1:aU J (aa 2) (.c (.ptr 1 0 0))=aa (.a ((r.getD ⟨0,0⟩).row.map .f)):=by simp [aU,I,aC,aK,bC.row]
   have a8:cE J (.ptr 0 0 0) ((r.getD ⟨0,0⟩).row.map .f)=aa (J.set 0 (.box ((r.getD ⟨0,0⟩).row.map .f) 0)):=by simp [cE,F,over,bC.row]
   have k_:((r.getD ⟨0,0⟩).row).length=2:=rfl;have e0:aU (J.set 0 (.box ((r.getD ⟨0,0⟩).row.map .f) 0)) (aa 2) (.c (.ptr 0 0 0))=aa (.a ((r.getD ⟨0,0⟩).row.map .f)):=by simp [aU,aC,If (au F),aK,bC.row]
   apply ai;simp [A,s,z,e1,-an,a8,-bh,k_];refine aJ (hQ _ _ _ ⟨r,hP,rfl⟩ ⟨rfl,.t [.a ((r.getD ⟨0,0⟩).row.map .f),vb r.isSome],?_,?_⟩)
   ·simp [Km.results,bs,ba,A,e0,-an]
   ·simp [fJ,bO,ba]
 exact⟨r,hr,hp.eq⟩
theorem oq{z:ZD}{o:List bC}(h:dZ z o){t:Int}(t0:-10000000≤t)(t1:t≤10000000) :
  ∃ r:Option bC,ea h.S t r∧bA tab.get 120 [z.v,vi t]=Eq (.t [.a ((r.getD ⟨0,0⟩).row.map .f),vb r.isSome]):=by
 obtain⟨rr,⟨r,hr,rfl⟩,hp⟩:∃ rr,(∃ r:Option bC,ea h.S t r∧rr=.t [.a ((r.getD ⟨0,0⟩).row.map .f),vb r.isSome])∧bA tab.get 120 [z.v,vi t] rr:=by
  have E:=h.c;have L:=h.Lp;have b_:=h.tl;obtain⟨gy,b9⟩:=h.ZG;have M:=kD z E;obtain⟨r,X,K⟩:=Bo gy o L.1 L.2 h.sp (fun x hx=>(h.bd x hx).1) (by have:=h.len;omega) z.dJ t0 t1;refine bQ rfl rfl fun Q Y=>?_;apply ai;simp;obtain⟨H0,s⟩:=aO ([.box (z.row.map .f) 0,.box [.f (fi 0),.f (fi 0)] 0]:aj);have z0:H0[0]?=aa (.box (z.row.map .f) 0):=by rw [s];rfl
  have z1:H0[1]?=aa (.box [.f (fi 0),.f (fi 0)] 0):=by rw [s];rfl
  have N:H0.length=2:=by rw [s];rfl
  rw [←s];clear s;apply ai;simp [cm z0 E,-an,b9];have a_:((r.getD ⟨0,0⟩).row).length=2:=rfl;apply ai;simp [cm z0 E,fF z0 E,-an,M,K,a_,N];obtain⟨l,u⟩:=aO (H0++[.box ((r.getD ⟨0,0⟩).row.map .f) 0]:aj);have y0:l[0]?=aa (.box (z.row.map .f) 0):=by rw [u,At (au z0)];exact z0
  have y1:l[1]?=aa (.box [.f (fi 0),.f (fi 0)] 0):=by rw [u,At (au z1)];exact z1
  have y2:l[2]?=aa (.box ((r.getD ⟨0,0⟩).row.map .f) 0):=by rw [u,←N];simp
  rw [←u];clear u;have J:∀ x:bC,cE l (.ptr 1 0 0) [.f (fi x.at_),.f (fi x.off)]=aa (l.set 1 (.box (x.row.map .f) 0)):=fun x=>by simp [cE,y1,over,bC.row]
  have I:∀(v:T) (q:Option bC),ea h.S t q→v.g 4=.c (.ptr 1 0 0)→v.g 5=vb q.isSome→mX [.cell (Km.P.nat 4) (aa 2),.tmp (Km.P.nat 5)] (.t [.a ((q.getD ⟨0,0⟩).row.map .f),vb q.isSome]) ⟨v,[],l.set 1 (.box ((q.getD ⟨0,0⟩).row.map .f) 0)⟩:=by
   intro v q _ B g5;have l0:aU (l.set 1 (.box ((q.getD ⟨0,0⟩).row.map .f) 0)) (aa 2) (.c (.ptr 1 0 0))=aa (.a ((q.getD ⟨0,0⟩).row.map .f)):=by simp [aU,aC,If (au y1),aK,bC.row]
   refine⟨rfl,.t [.a ((q.getD ⟨0,0⟩).row.map .f),vb q.isSome],?_,?_⟩
   ·simp [Km.results,bs,ba,B,g5,l0,-an]
   ·simp [fJ,bO,ba]
  refine aq (ai ?_);simp;cases O:r with
  | some x=>
   subst O;obtain⟨b1,b2,b3,b4⟩:=X;have e2:aU l (aa 2) (.c (.ptr 2 0 0))=aa (.a [.f (fi x.at_),.f (fi x.off)]):=by simp [aU,y2,aC,aK,bC.row]
   refine ak (by simp) (ai ?_);simp [e2,-an,J,-bh];have A:ea h.S t (aa x):=⟨.inr ⟨b1,b2⟩,b3,fun y b S=>by
    rcases b with b | ⟨b,-⟩
    ·have:=(h.tb y b).2.1;omega
    ·exact b4 y b S⟩
   exact aJ (Y _ _ _ ⟨aa x,A,rfl⟩ (I _ (aa x) A (by simp) (by simp)))
  | none=>
   subst O;refine a5 (by simp) ?_;refine aq (ai ?_);simp [du y0 E,-an];have wl:=aQ (n:=(z.tr.length:Int)-1);refine aB (bI (fun m st=>∃(j:Nat) (v:T),st=⟨v,[],l⟩∧j≤z.tr.length∧m=j∧(∀ i (hi:i<z.tr.length),j≤i→t<z.tr[i].at_)∧v.g 1=vi t∧v.g 2=.c (.ptr 0 0 0)∧v.g 4=.c (.ptr 1 0 0)∧v.g 10=vi ((j:Int)-1)) z.tr.length
    ⟨z.tr.length,_,rfl,OF _,rfl,fun i hi a9=>absurd a9 (by omega),by simp,by simp,by simp,by simp [wl]⟩ ?_)
   rintro m st ⟨j,v,rfl,hj,rfl,d,g1,W,B,g10⟩ ih;refine aq (ai ?_);simp [g10];by_cases a8:m=0
   ·subst a8;refine al (by simp) (bq rfl ?_);apply ai;have U:=J ⟨0,0⟩;simp only at U;simp [B,U,-bh];have A:ea h.S t ab:=fun y b=>by
     rcases b with b | ⟨b,H⟩
     ·obtain⟨i,hi,rfl⟩:=arS b;exact d i hi (by omega)
     ·exact X y b H
    exact aJ (Y _ _ _ ⟨ab,A,rfl⟩ (I _ ab A (by simp [B]) (by simp)))
   ·obtain⟨i,rfl⟩:∃ i,m=i+1:=⟨m-1,by omega⟩
    have e1:((i+1:Nat):Int)-1=(i:Int):=by omega
    rw [e1]at g10;have hi:i<z.tr.length:=by omega
    have ii:=eF (g:=z.tg) l hi;have la:=mI l hi;have lr:=nQ l hi;have wi:=aQ (n:=(i:Int)-1);refine ak (by simp;omega) (aL ?_);refine aq (aB (ai ?_));simp [g1,W,g10,du y0 E,-an,ii,la];by_cases F:z.tr[i].at_≤t
    ·simp only [bC.row,aft,apr]at lr;refine ak (by simp [F]) (ai ?_);simp [W,B,g10,du y0 E,-an,ii,lr,J,-bh];have A:ea h.S t (aa z.tr[i]):=⟨.inl (IT hi),F,fun y b S=>by
      rcases b with b | ⟨b,H⟩
      ·obtain⟨k,hk,rfl⟩:=arS b;rcases Nat.lt_trichotomy i k with e | e | e
       ·have:=d k hk (by omega);omega
       ·subst e;exact asR _
       ·have:=pD h.ts k i e hi;omega
      ·have:=X y b H;omega⟩
     exact aJ (Y _ _ _ ⟨aa z.tr[i],A,rfl⟩ (I _ (aa z.tr[i]) A (by simp [B]) (by simp)))
    ·refine al (by simp [F]) (aL (aw (av (.inl rfl) ?_)));simp [g10,wi];refine ih i _ (by omega) ⟨i,_,rfl,by omega,rfl,fun k hk Z=>?_,by simp [g1],by simp [W],by simp [B],by simp⟩;rcases asi Z with e | e
     ·exact d k hk e
     ·subst e;omega
 exact⟨r,hr,hp.eq⟩
theorem nG{z:ZD}{o:List bC}(h:dZ z o){t:Int}(t0:-10000000≤t)(t1:t≤10000000) :
  ∃ r:Option bC,ea h.S t r∧bA tab.get 118 [z.v,vi t]=Eq (vi (offO z r)):=by
 obtain⟨r,hr,g⟩:=oq h t0 t1;refine⟨r,hr,bA.eq ?_⟩;have s:=h.c;refine bG rfl rfl fun Q q=>?_;apply ai;simp;obtain⟨H0,b⟩:=aO ([.box (z.row.map .f) 0]:aj);have z0:H0[0]?=aa (.box (z.row.map .f) 0):=by rw [b];rfl
 have j:H0.length=1:=by rw [b];rfl
 rw [←b];clear b;have m:((r.getD ⟨0,0⟩).row).length=2:=rfl;apply ai;simp [cm z0 s,-an,g,m,j];obtain⟨l,d⟩:=aO (H0++[.box ((r.getD ⟨0,0⟩).row.map .f) 0]:aj);have v:l[0]?=aa (.box (z.row.map .f) 0):=by rw [d,At (au z0)];exact z0
 have y:l[1]?=aa (.box ((r.getD ⟨0,0⟩).row.map .f) 0):=by rw [d,←j];simp
 rw [←d];refine aq (ai ?_);simp;cases r with
 | some x=>
  have u:aU l ab (.c (.ptr 1 1 0))=aa (vi x.off):=by simp [aU,y,aC,aK,bC.row]
  refine ak (by simp) (ai ?_);simp [u,-an];refine aJ (q _ _ ?_);simp [offO]
 | none=>
  refine al (by simp) (aL (ai ?_));simp [rQ v s,-an];refine aJ (q _ _ ?_);simp [offO]
theorem ahX{F:Nat}(z:tab.get F=aa E4)(g:Tg)(l:List Int)(v:Int)(J:l.length≤1048576):bA tab.get F [.c (.f (sl g (ints l))),vi v]=Eq (vb (decide (v ∈ l))):=bA.eq (by
 refine bG z rfl fun Q x=>?_;apply ai;simp;refine aq (ai ?_);simp;refine bV l.length (fun j t K=>t.g 0=.c (.f (sl g (ints l)))∧t.g 1=vi v∧decide (v ∈ l)=decide (v ∈ l.drop j)) (by omega) (by decide) (by simp)
  ⟨by simp,by simp,by simp⟩ ?_ ?_ ?_
 ·rintro j t K L u ⟨d,q,b⟩ m A;simp [m,d];exact A _ ⟨by simp [d],by simp [q],b⟩ (by simp [m]) (by simp)
 ·rintro j t K u ⟨d,q,b⟩ m I;obtain⟨w,y⟩:=aO (l[j]);have B:aP K 1 ab (.c (.f (sl g (ints l)))) (vi j)=aa (.c (.f (.fp (ints l).flatten j))):=by
   have:=c5 (H:=K) (g:=g) (rows:=ints l) (sz:=1) (k:=.i64) (i:=(j:Int)) (by omega) (by simp;omega);simpa using this
  have E:aU K ab (.c (.f (.fp (ints l).flatten j)))=aa (vi w):=by rw [y];exact fW u
  rw [ar5 u,←y]at b;refine aB (ai ?_);simp [d,q,m,B,E];by_cases s:w=v
  ·refine ak (by simp [s]) (ai ?_);simp;refine aJ (x _ _ ?_);rw [b];simp [s]
  ·refine al (by simp [s]) (aL (aw ?_));refine I _ _ ⟨by simp [d],by simp [q],?_⟩ (by simp [m]);rw [b];simp [Ne.symm s]
 ·rintro t K ⟨d,q,b⟩ m;apply ai;simp;refine aJ (x _ _ ?_);rw [b];simp)
theorem adT(g:Tg)(l:List Int)(v:Int)(b:l.length≤100000):bA tab.get 119 [.c (.f (sl g (ints l))),vi v]=Eq (vb (decide (v ∈ l))):=ahX akJ g l v (by omega)
structure Aro{z:ZD}{o:List bC}(h:dZ z o)(lo:Int)(L:List Int):Prop where
 len:L.length≤2
 bd:∀ v ∈ L,-1080≤v∧v≤1080
 all:∀ t r,lo-1080≤t→t≤lo+1080→ea h.S t r→offO z r ∈ L
theorem Bn{z:ZD}{o:List bC}(h:dZ z o){lo:Int}(l0:0≤lo)(l1:lo≤460000) :
  ∃ g L,Aro h lo L∧bA tab.get 117 [z.v,vi lo]=Eq (.c (.f (sl g (ints L)))):=by
 obtain⟨rr,⟨g,L,hA,rfl⟩,hp⟩:∃ rr,(∃ g L,Aro h lo L∧rr=.c (.f (sl g (ints L))))∧bA tab.get 117 [z.v,vi lo] rr:=by
  have hc:=h.c;refine bQ rfl rfl fun Q hQ=>?_;apply ai;simp;apply ai;simp;have w1:=aQ (n:=lo+1080);have w2:=aQ (n:=lo-1080);apply ai;simp [w1];obtain⟨H0,H⟩:=aO ([.box (z.row.map .f) 0]:aj);have z0:H0[0]?=aa (.box (z.row.map .f) 0):=by rw [H];rfl
  rw [←H];clear H;have d8:=h.st;refine aB (bI (fun m st=>∃(tm:Int) (l:List Int) (c:C) (t:T) (J:aj),st=⟨t,[],J⟩∧m≤1∧J[0]?=aa (.box (z.row.map .f) 0)∧LR J c 1 (ints l)∧t.g 1=vi lo∧t.g 2=.c (.ptr 0 0 0)∧t.g 5=.c c∧t.g 6=vi tm ∧
    ((m=1∧tm=lo+1080∧l=[])∨(m=0∧∃ x,ea h.S (lo+1080) (aa x)∧lo-1080<x.at_∧tm=x.at_-1∧l=[x.off]))) 1
   ⟨lo+1080,[],.f .es,_,H0,rfl,by omega,z0,.inl ⟨rfl,.inr rfl⟩,by simp,by simp,by simp,by simp,.inl ⟨rfl,rfl,rfl⟩⟩ ?_)
  rintro m st ⟨tm,l,c,t,J,rfl,hm,z0,a9,g1,g2,g5,g6,b⟩ ih;have d9:-10000≤tm∧tm≤500000:=by
   rcases b with⟨-,rfl,-⟩ | ⟨-,x,y,Y,rfl,-⟩
   ·omega
   ·have:=y.2.1;omega
  have d6:l.length≤1:=by rcases b with⟨-,-,rfl⟩ | ⟨-,x,-,-,-,rfl⟩<;>simp
  obtain⟨r,hr,M⟩:=oq h (t:=tm) (by omega) (by omega);have b_:=h.offO hr;have b9:((r.getD ⟨0,0⟩).row).length=2:=rfl;refine aB (ai ?_);simp [g2,g6,cm z0 hc,-an,M,b9];obtain⟨O,j⟩:=aO (J++[.box ((r.getD ⟨0,0⟩).row.map .f) 0]:aj);have y0:O[0]?=aa (.box (z.row.map .f) 0):=by rw [j,At (au z0)];exact z0
  have y1:O[J.length]?=aa (.box ((r.getD ⟨0,0⟩).row.map .f) 0):=by rw [j];simp
  have a8:LR O c 1 (ints l):=by rw [j];exact a9.push _
  rw [←j];obtain⟨v,hv⟩:=aO (offO z r);obtain⟨Z,d⟩:=aO (O++[.box ([fi v].map .f) 0]:aj);have K:LR Z c 1 (ints l):=by rw [d];exact a8.push _
  have a_:Z[O.length]?=aa (.box ([fi v].map .f) 0):=by rw [d];simp
  obtain⟨c',H',B,I,S,d5⟩:=K.app (ek _) (by decide) (row:=[fi v]) rfl (bytes:=8) (cC (by simp;omega) (by decide)) a_;rw [←rN]at I;have x0:H'[0]?=aa (.box (z.row.map .f) 0):=by
   have:Z[0]?=aa (.box (z.row.map .f) 0):=by rw [d,At (au y0)];exact y0
   exact S.2 0 _ this (K.cQ this)
  have x1:H'[J.length]?=aa (.box ((r.getD ⟨0,0⟩).row.map .f) 0):=by
   have:Z[J.length]?=aa (.box ((r.getD ⟨0,0⟩).row.map .f) 0):=by rw [d,At (au y1)];exact y1
   exact S.2 _ _ this (K.cQ this)
  simp only [aft,apr]at d;have d3:∀(t':T),Aro h lo (l++[v])→∀ p,t'.g p=.c c'→True:=fun _ _ _ _=>trivial;obtain⟨g',U⟩:=qn I (ek _);have A:(r=ab∨∃ x,r=aa x∧x.at_≤lo-1080)→Aro h lo (l++[v]):=by
   intro N;refine⟨by simp;omega,fun w F=>?_,fun s q d7 W hq=>?_⟩
   ·rcases ar3.1 F with F | F
    ·rcases b with⟨-,-,rfl⟩ | ⟨-,x,y,-,-,rfl⟩
     ·cases F
     ·simp at F;subst F;exact h.off y.1
    ·simp at F;subst F;rw [hv];exact b_
   ·have low:s≤tm→offO z q ∈ l++[v]:=fun E=>by
     have:q=r:=by
      rcases N with rfl | ⟨x,rfl,y⟩
      ·exact dV h hq (hr.rV E)
      ·exact dV h hq (hr.back (by omega) E)
     rw [this,←hv];simp
    rcases b with⟨-,rfl,rfl⟩ | ⟨-,x,y,Y,rfl,rfl⟩
    ·exact low W
    ·rcases Int.lt_or_le s x.at_ with h1 | h1
     ·exact low (by omega)
     ·have:=dV h hq (y.back h1 W);rw [this];simp [offO]
  refine aq (ai ?_);simp;cases r with
  | none=>
   refine ak (by simp) (ai ?_);have u:z.start=v:=by rw [hv];rfl
   simp [g2,g5,rQ y0 hc,-an,u];rw [←d];simp [B];refine aJ (hQ _ _ _ ⟨g',_,A (.inl rfl),rfl⟩ ⟨rfl,.c c',?_,?_⟩)
   ·simp [Km.results,bs,ba]
   ·simp [fJ,bO,U]
  | some x=>
   have u:x.off=v:=by rw [hv];rfl
   have e1:aU O ab (.c (.ptr J.length 1 0))=aa (vi v):=by simp [aU,y1,aC,aK,bC.row,u]
   have e2:aU H' ab (.c (.ptr J.length 0 0))=aa (vi x.at_):=by simp [aU,x1,aC,aK,bC.row]
   refine al (by simp) (aL (ai ?_));simp [g5,e1,-an];rw [←d];simp [B];refine aq (ai ?_);simp [g1,e2,-an,w2];by_cases y:x.at_≤lo-1080
   ·refine ak (by simp [y]) (ai ?_);simp;refine aJ (hQ _ _ _ ⟨g',_,A (.inr ⟨x,rfl,y⟩),rfl⟩ ⟨rfl,.c c',?_,?_⟩)
    ·simp [Km.results,bs,ba]
    ·simp [fJ,bO,U]
   ·have c9:=hr.2.1;rcases b with⟨rfl,rfl,rfl⟩ | ⟨rfl,x',X,Y,rfl,rfl⟩
    ·have wx:=aQ (n:=x.at_-1);refine al (by simp;omega) (aL (av (.inl rfl) ?_));simp [e2,-an,wx];refine aw ?_;exact ih 0 _ (by omega) ⟨x.at_-1,[v],c',_,H',rfl,by omega,x0,by simpa using I,by simp [g1],by simp [g2],by simp,by simp,.inr ⟨rfl,x,hr,by omega,rfl,by rw [u]⟩⟩
    ·exfalso;have c_:=zC h X x hr.1 c9;have:=X.2.1;omega
 exact⟨g,L,hA,hp.eq⟩
theorem agv{H:aj}{c:C}{l:List Int}(h:LM H c l){j:Nat}(m:j<l.length):∃ b d,aP H 1 ab (.c c) (vi j)=aa (.c (.ptr b j d))∧aU H ab (.c (.ptr b j d))=aa (vi l[j]):=by
 rcases h with⟨rfl,_⟩ | ⟨v,b,d,x,rfl,g,_⟩
 ·simp at m
 ·have q:(0:Int)≤(j:Int):=by omega
  have s:(j:Int)<(l.length:Int):=by omega
  refine⟨b,d,?_,?_⟩
  ·simp [aP,dy,g,q,s]
  ·have u:List.drop j (l.map cI)=cI l[j]::List.drop (j+1) (l.map cI):=by rw [ar5 (by simpa using m),List.getElem_map]
   simp [aU,aC,g,aK,u]
structure ExI{z:ZD}{o:List bC}(h:dZ z o)(lo:Int)(L:List Int)(j:Nat)(out:List Int):Prop where
 at_:∀ a ∈ out,dj h lo a
 nd:out.Nodup
 all:∀ i (hi:i<L.length),i<j→dj h lo (lo-L[i])→lo-L[i] ∈ out
 len:out.length≤j
theorem ExI.step{z:ZD}{o:List bC}{h:dZ z o}{lo:Int}{L:List Int}{j:Nat}{d:List Int}(k:ExI h lo L j d)(v:j<L.length) :
  (dj h lo (lo-L[j])→lo-L[j] ∉ d→ExI h lo L (j+1) (d++[lo-L[j]]))∧((dj h lo (lo-L[j])→lo-L[j] ∈ d)→ExI h lo L (j+1) d):=by
 refine⟨fun m u=>⟨fun a g=>?_,?_,fun i hi q l=>?_,by have:=k.len;simp;omega⟩,fun m=>⟨k.at_,k.nd,fun i hi q l=>?_,by have:=k.len;omega⟩⟩
 ·rcases ar3.1 g with g | g
  ·exact k.at_ a g
  ·simp at g;subst g;exact m
 ·rw [List.nodup_append];refine⟨k.nd,by simp,fun a g b s e=>?_⟩;simp at s;subst s;subst e;exact u g
 ·rcases asi (show i≤j by omega)with e | e
  ·exact ar3.2 (.inl (k.all i hi e l))
  ·subst e;simp
 ·rcases asi (show i≤j by omega)with e | e
  ·exact k.all i hi e l
  ·subst e;exact m l
theorem ExI.done{z:ZD}{o:List bC}{h:dZ z o}{lo:Int}{L:List Int}{b:List Int}(j:Aro h lo L)(k:ExI h lo L L.length b):∀ a,a ∈ b↔dj h lo a:=by
 refine fun a=>⟨k.at_ a,fun l=>?_⟩
 obtain⟨r,hr,e⟩:=l;have m:=h.offO hr;have d:=j.all a r (by omega) (by omega) hr;obtain⟨i,hi,q⟩:=arS d;have g:lo-L[i]=a:=by omega
 have:=k.all i hi hi (by rw [g];exact⟨r,hr,e⟩);rwa [g]at this
theorem DE{z:ZD}{o:List bC}(h:dZ z o){lo:Int}(l0:0≤lo)(l1:lo≤460000) :
  ∃ g,bA tab.get 75 [z.v,vi lo]=Eq (.c (.f (sl g (ints (vY h lo))))):=by
 obtain⟨rr,⟨g,rfl⟩,hp⟩:∃ rr,(∃ g,rr=.c (.f (sl g (ints (vY h lo)))))∧bA tab.get 75 [z.v,vi lo] rr:=by
  have hc:=h.c;obtain⟨ga,L,hA,d8⟩:=Bn h l0 l1;have g_:=hA.len;refine bQ rfl rfl fun Q hQ=>?_;apply ai;simp;apply ai;simp;obtain⟨H0,Z⟩:=aO ([.box (z.row.map .f) 0]:aj);have z0:H0[0]?=aa (.box (z.row.map .f) 0):=by rw [Z];rfl
  rw [←Z];clear Z;apply ai;simp [cm z0 hc,-an,d8];refine aq (ai ?_);simp;have d_:∀ H:aj,bH H (.f (sl ga (ints L)))=aa L.length:=fun H=>by simpa using rR (H:=H) ga (ints L)
  refine bV L.length (fun j t J=>∃ c d,t.g 1=vi lo∧t.g 2=.c (.ptr 0 0 0)∧t.g 5=.c c∧t.g 6=.c (.f (sl ga (ints L)))∧J[0]?=aa (.box (z.row.map .f) 0)∧LM J c d∧ExI h lo L j d) (by omega) (by decide) (by simp)
   ⟨.f .es,[],by simp,by simp,by simp,by simp,z0,.inl ⟨rfl,.inr rfl⟩,⟨fun a u=>(by cases u),List.nodup_nil,fun i hi h0=>absurd h0 (by omega),by simp⟩⟩ ?_ ?_ ?_
  ·rintro j t J A hj ⟨c,d,Y,N,s,y,z0,l,O⟩ u hn;simp [u,y,d_];exact hn _ ⟨c,d,by simp [Y],by simp [N],by simp [s],by simp [y],z0,l,O⟩ (by simp [u]) (by simp)
  ·rintro j t J hj ⟨c,d,Y,N,s,y,z0,l,O⟩ u nx;obtain⟨v,hv⟩:=aO (L[j]);have j8:=hA.bd v (by rw [hv];exact IT hj);have ix:∀ K:aj,aP K 1 ab (.c (.f (sl ga (ints L)))) (vi j)=aa (.c (.f (.fp (ints L).flatten j))):=fun K=>by
    have:=c5 (H:=K) (g:=ga) (rows:=ints L) (sz:=1) (k:=.i64) (i:=(j:Int)) (by omega) (by simp;omega);simpa using this
   have lx:∀ K:aj,aU K ab (.c (.f (.fp (ints L).flatten j)))=aa (vi v):=fun K=>by rw [hv];exact fW hj
   obtain⟨a,b9⟩:=aO (lo-v);have wa:ah .i64 (lo-v)=a:=by rw [b9];exact aQ
   obtain⟨r,hr,I⟩:=nG h (t:=a) (by omega) (by omega);have j7:=h.offO hr;have c9:offO z r=v↔dj h lo a:=by
    constructor
    ·intro e;exact⟨r,hr,by omega⟩
    ·rintro⟨q,hq,e⟩;have:=dV h hr hq;subst this;omega
   obtain⟨c_,a9⟩:=O.step hj;rw [←hv,←b9]at c_ a9;refine aB (ai ?_);simp [Y,y,u,ix,lx,wa];apply ai;by_cases he:offO z r=v
   ·have d5:=c9.1 he;obtain⟨gx,B⟩:=l.ex;have U:=adT gx d a (by have:=O.len;omega);obtain⟨W,e_⟩:=l.mk;have a_:=e_ 0 _ z0 (l.cQ z0);by_cases hm:a ∈ d
    ·rw [decide_eq_true hm]at U;simp [N,s,y,u,cm z0 hc,-an,I,ix,lx,he,B,U];refine al (by simp) (aL (aw ?_));exact nx _ _ ⟨c,d,by simp [Y],by simp [N],by simp [s],by simp [y],a_,W,a9 fun _=>hm⟩ (by simp [u])
    ·rw [decide_eq_false hm]at U;simp [N,s,y,u,cm z0 hc,-an,I,ix,lx,he,B,U];obtain⟨J1,S⟩:=aO (jt deep c J++[.box [.f (fi a)] 0]:aj);have X:LM J1 c d:=by rw [S];exact W.push _
     have d9:J1[(jt deep c J).length]?=aa (.box [.f (fi a)] 0):=by rw [S];simp
     obtain⟨c',H',b_,d7,d6,h_⟩:=X.app (by have:=O.len;omega) d9;have z1:J1[0]?=aa (.box (z.row.map .f) 0):=by rw [S,At (au a_)];exact a_
     refine ak (by simp) (av (.inl rfl) ?_);simp [s];rw [←S];simp [b_];refine aw ?_;exact nx _ _ ⟨c',d++[a],by simp [Y],by simp [N],by simp,by simp [y],d6.2 0 _ z1 (X.cQ z1),d7,c_ d5 hm⟩ (by simp [u])
   ·have d3:¬ dj h lo a:=fun e=>he (c9.2 e);simp [N,s,y,u,cm z0 hc,-an,I,ix,lx,he];refine al (by simp) (aL (aw ?_));exact nx _ _ ⟨c,d,by simp [Y],by simp [N],by simp [s],by simp [y],z0,l,a9 fun e=>absurd e d3⟩ (by simp [u])
  ·rintro t J ⟨c,d,Y,N,s,y,z0,l,O⟩ u;have F:=ExI.done hA O;have E:=O.len;obtain⟨gx,B⟩:=l.ex;have m:bH J c=aa d.length:=by
    rcases l with⟨rfl,rfl | rfl⟩ | ⟨_,b,ep,fl,rfl,h2,_⟩
    ·rfl
    ·rfl
    ·simp [bH,h2]
   by_cases h2:d.length=2
   ·obtain⟨a,b,rfl⟩:∃ a b,d=[a,b]:=by
     match d,h2 with
     | [a,b],_=>exact⟨a,b,rfl⟩
    obtain⟨b0,f9,i0,e0⟩:=agv l (j:=0) (by simp);obtain⟨b1,f_,i1,e1⟩:=agv l (j:=1) (by simp);simp only [as7,Int.natCast_one,List.getElem_cons_zero,List.getElem_cons_succ]at i0 i1 e0 e1;have i_:a≠b:=by
     have:=O.nd;simp at this;exact this
    simp only [asc,List.length_nil]at m;refine aq (ai ?_);simp [s,m,i0,i1,e0,e1,-an];by_cases a8:b<a
    ·have M:[b,a]=vY h lo:=rL h l0 l1 (by simp;exact a8) (fun x=>by rw [←F x];simp [or_comm]);refine ak (by simp [a8]) (ai ?_);simp [s,i0,i1,e0,e1,-an];refine aJ (hQ _ _ _ ⟨.fs,rfl⟩ ⟨rfl,.c (.sl J.length 0 2 2 0 1),?_,?_⟩)
     ·simp [Km.results,bs,ba]
     ·have hb:(J++[cT.box [.f (fi b),.f (fi a)] 0])[J.length]?=aa (.box [.f (fi b),.f (fi a)] 0):=by simp
      rw [←M];have hx:c8 deep (J++[cT.box [.f (fi b),.f (fi a)] 0]) (.sl J.length 0 2 2 0 1)=aa (sl .fs (ints [b,a])):=by
       show c8 (63+1) _ _=_;rw [kE,hb];rfl
      simp [fJ,bO,hx]
    ·have M:[a,b]=vY h lo:=rL h l0 l1 (by simp;omega) F;refine al (by simp [a8]) (aL (ai ?_));simp [s];refine aJ (hQ _ _ _ ⟨gx,rfl⟩ ⟨rfl,.c c,?_,?_⟩)
     ·simp [Km.results,bs,ba]
     ·rw [←M];simp [fJ,bO,B]
   ·have M:d=vY h lo:=rL h l0 l1 (by
     match d,h2,E with
     | [],_,_=>exact List.Pairwise.nil| [a],_,_=>exact asP _ _| [_,_],h2,_=>exact absurd rfl h2
     | _::_::_::_,_,E=>simp at E;omega) F
    refine aq (ai ?_);simp [s,m,show¬ (d.length:Int)=2 by omega];refine al (by simp) (aL (ai ?_));simp [s];refine aJ (hQ _ _ _ ⟨gx,rfl⟩ ⟨rfl,.c c,?_,?_⟩)
    ·simp [Km.results,bs,ba]
    ·rw [←M];simp [fJ,bO,B]
 exact⟨g,hp.eq⟩
end Go.Proofs.YtmbjejcfadllnaaGreat
