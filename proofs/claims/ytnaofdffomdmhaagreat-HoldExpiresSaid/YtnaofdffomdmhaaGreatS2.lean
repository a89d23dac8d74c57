/-
  ajE the mz jK and the lS answer, for all arguments of their kind, in the small machine: part 2.
-/
import Derived.Test.YtnaofdffomdmhaaGreatS1
import Derived.Test.YtnaofdffomdmhaaGreatK4
import Derived.Test.YtnaofdffomdmhaaGreatK3
import Derived.Test.YtnaofdffomdmhaaGreatK5
open Option renaming some → aa,none → ab
open Bool renaming true → ae,false → ag
open List renaming getElem?_append_left → AT, drop_zero → aro, getElem?_append_right → IS, getElem?_drop → aqB, getElem_mem → anc, take_add_one → aqW, getElem?_eq_getElem → By, mem_append → aqC, mem_singleton → aqs, take_length → aqS, mem_append_left → aru, mem_append_right → ar7, mem_cons_self → aqv, mem_cons_of_mem → aqt, map_inj_left → arx, mem_flatMap → arQ, mem_map → aqJ, mem_range → arX, getElem?_set_ne → AI, getElem?_eq_some_iff → BY, drop_eq_getElem_cons → apw, getElem?_set_self → IN, map_cons → aqz, map_nil → aqK, length_append → api, length_set → aqE, set_getElem_self → arE, length_map → aqr, take_of_length_le → ap1, mem_cons → aqA, not_mem_nil → ard, getElem_of_mem → aq2, take_append_of_le_length → aqO, cons_append → art, pairwise_append → ark, nil_append → ars, pairwise_cons → arj, pairwise_iff_getElem → aq9, pairwise_singleton → arN, map_append → ari, rel_of_pairwise_cons → arl
open Int renaming toNat_natCast → aqI, lt_or_le → arB
open Prod.mk renaming inj → aqN
open Bool renaming and_eq_true → If
open Option.some renaming inj → asg
open Nat renaming le_refl → aft, add_mul → aqT, one_mul → asm, zero_add → aqV
open List.Pairwise renaming of_cons → ar8
set_option linter.unusedVariables false
set_option linter.constructorNameAsVariable false
set_option linter.unusedSimpArgs false
set_option linter.unusedSectionVars false
set_option linter.unnecessarySimpa false
set_option maxRecDepth 100000
namespace Go.Proofs.YtnaofdffomdmhaaGreat
open Go Km
theorem Ec{n b:Nat}(g:n≤1100000)(d:b≤4096):bP n b=ae:=by
 have h:(2*n+768)*b≤2200768*4096:=Nat.mul_le_mul (by omega) d;simp [bP];omega
theorem NP(g:Tg)(ps:List bI)(B:∀ p ∈ ps,Mod p)(I:1≤ps.length)(F:ps.length≤64):∃ b,(b=ae↔sy [] ps)∧Kf tab 177 [.c (.f (sl g (aX ps)))] (vb b):=by
 obtain⟨b,z⟩:∃ b:Bool,b=ae↔sy [] ps:=⟨open Classical in decide (sy [] ps),by simp⟩
 refine⟨b,z,cF rfl rfl fun H Q E=>?_⟩;have u:RH H (H++[.box [.f (sl g (aX ps))] 0,.box (List.replicate ps.length (C.f (fi 0))) 0,.box [.sl (H.length+1) 0 ps.length ps.length 0 1] 0,.box [.cl 255 [.ptr H.length 0 0,.ptr (H.length+2) 0 0,.ptr (H.length+3) 0 0]] 0]) g ps (List.replicate ps.length 0):=by
  refine⟨⟨0,by simp⟩,by simp,by simp,by simp,fun i hi=>AT hi⟩
 obtain⟨v,H',d,A,rfl,q,K,m,-⟩:=apD H rfl g ps B F ps.length 0 (by omega) _ _ [] u (by simp) rfl (fun j h=>absurd h (Nat.not_lt_zero j));rw [aro,←z]at q;have x:A=b:=by rw [Bool.eq_iff_iff];exact q
 subst x;have d:=d.eq;simp only [show((0:Nat):Int)=0 from rfl]at d;apply ai;simp;have l:bP ps.length 8=ae:=Ec (by omega) (by decide);have y:∀(t:T) (H:aj),t.g 6=vi ps.length→bl t H (.dI 1 8 [.int .i64 0] (R 6) (R 6))=aa (.c (.sl H.length 0 ps.length ps.length 0 1),H++[.box (List.replicate ps.length (C.f (fi 0))) 0]):=by
  intro t H h;have e:(cu ps.length [fi 0]).map C.f=List.replicate ps.length (C.f (fi 0)):=by simp [cu]
  simp only [bl,Bu,h,gD];rw [ba ⟨by omega,Int.le_refl _,by simpa using l,rfl⟩];rw [aW (by omega),aqI,e]
 apply ai;simp [y];apply ai;simp;apply ai;simp;apply ai;simp [bQ,d];have s:H'=H++H'.drop H.length:=by
  refine List.ext_getElem? fun i=>?_;have J:=an m.2.2.2.1;rcases Nat.lt_or_ge i H.length with h | h
  ·exact(m.2.2.2.2 i h).trans (AT h).symm
  ·refine Eq.trans ?_ (IS h).symm;rw [aqB,Nat.add_sub_cancel' h]
 refine aB (E _ _ ?_);simp;exact⟨_,s⟩
theorem NQ(g:Tg)(ps:List bI)(j:∀ p ∈ ps,Mod p)(d:1≤ps.length)(m:ps.length≤64):∃ b,(b=ae↔sy [] ps)∧bh tab 177 [.c (.f (sl g (aX ps)))]=Eq (vb b):=by
 obtain⟨b,l,h⟩:=NP g ps j d m;exact⟨b,l,h.eq⟩
def iy(S:Int→Prop)(l:Int)(f:Bool):Prop:=(f=ag∧l=0∧∀ d,¬ S d)∨(f=ae∧S l∧∀ d,S d→l≤d)
theorem iy.iff{S S':Int→Prop}{l:Int}{f:Bool}(h:iy S l f)(g:∀ d,S' d↔S d):iy S' l f:=by
 rcases h with⟨a,b,c⟩ | ⟨a,b,c⟩
 ·exact .inl ⟨a,b,fun d j=>c d ((g d).1 j)⟩
 ·exact .inr ⟨a,(g _).2 b,fun d j=>c d ((g d).1 j)⟩
theorem iy.step{S S':Int→Prop}{l x:Int}{f:Bool}(h:iy S l f)(g:∀ d,S' d↔S d∨d=x):iy S' (if f=ag∨x<l then x else l) ae:=by
 right;rcases h with⟨rfl,rfl,c⟩ | ⟨rfl,b,c⟩
 ·refine⟨rfl,by simpa using (g x).2 (.inr rfl),fun d j=>?_⟩;rcases(g d).1 j with h | rfl
  ·exact absurd h (c d)
  ·simp
 ·refine⟨rfl,?_,fun d j=>?_⟩
  ·by_cases k:x<l
   ·simpa [k]using (g x).2 (.inr rfl)
   ·simpa [k]using (g l).2 (.inl b)
  ·rcases(g d).1 j with h | rfl
   ·have:=c d h;by_cases k:x<l<;>simp [k]<;>omega
   ·by_cases k:d<l<;>simp [k];omega
def jY(ps:List bI)(n:Int)(l:List bI)(d:Int):Prop:=n≤d∧tn ps d=ae∧∃ p ∈ l,d ∈ p.head
theorem YK(g:Tg)(ps:List bI)(hP:∀ p ∈ ps,fU p=ae)(hl:ps.length≤64)(n:Int):∃ e f,iy (jY ps n ps) e f∧bh tab 176 [.c (.f (sl g (aX ps))),vi n]=Eq (.t [vi e,vb f]):=by
 have key:∃ r,(∃ e f,iy (jY ps n ps) e f∧r=.t [vi e,vb f])∧bh tab 176 [.c (.f (sl g (aX ps))),vi n] r:=by
  refine eI rfl rfl fun Q hQ=>?_;apply ai;simp;apply ai;simp;apply ak;apply ai;simp;refine bM ps.length (fun j t H'=>t.g 0=.c (.f (sl g (aX ps)))∧t.g 1=vi n∧t.g 12=.c (.f (sl g (aX ps)))∧∃ e f,t.g 6=vi e∧t.g 7=vb f∧iy (jY ps n (ps.take j)) e f) (by omega) (by decide) (by decide) (by simp) (by simp)
   ⟨by simp,by simp,by simp,0,ag,by simp,by simp,.inl ⟨rfl,rfl,fun d hd=>by obtain⟨_,_,p,hp,_⟩:=hd;simp at hp⟩⟩ ?_ ?_
  ·rintro j t H hj ⟨g0,s,b,e,f,A,B,M⟩ ha hb next
   obtain⟨p,hp⟩:=aK (ps[j]);have b9:p ∈ ps:=hp▸anc hj;obtain⟨f0,f1,p0,p1,Az,-,a8,-⟩:=fg (hP p b9);have N:=fun H:aj=>bR (H:=H) (bY ps) (dH (l:=ps) (j:=j) hj);have U:=fun H:aj=>bF (H:=H) (g:=g) (rows:=aX ps) (sz:=4) (k:=.i64) (i:=j) (by omega) (by simpa using hj);rw [←hp]at N;simp [bI.row]at N U;have b_:ps.take (j+1)=ps.take j++[p]:=by rw [aqW,By hj,hp];rfl
   refine aG ?_;apply ai;simp [b,ha,U,N];apply ai;simp;refine bM p.head.length (fun i t H'=>t.g 0=.c (.f (sl g (aX ps)))∧t.g 1=vi n∧t.g 12=.c (.f (sl g (aX ps)))∧t.g 14=vi j∧t.g 13=vi ps.length∧t.g 19=.c (.f (sl p.hg (ints p.head))) ∧
    ∃ e f,t.g 6=vi e∧t.g 7=vb f∧iy (fun d=>jY ps n (ps.take j) d∨(n≤d∧tn ps d=ae∧d ∈ p.head.take i)) e f) (by omega) (by decide) (by decide) (by simp) (by simp)
    ⟨by simp [g0],by simp [s],by simp [b],by simp [ha],by simp [hb],by simp,e,f,by simp [A],by simp [B],M.iff fun d=>by simp⟩ ?_ ?_
   ·rintro i t H hi ⟨g0,s,b,v,u,y,e,f,A,B,M⟩ J L nx;obtain⟨x,hx⟩:=aK (p.head[i]);have c_:x ∈ p.head:=hx▸anc hi;have g_:=a8 x c_;have a7:=fun H:aj=>iZ (H:=H) hi;rw [←hx]at a7;have z:=(ahM g ps (by omega) hP x (by unfold Day;omega)).eq;have W:p.head.take (i+1)=p.head.take i++[x]:=by rw [aqW,By hi,hx];rfl
    refine aG ?_;apply ai;simp [J,y,bF,hi,a7];have cG:¬ (n≤x∧tn ps x=ae)→iy (fun d=>jY ps n (ps.take j) d∨(n≤d∧tn ps d=ae∧d ∈ p.head.take (i+1))) e f:=fun a_=>M.iff fun d=>by
     rw [W,aqC,aqs];constructor
     ·rintro(h | ⟨E,F,I | rfl⟩)
      ·exact .inl h
      ·exact .inr ⟨E,F,I⟩
      ·exact absurd ⟨E,F⟩ a_
     ·rintro(h | ⟨E,F,I⟩)
      ·exact .inl h
      ·exact .inr ⟨E,F,.inl I⟩
    have O:(n≤x∧tn ps x=ae)→iy (fun d=>jY ps n (ps.take j) d∨(n≤d∧tn ps d=ae∧d ∈ p.head.take (i+1))) (if f=ag∨x<e then x else e) ae:=fun X=>M.step fun d=>by
     rw [W,aqC,aqs];constructor
     ·rintro(h | ⟨E,F,I | rfl⟩)
      ·exact .inl (.inl h)
      ·exact .inl (.inr ⟨E,F,I⟩)
      ·exact .inr rfl
     ·rintro((h | ⟨E,F,I⟩) | rfl)
      ·exact .inl h
      ·exact .inr ⟨E,F,.inl I⟩
      ·exact .inr ⟨X.1,X.2,.inr rfl⟩
    have K:∀(t:T) (H:aj) (e':Int) (f':Bool),t.g 0=.c (.f (sl g (aX ps)))→t.g 1=vi n→t.g 12=.c (.f (sl g (aX ps)))→t.g 14=vi j→t.g 13=vi ps.length→t.g 19=.c (.f (sl p.hg (ints p.head)))→t.g 21=vi i→t.g 20=vi p.head.length→t.g 6=vi e'→t.g 7=vb f'→iy (fun d=>jY ps n (ps.take j) d∨(n≤d∧tn ps d=ae∧d ∈ p.head.take (i+1))) e' f' →
      WP tab 176 ab [.code yV,.inLoop yU,.inBlock 2,.inBlock 1,.code yW,.inLoop Db,.inBlock 0,.code yX] ⟨t,[],H⟩ Q:=by
     intro t H e' f' q0 q1 d9 e_ d_ f7 f_ f8 q6 q7 qm;refine nx _ _ ?_ f_ f8;exact⟨by simp [q0],by simp [q1],by simp [d9],by simp [e_],by simp [d_],by simp [f7],e',f',by simp [q6],by simp [q7],qm⟩
    by_cases S:n≤x
    ·cases f with
     | false=>
      cases m:tn ps x with
      | false=>
       rw [m]at z;apply ai;simp [g0,s,A,B,S,z];refine aC (by simp) (aO (av ?_));exact K _ _ e ag (by simp [g0]) (by simp [s]) (by simp [b]) (by simp [v]) (by simp [u]) (by simp [y]) (by simp [J]) (by simp [L]) (by simp [A]) (by simp [B]) (cG (by simp [m]))
      | true=>
       rw [m]at z;apply ai;simp [g0,s,A,B,S,z];refine aq (by simp) (al (.inl rfl) ?_);simp;refine av ?_;exact K _ _ x ae (by simp [g0]) (by simp [s]) (by simp [b]) (by simp [v]) (by simp [u]) (by simp [y]) (by simp [J]) (by simp [L]) (by simp) (by simp) (by have:=O ⟨S,m⟩;simpa using this)
     | true=>
      by_cases Z:x<e
      ·cases m:tn ps x with
       | false=>
        rw [m]at z;apply ai;simp [g0,s,A,B,S,Z,z];refine aC (by simp) (aO (av ?_));exact K _ _ e ae (by simp [g0]) (by simp [s]) (by simp [b]) (by simp [v]) (by simp [u]) (by simp [y]) (by simp [J]) (by simp [L]) (by simp [A]) (by simp [B]) (cG (by simp [m]))
       | true=>
        rw [m]at z;apply ai;simp [g0,s,A,B,S,Z,z];refine aq (by simp) (al (.inl rfl) ?_);simp;refine av ?_;exact K _ _ x ae (by simp [g0]) (by simp [s]) (by simp [b]) (by simp [v]) (by simp [u]) (by simp [y]) (by simp [J]) (by simp [L]) (by simp) (by simp) (by have:=O ⟨S,m⟩;simpa [Z]using this)
      ·apply ai;simp [g0,s,A,B,S,Z];refine aC (by simp) (aO (av ?_));refine K _ _ e ae (by simp [g0]) (by simp [s]) (by simp [b]) (by simp [v]) (by simp [u]) (by simp [y]) (by simp [J]) (by simp [L]) (by simp [A]) (by simp [B]) ?_;cases m:tn ps x with
       | false=>exact cG (by simp [m])
       | true=>have:=O ⟨S,m⟩;simpa [Z]using this
    ·apply ai;simp [g0,s,A,B,S];refine aC (by simp) (aO (av ?_));exact K _ _ e f (by simp [g0]) (by simp [s]) (by simp [b]) (by simp [v]) (by simp [u]) (by simp [y]) (by simp [J]) (by simp [L]) (by simp [A]) (by simp [B]) (cG fun h=>S h.1)
   ·rintro t H ⟨g0,s,b,v,u,y,e,f,A,B,M⟩ - -;rw [aqS]at M;refine av (next _ _ ?_ (by simp [v]) (by simp [u]));refine⟨by simp [g0],by simp [s],by simp [b],e,f,by simp [A],by simp [B],M.iff fun d=>?_⟩;unfold jY;rw [b_];constructor
    ·rintro⟨E,F,q,Y,I⟩;rcases aqC.1 Y with Y | Y
     ·exact .inl ⟨E,F,q,Y,I⟩
     ·rw [aqs.1 Y]at I;exact .inr ⟨E,F,I⟩
    ·rintro(⟨E,F,q,Y,I⟩ | ⟨E,F,I⟩)
     ·exact⟨E,F,q,aru _ Y,I⟩
     ·exact⟨E,F,p,ar7 _ (aqs.2 rfl),I⟩
  ·rintro t H ⟨g0,s,b,e,f,A,B,M⟩ ha hb;rw [aqS]at M;apply ai;simp [A,B];refine aB (hQ _ _ _ ⟨e,f,M,rfl⟩ ?_);simp
 obtain⟨r,⟨e,f,M,rfl⟩,h⟩:=key;exact⟨e,f,M,h.eq⟩
end Go.Proofs.YtnaofdffomdmhaaGreat
namespace Go.Proofs.YtnaofdffomdmhaaGreat
open Go Km
structure vC(ps:List bI):Prop where
 l1:1≤ps.length
 l2:ps.length≤64
 mod:∀ p ∈ ps,Mod p
 prod:fC ps≤1000000
 st:dd ps≤1000000000000
theorem vC.eV{ps:List bI}(h:vC ps):∀ p ∈ ps,fU p=ae:=fun p b=>(h.mod p b).ok
def InN(ps:List bI)(n x:Int):Prop:=n≤x∧tn ps x=ae
theorem DP{ps:List bI}{x:Int}(b:0≤x):tn ps x=ae↔∀ p ∈ ps,uY p x=ae:=by
 simp [tn,hasB,b]
theorem wQ{x:Int}:∀ {l:List bI},0≤x→x<dd l→∃ p ∈ l,x<p.fr
 | [],h0,h=>by simp only [dd]at h;omega
 | q::l,h0,h=>by
  simp only [dd]at h;by_cases k:x<q.fr
  ·exact⟨q,aqv,k⟩
  ·obtain⟨p,b,e⟩:=wQ (x:=x) (l:=l) h0 (by omega);exact⟨p,aqt _ b,e⟩
theorem zT{ps:List bI}(h:vC ps){n x:Int}(j:0≤n)(l:dd ps≤x):InN ps n x↔max n (dd ps)≤x∧∀ p ∈ ps,jo p x:=by
 have h0:=mF ps;unfold InN;rw [DP (by omega)];constructor
 ·rintro⟨g,d⟩;exact⟨by omega,fun p b=>(Ai (h.mod p b) (by have:=mE b;omega)).1 (d p b)⟩
 ·rintro⟨g,d⟩;exact⟨by omega,fun p b=>(Ai (h.mod p b) (by have:=mE b;omega)).2 (d p b)⟩
theorem ahk(g:Tg)(ps:List bI)(h:vC ps)(n:Int)(J:0≤n)(W:n≤1000000000000):∃ d f q z,iy (InN ps n) d f∧(0≤d∧d≤1000001000000) ∧
  bh tab 176 [.c (.f (sl g (aX ps))),vi n]=Eq (.t [vi q,vb z]) ∧
  ((z=ae∧d=q∧f=ae)∨(z=ag∧q=0∧∃ b,bh tab 177 [.c (.f (sl g (aX ps)))]=Eq (vb b)∧((b=ag∧d=0∧f=ag)∨(b=ae∧bh tab 178 [.c (.f (sl g (aX ps))),vi n]=Eq (.t [vi d,vb f]))))):=by
 obtain⟨q,z,U,A⟩:=YK g ps h.eV h.l2 n;have Y:=mF ps;have Z:=h.st;have X:=h.prod;have u:∀ x,InN ps n x→x<dd ps→jY ps n ps x:=by
  rintro x ⟨N,H⟩ l;obtain⟨p,y,S⟩:=wQ (by omega) l;refine⟨N,H,p,y,?_⟩;have:=(DP (by omega)).1 H p y;unfold uY at this;rw [aW (by omega),decide_eq_true_eq]at this;exact this
 rcases U with⟨rfl,rfl,F⟩ | ⟨rfl,O,v⟩
 ·have B:∀ x,InN ps n x→dd ps≤x:=fun x l=>by
   rcases arB x (dd ps)with k | k
   ·exact absurd (u x l k) (F x)
   ·exact k
  have j:∀ x,InN ps n x↔max n (dd ps)≤x∧∀ p ∈ ps,jo p x:=fun x=>by
   constructor
   ·intro l;exact(zT h J (B x l)).1 l
   ·intro l;exact(zT h J (by omega)).2 l
  obtain⟨b,I,m⟩:=NQ g ps h.mod h.l1 h.l2;cases b with
  | false=>
   refine⟨0,ag,0,ag,.inl ⟨rfl,rfl,fun x l=>?_⟩,⟨by omega,by omega⟩,A,.inr ⟨rfl,rfl,ag,m,.inl ⟨rfl,rfl,rfl⟩⟩⟩;have:=I.2 (Eb (d:=x) ps [] (by simp) ((j x).1 l).2);cases this
  | true=>
   rcases af4 g ps h.mod h.l2 h.prod n _ rfl (by omega)with⟨d,⟨K,L,d3,M⟩,E⟩ | ⟨s,E⟩
   ·exact⟨d,ae,0,ag,.inr ⟨rfl,(j d).2 ⟨K,L⟩,fun x l=>M x ((j x).1 l).1 ((j x).1 l).2⟩,⟨by omega,by omega⟩,A,.inr ⟨rfl,rfl,ae,m,.inr ⟨rfl,E⟩⟩⟩
   ·exact⟨0,ag,0,ag,.inl ⟨rfl,rfl,fun x l=>s x ((j x).1 l).1 ((j x).1 l).2⟩,⟨by omega,by omega⟩,A,.inr ⟨rfl,rfl,ae,m,.inr ⟨rfl,E⟩⟩⟩
 ·obtain⟨s1,s2,p,y,Q⟩:=O;have I:=(fg (h.eV p y)).2.2.2.2.2.2.1 q Q;have:=mE y;refine⟨q,ae,q,ae,.inr ⟨rfl,⟨s1,s2⟩,fun x l=>?_⟩,⟨by omega,by omega⟩,A,.inl ⟨rfl,rfl,rfl⟩⟩;rcases arB x (dd ps)with k | k
  ·exact v x (u x l k)
  ·omega
theorem iy.join{S S1 q:Int→Prop}{l x:Int}{f m:Bool}(h1:iy S1 l f)(h2:iy q x m)(g:∀ d,S d↔S1 d∨q d):iy S (if m=ae∧(f=ag∨x<l)then x else l) (f||m):=by
 rcases h1 with⟨rfl,rfl,a⟩ | ⟨rfl,a,b⟩<;>rcases h2 with⟨rfl,rfl,c⟩ | ⟨rfl,c,e⟩
 ·refine .inl ⟨rfl,by simp,fun d j=>?_⟩;rcases(g d).1 j with h | h
  ·exact a d h
  ·exact c d h
 ·refine .inr ⟨rfl,by simpa using (g x).2 (.inr c),fun d j=>?_⟩;rcases(g d).1 j with h | h
  ·exact absurd h (a d)
  ·simpa using e d h
 ·refine .inr ⟨rfl,by simpa using (g l).2 (.inl a),fun d j=>?_⟩;rcases(g d).1 j with h | h
  ·simpa using b d h
  ·exact absurd h (c d)
 ·refine .inr ⟨rfl,?_,fun d j=>?_⟩
  ·by_cases k:x<l
   ·simpa [k]using (g x).2 (.inr c)
   ·simpa [k]using (g l).2 (.inl a)
  ·rcases(g d).1 j with h | h
   ·have:=b d h;by_cases k:x<l<;>simp [k]<;>omega
   ·have:=e d h;by_cases k:x<l<;>simp [k]<;>omega
def QH(H:aj)(n b:Int)(found:Bool):Prop:=H[0]?=aa (.box [.f (fi n)] 0)∧H[1]?=aa (.box [.f (fi b)] 0)∧H[2]?=aa (.box [.f (.bool found)] 0)∧H[3]?=aa (.eO ae) ∧
 ∃ s:T,H[4]?=aa (.lp 107 s [P.nat 12] dg cN .ready ab 3)∧s.g 3=.c (.ptr 0 0 0)∧s.g 6=.c (.ptr 1 0 0)∧s.g 7=.c (.ptr 2 0 0)
end Go.Proofs.YtnaofdffomdmhaaGreat
namespace Go.Proofs.YtnaofdffomdmhaaGreat
open Go Km
theorem jb{k:IntKind}{a b:Int}(h:0≤a)(d:b≠0):de .rem (.c (.f (.int k a))) (.c (.f (.int k b)))=aa (.c (.f (.int k (a % b)))):=by
 rw [gI d,Int.tmod_eq_emod_of_nonneg h]
def lF:FC:=.fs [.fs [.fs [.au,fi 0,fi 1,.fs [fi 0] 1] 1] 1,fi 0,fi 1440] 1
def po(af:Int)(d:Tg)(q:List (Int × Int))(b:Tg)(p:List Int):ct:=⟨10,0,af,fi 0,.fs [fi 3] 1,fi (-1),.au,fi 0,.au,fi 0,.au,lF,.au,d,q,b,p⟩
def cJ(af b:Int):List ct:=[po af .fs [(1,b)] .nil [],po af .nil [] .nil [],po af .nil [] .fs [0,1]]
def Z5(af b:Int):V:=.c (.f (sl .fs (rows (cJ af b))))
set_option maxRecDepth 10000
theorem Z6(a q:Int)(j:0≤a)(a1:a≤255)(s:0≤q)(u:q≤65535):bh tab 31 [.c (.f (.int .u8 a)),.c (.f (.int .u16 q))]=Eq (Z5 (a % 40) (q % 3000)):=bh.eq (by
 refine bS rfl rfl fun Q l=>?_;have g:=jb (k:=.u8) (b:=40) j (by decide);have d:=jb (k:=.i64) (b:=3000) s (by decide);apply ai;simp;apply ai;simp;apply ai;simp;apply ai;simp [g,aV (n:=a % 40)];refine ak (eT (.inl rfl) ?_ ?_)
 case _=>
  simp;apply ai;simp [aV (n:=q),d];apply ai;simp;apply ai;simp;refine aB (l _ _ ?_);simp [iA,cC,deep,kI,bg,Z5,cJ,rows,ct.row,po,lF,sl,Tg.fc,fR,ints]
 ·intro c m;rw [aqs.1 m];refine⟨by decide,_,rfl,.inl ⟨by decide,?_⟩⟩;simp [fA,V.beq,gQ,C.beq,FC.beq])
def u8s(l:List Int):List C:=l.map fun x=>.f (.int .u8 x)
theorem aaz(l s u m d g q j:Int)(h:∀ x ∈ [l,s,u,m,d,g,q,j],0≤x∧x≤255) :
  bh tab 37 [.a (u8s [l,s,u,m,d,g,q,j])]=Eq (.a ((qJ (1+l % 7) (s % 3) (u % 3) (1+m % 12) (1+d % 6) (g % (1+d % 6)) (20*(q % 60)) (10+10*(j % 30))).row.map .f)):=bh.eq (by
 have b0:=h l (by simp);have b1:=h s (by simp);have v:=h u (by simp);have y:=h m (by simp);have z:=h d (by simp);have A:=h g (by simp);have B:=h q (by simp);have E:=h j (by simp);refine bS rfl rfl fun Q O=>?_;have F:=jb (k:=.u8) (b:=7) b0.1 (by decide);have H:=jb (k:=.u8) (b:=3) b1.1 (by decide);have I:=jb (k:=.u8) (b:=3) v.1 (by decide);have J:=jb (k:=.u8) (b:=12) y.1 (by decide);have K:=jb (k:=.u8) (b:=6) z.1 (by decide);have L:=jb (k:=.i64) (b:=1+d % 6) A.1 (by omega);have M:=jb (k:=.u8) (b:=60) B.1 (by decide);have N:=jb (k:=.u8) (b:=30) E.1 (by decide);have S:=Int.emod_nonneg g (show 1+d % 6≠0 by omega);have U:=Int.emod_lt_of_pos g (show 0<1+d % 6 by omega);apply ai;simp [u8s];apply ai;simp [K,aV (n:=d % 6),aV (n:=1+d % 6)];apply ai;simp [aV (n:=g),L];apply ai;simp [N,M,aV (n:=j % 30),aV (n:=10*(j % 30)),aV (n:=10+10*(j % 30)),aV (n:=q % 60),aV (n:=20*(q % 60))];apply ai;simp [F,H,I,J,aV (n:=l % 7),aV (n:=1+l % 7),aV (n:=s % 3),aV (n:=u % 3),aV (n:=m % 12),aV (n:=1+m % 12)];refine aB (O _ _ ?_);simp [iA,cC,deep,kI,bg,qJ,aA.row,aH,aL,cA.row,aI,dr.row,aX,bI.row,ints,sl,Tg.fc])
end Go.Proofs.YtnaofdffomdmhaaGreat
namespace Go.Proofs.YtnaofdffomdmhaaGreat
open Go Km
theorem apr(args:List V)(H:aj)(h:tab.get e9=ab):tab.rn e9 args H=Km.rn e9 args H:=by
 show(match tab.get e9 with | some _=>ab | none=>Km.rn e9 args H)=_;rw [h]
abbrev RK(f:Nat)(args:List V)(r:V):Prop:=bq tab 400 60 (.fn f) args .e 0 (isR r)
theorem jT{f:Nat}{args:List V}{r:V}(h:RK f args r=(r=r)):bh tab f args=Eq r:=(Z1 apr h).eq
theorem qR{b:Type}{L:List b}{f:Nat}{args:b→List V}{res:b→V}(h:L.map (fun x=>RK f (args x) (res x))=L.map fun x=>(res x=res x)){x:b}(d:x ∈ L):bh tab f (args x)=Eq (res x):=
 jT (arx.1 h x d)
def mx(n p:Int):V:=.a [.f (.fs [.fs [.au,fi 0,fi n,.fs [fi p] 1] 1] 1)]
def nv:V:=.a [.f .au]
def nI:V:=.a [.f (.fs [.fs [.es,fi 0,fi 1,.fs [fi 0] 1] 1] 1)]
def fam:List (Int × Int):=[(1,0),(2,0),(2,1),(3,0),(3,1),(3,2),(4,0),(4,1),(4,2),(4,3),(5,0),(5,1),(5,2),(5,3),(5,4),(6,0),(6,1),(6,2),(6,3),(6,4),(6,5)]
def yx(n p:Int):Prop:=1≤n∧n≤6∧0≤p∧p<n
theorem iC{n p:Int}(h:yx n p):(n,p) ∈ fam:=by
 obtain⟨b,d,g,j⟩:=h;obtain rfl | rfl | rfl | rfl | rfl | rfl:n=1∨n=2∨n=3∨n=4∨n=5∨n=6:=by omega
 all_goals obtain rfl | rfl | rfl | rfl | rfl | rfl:p=0∨p=1∨p=2∨p=3∨p=4∨p=5:=by omega
 all_goals first | omega | simp [fam]
def NV(n p:Int):Int:=if p=0 then n-1 else p-1
theorem ke:fam.map (fun x=>(RK 106 [mx x.1 x.2,vi (-1)] (.t [mx x.1 (NV x.1 x.2),vi 0]),RK 214 [mx x.1 x.2] (.t [.a [.f .es,.f (fi 0),.f (fi x.1),.f (.fs [fi x.2] 1)],vi 0]),RK 210 [mx x.1 x.2,nI] (.t [nv,vi 0]),RK 210 [mx x.1 x.2,nv] (.t [mx x.1 x.2,vi 0]),RK 58 [mx x.1 x.2] (vb ag),RK 211 [mx x.1 x.2,vi 0] (.t [vi x.2,vb ae]))) =
  fam.map fun x=>((.t [mx x.1 (NV x.1 x.2),vi 0]:V)=.t [mx x.1 (NV x.1 x.2),vi 0],(.t [.a [.f .es,.f (fi 0),.f (fi x.1),.f (.fs [fi x.2] 1)],vi 0]:V)=.t [.a [.f .es,.f (fi 0),.f (fi x.1),.f (.fs [fi x.2] 1)],vi 0],(.t [nv,vi 0]:V)=.t [nv,vi 0],(.t [mx x.1 x.2,vi 0]:V)=.t [mx x.1 x.2,vi 0],vb ag=vb ag,(.t [vi x.2,vb ae]:V)=.t [vi x.2,vb ae]):=by kernel_rfl
end Go.Proofs.YtnaofdffomdmhaaGreat
namespace Go.Proofs.YtnaofdffomdmhaaGreat
open Go Km
def pE:V:=.a [.f .es,.f (fi 0),.f (fi 1),.f (.fs [fi 0] 1)]
def D6:V:=.a [.f (fi 0),.f (.fs [fi 3] 1),.f (fi (-1)),.f .au,.f (fi 0),.f .au,.f (fi 0),.f .au,.f lF,.f .au]
def Zh:List (Nat × Nat):=([1,2,3,4,5,6,10,12,15,20,30,60]:List Nat).flatMap fun d=>[(d,1),(d,2),(d,3),(d,4),(d,5),(d,6)]
theorem tu:([RK 290 [pE] nI,RK 57 [nI,mx 1 0] (.t [nI,vi 0]),RK 106 [mx 1 0,vi 0] (.t [mx 1 0,vi 0]),RK 106 [nI,vi 0] (.t [nI,vi 0]),RK 284 [nv,nI] (.t [nI,vi 0]),RK 284 [nI,nv] (.t [nI,vi 0]),RK 284 [nv,nv] (.t [nv,vi 0]),RK 287 [.c (.f .au)] nv,RK 190 [D6] (vi 0)],
  (List.range 60).map (fun k=>RK 276 [vi (20*k:Nat)] (.t [vi 0,vi (20*k:Nat)])),Zh.map fun x=>RK 215 [vi (7*x.1:Nat),vi (x.2:Nat)] (.t [vi (7*Nat.lcm x.1 x.2:Nat),vi 0])) =
 ([nI=nI,(.t [nI,vi 0]:V)=.t [nI,vi 0],(.t [mx 1 0,vi 0]:V)=.t [mx 1 0,vi 0],(.t [nI,vi 0]:V)=.t [nI,vi 0],(.t [nI,vi 0]:V)=.t [nI,vi 0],(.t [nI,vi 0]:V)=.t [nI,vi 0],(.t [nv,vi 0]:V)=.t [nv,vi 0],nv=nv,vi 0=vi 0],
  (List.range 60).map (fun k=>((.t [vi 0,vi (20*k:Nat)]:V)=.t [vi 0,vi (20*k:Nat)])),Zh.map fun x=>((.t [vi (7*Nat.lcm x.1 x.2:Nat),vi 0]:V)=.t [vi (7*Nat.lcm x.1 x.2:Nat),vi 0])):=by kernel_rfl
end Go.Proofs.YtnaofdffomdmhaaGreat
namespace Go.Proofs.YtnaofdffomdmhaaGreat
open Go Km
def com(x y:Int × Int):Bool:=(List.range 60).any fun d=>decide ((d:Int) % x.1=x.2)&&decide ((d:Int) % y.1=y.2)
def inc:List ((Int × Int) × Int × Int):=fam.flatMap fun x=>(fam.filter fun y=>!com x y).map fun y=>(x,y)
theorem afh:inc.map (fun z=>RK 57 [mx z.1.1 z.1.2,mx z.2.1 z.2.2] (.t [nv,vi 0]))=inc.map fun _=>((.t [nv,vi 0]:V)=.t [nv,vi 0]):=by kernel_rfl
theorem aaO:(List.range 60).map (fun k=>RK 282 [.a [.f (fi 0),.f (.fs [fi 3] 1),.f (fi (-1)),.f .au,.f (fi 0),.f .au,.f (fi 0),.f .au],vi (20*k:Nat)] (.t [.c (.f (.fs [fi 0,.es,fi 0,fi 1,.fs [fi 0] 1] 1)),vi 0]))=(List.range 60).map fun _=>((.t [.c (.f (.fs [fi 0,.es,fi 0,fi 1,.fs [fi 0] 1] 1)),vi 0]:V)=.t [.c (.f (.fs [fi 0,.es,fi 0,fi 1,.fs [fi 0] 1] 1)),vi 0]):=by kernel_rfl
theorem vR:bh tab 58 [nv]=Eq (vb ae):=jT (by kernel_rfl)
theorem ZF:bh tab 211 [nv,vi 0]=Eq (.t [vi 0,vb ag]):=jT (by kernel_rfl)
end Go.Proofs.YtnaofdffomdmhaaGreat
namespace Go.Proofs.YtnaofdffomdmhaaGreat
open Go Km
section
variable{n p:Int}(h:yx n p)
include h
theorem aag:bh tab 106 [mx n p,vi (-1)]=Eq (.t [mx n (NV n p),vi 0]):=jT (aqN (arx.1 ke _ (iC h))).1
theorem af0:bh tab 214 [mx n p]=Eq (.t [.a [.f .es,.f (fi 0),.f (fi n),.f (.fs [fi p] 1)],vi 0]):=jT (aqN (aqN (arx.1 ke _ (iC h))).2).1
theorem Nw:bh tab 210 [mx n p,nI]=Eq (.t [nv,vi 0]):=jT (aqN (aqN (aqN (arx.1 ke _ (iC h))).2).2).1
theorem Nx:bh tab 210 [mx n p,nv]=Eq (.t [mx n p,vi 0]):=jT (aqN (aqN (aqN (aqN (arx.1 ke _ (iC h))).2).2).2).1
theorem YM:bh tab 58 [mx n p]=Eq (vb ag):=jT (aqN (aqN (aqN (aqN (aqN (arx.1 ke _ (iC h))).2).2).2).2).1
theorem agk:bh tab 211 [mx n p,vi 0]=Eq (.t [vi p,vb ae]):=jT (aqN (aqN (aqN (aqN (aqN (arx.1 ke _ (iC h))).2).2).2).2).2
end
theorem ajL{n p m q:Int}(h:yx n p)(b:yx m q)(d:com (n,p) (m,q)=ag):bh tab 57 [mx n p,mx m q]=Eq (.t [nv,vi 0]):=
 qR (x:=((n,p),(m,q))) afh (by
  unfold inc;exact arQ.2 ⟨(n,p),iC h,aqJ.2 ⟨(m,q),List.mem_filter.2 ⟨iC b,by rw [d];rfl⟩,rfl⟩⟩)
theorem afu{n p m q:Int}(h:com (n,p) (m,q)=ae):∃ d:Int,0≤d∧d<60∧d % n=p∧d % m=q:=by
 obtain⟨d,b,h⟩:=List.any_eq_true.1 h;simp only [If,decide_eq_true_eq]at h;exact⟨d,by omega,by have:=arX.1 b;omega,h⟩
theorem ahm{k:Nat}(b:k<60):bh tab 282 [.a [.f (fi 0),.f (.fs [fi 3] 1),.f (fi (-1)),.f .au,.f (fi 0),.f .au,.f (fi 0),.f .au],vi (20*k:Nat)]=Eq (.t [.c (.f (.fs [fi 0,.es,fi 0,fi 1,.fs [fi 0] 1] 1)),vi 0]):=qR aaO (arX.2 b)
theorem afL(m r t z n p mi le:Int):Fix (qJ m r t z n p mi le):=by
 unfold Fix;exact(pe (m:=400) (d:=60) (by kernel_rfl)).eq
end Go.Proofs.YtnaofdffomdmhaaGreat
namespace Km
open Go
theorem Kp.tr{H K L:aj}(h:Kp H K)(d:Kp K L):Kp H L:=⟨Nat.le_trans h.1 d.1,fun b l=>(d.2 b (Nat.lt_of_lt_of_le l h.1)).trans (h.2 b l)⟩
theorem Kp.get{H K:aj}(h:Kp H K){i:Nat}{y:bo}(hi:H[i]?=aa y):K[i]?=aa y:=by rw [h.2 i (an hi)];exact hi
theorem Kp.kX{H K:aj}(h:Kp H K){i:Nat}(hi:H.length≤i)(x:bo):Kp H (K.set i x):=⟨by simpa using h.1,fun b l=>by rw [AI (by omega)];exact h.2 b l⟩
end Km
namespace Go.Proofs.YtnaofdffomdmhaaGreat
open Go Km
def E1:FC:=.fs [.fs [.es,fi 0,fi 1,.fs [fi 0] 1] 1] 1
def S1:FC:=.fs [.fs [.au,fi 0,fi 1,.fs [fi 0] 1] 1] 1
def dS:List FC:=[fi 0,.fs [fi 3] 1,fi (-1),.au,fi 0,.au,fi 0,.au,lF,.au]
theorem fI:bh tab 290 [pE]=Eq nI∧bh tab 57 [nI,mx 1 0]=Eq (.t [nI,vi 0])∧bh tab 106 [mx 1 0,vi 0]=Eq (.t [mx 1 0,vi 0])∧bh tab 106 [nI,vi 0]=Eq (.t [nI,vi 0])∧bh tab 284 [nv,nI]=Eq (.t [nI,vi 0])∧bh tab 284 [nI,nv]=Eq (.t [nI,vi 0])∧bh tab 284 [nv,nv]=Eq (.t [nv,vi 0])∧bh tab 287 [.c (.f .au)]=Eq nv∧bh tab 190 [D6]=Eq (vi 0):=by
 have h:=(aqN tu).1;simp only [List.cons.injEq,and_true]at h;obtain⟨b,d,g,j,l,m,q,s,u⟩:=h;have t:=fun {f:Nat} {a:List V} {r:V} (h:RK f a r=True)=>jT (h.trans (eq_true rfl).symm);exact⟨t b,t d,t g,t j,t l,t m,t q,t s,t u⟩
theorem aav{k:Nat}(b:k<60):bh tab 276 [vi (20*k:Nat)]=Eq (.t [vi 0,vi (20*k:Nat)]):=qR (aqN (aqN tu).2).1 (arX.2 b)
theorem akq{x:Nat × Nat}(h:x ∈ Zh):bh tab 215 [vi (7*x.1:Nat),vi (x.2:Nat)]=Eq (.t [vi (7*Nat.lcm x.1 x.2:Nat),vi 0]):=qR (aqN (aqN tu).2).2 h
theorem akw:bh tab 210 [mx 1 0,nv]=Eq (.t [mx 1 0,vi 0]):=jT (aqN (aqN (aqN (aqN (arx.1 ke (1,0) (by simp [fam]))).2).2).2).1
theorem am9{H:aj}(s:H[0]?=aa (.box (dS.map .f) 0)):∃ r H',Ev tab (.fn 286) [.a [.f S1],.c (.ptr 0 0 0)] H r H'∧(r=.t [.a [.f S1],vi 0]∧Kp H H'):=by
 refine cB rfl rfl fun Q q=>?_;have d:=fI.2.2.2.2.2.2.2.1;have j:=akw;have u:∀ K:aj,Kp H K→aU K ab (.c (.ptr 0 9 0))=aa (.c (.f .au)):=fun K b=>by simp [aU,aF,b.get s,dS]
 apply ai;simp;have b:=Kp.push H [bo.box [C.f S1] 0,bo.box [C.f FC.au] 0];have l:(H++[bo.box [C.f S1] 0,bo.box [C.f FC.au] 0])[H.length]?=aa (.box [.f S1] 0):=by simp
 have g:(H++[bo.box [C.f S1] 0,bo.box [C.f FC.au] 0])[H.length+1]?=aa (.box [.f .au] 0):=by simp
 generalize H++[bo.box [C.f S1] 0,bo.box [C.f FC.au] 0]=K at b l g ⊢;have v:cZ K (.ptr (H.length+1) 0 0) [.f S1]=aa (K.set (H.length+1) (.box [.f S1] 0)):=by simp [cZ,g,over]
 have m:aU K (aa 1) (.c (.ptr H.length 0 0))=aa (.a [.f S1]):=by simp [aU,aF,l,aT]
 apply ai;simp only [nv]at d;change bh tab 287 _=_ at d;change bh tab 210 [.a [.f S1],.a [.f .au]]=Eq (.t [.a [.f S1],vi 0])at j;simp [m,u K b,d,j,v,-az,-bf];refine aB (q _ _ _ rfl ?_ ⟨rfl,b.kX (by omega) _⟩);simp [Km.results,bg,an g,aT]
theorem am0:bh tab 288 [vi 0]=Eq (.c (.f (.fn 354 [.fp [fi 0] 0]))):=bh.eq (by
 refine bS rfl rfl fun Q b=>?_;apply ai;simp;apply ai;simp;refine aB (b _ _ ?_);simp [deep])
theorem ahE{H:aj}{s:FC}(h:bh tab 106 [.a [.f s],vi 0]=Eq (.t [.a [.f s],vi 0])):∃ r H',Ev tab (.fn 354) [.a [.f s],.c (.f (.fp [fi 0] 0))] H r H'∧(r=.t [.a [.f s],vi 0]∧Kp H H'):=by
 refine cB rfl rfl fun Q l=>?_;apply ai;simp;have d:=Kp.push H [bo.box [C.f s] 0,bo.box [C.f FC.au] 0];have g:(H++[bo.box [C.f s] 0,bo.box [C.f FC.au] 0])[H.length]?=aa (.box [.f s] 0):=by simp
 have b:(H++[bo.box [C.f s] 0,bo.box [C.f FC.au] 0])[H.length+1]?=aa (.box [.f .au] 0):=by simp
 generalize H++[bo.box [C.f s] 0,bo.box [C.f FC.au] 0]=K at d g b ⊢;have m:cZ K (.ptr (H.length+1) 0 0) [.f s]=aa (K.set (H.length+1) (.box [.f s] 0)):=by simp [cZ,b,over]
 have j:aU K (aa 1) (.c (.ptr H.length 0 0))=aa (.a [.f s]):=by simp [aU,aF,g,aT]
 change bh tab 106 _=_ at h;apply ai;simp [j,mW,h,m,-az,-bf];refine aB (l _ _ _ rfl ?_ ⟨rfl,d.kX (by omega) _⟩);simp [Km.results,bg,an b,aT]
theorem am'{H:aj}{b:Nat}(u:H[b]?=aa (.box [.f (fi 0),.f .es,.f (fi 0),.f (fi 1),.f (.fs [fi 0] 1)] 0)):∃ r H',Ev tab (.fn 289) [.a [.f S1],.c (.ptr b 0 0)] H r H'∧(r=.t [.a [.f E1],vi 0]∧Kp H H'):=by
 refine cB rfl rfl fun Q s=>?_;have j:=fI.1;have l:=fI.2.1;have v:∀ K:aj,Kp H K→aU K (aa 4) (.c (.ptr b 1 0))=aa (.a [.f .es,.f (fi 0),.f (fi 1),.f (.fs [fi 0] 1)]):=fun K d=>by simp [aU,aF,d.get u,aT]
 apply ai;simp;have d:=Kp.push H [bo.box [C.f S1] 0,bo.box [C.f FC.au] 0];have m:(H++[bo.box [C.f S1] 0,bo.box [C.f FC.au] 0])[H.length]?=aa (.box [.f S1] 0):=by simp
 have g:(H++[bo.box [C.f S1] 0,bo.box [C.f FC.au] 0])[H.length+1]?=aa (.box [.f .au] 0):=by simp
 generalize H++[bo.box [C.f S1] 0,bo.box [C.f FC.au] 0]=K at d m g ⊢;have x:cZ K (.ptr (H.length+1) 0 0) [.f E1]=aa (K.set (H.length+1) (.box [.f E1] 0)):=by simp [cZ,g,over]
 have q:aU K (aa 1) (.c (.ptr H.length 0 0))=aa (.a [.f S1]):=by simp [aU,aF,m,aT]
 change bh tab 290 [.a [.f .es,.f (fi 0),.f (fi 1),.f (.fs [fi 0] 1)]]=Eq (.a [.f E1])at j;change bh tab 57 [.a [.f E1],.a [.f S1]]=Eq (.t [.a [.f E1],vi 0])at l;apply ai;simp [q,v K d,j,l,x,-az,-bf];refine aB (s _ _ _ rfl ?_ ⟨rfl,d.kX (by omega) _⟩);simp [Km.results,bg,an g,aT]
theorem ahG{H:aj}{b:Nat}{u v w:FC}(q:H[b]?=aa (.box [.f u] 0))(h:bh tab 284 [.a [.f u],.a [.f v]]=Eq (.t [.a [.f w],vi 0])):∃ r H',Ev tab (.fn 283) [.a [.f v],.c (.ptr b 0 0)] H r H'∧(r=.t [.a [.f w],vi 0]∧Kp H H'):=by
 refine cB rfl rfl fun Q m=>?_;have s:∀ K:aj,Kp H K→aU K (aa 1) (.c (.ptr b 0 0))=aa (.a [.f u]):=fun K d=>by simp [aU,aF,d.get q,aT]
 apply ai;simp;have d:=Kp.push H [bo.box [C.f v] 0,bo.box [C.f FC.au] 0];have j:(H++[bo.box [C.f v] 0,bo.box [C.f FC.au] 0])[H.length]?=aa (.box [.f v] 0):=by simp
 have g:(H++[bo.box [C.f v] 0,bo.box [C.f FC.au] 0])[H.length+1]?=aa (.box [.f .au] 0):=by simp
 generalize H++[bo.box [C.f v] 0,bo.box [C.f FC.au] 0]=K at d j g ⊢;have x:cZ K (.ptr (H.length+1) 0 0) [.f w]=aa (K.set (H.length+1) (.box [.f w] 0)):=by simp [cZ,g,over]
 have l:aU K (aa 1) (.c (.ptr H.length 0 0))=aa (.a [.f v]):=by simp [aU,aF,j,aT]
 change bh tab 284 _=_ at h;apply ai;simp [l,s K d,h,x,-az,-bf];refine aB (m _ _ _ rfl ?_ ⟨rfl,d.kX (by omega) _⟩);simp [Km.results,bg,an g,aT]
theorem uC{cs:List C}{k:Nat}{x:C}(h:cs[k]?=aa x):aT ab (cs.drop k)=aa (.c x):=by
 have b:=(BY.1 h).1;have e:=By b;rw [h]at e;rw [apw b,←asg e];rfl
theorem zA{H:aj}{b:Nat}(cs:List C)(d:List FC)(e:d.length=cs.length+1)(c:cs.length≤100)(F:H[b]?=aa (.box cs 0))
  (step:∀(j:Nat) (J:j<cs.length) (K:aj),Kp H K→∃ f M r q,bQ (.c cs[j]) [.a [.f (d[j]'(by omega))]]=aa (f,M)∧Ev tab f M K r q∧(r=.t [.a [.f (d[j+1]'(by omega))],vi 0]∧Kp K q)) :
  ∃ r H',Ev tab (.fn 285) [.a [.f (d[0]'(by omega))],.c (.sl b 0 cs.length cs.length 0 1)] H r H'∧(r=.t [.a [.f (d[cs.length]'(by omega))],vi 0]∧Kp H H'):=by
 refine cB rfl rfl fun Q Y=>?_;have Z:=an F;have k:∀ K:aj,Kp H K→∀ j:Nat,(h:j<cs.length)→bA K 1 ab (.c (.sl b 0 cs.length cs.length 0 1)) (vi j)=aa (.c (.ptr b j 0))∧aU K ab (.c (.ptr b j 0))=aa (.c cs[j]):=fun K x j h=>by
  have g:=x.get F;refine⟨?_,?_⟩
  ·simp [bA,show gD (vi (j:Int))=aa (j:Int) from rfl,g,h]
  ·rw [az,g];exact uC (By h)
 apply ai;simp;have x:=Kp.push H [bo.box [C.f (d[0]'(by omega))] 0,bo.box [C.f FC.au] 0];have U:(H++[bo.box [C.f (d[0]'(by omega))] 0,bo.box [C.f FC.au] 0])[H.length]?=aa (.box [.f (d[0]'(by omega))] 0):=by simp
 have W:(H++[bo.box [C.f (d[0]'(by omega))] 0,bo.box [C.f FC.au] 0])[H.length+1]?=aa (.box [.f .au] 0):=by simp
 generalize H++[bo.box [C.f (d[0]'(by omega))] 0,bo.box [C.f FC.au] 0]=X at x U W ⊢;apply ak;apply ai;have len:∀ K:aj,Kp H K→bu K (.sl b 0 cs.length cs.length 0 1)=aa cs.length:=fun K x=>by simp [bu,x.get F]
 simp [len X x];refine bM cs.length (fun j t K=>t.g 1=.c (.sl b 0 cs.length cs.length 0 1)∧t.g 10=.c (.sl b 0 cs.length cs.length 0 1)∧t.g 2=.c (.ptr H.length 0 0)∧t.g 4=.c (.ptr (H.length+1) 0 0)∧Kp H K∧(∀ h:j<d.length,K[H.length]?=aa (.box [.f d[j]] 0))∧K[H.length+1]?=aa (.box [.f .au] 0)) (by omega) (by decide) (by decide) (by simp) (by simp)
  ⟨by simp,by simp,by simp,by simp,x,fun _=>U,W⟩ ?_ ?_
 ·rintro j t K J ⟨N,s,z,B,A,m,E⟩ O g next
  obtain⟨i,n⟩:=k K A j J;have m:=m (by omega);obtain⟨f,as',r,q,a,I,rfl,u⟩:=step j J K A;have I:=I.eq;have L:aU K (aa 1) (.c (.ptr H.length 0 0))=aa (.a [.f (d[j]'(by omega))]):=by simp [aU,aF,m,aT]
  have S:=u.get m;have p:=u.get E;refine aG ?_;apply ai;simp [s,O,i,n,-az];apply ai;simp [z,L,a,I,-az];obtain⟨y,v⟩:=aK (q++[bo.box [.f (d[j+1]'(by omega))] 0]:aj);have w:y[q.length]?=aa (.box [.f (d[j+1]'(by omega))] 0):=by rw [v];simp
  have l:Kp q y:=by rw [v];exact Kp.push _ _
  rw [←v];apply ak;apply ai;simp;refine bp (by simp) ?_;have o:aU y (aa 1) (.c (.ptr q.length 0 0))=aa (.a [.f (d[j+1]'(by omega))]):=by simp [aU,aF,w,aT]
  have s2:cZ y (.ptr H.length 0 0) [.f (d[j+1]'(by omega))]=aa (y.set H.length (.box [.f (d[j+1]'(by omega))] 0)):=by simp [cZ,l.get S,over]
  refine al (.inl rfl) ?_;simp [z,o,s2,-az,-bf];refine av (next _ _ ⟨by simp [N],by simp [s],by simp [z],by simp [B],((A.tr u).tr l).kX (by omega) _,fun _=>IN (an (l.get S)),?_⟩ (by simp [O]) (by simp [g]));rw [AI (by omega)];exact l.get p
 ·rintro t K ⟨N,s,z,B,A,m,E⟩ - -;have m:=m (by omega);have L:aU K (aa 1) (.c (.ptr H.length 0 0))=aa (.a [.f (d[cs.length]'(by omega))]):=by simp [aU,aF,m,aT]
  have sn:cZ K (.ptr (H.length+1) 0 0) [.f (d[cs.length]'(by omega))]=aa (K.set (H.length+1) (.box [.f (d[cs.length]'(by omega))] 0)):=by simp [cZ,E,over]
  apply ai;simp [z,B,L,sn,-az,-bf];refine aB (Y _ _ _ rfl ?_ ⟨rfl,A.kX (by omega) _⟩);simp [Km.results,bg,B,an E,aT]
end Go.Proofs.YtnaofdffomdmhaaGreat
namespace Go.Proofs.YtnaofdffomdmhaaGreat
open Go Km
theorem zI(mi le:Int):bh tab 278 [.a (dS.map .f),vi mi,vi le]=Eq (.c (.f (.fn 340 [.fp dS 0,.fp [fi mi] 0,.fp [fi le] 0]))):=bh.eq (by
 refine bS rfl rfl fun Q b=>?_;apply ai;simp [dS];apply ai;simp;refine aB (b _ _ ?_);simp [deep,dS])
theorem zH{bb:Nat}{H:aj}(mi le:Int)(S:0≤mi)(c:mi≤1440)(Y:0≤le)(Z:le≤20000)(P:aj→Prop)
  (F:¬ mi+le≤1440→∀ K,Kp H K→P K) (W:mi+le≤1440→∀ K,Kp H K→∃ A,Ev tab (.yield bb) [.a [.f S1,.f (fi 0),.f (fi 1440)]] K (vb ae) A∧P A) :
  ∃ r H',Ev tab (.fn 340) [.c (.yl bb),.c (.f (.fp dS 0)),.c (.f (.fp [fi mi] 0)),.c (.f (.fp [fi le] 0))] H r H'∧(r=.t []∧P H'):=by
 refine cB rfl rfl fun Q U=>?_;have s:∀ K:aj,bu K (.f lF)=aa 1:=fun K=>rfl;have lo:∀ K:aj,aU K ab (.c (.f (.fp dS 8)))=aa (.c (.f lF)):=fun K=>rfl;have v:∀ K:aj,aU K ab (.c (.f (.fp [fi mi] 0)))=aa (vi mi):=fun K=>rfl;have u:∀ K:aj,aU K ab (.c (.f (.fp [fi le] 0)))=aa (vi le):=fun K=>rfl;apply ai;simp [lo,s];refine bM 1 (fun j t K=>t.g 0=.c (.yl bb)∧t.g 2=.c (.f (.fp [fi mi] 0))∧t.g 3=.c (.f (.fp [fi le] 0))∧t.g 8=.c (.f lF)∧(j=0→Kp H K)∧(j=1→P K)) (by omega) (by decide) (by decide) (by simp) (by simp) ⟨by simp,by simp,by simp,by simp,fun _=>⟨aft _,fun _ _=>rfl⟩,by omega⟩ ?_ ?_
 ·rintro j t K a ⟨g0,l,m,x,B,-⟩ y J next
  obtain rfl:j=0:=by omega
  have B:=B rfl;have L:bA K 3 ab (.c (.f lF)) (vi ((0:Nat):Int))=aa (.c (.f (.fp [S1,fi 0,fi 1440] 0))):=rfl;have X:aU K (aa 3) (.c (.f (.fp [S1,fi 0,fi 1440] 0)))=aa (.a [.f S1,.f (fi 0),.f (fi 1440)]):=rfl;refine aG ?_;apply ai;simp only [Int.ofNat_zero,Int.natCast_zero]at L y;simp [x,y,L,X];obtain⟨g,b⟩:=aK (K++[bo.box [.f S1,.f (fi 0),.f (fi 1440)] 0]:aj);have I:g[K.length]?=aa (.box [.f S1,.f (fi 0),.f (fi 1440)] 0):=by rw [b];simp
  have q:Kp H g:=B.tr (by rw [b];exact Kp.push _ _);rw [←b];have M:aU g ab (.c (.ptr K.length 1 0))=aa (vi 0):=by simp [aU,aF,I]
  have N:aU g ab (.c (.ptr K.length 2 0))=aa (vi 1440):=by simp [aU,aF,I]
  have O:aU g (aa 3) (.c (.ptr K.length 0 0))=aa (.a [.f S1,.f (fi 0),.f (fi 1440)]):=by simp [aU,aF,I,aT]
  apply ak;refine al (.inl rfl) ?_;by_cases z:mi+le≤1440
  ·obtain⟨A,d,E⟩:=W z g q;have d:=d.eq;simp [g0,l,m,M,N,O,v,u,S,aV (n:=mi+le),z,d,-az];exact aC (by simp) (aO (av (next _ _ ⟨by simp [g0],by simp [l],by simp [m],by simp [x],by omega,fun _=>E⟩ (by simp [y]) (by simp [J]))))
  ·simp [g0,l,m,M,N,O,v,u,S,aV (n:=mi+le),z,-az];exact aC (by simp) (aO (av (next _ _ ⟨by simp [g0],by simp [l],by simp [m],by simp [x],by omega,fun _=>F z _ q⟩ (by simp [y]) (by simp [J]))))
 ·rintro t K ⟨g0,l,m,x,-,E⟩ - -;exact cD (U _ _ _ rfl rfl ⟨rfl,E rfl⟩)
end Go.Proofs.YtnaofdffomdmhaaGreat
namespace Go.Proofs.YtnaofdffomdmhaaGreat
open Go Km
theorem xM{tab:TB}{fn i:Nat}{u:Option Nat}{k:List cU}{ds:List dA}{Q:Option aE→St→Prop}{a b c x:Nat}{body:aE}{t:T}{H:aj}(N:Nat)(I:Nat→T→List dA→aj→Prop)(K:N≤9223372036854775807)(A:a≠b)(E:x≠b)
  (l:t.g a=vi 0) (m:t.g b=vi N) (h0:I 0 t ds H)
  (step:∀ j t ds H,j<N→I j t ds H→t.g a=vi j→t.g b=vi N →
   (∀ v d H',I (j+1) ((v.s x (vi (j+1:Nat))).s a (vi (j+1:Nat))) d H'→v.g a=vi j→v.g b=vi N →
    WP tab fn u (.code (rE a x)::.inLoop (il i a b c x body)::.inBlock i::k) ⟨v,d,H'⟩ Q) →
   WP tab fn u (.code body::.code (rE a x)::.inLoop (il i a b c x body)::.inBlock i::k) ⟨t.s c (vb ae),ds,H⟩ Q)
  (done:∀ t ds H,I N t ds H→t.g a=vi N→t.g b=vi N→WP tab fn u k ⟨t.s c (vb ag),ds,H⟩ Q) :
  WP tab fn u (.code (xE i a b c x body)::k) ⟨t,ds,H⟩ Q:=by
 have q:∀ ops:List aP,ops.all (·.op.dJ)=ae→u=ab∨ops.all (·.op.dJ)=ae:=fun _ h=>.inr h;refine aG ?_;refine cH (fun n s=>∃ j t ds H,s=⟨t,ds,H⟩∧j≤N∧n=N-j∧I j t ds H∧t.g a=vi j∧t.g b=vi N) N ⟨0,t,ds,H,rfl,by omega,by omega,h0,l,m⟩ ?_;rintro n s ⟨j,t,ds,H,rfl,L,rfl,F,l,m⟩ J;apply ak;refine al (q _ rfl) ?_;simp [l,m];by_cases g:j<N
 ·rw [decide_eq_true g];apply ak;refine aq (by simp) ?_;refine aO ?_;apply ak;refine step j t ds H g F l m fun v d H' y z B=>?_;refine al (q _ rfl) ?_;simp [z];rw [aV];refine J (N-(j+1)) _ (by omega) ⟨j+1,_,d,H',rfl,by omega,rfl,by simpa using y,by simp,?_⟩;simp [A,E,B]
 ·have:j=N:=by omega
  subst this;rw [decide_eq_false g];apply ak;refine aC (by simp) ?_;refine bH (k':=k) (by simp [Km.exitTo]) ?_;exact done t ds H F l m
def dF(mi le:Int):FC:=if mi+le≤1440 then E1 else .au
theorem afw{k:Nat}(hk:k<60)(le:Int)(l0:1≤le)(l1:le≤10080):bh tab 209 [.a (dS.map .f),vi (20*k:Nat),vi le]=Eq (.t [.a [.f (dF (20*k:Nat) le)],vi 0]):=by
 obtain⟨v,rfl,hp⟩:∃ v,v=.t [.a [.f (dF (20*k:Nat) le)],vi 0]∧bh tab 209 [.a (dS.map .f),vi (20*k:Nat),vi le] v:=by
  refine AA amU rfl fun Q hQ=>?_;obtain⟨m,hm⟩:=aK (20*k:Nat);have f7:=aav hk;have f8:=ahm hk;rw [←hm]at f7 f8 ⊢;have x8:m≤1180:=by omega
  have h_:=fI.2.2.2.2.2.2.2.2;have a7:=fI.2.2.2.2.2.2.2.1;have k_:=fI.2.2.1;have j_:=fI.2.2.2.1;have j8:=fI.2.2.2.2.1;have j9:=fI.2.2.2.2.2.1;have i9:=fI.2.2.2.2.2.2.1;have t8:=zI m le;change bh tab 190 [.a (dS.map .f)]=Eq (vi 0)at h_;change bh tab 276 _=_ at f7;change bh tab 282 [.a (List.map C.f [fi 0,.fs [fi 3] 1,fi (-1),.au,fi 0,.au,fi 0,.au]),vi (m:Int)]=_ at f8;simp only [aqz,aqK]at f8;have la:∀ K:aj,K[0]?=aa (.box (dS.map .f) 0)→aU K (aa 10) (.c (.ptr 0 0 0))=aa (.a (dS.map .f))∧aU K (aa 8) (.c (.ptr 0 0 0))=aa (.a (List.map C.f [fi 0,.fs [fi 3] 1,fi (-1),.au,fi 0,.au,fi 0,.au])):=fun K h=>by refine⟨?_,?_⟩<;>simp [aU,aF,h,dS,aT]
  apply ai;simp;obtain⟨H0,S⟩:=aK ([.box (dS.map .f) 0,.box [.f .au] 0,.box [.f (fi 0)] 0]:aj);rw [←S];have j5:H0.length=3:=by rw [S];rfl
  have z0:H0[0]?=aa (.box (dS.map .f) 0):=by rw [S];rfl
  have z1:H0[1]?=aa (.box [.f .au] 0):=by rw [S];rfl
  have z2:H0[2]?=aa (.box [.f (fi 0)] 0):=by rw [S];rfl
  apply ak;apply ai;simp [(la _ z0).1,h_,-az,show¬ (m:Int) < -4320 by omega,show¬ (4320:Int)<m by omega,show¬ le<1 by omega,show¬ 10080<le by omega];refine bp (by simp) ?_;apply ai;simp [f7];obtain⟨H2,b_⟩:=aK (H0++[bo.box [.f (fi 0)] 0]:aj);have n2:H2.length=4:=by rw [b_];simp [j5]
  have k2:Kp H0 H2:=by rw [b_];exact Kp.push _ _
  rw [←b_];have w3:H2[3]?=aa (.box [.f (fi 0)] 0):=by rw [b_];simp [←j5]
  apply ai;simp [(la _ (k2.get z0)).2,f8,-az,j5,n2];obtain⟨H3,c_⟩:=aK (H2++[bo.box [.f (fi 0)] 0]:aj);have n3:H3.length=5:=by rw [c_];simp [n2]
  have k3:Kp H2 H3:=by rw [c_];exact Kp.push _ _
  have w4:H3[4]?=aa (.box [.f (fi 0)] 0):=by rw [c_];simp [←n2]
  rw [←c_];have m9:∀ K:aj,K[4]?=aa (.box [.f (fi 0)] 0)→aU K ab (.c (.ptr 4 0 0))=aa (vi 0):=fun K h=>by simp [aU,aF,h]
  apply ak;apply ai;simp [m9 _ w4,-az];refine bp (by simp) ?_;apply ai;simp [n3];apply ai;obtain⟨H4,U⟩:=aK (H3++[bo.box [.f .au] 0,bo.box [.cl 283 [.ptr 5 0 0]] 0]:aj);have n4:H4.length=7:=by rw [U];simp [n3]
  have k4:Kp H3 H4:=by rw [U];exact Kp.push _ _
  have w5:H4[5]?=aa (.box [.f .au] 0):=by rw [U];simp [←n3]
  have w6:H4[6]?=aa (.box [.cl 283 [.ptr 5 0 0]] 0):=by rw [U,IS (by omega),n3];rfl
  simp [n3,lk];rw [←U];have t_:∀ K:aj,bu K (.f (.fs [fi 0,.es,fi 0,fi 1,.fs [fi 0] 1] 1))=aa 1:=fun K=>rfl;apply ak;apply ai;simp [t_];have j4:Kp H0 H4:=(k2.tr k3).tr k4;have u0:=j4.get z0;have u1:=j4.get z1;have u2:=j4.get z2;have u3:=(k3.tr k4).get w3;have u4:=k4.get w4;refine xM 1 (fun j t ds K=>t.g 1=vi m∧t.g 2=vi le∧t.g 3=.c (.ptr 0 0 0)∧t.g 6=.c (.ptr 1 0 0)∧t.g 7=.c (.ptr 2 0 0)∧t.g 8=.c (.ptr 3 0 0)∧t.g 9=vi m∧t.g 11=.c (.ptr 4 0 0)∧t.g 12=.c (.ptr 5 0 0)∧t.g 13=.c (.ptr 6 0 0)∧t.g 59=.c (.f (.fs [fi 0,.es,fi 0,fi 1,.fs [fi 0] 1] 1))∧(j=0→ds=[]∧K=H4)∧(j=1→ds=[.gm 9]∧K[9]?=aa (.eO ae)∧(∀ i:Nat,i<7→i≠5→K[i]?=H4[i]?)∧K[5]?=aa (.box [.f (dF m le)] 0))) (by omega) (by decide) (by decide) (by simp) (by simp)
   ⟨by simp,by simp,by simp,by simp,by simp,by simp,by simp,by simp,by simp,by simp,by simp,fun _=>⟨rfl,rfl⟩,by omega⟩ ?_ ?_
  ·rintro j t ds K hj ⟨g1,g2,g3,g6,g7,g8,g9,s,z,x,A,I,-⟩ ha hb next
   obtain rfl:j=0:=by omega
   obtain⟨rfl,rfl⟩:=I rfl;have ix:bA K 5 ab (.c (.f (.fs [fi 0,.es,fi 0,fi 1,.fs [fi 0] 1] 1))) (vi 0)=aa (.c (.f (.fp [fi 0,.es,fi 0,fi 1,.fs [fi 0] 1] 0))):=rfl;have ld:aU K (aa 5) (.c (.f (.fp [fi 0,.es,fi 0,fi 1,.fs [fi 0] 1] 0)))=aa (.a [.f (fi 0),.f .es,.f (fi 0),.f (fi 1),.f (.fs [fi 0] 1)]):=rfl;have i6:t.g 61=vi 0:=ha;refine aG ?_;apply ai;simp [A,i6,ix,ld,n4];obtain⟨H5,d9⟩:=aK (K++[bo.box [.f (fi 0),.f .es,.f (fi 0),.f (fi 1),.f (.fs [fi 0] 1)] 0]:aj);have n5:H5.length=8:=by rw [d9];simp [n4]
   have k5:Kp K H5:=by rw [d9];exact Kp.push _ _
   have w7:H5[7]?=aa (.box [.f (fi 0),.f .es,.f (fi 0),.f (fi 1),.f (.fs [fi 0] 1)] 0):=by rw [d9];simp [←n4]
   rw [←d9];have l7:aU H5 ab (.c (.ptr 7 0 0))=aa (vi 0):=by simp [aU,aF,w7]
   apply ai;simp [g9,l7,-az,aV (n:=(m:Int)),f7,n5];obtain⟨J,d_⟩:=aK (H5++[bo.box [.f (fi 0)] 0]:aj);have n6:J.length=9:=by rw [d_];simp [n5]
   have k6:Kp H5 J:=by rw [d_];exact Kp.push _ _
   have w8:J[8]?=aa (.box [.f (fi 0)] 0):=by rw [d_];simp [←n5]
   rw [←d_];have m4:=k5.tr k6;apply ai;simp [g2,g3,(la _ (m4.get u0)).1,t8,-az];refine aG ?_
   suffices go:∀ u:T,u.g 1=vi m→u.g 2=vi le→u.g 3=.c (.ptr 0 0 0)→u.g 6=.c (.ptr 1 0 0)→u.g 7=.c (.ptr 2 0 0)→u.g 8=.c (.ptr 3 0 0)→u.g 9=vi m→u.g 11=.c (.ptr 4 0 0)→u.g 12=.c (.ptr 5 0 0)→u.g 13=.c (.ptr 6 0 0)→u.g 59=.c (.f (.fs [fi 0,.es,fi 0,fi 1,.fs [fi 0] 1] 1))→u.g 61=vi 0→u.g 60=vi 1→u.g 15=.c (.ptr 7 0 0)→u.g 16=.c (.ptr 8 0 0)→u.g 76=.c (.f (.fn 340 [.fp dS 0,.fp [fi m] 0,.fp [fi le] 0])) →
     WP tab 209 ab [.code zc,.inBlock 2,.inBlock 1,.code (rE 61 98),.inLoop (il 0 61 60 62 98 zb),.inBlock 0,.code zd] ⟨u,[],J⟩ Q by
    exact go _ (by simp [g1]) (by simp [g2]) (by simp [g3]) (by simp [g6]) (by simp [g7]) (by simp [g8]) (by simp [g9]) (by simp [s]) (by simp [z]) (by simp [x]) (by simp [A]) (by simp [i6]) (by simpa using hb) (by simp) (by simp) (by simp)
   clear g1 g2 g3 g6 g7 g8 g9 s z x A ha hb i6 I;intro u g1 g2 g3 g6 g7 g8 g9 s z x A s7 r_ q_ r5 s8;obtain⟨LP,e_⟩:∃ LP:ej→Option aE→bo,LP=fun st pd=>.lp 209 u [P.nat 77] gN gP st pd 9:=⟨_,rfl⟩
   obtain⟨W,hW⟩:=aK (J++[.eO ae,LP .ready ab]);have nW:W.length=11:=by rw [hW,api,n6];rfl
   have kW:Kp J W:=by rw [hW];exact Kp.push _ _
   have q9:W[9]?=aa (.eO ae):=by rw [hW,IS (by omega),n6];rfl
   have j6:W[10]?=aa (LP .ready ab):=by rw [hW,IS (by omega),n6];rfl
   have F:=m4.tr kW;have p0:=F.get u0;have p3:=F.get u3;have p4:=F.get u4;have p5:=F.get w5;have p6:=F.get w6;have p7:=(k6.tr kW).get w7;have p8:=kW.get w8;obtain⟨PP,i5⟩:∃ PP:aj→Prop,PP=fun K=>11≤K.length∧(∀ i:Nat,i<11→i≠5→K[i]?=W[i]?)∧K[5]?=aa (.box [.f (dF m le)] 0):=⟨_,rfl⟩
   obtain⟨r,H7,he,rfl,hP⟩:=zH (bb:=10) (H:=W) m le (by omega) (by omega) (by omega) (by omega) PP
    (fun u5 K I=>by
     rw [i5];refine⟨by have:=I.1;omega,fun i hi _=>I.2 i (by omega),?_⟩;rw [I.get p5,dF,aW u5])
    (fun hf K I=>by
     have f_:=I.get j6;rw [e_]at f_;obtain⟨r,K',t9,rfl,hP⟩:∃ r K',Ev tab (.yield 10) [.a [.f S1,.f (fi 0),.f (fi 1440)]] K r K'∧(r=vb ae∧PP K'):=by
      refine fO (tab:=tab) (b:=10) (args:=[.a [.f S1,.f (fi 0),.f (fi 1440)]]) (H:=K) f_ rfl fun Q' s9=>?_;obtain⟨b9,Y⟩:=aK (K.length);have x6:=I.1;refine al (.inr rfl) ?_;simp;rw [←Y];obtain⟨K1,q⟩:=aK (K++[bo.box [.f S1,.f (fi 0),.f (fi 1440)] 0]);rw [←q];have E:Kp K K1:=by rw [q];exact Kp.push _ _
      have n_:K1[b9]?=aa (.box [.f S1,.f (fi 0),.f (fi 1440)] 0):=by rw [q,Y];simp
      refine mw (E.get f_) ?_;obtain⟨d,X⟩:=aK (K1.set 10 (.lp 209 u [P.nat 77] gN gP .busy ab 9));rw [←X];have e2:∀ i:Nat,i<W.length→i≠10→d[i]?=W[i]?:=fun i hi i8=>by rw [X,AI (Ne.symm i8),E.2 i (by omega),I.2 i hi]
      have o_:d[10]?=aa (.lp 209 u [P.nat 77] gN gP .busy ab 9):=by rw [X];exact IN (an (E.get f_))
      have p_:d[b9]?=aa (.box [.f S1,.f (fi 0),.f (fi 1440)] 0):=by rw [X,AI (by omega)];exact n_
      have x_:d.length=b9+1:=by rw [X,aqE,q,Y];simp
      have v:∀ {i:Nat} {y:bo},W[i]?=aa y→i≠10→d[i]?=aa y:=fun h i8=>by rw [e2 _ (an h) i8];exact h
      have v9:aU d (aa 1) (.c (.ptr b9 0 0))=aa (.a [.f S1]):=by simp [aU,aF,p_,aT]
      have v8:aU d ab (.c (.ptr 8 0 0))=aa (vi 0):=by simp [aU,aF,v p8 (by omega)]
      have r8:aU d ab (.c (.ptr 3 0 0))=aa (vi 0):=by simp [aU,aF,v p3 (by omega)]
      have u_:aU d ab (.c (.ptr 6 0 0))=aa (.c (.cl 283 [.ptr 5 0 0])):=by simp [aU,aF,v p6 (by omega)]
      have a_:unV .neg (vi 0)=aa (vi 0):=rfl;have s_:=am0;obtain⟨cs,Z⟩:=aK ([.cl 286 [.ptr 0 0 0],.f (.fn 354 [.fp [fi 0] 0]),.cl 289 [.ptr 7 0 0],.f (.fn 354 [.fp [fi 0] 0]),.cl 283 [.ptr 5 0 0]]:List C);obtain⟨K3,i4⟩:=aK (d++[bo.box cs 0]);have l_:Kp d K3:=by rw [i4];exact Kp.push _ _
      have c3:K3[d.length]?=aa (.box cs 0):=by rw [i4];simp
      obtain⟨r,K4,l,rfl,u9⟩:=zA (H:=K3) (b:=d.length) cs [S1,S1,S1,E1,E1,E1] (by rw [Z];rfl) (by rw [Z];decide) c3 (fun j hj L hL=>by
       have kL:=l_.tr hL;subst Z
       match j,hj with
       | 0,_=>obtain⟨r,M,N,O⟩:=am9 (kL.get (v p0 (by omega)));exact⟨.fn 286,_,r,M,rfl,N,O⟩
       | 1,_=>obtain⟨r,M,N,O⟩:=ahE (H:=L) k_;exact⟨.fn 354,_,r,M,rfl,N,O⟩
       | 2,_=>obtain⟨r,M,N,O⟩:=am' (kL.get (v p7 (by omega)));exact⟨.fn 289,_,r,M,rfl,N,O⟩
       | 3,_=>obtain⟨r,M,N,O⟩:=ahE (H:=L) j_;exact⟨.fn 354,_,r,M,rfl,N,O⟩
       | 4,_=>obtain⟨r,M,N,O⟩:=ahG (kL.get (v p5 (by omega))) j8;exact⟨.fn 283,_,r,M,rfl,N,O⟩)
      have l:Ev tab (.fn 285) [.a [.f S1],.c (.sl d.length 0 5 5 0 1)] K3 (.t [.a [.f E1],vi 0]) K4:=by
       subst Z;exact l
      have l:=l.eq;have a8:=l_.tr u9;have x5:=a8.get (v p5 (by omega));have x4:=a8.get (v p4 (by omega));obtain⟨K5,B⟩:=aK (K4.set 5 (.box [.f E1] 0));have w9:cZ K4 (.ptr 5 0 0) [.f E1]=aa K5:=by rw [B];simp [cZ,x5,over]
      have j7:K5[4]?=aa (.box [.f (fi 0)] 0):=by rw [B,AI (by omega)];exact x4
      have v_:cZ K5 (.ptr 4 0 0) [.f (fi 0)]=aa K5:=by
       simp [cZ,j7,over];obtain⟨i7,e⟩:=BY.1 j7;rw [←e];exact arE i7
      have m_:K5[10]?=aa (.lp 209 u [P.nat 77] gN gP .busy ab 9):=by rw [B,AI (by omega)];exact a8.get o_
      refine aG ?_;refine ak (al (.inr rfl) ?_);simp [g3,q_,r5,g8,x,v9,v8,r8,u_,a_,s_,lk,-az];rw [←Z,←i4];simp [z,s,l,w9,v_,-bf];refine ak (al (.inr rfl) ?_);simp [s,m9 _ j7,-az];refine aC (by simp) (aO (av (cD (s9 _ _ _ _ _ _ _ _ _ _ rfl m_ ⟨rfl,?_⟩))));rw [i5];have x9:=a8.1;refine⟨?_,fun i hi h5=>?_,?_⟩
      ·rw [aqE,B,aqE];omega
      ·by_cases e:i=10
       ·subst e;rw [IN (an m_),j6,e_];rfl
       ·rw [AI (Ne.symm e),B,AI (Ne.symm h5),a8.2 i (by omega),e2 i (by omega) e]
      ·rw [AI (by omega),B,IN (an x5),dF,ba hf]
     exact⟨K',t9,hP⟩)
   rw [i5]at hP;obtain⟨nP,eP,vP⟩:=hP;have t7:Ev tab (.fn 340) [.c (.yl (J.length+1)),.c (.f (.fp dS 0)),.c (.f (.fp [fi m] 0)),.c (.f (.fp [fi le] 0))] (J++[.eO ae,.lp 209 u [P.nat 77] gN gP .ready ab J.length]) (.t []) H7:=by
    have e:J++[.eO ae,.lp 209 u [P.nat 77] gN gP .ready ab J.length]=W:=by rw [hW,e_,n6]
    rw [e,n6];exact he
   refine iP (g:=340) (by rw [Bu,s8];simp [bQ]) t7 ?_;rw [n6];have w_:H7[10]?=aa (.lp 209 u [P.nat 77] gN gP .ready ab 9):=by rw [eP 10 (by omega) (by omega),j6,e_]
   refine jO w_ (by decide) ?_;refine av (av (next _ _ _ ⟨by simp [g1],by simp [g2],by simp [g3],by simp [g6],by simp [g7],by simp [g8],by simp [g9],by simp [s],by simp [z],by simp [x],by simp [A],by omega,fun _=>⟨rfl,?_,fun i hi h5=>?_,?_⟩⟩ (by simpa using s7) (by simpa using r_)))
   ·rw [AI (by omega),eP 9 (by omega) (by omega)];exact q9
   ·rw [AI (by omega),eP i (by omega) h5,F.2 i (by omega)]
   ·rw [AI (by omega)];exact vP
  ·rintro t ds K ⟨g1,g2,g3,g6,g7,g8,g9,s,z,x,A,-,I⟩ - -;obtain⟨rfl,q9,eK,v5⟩:=I rfl;have p1:K[1]?=aa (.box [.f .au] 0):=by rw [eK 1 (by omega) (by omega)];exact u1
   have p2:K[2]?=aa (.box [.f (fi 0)] 0):=by rw [eK 2 (by omega) (by omega)];exact u2
   have p3:K[3]?=aa (.box [.f (fi 0)] 0):=by rw [eK 3 (by omega) (by omega)];exact u3
   have p6:K[6]?=aa (.box [.cl 283 [.ptr 5 0 0]] 0):=by rw [eK 6 (by omega) (by omega)];exact w6
   have l3:aU K ab (.c (.ptr 3 0 0))=aa (vi 0):=by simp [aU,aF,p3]
   have l6:aU K ab (.c (.ptr 6 0 0))=aa (.c (.cl 283 [.ptr 5 0 0])):=by simp [aU,aF,p6]
   have a_:unV .neg (vi 0)=aa (vi 0):=rfl;apply ai;simp;apply ak;apply ai;simp [g8,l3,a_,-az];refine aG (gT ?_);apply ai;simp;refine ak (aC (by simp) ?_);refine bH (k':=[.code ze]) rfl ?_;obtain⟨K1,q⟩:=aK (K++[bo.box [.cl 283 [.ptr 5 0 0]] 0]:aj);have E:Kp K K1:=by rw [q];exact Kp.push _ _
   have c1:K1[K.length]?=aa (.box [.cl 283 [.ptr 5 0 0]] 0):=by rw [q];simp
   have u6:bh tab 284 [.a [.f (dF m le)],.a [.f .au]]=Eq (.t [.a [.f (dF m le)],vi 0]):=by
    unfold dF;split
    ·exact j9
    ·exact i9
   obtain⟨r,d,l,rfl,u7⟩:=zA (H:=K1) (b:=K.length) [.cl 283 [.ptr 5 0 0]] [.au,dF m le] rfl (by decide) c1 (fun j hj L hL=>by
    match j,hj with
    | 0,_=>obtain⟨r,M,N,O⟩:=ahG ((E.tr hL).get v5) u6;exact⟨.fn 283,_,r,M,rfl,N,O⟩)
   have l:Ev tab (.fn 285) [.a [.f .au],.c (.sl K.length 0 1 1 0 1)] K1 (.t [.a [.f (dF m le)],vi 0]) d:=l;have l:=l.eq;have i_:=E.tr u7;have y1:=i_.get p1;have y2:=i_.get p2;have y9:=i_.get q9;have s1:cZ d (.ptr 1 0 0) [.f (dF m le)]=aa (d.set 1 (.box [.f (dF m le)] 0)):=by simp [cZ,y1,over]
   have g_:(d.set 1 (.box [.f (dF m le)] 0))[2]?=aa (.box [.f (fi 0)] 0):=by rw [AI (by omega)];exact y2
   have s2:cZ (d.set 1 (.box [.f (dF m le)] 0)) (.ptr 2 0 0) [.f (fi 0)]=aa (d.set 1 (.box [.f (dF m le)] 0)):=by
    simp [cZ,g_,over];obtain⟨i7,e⟩:=BY.1 g_;rw [←e];exact arE i7
   have n8:(d.set 1 (.box [.f (dF m le)] 0))[1]?=aa (.box [.f (dF m le)] 0):=IN (an y1);have n9:(d.set 1 (.box [.f (dF m le)] 0))[9]?=aa (.eO ae):=by rw [AI (by omega)];exact y9
   simp only [nv]at a7;change bh tab 287 _=_ at a7;apply ai;simp [x,l6,a7,←q,l,g6,g7,s1,s2,-az,-bf];generalize d.set 1 (.box [.f (dF m le)] 0)=K3 at n8 g_ n9 ⊢;have a1:(K3.set 9 (.eO ag))[1]?=aa (.box [.f (dF m le)] 0):=by rw [AI (by omega)];exact n8
   have a2:(K3.set 9 (.eO ag))[2]?=aa (.box [.f (fi 0)] 0):=by rw [AI (by omega)];exact g_
   refine aB (hQ _ _ _ rfl (.inr ⟨9,rfl,n9,.t [.a [.f (dF m le)],vi 0],?_,by simp [iA,cC,bg];rw [show(m:Int)=20*(k:Int) by omega]⟩));simp [Km.results,bg,g6,g7,a1,a2,aT]
 exact hp.eq
end Go.Proofs.YtnaofdffomdmhaaGreat
namespace Go.Proofs.YtnaofdffomdmhaaGreat
open Go Km
theorem ta{m r t z n p mi le:Int}(h:yx n p)(s:0≤mi)(u:mi≤1180)(b:1≤le)(d:le≤10080):dW (qJ m r t z n p mi le).st=ae:=by
 obtain⟨g,j,l,q⟩:=h;show dW ⟨.fs,[⟨.fs,[⟨.fs,[⟨.nil,[],0,n,.fs,[p]⟩]⟩],mi⟩],le,.nil,[]⟩=ae;simp [dW,ey,ic,mN,ju,fU,en,bD];omega
theorem BW(m r t z n p mi le:Int):(qJ m r t z n p mi le).st.Sm:=by
 simp [aR.Sm,qJ,dr.Sm,bI.Sm]
def tC(n p:Int):FC:=.fs [.fs [.au,fi 0,fi n,.fs [fi p] 1] 1] 1
def rF(n p mi le:Int):List FC:=[.fs [tC n p,fi mi] 1,fi le,.au]
theorem ahg(m r t z n p mi le:Int):(qJ m r t z n p mi le).st.row=rF n p mi le:=rfl
theorem CH{H:aj}{a b:Nat}(l:a≠b)(x:aN)(z:H[a]?=aa (.box [.f (fi 0),.f (fi 0),.f (fi 0)] 0))(A:H[b]?=aa (.box [.f (.bool ag)] 0)) :
  ∃ r H',Ev tab (.fn 208) [.a (x.row.map .f),.c (.ptr a 0 0),.c (.ptr b 0 0)] H r H'∧(r=.t []∧H.length≤H'.length∧(∀ i:Nat,i<H.length→i≠a→i≠b→H'[i]?=H[i]?)∧H'[a]?=aa (.box (x.row.map .f) 0)∧H'[b]?=aa (.box [.f (.bool ae)] 0)):=by
 refine cB rfl rfl fun Q X=>?_;have N:=wG .fs [dN x.fr 0,dN x.day 0,dN x.to 0] (by simp);simp [ints,sl,Tg.fc]at N;have la:=an z;have lb:=an A;apply ai;simp [aN.row];obtain⟨K,y⟩:=aK (H++[bo.box [.f (fi x.day),.f (fi x.fr),.f (fi x.to)] 0]:aj);have B:Kp H K:=by rw [y];exact Kp.push _ _
 have u:K[H.length]?=aa (.box [.f (fi x.day),.f (fi x.fr),.f (fi x.to)] 0):=by rw [y];simp
 have F:=B.get z;have qb:=B.get A;rw [←y];have x0:aU K ab (.c (.ptr H.length 0 0))=aa (vi x.day):=by simp [aU,aF,u]
 have x1:aU K ab (.c (.ptr H.length 1 0))=aa (vi x.fr):=by simp [aU,aF,u]
 have x2:aU K ab (.c (.ptr H.length 2 0))=aa (vi x.to):=by simp [aU,aF,u]
 have v:∀ j:Nat,j<3→aU K ab (.c (.ptr a j 0))=aa (vi 0):=fun j Z=>by
  match j,Z with
  | 0,_=>simp [aU,aF,F]| 1,_=>simp [aU,aF,F]| 2,_=>simp [aU,aF,F]
 apply ai;simp [x0,x1,x2,v 0 (by decide),v 1 (by decide),v 2 (by decide),fL,deep,kI,oY,N,-az];obtain⟨d,g⟩:=aK (K++[bo.box [.f (fi (dN x.fr 0)),.f (fi (dN x.day 0)),.f (fi (dN x.to 0))] 3]:aj);have m:Kp K d:=by rw [g];exact Kp.push _ _
 rw [←g];have s:=B.tr m;have ra:=s.get z;have I:=s.get A;have J:=m.get u;have b0:aU d ab (.c (.ptr b 0 0))=aa (vb ag):=by simp [aU,aF,I]
 have E:∀ L:aj,L[H.length]?=aa (.box [.f (fi x.day),.f (fi x.fr),.f (fi x.to)] 0)→aU L (aa 3) (.c (.ptr H.length 0 0))=aa (.a [.f (fi x.day),.f (fi x.fr),.f (fi x.to)]):=fun L h=>by simp [aU,aF,h,aT]
 apply ai;simp [b0,-az];refine aq (by simp) ?_;have S:cZ d (.ptr b 0 0) [.f (.bool ae)]=aa (d.set b (.box [.f (.bool ae)] 0)):=by simp [cZ,I,over]
 have q:(d.set b (.box [.f (.bool ae)] 0))[a]?=aa (.box [.f (fi 0),.f (fi 0),.f (fi 0)] 0):=by rw [AI (Ne.symm l)];exact ra
 have O:cZ (d.set b (.box [.f (.bool ae)] 0)) (.ptr a 0 0) [.f (fi x.day),.f (fi x.fr),.f (fi x.to)]=aa ((d.set b (.box [.f (.bool ae)] 0)).set a (.box [.f (fi x.day),.f (fi x.fr),.f (fi x.to)] 0)):=by simp [cZ,q,over]
 have M:(d.set b (.box [.f (.bool ae)] 0))[H.length]?=aa (.box [.f (fi x.day),.f (fi x.fr),.f (fi x.to)] 0):=by rw [AI (by omega)];exact J
 refine eT (.inl rfl) ?_ ?_
 case _=>
  simp [E d J,S,O,-az,-bf];refine cD (X _ _ _ rfl rfl ⟨rfl,by simp;exact s.1,fun i hi U W=>?_,IN (an q),?_⟩)
  ·rw [AI (Ne.symm U),AI (Ne.symm W)];exact s.2 i hi
  ·rw [AI l];exact IN (an I)
 ·intro c Y;rw [aqs.1 Y];refine⟨by decide,_,rfl,.inl ⟨by decide,?_⟩⟩;simp [E d J,E _ M,S,O,fA,V.beq,gQ,C.beq,FC.beq,-az,-bf]
def ig(n p mi le:Int):aN:=if mi+le≤1440 then⟨0,0,0⟩else⟨p,p*1440+mi,p*1440+mi+le⟩
theorem Y3{n p:Int}(W:yx n p){k:Nat}(hk:k<60)(le:Int)(e0:1≤le)(e1:le≤10080) :
  bh tab 136 [.a (dS.map .f),.a ((rF n p (20*k:Nat) le).map .f)]=Eq (.t [vb (decide ((20*k:Nat)+le≤1440)),.a ((ig n p (20*k:Nat) le).row.map .f),vi 0]):=bh.eq (by
 obtain⟨m,hm⟩:=aK (20*k:Nat);have hd:=afw hk le e0 e1;have I:=wS _ (BW 1 0 0 1 n p (20*k:Nat) le);rw [ta W (by omega) (by omega) e0 e1,ahg]at I;rw [←hm]at hd I ⊢;have g_:m≤1180:=by omega
 have e_:=W;obtain⟨b1,b2,b3,b4⟩:=e_;have A:=fI.2.2.2.2.2.2.2.2;change bh tab 190 [.a (dS.map .f)]=Eq (vi 0)at A;refine bS rfl rfl fun Q hQ=>?_;have b9:∀ K:aj,K[0]?=aa (.box (dS.map .f) 0)→aU K (aa 10) (.c (.ptr 0 0 0))=aa (.a (dS.map .f)):=fun K h=>by simp [aU,aF,h,dS,aT]
 have X:∀ K:aj,K[1]?=aa (.box ((rF n p m le).map .f) 0)→aU K (aa 3) (.c (.ptr 1 0 0))=aa (.a ((rF n p m le).map .f))∧aU K ab (.c (.ptr 1 0 0))=aa (.c (.f (.fs [tC n p,fi m] 1)))∧aU K ab (.c (.ptr 1 1 0))=aa (vi le)∧aU K ab (.c (.ptr 1 2 0))=aa (.c (.f .au)):=fun K h=>by refine⟨?_,?_,?_,?_⟩<;>simp [aU,aF,h,rF,aT]
 apply ai;simp;obtain⟨O,g⟩:=aK ([.box (dS.map .f) 0,.box ((rF n p m le).map .f) 0,.box [.f (fi 0),.f (fi 0),.f (fi 0)] 0]:aj);rw [←g];have n0:O.length=3:=by rw [g];rfl
 have z0:O[0]?=aa (.box (dS.map .f) 0):=by rw [g];rfl
 have N:O[1]?=aa (.box ((rF n p m le).map .f) 0):=by rw [g];rfl
 have z2:O[2]?=aa (.box [.f (fi 0),.f (fi 0),.f (fi 0)] 0):=by rw [g];rfl
 apply ak;apply ai;simp [b9 _ z0,A,(X _ N).1,I,-az];refine bp (by simp) ?_;obtain⟨Y,l⟩:=aK (O++[.box [.f (.bool ag)] 0,.box [.f (fi 0),.f (fi 0),.f (fi 0)] 0]:aj);have k1:Kp O Y:=by rw [l];exact Kp.push _ _
 have n1:Y.length=5:=by rw [l];simp [n0]
 have z3:Y[3]?=aa (.box [.f (.bool ag)] 0):=by rw [l];simp [←n0]
 have z4:Y[4]?=aa (.box [.f (fi 0),.f (fi 0),.f (fi 0)] 0):=by rw [l,IS (by omega),n0];rfl
 apply ai;simp [n0];apply ai;simp [n0];rw [←l];apply ai;simp [lk];apply ak;apply ai;have d9:∀ K:aj,bu K (.f (.fs [tC n p,fi m] 1))=aa 1:=fun K=>rfl;simp [(X _ (k1.get N)).2.1,d9,-az];obtain⟨ok,s⟩:=aK (decide ((m:Int)+le≤1440):Bool);refine bM 1 (fun j t K=>t.g 3=.c (.ptr 1 0 0)∧t.g 5=.c (.ptr 2 0 0)∧t.g 8=.c (.ptr 3 0 0)∧t.g 9=.c (.ptr 4 0 0)∧t.g 2=.c (.ptr 0 0 0)∧t.g 10=.c (.cl 208 [.ptr 4 0 0,.ptr 3 0 0])∧t.g 33=.c (.f (.fs [tC n p,fi m] 1))∧(j=0→K=Y∧t.g 7=vb ae)∧(j=1→t.g 7=vb ok∧K[1]?=aa (.box ((rF n p m le).map .f) 0)∧K[2]?=aa (.box [.f (fi 0),.f (fi 0),.f (fi 0)] 0)∧K[4]?=aa (.box ((ig n p m le).row.map .f) 0))) (by omega) (by decide) (by decide) (by simp) (by simp)
  ⟨by simp,by simp,by simp,by simp,by simp,by simp,by simp,fun _=>⟨rfl,by simp⟩,by omega⟩ ?_ ?_
 ·rintro j t K hj ⟨B,E,g8,U,g2,u,v,hK,-⟩ ha hb next
  obtain rfl:j=0:=by omega
  obtain⟨rfl,g7⟩:=hK rfl;have F:t.g 35=vi 0:=ha;have ix:bA K 2 ab (.c (.f (.fs [tC n p,fi m] 1))) (vi 0)=aa (.c (.f (.fp [tC n p,fi m] 0))):=rfl;have ld:aU K (aa 2) (.c (.f (.fp [tC n p,fi m] 0)))=aa (.a [.f (tC n p),.f (fi m)]):=rfl;refine aG ?_;apply ai;simp [v,F,ix,ld,n1];obtain⟨Z,x⟩:=aK (K++[.box [.f (tC n p),.f (fi m)] 0]:aj);have k2:Kp K Z:=by rw [x];exact Kp.push _ _
  have n2:Z.length=6:=by rw [x];simp [n1]
  have z5:Z[5]?=aa (.box [.f (tC n p),.f (fi m)] 0):=by rw [x];simp [←n1]
  have l5:∀ L:aj,L[5]?=aa (.box [.f (tC n p),.f (fi m)] 0)→aU L ab (.c (.ptr 5 1 0))=aa (vi m)∧aU L (aa 1) (.c (.ptr 5 0 0))=aa (.a [.f (tC n p)]):=fun L h=>by refine⟨?_,?_⟩<;>simp [aU,aF,h,aT]
  rw [←x];have M:=k1.tr k2;apply ai;simp [g2,B,b9 _ (M.get z0),(l5 _ z5).1,(X _ (M.get N)).2.2.1,hd,n2,-az];obtain⟨S,y⟩:=aK (Z++[.box [.f (dF m le)] 0]:aj);have k3:Kp Z S:=by rw [y];exact Kp.push _ _
  have n3:S.length=7:=by rw [y];simp [n2]
  have z6:S[6]?=aa (.box [.f (dF m le)] 0):=by rw [y];simp [←n2]
  have l6:aU S (aa 1) (.c (.ptr 6 0 0))=aa (.a [.f (dF m le)]):=by simp [aU,aF,z6,aT]
  rw [←y];apply ak;apply ai;simp;refine bp (by simp) ?_;obtain⟨bad,q⟩:=aK (if(m:Int)+le≤1440 then FC.au else tC n p:FC);have a_:bh tab 210 [.a [.f (tC n p)],.a [.f (dF m le)]]=Eq (.t [.a [.f bad],vi 0]):=by
   rw [q];unfold dF;split
   ·exact Nw W
   ·exact Nx W
  have a8:bh tab 58 [.a [.f bad]]=Eq (vb ok):=by
   rw [q,s];by_cases h:(m:Int)+le≤1440
   ·rw [ba h,decide_eq_true h];exact vR
   ·rw [aW h,decide_eq_false h];exact YM W
  have d_:bh tab 211 [.a [.f bad],vi 0]=Eq (.t [vi (if(m:Int)+le≤1440 then 0 else p),vb (!ok)]):=by
   rw [q,s];by_cases h:(m:Int)+le≤1440
   ·rw [ba h,ba h,decide_eq_true h];exact ZF
   ·rw [aW h,aW h,decide_eq_false h];exact agk W
  apply ai;simp [(l5 _ (k3.get z5)).2,l6,a_,n3,-az];obtain⟨H4,z⟩:=aK (S++[.box [.f bad] 0]:aj);have k4:Kp S H4:=by rw [z];exact Kp.push _ _
  have n4:H4.length=8:=by rw [z];simp [n3]
  have z7:H4[7]?=aa (.box [.f bad] 0):=by rw [z];simp [←n3]
  have l7:aU H4 (aa 1) (.c (.ptr 7 0 0))=aa (.a [.f bad]):=by simp [aU,aF,z7,aT]
  rw [←z];have d:=(M.tr k3).tr k4;have J:=(k2.tr k3).tr k4;apply ak;apply ai;simp;refine bp (by simp) ?_;apply ai;simp [g7,l7,a8,-az];have q1:=lQ (a:=2251799813685248-m-le) (b:=1440) (by omega) (by decide) (by omega);apply ai;simp [B,(l5 _ ((k3.tr k4).get z5)).1,(X _ (d.get N)).2.2.1,aV (n:=2251799813685248-(m:Int)),aV (n:=2251799813685248-(m:Int)-le),q1,-az];apply ai;simp [l7,d_,-az];apply ak;refine al (.inl rfl) ?_;cases ok with
  | true=>
   have hc:(m:Int)+le≤1440:=by simpa using s.symm
   simp;refine aC (by simp) (aO (av (next _ _ ⟨by simp [B],by simp [E],by simp [g8],by simp [U],by simp [g2],by simp [u],by simp [v],by omega,fun _=>⟨by simp,d.get N,d.get z2,?_⟩⟩ (by simpa using F) (by simpa using hb))));rw [J.get z4,ig,ba hc];rfl
  | false=>
   have hc:¬ (m:Int)+le≤1440:=by simpa using s.symm
   simp [hc,show p≤(2251799813685248-(m:Int)-le) / 1440 by omega];refine aq (by simp) ?_;apply ai;simp [(l5 _ ((k3.tr k4).get z5)).1,aV (n:=p*1440),aV (n:=p*1440+m),-az];obtain⟨r,H5,he,rfl,f_,a7,b_,f8⟩:=CH (H:=H4) (a:=4) (b:=3) (by omega) ⟨p,p*1440+m,p*1440+m+le⟩ (J.get z4) (J.get z3);have he:=he.eq;simp [aN.row]at he;refine al (.inl rfl) ?_;simp [u,B,(X _ (d.get N)).2.2.1,aV (n:=p*1440+m+le),bQ,he,-az];refine av (next _ _ ⟨by simp [B],by simp [E],by simp [g8],by simp [U],by simp [g2],by simp [u],by simp [v],by omega,fun _=>⟨by simp,?_,?_,?_⟩⟩ (by simpa using F) (by simpa using hb))
   ·rw [a7 1 (by omega) (by omega) (by omega)];exact d.get N
   ·rw [a7 2 (by omega) (by omega) (by omega)];exact d.get z2
   ·rw [b_,ig,aW hc]
 ·rintro t K ⟨B,E,g8,U,g2,u,v,-,hK⟩ - -;obtain⟨g7,y1,y2,y4⟩:=hK rfl;apply ak;apply ai;have c_:∀ K:aj,bu K (.f .au)=aa 0:=fun K=>rfl;simp [B,(X _ y1).2.2.2,c_,-az];refine bM 0 (fun _ t K'=>K'=K∧t.g 7=vb ok∧t.g 9=.c (.ptr 4 0 0)∧t.g 5=.c (.ptr 2 0 0)) (by omega) (by decide) (by decide) (by simp) (by simp) ⟨rfl,by simp [g7],by simp [U],by simp [E]⟩ (fun j t H hj=>by omega) ?_;rintro t' K' ⟨rfl,g7,U,E⟩ - -;have l4:aU K' (aa 3) (.c (.ptr 4 0 0))=aa (.a ((ig n p m le).row.map .f)):=by simp [aU,aF,y4,aT,aN.row]
  have s2:cZ K' (.ptr 2 0 0) ((ig n p m le).row.map .f)=aa (K'.set 2 (.box ((ig n p m le).row.map .f) 0)):=by simp [cZ,y2,over,aN.row]
  have f7:(ig n p m le).row.length=3:=rfl;apply ai;simp [g7,U,E,l4,s2,f7,-az,-bf];refine aB (hQ _ _ ?_);simp [Km.results,bg,E,an y2,aT,aN.row,iA,cC,s])
end Go.Proofs.YtnaofdffomdmhaaGreat
namespace Go.Proofs.YtnaofdffomdmhaaGreat
open Go Km
def TV(J:aj)(c:C)(fs:List bI):Prop:=(∃ g,c=.f (sl g (aX fs)))∨LR J c 4 (aX fs)
def ahz(f:Nat)(g:List FC)(L:List (List bI)):Prop:=∀(b:Nat) (H:aj) (PP:Nat→aj→Prop),PP 0 H →
 (∀(j:Nat) (m:j<L.length) (d J:aj) (c:C),PP j d→(∀ i:Nat,i<d.length→J[i]?=d[i]?)→d.length≤J.length→TV J c L[j]→(∀ i,bB c=aa i→d.length≤i)→∃ H',Ev tab (.yield b) [.c c] J (vb ae) H'∧PP (j+1) H') →
 ∃ l,Ev tab (.fn f) (.c (.yl b)::g.map fun x=>.c (.f x)) H (.t []) l∧PP L.length l
theorem nE{ps:List bI}(h:ps≠[])(g:Tg):sl g (aX ps)=.fs (aX ps).flatten ps.length:=by
 cases ps with
 | nil=>exact absurd rfl h| cons p l=>simp [sl,aX]
def TW(J:aj)(c:C)(fs:List bI):Prop:=(∃ g,c=.f (sl g (aX fs)))∨(∃ b ep fl,c=.sl b 0 fs.length 0 ep 4∧J[b]?=aa (.bT 4 ((aX fs).flatten.map .f) fl ep .loc))
section
variable{J:aj}{c:C}{fs:List bI}
theorem TV.tw(h:TV J c fs):TW J c fs:=by
 rcases h with⟨g,rfl⟩ | ⟨h0,rfl | rfl⟩ | ⟨j,b,ep,rfl,d⟩
 ·exact .inl ⟨g,rfl⟩
 ·exact .inl ⟨.nil,by rw [h0];rfl⟩
 ·exact .inl ⟨.es,by rw [h0];rfl⟩
 ·unfold RB at d;exact .inr ⟨b,ep,0,by rw [Aw],d⟩
theorem TW.ex(h:TW J c fs)(h0:fs≠[])(n:Nat):ef (n+1) J c=aa (sl .fs (aX fs)):=by
 rcases h with⟨g,rfl⟩ | ⟨b,ep,fl,rfl,d⟩
 ·show aa (sl g (aX fs))=_;rw [nE h0,nE h0]
 ·have j:(aX fs).flatten.length=fs.length*4:=by have:=bX (bY fs);simpa using this
  simp only [kI,d];rw [ba ⟨trivial,trivial,by rw [aqr];omega⟩,aro,ap1 (by rw [aqr];omega),qH,nE h0];rfl
theorem TW.mk(h:TW J c fs)(n:Nat):TW (fT (n+1) c J) c fs∧∀(i:Nat) (y:bo),J[i]?=aa y→bB c≠aa i→(fT (n+1) c J)[i]?=aa y:=by
 rcases h with⟨g,rfl⟩ | ⟨b,ep,fl,rfl,j⟩
 ·exact⟨.inl ⟨g,rfl⟩,fun i y hy _=>hy⟩
 ·have e:fT (n+1) (.sl b 0 fs.length 0 ep 4) J=J.set b (.bT 4 ((aX fs).flatten.map .f) (Nat.max fl (0+fs.length*4)) ep .loc):=by
   simp only [oY,j];rw [rQ];intro x d;have d:=List.mem_of_mem_drop (List.mem_of_mem_take d);obtain⟨m,_,rfl⟩:=aqJ.1 d;exact⟨_,rfl⟩
  rw [e];exact⟨.inr ⟨b,ep,_,rfl,IN (an j)⟩,fun i y hy hi=>by rw [AI (by rintro rfl;exact hi rfl)];exact hy⟩
theorem TW.set(h:TW J c fs){i:Nat}(hi:bB c≠aa i)(x:bo):TW (J.set i x) c fs:=by
 rcases h with h | ⟨b,ep,fl,rfl,d⟩
 ·exact .inl h
 ·exact .inr ⟨b,ep,fl,rfl,by rw [AI (by rintro rfl;exact hi rfl)];exact d⟩
end
theorem xN(ps:List bI)(h:vC ps)(n:Int)(hn:0≤n)(b9:n≤1000000000000):∃ d f,iy (InN ps n) d f∧(0≤d∧d≤1000001000000)∧∀ H g found c,QH H n g found→TW H c ps→(∀ i,bB c=aa i→4<i) →
  ∃ r H',Ev tab (.yield 4) [.c c] H r H'∧(r=vb ae∧QH H' n (if f=ae∧(found=ag∨d<g)then d else g) (found||f)):=by
 obtain⟨d,f,e0,f0,hm,hd,he,hc⟩:=ahk .fs ps h n hn b9;refine⟨d,f,hm,hd,?_⟩;rintro H g found c ⟨h0,h1,h2,h3,s,h4,u,K,L⟩ v N;refine fO (tab:=tab) (b:=4) h4 rfl fun Q' M=>?_;have a_:=an h4;have F:∀(t:T) (j:aj),j[0]?=aa (.box [.f (fi n)] 0)→j[1]?=aa (.box [.f (fi g)] 0)→j[2]?=aa (.box [.f (.bool found)] 0)→j[3]?=aa (.eO ae)→j[4]?=aa (.lp 107 s [P.nat 12] dg cN .busy ab 3) →
   t.g 3=.c (.ptr 0 0 0)→t.g 6=.c (.ptr 1 0 0)→t.g 7=.c (.ptr 2 0 0)→t.g 9=vi d→t.g 10=vb f→WP tab 107 (aa 4) [.code yZ,.inBlock 1] ⟨t,[],j⟩ Q':=by
  rintro t j q0 U A q3 q4 e3 I y J q;have l1:=an U;have l2:=an A;have cG:(f=ae∧(found=ag∨d<g)→False)→QH (j.set 4 (.lp 107 s [P.nat 12] dg cN .ready ab 3)) n (if f=ae∧(found=ag∨d<g)then d else g) (found||f):=by
   intro x;have hf:(found||f)=found:=by
    cases f<;>cases found<;>simp at x ⊢
   rw [aW x,hf];exact⟨by rw [AI (by decide)];exact q0,by rw [AI (by decide)];exact U,by rw [AI (by decide)];exact A,by rw [AI (by decide)];exact q3,s,IN (an q4),u,K,L⟩
  have b_:(j.set 1 (.box [.f (fi d)] 0))[2]?=aa (.box [.f (.bool found)] 0):=by rw [AI (by decide)];exact A
  have Q:(f=ae∧(found=ag∨d<g))→QH (((j.set 1 (.box [.f (fi d)] 0)).set 2 (.box [.f (.bool ae)] 0)).set 4 (.lp 107 s [P.nat 12] dg cN .ready ab 3)) n (if f=ae∧(found=ag∨d<g)then d else g) (found||f):=by
   intro l;have hf:(found||f)=ae:=by rw [l.1];simp
   rw [ba l,hf];refine⟨?_,?_,?_,?_,s,IN (by simp;exact an q4),u,K,L⟩
   ·rw [AI (by decide),AI (by decide),AI (by decide)];exact q0
   ·rw [AI (by decide),AI (by decide),IN l1]
   ·rw [AI (by decide),IN (by simpa using l2)]
   ·rw [AI (by decide),AI (by decide),AI (by decide)];exact q3
  have done:∀ B:T,(f=ae∧(found=ag∨d<g)→False)→WP tab 107 (aa 4) [.inBlock 1] ⟨B,[],j⟩ Q':=by
   intro B x;refine av (cD (M _ _ _ _ _ _ _ _ _ _ rfl q4 ⟨rfl,?_⟩));have:=cG x;rw [show(j.set 4 (.lp 107 s [P.nat 12] dg cN .ready ab 3))=j.set 4 (.lp 107 s [P.nat 12] dg cN (if(ab:Option aE).isNone=ae then .ready else .done) ab 3) from rfl]at this;exact this
  have m:∀ B:T,B.g 6=.c (.ptr 1 0 0)→B.g 7=.c (.ptr 2 0 0)→B.g 9=vi d→(f=ae∧(found=ag∨d<g))→WP tab 107 (aa 4) [.code y0,.inBlock 1] ⟨B,[],j⟩ Q':=by
   intro B I y J l;refine al (.inr rfl) ?_;simp [I,y,J,U,A,b_];refine av (cD (M _ _ _ _ _ _ _ _ _ _ rfl (by rw [AI (by decide),AI (by decide)];exact q4) ⟨rfl,?_⟩));exact Q l
  apply ak;cases f with
  | false=>
   refine al (.inr rfl) ?_;simp [y,q,A];refine aC (by simp) (aO (done _ (by simp)))
  | true=>
   cases found with
   | false=>
    refine al (.inr rfl) ?_;simp [y,q,A];refine aq (by simp) (m _ (by simp [I]) (by simp [y]) (by simp [J]) (by simp))
   | true=>
    by_cases k:d<g
    ·refine al (.inr rfl) ?_;simp [I,y,J,q,U,A,k];refine aq (by simp) (m _ (by simp [I]) (by simp [y]) (by simp [J]) (by simp [k]))
    ·refine al (.inr rfl) ?_;simp [I,y,J,q,U,A,k];refine aC (by simp) (aO (done _ (by simp [k])))
 refine al (.inr rfl) ?_;simp;refine mw h4 ?_;have b0:(H.set 4 (.lp 107 s [P.nat 12] dg cN .busy ab 3))[0]?=aa (.box [.f (fi n)] 0):=by rw [AI (by decide)];exact h0
 have b1:(H.set 4 (.lp 107 s [P.nat 12] dg cN .busy ab 3))[1]?=aa (.box [.f (fi g)] 0):=by rw [AI (by decide)];exact h1
 have X:(H.set 4 (.lp 107 s [P.nat 12] dg cN .busy ab 3))[2]?=aa (.box [.f (.bool found)] 0):=by rw [AI (by decide)];exact h2
 have Y:(H.set 4 (.lp 107 s [P.nat 12] dg cN .busy ab 3))[3]?=aa (.eO ae):=by rw [AI (by decide)];exact h3
 have Z:(H.set 4 (.lp 107 s [P.nat 12] dg cN .busy ab 3))[4]?=aa (.lp 107 s [P.nat 12] dg cN .busy ab 3):=IN a_;have v:=v.set (i:=4) (fun e=>by have:=N 4 e;omega) (.lp 107 s [P.nat 12] dg cN .busy ab 3);generalize H.set 4 (.lp 107 s [P.nat 12] dg cN .busy ab 3)=j at b0 b1 X Y Z v ⊢;have S:∀ i:Nat,i≤4→bB c≠aa i:=fun i hi e=>by have:=N i e;omega
 have step:∀ j:aj,j[0]?=aa (.box [.f (fi n)] 0)→j[1]?=aa (.box [.f (fi g)] 0)→j[2]?=aa (.box [.f (.bool found)] 0)→j[3]?=aa (.eO ae)→j[4]?=aa (.lp 107 s [P.nat 12] dg cN .busy ab 3)→TW j c ps →
   ∃ E:aj,E=fT 64 c j∧ef 64 j c=aa (sl .fs (aX ps))∧E[0]?=aa (.box [.f (fi n)] 0)∧E[1]?=aa (.box [.f (fi g)] 0)∧E[2]?=aa (.box [.f (.bool found)] 0)∧E[3]?=aa (.eO ae)∧E[4]?=aa (.lp 107 s [P.nat 12] dg cN .busy ab 3)∧TW E c ps:=by
  intro j b0 b1 X Y Z hT;obtain⟨m1,O⟩:=hT.mk 63;exact⟨_,rfl,hT.ex (List.length_pos_iff.1 h.l1) 63,O 0 _ b0 (S 0 (by omega)),O 1 _ b1 (S 1 (by omega)),O 2 _ X (S 2 (by omega)),O 3 _ Y (S 3 (by omega)),O 4 _ Z (S 4 (by omega)),m1⟩
 obtain⟨H1,e1,x1,W,a1,a2,a3,a4,a7⟩:=step j b0 b1 X Y Z v;obtain⟨H2,e2,x2,c0,c1,c2,c3,c4,a8⟩:=step H1 W a1 a2 a3 a4 a7;obtain⟨H3,e3,x3,d0,d1,d2,d3,d4,c_⟩:=step H2 c0 c1 c2 c3 c4 a8;refine aG ?_;refine ak (al (.inr rfl) ?_);simp [u,b0,x1,deep,he,←e1];apply ak;rcases hc with⟨rfl,rfl,rfl⟩ | ⟨rfl,rfl,b,z,hc⟩
 ·refine ak (al (.inr rfl) ?_);simp;refine bp (by simp) ?_;exact F _ _ W a1 a2 a3 a4 (by simp [u]) (by simp [K]) (by simp [L]) (by simp) (by simp)
 ·rcases hc with⟨rfl,rfl,rfl⟩ | ⟨rfl,hl⟩
  ·refine ak (al (.inr rfl) ?_);simp [u,W,x2,deep,z,←e2,show n≤1152921504606846976 by omega];refine bp (by simp) ?_;exact F _ _ c0 c1 c2 c3 c4 (by simp [u]) (by simp [K]) (by simp [L]) (by simp) (by simp)
  ·refine ak (al (.inr rfl) ?_);simp [u,W,x2,deep,z,←e2,show n≤1152921504606846976 by omega];refine aq (by simp) ?_;refine al (.inr rfl) ?_;simp [u,c0,x3,deep,hl,←e3];exact F _ _ d0 d1 d2 d3 d4 (by simp [u]) (by simp [K]) (by simp [L]) (by simp) (by simp)
end Go.Proofs.YtnaofdffomdmhaaGreat
namespace Go.Proofs.YtnaofdffomdmhaaGreat
open Go Km
def OI(L:List (List bI))(n x:Int):Prop:=∃ t ∈ L,InN t n x
theorem agq{H H':aj}{n b:Int}{found:Bool}(h:QH H n b found)(u:∀ i:Nat,i<H.length→H'[i]?=H[i]?):QH H' n b found:=by
 obtain⟨h0,g,j,l,s,m,q⟩:=h;have k:∀(i:Nat) y,H[i]?=aa y→H'[i]?=aa y:=fun i y d=>by rw [u i (an d)];exact d
 exact⟨k _ _ h0,k _ _ g,k _ _ j,k _ _ l,s,k _ _ m,q⟩
theorem Np(F:Nat)(l:List FC)(L:List (List bI))(o:ahz F l L)(k:∀ t ∈ L,vC t)(n:Int)(hn:0≤n)(K:n≤1000000000000):∃ d f,iy (OI L n) d f∧(0≤d∧d≤1000001000000) ∧
  bh tab 107 [.c (.f (.fn F l)),vi n]=Eq (.t [vi d,vb f]):=by
 have key:∃ r,(∃ d f,iy (OI L n) d f∧(0≤d∧d≤1000001000000)∧r=.t [vi d,vb f])∧bh tab 107 [.c (.f (.fn F l)),vi n] r:=by
  refine AA amT rfl fun Q p=>?_;have z:∀ s:T,s.g 3=.c (.ptr 0 0 0)→s.g 6=.c (.ptr 1 0 0)→s.g 7=.c (.ptr 2 0 0)→s.g 11=.c (.f (.fn F l)) →
    WP tab 107 ab [.code Dg,.inBlock 0,.code za] ⟨s,[],[.box [.f (fi n)] 0,.box [.f (fi 0)] 0,.box [.f (.bool ag)] 0]⟩ Q:=by
   intro s a O S A;obtain⟨y,Z,b,found,⟨-,w1,w2,w3,N,w4,-⟩,q,U⟩:=o 4 [.box [.f (fi n)] 0,.box [.f (fi 0)] 0,.box [.f (.bool ag)] 0,.eO ae,.lp 107 s [P.nat 12] dg cN .ready ab 3]
    (fun j H=>∃ b found,QH H n b found∧iy (OI (L.take j) n) b found∧(0≤b∧b≤1000001000000))
    ⟨0,ag,⟨rfl,rfl,rfl,rfl,s,rfl,a,O,S⟩,.inl ⟨rfl,rfl,fun d v=>by obtain⟨t,m,-⟩:=v;simp at m⟩,by omega,by omega⟩ fun j W Y J c ⟨b,found,u,q,U⟩ hk X w hc=>by
     obtain⟨d,f,I,v,hy⟩:=xN L[j] (k _ (anc W)) n hn K;have l4:4<Y.length:=by obtain⟨-,-,-,-,s',e,-⟩:=u;exact an e
     obtain⟨r,H',E,rfl,B⟩:=hy J b found c (agq u hk) w.tw (fun i hi=>by have:=hc i hi;omega);have M:L.take (j+1)=L.take j++[L[j]]:=by rw [aqW,By W];rfl
     refine⟨H',E,_,_,B,iy.join q I fun x=>?_,?_⟩
     ·unfold OI;rw [M];constructor
      ·rintro⟨t,m,h⟩;rcases aqC.1 m with m | m
       ·exact .inl ⟨t,m,h⟩
       ·rw [aqs.1 m]at h;exact .inr h
      ·rintro(⟨t,m,h⟩ | h)
       ·exact⟨t,aru _ m,h⟩
       ·exact⟨_,ar7 _ (aqs.2 rfl),h⟩
     ·split<;>omega
   rw [aqS]at q;refine iP (g:=F) (by rw [Bu,A];simp [bQ]) Z ?_;refine jO w4 (by decide) ?_;refine av ?_;apply ai;have v1:(y.set 4 (.lp 107 N [P.nat 12] dg cN .exhausted ab 3))[1]?=aa (.box [.f (fi b)] 0):=by rw [AI (by decide)];exact w1
   have v2:(y.set 4 (.lp 107 N [P.nat 12] dg cN .exhausted ab 3))[2]?=aa (.box [.f (.bool found)] 0):=by rw [AI (by decide)];exact w2
   have v3:(y.set 4 (.lp 107 N [P.nat 12] dg cN .exhausted ab 3))[3]?=aa (.eO ae):=by rw [AI (by decide)];exact w3
   simp [O,S,v1,v2];refine aB (p _ _ _ ⟨b,found,q,U,rfl⟩ (.inr ⟨3,rfl,v3,.t [vi b,vb found],?_,by simp [iA,cC,bg]⟩));simp [Km.results,cI,bg]
  apply ai;simp;apply ai;simp;apply ak;apply ai;simp;refine aG ?_;exact z _ (by simp) (by simp) (by simp) (by simp)
 obtain⟨r,⟨d,f,q,v,rfl⟩,h⟩:=key;exact⟨d,f,q,v,h.eq⟩
def rk(ss ts:List (List bI)):List (List bI):=(ss.map fun s=>ts.map fun t=>s++t).flatten
theorem NI(ss ts:List (List bI)):(rk ss ts).length=ss.length*ts.length:=by
 unfold rk;induction ss with
 | nil=>simp| cons s ss b=>rw [aqz,List.flatten_cons,api,b,aqr,List.length_cons,Nat.succ_mul,Nat.add_comm]
theorem ZN{ss ts:List (List bI)}{i k:Nat}(hi:i<ss.length)(d:k<ts.length):(rk ss ts)[i*ts.length+k]?=aa (ss[i]++ts[k]):=by
 have h:=nq (rows:=ss.map fun s=>ts.map fun t=>s++t) (sz:=ts.length) (j:=i) (row:=ts.map fun t=>ss[i]++t) (fun r g=>by
  obtain⟨s,-,rfl⟩:=aqJ.1 g;simp) (by simp [hi])
 have b:(ts.map fun t=>ss[i]++t)[k]?=aa (ss[i]++ts[k]):=by simp [d]
 rw [←h,List.getElem?_take,ba d,aqB]at b;exact b
theorem ZO(x y:FC):bh tab 108 [.a [.f x],.a [.f y]]=Eq (.c (.f (.fn 179 [.fp [x] 0,.fp [y] 0]))):=by
 refine bh.eq (bS rfl rfl fun Q b=>?_);apply ai;simp;apply ai;simp;refine aB (b _ _ ?_);simp [deep]
theorem CD(g g':Tg)(ss ts:List dr)(hs:ss.length≤1000)(ht:ts.length≤1000)(b9:∀ s ∈ ss,s.fs.length≤1000)(b_:∀ t ∈ ts,t.fs.length≤1000) :
  ahz 179 [.fp [sl g (aI ss)] 0,.fp [sl g' (aI ts)] 0] (rk (ss.map (·.fs)) (ts.map (·.fs))):=by
 intro b H PP h0 hy;have v:(rk (ss.map (·.fs)) (ts.map (·.fs))).length=ss.length*ts.length:=by rw [NI,aqr,aqr]
 have U:∀ H:aj,bu H (.f (sl g (aI ss)))=aa ss.length:=fun H=>by simp
 have W:∀ H:aj,bu H (.f (sl g' (aI ts)))=aa ts.length:=fun H=>by simp
 obtain⟨r,X,he,rfl,f⟩:∃ r X,Ev tab (.fn 179) [.c (.yl b),.c (.f (.fp [sl g (aI ss)] 0)),.c (.f (.fp [sl g' (aI ts)] 0))] H r X∧(r=.t []∧PP (ss.length*ts.length) X):=by
  refine cB rfl rfl fun Q hQ=>?_;apply ai;simp [mW,U];refine bM ss.length (fun i s J=>s.g 0=.c (.yl b)∧s.g 2=.c (.f (.fp [sl g' (aI ts)] 0))∧s.g 9=.c (.f (sl g (aI ss)))∧PP (i*ts.length) J) (by omega) (by decide) (by decide) (by simp) (by simp) ⟨by simp,by simp,by simp,by simpa using h0⟩ ?_ ?_
  ·rintro i s J hi ⟨g0,E,I,K⟩ h hb next
   have y:=fun H:aj=>oU (H:=H) (gM ss) (jv (l:=ss) (j:=i) hi) rfl;have u:=fun H:aj=>bF (H:=H) (g:=g) (rows:=aI ss) (sz:=1) (k:=.i64) (i:=i) (by omega) (by simpa using hi);simp at y u;refine aG ?_;apply ai;simp [I,h,u,y];apply ai;simp [E,mW,W];refine bM ts.length (fun k s' J=>s'.g 0=.c (.yl b)∧s'.g 2=.c (.f (.fp [sl g' (aI ts)] 0))∧s'.g 9=.c (.f (sl g (aI ss)))∧s'.g 5=.c (.f (sl ss[i].tg (aX ss[i].fs)))∧s'.g 16=.c (.f (sl g' (aI ts)))∧s'.g 10=s.g 10∧s'.g 11=s.g 11∧PP (i*ts.length+k) J) (by omega) (by decide) (by decide) (by simp) (by simp)
    ⟨by simp [g0],by simp [E],by simp [I],by simp,by simp,by simp,by simp,by simpa using K⟩ ?_ ?_
   ·rintro k s' J Z ⟨g0,E,I,e,B,z,A,K⟩ S n N;have m:=fun H:aj=>oU (H:=H) (gM ts) (jv (l:=ts) (j:=k) Z) rfl;have d:=fun H:aj=>bF (H:=H) (g:=g') (rows:=aI ts) (sz:=1) (k:=.i64) (i:=k) (by omega) (by simpa using Z);simp at m d;have a8:i*ts.length+k<(rk (ss.map (·.fs)) (ts.map (·.fs))).length:=by
     rw [v];have:(i+1)*ts.length≤ss.length*ts.length:=Nat.mul_le_mul_right _ hi;rw [aqT,asm]at this;omega
    have p:(rk (ss.map (·.fs)) (ts.map (·.fs)))[i*ts.length+k]=ss[i].fs++ts[k].fs:=by
     have:=ZN (ss:=ss.map (·.fs)) (ts:=ts.map (·.fs)) (i:=i) (k:=k) (by simpa using hi) (by simpa using Z);simp only [aqr,List.getElem_map]at this;exact(BY.1 this).2
    have d_:=b9 _ (anc hi);have e_:=b_ _ (anc Z);obtain⟨Y,q⟩:=aK (J++[bo.box [.f (sl ss[i].tg (aX ss[i].fs)),.f (sl ts[k].tg (aX ts[k].fs))] 0]);have b1:Y[J.length]?=aa (.box [.f (sl ss[i].tg (aX ss[i].fs)),.f (sl ts[k].tg (aX ts[k].fs))] 0):=by rw [q];simp
    have a_:aX (ss[i].fs++ts[k].fs)=aX ss[i].fs++aX ts[k].fs:=by simp [aX]
    obtain⟨r,a,M,c,rfl,L,a7,d9,o⟩:=vN (tab:=tab) (H:=Y) (F:=180) (G:=261) (sz:=4) (bytes:=64) (zs:=[.au,fi 0,fi 0,.au]) ajl ajs (by decide) rfl (b:=J.length) [(.f (sl ss[i].tg (aX ss[i].fs)),aX ss[i].fs),(.f (sl ts[k].tg (aX ts[k].fs)),aX ts[k].fs)] b1 (by simp)
     (fun x O=>by
      simp only [aqA,ard,or_false]at O;rcases O with rfl | rfl
      ·exact⟨bY _,fun H' _=>⟨by simp,lf (bY _)⟩⟩
      ·exact⟨bY _,fun H' _=>⟨by simp,lf (bY _)⟩⟩)
     (by simp;omega) (Ec (by simp;omega) (by decide))
    have L:LR a c 4 (aX (ss[i].fs++ts[k].fs)):=by
     rw [a_];simpa using L
    have c_:Y.length=J.length+1:=by rw [q];simp
    obtain⟨J3,w,f⟩:=hy (i*ts.length+k) a8 J a c K (fun x O=>by rw [a7 x (by omega),q,AT O]) (by omega) (by rw [p];exact .inr L) (fun x O=>by have:=o x O;omega);have M:Ev tab (.fn 180) [.c (.sl J.length 0 2 2 0 1)] Y (.c c) a:=M;refine aG ?_;apply ai;simp [S,B,d,m];apply ak;refine al (.inl rfl) ?_;simp [g0,e,←q,M.eq,w.eq];refine bp (by simp) ?_;refine av (N _ _ ?_ (by simp [S]) (by simp [n]));exact⟨by simp [g0],by simp [E],by simp [I],by simp [e],by simp [B],by simp [z],by simp [A],f⟩
   ·rintro s' J ⟨g0,E,I,e,B,z,A,K⟩ - -;refine av (next _ _ ⟨by simp [g0],by simp [E],by simp [I],?_⟩ (by simp [A,h]) (by simp [z,hb]));rw [aqT,asm];exact K
  ·rintro s J ⟨g0,E,I,K⟩ h hb;exact cD (hQ _ _ _ rfl rfl ⟨rfl,K⟩)
 exact⟨X,he,by rw [v];exact f⟩
end Go.Proofs.YtnaofdffomdmhaaGreat
namespace Go.Proofs.YtnaofdffomdmhaaGreat
open Go Km
def pd(n p:Int):bI:=⟨.nil,[],0,n,.fs,[p]⟩
def td(n p:Int):dr:=⟨.fs,[pd n p]⟩
def xb(ts:List dr):Prop:=∃ n p,yx n p∧ts=[td n p]
def gv(ts:List dr)(d:Int):Prop:=∃ n p,ts=[td n p]∧d % n=p
theorem mq{n p d:Int}:gv [td n p] d↔d % n=p:=by
 constructor
 ·rintro⟨b,g,h,e⟩;simp [td,pd]at h;rw [h.1,h.2];exact e
 ·exact fun e=>⟨n,p,rfl,e⟩
theorem Es(g:Tg)(n p:Int):sl g (aI [td n p])=tC n p:=by cases g<;>rfl
theorem aad{n p:Int}(h:yx n p):yx n (NV n p)∧∀ x:Int,x % n=NV n p↔(x+1) % n=p:=by
 obtain⟨b,d,g,j⟩:=h;unfold NV yx;obtain rfl | rfl | rfl | rfl | rfl | rfl:n=1∨n=2∨n=3∨n=4∨n=5∨n=6:=by omega
 all_goals split<;>refine⟨⟨by omega,by omega,by omega,by omega⟩,fun x=>by omega⟩
theorem wF(g:Tg)(ts:List dr)(h:xb ts):∃ us,xb us∧(∀ x,gv us x↔gv ts (x+1))∧bh tab 106 [.a [.f (sl g (aI ts))],vi (-1)]=Eq (.t [.a [.f (sl .fs (aI us))],vi 0]):=by
 obtain⟨n,p,b,rfl⟩:=h;obtain⟨d,j⟩:=aad b;refine⟨[td n (NV n p)],⟨_,_,d,rfl⟩,fun x=>by rw [mq,mq];exact j x,?_⟩;rw [Es,Es];exact aag b
theorem CG{n p:Int}(h:yx n p):Mod (pd n p):=by
 obtain⟨b,d,g,j⟩:=h;refine⟨?_,by show n≤1000;omega⟩;show fU ⟨.nil,[],0,n,.fs,[p]⟩=ae;simp [fU,en];omega
theorem tP{n p d:Int}(h0:0≤d):hasB (pd n p) d=ae↔d % n=p:=by
 simp [hasB,uY,pd,h0]
theorem C1{n p:Int}(h:yx n p):mN [td n p]=ae:=by
 have:=(CG h).ok;simp [mN,ju,td,this]
theorem ahY(n p:Int):∀ t ∈ [td n p],t.Sm:=by simp [dr.Sm,td,pd,bI.Sm]
theorem wC(g g':Tg)(ss ts:List dr)(S:xb ss)(U:xb ts)(n:Int)(Y:-1000000000000≤n)(O:n≤1000000000000) :
  ∃ d f,iy (fun x=>max n 0≤x∧gv ss x∧gv ts x) d f∧(0≤d∧d≤1000001000000)∧bh tab 56 [.a [.f (sl g (aI ss))],.a [.f (sl g' (aI ts))],vi n]=Eq (.t [vi d,vb f]):=by
 obtain⟨j,m,b,rfl⟩:=S;obtain⟨l,q,z,rfl⟩:=U;have u:=(Co g [td j m] (by simp) (ahY j m)).eq;rw [C1 b]at u;have v:=(Co g' [td l q] (by simp) (ahY l q)).eq;rw [C1 z]at v;have B:=ZO (sl g (aI [td j m])) (sl g' (aI [td l q]));have s:=CD g g' [td j m] [td l q] (by simp) (by simp) (by simp [td]) (by simp [td]);have K:rk ([td j m].map (·.fs)) ([td l q].map (·.fs))=[[pd j m,pd l q]]:=rfl;rw [K]at s;obtain⟨d,f,N,M,A⟩:=Np _ _ _ s (fun x W=>by
  rw [aqs.1 W];refine⟨by simp,by simp,fun p E=>?_,?_,?_⟩
  ·simp only [aqA,ard,or_false]at E;rcases E with rfl | rfl
   ·exact CG b
   ·exact CG z
  ·obtain⟨a1,F,_,_⟩:=b;obtain⟨b1,H,_,_⟩:=z;have:=Int.mul_le_mul F H (by omega) (by omega);simp only [fC,pd,Int.mul_one];omega
  ·simp [dd,pd]) (max n 0) (by omega) (by omega)
 refine⟨d,f,N.iff fun x=>?_,M,bh.eq (bS rfl rfl fun Q L=>?_)⟩
 ·rw [mq,mq];unfold OI InN;constructor
  ·rintro⟨h0,I,J⟩;refine⟨_,aqs.2 rfl,h0,?_⟩;simp only [tn,List.all_cons,List.all_nil,Bool.and_true,If];exact⟨(tP (by omega)).2 I,(tP (by omega)).2 J⟩
  ·rintro⟨y,X,h0,b⟩;rw [aqs.1 X]at b;simp only [tn,List.all_cons,List.all_nil,Bool.and_true,If]at b;exact⟨h0,(tP (by omega)).1 b.1,(tP (by omega)).1 b.2⟩
 ·apply ai;simp;apply ak;apply ai;simp [u,v];refine bp (by simp) ?_;apply ai;simp [B,A];refine aB (L _ _ ?_);simp
theorem agb(g g':Tg)(ss ts:List dr)(v:xb ss)(y:xb ts)(b:∀ x,0≤x→¬ (gv ss x∧gv ts x)):bh tab 57 [.a [.f (sl g (aI ss))],.a [.f (sl g' (aI ts))]]=Eq (.t [.a [.f .au],vi 0]):=by
 obtain⟨z,B,q,rfl⟩:=v;obtain⟨A,E,s,rfl⟩:=y;rw [Es,Es];refine ajL q s ?_;cases u:com (z,B) (A,E)with
 | false=>rfl
 | true=>
  obtain⟨d,j,_,l,m⟩:=afu u;exact absurd ⟨mq.2 l,mq.2 m⟩ (b d j)
structure rA(s:aR):Prop where
 len:1≤s.len∧s.len≤400
 cn:s.cs.length≤3
 min:∀ {c},c ∈ s.cs→0≤c.min∧c.min≤1180
 sm:s.Sm
 v:dW s=ae
 few:∀ c ∈ s.cs,xb c.ts
 xs:s.xs=[]
end Go.Proofs.YtnaofdffomdmhaaGreat
namespace Go.Proofs.YtnaofdffomdmhaaGreat
open Go Km
structure Pr where
 c:cA
 d:cA
 k:Int
 gx:Tg
 xs:List dr
 gy:Tg
 ys:List dr
def Pr.row(p:Pr):List C:=[.f (sl p.c.mg (aI p.c.ts)),.f (fi p.c.min),.f (sl p.d.mg (aI p.d.ts)),.f (fi p.d.min),.f (fi p.k),.f (sl p.gx (aI p.xs)),.f (sl p.gy (aI p.ys)),.f (fi (max 0 (-p.k)))]
def Ac(la b:Int)(c d:cA):Int:=(c.min-d.min-b) / 1440+1
def zP(la b:Int)(c d:cA):Int:=(c.min-d.min+la-1) / 1440
structure pU(a b:aR)(p:Pr):Prop where
 ca:p.c ∈ a.cs
 db:p.d ∈ b.cs
 lo:Ac a.len b.len p.c p.d≤p.k
 hi:p.k≤zP a.len b.len p.c p.d
 xo:xb p.xs
 yo:xb p.ys
 xm:∀ e,0≤e→(gv p.xs e↔gv p.c.ts (e+max 0 (-p.k)))
 ym:∀ e,0≤e→(gv p.ys e↔gv p.d.ts (e+max 0 p.k))
theorem vS(a b:aR):bh tab 55 [.a (a.row.map .f),.a (b.row.map .f)]=Eq (.c (.f (.fn 104 [.fp a.row 0,.fp b.row 0]))):=by
 refine bh.eq (bS rfl rfl fun Q d=>?_);apply ai;simp [aR.row];apply ai;simp;refine aB (d _ _ ?_);simp [deep,aR.row]
theorem nm{bb:Nat}{H:aj}(a b:aR)(ha:rA a)(hb:rA b)(PP:List Pr→aj→Prop)(RR:Pr→aj→Prop)(h0:PP [] H)
  (hk:∀ ps J J',PP ps J→(∀ i:Nat,i<H.length→J'[i]?=J[i]?)→J.length≤J'.length→PP ps J')
  (hy:∀ ps p J,PP ps J→H.length≤J.length→pU a b p→∃(r:Bool) (J':aj),Ev tab (.yield bb) [.a p.row] J (vb r) J'∧(if r then PP (ps++[p]) J'∧J.length≤J'.length∧∀ i:Nat,H.length≤i→i<J.length→J'[i]?=J[i]? else RR p J')) :
  ∃ H2,Ev tab (.fn 104) [.c (.yl bb),.c (.f (.fp a.row 0)),.c (.f (.fp b.row 0))] H (.t []) H2∧((∃ ps,PP ps H2∧(∀ p ∈ ps,pU a b p)∧∀ c ∈ a.cs,∀ d ∈ b.cs,∀ k,Ac a.len b.len c d≤k→k≤zP a.len b.len c d→∃ p ∈ ps,p.c=c∧p.d=d∧p.k=k)∨∃ p,pU a b p∧RR p H2):=by
 obtain⟨y_,z8⟩:=ha.len;obtain⟨z9,z_⟩:=hb.len;have x6:=ha.cn;have x8:=hb.cn;have mM:∀ H:aj,bu H (.f (sl a.cg (aL a.cs)))=aa a.cs.length:=fun H=>by simp
 have r5:∀ H:aj,bu H (.f (sl b.cg (aL b.cs)))=aa b.cs.length:=fun H=>by simp
 have p_:∀(J:aj),aU J ab (.c (.f (.fp a.row 0)))=aa (.c (.f (sl a.cg (aL a.cs))))∧aU J ab (.c (.f (.fp a.row 1)))=aa (vi a.len):=fun J=>⟨rfl,rfl⟩
 have q_:∀(J:aj),aU J ab (.c (.f (.fp b.row 0)))=aa (.c (.f (sl b.cg (aL b.cs))))∧aU J ab (.c (.f (.fp b.row 1)))=aa (vi b.len):=fun J=>⟨rfl,rfl⟩
 obtain⟨r,H2,he,rfl,hP⟩:∃ r H2,Ev tab (.fn 104) [.c (.yl bb),.c (.f (.fp a.row 0)),.c (.f (.fp b.row 0))] H r H2∧(r=.t []∧((∃ ps,PP ps H2∧(∀ p ∈ ps,pU a b p)∧∀ c ∈ a.cs,∀ d ∈ b.cs,∀ k,Ac a.len b.len c d≤k→k≤zP a.len b.len c d→∃ p ∈ ps,p.c=c∧p.d=d∧p.k=k)∨∃ p,pU a b p∧RR p H2)):=by
  refine cB rfl rfl fun Q hQ=>?_;apply ai;simp [p_,mM];refine bM a.cs.length (fun i t J=>t.g 0=.c (.yl bb)∧t.g 1=.c (.f (.fp a.row 0))∧t.g 2=.c (.f (.fp b.row 0))∧t.g 13=.c (.f (sl a.cg (aL a.cs)))∧H.length≤J.length∧∃ ps,PP ps J∧(∀ p ∈ ps,pU a b p)∧∀(B:Nat) (hi:B<a.cs.length),B<i→∀ d ∈ b.cs,∀ k,Ac a.len b.len a.cs[B] d≤k→k≤zP a.len b.len a.cs[B] d→∃ p ∈ ps,p.c=a.cs[B]∧p.d=d∧p.k=k) (by omega) (by decide) (by decide) (by simp) (by simp)
   ⟨by simp,by simp,by simp,by simp,aft _,[],h0,by simp,fun B _ h=>by omega⟩ ?_ ?_
  ·rintro i t J hi ⟨g0,Y,X,v,s7,ps,hP,A,l⟩ hc s_ next
   have n9:=fun H:aj=>bF (H:=H) (g:=a.cg) (rows:=aL a.cs) (sz:=2) (k:=.i64) (i:=(i:Int)) (by omega) (by simp;omega);have j4:=fun H:aj=>bR (H:=H) (cP a.cs) (dP hi);simp only [aqI]at n9;have t7:=ha.min (anc hi);have e_:=ha.few _ (anc hi);have M:=anc hi;obtain⟨c,j9⟩:=aK (a.cs[i]);rw [←j9]at j4 t7 e_ M;simp only [cA.row,aqz,aqK]at j4;refine aG ?_;apply ai;simp [hc,v,n9,j4,-az];obtain⟨S,i5⟩:=aK (J.length);obtain⟨J1,y⟩:=aK (J++[bo.box [.f (sl c.mg (aI c.ts)),.f (fi c.min)] 0]);have c5:J1[S]?=aa (.box [.f (sl c.mg (aI c.ts)),.f (fi c.min)] 0):=by rw [y,i5];simp
   have b9:PP ps J1:=hk ps J J1 hP (fun i hi=>by rw [y,AT (by omega)]) (by rw [y,api];omega);have o_:J1.length=S+1:=by rw [y,api,i5];rfl
   rw [←y,←i5];apply ai;simp [X,q_,r5];refine bM b.cs.length (fun j t' J=>t'.g 0=.c (.yl bb)∧t'.g 1=.c (.f (.fp a.row 0))∧t'.g 2=.c (.f (.fp b.row 0))∧t'.g 13=.c (.f (sl a.cg (aL a.cs)))∧t'.g 14=t.g 14∧t'.g 15=t.g 15∧t'.g 5=.c (.ptr S 0 0)∧t'.g 20=.c (.f (sl b.cg (aL b.cs)))∧S<J.length∧J[S]?=aa (.box [.f (sl c.mg (aI c.ts)),.f (fi c.min)] 0)∧∃ ps,PP ps J∧(∀ p ∈ ps,pU a b p)∧(∀(B:Nat) (hi:B<a.cs.length),B<i→∀ d ∈ b.cs,∀ k,Ac a.len b.len a.cs[B] d≤k→k≤zP a.len b.len a.cs[B] d→∃ p ∈ ps,p.c=a.cs[B]∧p.d=d∧p.k=k) ∧
     ∀(O:Nat) (hj:O<b.cs.length),O<j→∀ k,Ac a.len b.len c b.cs[O]≤k→k≤zP a.len b.len c b.cs[O]→∃ p ∈ ps,p.c=c∧p.d=b.cs[O]∧p.k=k) (by omega) (by decide) (by decide) (by simp) (by simp)
    ⟨by simp [g0],by simp [Y],by simp [X],by simp [v],by simp,by simp,by simp,by simp,by omega,c5,ps,b9,A,l,fun O _ h=>by omega⟩ ?_ ?_
   ·clear hP A l b9 c5 o_ y;rintro j t' J hj ⟨g0,Y,X,v,F,I,g5,K,m_,c5,ps,hP,A,l,q⟩ j8 j7 j6;have n_:=fun H:aj=>bF (H:=H) (g:=b.cg) (rows:=aL b.cs) (sz:=2) (k:=.i64) (i:=(j:Int)) (by omega) (by simp;omega);have j5:=fun H:aj=>bR (H:=H) (cP b.cs) (dP hj);simp only [aqI]at n_;have t9:=hb.min (anc hj);have f7:=hb.few _ (anc hj);have N:=anc hj;obtain⟨d,j_⟩:=aK (b.cs[j]);rw [←j_]at j5 t9 f7 N;simp only [cA.row,aqz,aqK]at j5;obtain⟨W,i6⟩:=aK (J.length);obtain⟨J1,y⟩:=aK (J++[bo.box [.f (sl d.mg (aI d.ts)),.f (fi d.min)] 0]);have c7:J1[W]?=aa (.box [.f (sl d.mg (aI d.ts)),.f (fi d.min)] 0):=by rw [y,i6];simp
    have g_:J1[S]?=aa (.box [.f (sl c.mg (aI c.ts)),.f (fi c.min)] 0):=by rw [y,AT m_];exact c5
    have b9:PP ps J1:=hk ps J J1 hP (fun i hi=>by rw [y,AT (by omega)]) (by rw [y,api];omega);have o_:J1.length=W+1:=by rw [y,api,i6];rfl
    obtain⟨lo,u7⟩:=aK (Ac a.len b.len c d);obtain⟨u,u5⟩:=aK (zP a.len b.len c d);have n8:(c.min-d.min-b.len) / 1440+1=lo:=u7.symm;have k_:(c.min-d.min+a.len-1) / 1440=u:=u5.symm;have f1:=th (c.min-d.min-b.len) (by omega) (by omega);have f2:=th (c.min-d.min+a.len-1) (by omega) (by omega);rw [k_]at f2;have lob:-1≤lo∧lo≤1:=by omega
    have x9:-1≤u∧u≤1:=by omega
    have m5:∀ J:aj,J[S]?=aa (.box [.f (sl c.mg (aI c.ts)),.f (fi c.min)] 0)→aU J ab (.c (.ptr S 1 0))=aa (vi c.min)∧aU J (aa 2) (.c (.ptr S 0 0))=aa (.a [.f (sl c.mg (aI c.ts)),.f (fi c.min)])∧aU J (aa 1) (.c (.ptr S 0 0))=aa (.a [.f (sl c.mg (aI c.ts))]):=fun J h=>by refine⟨?_,?_,?_⟩<;>simp [aU,aF,h,aT]
    have m7:∀ J:aj,J[W]?=aa (.box [.f (sl d.mg (aI d.ts)),.f (fi d.min)] 0)→aU J ab (.c (.ptr W 1 0))=aa (vi d.min)∧aU J (aa 2) (.c (.ptr W 0 0))=aa (.a [.f (sl d.mg (aI d.ts)),.f (fi d.min)])∧aU J (aa 1) (.c (.ptr W 0 0))=aa (.a [.f (sl d.mg (aI d.ts))]):=fun J h=>by refine⟨?_,?_,?_⟩<;>simp [aU,aF,h,aT]
    obtain⟨v5,-,-⟩:=m5 J1 g_;obtain⟨v7,-,-⟩:=m7 J1 c7;refine aG ?_;apply ai;simp [j8,K,n_,j5,-az];rw [←y,←i6];apply ai;simp [X,g5,v5,v7,q_,-az,aV (n:=c.min-d.min),aV (n:=c.min-d.min-b.len),f1,n8,aV (n:=lo)];apply ai;simp [Y,g5,v5,v7,p_,-az,aV (n:=c.min-d.min),aV (n:=c.min-d.min+a.len),aV (n:=c.min-d.min+a.len-1),f2];apply ai;simp;refine aG ?_;refine cH (fun n s=>∃(k:Int) (m:T) (J:aj),s=⟨m,[],J⟩∧n=(u+1-k).toNat∧lo≤k∧(k=lo∨k≤u+1)∧m.g 0=.c (.yl bb)∧m.g 1=.c (.f (.fp a.row 0))∧m.g 2=.c (.f (.fp b.row 0))∧m.g 13=.c (.f (sl a.cg (aL a.cs)))∧m.g 14=t.g 14∧m.g 15=t.g 15∧m.g 5=.c (.ptr S 0 0)∧m.g 7=.c (.ptr W 0 0)∧m.g 9=vi u∧m.g 10=vi k∧m.g 20=.c (.f (sl b.cg (aL b.cs)))∧m.g 21=t'.g 21∧m.g 22=t'.g 22∧W<J.length∧J[S]?=aa (.box [.f (sl c.mg (aI c.ts)),.f (fi c.min)] 0)∧J[W]?=aa (.box [.f (sl d.mg (aI d.ts)),.f (fi d.min)] 0)∧∃ ps,PP ps J∧(∀ p ∈ ps,pU a b p)∧(∀(B:Nat) (hi:B<a.cs.length),B<i→∀ d ∈ b.cs,∀ k,Ac a.len b.len a.cs[B] d≤k→k≤zP a.len b.len a.cs[B] d→∃ p ∈ ps,p.c=a.cs[B]∧p.d=d∧p.k=k) ∧
     (∀(O:Nat) (hj:O<b.cs.length),O<j→∀ k,Ac a.len b.len c b.cs[O]≤k→k≤zP a.len b.len c b.cs[O]→∃ p ∈ ps,p.c=c∧p.d=b.cs[O]∧p.k=k)∧∀ k',lo≤k'→k'<k→∃ p ∈ ps,p.c=c∧p.d=d∧p.k=k') (u+1-lo).toNat
     ⟨lo,_,J1,rfl,rfl,by omega,.inl rfl,by simp [g0],by simp [Y],by simp [X],by simp [v],by simp [F],by simp [I],by simp [g5],by simp,by simp,by simp,by simp [K],by simp,by simp,by omega,g_,c7,ps,b9,A,l,q,fun k' _ _=>by omega⟩ ?_
    clear hP A l q b9 c5 g_ c7 v5 v7;rintro n s ⟨k,m,J2,rfl,rfl,k0,k1,g0,Y,X,v,F,I,g5,g7,g9,z,K,a7,a8,y8,c5,c7,ps,hP,A,l,q,b_⟩ ih;apply ak;apply ai;simp [g9,z];by_cases u6:k≤u
    ·refine aq (by simp [u6]) (aO ?_);obtain⟨v5,w5,x5⟩:=m5 J2 c5;obtain⟨v7,w7,x7⟩:=m7 J2 c7;have f_:unV .neg (vi k)=aa (vi (-k)):=by
      show aa (vi (IntKind.i64.wrap (0-k)))=_;rw [Int.zero_sub,aV]
     obtain⟨U,f8⟩:=aK (J2.length);have i4:∀(m:T) (E:aj) (p:Pr),pU a b p→p.c=c→p.d=d→p.k=k→m.g 0=.c (.yl bb)→m.g 1=.c (.f (.fp a.row 0))→m.g 2=.c (.f (.fp b.row 0))→m.g 13=.c (.f (sl a.cg (aL a.cs)))→m.g 14=t.g 14→m.g 15=t.g 15→m.g 5=.c (.ptr S 0 0)→m.g 7=.c (.ptr W 0 0)→m.g 9=vi u→m.g 10=vi k→m.g 11=.c (.ptr U 0 0)→m.g 20=.c (.f (sl b.cg (aL b.cs)))→m.g 21=t'.g 21→m.g 22=t'.g 22 →
       E[U]?=aa (.box p.row 0)→(∀ i:Nat,i<J2.length→E[i]?=J2[i]?)→E.length=J2.length+1 →
       WP tab 104 ab [.code yI,.inBlock 5,.code yJ,.inLoop yH,.inBlock 4,.inBlock 3,.code (rE 22 88),.inLoop (il 2 22 21 23 88 yG),.inBlock 2,.inBlock 1,.code (rE 15 89),.inLoop (il 0 15 14 16 89 C7),.inBlock 0] ⟨m,[],E⟩ Q:=by
      intro m E p i8 u_ v8 v9 g0 Y X v F I g5 g7 g9 z r_ K a7 a8 u9 i7 y6;have s8:PP ps E:=hk ps J2 E hP (fun i hi=>i7 i (by omega)) (by omega);obtain⟨r,J4,t_,hr⟩:=hy ps p E s8 (by omega) i8;have v_:p.row.length=8:=rfl;have tk:List.take 8 p.row=p.row:=rfl;have l8:aU E (aa 8) (.c (.ptr U 0 0))=aa (.a p.row):=by simp [aU,aF,u9,aT,v_,tk]
      apply ak;refine al (.inl rfl) ?_;simp [g0,r_,l8,-az,t_.eq];cases r with
      | false=>exact aq (by simp) (aB (hQ _ _ (.t []) rfl rfl ⟨rfl,.inr ⟨p,i8,by simpa using hr⟩⟩))
      | true=>
      obtain⟨s9,y7,m9⟩:PP (ps++[p]) J4∧E.length≤J4.length∧∀ i:Nat,H.length≤i→i<E.length→J4[i]?=E[i]?:=by simpa using hr
      refine aC (by simp) (aO (av ?_));refine al (.inl rfl) ?_;simp [z,aV (n:=k+1)];have n5:J4[S]?=J2[S]?:=by rw [m9 S (by omega) (by omega),i7 S (by omega)]
      have n7:J4[W]?=J2[W]?:=by rw [m9 W (by omega) (by omega),i7 W (by omega)]
      refine ih (u+1-(k+1)).toNat _ (by omega) ⟨k+1,_,J4,rfl,rfl,by omega,.inr (by omega),by simp [g0],by simp [Y],by simp [X],by simp [v],by simp [F],by simp [I],by simp [g5],by simp [g7],by simp [g9],by simp,by simp [K],by simp [a7],by simp [a8],by omega,by rw [n5];exact c5,by rw [n7];exact c7,ps++[p],s9,fun x hx=>?_,fun B l_ c_ d' t8 k' Z h2=>?_,fun O a_ c_ k' Z h2=>?_,fun k' Z h2=>?_⟩
      ·rcases aqC.1 hx with h | h
       ·exact A x h
       ·rw [aqs]at h;rw [h];exact i8
      ·obtain⟨x,hx,h⟩:=l B l_ c_ d' t8 k' Z h2;exact⟨x,aru _ hx,h⟩
      ·obtain⟨x,hx,h⟩:=q O a_ c_ k' Z h2;exact⟨x,aru _ hx,h⟩
      ·by_cases e:k'=k
       ·exact⟨p,by simp,u_,v8,by rw [v9,e]⟩
       ·obtain⟨x,hx,h⟩:=b_ k' Z (by omega);exact⟨x,aru _ hx,h⟩
     obtain⟨E,d_⟩:=aK (J2++[bo.box [.f (sl c.mg (aI c.ts)),.f (fi c.min),.f (sl d.mg (aI d.ts)),.f (fi d.min),.f (fi k),.f (sl c.mg (aI c.ts)),.f (sl d.mg (aI d.ts)),.f (fi (max 0 (-k)))] 0]);have h_:E[U]?=aa (.box [.f (sl c.mg (aI c.ts)),.f (fi c.min),.f (sl d.mg (aI d.ts)),.f (fi d.min),.f (fi k),.f (sl c.mg (aI c.ts)),.f (sl d.mg (aI d.ts)),.f (fi (max 0 (-k)))] 0):=by rw [d_,f8];simp
     have k3:∀ i:Nat,i<J2.length→E[i]?=J2[i]?:=fun i hi=>by rw [d_,AT hi]
     have l3:E.length=J2.length+1:=by rw [d_,api];rfl
     obtain⟨-,-,w9⟩:=m5 E (by rw [k3 S (by omega)];exact c5);obtain⟨-,-,w_⟩:=m7 E (by rw [k3 W (by omega)];exact c7);apply ak;refine aG ?_;apply ai;simp [g5,g7,z,w5,x5,w7,x7,-az,f_];rw [←d_,←f8];apply ak;apply ai;simp [z];by_cases kp:0<k
     ·have m4:k=1:=by omega
      obtain⟨us,i_,i9,d9⟩:=wF d.mg d.ts f7;rw [show(-1:Int) = -k by omega]at d9;obtain⟨J4,L⟩:=aK (E.set U (.box [.f (sl c.mg (aI c.ts)),.f (fi c.min),.f (sl d.mg (aI d.ts)),.f (fi d.min),.f (fi k),.f (sl c.mg (aI c.ts)),.f (sl .fs (aI us)),.f (fi (max 0 (-k)))] 0));have s6:cZ E (.ptr U 6 0) [.f (sl .fs (aI us))]=aa J4:=by rw [L];simp [cZ,h_,over]
      refine aq (by simp [kp]) ?_;refine al (.inl rfl) ?_;simp [g7,z,w_,-az,f_,d9,s6,-bf];apply ak;apply ai;simp [z,show¬ k<0 by omega];refine bp (by simp) ?_;refine i4 _ J4 ⟨c,d,k,c.mg,c.ts,Tg.fs,us⟩ ⟨M,N,by show Ac a.len b.len c d≤k;omega,by show k≤zP a.len b.len c d;omega,e_,i_,fun x hx=>?_,fun x hx=>?_⟩ rfl rfl rfl (by simp [g0]) (by simp [Y]) (by simp [X]) (by simp [v]) (by simp [F]) (by simp [I]) (by simp [g5]) (by simp [g7]) (by simp [g9]) (by simp [z]) (by simp) (by simp [K]) (by simp [a7]) (by simp [a8]) ?_ (fun i hi=>by rw [L,AI (by omega)];exact k3 i hi) (by rw [L,aqE];exact l3)
      ·show gv c.ts x↔gv c.ts (x+max 0 (-k));rw [show x+max 0 (-k)=x by omega]
      ·show gv us x↔gv d.ts (x+max 0 k);rw [i9 x,show x+1=x+max 0 k by omega]
      ·rw [L,IN (by omega)];simp [Pr.row]
     ·refine bp (by simp [kp]) ?_;apply ak;apply ai;simp [z];by_cases kn:k<0
      ·have m4:k = -1:=by omega
       obtain⟨us,i_,i9,d9⟩:=wF c.mg c.ts e_;rw [←m4]at d9;obtain⟨J4,L⟩:=aK (E.set U (.box [.f (sl c.mg (aI c.ts)),.f (fi c.min),.f (sl d.mg (aI d.ts)),.f (fi d.min),.f (fi k),.f (sl .fs (aI us)),.f (sl d.mg (aI d.ts)),.f (fi (max 0 (-k)))] 0));have s5:cZ E (.ptr U 5 0) [.f (sl .fs (aI us))]=aa J4:=by rw [L];simp [cZ,h_,over]
       refine aq (by simp [kn]) ?_;refine al (.inl rfl) ?_;simp [g5,z,w9,-az,d9,s5,-bf];refine i4 _ J4 ⟨c,d,k,Tg.fs,us,d.mg,d.ts⟩ ⟨M,N,by show Ac a.len b.len c d≤k;omega,by show k≤zP a.len b.len c d;omega,i_,f7,fun x hx=>?_,fun x hx=>?_⟩ rfl rfl rfl (by simp [g0]) (by simp [Y]) (by simp [X]) (by simp [v]) (by simp [F]) (by simp [I]) (by simp [g5]) (by simp [g7]) (by simp [g9]) (by simp [z]) (by simp) (by simp [K]) (by simp [a7]) (by simp [a8]) ?_ (fun i hi=>by rw [L,AI (by omega)];exact k3 i hi) (by rw [L,aqE];exact l3)
       ·show gv us x↔gv c.ts (x+max 0 (-k));rw [i9 x,show x+1=x+max 0 (-k) by omega]
       ·show gv d.ts x↔gv d.ts (x+max 0 k);rw [show x+max 0 k=x by omega]
       ·rw [L,IN (by omega)];simp [Pr.row]
      ·refine bp (by simp [kn]) ?_;have x_:k=0:=by omega
       refine i4 _ E ⟨c,d,k,c.mg,c.ts,d.mg,d.ts⟩ ⟨M,N,by show Ac a.len b.len c d≤k;omega,by show k≤zP a.len b.len c d;omega,e_,f7,fun x hx=>?_,fun x hx=>?_⟩ rfl rfl rfl (by simp [g0]) (by simp [Y]) (by simp [X]) (by simp [v]) (by simp [F]) (by simp [I]) (by simp [g5]) (by simp [g7]) (by simp [g9]) (by simp [z]) (by simp) (by simp [K]) (by simp [a7]) (by simp [a8]) h_ k3 l3
       ·show gv c.ts x↔gv c.ts (x+max 0 (-k));rw [show x+max 0 (-k)=x by omega]
       ·show gv d.ts x↔gv d.ts (x+max 0 k);rw [show x+max 0 k=x by omega]
    ·refine aC (by simp;omega) ?_;refine bH rfl ?_;refine av (j6 _ _ ⟨by simp [g0],by simp [Y],by simp [X],by simp [v],by simp [F],by simp [I],by simp [g5],by simp [K],by omega,c5,ps,hP,A,l,fun O a_ c_ k' Z h2=>?_⟩ (by simp [a8,j8]) (by simp [a7,j7]));by_cases e:O=j
     ·subst e;rw [←j_]at Z h2 ⊢;exact b_ k' (by omega) (by omega)
     ·exact q O a_ (by omega) k' Z h2
   ·rintro t' J ⟨g0,Y,X,v,F,I,g5,K,m_,c5,ps,hP,A,l,q⟩ - -;refine av (next _ _ ⟨by simp [g0],by simp [Y],by simp [X],by simp [v],by omega,ps,hP,A,fun B u c_ d hd k Z h2=>?_⟩ (by simp [I,hc]) (by simp [F,s_]));by_cases e:B=i
    ·subst e;rw [←j9]at Z h2 ⊢;obtain⟨O,a_,rfl⟩:=aq2 hd;exact q O a_ a_ k Z h2
    ·exact l B u (by omega) d hd k Z h2
  ·rintro t J ⟨g0,Y,X,v,s7,ps,hP,A,l⟩ - -;exact cD (hQ _ _ _ rfl rfl ⟨rfl,.inl ⟨ps,hP,A,fun c hc d hd k Z h2=>by
    obtain⟨B,u,rfl⟩:=aq2 hc;exact l B u u d hd k Z h2⟩⟩)
 exact⟨H2,he,hP⟩
theorem MX{bb:Nat}{H:aj}(a b:aR)(u:rA a)(v:rA b)(PP:List Pr→aj→Prop)(h0:PP [] H)
  (y:∀ ps J J',PP ps J→(∀ i:Nat,i<H.length→J'[i]?=J[i]?)→J.length≤J'.length→PP ps J')
  (z:∀ ps p J,PP ps J→H.length≤J.length→pU a b p→∃ J',Ev tab (.yield bb) [.a p.row] J (vb ae) J'∧PP (ps++[p]) J'∧J.length≤J'.length∧∀ i:Nat,H.length≤i→i<J.length→J'[i]?=J[i]?) :
  ∃ g,Ev tab (.fn 104) [.c (.yl bb),.c (.f (.fp a.row 0)),.c (.f (.fp b.row 0))] H (.t []) g∧∃ ps,PP ps g∧(∀ p ∈ ps,pU a b p)∧∀ c ∈ a.cs,∀ d ∈ b.cs,∀ k,Ac a.len b.len c d≤k→k≤zP a.len b.len c d→∃ p ∈ ps,p.c=c∧p.d=d∧p.k=k:=by
 obtain⟨g,x,h | ⟨_,_,h⟩⟩:=nm a b u v PP (fun _ _=>False) h0 y fun ps p J j l m=>by
  obtain⟨J',q,s⟩:=z ps p J j l m;exact⟨ae,J',q,by simpa using s⟩
 ·exact⟨g,x,h⟩
 ·exact h.elim
end Go.Proofs.YtnaofdffomdmhaaGreat
namespace Go.Proofs.YtnaofdffomdmhaaGreat
open Go Km
def akD:bo→Bool
 | .bT _ _ _ _ _=>ag| _=>ae
def lN:List Nat→aj→aj
 | [],H=>H| b::d,H=>lN d (H.set b (.eO ag))
structure fk(bs:List Nat)(H:aj):Prop where
 nd:bs.Nodup
 on:∀ b ∈ bs,H[b]?=aa (.eO ae)
theorem jC{call:cL}:∀ {d:List Nat} {H:aj},fk d H→dx call (d.map .gm) H=aa (lN d H)
 | [],H,_=>rfl
 | b::d,H,h=>by
  have l:=h.on b aqv;have g:=List.nodup_cons.1 h.nd;simp only [aqz,dx,l,lN];exact jC ⟨g.2,fun x j=>by rw [AI (by rintro rfl;exact g.1 j)];exact h.on x (aqt _ j)⟩
theorem gU:∀ {d:List Nat} {H:aj} {i:Nat},i ∉ d→(lN d H)[i]?=H[i]?
 | [],_,_,_=>rfl
 | b::d,H,i,h=>by
  simp only [aqA,not_or]at h;rw [lN,gU h.2,AI (Ne.symm h.1)]
def ahy(res:List fV)(r:V)(s:St):Prop:=∃ b,s.defs=b.map .gm∧fk b s.heap∧∃ d,Km.results s.aw (lN b s.heap) res=aa d∧iA deep (lN b s.heap) d=aa r
theorem wK{f:Nat}{args:List V}{S:V→Prop}{ps:List P}{res:List fV}{body:aE}(A:tab f=aa ⟨ps,res,body⟩)(y:args.length=ps.length)
  (h:∀ Q:Option aE→St→Prop,(∀ j s r,S r→ahy res r s→Q j s)→WP tab f ab [.code body] ⟨cE ps args .e,[],[]⟩ Q):∃ r,S r∧bh tab f args r:=by
 have q:=h (fun _ s=>∃ r,S r∧ahy res r s) fun _ _ r b g=>⟨r,b,g⟩
 obtain⟨n,m,d,j,s,b,r,z,l,x,v,B,g,u⟩:=q;exact⟨r,z,B,lN l s.heap,qX A y ⟨n,m,d,j,s,b,0,0,_,by rw [x];exact jC v,g,rfl⟩,u⟩
theorem fk.set{d:List Nat}{H:aj}(h:fk d H){i:Nat}{y z:bo}(hi:H[i]?=aa y)(hy:y≠.eO ae):fk d (H.set i z):=⟨h.nd,fun b g=>by
 have:=h.on b g;rw [AI (by rintro rfl;rw [this]at hi;cases hi;exact hy rfl)];exact this⟩
theorem fk.not{b:List Nat}{H:aj}(h:fk b H){i:Nat}{y:bo}(hi:H[i]?=aa y)(hy:y≠.eO ae):i ∉ b:=fun d=>by
 have:=h.on i d;rw [hi]at this;cases this;exact hy rfl
theorem zj(a b:aR)(s:a.xs=[]):∃ v,v=ag∧bh tab 54 [.a (a.row.map .f),.a (b.row.map .f)]=Eq (vb v):=by
 refine⟨ag,rfl,bh.eq (bS rfl rfl fun Q q=>?_)⟩;apply ai;simp [aR.row,s];apply ak;apply ai;have d:∀(K:aj) (g:Tg),bu K (.f (sl g (aH [])))=aa 0:=fun K g=>by cases g<;>rfl
 simp [d];refine bM 0 (fun _ t K=>t.g 4=.c (.ptr 2 0 0)∧K[2]?=aa (.box [.f (.bool ag)] 0)) (by omega) (by decide) (by decide) (by simp) (by simp) ⟨by simp,rfl⟩ (fun j t H x=>by omega) ?_;rintro t K ⟨l,m⟩ - -;have u:cZ K (.ptr 2 0 0) [.f (.bool ag)]=aa (K.set 2 (.box [.f (.bool ag)] 0)):=by simp [cZ,m,over]
 apply ai;simp [l,u,-bf];refine aB (q _ _ ?_);simp [Km.results,bg,l,an m]
end Go.Proofs.YtnaofdffomdmhaaGreat
namespace Go.Proofs.YtnaofdffomdmhaaGreat
open Go Km
def aN.lt(x y:aN):Prop:=x.fr<y.fr∨x.fr=y.fr∧(x.day<y.day∨x.day=y.day∧x.to<y.to)
theorem Ao(x y:aN):gi x y<0↔x.lt y:=by
 unfold gi aN.lt;simp only [An,dN]
 repeat' split
 all_goals omega
theorem aN.lt_trans{x y z:aN}(h:x.lt y)(b:y.lt z):x.lt z:=by unfold aN.lt at *;omega
theorem aN.akv{x y:aN}(h:¬ x.lt y)(d:x≠y):y.lt x:=by
 obtain⟨a,b,c⟩:=x;obtain⟨a',g,j⟩:=y;unfold aN.lt at *;simp only [ne_eq,aN.mk.injEq]at d;simp only at h ⊢;omega
def aN.le(x y:aN):Prop:=¬ y.lt x
theorem aN.le_trans{x y z:aN}(h:x.le y)(b:y.le z):x.le z:=by unfold aN.le aN.lt at *;omega
theorem aN.anu{x y:aN}(h:x.lt y):x.le y:=by unfold aN.le aN.lt at *;omega
@[simp] theorem aN.aoJ (x:aN):x.row.length=3:=rfl
theorem Ce{b:Type}(A:List b)(x:b)(B:List b):(A++x::B)[A.length]?=aa x:=by simp
theorem Eh{b:Type}(A:List b)(x y:b)(B:List b):(A++x::B).set A.length y=A++y::B:=by simp
theorem kj(l:List aN)(j:Nat)(x:aN):(aH l).set j x.row=aH (l.set j x):=by simp [aH,List.map_set]
theorem fe{l:List aN}{j:Nat}{x:aN}(h:l[j]?=aa x):(aH l)[j]?=aa x.row:=by simp [aH,h]
theorem xL{H:aj}{b ep F:Nat}{l:List aN}(hF:∀ x y:aN,Kf tab F [.a (x.row.map .f),.a (y.row.map .f)] (vi (gi x y)))(hl:l.length≤1000000)(hb:RB H b 3 ep (aH l)) :
  ∃ r H',Ev tab (.fn 341) [.c (.sl b 0 l.length 0 ep 3),vi 0,vi l.length,.c (.f (.fn F []))] H r H' ∧
   (r=.t []∧Fm b H H'∧∃ l':List aN,RB H' b 3 ep (aH l')∧l'.Perm l∧l'.Pairwise aN.le):=by
 refine cB rfl rfl fun Q hQ=>?_;apply ai;simp [aV (n:=(1:Int))];refine aG ?_;refine cH (fun n s=>∃(i:Nat) (t:T) (Y:aj) (rows:List aN),s=⟨t,[],Y⟩∧n=l.length+1-i∧1≤i∧(i≤l.length∨i=1)∧t.g 0=.c (.sl b 0 l.length 0 ep 3)∧t.g 1=vi 0∧t.g 2=vi l.length∧t.g 3=.c (.f (.fn F []))∧t.g 8=vi i ∧
  Fm b H Y∧RB Y b 3 ep (aH rows)∧rows.Perm l∧(rows.take i).Pairwise aN.le) l.length
  ⟨1,_,H,l,rfl,by omega,by omega,.inr rfl,by simp,by simp,by simp,by simp,by simp,Fm.refl H,hb,.refl _,?_⟩ ?_
 ·cases l with
  | nil=>simp| cons x r=>simp
 rintro n s ⟨i,t,Y,rows,rfl,rfl,f8,hi,g0,L,N,O,M,u,d,v,E⟩ ih;have a8:=v.length_eq;apply ak;apply ai;simp [M,N];by_cases a_:i<l.length
 case neg=>
  refine aC (by simp [a_]) ?_;refine bH (k':=[]) rfl ?_;refine cD (hQ _ _ _ rfl rfl ⟨rfl,u,rows,d,v,?_⟩);rwa [ap1 (by omega)]at E
 refine aq (by simp [a_]) (aO ?_);apply ak;refine aG ?_;apply ai;simp [M];refine aG ?_;obtain⟨S,x,C,q,hS⟩:∃ S x C,rows=S++x::C∧S.length=i:=by
  refine⟨rows.take i,rows[i]'(by omega),rows.drop (i+1),?_,by simp;omega⟩;rw [←apw (by omega),List.take_append_drop]
 have d_:S.Pairwise aN.le:=by
  rw [q,aqO (by omega),ap1 (by omega)]at E;exact E
 refine cH (fun n s=>∃(t:T) (I:aj) (A B:List aN),s=⟨t,[],I⟩∧n=A.length∧S=A++B∧t.g 0=.c (.sl b 0 l.length 0 ep 3)∧t.g 1=vi 0∧t.g 2=vi l.length∧t.g 3=.c (.f (.fn F []))∧t.g 8=vi i∧t.g 9=vi A.length ∧
  Fm b H I∧RB I b 3 ep (aH (A++x::B++C))∧(∀ y ∈ B,x.le y)) i
  ⟨_,Y,S,[],rfl,hS.symm,by simp,by simp [g0],by simp [L],by simp [N],by simp [O],by simp [M],by simp [hS],u,by rw [q]at d;simpa using d,by simp⟩ ?_
 rintro n s ⟨t,I,A,B,rfl,rfl,K,g0,L,N,O,M,g9,u,d,hB⟩ f7;have stop:(A++x::B).Pairwise aN.le→∀ t:T,t.g 0=.c (.sl b 0 l.length 0 ep 3)→t.g 1=vi 0→t.g 2=vi l.length→t.g 3=.c (.f (.fn F []))→t.g 8=vi i→∀ I,Fm b H I→RB I b 3 ep (aH (A++x::B++C)) →
   WP tab 341 ab [.inBlock 1,.code mn,.inLoop nL,.inBlock 0] ⟨t,[],I⟩ Q:=by
  intro hp t g0 L N O M I u d;refine av (al (.inl rfl) ?_);simp [M,aV (n:=(i:Int)+1)];have f_:(A++x::B).length=i+1:=by rw [←hS,K];simp;omega
  refine ih (l.length+1-(i+1)) _ (by omega) ⟨i+1,_,I,A++x::B++C,rfl,rfl,by omega,.inl (by omega),by simp [g0],by simp [L],by simp [N],by simp [O],by simp,u,d,?_,?_⟩
  ·refine List.Perm.trans ?_ v;rw [q,K];simp only [List.append_assoc,art];exact List.Perm.append_left A (List.perm_middle.symm)
  ·rw [aqO (by omega),ap1 (by omega)];exact hp
 have g_:l.length=A.length+1+B.length+C.length:=by rw [←a8,q,K];simp;omega
 have b9:(A++B).Pairwise aN.le:=K▸d_;rw [ark]at b9;obtain⟨p1,p2,p3⟩:=b9;rcases List.eq_nil_or_concat A with rfl | ⟨J,y,rfl⟩
 ·
  apply ak;apply ai;simp [g9,L];refine aC (by simp) ?_;refine bH (k':=[.inBlock 1,.code mn,.inLoop nL,.inBlock 0]) rfl ?_;refine stop ?_ _ (by simp [g0]) (by simp [L]) (by simp [N]) (by simp [O]) (by simp [M]) _ u d;rw [ars,arj];exact⟨hB,p2⟩
 ·obtain⟨m,X⟩:=aK (J.length);have b_:=d;have e0:J++[y]++x::B++C=J++y::x ::(B++C):=by simp
  rw [List.concat_eq_append]at *;rw [e0]at d;have gx:(J++y::x ::(B++C))[m+1]?=aa x:=by rw [X,IS (by omega)];simp
  have gy:(J++y::x ::(B++C))[m]?=aa y:=by rw [X];exact Ce _ _ _
  have U:t.g 9=vi ((m:Int)+1):=by rw [g9,X];simp
  have hA:(J++[y]).length=m+1:=by rw [X];simp
  have i1:=d.idx (n:=l.length) (c:=0) (k:=.i64) (o:=0) (i:=(m:Int)+1) (by omega) (by omega);have i0:=d.idx (n:=l.length) (c:=0) (k:=.i64) (o:=0) (i:=(m:Int)) (by omega) (by omega);have t1:((m:Int)+1).toNat=m+1:=by omega
  rw [t1,aqV]at i1;rw [aqI,aqV]at i0;have l1:=d.ldr (bw _) (fe gx);have l0:=d.ldr (bw _) (fe gy);have he:=(hF x y).ev I;apply ak;apply ai;simp [U,g0,L,O,show(0:Int)<(m:Int)+1 by omega,i1,i0,l1,l0,he,-az,aV (n:=(m:Int))];by_cases hc:gi x y<0
  case neg=>
   refine aC (by simp [hc]) ?_;refine bH (k':=[.inBlock 1,.code mn,.inLoop nL,.inBlock 0]) rfl ?_;refine stop ?_ _ (by simp [g0]) (by simp [L]) (by simp [N]) (by simp [O]) (by simp [M]) _ (u.trans (Fm.push _ _)) (b_.push _);have c_:y.le x:=fun h=>hc ((Ao _ _).2 h);rw [ark];refine⟨p1,arj.2 ⟨hB,p2⟩,fun a ha z W=>?_⟩;rcases aqA.1 W with rfl | W
   ·rcases aqC.1 ha with h | h
    ·exact aN.le_trans ((ark.1 p1).2.2 a h y (by simp)) c_
    ·obtain rfl:=aqs.1 h;exact c_
   ·exact p3 a ha z W
  have e_:x.lt y:=(Ao _ _).1 hc;have g:=d.push (af1 tab F [.a (x.row.map .f),.a (y.row.map .f)] I);obtain⟨HJ,Z⟩:=aK (I++af1 tab F [.a (x.row.map .f),.a (y.row.map .f)] I);rw [←Z]at g ⊢;have a7:Fm b H HJ:=by rw [Z];exact u.trans (Fm.push _ _)
  have lx:m+1<(aH (J++y::x ::(B++C))).length:=by simp;omega
  have i1:=g.idx (n:=l.length) (c:=0) (k:=.i64) (o:=0) (i:=(m:Int)+1) (by omega) (by omega);have i0:=g.idx (n:=l.length) (c:=0) (k:=.i64) (o:=0) (i:=(m:Int)) (by omega) (by omega);rw [t1,aqV]at i1;rw [aqI,aqV]at i0;have l1:=g.ldr (bw _) (fe gx);have l0:=g.ldr (bw _) (fe gy);obtain⟨H3,s1,r1,f1,-⟩:=g.str (bw _) lx (row:=y.row) rfl;rw [kj]at r1;have d9:=r1.idx (n:=l.length) (c:=0) (k:=.i64) (o:=0) (i:=(m:Int)) (by omega) (by omega);rw [aqI,aqV]at d9;obtain⟨H4,s2,r2,f2,-⟩:=r1.str (bw _) (j:=m) (by simp;omega) (row:=x.row) rfl;rw [kj]at r2;have e4:((J++y::x ::(B++C)).set (m+1) y).set m x=J++x ::(y::B)++C:=by
   rw [X,List.set_append_right _ _ (by omega)];simp
  rw [e4]at r2;refine aq (by simp [hc]) (aO ?_);apply ak;refine aG ?_;refine al (.inl rfl) ?_;simp [U,g0,i1,i0,d9,l1,l0,s1,s2,-az,-bf,aV (n:=(m:Int))];refine av ?_;refine al (.inl rfl) ?_;simp [U,aV (n:=(m:Int))];refine f7 J.length _ (by simp) ⟨_,H4,J,y::B,rfl,rfl,by rw [K];simp,by simp [g0],by simp [L],by simp [N],by simp [O],by simp [M],by simp [X],a7.trans (f1.trans f2),r2,fun z W=>?_⟩;rcases aqA.1 W with rfl | W
  ·exact aN.anu e_
  ·exact hB z W
def akt(n:Nat):Int:=if n=0 then 0 else if n=1 then 1 else if n≤3 then 2 else if n≤7 then 3 else 4
theorem af':(List.range 13).map (fun n:Nat=>RK 280 [.c (.f (.int .u64 n))] (vi (akt n)))=(List.range 13).map fun n:Nat=>(vi (akt n)=vi (akt n)):=by kernel_rfl
theorem Zl{n:Nat}(h:n≤12):∃ k:Int,bh tab 280 [.c (.f (.int .u64 n))]=Eq (vi k):=
 ⟨_,qR af' (arX.2 (show n<13 by omega))⟩
theorem akO{H:aj}{b ep F:Nat}{l:List aN}{k:Int}(q:∀ x y:aN,Kf tab F [.a (x.row.map .f),.a (y.row.map .f)] (vi (gi x y)))(A:l.length≤12)(v:RB H b 3 ep (aH l)) :
  ∃ r H',Ev tab (.fn 279) [.c (.sl b 0 l.length 0 ep 3),vi 0,vi l.length,vi k,.c (.f (.fn F []))] H r H' ∧
   (r=.t []∧Fm b H H'∧∃ l':List aN,RB H' b 3 ep (aH l')∧l'.Perm l∧l'.Pairwise aN.le):=by
 obtain⟨r,H',z,rfl,d,l',g,j,m⟩:=xL q (by omega) v;refine cB rfl rfl fun Q u=>?_;apply ai;simp;apply ai;simp;refine aG ?_;refine cH (fun _ s=>s=⟨_,[],H⟩) 0 rfl ?_;rintro _ s rfl -;refine aG ?_;apply ai;simp [aV (n:=(l.length:Int))];apply ak;apply ai;simp;refine aq (by simp;omega) ?_;apply ai;simp [z.eq];exact aB (u _ _ _ rfl rfl ⟨rfl,d,l',g,j,m⟩)
theorem Za{H:aj}{b ep F:Nat}{l:List aN}(u:∀ x y:aN,Kf tab F [.a (x.row.map .f),.a (y.row.map .f)] (vi (gi x y)))(g:l.length≤12)(d:RB H b 3 ep (aH l)) :
  ∃ r H',Ev tab (.fn 203) [.c (.sl b 0 l.length 0 ep 3),.c (.f (.fn F []))] H r H' ∧
   (r=.t []∧Fm b H H'∧∃ l':List aN,RB H' b 3 ep (aH l')∧l'.Perm l∧l'.Pairwise aN.le):=by
 obtain⟨k,A⟩:=Zl g;obtain⟨r,H',z,rfl,j,l',m,q,s⟩:=akO (k:=k) u g d;refine cB rfl rfl fun Q v=>?_;apply ai;simp [d.len];refine al (.inl rfl) ?_;have B:IntKind.wrap .u64 (l.length:Int)=l.length:=by
  show(l.length:Int) % 18446744073709551616=l.length;omega
 simp [B,A,z.eq];exact cD (v _ _ _ rfl rfl ⟨rfl,j,l',m,q,s⟩)
theorem uU{H:aj}{F:Nat}:∃ r H',Ev tab (.fn 341) [.c (.f .au),vi 0,vi 0,.c (.f (.fn F []))] H r H'∧(r=.t []∧H'=H):=by
 refine cB rfl rfl fun Q b=>?_;apply ai;simp [aV (n:=(1:Int))];refine aG ?_;refine cH (fun _ s=>s=⟨_,[],H⟩) 0 rfl ?_;rintro _ s rfl -;apply ak;apply ai;simp;refine aC (by simp) ?_;refine bH (k':=[]) rfl ?_;exact cD (b _ _ _ rfl rfl ⟨rfl,rfl⟩)
theorem agn{H:aj}{F:Nat}{k:Int}:∃ r H',Ev tab (.fn 279) [.c (.f .au),vi 0,vi 0,vi k,.c (.f (.fn F []))] H r H'∧(r=.t []∧H'=H):=by
 obtain⟨r,H',d,rfl,rfl⟩:=uU (H:=H) (F:=F);refine cB rfl rfl fun Q b=>?_;apply ai;simp;apply ai;simp;refine aG ?_;refine cH (fun _ s=>s=⟨_,[],_⟩) 0 rfl ?_;rintro _ s rfl -;refine aG ?_;apply ai;simp [aV (n:=(0:Int))];apply ak;apply ai;simp;refine aq (by simp) ?_;apply ai;simp [d.eq];exact aB (b _ _ _ rfl rfl ⟨rfl,rfl⟩)
theorem Nk{H:aj}{F:Nat}:∃ r H',Ev tab (.fn 203) [.c (.f .au),.c (.f (.fn F []))] H r H'∧(r=.t []∧H'=H):=by
 obtain⟨k,b⟩:=Zl (n:=0) (by omega);obtain⟨r,H',g,rfl,rfl⟩:=agn (H:=H) (F:=F) (k:=k);refine cB rfl rfl fun Q d=>?_;apply ai;simp [bu];refine al (.inl rfl) ?_;have j:IntKind.wrap .u64 0=0:=rfl;simp at b;simp [j,b,g.eq];exact cD (d _ _ _ rfl rfl ⟨rfl,rfl⟩)
theorem Zj{x y:aN}(h:x.le y)(b:x≠y):x.lt y:=aN.akv h (Ne.symm b)
def YN(x y:aN):Bool:=x.day == y.day&&(x.fr == y.fr&&x.to == y.to)
theorem rK{x y:aN}:YN x y=ae↔x=y:=by
 obtain⟨a,b,c⟩:=x;obtain⟨a',d,g⟩:=y;simp [YN]
theorem D0{l:List aN}(g:l.Pairwise aN.le){i j:Nat}(b:i<j)(d:j<l.length):(l[i]'(by omega)).le l[j]:=aq9.1 g i j (by omega) d b
theorem BJ{H:aj}{b ep:Nat}{l:List aN}(hl:l.length≤1000000)(hs:l.Pairwise aN.le)(B:RB H b 3 ep (aH l)) :
  ∃ r H',Ev tab (.fn 205) [.c (.sl b 0 l.length 0 ep 3)] H r H' ∧
   (∃ l' R:List aN,r=.c (.sl b 0 l'.length 0 ep 3)∧Fm b H H'∧RB H' b 3 ep (aH (l'++R))∧l'.length≤l.length∧l'.Pairwise aN.lt∧∀ x,x ∈ l'↔x ∈ l):=by
 refine cB rfl rfl fun Q hQ=>?_;apply ai;simp;apply ak;apply ai;simp [B.len];by_cases h2:l.length<2
 ·refine aq (by simp;omega) ?_;apply ai;simp;refine aB (hQ _ _ _ rfl (js (by simp)) ⟨l,[],rfl,Fm.refl _,by simpa using B,aft _,?_,fun _=>Iff.rfl⟩)
  match l,h2 with
  | [],_=>exact List.Pairwise.nil| [x],_=>exact arN _ _| x::y::r,h=>simp at h;omega
 refine aC (by simp;omega) (aO ?_);apply ak;apply ai;simp;refine aG ?_;refine cH (fun n s=>∃(k:Nat) (t:T),s=⟨t,[],H⟩∧n=l.length-k∧1≤k∧k≤l.length∧t.g 0=.c (.sl b 0 l.length 0 ep 3)∧t.g 3=vi k∧(l.take k).Pairwise aN.lt) (l.length-1)
  ⟨1,_,rfl,rfl,by omega,by omega,by simp,by simp,?_⟩ ?_
 ·cases l with
  | nil=>simp| cons x r=>simp
 rintro n s ⟨k,t,rfl,rfl,i5,i6,g0,A,hp⟩ ih;apply ak;apply ai;simp [g0,A,B.len];by_cases u:k<l.length
 case neg=>
  refine aC (by simp [u]) ?_;refine bH (k':=[.code ml]) rfl ?_;apply ai;simp [g0];refine aB (hQ _ _ _ rfl (js (by simp)) ⟨l,[],rfl,Fm.refl _,by simpa using B,aft _,?_,fun _=>Iff.rfl⟩);rwa [ap1 (by omega)]at hp
 refine aq (by simp [u]) (aO ?_);obtain⟨m,rfl⟩:∃ m,k=m+1:=⟨k-1,by omega⟩
 have ix:∀ {H:aj} {rows:List (List FC)} (B:RB H b 3 ep rows) (o n i:Nat) (hi:i<n),bA H 3 ab (.c (.sl b o n 0 ep 3)) (vi i)=aa (.c (.ptr b (o+i*3) ep)):=by
  intro H rows B o n i hi;have:=B.idx (n:=n) (c:=0) (k:=.i64) (o:=o) (i:=(i:Int)) (by omega) (by omega);rwa [aqI]at this
 have i1:=ix B 0 l.length (m+1) u;have i0:=ix B 0 l.length m (by omega);have l1:=B.ldr (bw _) (fQ (l:=l) (j:=m+1) u);have l0:=B.ldr (bw _) (fQ (l:=l) (j:=m) (by omega));rw [aqV]at i1 i0;have c1:((m+1:Nat):Int)-1=m:=by omega
 rw [show((m+1:Nat):Int)=(m:Int)+1 by omega]at i1;have b_:l.take (m+1+1)=l.take (m+1)++[l[m+1]]:=by rw [aqW,By u];rfl
 apply ak;refine aG ?_;apply ai;simp [g0,A,i1,i0,l1,l0,-az,aV (n:=(m:Int)),aN.row];cases hc:(l[m+1].day == l[m].day&&(l[m+1].fr == l[m].fr&&l[m+1].to == l[m].to))
 ·
  refine aC (by simp) (aO (av ?_));refine al (.inl rfl) ?_;simp [A,aV (n:=(m:Int)+1+1)];refine ih (l.length-(m+2)) _ (by omega) ⟨m+2,_,rfl,rfl,by omega,by omega,by simp [g0],by simp;omega,?_⟩;show(l.take (m+1+1)).Pairwise aN.lt;have L:l[m]≠l[m+1]:=fun e=>by
   have:YN l[m+1] l[m]=ae:=rK.2 e.symm;rw [YN,hc]at this;cases this
  rw [b_,ark];refine⟨hp,arN _ _,fun y hy z hz=>?_⟩;obtain rfl:=aqs.1 hz;obtain⟨i,hi,rfl⟩:=aq2 hy;have i4:i<m+1:=by simp at hi;omega
  rw [List.getElem_take];by_cases e:i=m
  ·subst e;exact Zj (D0 hs (by omega) u) L
  ·exact aN.lt_trans (y:=l[m]) (by
    have h1:=aq9.1 hp i m (by simp;omega) (by simp;omega) (by omega);simpa using h1) (Zj (D0 hs (by omega) u) L)
 ·
  have e_:l[m+1]=l[m]:=rK.1 hc;have c2:((m+1:Nat):Int)=(m:Int)+1:=by omega
  have M:=B.ug (k:=m+1) u;rw [c2]at M;refine aq (by simp) ?_;apply ai;simp [g0,A,M];apply ak;apply ai;simp;refine aG ?_;refine cH (fun n s=>∃(i:Nat) (t:T) (E:aj) (P R:List aN),s=⟨t,[],E⟩∧n=l.length-(m+2+i)∧m+2+i≤l.length∧t.g 0=.c (.sl b 0 l.length 0 ep 3)∧t.g 3=vi P.length∧t.g 4=.c (.sl b ((m+1)*3) (l.length-(m+1)) 0 ep 3)∧t.g 5=vi ((i:Int)+1) ∧
   Fm b H E∧RB E b 3 ep (aH (P++R))∧(P++R).length=l.length∧1≤P.length∧P.length≤m+1+i∧(∀ q,m+1+i≤q→(P++R)[q]?=l[q]?)∧P.Pairwise aN.lt∧∀ x,x ∈ P↔x ∈ l.take (m+2+i)) (l.length-(m+2))
   ⟨0,_,H,l.take (m+1),l.drop (m+1),rfl,rfl,by omega,by simp [g0],by simp [A];omega,by simp,by simp,Fm.refl _,by simpa using B,by simp,by simp;omega,by simp;omega,by simp,hp,fun x=>?_⟩ ?_
  ·show x ∈ l.take (m+1)↔x ∈ l.take (m+1+1);rw [b_,aqC,aqs];refine⟨.inl,fun h=>h.elim id fun e=>?_⟩;rw [e,e_];exact List.mem_take_iff_getElem.2 ⟨m,by omega,rfl⟩
  rintro n s ⟨i,t,E,P,R,rfl,rfl,hi,g0,A,O,S,F,d,v,U,c_,hq,J,g⟩ h_;have W:=d.len (o:=(m+1)*3) (l:=l.length-(m+1)) (c:=0);apply ak;apply ai;simp [O,S,W];by_cases I:m+2+i<l.length
  case neg=>
   have a8:m+2+i=l.length:=by omega
   refine aC (by simp;omega) ?_;refine bH (k':=[.code pR,.inBlock 1,.code pS,.inLoop pQ,.inBlock 0,.code ml]) rfl ?_;have a7:P.length<l.length:=by omega
   obtain⟨H3,d_,Y,f7⟩:=d.clr (bw _) (zs:=[fi 0,fi 0,fi 0]) (by simpa using v) a7 rfl;have M:=d.ug a7;apply ai;simp [g0,A,M,d_];have g_:=Y.aaj (n:=l.length) (k:=P.length) (by omega) (by omega);apply ai;simp [g0,A,g_];have e3:(aH (P++R)).take P.length++List.replicate (l.length-P.length) [fi 0,fi 0,fi 0]=aH (P++List.replicate (l.length-P.length) ⟨0,0,0⟩):=by
    simp [aH,aN.row]
   rw [e3]at Y;refine aB (hQ _ _ _ rfl (js (by simp)) ⟨P,_,rfl,F.trans f7,Y,by omega,J,fun x=>?_⟩);rw [g,a8,aqS]
  have ha:(P++R)[m+2+i]?=aa l[m+2+i]:=by rw [hq _ (by omega),By I]
  have d9:(P++R)[m+1+i]?=aa (l[m+1+i]'(by omega)):=by rw [hq _ (by omega),By]
  have j1:=ix d ((m+1)*3) (l.length-(m+1)) (i+1) (by omega);have j0:=ix d ((m+1)*3) (l.length-(m+1)) i (by omega);rw [show(m+1)*3+(i+1)*3=(m+2+i)*3 by omega,show((i+1:Nat):Int)=(i:Int)+1 by omega]at j1;rw [show(m+1)*3+i*3=(m+1+i)*3 by omega]at j0;have d1:=d.ldr (bw _) (fe ha);have d0:=d.ldr (bw _) (fe d9);refine aq (by simp;omega) (aO ?_);apply ak;refine aG ?_;apply ai;simp [O,S,j1,j0,d1,d0,-az,aV (n:=(i:Int)),aN.row];have N:l.take (m+2+(i+1))=l.take (m+2+i)++[l[m+2+i]]:=by
   rw [show m+2+(i+1)=m+2+i+1 by omega,aqW,By I];rfl
  have next:∀(t:T) (E:aj) (P R:List aN),t.g 0=.c (.sl b 0 l.length 0 ep 3)→t.g 3=vi P.length→t.g 4=.c (.sl b ((m+1)*3) (l.length-(m+1)) 0 ep 3)→t.g 5=vi ((i:Int)+1) →
    Fm b H E→RB E b 3 ep (aH (P++R))→(P++R).length=l.length→1≤P.length→P.length≤m+2+i→(∀ q,m+2+i≤q→(P++R)[q]?=l[q]?)→P.Pairwise aN.lt→(∀ x,x ∈ P↔x ∈ l.take (m+2+(i+1))) →
    WP tab 205 ab [.inBlock 3,.code vA,.inLoop vz,.inBlock 2,.code pR,.inBlock 1,.code pS,.inLoop pQ,.inBlock 0,.code ml] ⟨t,[],E⟩ Q:=by
   intro t E P R g0 A O S F d v U c_ hq J g;refine av (al (.inl rfl) ?_);simp [S,aV (n:=(i:Int)+1+1)];exact h_ (l.length-(m+2+(i+1))) _ (by omega) ⟨i+1,_,E,P,R,rfl,rfl,by omega,by simp [g0],by simp [A],by simp [O],by simp,F,d,v,U,by omega,fun q h=>hq q (by omega),J,g⟩
  have f8:(l[m+1+i]'(by omega)).le l[m+2+i]:=D0 hs (by omega) I;cases K:(l[m+2+i].day == l[m+1+i].day&&(l[m+2+i].fr == l[m+1+i].fr&&l[m+2+i].to == l[m+1+i].to))
  ·have L:l[m+1+i]≠l[m+2+i]:=fun e=>by
    have:YN l[m+2+i] l[m+1+i]=ae:=rK.2 e.symm;rw [YN,K]at this;cases this
   have b9:=Zj f8 L;have kx:=ix d 0 l.length P.length (by omega);rw [aqV]at kx;obtain⟨H3,s3,r3,f3,-⟩:=d.str (bw _) (j:=P.length) (by rw [iE,v];omega) (row:=(l[m+2+i]).row) rfl;rw [kj]at r3;obtain⟨x0,Z,rfl⟩:∃ x0 Z,R=x0::Z:=by
    cases R with
    | nil=>simp at v;omega| cons x0 Z=>exact⟨_,_,rfl⟩
   rw [Eh]at r3;have X:¬l[m+2+i].day=l[m+1+i].day∨¬l[m+2+i].fr=l[m+1+i].fr∨¬l[m+2+i].to=l[m+1+i].to:=by
    simp at K;omega
   refine aq (by simpa using X) ?_;apply ai;simp only [aN.row,aqz,aqK]at s3;simp [g0,A,O,S,j1,d1,kx,s3,-az,-bf,aN.row];refine al (.inl rfl) ?_;simp [A,aV (n:=(P.length:Int)+1)];have e5:P++l[m+2+i]::Z=(P++[l[m+2+i]])++Z:=by simp
   rw [e5]at r3;refine next _ H3 (P++[l[m+2+i]]) Z (by simp [g0]) (by simp) (by simp [O]) (by simp [S]) (F.trans f3) r3 (by simpa using v) (by simp) (by simp;omega) (fun q h=>?_) ?_ fun x=>?_
   ·rw [←e5,←Eh P x0,AI (by omega)];exact hq q (by omega)
   ·rw [ark];refine⟨J,arN _ _,fun y hy z hz=>?_⟩;obtain rfl:=aqs.1 hz;obtain⟨q,f_,rfl⟩:=aq2 ((g y).1 hy);have i7:q<m+2+i:=by simp at f_;omega
    rw [List.getElem_take];by_cases e:q=m+1+i
    ·subst e;exact b9
    ·have h1:=D0 hs (i:=q) (j:=m+1+i) (by omega) (by omega);unfold aN.le aN.lt at *;omega
   ·rw [N,aqC,aqC,g]
  ·have a_:l[m+2+i]=l[m+1+i]:=rK.1 K;have X:l[m+2+i].day=l[m+1+i].day∧l[m+2+i].fr=l[m+1+i].fr∧l[m+2+i].to=l[m+1+i].to:=by simpa using K
   refine aC (by simpa using X) (aO ?_);refine next _ E P R (by simp [g0]) (by simp [A]) (by simp [O]) (by simp [S]) F d v U (by omega) (fun q h=>hq q (by omega)) J fun x=>?_
   rw [N,aqC,aqs,g];refine⟨.inl,fun h=>h.elim id fun e=>?_⟩;rw [e,a_];exact List.mem_take_iff_getElem.2 ⟨m+1+i,by omega,rfl⟩
def LI(H:aj)(c:C)(o:List aN):Prop:=(o=[]∧c=.f .au)∨(o≠[]∧∃ b ep,c=.sl b 0 o.length 0 ep 3∧RB H b 3 ep (aH o))
theorem LI.push{H:aj}{c:C}{o:List aN}(h:LI H c o)(J:aj):LI (H++J) c o:=by
 rcases h with h | ⟨h,b,ep,h1,h2⟩
 ·exact .inl h
 ·exact .inr ⟨h,b,ep,h1,h2.push J⟩
theorem uV(o:List aN)(x:aN):(aH (o++[x])).flatten=(aH o).flatten++x.row:=by simp [aH]
theorem LI.app{H:aj}{c:C}{o:List aN}(h:LI H c o)(v:o.length≤1000000){b1 fl:Nat}{x:aN}(m:H[b1]?=aa (.box (x.row.map .f) fl)) :
  ∃ q H',cz H 3 24 (.c c) (.c (.sl b1 0 1 1 0 3))=aa (.c q,H')∧LI H' q (o++[x])∧H.length≤H'.length∧∀(i:Nat) y,H[i]?=aa y→akD y=ae→H'[i]?=aa y:=by
 have g:cO H 3 (.c (.sl b1 0 1 1 0 3))=aa (1,x.row.map .f):=pV m (by rfl);rcases h with⟨rfl,rfl⟩ | ⟨u,b,ep,rfl,h2⟩
 ·have d:bP 1 24=ae:=by simp [bP]
  refine⟨.sl H.length 0 1 0 0 3,H++[.bT 3 (x.row.map .f) 0 0 .loc],?_,.inr ⟨by simp,H.length,0,by simp,?_⟩,by simp,fun i y hy _=>by rw [AT (an hy)];exact hy⟩
  ·simp [cz,g,d]
  ·unfold RB;simp [aH]
 ·have d:bP (o.length+1) 24=ae:=by simp [bP];omega
  have j:o.length*3=(aH o).flatten.length:=by rw [bX (bw o),iE]
  unfold RB at h2;refine⟨.sl b 0 (o.length+1) 0 (ep+1) 3,H.set b (.bT 3 ((aH o).flatten.map .f++x.row.map .f) 0 (ep+1) .loc),?_,.inr ⟨by simp,b,ep+1,by simp,?_⟩,by simp,fun i y hy s=>?_⟩
  ·have l:(3:Nat)≠0:=by decide
   simp only [cz,g,l,if_false,h2,and_self,if_true];simp only [Nat.add_one_ne_zero,if_false];rw [ba ⟨trivial,by rw [aqr];exact j,by omega⟩,d];simp
  ·unfold RB;rw [IN (an h2),uV,ari]
  ·have:b≠i:=by rintro rfl;rw [h2]at hy;cases hy;cases s
   rw [AI this];exact hy
theorem amM{H:aj}{b ep n:Nat}{l R:List aN}(h:RB H b 3 ep (aH (l++R))):ef (n+1) H (.sl b 0 l.length 0 ep 3)=aa (sl .fs (aH l)):=by
 unfold RB at h;have d:l.length*3=(aH l).flatten.length:=by rw [bX (bw l),iE]
 have e:(aH (l++R)).flatten=(aH l).flatten++(aH R).flatten:=by simp [aH]
 simp only [kI,h];rw [ba ⟨trivial,trivial,by rw [aqr,e,api];omega⟩,e,aro,ari,aqO (by rw [aqr];omega),ap1 (by rw [aqr];omega)];rw [qH];cases l with
 | nil=>simp [sl,aH,Tg.fc]| cons x l=>simp [sl,aH]
theorem zF{H:aj}:∃ r H',Ev tab (.fn 205) [.c (.f .au)] H r H'∧(r=.c (.f .au)∧H'=H):=by
 refine cB rfl rfl fun Q b=>?_;apply ai;simp;apply ak;apply ai;simp [bu];refine aq (by simp) ?_;apply ai;simp;exact aB (b _ _ _ rfl (js (by simp)) ⟨rfl,rfl⟩)
theorem Z4(b g j:FC)(len mi d:Int)(m:kS len)(q:kS mi)(s:kS d) :
  bh tab 198 [.a [.f b,.f (fi len),.f g],.a [.f j,.f (fi mi)],vi d]=Eq (.a ((ft len mi d).row.map .f)):=bh.eq (Kf.CI (by
 unfold kS at *;refine cF rfl rfl fun H Q l=>?_;apply ai;simp;apply ai;simp [aV (n:=d*1440),aV (n:=d*1440+mi)];apply ai;simp [aV (n:=d*1440+mi+len)];refine aB (l _ _ ?_);simp [ft,aN.row]))
theorem NU(x y:aN):Kf tab 204 [.a (x.row.map .f),.a (y.row.map .f)] (vi (gi x y)):=by
 refine cF rfl rfl fun H Q d=>?_;have b:=wG .fs [dN x.fr y.fr,dN x.day y.day,dN x.to y.to] (by simp);simp [ints,sl,Tg.fc]at b;apply ai;simp [aN.row];apply ai;simp [fL,deep,kI,oY,b];refine aB (d _ _ ?_);simp [gi]
end Go.Proofs.YtnaofdffomdmhaaGreat
namespace Go.Proofs.YtnaofdffomdmhaaGreat
open Go Km
def afM(q mi:Int):Int:=(q*10080-mi+1440-1) / 1440
def Cl(n p d:Int):Bool:=decide (d % n=p)
structure xc(s:aR)(n p mi:Int):Prop where
 cs:s.cs=[⟨.fs,[td n p],mi⟩]
 sm:yx n p
 m0:0≤mi
 m1:mi≤1180
 l0:1≤s.len
 l1:s.len≤400
 xs:s.xs=[]
theorem ZI{m r t z n p mi le:Int}(h:yx n p)(g:0≤mi)(j:mi≤1180)(b:1≤le)(d:le≤400):xc (qJ m r t z n p mi le).st n p mi:=⟨rfl,h,g,j,b,d,rfl⟩
def OJ(s:aR)(n p mi q:Int)(x:aN):Prop:=∃ d,x=ft s.len mi d∧max (afM q mi) 0≤d∧d<afM q mi+7∧Cl n p d=ae
theorem vJ(s:aR){n p mi:Int}(hs:xc s n p mi)(q:Int)(j6:-1≤q)(j7:q≤100) :
  ∃ g L,(L.Pairwise aN.lt∧∀ x,x ∈ L↔OJ s n p mi q x)∧L.length≤10∧bh tab 128 [.a (s.row.map .f),vi q]=Eq (.c (.f (sl g (aH L)))):=by
 have key:∃ r,(∃ g L,(L.Pairwise aN.lt∧∀ x,x ∈ L↔OJ s n p mi q x)∧L.length≤10∧r=.c (.f (sl g (aH L))))∧bh tab 128 [.a (s.row.map .f),vi q] r:=by
  refine eI rfl rfl fun Q hQ=>?_;have hF:∀ x y:aN,Kf tab 204 [.a (x.row.map .f),.a (y.row.map .f)] (vi (gi x y)):=NU;obtain⟨e,hsm,m0,m1,i6,i7,e_⟩:=hs;have d_:s.xs.length=0:=by rw [e_];rfl
  have j4:=hsm.1;have f7:∀(t:T) (H:aj) (c:C) (o:List aN),t.g 5=.c c→LI H c o→o.length≤10→(∀ x,x ∈ o↔OJ s n p mi q x)→WP tab 128 ab [.code vp] ⟨t,[],H⟩ Q:=by
   intro t H c o B z N v;rcases z with⟨rfl,rfl⟩ | ⟨j5,b,ep,rfl,f8⟩
   ·obtain⟨r1,H1,e1,rfl,rfl⟩:=Nk (H:=H) (F:=204);obtain⟨r2,H2,e2,rfl,rfl⟩:=zF (H:=H1);apply ai;simp [B,e1.eq];apply ai;simp [B,e2.eq];refine aB (hQ _ _ _ ⟨.nil,[],⟨by simp,v⟩,by simp,rfl⟩ ?_);simp [sl,aH,Tg.fc]
   ·obtain⟨r1,H1,e1,rfl,f1,l1,q1,q2,q3⟩:=Za hF (by omega) f8;have ll:=q2.length_eq;rw [←ll]at e1 B;obtain⟨r2,H2,e2,l2,R2,rfl,f2,w1,w2,w3,w4⟩:=BJ (by omega) q3 q1;apply ai;simp [B,e1.eq];apply ai;simp [B,e2.eq];refine aB (hQ _ _ _ ⟨.fs,l2,⟨w3,fun x=>by rw [w4,q2.mem_iff,v]⟩,by omega,rfl⟩ ?_);have:=amM (n:=63) w1;simp [deep,this]
  have Z:∀(t:T) (H:aj) (c:C) (o:List aN),t.g 1=vi q→t.g 2=.c (.ptr 0 0 0)→t.g 5=.c c→H[0]?=aa (.box [C.f (sl s.cg (aL s.cs)),C.f (fi s.len),C.f (sl s.xg (aH s.xs))] 0)→LI H c o→o.length≤7→(∀ x,x ∈ o↔OJ s n p mi q x) →
    WP tab 128 ab [.code mj] ⟨t,[],H⟩ Q:=by
   intro t H c o S O B h0 z N v;apply ak;apply ai;simp [O,h0];have i_:∀ K:aj,bu K (.f (sl s.xg (aH s.xs)))=aa 0:=fun K=>by rw [e_];cases s.xg<;>rfl
   rw [d_];refine bM 0 (fun j t H'=>LI H' c o∧t.g 5=.c c) (by omega) (by decide) (by decide) (by simp) (by simp) ⟨z,by simp [B]⟩ (fun j t H hj=>by omega) ?_;rintro t H' ⟨z,B⟩ - -;exact f7 _ H' c o (by simp [B]) z (by omega) v
  apply ai;simp [aR.row];apply ai;simp;apply ak;apply ai;simp;have i9:s.cs.length≤1:=by rw [e];simp
  refine bM s.cs.length (fun j t H'=>t.g 1=vi q∧t.g 2=.c (.ptr 0 0 0)∧t.g 14=.c (.f (sl s.cg (aL s.cs)))∧H'[0]?=aa (.box [C.f (sl s.cg (aL s.cs)),C.f (fi s.len),C.f (sl s.xg (aH s.xs))] 0)∧∃ c o,t.g 5=.c c∧LI H' c o∧o.length≤7∧(j=0→o=[]∧c=.f .au)∧(j=1→∀ x,x ∈ o↔OJ s n p mi q x)) (by omega) (by decide) (by decide) (by simp) (by simp)
   ⟨by simp,by simp,by simp,by simp,.f .au,[],by simp,.inl ⟨rfl,rfl⟩,by simp,by simp,by omega⟩ ?_ ?_
  ·rintro j t H' hj ⟨S,O,A,h0,c,o,B,z,N,d9,-⟩ ha hb next
   have i4:j=0:=by omega
   subst i4;obtain⟨rfl,rfl⟩:=d9 rfl;simp at ha;have Y:=fun H:aj=>bR (H:=H) (cP s.cs) (dP (l:=s.cs) (j:=0) (by rw [e];simp));have a7:=fun H:aj=>bF (H:=H) (g:=s.cg) (rows:=aL s.cs) (sz:=2) (k:=.i64) (i:=0) (by omega) (by rw [e];simp);have g_:s.cs[0]'(by rw [e];simp)=⟨.fs,[td n p],mi⟩:=by simp [e]
   rw [g_]at Y;simp [cA.row]at Y a7;have h_:=qY (q*10080-mi+1440-1) 1440 (by omega) (by omega) (by omega);obtain⟨fst,X⟩:=aK (afM q mi);have a8:(q*10080-mi+1440-1) / 1440=fst:=by rw [X];rfl
   have b9:mN [td n p]=ae:=C1 hsm;have b_:∀ d,0≤d→d≤1000→bh tab 170 [.a [.f (sl .fs (aI [td n p]))],vi d]=Eq (vb (Cl n p d)):=fun d h0 I=>by
    have:=age .fs [td n p] b9 d (by unfold Day;omega);rw [this];have J:=tP (n:=n) (p:=p) h0;have h3:hasB (pd n p) d=Cl n p d:=by
     unfold Cl;by_cases k:d % n=p
     ·rw [decide_eq_true k,J.2 k]
     ·rw [decide_eq_false k];cases hb:hasB (pd n p) d with
      | false=>rfl| true=>exact absurd (J.1 hb) k
    rw [td]at b9;simp [Zx,tn,td,b9,h3]
   have a_:=fun d (h:kS d)=>Z4 (sl s.cg (aL s.cs)) (sl s.xg (aH s.xs)) (sl .fs (aI [td n p])) s.len mi d (by unfold kS;omega) (by unfold kS;omega) h;refine aG ?_;apply ai;simp [A,ha,a7,Y];have kN:(H'++[bo.box [.f (sl .fs (aI [td n p])),.f (fi mi)] 0])[H'.length]?=aa (.box [.f (sl .fs (aI [td n p])),.f (fi mi)] 0):=by simp
   have k0:(H'++[bo.box [.f (sl .fs (aI [td n p])),.f (fi mi)] 0])[0]?=aa (.box [C.f (sl s.cg (aL s.cs)),C.f (fi s.len),C.f (sl s.xg (aH s.xs))] 0):=by rw [AT (an h0)];exact h0
   generalize H'++[bo.box [.f (sl .fs (aI [td n p])),.f (fi mi)] 0]=HA at kN k0 ⊢;obtain⟨bN,f_⟩:=aK (H'.length);rw [←f_]at kN ⊢;apply ai;simp [S,kN,aV (n:=q*10080),aV (n:=q*10080-mi),aV (n:=q*10080-mi+1440),aV (n:=q*10080-mi+1440-1),h_,a8];apply ai;simp;have fb:-9≤fst∧fst≤701:=by omega
   refine aG ?_;refine cH (fun m st=>∃(u:Int) (t:T) (H:aj) (c:C) (o:List aN),st=⟨t,[],H⟩∧(m:Int)=fst+7-u∧max fst 0≤u∧u≤fst+7∧t.g 1=vi q∧t.g 2=.c (.ptr 0 0 0)∧t.g 7=.c (.ptr bN 0 0)∧t.g 8=vi fst∧t.g 10=vi u∧t.g 14=.c (.f (sl s.cg (aL s.cs)))∧t.g 15=vi (s.cs.length:Nat)∧t.g 16=vi 0∧t.g 5=.c c ∧
    H[0]?=aa (.box [C.f (sl s.cg (aL s.cs)),C.f (fi s.len),C.f (sl s.xg (aH s.xs))] 0)∧H[bN]?=aa (.box [.f (sl .fs (aI [td n p])),.f (fi mi)] 0)∧LI H c o∧(o.length:Int)≤u-max fst 0∧∀ x,x ∈ o↔∃ d,x=ft s.len mi d∧max fst 0≤d∧d<u∧Cl n p d=ae) (fst+7-max fst 0).toNat
    ⟨max fst 0,_,HA,.f .au,[],rfl,by omega,by omega,by omega,by simp [S],by simp [O],by simp,by simp,by simp,by simp [A],by simpa using hb,by simp [ha],by simp [B],k0,kN,.inl ⟨rfl,rfl⟩,by simp,fun x=>by simp;intros;omega⟩ ?_
   rintro m st ⟨u,t,H,c,o,rfl,hm,c0,c1,S,O,g7,g8,E,A,U,W,B,h0,hN,z,N,v⟩ ih;apply ak;apply ai;simp [g8,E,aV (n:=fst+7)];by_cases i8:u<fst+7
   ·refine aq (by simp [i8]) (aO ?_);apply ak;refine aG ?_;have go:∀(t:T) (H:aj) (c:C) (o:List aN),t.g 1=vi q→t.g 2=.c (.ptr 0 0 0)→t.g 7=.c (.ptr bN 0 0)→t.g 8=vi fst→t.g 10=vi u→t.g 14=.c (.f (sl s.cg (aL s.cs)))→t.g 15=vi (s.cs.length:Nat)→t.g 16=vi 0→t.g 5=.c c →
      H[0]?=aa (.box [C.f (sl s.cg (aL s.cs)),C.f (fi s.len),C.f (sl s.xg (aH s.xs))] 0)→H[bN]?=aa (.box [.f (sl .fs (aI [td n p])),.f (fi mi)] 0)→LI H c o→(o.length:Int)≤u+1-max fst 0→(∀ x,x ∈ o↔∃ d,x=ft s.len mi d∧max fst 0≤d∧d<u+1∧Cl n p d=ae) →
      WP tab 128 ab [.inBlock 3,.code vn,.inLoop vm,.inBlock 2,.inBlock 1,.code (rE 16 50),.inLoop (il 0 16 15 17 50 pK),.inBlock 0,.code mj] ⟨t,[],H⟩ Q:=by
     intro t H c o S O g7 g8 E A U W B h0 hN z N v;refine av (al (.inl rfl) ?_);simp [E,aV (n:=u+1)];exact ih (fst+7-(u+1)).toNat _ (by omega) ⟨u+1,_,H,c,o,rfl,by omega,by omega,by omega,by simp [S],by simp [O],by simp [g7],by simp [g8],by simp,by simp [A],by simp [U],by simp [W],by simp [B],h0,hN,z,by omega,v⟩
    apply ai;simp [g7,E,hN,b_ u (by omega) (by omega)];cases hc:Cl n p u
    ·refine bp (by simp) ?_;refine go _ H c o (by simp [S]) (by simp [O]) (by simp [g7]) (by simp [g8]) (by simp [E]) (by simp [A]) (by simp [U]) (by simp [W]) (by simp [B]) h0 hN z (by omega) fun x=>?_;rw [v];constructor
     ·rintro⟨d,I,J,h3,M⟩;exact⟨d,I,J,by omega,M⟩
     ·rintro⟨d,I,J,h3,M⟩;by_cases hd:d=u
      ·subst hd;rw [hc]at M;cases M
      ·exact⟨d,I,J,by omega,M⟩
    ·have c_:=a_ u (by unfold kS;omega);simp [ft,aN.row]at c_;obtain⟨c',H2,e1,e2,e3,e4⟩:=(z.push [.box [.f (fi u),.f (fi (u*1440+mi)),.f (fi (u*1440+mi+s.len))] 0]).app (by omega) (b1:=H.length) (fl:=0) (x:=ft s.len mi u) (by simp [aN.row,ft]);have p0:=e4 _ _ (show(H++[bo.box [.f (fi u),.f (fi (u*1440+mi)),.f (fi (u*1440+mi+s.len))] 0])[0]?=_ by rw [AT (an h0)];exact h0) rfl;have pN:=e4 _ _ (show(H++[bo.box [.f (fi u),.f (fi (u*1440+mi)),.f (fi (u*1440+mi+s.len))] 0])[bN]?=_ by rw [AT (an hN)];exact hN) rfl;refine aq (by simp) ?_;refine al (.inl rfl) ?_;simp [O,B,g7,E,h0,hN,c_,e1];refine go _ H2 c' (o++[ft s.len mi u]) (by simp [S]) (by simp [O]) (by simp [g7]) (by simp [g8]) (by simp [E]) (by simp [A]) (by simp [U]) (by simp [W]) (by simp) p0 pN e2 (by simp;omega) fun x=>?_;rw [aqC,aqs,v];constructor
     ·rintro(⟨d,I,J,h3,M⟩ | rfl)
      ·exact⟨d,I,J,by omega,M⟩
      ·exact⟨u,rfl,by omega,by omega,hc⟩
     ·rintro⟨d,I,J,h3,M⟩;by_cases hd:d=u
      ·subst hd;exact .inr I
      ·exact .inl ⟨d,I,J,by omega,M⟩
   ·have:u=fst+7:=by omega
    subst this;refine aC (by simp) ?_;refine bH (k':=[.inBlock 1,.code (rE 16 50),.inLoop (il 0 16 15 17 50 pK),.inBlock 0,.code mj]) rfl ?_;refine av (next _ _ ?_ (by simp [W]) (by simp [U]));refine⟨by simp [S],by simp [O],by simp [A],h0,c,o,by simp [B],z,by omega,by omega,fun _ x=>?_⟩;rw [v];constructor
    ·rintro⟨d,I,J,h3,M⟩;exact⟨d,I,by rw [←X];omega,by rw [←X];omega,M⟩
    ·rintro⟨d,I,J,h3,M⟩;exact⟨d,I,by omega,by omega,M⟩
  ·rintro t H' ⟨S,O,A,h0,c,o,B,z,N,d9,i5⟩ - -;refine Z _ H' c o (by simp [S]) (by simp [O]) (by simp [B]) h0 z N fun x=>?_;exact i5 (by rw [e];rfl) x
 obtain⟨r,⟨g,L,I,J,rfl⟩,h⟩:=key;exact⟨g,L,I,J,bh.eq h⟩
end Go.Proofs.YtnaofdffomdmhaaGreat
namespace Go.Proofs.YtnaofdffomdmhaaGreat
open Go Km
def ea(b d:FC)(x:aA):FC:=.fp ([b,d]++x.row) 0
def gl(af b:Int):FC:=sl .fs (rows (cJ af b))
def cf(af b r:Int):ct:=if r=0 then po af .fs [(1,b)] .nil []else if r=1 then po af .nil [] .nil []else po af .nil [] .fs [0,1]
theorem lW(af b:Int){r:Int}(h0:0≤r)(d:r≤2):(cJ af b)[r.toNat]?=aa (cf af b r):=by
 obtain rfl | rfl | rfl:r=0∨r=1∨r=2:=by omega
 all_goals rfl
theorem rX(af b:Int)(u:FC)(x:aA)(h0:0≤x.room)(m:x.room≤2):bh tab 120 [.c (.f (ea (gl af b) u x))]=Eq (.a ((cf af b x.room).row.map .f)):=bh.eq (by
 refine bS rfl rfl fun Q q=>?_;have s:=lW af b h0 m;have d:=fun H:aj=>bF (H:=H) (g:=.fs) (rows:=rows (cJ af b)) (sz:=15) (k:=.i64) (i:=x.room) h0 (by simp [cJ];omega);have l:=fun H:aj=>bR (H:=H) (fS (cJ af b)) (j:=x.room.toNat) (row:=(cf af b x.room).row) (by rw [rows,List.getElem?_map,s];rfl);apply ai;simp;apply ai;simp [ea,gl,mW,aT,aA.row,d,l,ct.row];refine aB (q _ _ ?_);simp [iA,cC,deep,bg,ct.row])
theorem zw(af g:Int)(m:FC)(x:aA)(h0:0≤x.room)(s:x.room≤2):∃ l:List Int,l.length=8∧l=(if 10<x.size then [14,0,0,0,0,0,0,0]else [0,0,0,0,0,0,0,0])∧∀ H,∃ J,Ev tab (.fn 77) [.c (.f (ea (gl af g) m x))] H (.t [.a (l.map fun n=>.f (fi n)),vi 0]) (H++J):=by
 refine⟨_,?_,rfl,fun H=>?_⟩
 ·split<;>rfl
 obtain⟨r,H',u,rfl,J,rfl⟩:∃ r H',Ev tab (.fn 77) [.c (.f (ea (gl af g) m x))] H r H'∧r=.t [.a ((if 10<x.size then [14,0,0,0,0,0,0,0]else [0,0,0,0,0,0,0,0]:List Int).map fun n=>.f (fi n)),vi 0]∧∃ J,H'=H++J:=by
  refine cB (C:=fun r H'=>r=.t [.a ((if 10<x.size then [14,0,0,0,0,0,0,0]else [0,0,0,0,0,0,0,0]:List Int).map fun n=>.f (fi n)),vi 0]∧∃ J,H'=H++J) aje rfl fun Q q=>?_;have j:=rX af g m x h0 s;have b:(cf af g x.room).cap=10:=by unfold cf;split<;>(try split)<;>rfl
  apply ai;simp;apply ak;apply ai;simp only [ea,aA.row,ct.row,art,ars,aqz,aqK]at j;by_cases d:10<x.size
  ·simp [ea,mW,aT,aA.row,j,jx,b,d];refine aq (by simp) (ai ?_);simp;refine aB (q _ _ _ rfl ?_ ⟨rfl,_,rfl⟩);simp [Km.results,bg,d,aT]
  ·simp [ea,mW,aT,aA.row,j,jx,b,d];refine bp (by simp) ?_;apply ai;simp;refine aB (q _ _ _ rfl ?_ ⟨rfl,_,rfl⟩);simp [Km.results,bg,d,aT]
 exact⟨J,u⟩
end Go.Proofs.YtnaofdffomdmhaaGreat
namespace Go.Proofs.YtnaofdffomdmhaaGreat
open Go Km
def qA(n p mi le:Int):List Int:=if mi+le≤1440 then [0,0,0,0,0,0,0,0]else [16,0,p,p*1440+mi,p*1440+mi+le,0,0,0]
def rp(b:List Int):V:=.a (b.map fun n=>.f (fi n))
theorem Y4(af j:Int)(x:FC){m r t z n p:Int}(i:yx n p){k:Nat}(h:k<60)(le:Int)(W:1≤le)(X:le≤10080)(h0:0≤r)(Y:r≤2)(H:aj) :
  ∃ H',Ev tab (.fn 78) [.c (.f (ea (gl af j) x (qJ m r t z n p (20*k:Nat) le)))] H (.t [rp (qA n p (20*k:Nat) le),vi 0]) H'∧Kp H H':=by
 obtain⟨mi,J⟩:=aK (20*k:Nat);have S:=Y3 i h le W X;rw [←J]at S ⊢;obtain⟨r',H',f,rfl,Z⟩:∃ r' H',Ev tab (.fn 78) [.c (.f (ea (gl af j) x (qJ m r t z n p mi le)))] H r' H'∧(r'=.t [rp (qA n p mi le),vi 0]∧Kp H H'):=by
  refine cB rfl rfl fun Q O=>?_;have v:=rX af j x (qJ m r t z n p mi le) h0 Y;have L:∃ a b c d e,(cf af j r).row=a::b::c ::(dS++[d,e]):=by
   unfold cf;split<;>(try split)<;>exact⟨_,_,_,_,_,rfl⟩
  obtain⟨a,b,c,d,e,L⟩:=L;change bh tab 120 [.c (.f (ea (gl af j) x (qJ m r t z n p mi le)))]=Eq (.a ((cf af j r).row.map .f))at v;rw [L]at v;have E:jx 3 (aa 10) (.a (.f a::.f b::.f c ::(List.map C.f dS++[.f d,.f e])))=aa (.a (dS.map .f)):=rfl;have B:∀ K:aj,aU K (aa 3) (.c (.f (.fp ([gl af j,x]++(qJ m r t z n p mi le).row) 6)))=aa (.a ((rF n p mi le).map .f)):=fun K=>rfl;obtain⟨cd,F⟩:=aK ([gl af j,x]++(qJ m r t z n p mi le).row);simp only [ea]at v ⊢;rw [←F]at v B ⊢;have I:(ig n p mi le).row.length=3:=rfl;apply ai;simp;obtain⟨u,q⟩:=aK (H++[bo.box [.f (fi 0),.f (fi 0),.f (fi 0),.f (fi 0),.f (fi 0),.f (fi 0),.f (fi 0),.f (fi 0)] 0]:aj);have M:Kp H u:=by rw [q];exact Kp.push _ _
  have w:u[H.length]?=aa (.box [.f (fi 0),.f (fi 0),.f (fi 0),.f (fi 0),.f (fi 0),.f (fi 0),.f (fi 0),.f (fi 0)] 0):=by rw [q];simp
  rw [←q];apply ai;simp only [aqz,ari,aqK]at v;simp [v,E,B,S,I];obtain⟨l,s⟩:=aK (u++[bo.box ((ig n p mi le).row.map .f) 0]:aj);have A:Kp u l:=by rw [s];exact Kp.push _ _
  have q1:l[u.length]?=aa (.box ((ig n p mi le).row.map .f) 0):=by rw [s];simp
  have g:=A.get w;rw [←s];have U:=M.tr A;apply ak;apply ai;by_cases y:(mi:Int)+le≤1440
  ·simp [y];refine aq (by simp) ?_;have N:cZ l (.ptr H.length 0 0) [.f (fi 0),.f (fi 0),.f (fi 0),.f (fi 0),.f (fi 0),.f (fi 0),.f (fi 0),.f (fi 0)]=aa (l.set H.length (.box [.f (fi 0),.f (fi 0),.f (fi 0),.f (fi 0),.f (fi 0),.f (fi 0),.f (fi 0),.f (fi 0)] 0)):=by simp [cZ,g,over]
   apply ai;simp [N,-bf];refine aB (O _ _ _ rfl ?_ ⟨rfl,U.kX (aft _) _⟩);simp [Km.results,bg,an g,aT,rp,qA,y]
  ·simp [y];refine bp (by simp) ?_;have o:aU l (aa 3) (.c (.ptr u.length 0 0))=aa (.a [.f (fi p),.f (fi (p*1440+mi)),.f (fi (p*1440+mi+le))]):=by simp [aU,aF,q1,aT,ig,y,aN.row]
   have N:cZ l (.ptr H.length 0 0) [.f (fi 16),.f (fi 0),.f (fi p),.f (fi (p*1440+mi)),.f (fi (p*1440+mi+le)),.f (fi 0),.f (fi 0),.f (fi 0)]=aa (l.set H.length (.box [.f (fi 16),.f (fi 0),.f (fi p),.f (fi (p*1440+mi)),.f (fi (p*1440+mi+le)),.f (fi 0),.f (fi 0),.f (fi 0)] 0)):=by simp [cZ,g,over]
   apply ai;simp [o,N,-az,-bf];refine aB (O _ _ _ rfl ?_ ⟨rfl,U.kX (aft _) _⟩);simp [Km.results,bg,an g,aT,rp,qA,y]
 exact⟨H',f,Z⟩
end Go.Proofs.YtnaofdffomdmhaaGreat
namespace Go.Proofs.YtnaofdffomdmhaaGreat
open Go Km
def mc:List aN→Int
 | []=>0| x::r=>x.to-x.fr+mc r
theorem aaE(a b:List aN):mc (a++b)=mc a+mc b:=by
 induction a with
 | nil=>simp [mc]| cons x a d=>simp only [art,mc,d];omega
theorem Cn(g:Tg)(L:List aN)(I:L.length≤1000)(z:∀ x ∈ L,0≤x.fr∧x.fr≤x.to∧x.to≤2000000):bh tab 202 [.c (.f (sl g (aH L)))]=Eq (vi (mc L)):=Kf.eq (by
 refine cF rfl rfl fun H Q y=>?_;apply ai;simp;apply ai;simp;apply ak;apply ai;simp;refine bM L.length (fun j t H'=>(∃ J,H'=H++J)∧t.g 6=.c (.f (sl g (aH L)))∧t.g 3=vi (mc (L.take j))∧0≤mc (L.take j)∧mc (L.take j)≤j*2000000) (by omega) (by decide) (by decide) (by simp) (by simp) ⟨⟨[],by simp⟩,by simp,by simp [mc],by simp [mc],by simp [mc]⟩ ?_ ?_
 ·rintro j t _ l ⟨⟨J,rfl⟩,m,d,A,B⟩ u q next
  have b:=fun H:aj=>bR (H:=H) (bw L) (fQ l);have s:L.take (j+1)=L.take j++[L[j]]:=by rw [aqW,By l];rfl
  have v:mc (L.take (j+1))=mc (L.take j)+(L[j].to-L[j].fr):=by rw [s,aaE];simp [mc]
  obtain⟨b1,E,F⟩:=z L[j] (anc l);simp [aN.row]at b;refine aG ?_;apply ai;simp [m,u,bF,l,b];refine al (.inl rfl) ?_;simp [d,aV (n:=L[j].to-L[j].fr),aV (n:=mc (L.take j)+(L[j].to-L[j].fr))];refine av (next _ _ ?_ (by simp [u]) (by simp [q]));exact⟨⟨_,rfl⟩,by simp [m],by simp [v],by omega,by rw [v];omega⟩
 ·rintro t _ ⟨⟨J,rfl⟩,m,d,A,B⟩ - -;rw [aqS]at d;apply ai;simp [d];refine aB (y _ _ ?_);simp)
def bG(l:List aR):List (List FC):=l.map aR.row
@[simp] theorem uA (l:List aR):(bG l).length=l.length:=by simp [bG]
theorem ez(l:List aR):cq 3 (bG l):=cq.map fun _=>rfl
theorem vh{l:List aR}{j:Nat}(b:j<l.length):(bG l)[j]?=aa l[j].row:=by simp [bG,b]
def cR(k b:Int)(l:List aA):List aR:=(l.filter fun s=>decide (s.room=k)&&decide (s.eg=b)).map aA.st
theorem tI(k d:Int)(a b:List aA):cR k d (a++b)=cR k d a++cR k d b:=by simp [cR]
theorem Et(g:Tg)(l:List aA)(k m:Int)(hl:l.length≤1000)(H:aj):∃ c H',Ev tab (.fn 141) [.c (.f (sl g (aD l))),vi k,vi m] H (.c c) H'∧LR H' c 3 (bG (cR k m l))∧(∀ i,bB c=aa i→H.length≤i)∧Kp H H':=by
 obtain⟨r,H',he,c,rfl,h⟩:∃ r H',Ev tab (.fn 141) [.c (.f (sl g (aD l))),vi k,vi m] H r H'∧∃ c,r=.c c∧LR H' c 3 (bG (cR k m l))∧(∀ i,bB c=aa i→H.length≤i)∧Kp H H':=by
  refine cB (C:=fun r H'=>∃ c,r=.c c∧LR H' c 3 (bG (cR k m l))∧(∀ i,bB c=aa i→H.length≤i)∧Kp H H') ajh rfl fun Q hQ=>?_;apply ai;simp;apply ai;simp;apply ak;apply ai;simp;refine bM l.length (fun j t J=>t.g 10=.c (.f (sl g (aD l)))∧t.g 1=vi k∧t.g 2=vi m∧(cR k m (l.take j)).length≤j∧∃ c,t.g 7=.c c∧LR J c 3 (bG (cR k m (l.take j)))∧(∀ i,bB c=aa i→H.length≤i)∧Kp H J) (by omega) (by decide) (by decide) (by simp) (by simp)
   ⟨by simp,by simp,by simp,by simp [cR],.f .au,by simp,by simpa [cR,bG]using LR.nil H 3,by simp [bB],⟨aft _,fun _ _=>rfl⟩⟩ ?_ ?_
  ·rintro j t J w ⟨u,F,L,e,c,N,W,q,Y⟩ X a next
   have B:=fun H:aj=>bR (H:=H) (bt l) (et w);have A:=fun H:aj=>bF (H:=H) (g:=g) (rows:=aD l) (sz:=7) (k:=.i64) (i:=(j:Int)) (by omega) (by simp;omega);simp only [aqI]at A;have K:l.take (j+1)=l.take j++[l[j]]:=by rw [aqW,By w];rfl
   obtain⟨s,hs⟩:=aK (l[j]);rw [←hs]at B K;have f:s.row.length=7:=rfl;obtain⟨b,O⟩:=aK (J.length);obtain⟨v,x⟩:=aK (J++[bo.box (s.row.map .f) 0]);have z:=W.push [bo.box (s.row.map .f) 0];rw [←x]at z;have y:Kp H v:=by rw [x];exact Y.tr (Kp.push _ _)
   have d:v[b]?=aa (.box (s.row.map .f) 0):=by rw [x,O];simp
   have o:aU v ab (.c (.ptr b 1 0))=aa (vi s.room):=by simp [aU,aF,d,aA.row]
   have l2:aU v ab (.c (.ptr b 2 0))=aa (vi s.eg):=by simp [aU,aF,d,aA.row]
   have l4:aU v (aa 3) (.c (.ptr b 4 0))=aa (.a (s.st.row.map .f)):=by simp [aU,aF,d,aA.row,aR.row,aT]
   refine aG ?_;apply ai;simp [u,X,A,B,f,-az];rw [←x,←O];have skip:(decide (s.room=k)&&decide (s.eg=m))=ag→cR k m (l.take (j+1))=cR k m (l.take j):=fun h=>by
    rw [K,tI];simp [cR,h]
   apply ai;by_cases M:s.room=k
   ·by_cases U:s.eg=m
    ·have E:cR k m (l.take (j+1))=cR k m (l.take j)++[s.st]:=by rw [K,tI];simp [cR,M,U]
     simp [F,L,o,l2,M,U,-az];refine aq (by simp) ?_;have Z:=z.push [bo.box (s.st.row.map .f) 0];have d2:(v++[bo.box (s.st.row.map .f) 0])[v.length]?=aa (.box (s.st.row.map .f) 0):=by simp
     obtain⟨c',J2,e1,e2,p,e4⟩:=Z.app (ez _) (by decide) (row:=s.st.row) rfl (bytes:=56) (by simp [bP];omega) d2;have n:s.st.row.length=3:=rfl;refine al (.inl rfl) ?_;simp [N,l4,n,e1,-az];refine av (next _ _ ⟨by simp [u],by simp [F],by simp [L],by rw [E];simp;omega,c',by simp,by rw [E];simpa [bG]using e2,fun i hi=>?_,?_⟩ (by simp [X]) (by simp [a]))
     ·rcases e4 with h | h
      ·exact q i (by rw [←h];exact hi)
      ·rw [h]at hi;cases hi;have:=y.1;simp;omega
     ·have I:=y.tr (Kp.push v [bo.box (s.st.row.map .f) 0]);refine⟨by have:=p.1;have:=I.1;omega,fun i hi=>?_⟩;rw [←I.2 i hi];have S:i<(v++[bo.box (s.st.row.map .f) 0]).length:=by have:=I.1;omega
      rw [By S];exact p.2 i _ (By S) fun h=>by have:=q i h;omega
    ·simp [F,L,o,l2,M,U,-az];refine aC (by simp) (aO (av (next _ _ ?_ (by simp [X]) (by simp [a]))));exact⟨by simp [u],by simp [F],by simp [L],by rw [skip (by simp [U])];omega,c,by simp [N],by rw [skip (by simp [U])];exact z,q,y⟩
   ·simp [F,o,M,-az];refine aC (by simp) (aO (av (next _ _ ?_ (by simp [X]) (by simp [a]))));exact⟨by simp [u],by simp [F],by simp [L],by rw [skip (by simp [M])];omega,c,by simp [N],by rw [skip (by simp [M])];exact z,q,y⟩
  ·rintro t J ⟨u,F,L,e,c,N,W,q,Y⟩ - -;rw [aqS]at W;apply ai;simp [N];exact aB (hQ _ _ (.c c) rfl (js (by simp)) ⟨c,rfl,W,q,Y⟩)
 exact⟨c,H',he,h⟩
end Go.Proofs.YtnaofdffomdmhaaGreat
namespace Go.Proofs.YtnaofdffomdmhaaGreat
open Go Km
def qF(b:Int):List (Int × Int)→Int × Bool
 | []=>(0,ag)| q::r=>if q.1=b then(q.2,ae)else qF b r
theorem Zn(af v:Int)(N:FC)(x:aA)(h0:0≤x.room)(W:x.room≤2):bh tab 125 [.c (.f (ea (gl af v) N x))]=Eq (.t [vi (qF x.eg (cf af v x.room).q).1,vb (qF x.eg (cf af v x.room).q).2]):=bh.eq (by
 refine bS rfl rfl fun Q M=>?_;have l:=rX af v N x h0 W;have Z:(cf af v x.room).q.length≤1:=by unfold cf po;split<;>(try split)<;>simp
 generalize cf af v x.room=r at *;obtain⟨O,A⟩:=aK ([gl af v,N]++x.row);have a:∀ K:aj,aU K ab (.c (.f (.fp O 4)))=aa (vi x.eg):=fun K=>by rw [A];rfl
 simp only [ea]at l ⊢;rw [←A]at l ⊢;have Y:jx 13 ab (.a (r.row.map .f))=aa (.c (.f (sl r.qg (fR r.q)))):=rfl;have B:∀ K:aj,bu K (.f (sl r.qg (fR r.q)))=aa r.q.length:=fun K=>by simp [fR]
 obtain⟨res,u⟩:=aK (qF x.eg r.q);rw [←u]at M;apply ai;simp;apply ak;apply ai;simp [l,Y,B];refine bM r.q.length (fun j t J=>t.g 0=.c (.f (.fp O 0))∧t.g 8=.c (.f (sl r.qg (fR r.q)))∧res=qF x.eg (r.q.drop j)) (by omega) (by decide) (by decide) (by simp) (by simp) ⟨by simp,by simp,by simpa using u⟩ ?_ ?_
 ·rintro j t J U ⟨g0,L,s⟩ S X next
  have m:=fun H:aj=>bF (H:=H) (g:=r.qg) (rows:=fR r.q) (sz:=2) (k:=.i64) (i:=(j:Int)) (by omega) (by simp [fR];omega);have E:=fun H:aj=>bR (H:=H) (tO r.q) (Au U);simp only [aqI]at m;rw [apw U,qF]at s;generalize r.q[j]=q at *;obtain⟨b,z⟩:=aK (J.length);refine aG ?_;apply ai;simp [L,S,m,E,-az];obtain⟨I,y⟩:=aK (J++[bo.box [.f (fi q.1),.f (fi q.2)] 0]);have d:I[b]?=aa (.box [.f (fi q.1),.f (fi q.2)] 0):=by rw [y,z];simp
  have c:aU I ab (.c (.ptr b 0 0))=aa (vi q.1):=by simp [aU,aF,d]
  have e:aU I ab (.c (.ptr b 1 0))=aa (vi q.2):=by simp [aU,aF,d]
  rw [←y,←z];apply ai;simp [g0,c,a,-az];by_cases F:q.1=x.eg
  ·rw [ba F]at s;refine aq (by simp [F]) ?_;apply ai;simp [e,-az];refine aB (M _ _ ?_);simp [s]
  ·rw [aW F]at s;refine aC (by simp [F]) (aO (av (next _ _ ⟨by simp [g0],by simp [L],s⟩ (by simp [S]) (by simp [X]))))
 ·rintro t J ⟨g0,L,s⟩ - -;rw [List.drop_length,qF]at s;apply ai;simp;refine aB (M _ _ ?_);simp [s])
def sS:List Nat:=[1,2,3,4,5,6,10,12,15,20,30,60]
theorem xy{d:Nat}(h:d ∈ sS):d≤60:=by
 simp only [sS,aqA,ard,or_false]at h;omega
theorem Zg{d:Nat}{n p:Int}(b:d ∈ sS)(h:yx n p):∃ e ∈ sS,bh tab 215 [vi (7*(d:Int)),vi n]=Eq (.t [vi (7*(e:Int)),vi 0]):=by
 obtain⟨j,l,m,q⟩:=h;have g:(d,n.toNat) ∈ Zh:=by
  obtain rfl | rfl | rfl | rfl | rfl | rfl:n=1∨n=2∨n=3∨n=4∨n=5∨n=6:=by omega
  all_goals
   unfold Zh;rw [arQ];exact⟨d,b,by simp⟩
 refine⟨Nat.lcm d n.toNat,?_,?_⟩
 ·have:n.toNat ∈ [1,2,3,4,5,6]:=by
   obtain rfl | rfl | rfl | rfl | rfl | rfl:n=1∨n=2∨n=3∨n=4∨n=5∨n=6:=by omega
   all_goals simp
  have key:∀ d ∈ sS,∀ k ∈ [1,2,3,4,5,6],Nat.lcm d k ∈ sS:=by decide
  exact key d b _ this
 ·have:=akq g;simp only at this;rw [Int.toNat_of_nonneg (by omega)]at this;simp only [Int.natCast_mul]at this;exact this
theorem B7(g:Tg)(L:List aR)(hl:L.length≤2000)(h:∀ s ∈ L,∃ n p mi,xc s n p mi):∃ d ∈ sS,bh tab 140 [.c (.f (sl g (bG L)))]=Eq (.t [vi (15+7*(d:Int)),vb ae]):=by
 obtain⟨r,⟨d,O,rfl⟩,hp⟩:∃ r,(∃ d ∈ sS,r=.t [vi (15+7*(d:Int)),vb ae])∧bh tab 140 [.c (.f (sl g (bG L)))] r:=by
  refine eI rfl rfl fun Q hQ=>?_;apply ai;simp;apply ai;simp;apply ak;apply ai;simp;refine bM L.length (fun j t J=>t.g 16=.c (.f (sl g (bG L)))∧t.g 4=vi 0∧∃ d ∈ sS,t.g 5=vi (7*(d:Int))) (by omega) (by decide) (by decide) (by simp) (by simp) ⟨by simp,by simp,1,by simp [sS],by simp⟩ ?_ ?_
  ·rintro j t J hj ⟨l,x,d,O,v⟩ ha hb next
   obtain⟨n,p,mi,a⟩:=h L[j] (anc hj);have A:=fun H:aj=>bF (H:=H) (g:=g) (rows:=bG L) (sz:=3) (k:=.i64) (i:=(j:Int)) (by omega) (by simp;omega);have Z:=fun H:aj=>bR (H:=H) (ez L) (vh hj);simp only [aqI]at A;generalize L[j]=s at *;have d9:s.row.length=3:=rfl;obtain⟨b,W⟩:=aK (J.length);obtain⟨S,U⟩:=aK (J++[bo.box (s.row.map .f) 0]);have f:S[b]?=aa (.box (s.row.map .f) 0):=by rw [U,W];simp
   have x0:∀ K:aj,K[b]?=S[b]?→aU K ab (.c (.ptr b 0 0))=aa (.c (.f (sl s.cg (aL s.cs)))):=fun K z=>by simp [aU,aF,z.trans f,aR.row]
   have x2:∀ K:aj,K[b]?=S[b]?→aU K ab (.c (.ptr b 2 0))=aa (.c (.f (sl s.xg (aH s.xs)))):=fun K z=>by simp [aU,aF,z.trans f,aR.row]
   have b9:∀ K:aj,bu K (.f (sl s.cg (aL s.cs)))=aa 1:=fun K=>by rw [a.cs];simp [aL]
   have d_:∀ K:aj,bu K (.f (sl s.xg (aH s.xs)))=aa 0:=fun K=>by rw [a.xs];cases s.xg<;>rfl
   have b_:∀ K:aj,bA K 2 ab (.c (.f (sl s.cg (aL s.cs)))) (vi 0)=aa (.c (.f (.fp [tC n p,fi mi] 0))):=fun K=>by rw [a.cs];rfl
   have a_:∀ K:aj,aU K (aa 2) (.c (.f (.fp [tC n p,fi mi] 0)))=aa (.a [.f (tC n p),.f (fi mi)]):=fun K=>rfl;have X:=af0 (n:=n) (p:=p) a.sm;change bh tab 214 [.a [.f (tC n p)]]=_ at X;obtain⟨e,he,Y⟩:=Zg O a.sm;refine aG ?_;apply ai;simp [l,ha,A,Z,d9,-az];rw [←U,←W];apply ak;apply ai;simp [x0 S rfl,b9,-az];refine bM 1 (fun i u K=>u.g 16=.c (.f (sl g (bG L)))∧u.g 17=vi (L.length:Nat)∧u.g 18=vi j∧u.g 7=.c (.ptr b 0 0)∧u.g 23=.c (.f (sl s.cg (aL s.cs)))∧u.g 4=vi 0∧K[b]?=S[b]?∧u.g 5=(if i=0 then vi (7*(d:Int))else vi (7*(e:Int)))) (by omega) (by decide) (by decide) (by simp) (by simp)
    ⟨by simp [l],by simp [hb],by simp [ha],by simp,by simp,by simp [x],rfl,by simp [v]⟩ ?_ ?_
   ·rintro i u K hi ⟨l,m,q,o,E,x,z,v⟩ I a8 N;have c_:i=0:=by omega
    subst c_;simp only [if_true]at v;refine aG ?_;apply ai;simp at I;simp [E,I,b_,a_,-az];obtain⟨B,y⟩:=aK (K++[bo.box [.f (tC n p),.f (fi mi)] 0]);have m1:B[K.length]?=aa (.box [.f (tC n p),.f (fi mi)] 0):=by rw [y];simp
    have l1:aU B (aa 1) (.c (.ptr K.length 0 0))=aa (.a [.f (tC n p)]):=by simp [aU,aF,m1,aT]
    have lb:b<K.length:=by have:=an (z.trans f);omega
    have n1:B.length=K.length+1:=by rw [y];simp
    rw [←y];apply ai;simp [l1,X,-az];obtain⟨c,F⟩:=aK (B++[bo.box [.f .es,.f (fi 0),.f (fi n),.f (.fs [fi p] 1)] 0]);have m2:c[B.length]?=aa (.box [.f .es,.f (fi 0),.f (fi n),.f (.fs [fi p] 1)] 0):=by rw [F];simp
    have l2:aU c ab (.c (.ptr B.length 2 0))=aa (vi n):=by simp [aU,aF,m2]
    have l3:aU c ab (.c (.ptr B.length 1 0))=aa (vi 0):=by simp [aU,aF,m2]
    rw [←F];apply ak;apply ai;simp;refine bp (by simp) ?_;refine ak (ai ?_);simp [v,l2,Y,-az];apply ai;have a7:=xy he;simp;refine aC (by simp;omega) (aO ?_);refine al (.inl rfl) ?_;simp [x,l3,-az];refine av (N _ _ ⟨by simp [l],by simp [m],by simp [q],by simp [o],by simp [E],by simp,?_,by simp⟩ (by simp [I]) (by simp [a8]));rw [F,AT (by omega),y,AT lb];exact z
   ·rintro u K ⟨l,m,q,o,E,x,z,v⟩ - -;simp only [Nat.one_ne_zero,if_false]at v;apply ai;simp [o,x2 K z,d_,-az];refine bM 0 (fun _ w _=>w.g 16=.c (.f (sl g (bG L)))∧w.g 17=vi (L.length:Nat)∧w.g 18=vi j∧w.g 4=vi 0∧w.g 5=vi (7*(e:Int))) (by omega) (by decide) (by decide) (by simp) (by simp)
     ⟨by simp [l],by simp [m],by simp [q],by simp [x],by simp [v]⟩ (fun j t H hj=>by omega) ?_
    rintro w M ⟨l,m,q,x,v⟩ - -;exact av (next _ _ ⟨by simp [l],by simp [x],e,he,by simp [v]⟩ (by simp [q]) (by simp [m]))
  ·rintro t J ⟨l,x,d,O,v⟩ - -;have a7:=xy O;apply ai;simp [x,v,aV (n:=(15:Int)),aV (n:=(15:Int)+7*(d:Int))];refine aB (hQ _ _ _ ⟨d,O,rfl⟩ ?_);simp [Km.results,bg];omega
 exact⟨d,O,hp.eq⟩
end Go.Proofs.YtnaofdffomdmhaaGreat
namespace Go.Proofs.YtnaofdffomdmhaaGreat
open Go Km
theorem aj5{f:Nat}{args:List V}{H:aj}{S:V→aj→Prop}{ps:List P}{res:List fV}{body:aE}(z:tab f=aa ⟨ps,res,body⟩)(y:args.length=ps.length)
  (h:∀ Q:Option aE→St→Prop,(∀ j s r,(∃ b,s.defs=b.map .gm∧fk b s.heap∧Km.results s.aw (lN b s.heap) res=aa r∧S r (lN b s.heap))→Q j s)→WP tab f ab [.code body] ⟨cE ps args .e,[],H⟩ Q):∃ r H',Ev tab (.fn f) args H r H'∧S r H':=by
 have l:=h (fun _ s=>∃ r,∃ b,s.defs=b.map .gm∧fk b s.heap∧Km.results s.aw (lN b s.heap) res=aa r∧S r (lN b s.heap)) fun _ _ r g=>⟨r,g⟩
 obtain⟨n,m,d,j,s,g,r,b,x,v,q,u⟩:=l;exact⟨r,lN b s.heap,qX z y ⟨n,m,d,j,s,g,0,0,_,by rw [x];exact jC v,q,rfl⟩,u⟩
theorem Am:∀ {d:List Nat} {H:aj},(lN d H).length=H.length
 | [],_=>rfl| b::d,H=>by rw [lN,Am,aqE]
end Go.Proofs.YtnaofdffomdmhaaGreat
namespace Go.Proofs.YtnaofdffomdmhaaGreat
open Go Km
theorem zm{q:Type}{r:q→q→Bool}(b:∀ x y,r x y=r y x):∀ {l:List q},l.Pairwise (fun x y=>r x y=ag)→∀ x ∈ l,∀ y ∈ l,r x y=ae→x=y
 | [],_,x,j,_,_,_=>by cases j
 | a::l,h,x,j,y,u,d=>by
  rcases aqA.1 j with s | v
  ·rcases aqA.1 u with g | m
   ·rw [s,g]
   ·rw [s,arl h m]at d;cases d
  ·rcases aqA.1 u with g | m
   ·rw [g,b,arl h v]at d;cases d
   ·exact zm b (ar8 h) x v y m d
def Zm(a b:aA):Bool:=decide (a.meet<b.meet)||(decide (a.meet=b.meet)&&decide (a.room<b.room))
def Nd(s:aA):List aA→List aA
 | []=>[s]| x::r=>if Zm s x then s::x::r else x::Nd s r
theorem qC(s:aA):∀ l:List aA,(Nd s l).Perm (l++[s])
 | []=>.refl _
 | x::r=>by
  simp only [Nd];split
  ·exact(List.perm_append_comm (l₁:=[s]) (l₂:=x::r))
  ·exact(qC s r).cons x
theorem wq{a b:aA}:Zm a b=ae↔a.meet<b.meet∨a.meet=b.meet∧a.room<b.room:=by simp [Zm]
theorem DR(s:aA):∀ {l:List aA},l.Pairwise kJ→(Nd s l).Pairwise kJ
 | [],_=>arN _ _
 | x::r,h=>by
  simp only [Nd];split
  ·rename_i d;rw [wq]at d;refine arj.2 ⟨fun y b=>?_,h⟩;rcases aqA.1 b with rfl | b
   ·unfold kJ;omega
   ·have:=arl h b;unfold kJ at *;omega
  ·rename_i d;have g:¬ (s.meet<x.meet∨s.meet=x.meet∧s.room<x.room):=fun e=>d (wq.2 e);refine arj.2 ⟨fun y b=>?_,DR s (ar8 h)⟩;have:y ∈ r++[s]:=(qC s r).mem_iff.1 b;rcases aqC.1 this with b | b
   ·exact arl h b
   ·obtain rfl:=aqs.1 b;exact g
def srt:List aA→List aA
 | []=>[]| s::r=>Nd s (srt r)
theorem lZ:∀ l:List aA,(srt l).Perm l
 | []=>.refl _| s::r=>(qC s _).trans (List.perm_append_comm.trans ((lZ r).cons s))
theorem CY:∀ l:List aA,(srt l).Pairwise kJ
 | []=>.nil| s::r=>DR s (CY r)
def jE(l:List aA):Prop:=l.Pairwise fun x y=>dt x y=ag
theorem tq(x y:aA):dt x y=dt y x:=by simp only [dt,eq_comm]
theorem jE.perm{l l':List aA}(h:jE l)(b:l'.Perm l):jE l':=(b.pairwise_iff (fun {x y} e=>by rw [tq];exact e)).2 h
theorem N3{l A:List aA}(h:jE l)(b:A.Perm l)(j:A.Pairwise kJ):A=srt l:=
 sZ (b.trans (lZ l).symm) j (CY l) fun x m y q d g=>zm (r:=dt) tq h x (b.mem_iff.1 m) y (b.mem_iff.1 q) (Nl.2 (by unfold kJ at d g;omega))
def jN(x y:aA):Prop:=x.meet<y.meet∨x.meet=y.meet∧x.room<y.room
theorem ak8{l:List aA}(h:jE l):(srt l).Pairwise jN:=by
 refine List.Pairwise.imp (fun {x y} e=>?_) ((CY l).and (h.perm (lZ l)));have b:=e.1;have d:=e.2;unfold kJ at b;have g:¬ (x.meet=y.meet∧x.room=y.room):=by simpa [dt]using d
 unfold jN;omega
theorem nF{l0:List aA}:∀ {l acc:List aA},jE acc→(∀ x ∈ l0,∀ y ∈ acc,dt x y=ag)→jE (uniq l0 acc l)∧∀ x ∈ l0,∀ y ∈ uniq l0 acc l,dt x y=ag
 | [],acc,h,g=>⟨h,g⟩
 | s::l,acc,h,g=>by
  simp only [uniq];split
  ·exact nF h g
  ·rename_i j;simp only [Bool.or_eq_true,List.any_eq_true,not_or,not_exists,not_and,Bool.not_eq_true]at j;refine nF (ark.2 ⟨h,arN _ _,fun a q b u=>?_⟩) fun x m y d=>?_
   ·rw [aqs.1 u];exact j.2 a q
   ·rcases aqC.1 d with d | d
    ·exact g x m y d
    ·rw [aqs.1 d];exact j.1 x m
def sG(l0:List aA)(h:dv):List aA:=srt (l0++uniq l0 [] (dE h.l))
theorem vG{l0:List aA}(h0:jE l0)(h:dv):jE (l0++uniq l0 [] (dE h.l)):=by
 obtain⟨b,d⟩:=nF (l0:=l0) (l:=dE h.l) (acc:=[]) .nil (by simp);exact ark.2 ⟨h0,b,d⟩
theorem Ab(h:dv):(dE h.l).length≤h.l.length:=by simp only [dE,aqr];exact List.length_filter_le _ _
theorem aff{l0:List aA}(h:dv):(sG l0 h).length≤l0.length+h.l.length:=by
 have b:=pF (l0:=l0) (l:=dE h.l) (acc:=[]);have g:=Ab h;have d:=(lZ (l0++uniq l0 [] (dE h.l))).length_eq;unfold sG;simp at b d;omega
theorem Zp{h:dv}{s:aA}(b:s ∈ dE h.l):∃ x ∈ h.l,s=x.bc:=by
 simp only [dE,aqJ,List.mem_filter]at b;obtain⟨y,⟨d,_⟩,rfl⟩:=b;exact⟨y,d,rfl⟩
theorem afg{l0:List aA}{h:dv}{s:aA}(b:s ∈ sG l0 h):s ∈ l0∨∃ x ∈ h.l,s=x.bc:=by
 have:=(lZ _).mem_iff.1 b;rcases aqC.1 this with e | e
 ·exact .inl e
 ·rcases uF e with e | e
  ·cases e
  ·exact .inr (Zp e)
end Go.Proofs.YtnaofdffomdmhaaGreat
