/-
  aop the nX kU and the ny answer, for all arguments of their kind, in the small machine: part 2.
-/
import Derived.Test.YtnaofdffomdmhaaGreatS1
import Derived.Test.YtnaofdffomdmhaaGreatK4
import Derived.Test.YtnaofdffomdmhaaGreatK3
import Derived.Test.YtnaofdffomdmhaaGreatK5
open Option renaming some → aa,none → ab
open Bool renaming true → ae,false → ag
open List renaming getElem?_append_left → AT, drop_zero → awj, getElem?_append_right → IS, getElem?_drop → avt, getElem_mem → anc, take_add_one → avK, getElem?_eq_getElem → By, mem_append → avq, mem_singleton → avh, take_length → avH, mem_append_left → awa, mem_append_right → awK, mem_cons_self → atI, mem_cons_of_mem → aul, map_inj_left → awr, mem_flatMap → awx, mem_map → avx, mem_filter → avW, any_eq_true → awd, mem_range → av4, getElem?_set_ne → AI, getElem?_eq_some_iff → BY, drop_eq_getElem_cons → auR, getElem?_set_self → IN, map_cons → avl, map_nil → avs, length_append → api, length_set → avw, set_getElem_self → awy, length_map → avi, take_of_length_le → avj, mem_cons → avn, not_mem_nil → av6, getElem_of_mem → avQ, take_append_of_le_length → avF, cons_append → awc, pairwise_append → av3, nil_append → awm, pairwise_cons → avZ, pairwise_iff_getElem → avV, pairwise_singleton → awE, map_append → awb, drop_length → awg, rel_of_pairwise_cons → awh
open Int renaming toNat_natCast → avr, lt_or_le → awu, toNat_of_nonneg → awR, dvd_trans → awn
open Nat renaming lcm → axe, le_refl → aft, add_mul → avM, one_mul → aw8, zero_add → avP
open Prod.mk renaming inj → avE
open Bool renaming and_eq_true → If
open Option.some renaming inj → awN
open List.Pairwise renaming of_cons → awX
set_option linter.unusedVariables false
set_option linter.constructorNameAsVariable false
set_option linter.unusedSimpArgs false
set_option linter.unusedSectionVars false
set_option linter.unnecessarySimpa false
set_option maxRecDepth 100000
namespace Go.Proofs.YtnaofdffomdmhaaGreat
open Go Km
theorem rn{n b:Nat}(g:n≤1100000)(d:b≤4096):bV n b=ae:=by
 have h:(2*n+768)*b≤2200768*4096:=Nat.mul_le_mul (by omega) d;simp [bV];omega
theorem Ra(g:Tg)(ps:List bQ)(B:∀ p ∈ ps,Mod p)(I:1≤ps.length)(F:ps.length≤64):∃ b,(b=ae↔uC [] ps)∧Kf tab 177 [.c (.f (sl g (ba ps)))] (vb b):=by
 obtain⟨b,z⟩:∃ b:Bool,b=ae↔uC [] ps:=⟨open Classical in decide (uC [] ps),by simp⟩
 refine⟨b,z,cr rfl rfl fun H Q E=>?_⟩;have u:RH H (H++[.box [.f (sl g (ba ps))] 0,.box (List.replicate ps.length (C.f (fi 0))) 0,.box [.sl (H.length+1) 0 ps.length ps.length 0 1] 0,.box [.cl 255 [.ptr H.length 0 0,.ptr (H.length+2) 0 0,.ptr (H.length+3) 0 0]] 0]) g ps (List.replicate ps.length 0):=by
  refine⟨⟨0,by simp⟩,by simp,by simp,by simp,fun i hi=>AT hi⟩
 obtain⟨v,H',d,A,rfl,q,K,m,-⟩:=aus H rfl g ps B F ps.length 0 (by omega) _ _ [] u (by simp) rfl (fun j h=>absurd h (Nat.not_lt_zero j));rw [awj,←z]at q;have x:A=b:=by rw [Bool.eq_iff_iff];exact q
 subst x;have d:=d.eq;simp only [show((0:Nat):Int)=0 from rfl]at d;apply ai;simp;have l:bV ps.length 8=ae:=rn (by omega) (by decide);have y:∀(t:T) (H:aj),t.g 6=vi ps.length→bq t H (.dX 1 8 [.int .i64 0] (R 6) (R 6))=aa (.c (.sl H.length 0 ps.length ps.length 0 1),H++[.box (List.replicate ps.length (C.f (fi 0))) 0]):=by
  intro t H h;have e:(cF ps.length [fi 0]).map C.f=List.replicate ps.length (C.f (fi 0)):=by simp [cF]
  simp only [bq,A9,h,ir];rw [bf ⟨by omega,Int.le_refl _,by simpa using l,rfl⟩];rw [aY (by omega),avr,e]
 apply ai;simp [y];apply ai;simp;apply ai;simp;apply ai;simp [bX,d];have s:H'=H++H'.drop H.length:=by
  refine List.ext_getElem? fun i=>?_;have J:=ak m.2.2.2.1;rcases Nat.lt_or_ge i H.length with h | h
  ·exact(m.2.2.2.2 i h).trans (AT h).symm
  ·refine Eq.trans ?_ (IS h).symm;rw [avt,Nat.add_sub_cancel' h]
 refine aC (E _ _ ?_);simp;exact⟨_,s⟩
theorem Rb(g:Tg)(ps:List bQ)(j:∀ p ∈ ps,Mod p)(d:1≤ps.length)(m:ps.length≤64):∃ b,(b=ae↔uC [] ps)∧bg tab 177 [.c (.f (sl g (ba ps)))]=Eq (vb b):=by
 obtain⟨b,l,h⟩:=Ra g ps j d m;exact⟨b,l,h.eq⟩
def ik(S:Int→Prop)(l:Int)(f:Bool):Prop:=(f=ag∧l=0∧∀ d,¬ S d)∨(f=ae∧S l∧∀ d,S d→l≤d)
theorem ik.iff{S S':Int→Prop}{l:Int}{f:Bool}(h:ik S l f)(g:∀ d,S' d↔S d):ik S' l f:=by
 rcases h with⟨a,b,c⟩ | ⟨a,b,c⟩
 ·exact .inl ⟨a,b,fun d j=>c d ((g d).1 j)⟩
 ·exact .inr ⟨a,(g _).2 b,fun d j=>c d ((g d).1 j)⟩
theorem ik.step{S S':Int→Prop}{l x:Int}{f:Bool}(h:ik S l f)(g:∀ d,S' d↔S d∨d=x):ik S' (if f=ag∨x<l then x else l) ae:=by
 right;rcases h with⟨rfl,rfl,c⟩ | ⟨rfl,b,c⟩
 ·refine⟨rfl,by simpa using (g x).2 (.inr rfl),fun d j=>?_⟩;rcases(g d).1 j with h | rfl
  ·exact absurd h (c d)
  ·simp
 ·refine⟨rfl,?_,fun d j=>?_⟩
  ·by_cases k:x<l
   ·simpa [k]using (g x).2 (.inr rfl)
   ·simpa [k]using (g l).2 (.inl b)
  ·rcases(g d).1 j with h | rfl
   ·have:=c d h;by_cases k:x<l<;>simp [k]<;>omega
   ·by_cases k:d<l<;>simp [k];omega
def lK(ps:List bQ)(n:Int)(l:List bQ)(d:Int):Prop:=n≤d∧tY ps d=ae∧∃ p ∈ l,d ∈ p.head
theorem acV(g:Tg)(ps:List bQ)(hP:∀ p ∈ ps,gG p=ae)(hl:ps.length≤64)(n:Int):∃ e f,ik (lK ps n ps) e f∧bg tab 176 [.c (.f (sl g (ba ps))),vi n]=Eq (.t [vi e,vb f]):=by
 have key:∃ r,(∃ e f,ik (lK ps n ps) e f∧r=.t [vi e,vb f])∧bg tab 176 [.c (.f (sl g (ba ps))),vi n] r:=by
  refine dY rfl rfl fun Q hQ=>?_;apply ai;simp;apply ai;simp;apply an;apply ai;simp;refine bS ps.length (fun j t H'=>t.g 0=.c (.f (sl g (ba ps)))∧t.g 1=vi n∧t.g 12=.c (.f (sl g (ba ps)))∧∃ e f,t.g 6=vi e∧t.g 7=vb f∧ik (lK ps n (ps.take j)) e f) (by omega) (by decide) (by decide) (by simp) (by simp)
   ⟨by simp,by simp,by simp,0,ag,by simp,by simp,.inl ⟨rfl,rfl,fun d hd=>by obtain⟨_,_,p,hp,_⟩:=hd;simp at hp⟩⟩ ?_ ?_
  ·rintro j t H hj ⟨g0,s,b,e,f,A,B,M⟩ ha hb next
   obtain⟨p,hp⟩:=aJ (ps[j]);have b_:p ∈ ps:=hp▸anc hj;obtain⟨f0,f1,p0,p1,Af,-,a_,-⟩:=fC (hP p b_);have N:=fun H:aj=>bL (H:=H) (cm ps) (dV (l:=ps) (j:=j) hj);have U:=fun H:aj=>bl (H:=H) (g:=g) (rows:=ba ps) (sz:=4) (k:=.i64) (i:=j) (by omega) (by simpa using hj);rw [←hp]at N;simp [bQ.row]at N U;have c_:ps.take (j+1)=ps.take j++[p]:=by rw [avK,By hj,hp];rfl
   refine aF ?_;apply ai;simp [b,ha,U,N];apply ai;simp;refine bS p.head.length (fun i t H'=>t.g 0=.c (.f (sl g (ba ps)))∧t.g 1=vi n∧t.g 12=.c (.f (sl g (ba ps)))∧t.g 14=vi j∧t.g 13=vi ps.length∧t.g 19=.c (.f (sl p.hg (ints p.head))) ∧
    ∃ e f,t.g 6=vi e∧t.g 7=vb f∧ik (fun d=>lK ps n (ps.take j) d∨(n≤d∧tY ps d=ae∧d ∈ p.head.take i)) e f) (by omega) (by decide) (by decide) (by simp) (by simp)
    ⟨by simp [g0],by simp [s],by simp [b],by simp [ha],by simp [hb],by simp,e,f,by simp [A],by simp [B],M.iff fun d=>by simp⟩ ?_ ?_
   ·rintro i t H hi ⟨g0,s,b,v,u,y,e,f,A,B,M⟩ J L nx;obtain⟨x,hx⟩:=aJ (p.head[i]);have d9:x ∈ p.head:=hx▸anc hi;have h_:=a_ x d9;have a8:=fun H:aj=>jP (H:=H) hi;rw [←hx]at a8;have z:=(amb g ps (by omega) hP x (by unfold Day;omega)).eq;have W:p.head.take (i+1)=p.head.take i++[x]:=by rw [avK,By hi,hx];rfl
    refine aF ?_;apply ai;simp [J,y,bl,hi,a8];have cO:¬ (n≤x∧tY ps x=ae)→ik (fun d=>lK ps n (ps.take j) d∨(n≤d∧tY ps d=ae∧d ∈ p.head.take (i+1))) e f:=fun b9=>M.iff fun d=>by
     rw [W,avq,avh];constructor
     ·rintro(h | ⟨E,F,I | rfl⟩)
      ·exact .inl h
      ·exact .inr ⟨E,F,I⟩
      ·exact absurd ⟨E,F⟩ b9
     ·rintro(h | ⟨E,F,I⟩)
      ·exact .inl h
      ·exact .inr ⟨E,F,.inl I⟩
    have O:(n≤x∧tY ps x=ae)→ik (fun d=>lK ps n (ps.take j) d∨(n≤d∧tY ps d=ae∧d ∈ p.head.take (i+1))) (if f=ag∨x<e then x else e) ae:=fun X=>M.step fun d=>by
     rw [W,avq,avh];constructor
     ·rintro(h | ⟨E,F,I | rfl⟩)
      ·exact .inl (.inl h)
      ·exact .inl (.inr ⟨E,F,I⟩)
      ·exact .inr rfl
     ·rintro((h | ⟨E,F,I⟩) | rfl)
      ·exact .inl h
      ·exact .inr ⟨E,F,.inl I⟩
      ·exact .inr ⟨X.1,X.2,.inr rfl⟩
    have K:∀(t:T) (H:aj) (e':Int) (f':Bool),t.g 0=.c (.f (sl g (ba ps)))→t.g 1=vi n→t.g 12=.c (.f (sl g (ba ps)))→t.g 14=vi j→t.g 13=vi ps.length→t.g 19=.c (.f (sl p.hg (ints p.head)))→t.g 21=vi i→t.g 20=vi p.head.length→t.g 6=vi e'→t.g 7=vb f'→ik (fun d=>lK ps n (ps.take j) d∨(n≤d∧tY ps d=ae∧d ∈ p.head.take (i+1))) e' f' →
      WP tab 176 ab [.code AW,.inLoop AV,.inBlock 2,.inBlock 1,.code AX,.inLoop E7,.inBlock 0,.code AY] ⟨t,[],H⟩ Q:=by
     intro t H e' f' q0 q1 d_ f7 e_ f8 g_ f_ q6 q7 qm;refine nx _ _ ?_ g_ f_;exact⟨by simp [q0],by simp [q1],by simp [d_],by simp [f7],by simp [e_],by simp [f8],e',f',by simp [q6],by simp [q7],qm⟩
    by_cases S:n≤x
    ·cases f with
     | false=>
      cases m:tY ps x with
      | false=>
       rw [m]at z;apply ai;simp [g0,s,A,B,S,z];refine aB (by simp) (aP (aA ?_));exact K _ _ e ag (by simp [g0]) (by simp [s]) (by simp [b]) (by simp [v]) (by simp [u]) (by simp [y]) (by simp [J]) (by simp [L]) (by simp [A]) (by simp [B]) (cO (by simp [m]))
      | true=>
       rw [m]at z;apply ai;simp [g0,s,A,B,S,z];refine au (by simp) (aq (.inl rfl) ?_);simp;refine aA ?_;exact K _ _ x ae (by simp [g0]) (by simp [s]) (by simp [b]) (by simp [v]) (by simp [u]) (by simp [y]) (by simp [J]) (by simp [L]) (by simp) (by simp) (by have:=O ⟨S,m⟩;simpa using this)
     | true=>
      by_cases Z:x<e
      ·cases m:tY ps x with
       | false=>
        rw [m]at z;apply ai;simp [g0,s,A,B,S,Z,z];refine aB (by simp) (aP (aA ?_));exact K _ _ e ae (by simp [g0]) (by simp [s]) (by simp [b]) (by simp [v]) (by simp [u]) (by simp [y]) (by simp [J]) (by simp [L]) (by simp [A]) (by simp [B]) (cO (by simp [m]))
       | true=>
        rw [m]at z;apply ai;simp [g0,s,A,B,S,Z,z];refine au (by simp) (aq (.inl rfl) ?_);simp;refine aA ?_;exact K _ _ x ae (by simp [g0]) (by simp [s]) (by simp [b]) (by simp [v]) (by simp [u]) (by simp [y]) (by simp [J]) (by simp [L]) (by simp) (by simp) (by have:=O ⟨S,m⟩;simpa [Z]using this)
      ·apply ai;simp [g0,s,A,B,S,Z];refine aB (by simp) (aP (aA ?_));refine K _ _ e ae (by simp [g0]) (by simp [s]) (by simp [b]) (by simp [v]) (by simp [u]) (by simp [y]) (by simp [J]) (by simp [L]) (by simp [A]) (by simp [B]) ?_;cases m:tY ps x with
       | false=>exact cO (by simp [m])
       | true=>have:=O ⟨S,m⟩;simpa [Z]using this
    ·apply ai;simp [g0,s,A,B,S];refine aB (by simp) (aP (aA ?_));exact K _ _ e f (by simp [g0]) (by simp [s]) (by simp [b]) (by simp [v]) (by simp [u]) (by simp [y]) (by simp [J]) (by simp [L]) (by simp [A]) (by simp [B]) (cO fun h=>S h.1)
   ·rintro t H ⟨g0,s,b,v,u,y,e,f,A,B,M⟩ - -;rw [avH]at M;refine aA (next _ _ ?_ (by simp [v]) (by simp [u]));refine⟨by simp [g0],by simp [s],by simp [b],e,f,by simp [A],by simp [B],M.iff fun d=>?_⟩;unfold lK;rw [c_];constructor
    ·rintro⟨E,F,q,Y,I⟩;rcases avq.1 Y with Y | Y
     ·exact .inl ⟨E,F,q,Y,I⟩
     ·rw [avh.1 Y]at I;exact .inr ⟨E,F,I⟩
    ·rintro(⟨E,F,q,Y,I⟩ | ⟨E,F,I⟩)
     ·exact⟨E,F,q,awa _ Y,I⟩
     ·exact⟨E,F,p,awK _ (avh.2 rfl),I⟩
  ·rintro t H ⟨g0,s,b,e,f,A,B,M⟩ ha hb;rw [avH]at M;apply ai;simp [A,B];refine aC (hQ _ _ _ ⟨e,f,M,rfl⟩ ?_);simp
 obtain⟨r,⟨e,f,M,rfl⟩,h⟩:=key;exact⟨e,f,M,h.eq⟩
end Go.Proofs.YtnaofdffomdmhaaGreat
namespace Go.Proofs.YtnaofdffomdmhaaGreat
open Go Km
structure xM(ps:List bQ):Prop where
 l1:1≤ps.length
 l2:ps.length≤64
 mod:∀ p ∈ ps,Mod p
 prod:fW ps≤1000000
 st:dp ps≤1000000000000
theorem xM.eV{ps:List bQ}(h:xM ps):∀ p ∈ ps,gG p=ae:=fun p b=>(h.mod p b).ok
def InN(ps:List bQ)(n x:Int):Prop:=n≤x∧tY ps x=ae
theorem F0{ps:List bQ}{x:Int}(b:0≤x):tY ps x=ae↔∀ p ∈ ps,xd p x=ae:=by
 simp [tY,hasB,b]
theorem yZ{x:Int}:∀ {l:List bQ},0≤x→x<dp l→∃ p ∈ l,x<p.fr
 | [],h0,h=>by simp only [dp]at h;omega
 | q::l,h0,h=>by
  simp only [dp]at h;by_cases k:x<q.fr
  ·exact⟨q,atI,k⟩
  ·obtain⟨p,b,e⟩:=yZ (x:=x) (l:=l) h0 (by omega);exact⟨p,aul _ b,e⟩
theorem BM{ps:List bQ}(h:xM ps){n x:Int}(j:0≤n)(l:dp ps≤x):InN ps n x↔max n (dp ps)≤x∧∀ p ∈ ps,kj p x:=by
 have h0:=oc ps;unfold InN;rw [F0 (by omega)];constructor
 ·rintro⟨g,d⟩;exact⟨by omega,fun p b=>(B6 (h.mod p b) (by have:=ob b;omega)).1 (d p b)⟩
 ·rintro⟨g,d⟩;exact⟨by omega,fun p b=>(B6 (h.mod p b) (by have:=ob b;omega)).2 (d p b)⟩
theorem alI(g:Tg)(ps:List bQ)(h:xM ps)(n:Int)(J:0≤n)(W:n≤1000000000000):∃ d f q z,ik (InN ps n) d f∧(0≤d∧d≤1000001000000) ∧
  bg tab 176 [.c (.f (sl g (ba ps))),vi n]=Eq (.t [vi q,vb z]) ∧
  ((z=ae∧d=q∧f=ae)∨(z=ag∧q=0∧∃ b,bg tab 177 [.c (.f (sl g (ba ps)))]=Eq (vb b)∧((b=ag∧d=0∧f=ag)∨(b=ae∧bg tab 178 [.c (.f (sl g (ba ps))),vi n]=Eq (.t [vi d,vb f]))))):=by
 obtain⟨q,z,U,A⟩:=acV g ps h.eV h.l2 n;have Y:=oc ps;have Z:=h.st;have X:=h.prod;have u:∀ x,InN ps n x→x<dp ps→lK ps n ps x:=by
  rintro x ⟨N,H⟩ l;obtain⟨p,y,S⟩:=yZ (by omega) l;refine⟨N,H,p,y,?_⟩;have:=(F0 (by omega)).1 H p y;unfold xd at this;rw [aY (by omega),decide_eq_true_eq]at this;exact this
 rcases U with⟨rfl,rfl,F⟩ | ⟨rfl,O,v⟩
 ·have B:∀ x,InN ps n x→dp ps≤x:=fun x l=>by
   rcases awu x (dp ps)with k | k
   ·exact absurd (u x l k) (F x)
   ·exact k
  have j:∀ x,InN ps n x↔max n (dp ps)≤x∧∀ p ∈ ps,kj p x:=fun x=>by
   constructor
   ·intro l;exact(BM h J (B x l)).1 l
   ·intro l;exact(BM h J (by omega)).2 l
  obtain⟨b,I,m⟩:=Rb g ps h.mod h.l1 h.l2;cases b with
  | false=>
   refine⟨0,ag,0,ag,.inl ⟨rfl,rfl,fun x l=>?_⟩,⟨by omega,by omega⟩,A,.inr ⟨rfl,rfl,ag,m,.inl ⟨rfl,rfl,rfl⟩⟩⟩;have:=I.2 (Gm (d:=x) ps [] (by simp) ((j x).1 l).2);cases this
  | true=>
   rcases akl g ps h.mod h.l2 h.prod n _ rfl (by omega)with⟨d,⟨K,L,d3,M⟩,E⟩ | ⟨s,E⟩
   ·exact⟨d,ae,0,ag,.inr ⟨rfl,(j d).2 ⟨K,L⟩,fun x l=>M x ((j x).1 l).1 ((j x).1 l).2⟩,⟨by omega,by omega⟩,A,.inr ⟨rfl,rfl,ae,m,.inr ⟨rfl,E⟩⟩⟩
   ·exact⟨0,ag,0,ag,.inl ⟨rfl,rfl,fun x l=>s x ((j x).1 l).1 ((j x).1 l).2⟩,⟨by omega,by omega⟩,A,.inr ⟨rfl,rfl,ae,m,.inr ⟨rfl,E⟩⟩⟩
 ·obtain⟨s1,s2,p,y,Q⟩:=O;have I:=(fC (h.eV p y)).2.2.2.2.2.2.1 q Q;have:=ob y;refine⟨q,ae,q,ae,.inr ⟨rfl,⟨s1,s2⟩,fun x l=>?_⟩,⟨by omega,by omega⟩,A,.inl ⟨rfl,rfl,rfl⟩⟩;rcases awu x (dp ps)with k | k
  ·exact v x (u x l k)
  ·omega
theorem ik.join{S S1 q:Int→Prop}{l x:Int}{f m:Bool}(h1:ik S1 l f)(h2:ik q x m)(g:∀ d,S d↔S1 d∨q d):ik S (if m=ae∧(f=ag∨x<l)then x else l) (f||m):=by
 rcases h1 with⟨rfl,rfl,a⟩ | ⟨rfl,a,b⟩<;>rcases h2 with⟨rfl,rfl,c⟩ | ⟨rfl,c,e⟩
 ·refine .inl ⟨rfl,by simp,fun d j=>?_⟩;rcases(g d).1 j with h | h
  ·exact a d h
  ·exact c d h
 ·refine .inr ⟨rfl,by simpa using (g x).2 (.inr c),fun d j=>?_⟩;rcases(g d).1 j with h | h
  ·exact absurd h (a d)
  ·simpa using e d h
 ·refine .inr ⟨rfl,by simpa using (g l).2 (.inl a),fun d j=>?_⟩;rcases(g d).1 j with h | h
  ·simpa using b d h
  ·exact absurd h (c d)
 ·refine .inr ⟨rfl,?_,fun d j=>?_⟩
  ·by_cases k:x<l
   ·simpa [k]using (g x).2 (.inr c)
   ·simpa [k]using (g l).2 (.inl a)
  ·rcases(g d).1 j with h | h
   ·have:=b d h;by_cases k:x<l<;>simp [k]<;>omega
   ·have:=e d h;by_cases k:x<l<;>simp [k]<;>omega
def QH(H:aj)(n b:Int)(found:Bool):Prop:=H[0]?=aa (.box [.f (fi n)] 0)∧H[1]?=aa (.box [.f (fi b)] 0)∧H[2]?=aa (.box [.f (.bool found)] 0)∧H[3]?=aa (.eH ae) ∧
 ∃ s:T,H[4]?=aa (.lp 107 s [P.nat 12] dv cT .ready ab 3)∧s.g 3=.c (.ptr 0 0 0)∧s.g 6=.c (.ptr 1 0 0)∧s.g 7=.c (.ptr 2 0 0)
end Go.Proofs.YtnaofdffomdmhaaGreat
namespace Go.Proofs.YtnaofdffomdmhaaGreat
open Go Km
theorem jT{k:IntKind}{a b:Int}(h:0≤a)(d:b≠0):dq .rem (.c (.f (.int k a))) (.c (.f (.int k b)))=aa (.c (.f (.int k (a % b)))):=by
 rw [iB d,Int.tmod_eq_emod_of_nonneg h]
def nh:FC:=.fs [.fs [.fs [.az,fi 0,fi 1,.fs [fi 0] 1] 1] 1,fi 0,fi 1440] 1
def nz(af:Int)(d:Tg)(q:List (Int × Int))(b:Tg)(p:List Int):cC:=⟨10,0,af,fi 0,.fs [fi 3] 1,fi (-1),.az,fi 0,.az,fi 0,.az,nh,.az,d,q,b,p⟩
def b5(af b:Int):List cC:=[nz af .fs [(1,b)] .nil [],nz af .nil [] .nil [],nz af .nil [] .fs [0,1]]
def aeg(af b:Int):V:=.c (.f (sl .fs (rows (b5 af b))))
set_option maxRecDepth 10000
theorem aeh(a q:Int)(j:0≤a)(a1:a≤255)(s:0≤q)(u:q≤65535):bg tab 31 [.c (.f (.int .u8 a)),.c (.f (.int .u16 q))]=Eq (aeg (a % 40) (q % 3000)):=bg.eq (by
 refine bI rfl rfl fun Q l=>?_;have g:=jT (k:=.u8) (b:=40) j (by decide);have d:=jT (k:=.i64) (b:=3000) s (by decide);apply ai;simp;apply ai;simp;apply ai;simp;apply ai;simp [g,aW (n:=a % 40)];refine an (gn (.inl rfl) ?_ ?_)
 case _=>
  simp;apply ai;simp [aW (n:=q),d];apply ai;simp;apply ai;simp;refine aC (l _ _ ?_);simp [iU,cD,deep,mD,bj,aeg,b5,rows,cC.row,nz,nh,sl,Tg.fc,fV,ints]
 ·intro c m;rw [avh.1 m];refine⟨by decide,_,rfl,.inl ⟨by decide,?_⟩⟩;simp [ib,V.beq,jJ,C.beq,FC.beq])
def u8s(l:List Int):List C:=l.map fun x=>.f (.int .u8 x)
theorem aeP(l s u m d g q j:Int)(h:∀ x ∈ [l,s,u,m,d,g,q,j],0≤x∧x≤255) :
  bg tab 37 [.a (u8s [l,s,u,m,d,g,q,j])]=Eq (.a ((tn (1+l % 7) (s % 3) (u % 3) (1+m % 12) (1+d % 6) (g % (1+d % 6)) (20*(q % 60)) (10+10*(j % 30))).row.map .f)):=bg.eq (by
 have b0:=h l (by simp);have b1:=h s (by simp);have v:=h u (by simp);have y:=h m (by simp);have z:=h d (by simp);have A:=h g (by simp);have B:=h q (by simp);have E:=h j (by simp);refine bI rfl rfl fun Q O=>?_;have F:=jT (k:=.u8) (b:=7) b0.1 (by decide);have H:=jT (k:=.u8) (b:=3) b1.1 (by decide);have I:=jT (k:=.u8) (b:=3) v.1 (by decide);have J:=jT (k:=.u8) (b:=12) y.1 (by decide);have K:=jT (k:=.u8) (b:=6) z.1 (by decide);have L:=jT (k:=.i64) (b:=1+d % 6) A.1 (by omega);have M:=jT (k:=.u8) (b:=60) B.1 (by decide);have N:=jT (k:=.u8) (b:=30) E.1 (by decide);have S:=Int.emod_nonneg g (show 1+d % 6≠0 by omega);have U:=Int.emod_lt_of_pos g (show 0<1+d % 6 by omega);apply ai;simp [u8s];apply ai;simp [K,aW (n:=d % 6),aW (n:=1+d % 6)];apply ai;simp [aW (n:=g),L];apply ai;simp [N,M,aW (n:=j % 30),aW (n:=10*(j % 30)),aW (n:=10+10*(j % 30)),aW (n:=q % 60),aW (n:=20*(q % 60))];apply ai;simp [F,H,I,J,aW (n:=l % 7),aW (n:=1+l % 7),aW (n:=s % 3),aW (n:=u % 3),aW (n:=m % 12),aW (n:=1+m % 12)];refine aC (O _ _ ?_);simp [iU,cD,deep,mD,bj,tn,av.row,aH,aM,cJ.row,aN,dG.row,ba,bQ.row,ints,sl,Tg.fc])
end Go.Proofs.YtnaofdffomdmhaaGreat
namespace Go.Proofs.YtnaofdffomdmhaaGreat
open Go Km
theorem aug(args:List V)(H:aj)(h:tab.get fv=ab):tab.tt fv args H=Km.tt fv args H:=by
 show(match tab.get fv with | some _=>ab | none=>Km.tt fv args H)=_;rw [h]
abbrev RK(f:Nat)(args:List V)(r:V):Prop:=bA tab 400 60 (.fn f) args .e 0 (isR r)
theorem lE{f:Nat}{args:List V}{r:V}(h:RK f args r=(r=r)):bg tab f args=Eq r:=(aea aug h).eq
theorem pW{b:Type}{L:List b}{f:Nat}{args:b→List V}{res:b→V}(h:L.map (fun x=>RK f (args x) (res x))=L.map fun x=>(res x=res x)){x:b}(d:x ∈ L):bg tab f (args x)=Eq (res x):=
 lE (awr.1 h x d)
def mx(n p:Int):V:=.a [.f (.fs [.fs [.az,fi 0,fi n,.fs [fi p] 1] 1] 1)]
def pM:V:=.a [.f .az]
def pZ:V:=.a [.f (.fs [.fs [.es,fi 0,fi 1,.fs [fi 0] 1] 1] 1)]
def fam:List (Int × Int):=[(1,0),(2,0),(2,1),(3,0),(3,1),(3,2),(4,0),(4,1),(4,2),(4,3),(5,0),(5,1),(5,2),(5,3),(5,4),(6,0),(6,1),(6,2),(6,3),(6,4),(6,5)]
def Az(n p:Int):Prop:=1≤n∧n≤6∧0≤p∧p<n
theorem jo{n p:Int}(h:Az n p):(n,p) ∈ fam:=by
 obtain⟨b,d,g,j⟩:=h;obtain rfl | rfl | rfl | rfl | rfl | rfl:n=1∨n=2∨n=3∨n=4∨n=5∨n=6:=by omega
 all_goals obtain rfl | rfl | rfl | rfl | rfl | rfl:p=0∨p=1∨p=2∨p=3∨p=4∨p=5:=by omega
 all_goals first | omega | simp [fam]
def Ri(n p:Int):Int:=if p=0 then n-1 else p-1
theorem lT:fam.map (fun x=>(RK 106 [mx x.1 x.2,vi (-1)] (.t [mx x.1 (Ri x.1 x.2),vi 0]),RK 214 [mx x.1 x.2] (.t [.a [.f .es,.f (fi 0),.f (fi x.1),.f (.fs [fi x.2] 1)],vi 0]),RK 210 [mx x.1 x.2,pZ] (.t [pM,vi 0]),RK 210 [mx x.1 x.2,pM] (.t [mx x.1 x.2,vi 0]),RK 58 [mx x.1 x.2] (vb ag),RK 211 [mx x.1 x.2,vi 0] (.t [vi x.2,vb ae]))) =
  fam.map fun x=>((.t [mx x.1 (Ri x.1 x.2),vi 0]:V)=.t [mx x.1 (Ri x.1 x.2),vi 0],(.t [.a [.f .es,.f (fi 0),.f (fi x.1),.f (.fs [fi x.2] 1)],vi 0]:V)=.t [.a [.f .es,.f (fi 0),.f (fi x.1),.f (.fs [fi x.2] 1)],vi 0],(.t [pM,vi 0]:V)=.t [pM,vi 0],(.t [mx x.1 x.2,vi 0]:V)=.t [mx x.1 x.2,vi 0],vb ag=vb ag,(.t [vi x.2,vb ae]:V)=.t [vi x.2,vb ae]):=by kernel_rfl
end Go.Proofs.YtnaofdffomdmhaaGreat
namespace Go.Proofs.YtnaofdffomdmhaaGreat
open Go Km
def pE:V:=.a [.f .es,.f (fi 0),.f (fi 1),.f (.fs [fi 0] 1)]
def mF:V:=.a [.f (fi 0),.f (.fs [fi 3] 1),.f (fi (-1)),.f .az,.f (fi 0),.f .az,.f (fi 0),.f .az,.f nh,.f .az]
def adu:List (Nat × Nat):=([1,2,3,4,5,6,10,12,15,20,30,60]:List Nat).flatMap fun d=>[(d,1),(d,2),(d,3),(d,4),(d,5),(d,6)]
theorem vw:([RK 290 [pE] pZ,RK 57 [pZ,mx 1 0] (.t [pZ,vi 0]),RK 106 [mx 1 0,vi 0] (.t [mx 1 0,vi 0]),RK 106 [pZ,vi 0] (.t [pZ,vi 0]),RK 284 [pM,pZ] (.t [pZ,vi 0]),RK 284 [pZ,pM] (.t [pZ,vi 0]),RK 284 [pM,pM] (.t [pM,vi 0]),RK 287 [.c (.f .az)] pM,RK 190 [mF] (vi 0)],
  (List.range 60).map (fun k=>RK 276 [vi (20*k:Nat)] (.t [vi 0,vi (20*k:Nat)])),adu.map fun x=>RK 215 [vi (7*x.1:Nat),vi (x.2:Nat)] (.t [vi (7*axe x.1 x.2:Nat),vi 0])) =
 ([pZ=pZ,(.t [pZ,vi 0]:V)=.t [pZ,vi 0],(.t [mx 1 0,vi 0]:V)=.t [mx 1 0,vi 0],(.t [pZ,vi 0]:V)=.t [pZ,vi 0],(.t [pZ,vi 0]:V)=.t [pZ,vi 0],(.t [pZ,vi 0]:V)=.t [pZ,vi 0],(.t [pM,vi 0]:V)=.t [pM,vi 0],pM=pM,vi 0=vi 0],
  (List.range 60).map (fun k=>((.t [vi 0,vi (20*k:Nat)]:V)=.t [vi 0,vi (20*k:Nat)])),adu.map fun x=>((.t [vi (7*axe x.1 x.2:Nat),vi 0]:V)=.t [vi (7*axe x.1 x.2:Nat),vi 0])):=by kernel_rfl
end Go.Proofs.YtnaofdffomdmhaaGreat
namespace Go.Proofs.YtnaofdffomdmhaaGreat
open Go Km
def com(x y:Int × Int):Bool:=(List.range 60).any fun d=>decide ((d:Int) % x.1=x.2)&&decide ((d:Int) % y.1=y.2)
def inc:List ((Int × Int) × Int × Int):=fam.flatMap fun x=>(fam.filter fun y=>!com x y).map fun y=>(x,y)
theorem ajB:inc.map (fun z=>RK 57 [mx z.1.1 z.1.2,mx z.2.1 z.2.2] (.t [pM,vi 0]))=inc.map fun _=>((.t [pM,vi 0]:V)=.t [pM,vi 0]):=by kernel_rfl
theorem ae3:(List.range 60).map (fun k=>RK 282 [.a [.f (fi 0),.f (.fs [fi 3] 1),.f (fi (-1)),.f .az,.f (fi 0),.f .az,.f (fi 0),.f .az],vi (20*k:Nat)] (.t [.c (.f (.fs [fi 0,.es,fi 0,fi 1,.fs [fi 0] 1] 1)),vi 0]))=(List.range 60).map fun _=>((.t [.c (.f (.fs [fi 0,.es,fi 0,fi 1,.fs [fi 0] 1] 1)),vi 0]:V)=.t [.c (.f (.fs [fi 0,.es,fi 0,fi 1,.fs [fi 0] 1] 1)),vi 0]):=by kernel_rfl
theorem xX:bg tab 58 [pM]=Eq (vb ae):=lE (by kernel_rfl)
theorem adR:bg tab 211 [pM,vi 0]=Eq (.t [vi 0,vb ag]):=lE (by kernel_rfl)
end Go.Proofs.YtnaofdffomdmhaaGreat
namespace Go.Proofs.YtnaofdffomdmhaaGreat
open Go Km
section
variable{n p:Int}(h:Az n p)
include h
theorem aeu:bg tab 106 [mx n p,vi (-1)]=Eq (.t [mx n (Ri n p),vi 0]):=lE (avE (awr.1 lT _ (jo h))).1
theorem akh:bg tab 214 [mx n p]=Eq (.t [.a [.f .es,.f (fi 0),.f (fi n),.f (.fs [fi p] 1)],vi 0]):=lE (avE (avE (awr.1 lT _ (jo h))).2).1
theorem QT:bg tab 210 [mx n p,pZ]=Eq (.t [pM,vi 0]):=lE (avE (avE (avE (awr.1 lT _ (jo h))).2).2).1
theorem QU:bg tab 210 [mx n p,pM]=Eq (.t [mx n p,vi 0]):=lE (avE (avE (avE (avE (awr.1 lT _ (jo h))).2).2).2).1
theorem acX:bg tab 58 [mx n p]=Eq (vb ag):=lE (avE (avE (avE (avE (avE (awr.1 lT _ (jo h))).2).2).2).2).1
theorem akC:bg tab 211 [mx n p,vi 0]=Eq (.t [vi p,vb ae]):=lE (avE (avE (avE (avE (avE (awr.1 lT _ (jo h))).2).2).2).2).2
end
theorem aoy{n p m q:Int}(h:Az n p)(b:Az m q)(d:com (n,p) (m,q)=ag):bg tab 57 [mx n p,mx m q]=Eq (.t [pM,vi 0]):=
 pW (x:=((n,p),(m,q))) ajB (by
  unfold inc;exact awx.2 ⟨(n,p),jo h,avx.2 ⟨(m,q),avW.2 ⟨jo b,by rw [d];rfl⟩,rfl⟩⟩)
theorem ajN{n p m q:Int}(h:com (n,p) (m,q)=ae):∃ d:Int,0≤d∧d<60∧d % n=p∧d % m=q:=by
 obtain⟨d,b,h⟩:=awd.1 h;simp only [If,decide_eq_true_eq]at h;exact⟨d,by omega,by have:=av4.1 b;omega,h⟩
theorem alM{k:Nat}(b:k<60):bg tab 282 [.a [.f (fi 0),.f (.fs [fi 3] 1),.f (fi (-1)),.f .az,.f (fi 0),.f .az,.f (fi 0),.f .az],vi (20*k:Nat)]=Eq (.t [.c (.f (.fs [fi 0,.es,fi 0,fi 1,.fs [fi 0] 1] 1)),vi 0]):=pW ae3 (av4.2 b)
theorem aj4(m r t z n p mi le:Int):Fix (tn m r t z n p mi le):=by
 unfold Fix;exact(re (m:=400) (d:=60) (by kernel_rfl)).eq
end Go.Proofs.YtnaofdffomdmhaaGreat
namespace Km
open Go
theorem Kp.tr{H K L:aj}(h:Kp H K)(d:Kp K L):Kp H L:=⟨Nat.le_trans h.1 d.1,fun b l=>(d.2 b (Nat.lt_of_lt_of_le l h.1)).trans (h.2 b l)⟩
theorem Kp.get{H K:aj}(h:Kp H K){i:Nat}{y:bw}(hi:H[i]?=aa y):K[i]?=aa y:=by rw [h.2 i (ak hi)];exact hi
theorem Kp.mQ{H K:aj}(h:Kp H K){i:Nat}(hi:H.length≤i)(x:bw):Kp H (K.set i x):=⟨by simpa using h.1,fun b l=>by rw [AI (by omega)];exact h.2 b l⟩
end Km
namespace Go.Proofs.YtnaofdffomdmhaaGreat
open Go Km
def E1:FC:=.fs [.fs [.es,fi 0,fi 1,.fs [fi 0] 1] 1] 1
def S1:FC:=.fs [.fs [.az,fi 0,fi 1,.fs [fi 0] 1] 1] 1
def dM:List FC:=[fi 0,.fs [fi 3] 1,fi (-1),.az,fi 0,.az,fi 0,.az,nh,.az]
theorem gh:bg tab 290 [pE]=Eq pZ∧bg tab 57 [pZ,mx 1 0]=Eq (.t [pZ,vi 0])∧bg tab 106 [mx 1 0,vi 0]=Eq (.t [mx 1 0,vi 0])∧bg tab 106 [pZ,vi 0]=Eq (.t [pZ,vi 0])∧bg tab 284 [pM,pZ]=Eq (.t [pZ,vi 0])∧bg tab 284 [pZ,pM]=Eq (.t [pZ,vi 0])∧bg tab 284 [pM,pM]=Eq (.t [pM,vi 0])∧bg tab 287 [.c (.f .az)]=Eq pM∧bg tab 190 [mF]=Eq (vi 0):=by
 have h:=(avE vw).1;simp only [List.cons.injEq,and_true]at h;obtain⟨b,d,g,j,l,m,q,s,u⟩:=h;have t:=fun {f:Nat} {a:List V} {r:V} (h:RK f a r=True)=>lE (h.trans (eq_true rfl).symm);exact⟨t b,t d,t g,t j,t l,t m,t q,t s,t u⟩
theorem aeK{k:Nat}(b:k<60):bg tab 276 [vi (20*k:Nat)]=Eq (.t [vi 0,vi (20*k:Nat)]):=pW (avE (avE vw).2).1 (av4.2 b)
theorem apa{x:Nat × Nat}(h:x ∈ adu):bg tab 215 [vi (7*x.1:Nat),vi (x.2:Nat)]=Eq (.t [vi (7*axe x.1 x.2:Nat),vi 0]):=pW (avE (avE vw).2).2 h
theorem apg:bg tab 210 [mx 1 0,pM]=Eq (.t [mx 1 0,vi 0]):=lE (avE (avE (avE (avE (awr.1 lT (1,0) (by simp [fam]))).2).2).2).1
theorem ar1{H:aj}(s:H[0]?=aa (.box (dM.map .f) 0)):∃ r H',Ev tab (.fn 286) [.a [.f S1],.c (.ptr 0 0 0)] H r H'∧(r=.t [.a [.f S1],vi 0]∧Kp H H'):=by
 refine cL rfl rfl fun Q q=>?_;have d:=gh.2.2.2.2.2.2.2.1;have j:=apg;have u:∀ K:aj,Kp H K→aR K ab (.c (.ptr 0 9 0))=aa (.c (.f .az)):=fun K b=>by simp [aR,aE,b.get s,dM]
 apply ai;simp;have b:=Kp.push H [bw.box [C.f S1] 0,bw.box [C.f FC.az] 0];have l:(H++[bw.box [C.f S1] 0,bw.box [C.f FC.az] 0])[H.length]?=aa (.box [.f S1] 0):=by simp
 have g:(H++[bw.box [C.f S1] 0,bw.box [C.f FC.az] 0])[H.length+1]?=aa (.box [.f .az] 0):=by simp
 generalize H++[bw.box [C.f S1] 0,bw.box [C.f FC.az] 0]=K at b l g ⊢;have v:cX K (.ptr (H.length+1) 0 0) [.f S1]=aa (K.set (H.length+1) (.box [.f S1] 0)):=by simp [cX,g,over]
 have m:aR K (aa 1) (.c (.ptr H.length 0 0))=aa (.a [.f S1]):=by simp [aR,aE,l,aV]
 apply ai;simp only [pM]at d;change bg tab 287 _=_ at d;change bg tab 210 [.a [.f S1],.a [.f .az]]=Eq (.t [.a [.f S1],vi 0])at j;simp [m,u K b,d,j,v,-aw,-bh];refine aC (q _ _ _ rfl ?_ ⟨rfl,b.mQ (by omega) _⟩);simp [Km.results,bj,ak g,aV]
theorem arS:bg tab 288 [vi 0]=Eq (.c (.f (.fn 354 [.fp [fi 0] 0]))):=bg.eq (by
 refine bI rfl rfl fun Q b=>?_;apply ai;simp;apply ai;simp;refine aC (b _ _ ?_);simp [deep])
theorem al5{H:aj}{s:FC}(h:bg tab 106 [.a [.f s],vi 0]=Eq (.t [.a [.f s],vi 0])):∃ r H',Ev tab (.fn 354) [.a [.f s],.c (.f (.fp [fi 0] 0))] H r H'∧(r=.t [.a [.f s],vi 0]∧Kp H H'):=by
 refine cL rfl rfl fun Q l=>?_;apply ai;simp;have d:=Kp.push H [bw.box [C.f s] 0,bw.box [C.f FC.az] 0];have g:(H++[bw.box [C.f s] 0,bw.box [C.f FC.az] 0])[H.length]?=aa (.box [.f s] 0):=by simp
 have b:(H++[bw.box [C.f s] 0,bw.box [C.f FC.az] 0])[H.length+1]?=aa (.box [.f .az] 0):=by simp
 generalize H++[bw.box [C.f s] 0,bw.box [C.f FC.az] 0]=K at d g b ⊢;have m:cX K (.ptr (H.length+1) 0 0) [.f s]=aa (K.set (H.length+1) (.box [.f s] 0)):=by simp [cX,b,over]
 have j:aR K (aa 1) (.c (.ptr H.length 0 0))=aa (.a [.f s]):=by simp [aR,aE,g,aV]
 change bg tab 106 _=_ at h;apply ai;simp [j,oG,h,m,-aw,-bh];refine aC (l _ _ _ rfl ?_ ⟨rfl,d.mQ (by omega) _⟩);simp [Km.results,bj,ak b,aV]
theorem ar2{H:aj}{b:Nat}(u:H[b]?=aa (.box [.f (fi 0),.f .es,.f (fi 0),.f (fi 1),.f (.fs [fi 0] 1)] 0)):∃ r H',Ev tab (.fn 289) [.a [.f S1],.c (.ptr b 0 0)] H r H'∧(r=.t [.a [.f E1],vi 0]∧Kp H H'):=by
 refine cL rfl rfl fun Q s=>?_;have j:=gh.1;have l:=gh.2.1;have v:∀ K:aj,Kp H K→aR K (aa 4) (.c (.ptr b 1 0))=aa (.a [.f .es,.f (fi 0),.f (fi 1),.f (.fs [fi 0] 1)]):=fun K d=>by simp [aR,aE,d.get u,aV]
 apply ai;simp;have d:=Kp.push H [bw.box [C.f S1] 0,bw.box [C.f FC.az] 0];have m:(H++[bw.box [C.f S1] 0,bw.box [C.f FC.az] 0])[H.length]?=aa (.box [.f S1] 0):=by simp
 have g:(H++[bw.box [C.f S1] 0,bw.box [C.f FC.az] 0])[H.length+1]?=aa (.box [.f .az] 0):=by simp
 generalize H++[bw.box [C.f S1] 0,bw.box [C.f FC.az] 0]=K at d m g ⊢;have x:cX K (.ptr (H.length+1) 0 0) [.f E1]=aa (K.set (H.length+1) (.box [.f E1] 0)):=by simp [cX,g,over]
 have q:aR K (aa 1) (.c (.ptr H.length 0 0))=aa (.a [.f S1]):=by simp [aR,aE,m,aV]
 change bg tab 290 [.a [.f .es,.f (fi 0),.f (fi 1),.f (.fs [fi 0] 1)]]=Eq (.a [.f E1])at j;change bg tab 57 [.a [.f E1],.a [.f S1]]=Eq (.t [.a [.f E1],vi 0])at l;apply ai;simp [q,v K d,j,l,x,-aw,-bh];refine aC (s _ _ _ rfl ?_ ⟨rfl,d.mQ (by omega) _⟩);simp [Km.results,bj,ak g,aV]
theorem al7{H:aj}{b:Nat}{u v w:FC}(q:H[b]?=aa (.box [.f u] 0))(h:bg tab 284 [.a [.f u],.a [.f v]]=Eq (.t [.a [.f w],vi 0])):∃ r H',Ev tab (.fn 283) [.a [.f v],.c (.ptr b 0 0)] H r H'∧(r=.t [.a [.f w],vi 0]∧Kp H H'):=by
 refine cL rfl rfl fun Q m=>?_;have s:∀ K:aj,Kp H K→aR K (aa 1) (.c (.ptr b 0 0))=aa (.a [.f u]):=fun K d=>by simp [aR,aE,d.get q,aV]
 apply ai;simp;have d:=Kp.push H [bw.box [C.f v] 0,bw.box [C.f FC.az] 0];have j:(H++[bw.box [C.f v] 0,bw.box [C.f FC.az] 0])[H.length]?=aa (.box [.f v] 0):=by simp
 have g:(H++[bw.box [C.f v] 0,bw.box [C.f FC.az] 0])[H.length+1]?=aa (.box [.f .az] 0):=by simp
 generalize H++[bw.box [C.f v] 0,bw.box [C.f FC.az] 0]=K at d j g ⊢;have x:cX K (.ptr (H.length+1) 0 0) [.f w]=aa (K.set (H.length+1) (.box [.f w] 0)):=by simp [cX,g,over]
 have l:aR K (aa 1) (.c (.ptr H.length 0 0))=aa (.a [.f v]):=by simp [aR,aE,j,aV]
 change bg tab 284 _=_ at h;apply ai;simp [l,s K d,h,x,-aw,-bh];refine aC (m _ _ _ rfl ?_ ⟨rfl,d.mQ (by omega) _⟩);simp [Km.results,bj,ak g,aV]
theorem wC{cs:List C}{k:Nat}{x:C}(h:cs[k]?=aa x):aV ab (cs.drop k)=aa (.c x):=by
 have b:=(BY.1 h).1;have e:=By b;rw [h]at e;rw [auR b,←awN e];rfl
theorem Bs{H:aj}{b:Nat}(cs:List C)(d:List FC)(e:d.length=cs.length+1)(c:cs.length≤100)(F:H[b]?=aa (.box cs 0))
  (step:∀(j:Nat) (J:j<cs.length) (K:aj),Kp H K→∃ f M r q,bX (.c cs[j]) [.a [.f (d[j]'(by omega))]]=aa (f,M)∧Ev tab f M K r q∧(r=.t [.a [.f (d[j+1]'(by omega))],vi 0]∧Kp K q)) :
  ∃ r H',Ev tab (.fn 285) [.a [.f (d[0]'(by omega))],.c (.sl b 0 cs.length cs.length 0 1)] H r H'∧(r=.t [.a [.f (d[cs.length]'(by omega))],vi 0]∧Kp H H'):=by
 refine cL rfl rfl fun Q Y=>?_;have Z:=ak F;have k:∀ K:aj,Kp H K→∀ j:Nat,(h:j<cs.length)→bH K 1 ab (.c (.sl b 0 cs.length cs.length 0 1)) (vi j)=aa (.c (.ptr b j 0))∧aR K ab (.c (.ptr b j 0))=aa (.c cs[j]):=fun K x j h=>by
  have g:=x.get F;refine⟨?_,?_⟩
  ·simp [bH,show ir (vi (j:Int))=aa (j:Int) from rfl,g,h]
  ·rw [aw,g];exact wC (By h)
 apply ai;simp;have x:=Kp.push H [bw.box [C.f (d[0]'(by omega))] 0,bw.box [C.f FC.az] 0];have U:(H++[bw.box [C.f (d[0]'(by omega))] 0,bw.box [C.f FC.az] 0])[H.length]?=aa (.box [.f (d[0]'(by omega))] 0):=by simp
 have W:(H++[bw.box [C.f (d[0]'(by omega))] 0,bw.box [C.f FC.az] 0])[H.length+1]?=aa (.box [.f .az] 0):=by simp
 generalize H++[bw.box [C.f (d[0]'(by omega))] 0,bw.box [C.f FC.az] 0]=X at x U W ⊢;apply an;apply ai;have len:∀ K:aj,Kp H K→bu K (.sl b 0 cs.length cs.length 0 1)=aa cs.length:=fun K x=>by simp [bu,x.get F]
 simp [len X x];refine bS cs.length (fun j t K=>t.g 1=.c (.sl b 0 cs.length cs.length 0 1)∧t.g 10=.c (.sl b 0 cs.length cs.length 0 1)∧t.g 2=.c (.ptr H.length 0 0)∧t.g 4=.c (.ptr (H.length+1) 0 0)∧Kp H K∧(∀ h:j<d.length,K[H.length]?=aa (.box [.f d[j]] 0))∧K[H.length+1]?=aa (.box [.f .az] 0)) (by omega) (by decide) (by decide) (by simp) (by simp)
  ⟨by simp,by simp,by simp,by simp,x,fun _=>U,W⟩ ?_ ?_
 ·rintro j t K J ⟨N,s,z,B,A,m,E⟩ O g next
  obtain⟨i,n⟩:=k K A j J;have m:=m (by omega);obtain⟨f,as',r,q,a,I,rfl,u⟩:=step j J K A;have I:=I.eq;have L:aR K (aa 1) (.c (.ptr H.length 0 0))=aa (.a [.f (d[j]'(by omega))]):=by simp [aR,aE,m,aV]
  have S:=u.get m;have p:=u.get E;refine aF ?_;apply ai;simp [s,O,i,n,-aw];apply ai;simp [z,L,a,I,-aw];obtain⟨y,v⟩:=aJ (q++[bw.box [.f (d[j+1]'(by omega))] 0]:aj);have w:y[q.length]?=aa (.box [.f (d[j+1]'(by omega))] 0):=by rw [v];simp
  have l:Kp q y:=by rw [v];exact Kp.push _ _
  rw [←v];apply an;apply ai;simp;refine bo (by simp) ?_;have o:aR y (aa 1) (.c (.ptr q.length 0 0))=aa (.a [.f (d[j+1]'(by omega))]):=by simp [aR,aE,w,aV]
  have s2:cX y (.ptr H.length 0 0) [.f (d[j+1]'(by omega))]=aa (y.set H.length (.box [.f (d[j+1]'(by omega))] 0)):=by simp [cX,l.get S,over]
  refine aq (.inl rfl) ?_;simp [z,o,s2,-aw,-bh];refine aA (next _ _ ⟨by simp [N],by simp [s],by simp [z],by simp [B],((A.tr u).tr l).mQ (by omega) _,fun _=>IN (ak (l.get S)),?_⟩ (by simp [O]) (by simp [g]));rw [AI (by omega)];exact l.get p
 ·rintro t K ⟨N,s,z,B,A,m,E⟩ - -;have m:=m (by omega);have L:aR K (aa 1) (.c (.ptr H.length 0 0))=aa (.a [.f (d[cs.length]'(by omega))]):=by simp [aR,aE,m,aV]
  have sn:cX K (.ptr (H.length+1) 0 0) [.f (d[cs.length]'(by omega))]=aa (K.set (H.length+1) (.box [.f (d[cs.length]'(by omega))] 0)):=by simp [cX,E,over]
  apply ai;simp [z,B,L,sn,-aw,-bh];refine aC (Y _ _ _ rfl ?_ ⟨rfl,A.mQ (by omega) _⟩);simp [Km.results,bj,B,ak E,aV]
end Go.Proofs.YtnaofdffomdmhaaGreat
namespace Go.Proofs.YtnaofdffomdmhaaGreat
open Go Km
theorem BB(mi le:Int):bg tab 278 [.a (dM.map .f),vi mi,vi le]=Eq (.c (.f (.fn 340 [.fp dM 0,.fp [fi mi] 0,.fp [fi le] 0]))):=bg.eq (by
 refine bI rfl rfl fun Q b=>?_;apply ai;simp [dM];apply ai;simp;refine aC (b _ _ ?_);simp [deep,dM])
theorem BA{bb:Nat}{H:aj}(mi le:Int)(S:0≤mi)(a:mi≤1440)(X:0≤le)(Y:le≤20000)(P:aj→Prop)
  (F:¬ mi+le≤1440→∀ K,Kp H K→P K) (W:mi+le≤1440→∀ K,Kp H K→∃ A,Ev tab (.yield bb) [.a [.f S1,.f (fi 0),.f (fi 1440)]] K (vb ae) A∧P A) :
  ∃ r H',Ev tab (.fn 340) [.c (.yl bb),.c (.f (.fp dM 0)),.c (.f (.fp [fi mi] 0)),.c (.f (.fp [fi le] 0))] H r H'∧(r=.t []∧P H'):=by
 refine cL rfl rfl fun Q U=>?_;have s:∀ K:aj,bu K (.f nh)=aa 1:=fun K=>rfl;have lo:∀ K:aj,aR K ab (.c (.f (.fp dM 8)))=aa (.c (.f nh)):=fun K=>rfl;have v:∀ K:aj,aR K ab (.c (.f (.fp [fi mi] 0)))=aa (vi mi):=fun K=>rfl;have u:∀ K:aj,aR K ab (.c (.f (.fp [fi le] 0)))=aa (vi le):=fun K=>rfl;apply ai;simp [lo,s];refine bS 1 (fun j t K=>t.g 0=.c (.yl bb)∧t.g 2=.c (.f (.fp [fi mi] 0))∧t.g 3=.c (.f (.fp [fi le] 0))∧t.g 8=.c (.f nh)∧(j=0→Kp H K)∧(j=1→P K)) (by omega) (by decide) (by decide) (by simp) (by simp) ⟨by simp,by simp,by simp,by simp,fun _=>⟨aft _,fun _ _=>rfl⟩,by omega⟩ ?_ ?_
 ·rintro j t K Z ⟨g0,l,m,x,B,-⟩ y J next
  obtain rfl:j=0:=by omega
  have B:=B rfl;have L:bH K 3 ab (.c (.f nh)) (vi ((0:Nat):Int))=aa (.c (.f (.fp [S1,fi 0,fi 1440] 0))):=rfl;have ld:aR K (aa 3) (.c (.f (.fp [S1,fi 0,fi 1440] 0)))=aa (.a [.f S1,.f (fi 0),.f (fi 1440)]):=rfl;refine aF ?_;apply ai;simp only [Int.ofNat_zero,Int.natCast_zero]at L y;simp [x,y,L,ld];obtain⟨g,b⟩:=aJ (K++[bw.box [.f S1,.f (fi 0),.f (fi 1440)] 0]:aj);have I:g[K.length]?=aa (.box [.f S1,.f (fi 0),.f (fi 1440)] 0):=by rw [b];simp
  have q:Kp H g:=B.tr (by rw [b];exact Kp.push _ _);rw [←b];have M:aR g ab (.c (.ptr K.length 1 0))=aa (vi 0):=by simp [aR,aE,I]
  have N:aR g ab (.c (.ptr K.length 2 0))=aa (vi 1440):=by simp [aR,aE,I]
  have O:aR g (aa 3) (.c (.ptr K.length 0 0))=aa (.a [.f S1,.f (fi 0),.f (fi 1440)]):=by simp [aR,aE,I,aV]
  apply an;refine aq (.inl rfl) ?_;by_cases z:mi+le≤1440
  ·obtain⟨A,d,E⟩:=W z g q;have d:=d.eq;simp [g0,l,m,M,N,O,v,u,S,aW (n:=mi+le),z,d,-aw];exact aB (by simp) (aP (aA (next _ _ ⟨by simp [g0],by simp [l],by simp [m],by simp [x],by omega,fun _=>E⟩ (by simp [y]) (by simp [J]))))
  ·simp [g0,l,m,M,N,O,v,u,S,aW (n:=mi+le),z,-aw];exact aB (by simp) (aP (aA (next _ _ ⟨by simp [g0],by simp [l],by simp [m],by simp [x],by omega,fun _=>F z _ q⟩ (by simp [y]) (by simp [J]))))
 ·rintro t K ⟨g0,l,m,x,-,E⟩ - -;exact cE (U _ _ _ rfl rfl ⟨rfl,E rfl⟩)
end Go.Proofs.YtnaofdffomdmhaaGreat
namespace Go.Proofs.YtnaofdffomdmhaaGreat
open Go Km
theorem zS{tab:TB}{fn i:Nat}{u:Option Nat}{k:List da}{ds:List dQ}{Q:Option aG→St→Prop}{a b c x:Nat}{body:aG}{t:T}{H:aj}(N:Nat)(I:Nat→T→List dQ→aj→Prop)(K:N≤9223372036854775807)(A:a≠b)(E:x≠b)
  (l:t.g a=vi 0) (m:t.g b=vi N) (h0:I 0 t ds H)
  (step:∀ j t ds H,j<N→I j t ds H→t.g a=vi j→t.g b=vi N →
   (∀ v d H',I (j+1) ((v.s x (vi (j+1:Nat))).s a (vi (j+1:Nat))) d H'→v.g a=vi j→v.g b=vi N →
    WP tab fn u (.code (tI a x)::.inLoop (ja i a b c x body)::.inBlock i::k) ⟨v,d,H'⟩ Q) →
   WP tab fn u (.code body::.code (tI a x)::.inLoop (ja i a b c x body)::.inBlock i::k) ⟨t.s c (vb ae),ds,H⟩ Q)
  (done:∀ t ds H,I N t ds H→t.g a=vi N→t.g b=vi N→WP tab fn u k ⟨t.s c (vb ag),ds,H⟩ Q) :
  WP tab fn u (.code (zK i a b c x body)::k) ⟨t,ds,H⟩ Q:=by
 have q:∀ ops:List aS,ops.all (·.op.dZ)=ae→u=ab∨ops.all (·.op.dZ)=ae:=fun _ h=>.inr h;refine aF ?_;refine cI (fun n s=>∃ j t ds H,s=⟨t,ds,H⟩∧j≤N∧n=N-j∧I j t ds H∧t.g a=vi j∧t.g b=vi N) N ⟨0,t,ds,H,rfl,by omega,by omega,h0,l,m⟩ ?_;rintro n s ⟨j,t,ds,H,rfl,L,rfl,F,l,m⟩ J;apply an;refine aq (q _ rfl) ?_;simp [l,m];by_cases g:j<N
 ·rw [decide_eq_true g];apply an;refine au (by simp) ?_;refine aP ?_;apply an;refine step j t ds H g F l m fun v d H' y z B=>?_;refine aq (q _ rfl) ?_;simp [z];rw [aW];refine J (N-(j+1)) _ (by omega) ⟨j+1,_,d,H',rfl,by omega,rfl,by simpa using y,by simp,?_⟩;simp [A,E,B]
 ·have:j=N:=by omega
  subst this;rw [decide_eq_false g];apply an;refine aB (by simp) ?_;refine bJ (k':=k) (by simp [Km.exitTo]) ?_;exact done t ds H F l m
def dF(mi le:Int):FC:=if mi+le≤1440 then E1 else .az
theorem ajP{k:Nat}(hk:k<60)(le:Int)(l0:1≤le)(l1:le≤10080):bg tab 209 [.a (dM.map .f),vi (20*k:Nat),vi le]=Eq (.t [.a [.f (dF (20*k:Nat) le)],vi 0]):=by
 obtain⟨v,rfl,hp⟩:∃ v,v=.t [.a [.f (dF (20*k:Nat) le)],vi 0]∧bg tab 209 [.a (dM.map .f),vi (20*k:Nat),vi le] v:=by
  refine Cp arM rfl fun Q hQ=>?_;obtain⟨m,hm⟩:=aJ (20*k:Nat);have f8:=aeK hk;have f_:=alM hk;rw [←hm]at f8 f_ ⊢;have y_:m≤1180:=by omega
  have i4:=gh.2.2.2.2.2.2.2.2;have a8:=gh.2.2.2.2.2.2.2.1;have l_:=gh.2.2.1;have k_:=gh.2.2.2.1;have j9:=gh.2.2.2.2.1;have j_:=gh.2.2.2.2.2.1;have i_:=gh.2.2.2.2.2.2.1;have u_:=BB m le;change bg tab 190 [.a (dM.map .f)]=Eq (vi 0)at i4;change bg tab 276 _=_ at f8;change bg tab 282 [.a (List.map C.f [fi 0,.fs [fi 3] 1,fi (-1),.az,fi 0,.az,fi 0,.az]),vi (m:Int)]=_ at f_;simp only [avl,avs]at f_;have la:∀ K:aj,K[0]?=aa (.box (dM.map .f) 0)→aR K (aa 10) (.c (.ptr 0 0 0))=aa (.a (dM.map .f))∧aR K (aa 8) (.c (.ptr 0 0 0))=aa (.a (List.map C.f [fi 0,.fs [fi 3] 1,fi (-1),.az,fi 0,.az,fi 0,.az])):=fun K h=>by refine⟨?_,?_⟩<;>simp [aR,aE,h,dM,aV]
  apply ai;simp;obtain⟨H0,S⟩:=aJ ([.box (dM.map .f) 0,.box [.f .az] 0,.box [.f (fi 0)] 0]:aj);rw [←S];have j6:H0.length=3:=by rw [S];rfl
  have z0:H0[0]?=aa (.box (dM.map .f) 0):=by rw [S];rfl
  have z1:H0[1]?=aa (.box [.f .az] 0):=by rw [S];rfl
  have z2:H0[2]?=aa (.box [.f (fi 0)] 0):=by rw [S];rfl
  apply an;apply ai;simp [(la _ z0).1,i4,-aw,show¬ (m:Int) < -4320 by omega,show¬ (4320:Int)<m by omega,show¬ le<1 by omega,show¬ 10080<le by omega];refine bo (by simp) ?_;apply ai;simp [f8];obtain⟨H2,c_⟩:=aJ (H0++[bw.box [.f (fi 0)] 0]:aj);have n2:H2.length=4:=by rw [c_];simp [j6]
  have k2:Kp H0 H2:=by rw [c_];exact Kp.push _ _
  rw [←c_];have w3:H2[3]?=aa (.box [.f (fi 0)] 0):=by rw [c_];simp [←j6]
  apply ai;simp [(la _ (k2.get z0)).2,f_,-aw,j6,n2];obtain⟨H3,d9⟩:=aJ (H2++[bw.box [.f (fi 0)] 0]:aj);have n3:H3.length=5:=by rw [d9];simp [n2]
  have k3:Kp H2 H3:=by rw [d9];exact Kp.push _ _
  have w4:H3[4]?=aa (.box [.f (fi 0)] 0):=by rw [d9];simp [←n2]
  rw [←d9];have m_:∀ K:aj,K[4]?=aa (.box [.f (fi 0)] 0)→aR K ab (.c (.ptr 4 0 0))=aa (vi 0):=fun K h=>by simp [aR,aE,h]
  apply an;apply ai;simp [m_ _ w4,-aw];refine bo (by simp) ?_;apply ai;simp [n3];apply ai;obtain⟨H4,U⟩:=aJ (H3++[bw.box [.f .az] 0,bw.box [.cl 283 [.ptr 5 0 0]] 0]:aj);have n4:H4.length=7:=by rw [U];simp [n3]
  have k4:Kp H3 H4:=by rw [U];exact Kp.push _ _
  have w5:H4[5]?=aa (.box [.f .az] 0):=by rw [U];simp [←n3]
  have w6:H4[6]?=aa (.box [.cl 283 [.ptr 5 0 0]] 0):=by rw [U,IS (by omega),n3];rfl
  simp [n3,mU];rw [←U];have v8:∀ K:aj,bu K (.f (.fs [fi 0,.es,fi 0,fi 1,.fs [fi 0] 1] 1))=aa 1:=fun K=>rfl;apply an;apply ai;simp [v8];have j5:Kp H0 H4:=(k2.tr k3).tr k4;have u0:=j5.get z0;have u1:=j5.get z1;have u2:=j5.get z2;have u3:=(k3.tr k4).get w3;have u4:=k4.get w4;refine zS 1 (fun j t ds K=>t.g 1=vi m∧t.g 2=vi le∧t.g 3=.c (.ptr 0 0 0)∧t.g 6=.c (.ptr 1 0 0)∧t.g 7=.c (.ptr 2 0 0)∧t.g 8=.c (.ptr 3 0 0)∧t.g 9=vi m∧t.g 11=.c (.ptr 4 0 0)∧t.g 12=.c (.ptr 5 0 0)∧t.g 13=.c (.ptr 6 0 0)∧t.g 59=.c (.f (.fs [fi 0,.es,fi 0,fi 1,.fs [fi 0] 1] 1))∧(j=0→ds=[]∧K=H4)∧(j=1→ds=[.gZ 9]∧K[9]?=aa (.eH ae)∧(∀ i:Nat,i<7→i≠5→K[i]?=H4[i]?)∧K[5]?=aa (.box [.f (dF m le)] 0))) (by omega) (by decide) (by decide) (by simp) (by simp)
   ⟨by simp,by simp,by simp,by simp,by simp,by simp,by simp,by simp,by simp,by simp,by simp,fun _=>⟨rfl,rfl⟩,by omega⟩ ?_ ?_
  ·rintro j t ds K hj ⟨g1,g2,g3,g6,g7,g8,g9,s,z,x,A,I,-⟩ ha hb next
   obtain rfl:j=0:=by omega
   obtain⟨rfl,rfl⟩:=I rfl;have ix:bH K 5 ab (.c (.f (.fs [fi 0,.es,fi 0,fi 1,.fs [fi 0] 1] 1))) (vi 0)=aa (.c (.f (.fp [fi 0,.es,fi 0,fi 1,.fs [fi 0] 1] 0))):=rfl;have ld:aR K (aa 5) (.c (.f (.fp [fi 0,.es,fi 0,fi 1,.fs [fi 0] 1] 0)))=aa (.a [.f (fi 0),.f .es,.f (fi 0),.f (fi 1),.f (.fs [fi 0] 1)]):=rfl;have i7:t.g 61=vi 0:=ha;refine aF ?_;apply ai;simp [A,i7,ix,ld,n4];obtain⟨H5,d_⟩:=aJ (K++[bw.box [.f (fi 0),.f .es,.f (fi 0),.f (fi 1),.f (.fs [fi 0] 1)] 0]:aj);have n5:H5.length=8:=by rw [d_];simp [n4]
   have k5:Kp K H5:=by rw [d_];exact Kp.push _ _
   have w7:H5[7]?=aa (.box [.f (fi 0),.f .es,.f (fi 0),.f (fi 1),.f (.fs [fi 0] 1)] 0):=by rw [d_];simp [←n4]
   rw [←d_];have l7:aR H5 ab (.c (.ptr 7 0 0))=aa (vi 0):=by simp [aR,aE,w7]
   apply ai;simp [g9,l7,-aw,aW (n:=(m:Int)),f8,n5];obtain⟨J,e_⟩:=aJ (H5++[bw.box [.f (fi 0)] 0]:aj);have n6:J.length=9:=by rw [e_];simp [n5]
   have k6:Kp H5 J:=by rw [e_];exact Kp.push _ _
   have w8:J[8]?=aa (.box [.f (fi 0)] 0):=by rw [e_];simp [←n5]
   rw [←e_];have m9:=k5.tr k6;apply ai;simp [g2,g3,(la _ (m9.get u0)).1,u_,-aw];refine aF ?_
   suffices go:∀ u:T,u.g 1=vi m→u.g 2=vi le→u.g 3=.c (.ptr 0 0 0)→u.g 6=.c (.ptr 1 0 0)→u.g 7=.c (.ptr 2 0 0)→u.g 8=.c (.ptr 3 0 0)→u.g 9=vi m→u.g 11=.c (.ptr 4 0 0)→u.g 12=.c (.ptr 5 0 0)→u.g 13=.c (.ptr 6 0 0)→u.g 59=.c (.f (.fs [fi 0,.es,fi 0,fi 1,.fs [fi 0] 1] 1))→u.g 61=vi 0→u.g 60=vi 1→u.g 15=.c (.ptr 7 0 0)→u.g 16=.c (.ptr 8 0 0)→u.g 76=.c (.f (.fn 340 [.fp dM 0,.fp [fi m] 0,.fp [fi le] 0])) →
     WP tab 209 ab [.code A5,.inBlock 2,.inBlock 1,.code (tI 61 98),.inLoop (ja 0 61 60 62 98 A4),.inBlock 0,.code A6] ⟨u,[],J⟩ Q by
    exact go _ (by simp [g1]) (by simp [g2]) (by simp [g3]) (by simp [g6]) (by simp [g7]) (by simp [g8]) (by simp [g9]) (by simp [s]) (by simp [z]) (by simp [x]) (by simp [A]) (by simp [i7]) (by simpa using hb) (by simp) (by simp) (by simp)
   clear g1 g2 g3 g6 g7 g8 g9 s z x A ha hb i7 I;intro u g1 g2 g3 g6 g7 g8 g9 s z x A s9 s8 r_ s7 s_;obtain⟨LP,f7⟩:∃ LP:ej→Option aG→bw,LP=fun st pd=>.lp 209 u [P.nat 77] iG iH st pd 9:=⟨_,rfl⟩
   obtain⟨W,hW⟩:=aJ (J++[.eH ae,LP .ready ab]);have nW:W.length=11:=by rw [hW,api,n6];rfl
   have kW:Kp J W:=by rw [hW];exact Kp.push _ _
   have q9:W[9]?=aa (.eH ae):=by rw [hW,IS (by omega),n6];rfl
   have j7:W[10]?=aa (LP .ready ab):=by rw [hW,IS (by omega),n6];rfl
   have F:=m9.tr kW;have p0:=F.get u0;have p3:=F.get u3;have p4:=F.get u4;have p5:=F.get w5;have p6:=F.get w6;have p7:=(k6.tr kW).get w7;have p8:=kW.get w8;obtain⟨PP,i6⟩:∃ PP:aj→Prop,PP=fun K=>11≤K.length∧(∀ i:Nat,i<11→i≠5→K[i]?=W[i]?)∧K[5]?=aa (.box [.f (dF m le)] 0):=⟨_,rfl⟩
   obtain⟨r,H7,he,rfl,hP⟩:=BA (bb:=10) (H:=W) m le (by omega) (by omega) (by omega) (by omega) PP
    (fun v9 K I=>by
     rw [i6];refine⟨by have:=I.1;omega,fun i hi _=>I.2 i (by omega),?_⟩;rw [I.get p5,dF,aY v9])
    (fun hf K I=>by
     have g_:=I.get j7;rw [f7]at g_;obtain⟨r,K',v6,rfl,hP⟩:∃ r K',Ev tab (.yield 10) [.a [.f S1,.f (fi 0),.f (fi 1440)]] K r K'∧(r=vb ae∧PP K'):=by
      refine fj (tab:=tab) (b:=10) (args:=[.a [.f S1,.f (fi 0),.f (fi 1440)]]) (H:=K) g_ rfl fun Q' t8=>?_;obtain⟨b_,Y⟩:=aJ (K.length);have y8:=I.1;refine aq (.inr rfl) ?_;simp;rw [←Y];obtain⟨K1,q⟩:=aJ (K++[bw.box [.f S1,.f (fi 0),.f (fi 1440)] 0]);rw [←q];have E:Kp K K1:=by rw [q];exact Kp.push _ _
      have o_:K1[b_]?=aa (.box [.f S1,.f (fi 0),.f (fi 1440)] 0):=by rw [q,Y];simp
      refine ma (E.get g_) ?_;obtain⟨d,X⟩:=aJ (K1.set 10 (.lp 209 u [P.nat 77] iG iH .busy ab 9));rw [←X];have e2:∀ i:Nat,i<W.length→i≠10→d[i]?=W[i]?:=fun i hi i9=>by rw [X,AI (Ne.symm i9),E.2 i (by omega),I.2 i hi]
      have p_:d[10]?=aa (.lp 209 u [P.nat 77] iG iH .busy ab 9):=by rw [X];exact IN (ak (E.get g_))
      have q_:d[b_]?=aa (.box [.f S1,.f (fi 0),.f (fi 1440)] 0):=by rw [X,AI (by omega)];exact o_
      have z9:d.length=b_+1:=by rw [X,avw,q,Y];simp
      have v:∀ {i:Nat} {y:bw},W[i]?=aa y→i≠10→d[i]?=aa y:=fun h i9=>by rw [e2 _ (ak h) i9];exact h
      have x9:aR d (aa 1) (.c (.ptr b_ 0 0))=aa (.a [.f S1]):=by simp [aR,aE,q_,aV]
      have x8:aR d ab (.c (.ptr 8 0 0))=aa (vi 0):=by simp [aR,aE,v p8 (by omega)]
      have r8:aR d ab (.c (.ptr 3 0 0))=aa (vi 0):=by simp [aR,aE,v p3 (by omega)]
      have x6:aR d ab (.c (.ptr 6 0 0))=aa (.c (.cl 283 [.ptr 5 0 0])):=by simp [aR,aE,v p6 (by omega)]
      have b9:unV .neg (vi 0)=aa (vi 0):=rfl;have t9:=arS;obtain⟨cs,Z⟩:=aJ ([.cl 286 [.ptr 0 0 0],.f (.fn 354 [.fp [fi 0] 0]),.cl 289 [.ptr 7 0 0],.f (.fn 354 [.fp [fi 0] 0]),.cl 283 [.ptr 5 0 0]]:List C);obtain⟨K3,i5⟩:=aJ (d++[bw.box cs 0]);have m4:Kp d K3:=by rw [i5];exact Kp.push _ _
      have c3:K3[d.length]?=aa (.box cs 0):=by rw [i5];simp
      obtain⟨r,K4,l,rfl,w_⟩:=Bs (H:=K3) (b:=d.length) cs [S1,S1,S1,E1,E1,E1] (by rw [Z];rfl) (by rw [Z];decide) c3 (fun j hj L hL=>by
       have kL:=m4.tr hL;subst Z
       match j,hj with
       | 0,_=>obtain⟨r,M,N,O⟩:=ar1 (kL.get (v p0 (by omega)));exact⟨.fn 286,_,r,M,rfl,N,O⟩
       | 1,_=>obtain⟨r,M,N,O⟩:=al5 (H:=L) l_;exact⟨.fn 354,_,r,M,rfl,N,O⟩
       | 2,_=>obtain⟨r,M,N,O⟩:=ar2 (kL.get (v p7 (by omega)));exact⟨.fn 289,_,r,M,rfl,N,O⟩
       | 3,_=>obtain⟨r,M,N,O⟩:=al5 (H:=L) k_;exact⟨.fn 354,_,r,M,rfl,N,O⟩
       | 4,_=>obtain⟨r,M,N,O⟩:=al7 (kL.get (v p5 (by omega))) j9;exact⟨.fn 283,_,r,M,rfl,N,O⟩)
      have l:Ev tab (.fn 285) [.a [.f S1],.c (.sl d.length 0 5 5 0 1)] K3 (.t [.a [.f E1],vi 0]) K4:=by
       subst Z;exact l
      have l:=l.eq;have a_:=m4.tr w_;have x5:=a_.get (v p5 (by omega));have x4:=a_.get (v p4 (by omega));obtain⟨K5,B⟩:=aJ (K4.set 5 (.box [.f E1] 0));have y6:cX K4 (.ptr 5 0 0) [.f E1]=aa K5:=by rw [B];simp [cX,x5,over]
      have j8:K5[4]?=aa (.box [.f (fi 0)] 0):=by rw [B,AI (by omega)];exact x4
      have x_:cX K5 (.ptr 4 0 0) [.f (fi 0)]=aa K5:=by
       simp [cX,j8,over];obtain⟨i8,e⟩:=BY.1 j8;rw [←e];exact awy i8
      have n8:K5[10]?=aa (.lp 209 u [P.nat 77] iG iH .busy ab 9):=by rw [B,AI (by omega)];exact a_.get p_
      refine aF ?_;refine an (aq (.inr rfl) ?_);simp [g3,r_,s7,g8,x,x9,x8,r8,x6,b9,t9,mU,-aw];rw [←Z,←i5];simp [z,s,l,y6,x_,-bh];refine an (aq (.inr rfl) ?_);simp [s,m_ _ j8,-aw];refine aB (by simp) (aP (aA (cE (t8 _ _ _ _ _ _ _ _ _ _ rfl n8 ⟨rfl,?_⟩))));rw [i6];have z8:=a_.1;refine⟨?_,fun i hi h5=>?_,?_⟩
      ·rw [avw,B,avw];omega
      ·by_cases e:i=10
       ·subst e;rw [IN (ak n8),j7,f7];rfl
       ·rw [AI (Ne.symm e),B,AI (Ne.symm h5),a_.2 i (by omega),e2 i (by omega) e]
      ·rw [AI (by omega),B,IN (ak x5),dF,bf hf]
     exact⟨K',v6,hP⟩)
   rw [i6]at hP;obtain⟨nP,eP,vP⟩:=hP;have t_:Ev tab (.fn 340) [.c (.yl (J.length+1)),.c (.f (.fp dM 0)),.c (.f (.fp [fi m] 0)),.c (.f (.fp [fi le] 0))] (J++[.eH ae,.lp 209 u [P.nat 77] iG iH .ready ab J.length]) (.t []) H7:=by
    have e:J++[.eH ae,.lp 209 u [P.nat 77] iG iH .ready ab J.length]=W:=by rw [hW,f7,n6]
    rw [e,n6];exact he
   refine iu (g:=340) (by rw [A9,s_];simp [bX]) t_ ?_;rw [n6];have y7:H7[10]?=aa (.lp 209 u [P.nat 77] iG iH .ready ab 9):=by rw [eP 10 (by omega) (by omega),j7,f7]
   refine lj y7 (by decide) ?_;refine aA (aA (next _ _ _ ⟨by simp [g1],by simp [g2],by simp [g3],by simp [g6],by simp [g7],by simp [g8],by simp [g9],by simp [s],by simp [z],by simp [x],by simp [A],by omega,fun _=>⟨rfl,?_,fun i hi h5=>?_,?_⟩⟩ (by simpa using s9) (by simpa using s8)))
   ·rw [AI (by omega),eP 9 (by omega) (by omega)];exact q9
   ·rw [AI (by omega),eP i (by omega) h5,F.2 i (by omega)]
   ·rw [AI (by omega)];exact vP
  ·rintro t ds K ⟨g1,g2,g3,g6,g7,g8,g9,s,z,x,A,-,I⟩ - -;obtain⟨rfl,q9,eK,v5⟩:=I rfl;have p1:K[1]?=aa (.box [.f .az] 0):=by rw [eK 1 (by omega) (by omega)];exact u1
   have p2:K[2]?=aa (.box [.f (fi 0)] 0):=by rw [eK 2 (by omega) (by omega)];exact u2
   have p3:K[3]?=aa (.box [.f (fi 0)] 0):=by rw [eK 3 (by omega) (by omega)];exact u3
   have p6:K[6]?=aa (.box [.cl 283 [.ptr 5 0 0]] 0):=by rw [eK 6 (by omega) (by omega)];exact w6
   have l3:aR K ab (.c (.ptr 3 0 0))=aa (vi 0):=by simp [aR,aE,p3]
   have l6:aR K ab (.c (.ptr 6 0 0))=aa (.c (.cl 283 [.ptr 5 0 0])):=by simp [aR,aE,p6]
   have b9:unV .neg (vi 0)=aa (vi 0):=rfl;apply ai;simp;apply an;apply ai;simp [g8,l3,b9,-aw];refine aF (iL ?_);apply ai;simp;refine an (aB (by simp) ?_);refine bJ (k':=[.code A7]) rfl ?_;obtain⟨K1,q⟩:=aJ (K++[bw.box [.cl 283 [.ptr 5 0 0]] 0]:aj);have E:Kp K K1:=by rw [q];exact Kp.push _ _
   have c1:K1[K.length]?=aa (.box [.cl 283 [.ptr 5 0 0]] 0):=by rw [q];simp
   have v_:bg tab 284 [.a [.f (dF m le)],.a [.f .az]]=Eq (.t [.a [.f (dF m le)],vi 0]):=by
    unfold dF;split
    ·exact j_
    ·exact i_
   obtain⟨r,d,l,rfl,w9⟩:=Bs (H:=K1) (b:=K.length) [.cl 283 [.ptr 5 0 0]] [.az,dF m le] rfl (by decide) c1 (fun j hj L hL=>by
    match j,hj with
    | 0,_=>obtain⟨r,M,N,O⟩:=al7 ((E.tr hL).get v5) v_;exact⟨.fn 283,_,r,M,rfl,N,O⟩)
   have l:Ev tab (.fn 285) [.a [.f .az],.c (.sl K.length 0 1 1 0 1)] K1 (.t [.a [.f (dF m le)],vi 0]) d:=l;have l:=l.eq;have j4:=E.tr w9;have y1:=j4.get p1;have y2:=j4.get p2;have y9:=j4.get q9;have s1:cX d (.ptr 1 0 0) [.f (dF m le)]=aa (d.set 1 (.box [.f (dF m le)] 0)):=by simp [cX,y1,over]
   have h_:(d.set 1 (.box [.f (dF m le)] 0))[2]?=aa (.box [.f (fi 0)] 0):=by rw [AI (by omega)];exact y2
   have s2:cX (d.set 1 (.box [.f (dF m le)] 0)) (.ptr 2 0 0) [.f (fi 0)]=aa (d.set 1 (.box [.f (dF m le)] 0)):=by
    simp [cX,h_,over];obtain⟨i8,e⟩:=BY.1 h_;rw [←e];exact awy i8
   have n9:(d.set 1 (.box [.f (dF m le)] 0))[1]?=aa (.box [.f (dF m le)] 0):=IN (ak y1);have n_:(d.set 1 (.box [.f (dF m le)] 0))[9]?=aa (.eH ae):=by rw [AI (by omega)];exact y9
   simp only [pM]at a8;change bg tab 287 _=_ at a8;apply ai;simp [x,l6,a8,←q,l,g6,g7,s1,s2,-aw,-bh];generalize d.set 1 (.box [.f (dF m le)] 0)=K3 at n9 h_ n_ ⊢;have a1:(K3.set 9 (.eH ag))[1]?=aa (.box [.f (dF m le)] 0):=by rw [AI (by omega)];exact n9
   have a2:(K3.set 9 (.eH ag))[2]?=aa (.box [.f (fi 0)] 0):=by rw [AI (by omega)];exact h_
   refine aC (hQ _ _ _ rfl (.inr ⟨9,rfl,n_,.t [.a [.f (dF m le)],vi 0],?_,by simp [iU,cD,bj];rw [show(m:Int)=20*(k:Int) by omega]⟩));simp [Km.results,bj,g6,g7,a1,a2,aV]
 exact hp.eq
end Go.Proofs.YtnaofdffomdmhaaGreat
namespace Go.Proofs.YtnaofdffomdmhaaGreat
open Go Km
theorem oW{m r t z n p mi le:Int}(h:Az n p)(s:0≤mi)(u:mi≤1180)(b:1≤le)(d:le≤10080):ea (tn m r t z n p mi le).st=ae:=by
 obtain⟨g,j,l,q⟩:=h;show ea ⟨.fs,[⟨.fs,[⟨.fs,[⟨.nil,[],0,n,.fs,[p]⟩]⟩],mi⟩],le,.nil,[]⟩=ae;simp [ea,eR,iW,nm,kr,gG,eM,bt];omega
theorem DO(m r t z n p mi le:Int):(tn m r t z n p mi le).st.Sm:=by
 simp [aK.Sm,tn,dG.Sm,bQ.Sm]
def vC(n p:Int):FC:=.fs [.fs [.az,fi 0,fi n,.fs [fi p] 1] 1] 1
def tK(n p mi le:Int):List FC:=[.fs [vC n p,fi mi] 1,fi le,.az]
theorem alE(m r t z n p mi le:Int):(tn m r t z n p mi le).st.row=tK n p mi le:=rfl
theorem Ex{H:aj}{a b:Nat}(l:a≠b)(x:aI)(z:H[a]?=aa (.box [.f (fi 0),.f (fi 0),.f (fi 0)] 0))(A:H[b]?=aa (.box [.f (.bool ag)] 0)) :
  ∃ r H',Ev tab (.fn 208) [.a (x.row.map .f),.c (.ptr a 0 0),.c (.ptr b 0 0)] H r H'∧(r=.t []∧H.length≤H'.length∧(∀ i:Nat,i<H.length→i≠a→i≠b→H'[i]?=H[i]?)∧H'[a]?=aa (.box (x.row.map .f) 0)∧H'[b]?=aa (.box [.f (.bool ae)] 0)):=by
 refine cL rfl rfl fun Q X=>?_;have N:=yL .fs [dg x.fr 0,dg x.day 0,dg x.to 0] (by simp);simp [ints,sl,Tg.fc]at N;have la:=ak z;have lb:=ak A;apply ai;simp [aI.row];obtain⟨K,y⟩:=aJ (H++[bw.box [.f (fi x.day),.f (fi x.fr),.f (fi x.to)] 0]:aj);have B:Kp H K:=by rw [y];exact Kp.push _ _
 have u:K[H.length]?=aa (.box [.f (fi x.day),.f (fi x.fr),.f (fi x.to)] 0):=by rw [y];simp
 have F:=B.get z;have qb:=B.get A;rw [←y];have x0:aR K ab (.c (.ptr H.length 0 0))=aa (vi x.day):=by simp [aR,aE,u]
 have x1:aR K ab (.c (.ptr H.length 1 0))=aa (vi x.fr):=by simp [aR,aE,u]
 have x2:aR K ab (.c (.ptr H.length 2 0))=aa (vi x.to):=by simp [aR,aE,u]
 have v:∀ j:Nat,j<3→aR K ab (.c (.ptr a j 0))=aa (vi 0):=fun j Z=>by
  match j,Z with
  | 0,_=>simp [aR,aE,F]| 1,_=>simp [aR,aE,F]| 2,_=>simp [aR,aE,F]
 apply ai;simp [x0,x1,x2,v 0 (by decide),v 1 (by decide),v 2 (by decide),gm,deep,mD,qW,N,-aw];obtain⟨d,g⟩:=aJ (K++[bw.box [.f (fi (dg x.fr 0)),.f (fi (dg x.day 0)),.f (fi (dg x.to 0))] 3]:aj);have m:Kp K d:=by rw [g];exact Kp.push _ _
 rw [←g];have s:=B.tr m;have ra:=s.get z;have I:=s.get A;have J:=m.get u;have b0:aR d ab (.c (.ptr b 0 0))=aa (vb ag):=by simp [aR,aE,I]
 have E:∀ L:aj,L[H.length]?=aa (.box [.f (fi x.day),.f (fi x.fr),.f (fi x.to)] 0)→aR L (aa 3) (.c (.ptr H.length 0 0))=aa (.a [.f (fi x.day),.f (fi x.fr),.f (fi x.to)]):=fun L h=>by simp [aR,aE,h,aV]
 apply ai;simp [b0,-aw];refine au (by simp) ?_;have S:cX d (.ptr b 0 0) [.f (.bool ae)]=aa (d.set b (.box [.f (.bool ae)] 0)):=by simp [cX,I,over]
 have q:(d.set b (.box [.f (.bool ae)] 0))[a]?=aa (.box [.f (fi 0),.f (fi 0),.f (fi 0)] 0):=by rw [AI (Ne.symm l)];exact ra
 have O:cX (d.set b (.box [.f (.bool ae)] 0)) (.ptr a 0 0) [.f (fi x.day),.f (fi x.fr),.f (fi x.to)]=aa ((d.set b (.box [.f (.bool ae)] 0)).set a (.box [.f (fi x.day),.f (fi x.fr),.f (fi x.to)] 0)):=by simp [cX,q,over]
 have M:(d.set b (.box [.f (.bool ae)] 0))[H.length]?=aa (.box [.f (fi x.day),.f (fi x.fr),.f (fi x.to)] 0):=by rw [AI (by omega)];exact J
 refine gn (.inl rfl) ?_ ?_
 case _=>
  simp [E d J,S,O,-aw,-bh];refine cE (X _ _ _ rfl rfl ⟨rfl,by simp;exact s.1,fun i hi U W=>?_,IN (ak q),?_⟩)
  ·rw [AI (Ne.symm U),AI (Ne.symm W)];exact s.2 i hi
  ·rw [AI l];exact IN (ak I)
 ·intro c Y;rw [avh.1 Y];refine⟨by decide,_,rfl,.inl ⟨by decide,?_⟩⟩;simp [E d J,E _ M,S,O,ib,V.beq,jJ,C.beq,FC.beq,-aw,-bh]
def iZ(n p mi le:Int):aI:=if mi+le≤1440 then⟨0,0,0⟩else⟨p,p*1440+mi,p*1440+mi+le⟩
theorem ac_{n p:Int}(W:Az n p){k:Nat}(hk:k<60)(le:Int)(e0:1≤le)(e1:le≤10080) :
  bg tab 136 [.a (dM.map .f),.a ((tK n p (20*k:Nat) le).map .f)]=Eq (.t [vb (decide ((20*k:Nat)+le≤1440)),.a ((iZ n p (20*k:Nat) le).row.map .f),vi 0]):=bg.eq (by
 obtain⟨m,hm⟩:=aJ (20*k:Nat);have hd:=ajP hk le e0 e1;have I:=zb _ (DO 1 0 0 1 n p (20*k:Nat) le);rw [oW W (by omega) (by omega) e0 e1,alE]at I;rw [←hm]at hd I ⊢;have h_:m≤1180:=by omega
 have f7:=W;obtain⟨b1,b2,b3,b4⟩:=f7;have A:=gh.2.2.2.2.2.2.2.2;change bg tab 190 [.a (dM.map .f)]=Eq (vi 0)at A;refine bI rfl rfl fun Q hQ=>?_;have b_:∀ K:aj,K[0]?=aa (.box (dM.map .f) 0)→aR K (aa 10) (.c (.ptr 0 0 0))=aa (.a (dM.map .f)):=fun K h=>by simp [aR,aE,h,dM,aV]
 have X:∀ K:aj,K[1]?=aa (.box ((tK n p m le).map .f) 0)→aR K (aa 3) (.c (.ptr 1 0 0))=aa (.a ((tK n p m le).map .f))∧aR K ab (.c (.ptr 1 0 0))=aa (.c (.f (.fs [vC n p,fi m] 1)))∧aR K ab (.c (.ptr 1 1 0))=aa (vi le)∧aR K ab (.c (.ptr 1 2 0))=aa (.c (.f .az)):=fun K h=>by refine⟨?_,?_,?_,?_⟩<;>simp [aR,aE,h,tK,aV]
 apply ai;simp;obtain⟨O,g⟩:=aJ ([.box (dM.map .f) 0,.box ((tK n p m le).map .f) 0,.box [.f (fi 0),.f (fi 0),.f (fi 0)] 0]:aj);rw [←g];have n0:O.length=3:=by rw [g];rfl
 have z0:O[0]?=aa (.box (dM.map .f) 0):=by rw [g];rfl
 have N:O[1]?=aa (.box ((tK n p m le).map .f) 0):=by rw [g];rfl
 have z2:O[2]?=aa (.box [.f (fi 0),.f (fi 0),.f (fi 0)] 0):=by rw [g];rfl
 apply an;apply ai;simp [b_ _ z0,A,(X _ N).1,I,-aw];refine bo (by simp) ?_;obtain⟨Y,l⟩:=aJ (O++[.box [.f (.bool ag)] 0,.box [.f (fi 0),.f (fi 0),.f (fi 0)] 0]:aj);have k1:Kp O Y:=by rw [l];exact Kp.push _ _
 have n1:Y.length=5:=by rw [l];simp [n0]
 have z3:Y[3]?=aa (.box [.f (.bool ag)] 0):=by rw [l];simp [←n0]
 have z4:Y[4]?=aa (.box [.f (fi 0),.f (fi 0),.f (fi 0)] 0):=by rw [l,IS (by omega),n0];rfl
 apply ai;simp [n0];apply ai;simp [n0];rw [←l];apply ai;simp [mU];apply an;apply ai;have d_:∀ K:aj,bu K (.f (.fs [vC n p,fi m] 1))=aa 1:=fun K=>rfl;simp [(X _ (k1.get N)).2.1,d_,-aw];obtain⟨ok,s⟩:=aJ (decide ((m:Int)+le≤1440):Bool);refine bS 1 (fun j t K=>t.g 3=.c (.ptr 1 0 0)∧t.g 5=.c (.ptr 2 0 0)∧t.g 8=.c (.ptr 3 0 0)∧t.g 9=.c (.ptr 4 0 0)∧t.g 2=.c (.ptr 0 0 0)∧t.g 10=.c (.cl 208 [.ptr 4 0 0,.ptr 3 0 0])∧t.g 33=.c (.f (.fs [vC n p,fi m] 1))∧(j=0→K=Y∧t.g 7=vb ae)∧(j=1→t.g 7=vb ok∧K[1]?=aa (.box ((tK n p m le).map .f) 0)∧K[2]?=aa (.box [.f (fi 0),.f (fi 0),.f (fi 0)] 0)∧K[4]?=aa (.box ((iZ n p m le).row.map .f) 0))) (by omega) (by decide) (by decide) (by simp) (by simp)
  ⟨by simp,by simp,by simp,by simp,by simp,by simp,by simp,fun _=>⟨rfl,by simp⟩,by omega⟩ ?_ ?_
 ·rintro j t K hj ⟨B,E,g8,U,g2,u,v,hK,-⟩ ha hb next
  obtain rfl:j=0:=by omega
  obtain⟨rfl,g7⟩:=hK rfl;have F:t.g 35=vi 0:=ha;have ix:bH K 2 ab (.c (.f (.fs [vC n p,fi m] 1))) (vi 0)=aa (.c (.f (.fp [vC n p,fi m] 0))):=rfl;have ld:aR K (aa 2) (.c (.f (.fp [vC n p,fi m] 0)))=aa (.a [.f (vC n p),.f (fi m)]):=rfl;refine aF ?_;apply ai;simp [v,F,ix,ld,n1];obtain⟨Z,x⟩:=aJ (K++[.box [.f (vC n p),.f (fi m)] 0]:aj);have k2:Kp K Z:=by rw [x];exact Kp.push _ _
  have n2:Z.length=6:=by rw [x];simp [n1]
  have z5:Z[5]?=aa (.box [.f (vC n p),.f (fi m)] 0):=by rw [x];simp [←n1]
  have l5:∀ L:aj,L[5]?=aa (.box [.f (vC n p),.f (fi m)] 0)→aR L ab (.c (.ptr 5 1 0))=aa (vi m)∧aR L (aa 1) (.c (.ptr 5 0 0))=aa (.a [.f (vC n p)]):=fun L h=>by refine⟨?_,?_⟩<;>simp [aR,aE,h,aV]
  rw [←x];have M:=k1.tr k2;apply ai;simp [g2,B,b_ _ (M.get z0),(l5 _ z5).1,(X _ (M.get N)).2.2.1,hd,n2,-aw];obtain⟨S,y⟩:=aJ (Z++[.box [.f (dF m le)] 0]:aj);have k3:Kp Z S:=by rw [y];exact Kp.push _ _
  have n3:S.length=7:=by rw [y];simp [n2]
  have z6:S[6]?=aa (.box [.f (dF m le)] 0):=by rw [y];simp [←n2]
  have l6:aR S (aa 1) (.c (.ptr 6 0 0))=aa (.a [.f (dF m le)]):=by simp [aR,aE,z6,aV]
  rw [←y];apply an;apply ai;simp;refine bo (by simp) ?_;obtain⟨bad,q⟩:=aJ (if(m:Int)+le≤1440 then FC.az else vC n p:FC);have b9:bg tab 210 [.a [.f (vC n p)],.a [.f (dF m le)]]=Eq (.t [.a [.f bad],vi 0]):=by
   rw [q];unfold dF;split
   ·exact QT W
   ·exact QU W
  have a_:bg tab 58 [.a [.f bad]]=Eq (vb ok):=by
   rw [q,s];by_cases h:(m:Int)+le≤1440
   ·rw [bf h,decide_eq_true h];exact xX
   ·rw [aY h,decide_eq_false h];exact acX W
  have e_:bg tab 211 [.a [.f bad],vi 0]=Eq (.t [vi (if(m:Int)+le≤1440 then 0 else p),vb (!ok)]):=by
   rw [q,s];by_cases h:(m:Int)+le≤1440
   ·rw [bf h,bf h,decide_eq_true h];exact adR
   ·rw [aY h,aY h,decide_eq_false h];exact akC W
  apply ai;simp [(l5 _ (k3.get z5)).2,l6,b9,n3,-aw];obtain⟨H4,z⟩:=aJ (S++[.box [.f bad] 0]:aj);have k4:Kp S H4:=by rw [z];exact Kp.push _ _
  have n4:H4.length=8:=by rw [z];simp [n3]
  have z7:H4[7]?=aa (.box [.f bad] 0):=by rw [z];simp [←n3]
  have l7:aR H4 (aa 1) (.c (.ptr 7 0 0))=aa (.a [.f bad]):=by simp [aR,aE,z7,aV]
  rw [←z];have d:=(M.tr k3).tr k4;have J:=(k2.tr k3).tr k4;apply an;apply ai;simp;refine bo (by simp) ?_;apply ai;simp [g7,l7,a_,-aw];have q1:=nw (a:=2251799813685248-m-le) (b:=1440) (by omega) (by decide) (by omega);apply ai;simp [B,(l5 _ ((k3.tr k4).get z5)).1,(X _ (d.get N)).2.2.1,aW (n:=2251799813685248-(m:Int)),aW (n:=2251799813685248-(m:Int)-le),q1,-aw];apply ai;simp [l7,e_,-aw];apply an;refine aq (.inl rfl) ?_;cases ok with
  | true=>
   have hc:(m:Int)+le≤1440:=by simpa using s.symm
   simp;refine aB (by simp) (aP (aA (next _ _ ⟨by simp [B],by simp [E],by simp [g8],by simp [U],by simp [g2],by simp [u],by simp [v],by omega,fun _=>⟨by simp,d.get N,d.get z2,?_⟩⟩ (by simpa using F) (by simpa using hb))));rw [J.get z4,iZ,bf hc];rfl
  | false=>
   have hc:¬ (m:Int)+le≤1440:=by simpa using s.symm
   simp [hc,show p≤(2251799813685248-(m:Int)-le) / 1440 by omega];refine au (by simp) ?_;apply ai;simp [(l5 _ ((k3.tr k4).get z5)).1,aW (n:=p*1440),aW (n:=p*1440+m),-aw];obtain⟨r,H5,he,rfl,g_,a8,c_,f_⟩:=Ex (H:=H4) (a:=4) (b:=3) (by omega) ⟨p,p*1440+m,p*1440+m+le⟩ (J.get z4) (J.get z3);have he:=he.eq;simp [aI.row]at he;refine aq (.inl rfl) ?_;simp [u,B,(X _ (d.get N)).2.2.1,aW (n:=p*1440+m+le),bX,he,-aw];refine aA (next _ _ ⟨by simp [B],by simp [E],by simp [g8],by simp [U],by simp [g2],by simp [u],by simp [v],by omega,fun _=>⟨by simp,?_,?_,?_⟩⟩ (by simpa using F) (by simpa using hb))
   ·rw [a8 1 (by omega) (by omega) (by omega)];exact d.get N
   ·rw [a8 2 (by omega) (by omega) (by omega)];exact d.get z2
   ·rw [c_,iZ,aY hc]
 ·rintro t K ⟨B,E,g8,U,g2,u,v,-,hK⟩ - -;obtain⟨g7,y1,y2,y4⟩:=hK rfl;apply an;apply ai;have d9:∀ K:aj,bu K (.f .az)=aa 0:=fun K=>rfl;simp [B,(X _ y1).2.2.2,d9,-aw];refine bS 0 (fun _ t K'=>K'=K∧t.g 7=vb ok∧t.g 9=.c (.ptr 4 0 0)∧t.g 5=.c (.ptr 2 0 0)) (by omega) (by decide) (by decide) (by simp) (by simp) ⟨rfl,by simp [g7],by simp [U],by simp [E]⟩ (fun j t H hj=>by omega) ?_;rintro t' K' ⟨rfl,g7,U,E⟩ - -;have l4:aR K' (aa 3) (.c (.ptr 4 0 0))=aa (.a ((iZ n p m le).row.map .f)):=by simp [aR,aE,y4,aV,aI.row]
  have s2:cX K' (.ptr 2 0 0) ((iZ n p m le).row.map .f)=aa (K'.set 2 (.box ((iZ n p m le).row.map .f) 0)):=by simp [cX,y2,over,aI.row]
  have f8:(iZ n p m le).row.length=3:=rfl;apply ai;simp [g7,U,E,l4,s2,f8,-aw,-bh];refine aC (hQ _ _ ?_);simp [Km.results,bj,E,ak y2,aV,aI.row,iU,cD,s])
end Go.Proofs.YtnaofdffomdmhaaGreat
namespace Go.Proofs.YtnaofdffomdmhaaGreat
open Go Km
def TV(J:aj)(c:C)(fs:List bQ):Prop:=(∃ g,c=.f (sl g (ba fs)))∨LR J c 4 (ba fs)
def al0(f:Nat)(g:List FC)(L:List (List bQ)):Prop:=∀(b:Nat) (H:aj) (PP:Nat→aj→Prop),PP 0 H →
 (∀(j:Nat) (m:j<L.length) (d J:aj) (c:C),PP j d→(∀ i:Nat,i<d.length→J[i]?=d[i]?)→d.length≤J.length→TV J c L[j]→(∀ i,bG c=aa i→d.length≤i)→∃ H',Ev tab (.yield b) [.c c] J (vb ae) H'∧PP (j+1) H') →
 ∃ l,Ev tab (.fn f) (.c (.yl b)::g.map fun x=>.c (.f x)) H (.t []) l∧PP L.length l
theorem pV{ps:List bQ}(h:ps≠[])(g:Tg):sl g (ba ps)=.fs (ba ps).flatten ps.length:=by
 cases ps with
 | nil=>exact absurd rfl h| cons p l=>simp [sl,ba]
def TW(J:aj)(c:C)(fs:List bQ):Prop:=(∃ g,c=.f (sl g (ba fs)))∨(∃ b ep fl,c=.sl b 0 fs.length 0 ep 4∧J[b]?=aa (.cf 4 ((ba fs).flatten.map .f) fl ep .loc))
section
variable{J:aj}{c:C}{fs:List bQ}
theorem TV.tw(h:TV J c fs):TW J c fs:=by
 rcases h with⟨g,rfl⟩ | ⟨h0,rfl | rfl⟩ | ⟨j,b,ep,rfl,d⟩
 ·exact .inl ⟨g,rfl⟩
 ·exact .inl ⟨.nil,by rw [h0];rfl⟩
 ·exact .inl ⟨.es,by rw [h0];rfl⟩
 ·unfold RB at d;exact .inr ⟨b,ep,0,by rw [Cj],d⟩
theorem TW.ex(h:TW J c fs)(h0:fs≠[])(n:Nat):ey (n+1) J c=aa (sl .fs (ba fs)):=by
 rcases h with⟨g,rfl⟩ | ⟨b,ep,fl,rfl,d⟩
 ·show aa (sl g (ba fs))=_;rw [pV h0,pV h0]
 ·have j:(ba fs).flatten.length=fs.length*4:=by have:=bY (cm fs);simpa using this
  simp only [mD,d];rw [bf ⟨trivial,trivial,by rw [avi];omega⟩,awj,avj (by rw [avi];omega),sI,pV h0];rfl
theorem TW.mk(h:TW J c fs)(n:Nat):TW (gF (n+1) c J) c fs∧∀(i:Nat) (y:bw),J[i]?=aa y→bG c≠aa i→(gF (n+1) c J)[i]?=aa y:=by
 rcases h with⟨g,rfl⟩ | ⟨b,ep,fl,rfl,j⟩
 ·exact⟨.inl ⟨g,rfl⟩,fun i y hy _=>hy⟩
 ·have e:gF (n+1) (.sl b 0 fs.length 0 ep 4) J=J.set b (.cf 4 ((ba fs).flatten.map .f) (Nat.max fl (0+fs.length*4)) ep .loc):=by
   simp only [qW,j];rw [tV];intro x d;have d:=List.mem_of_mem_drop (List.mem_of_mem_take d);obtain⟨m,_,rfl⟩:=avx.1 d;exact⟨_,rfl⟩
  rw [e];exact⟨.inr ⟨b,ep,_,rfl,IN (ak j)⟩,fun i y hy hi=>by rw [AI (by rintro rfl;exact hi rfl)];exact hy⟩
theorem TW.set(h:TW J c fs){i:Nat}(hi:bG c≠aa i)(x:bw):TW (J.set i x) c fs:=by
 rcases h with h | ⟨b,ep,fl,rfl,d⟩
 ·exact .inl h
 ·exact .inr ⟨b,ep,fl,rfl,by rw [AI (by rintro rfl;exact hi rfl)];exact d⟩
end
theorem zT(ps:List bQ)(h:xM ps)(n:Int)(hn:0≤n)(b_:n≤1000000000000):∃ d f,ik (InN ps n) d f∧(0≤d∧d≤1000001000000)∧∀ H g found c,QH H n g found→TW H c ps→(∀ i,bG c=aa i→4<i) →
  ∃ r H',Ev tab (.yield 4) [.c c] H r H'∧(r=vb ae∧QH H' n (if f=ae∧(found=ag∨d<g)then d else g) (found||f)):=by
 obtain⟨d,f,e0,f0,hm,hd,he,hc⟩:=alI .fs ps h n hn b_;refine⟨d,f,hm,hd,?_⟩;rintro H g found c ⟨h0,h1,h2,h3,s,h4,u,K,L⟩ v N;refine fj (tab:=tab) (b:=4) h4 rfl fun Q' M=>?_;have b9:=ak h4;have F:∀(t:T) (j:aj),j[0]?=aa (.box [.f (fi n)] 0)→j[1]?=aa (.box [.f (fi g)] 0)→j[2]?=aa (.box [.f (.bool found)] 0)→j[3]?=aa (.eH ae)→j[4]?=aa (.lp 107 s [P.nat 12] dv cT .busy ab 3) →
   t.g 3=.c (.ptr 0 0 0)→t.g 6=.c (.ptr 1 0 0)→t.g 7=.c (.ptr 2 0 0)→t.g 9=vi d→t.g 10=vb f→WP tab 107 (aa 4) [.code A0,.inBlock 1] ⟨t,[],j⟩ Q':=by
  rintro t j q0 U A q3 q4 e3 I y J q;have l1:=ak U;have l2:=ak A;have cO:(f=ae∧(found=ag∨d<g)→False)→QH (j.set 4 (.lp 107 s [P.nat 12] dv cT .ready ab 3)) n (if f=ae∧(found=ag∨d<g)then d else g) (found||f):=by
   intro x;have hf:(found||f)=found:=by
    cases f<;>cases found<;>simp at x ⊢
   rw [aY x,hf];exact⟨by rw [AI (by decide)];exact q0,by rw [AI (by decide)];exact U,by rw [AI (by decide)];exact A,by rw [AI (by decide)];exact q3,s,IN (ak q4),u,K,L⟩
  have c_:(j.set 1 (.box [.f (fi d)] 0))[2]?=aa (.box [.f (.bool found)] 0):=by rw [AI (by decide)];exact A
  have Q:(f=ae∧(found=ag∨d<g))→QH (((j.set 1 (.box [.f (fi d)] 0)).set 2 (.box [.f (.bool ae)] 0)).set 4 (.lp 107 s [P.nat 12] dv cT .ready ab 3)) n (if f=ae∧(found=ag∨d<g)then d else g) (found||f):=by
   intro l;have hf:(found||f)=ae:=by rw [l.1];simp
   rw [bf l,hf];refine⟨?_,?_,?_,?_,s,IN (by simp;exact ak q4),u,K,L⟩
   ·rw [AI (by decide),AI (by decide),AI (by decide)];exact q0
   ·rw [AI (by decide),AI (by decide),IN l1]
   ·rw [AI (by decide),IN (by simpa using l2)]
   ·rw [AI (by decide),AI (by decide),AI (by decide)];exact q3
  have done:∀ B:T,(f=ae∧(found=ag∨d<g)→False)→WP tab 107 (aa 4) [.inBlock 1] ⟨B,[],j⟩ Q':=by
   intro B x;refine aA (cE (M _ _ _ _ _ _ _ _ _ _ rfl q4 ⟨rfl,?_⟩));have:=cO x;rw [show(j.set 4 (.lp 107 s [P.nat 12] dv cT .ready ab 3))=j.set 4 (.lp 107 s [P.nat 12] dv cT (if(ab:Option aG).isNone=ae then .ready else .done) ab 3) from rfl]at this;exact this
  have m:∀ B:T,B.g 6=.c (.ptr 1 0 0)→B.g 7=.c (.ptr 2 0 0)→B.g 9=vi d→(f=ae∧(found=ag∨d<g))→WP tab 107 (aa 4) [.code A1,.inBlock 1] ⟨B,[],j⟩ Q':=by
   intro B I y J l;refine aq (.inr rfl) ?_;simp [I,y,J,U,A,c_];refine aA (cE (M _ _ _ _ _ _ _ _ _ _ rfl (by rw [AI (by decide),AI (by decide)];exact q4) ⟨rfl,?_⟩));exact Q l
  apply an;cases f with
  | false=>
   refine aq (.inr rfl) ?_;simp [y,q,A];refine aB (by simp) (aP (done _ (by simp)))
  | true=>
   cases found with
   | false=>
    refine aq (.inr rfl) ?_;simp [y,q,A];refine au (by simp) (m _ (by simp [I]) (by simp [y]) (by simp [J]) (by simp))
   | true=>
    by_cases k:d<g
    ·refine aq (.inr rfl) ?_;simp [I,y,J,q,U,A,k];refine au (by simp) (m _ (by simp [I]) (by simp [y]) (by simp [J]) (by simp [k]))
    ·refine aq (.inr rfl) ?_;simp [I,y,J,q,U,A,k];refine aB (by simp) (aP (done _ (by simp [k])))
 refine aq (.inr rfl) ?_;simp;refine ma h4 ?_;have b0:(H.set 4 (.lp 107 s [P.nat 12] dv cT .busy ab 3))[0]?=aa (.box [.f (fi n)] 0):=by rw [AI (by decide)];exact h0
 have b1:(H.set 4 (.lp 107 s [P.nat 12] dv cT .busy ab 3))[1]?=aa (.box [.f (fi g)] 0):=by rw [AI (by decide)];exact h1
 have X:(H.set 4 (.lp 107 s [P.nat 12] dv cT .busy ab 3))[2]?=aa (.box [.f (.bool found)] 0):=by rw [AI (by decide)];exact h2
 have Y:(H.set 4 (.lp 107 s [P.nat 12] dv cT .busy ab 3))[3]?=aa (.eH ae):=by rw [AI (by decide)];exact h3
 have Z:(H.set 4 (.lp 107 s [P.nat 12] dv cT .busy ab 3))[4]?=aa (.lp 107 s [P.nat 12] dv cT .busy ab 3):=IN b9;have v:=v.set (i:=4) (fun e=>by have:=N 4 e;omega) (.lp 107 s [P.nat 12] dv cT .busy ab 3);generalize H.set 4 (.lp 107 s [P.nat 12] dv cT .busy ab 3)=j at b0 b1 X Y Z v ⊢;have S:∀ i:Nat,i≤4→bG c≠aa i:=fun i hi e=>by have:=N i e;omega
 have step:∀ j:aj,j[0]?=aa (.box [.f (fi n)] 0)→j[1]?=aa (.box [.f (fi g)] 0)→j[2]?=aa (.box [.f (.bool found)] 0)→j[3]?=aa (.eH ae)→j[4]?=aa (.lp 107 s [P.nat 12] dv cT .busy ab 3)→TW j c ps →
   ∃ E:aj,E=gF 64 c j∧ey 64 j c=aa (sl .fs (ba ps))∧E[0]?=aa (.box [.f (fi n)] 0)∧E[1]?=aa (.box [.f (fi g)] 0)∧E[2]?=aa (.box [.f (.bool found)] 0)∧E[3]?=aa (.eH ae)∧E[4]?=aa (.lp 107 s [P.nat 12] dv cT .busy ab 3)∧TW E c ps:=by
  intro j b0 b1 X Y Z hT;obtain⟨m1,O⟩:=hT.mk 63;exact⟨_,rfl,hT.ex (List.length_pos_iff.1 h.l1) 63,O 0 _ b0 (S 0 (by omega)),O 1 _ b1 (S 1 (by omega)),O 2 _ X (S 2 (by omega)),O 3 _ Y (S 3 (by omega)),O 4 _ Z (S 4 (by omega)),m1⟩
 obtain⟨H1,e1,x1,W,a1,a2,a3,a4,a8⟩:=step j b0 b1 X Y Z v;obtain⟨H2,e2,x2,c0,c1,c2,c3,c4,a_⟩:=step H1 W a1 a2 a3 a4 a8;obtain⟨H3,e3,x3,d0,d1,d2,d3,d4,d9⟩:=step H2 c0 c1 c2 c3 c4 a_;refine aF ?_;refine an (aq (.inr rfl) ?_);simp [u,b0,x1,deep,he,←e1];apply an;rcases hc with⟨rfl,rfl,rfl⟩ | ⟨rfl,rfl,b,z,hc⟩
 ·refine an (aq (.inr rfl) ?_);simp;refine bo (by simp) ?_;exact F _ _ W a1 a2 a3 a4 (by simp [u]) (by simp [K]) (by simp [L]) (by simp) (by simp)
 ·rcases hc with⟨rfl,rfl,rfl⟩ | ⟨rfl,hl⟩
  ·refine an (aq (.inr rfl) ?_);simp [u,W,x2,deep,z,←e2,show n≤1152921504606846976 by omega];refine bo (by simp) ?_;exact F _ _ c0 c1 c2 c3 c4 (by simp [u]) (by simp [K]) (by simp [L]) (by simp) (by simp)
  ·refine an (aq (.inr rfl) ?_);simp [u,W,x2,deep,z,←e2,show n≤1152921504606846976 by omega];refine au (by simp) ?_;refine aq (.inr rfl) ?_;simp [u,c0,x3,deep,hl,←e3];exact F _ _ d0 d1 d2 d3 d4 (by simp [u]) (by simp [K]) (by simp [L]) (by simp) (by simp)
end Go.Proofs.YtnaofdffomdmhaaGreat
namespace Go.Proofs.YtnaofdffomdmhaaGreat
open Go Km
def R9(L:List (List bQ))(n x:Int):Prop:=∃ t ∈ L,InN t n x
theorem akL{H H':aj}{n b:Int}{found:Bool}(h:QH H n b found)(u:∀ i:Nat,i<H.length→H'[i]?=H[i]?):QH H' n b found:=by
 obtain⟨h0,g,j,l,s,m,q⟩:=h;have k:∀(i:Nat) y,H[i]?=aa y→H'[i]?=aa y:=fun i y d=>by rw [u i (ak d)];exact d
 exact⟨k _ _ h0,k _ _ g,k _ _ j,k _ _ l,s,k _ _ m,q⟩
theorem QK(F:Nat)(l:List FC)(L:List (List bQ))(o:al0 F l L)(k:∀ t ∈ L,xM t)(n:Int)(hn:0≤n)(K:n≤1000000000000):∃ d f,ik (R9 L n) d f∧(0≤d∧d≤1000001000000) ∧
  bg tab 107 [.c (.f (.fn F l)),vi n]=Eq (.t [vi d,vb f]):=by
 have key:∃ r,(∃ d f,ik (R9 L n) d f∧(0≤d∧d≤1000001000000)∧r=.t [vi d,vb f])∧bg tab 107 [.c (.f (.fn F l)),vi n] r:=by
  refine Cp arL rfl fun Q p=>?_;have z:∀ s:T,s.g 3=.c (.ptr 0 0 0)→s.g 6=.c (.ptr 1 0 0)→s.g 7=.c (.ptr 2 0 0)→s.g 11=.c (.f (.fn F l)) →
    WP tab 107 ab [.code Fb,.inBlock 0,.code A3] ⟨s,[],[.box [.f (fi n)] 0,.box [.f (fi 0)] 0,.box [.f (.bool ag)] 0]⟩ Q:=by
   intro s a O S A;obtain⟨y,Z,b,found,⟨-,w1,w2,w3,N,w4,-⟩,q,U⟩:=o 4 [.box [.f (fi n)] 0,.box [.f (fi 0)] 0,.box [.f (.bool ag)] 0,.eH ae,.lp 107 s [P.nat 12] dv cT .ready ab 3]
    (fun j H=>∃ b found,QH H n b found∧ik (R9 (L.take j) n) b found∧(0≤b∧b≤1000001000000))
    ⟨0,ag,⟨rfl,rfl,rfl,rfl,s,rfl,a,O,S⟩,.inl ⟨rfl,rfl,fun d v=>by obtain⟨t,m,-⟩:=v;simp at m⟩,by omega,by omega⟩ fun j W Y J c ⟨b,found,u,q,U⟩ hk X w hc=>by
     obtain⟨d,f,I,v,hy⟩:=zT L[j] (k _ (anc W)) n hn K;have l4:4<Y.length:=by obtain⟨-,-,-,-,s',e,-⟩:=u;exact ak e
     obtain⟨r,H',E,rfl,B⟩:=hy J b found c (akL u hk) w.tw (fun i hi=>by have:=hc i hi;omega);have M:L.take (j+1)=L.take j++[L[j]]:=by rw [avK,By W];rfl
     refine⟨H',E,_,_,B,ik.join q I fun x=>?_,?_⟩
     ·unfold R9;rw [M];constructor
      ·rintro⟨t,m,h⟩;rcases avq.1 m with m | m
       ·exact .inl ⟨t,m,h⟩
       ·rw [avh.1 m]at h;exact .inr h
      ·rintro(⟨t,m,h⟩ | h)
       ·exact⟨t,awa _ m,h⟩
       ·exact⟨_,awK _ (avh.2 rfl),h⟩
     ·split<;>omega
   rw [avH]at q;refine iu (g:=F) (by rw [A9,A];simp [bX]) Z ?_;refine lj w4 (by decide) ?_;refine aA ?_;apply ai;have v1:(y.set 4 (.lp 107 N [P.nat 12] dv cT .exhausted ab 3))[1]?=aa (.box [.f (fi b)] 0):=by rw [AI (by decide)];exact w1
   have v2:(y.set 4 (.lp 107 N [P.nat 12] dv cT .exhausted ab 3))[2]?=aa (.box [.f (.bool found)] 0):=by rw [AI (by decide)];exact w2
   have v3:(y.set 4 (.lp 107 N [P.nat 12] dv cT .exhausted ab 3))[3]?=aa (.eH ae):=by rw [AI (by decide)];exact w3
   simp [O,S,v1,v2];refine aC (p _ _ _ ⟨b,found,q,U,rfl⟩ (.inr ⟨3,rfl,v3,.t [vi b,vb found],?_,by simp [iU,cD,bj]⟩));simp [Km.results,cA,bj]
  apply ai;simp;apply ai;simp;apply an;apply ai;simp;refine aF ?_;exact z _ (by simp) (by simp) (by simp) (by simp)
 obtain⟨r,⟨d,f,q,v,rfl⟩,h⟩:=key;exact⟨d,f,q,v,h.eq⟩
def tq(ss ts:List (List bQ)):List (List bQ):=(ss.map fun s=>ts.map fun t=>s++t).flatten
theorem Q4(ss ts:List (List bQ)):(tq ss ts).length=ss.length*ts.length:=by
 unfold tq;induction ss with
 | nil=>simp| cons s ss b=>rw [avl,List.flatten_cons,api,b,avi,List.length_cons,Nat.succ_mul,Nat.add_comm]
theorem ad0{ss ts:List (List bQ)}{i k:Nat}(hi:i<ss.length)(d:k<ts.length):(tq ss ts)[i*ts.length+k]?=aa (ss[i]++ts[k]):=by
 have h:=oX (rows:=ss.map fun s=>ts.map fun t=>s++t) (sz:=ts.length) (j:=i) (row:=ts.map fun t=>ss[i]++t) (fun r g=>by
  obtain⟨s,-,rfl⟩:=avx.1 g;simp) (by simp [hi])
 have b:(ts.map fun t=>ss[i]++t)[k]?=aa (ss[i]++ts[k]):=by simp [d]
 rw [←h,List.getElem?_take,bf d,avt]at b;exact b
theorem ad1(x y:FC):bg tab 108 [.a [.f x],.a [.f y]]=Eq (.c (.f (.fn 179 [.fp [x] 0,.fp [y] 0]))):=by
 refine bg.eq (bI rfl rfl fun Q b=>?_);apply ai;simp;apply ai;simp;refine aC (b _ _ ?_);simp [deep]
theorem Et(g g':Tg)(ss ts:List dG)(hs:ss.length≤1000)(ht:ts.length≤1000)(b_:∀ s ∈ ss,s.fs.length≤1000)(c_:∀ t ∈ ts,t.fs.length≤1000) :
  al0 179 [.fp [sl g (aN ss)] 0,.fp [sl g' (aN ts)] 0] (tq (ss.map (·.fs)) (ts.map (·.fs))):=by
 intro b H PP h0 hy;have v:(tq (ss.map (·.fs)) (ts.map (·.fs))).length=ss.length*ts.length:=by rw [Q4,avi,avi]
 have U:∀ H:aj,bu H (.f (sl g (aN ss)))=aa ss.length:=fun H=>by simp
 have W:∀ H:aj,bu H (.f (sl g' (aN ts)))=aa ts.length:=fun H=>by simp
 obtain⟨r,X,he,rfl,f⟩:∃ r X,Ev tab (.fn 179) [.c (.yl b),.c (.f (.fp [sl g (aN ss)] 0)),.c (.f (.fp [sl g' (aN ts)] 0))] H r X∧(r=.t []∧PP (ss.length*ts.length) X):=by
  refine cL rfl rfl fun Q hQ=>?_;apply ai;simp [oG,U];refine bS ss.length (fun i s J=>s.g 0=.c (.yl b)∧s.g 2=.c (.f (.fp [sl g' (aN ts)] 0))∧s.g 9=.c (.f (sl g (aN ss)))∧PP (i*ts.length) J) (by omega) (by decide) (by decide) (by simp) (by simp) ⟨by simp,by simp,by simp,by simpa using h0⟩ ?_ ?_
  ·rintro i s J hi ⟨g0,E,I,K⟩ h hb next
   have y:=fun H:aj=>mc (H:=H) (iF ss) (ku (l:=ss) (j:=i) hi) rfl;have u:=fun H:aj=>bl (H:=H) (g:=g) (rows:=aN ss) (sz:=1) (k:=.i64) (i:=i) (by omega) (by simpa using hi);simp at y u;refine aF ?_;apply ai;simp [I,h,u,y];apply ai;simp [E,oG,W];refine bS ts.length (fun k s' J=>s'.g 0=.c (.yl b)∧s'.g 2=.c (.f (.fp [sl g' (aN ts)] 0))∧s'.g 9=.c (.f (sl g (aN ss)))∧s'.g 5=.c (.f (sl ss[i].tg (ba ss[i].fs)))∧s'.g 16=.c (.f (sl g' (aN ts)))∧s'.g 10=s.g 10∧s'.g 11=s.g 11∧PP (i*ts.length+k) J) (by omega) (by decide) (by decide) (by simp) (by simp)
    ⟨by simp [g0],by simp [E],by simp [I],by simp,by simp,by simp,by simp,by simpa using K⟩ ?_ ?_
   ·rintro k s' J Z ⟨g0,E,I,e,B,z,A,K⟩ S n N;have m:=fun H:aj=>mc (H:=H) (iF ts) (ku (l:=ts) (j:=k) Z) rfl;have d:=fun H:aj=>bl (H:=H) (g:=g') (rows:=aN ts) (sz:=1) (k:=.i64) (i:=k) (by omega) (by simpa using Z);simp at m d;have a_:i*ts.length+k<(tq (ss.map (·.fs)) (ts.map (·.fs))).length:=by
     rw [v];have:(i+1)*ts.length≤ss.length*ts.length:=Nat.mul_le_mul_right _ hi;rw [avM,aw8]at this;omega
    have p:(tq (ss.map (·.fs)) (ts.map (·.fs)))[i*ts.length+k]=ss[i].fs++ts[k].fs:=by
     have:=ad0 (ss:=ss.map (·.fs)) (ts:=ts.map (·.fs)) (i:=i) (k:=k) (by simpa using hi) (by simpa using Z);simp only [avi,List.getElem_map]at this;exact(BY.1 this).2
    have e_:=b_ _ (anc hi);have f7:=c_ _ (anc Z);obtain⟨Y,q⟩:=aJ (J++[bw.box [.f (sl ss[i].tg (ba ss[i].fs)),.f (sl ts[k].tg (ba ts[k].fs))] 0]);have b1:Y[J.length]?=aa (.box [.f (sl ss[i].tg (ba ss[i].fs)),.f (sl ts[k].tg (ba ts[k].fs))] 0):=by rw [q];simp
    have b9:ba (ss[i].fs++ts[k].fs)=ba ss[i].fs++ba ts[k].fs:=by simp [ba]
    obtain⟨r,a,M,c,rfl,L,a8,d_,o⟩:=xV (tab:=tab) (H:=Y) (F:=180) (G:=261) (sz:=4) (bytes:=64) (zs:=[.az,fi 0,fi 0,.az]) an6 aoc (by decide) rfl (b:=J.length) [(.f (sl ss[i].tg (ba ss[i].fs)),ba ss[i].fs),(.f (sl ts[k].tg (ba ts[k].fs)),ba ts[k].fs)] b1 (by simp)
     (fun x O=>by
      simp only [avn,av6,or_false]at O;rcases O with rfl | rfl
      ·exact⟨cm _,fun H' _=>⟨by simp,mS (cm _)⟩⟩
      ·exact⟨cm _,fun H' _=>⟨by simp,mS (cm _)⟩⟩)
     (by simp;omega) (rn (by simp;omega) (by decide))
    have L:LR a c 4 (ba (ss[i].fs++ts[k].fs)):=by
     rw [b9];simpa using L
    have d9:Y.length=J.length+1:=by rw [q];simp
    obtain⟨J3,w,f⟩:=hy (i*ts.length+k) a_ J a c K (fun x O=>by rw [a8 x (by omega),q,AT O]) (by omega) (by rw [p];exact .inr L) (fun x O=>by have:=o x O;omega);have M:Ev tab (.fn 180) [.c (.sl J.length 0 2 2 0 1)] Y (.c c) a:=M;refine aF ?_;apply ai;simp [S,B,d,m];apply an;refine aq (.inl rfl) ?_;simp [g0,e,←q,M.eq,w.eq];refine bo (by simp) ?_;refine aA (N _ _ ?_ (by simp [S]) (by simp [n]));exact⟨by simp [g0],by simp [E],by simp [I],by simp [e],by simp [B],by simp [z],by simp [A],f⟩
   ·rintro s' J ⟨g0,E,I,e,B,z,A,K⟩ - -;refine aA (next _ _ ⟨by simp [g0],by simp [E],by simp [I],?_⟩ (by simp [A,h]) (by simp [z,hb]));rw [avM,aw8];exact K
  ·rintro s J ⟨g0,E,I,K⟩ h hb;exact cE (hQ _ _ _ rfl rfl ⟨rfl,K⟩)
 exact⟨X,he,by rw [v];exact f⟩
end Go.Proofs.YtnaofdffomdmhaaGreat
namespace Go.Proofs.YtnaofdffomdmhaaGreat
open Go Km
def pd(n p:Int):bQ:=⟨.nil,[],0,n,.fs,[p]⟩
def td(n p:Int):dG:=⟨.fs,[pd n p]⟩
def wO(ts:List dG):Prop:=∃ n p,Az n p∧ts=[td n p]
def eF(ts:List dG)(d:Int):Prop:=∃ n p,ts=[td n p]∧d % n=p
theorem jl{n p d:Int}:eF [td n p] d↔d % n=p:=by
 constructor
 ·rintro⟨b,g,h,e⟩;simp [td,pd]at h;rw [h.1,h.2];exact e
 ·exact fun e=>⟨n,p,rfl,e⟩
theorem GH(g:Tg)(n p:Int):sl g (aN [td n p])=vC n p:=by cases g<;>rfl
theorem aer{n p:Int}(h:Az n p):Az n (Ri n p)∧∀ x:Int,x % n=Ri n p↔(x+1) % n=p:=by
 obtain⟨b,d,g,j⟩:=h;unfold Ri Az;obtain rfl | rfl | rfl | rfl | rfl | rfl:n=1∨n=2∨n=3∨n=4∨n=5∨n=6:=by omega
 all_goals split<;>refine⟨⟨by omega,by omega,by omega,by omega⟩,fun x=>by omega⟩
theorem yK(g:Tg)(ts:List dG)(h:wO ts):∃ us,wO us∧(∀ x,eF us x↔eF ts (x+1))∧bg tab 106 [.a [.f (sl g (aN ts))],vi (-1)]=Eq (.t [.a [.f (sl .fs (aN us))],vi 0]):=by
 obtain⟨n,p,b,rfl⟩:=h;obtain⟨d,j⟩:=aer b;refine⟨[td n (Ri n p)],⟨_,_,d,rfl⟩,fun x=>by rw [jl,jl];exact j x,?_⟩;rw [GH,GH];exact aeu b
theorem Ew{n p:Int}(h:Az n p):Mod (pd n p):=by
 obtain⟨b,d,g,j⟩:=h;refine⟨?_,by show n≤1000;omega⟩;show gG ⟨.nil,[],0,n,.fs,[p]⟩=ae;simp [gG,eM];omega
theorem sL{n p d:Int}(h0:0≤d):hasB (pd n p) d=ae↔d % n=p:=by
 simp [hasB,xd,pd,h0]
theorem Av{n p:Int}(h:Az n p):nm [td n p]=ae:=by
 have:=(Ew h).ok;simp [nm,kr,td,this]
theorem amp(n p:Int):∀ t ∈ [td n p],t.Sm:=by simp [dG.Sm,td,pd,bQ.Sm]
theorem yI(g g':Tg)(ss ts:List dG)(S:wO ss)(U:wO ts)(n:Int)(Y:-1000000000000≤n)(O:n≤1000000000000) :
  ∃ d f,ik (fun x=>max n 0≤x∧eF ss x∧eF ts x) d f∧(0≤d∧d≤1000001000000)∧bg tab 56 [.a [.f (sl g (aN ss))],.a [.f (sl g' (aN ts))],vi n]=Eq (.t [vi d,vb f]):=by
 obtain⟨j,m,b,rfl⟩:=S;obtain⟨l,q,z,rfl⟩:=U;have u:=(Ee g [td j m] (by simp) (amp j m)).eq;rw [Av b]at u;have v:=(Ee g' [td l q] (by simp) (amp l q)).eq;rw [Av z]at v;have B:=ad1 (sl g (aN [td j m])) (sl g' (aN [td l q]));have s:=Et g g' [td j m] [td l q] (by simp) (by simp) (by simp [td]) (by simp [td]);have K:tq ([td j m].map (·.fs)) ([td l q].map (·.fs))=[[pd j m,pd l q]]:=rfl;rw [K]at s;obtain⟨d,f,N,M,A⟩:=QK _ _ _ s (fun x W=>by
  rw [avh.1 W];refine⟨by simp,by simp,fun p E=>?_,?_,?_⟩
  ·simp only [avn,av6,or_false]at E;rcases E with rfl | rfl
   ·exact Ew b
   ·exact Ew z
  ·obtain⟨a1,F,_,_⟩:=b;obtain⟨b1,H,_,_⟩:=z;have:=Int.mul_le_mul F H (by omega) (by omega);simp only [fW,pd,Int.mul_one];omega
  ·simp [dp,pd]) (max n 0) (by omega) (by omega)
 refine⟨d,f,N.iff fun x=>?_,M,bg.eq (bI rfl rfl fun Q L=>?_)⟩
 ·rw [jl,jl];unfold R9 InN;constructor
  ·rintro⟨h0,I,J⟩;refine⟨_,avh.2 rfl,h0,?_⟩;simp only [tY,List.all_cons,List.all_nil,Bool.and_true,If];exact⟨(sL (by omega)).2 I,(sL (by omega)).2 J⟩
  ·rintro⟨y,X,h0,b⟩;rw [avh.1 X]at b;simp only [tY,List.all_cons,List.all_nil,Bool.and_true,If]at b;exact⟨h0,(sL (by omega)).1 b.1,(sL (by omega)).1 b.2⟩
 ·apply ai;simp;apply an;apply ai;simp [u,v];refine bo (by simp) ?_;apply ai;simp [B,A];refine aC (L _ _ ?_);simp
theorem akv(g g':Tg)(ss ts:List dG)(v:wO ss)(y:wO ts)(b:∀ x,0≤x→¬ (eF ss x∧eF ts x)):bg tab 57 [.a [.f (sl g (aN ss))],.a [.f (sl g' (aN ts))]]=Eq (.t [.a [.f .az],vi 0]):=by
 obtain⟨z,B,q,rfl⟩:=v;obtain⟨A,E,s,rfl⟩:=y;rw [GH,GH];refine aoy q s ?_;cases u:com (z,B) (A,E)with
 | false=>rfl
 | true=>
  obtain⟨d,j,_,l,m⟩:=ajN u;exact absurd ⟨jl.2 l,jl.2 m⟩ (b d j)
structure kJ(s:aK):Prop where
 len:1≤s.len∧s.len≤400
 cn:s.cs.length≤3
 min:∀ {c},c ∈ s.cs→0≤c.min∧c.min≤1180
 sm:s.Sm
 v:ea s=ae
 few:∀ c ∈ s.cs,wO c.ts
 xs:s.xs=[]
end Go.Proofs.YtnaofdffomdmhaaGreat
namespace Go.Proofs.YtnaofdffomdmhaaGreat
open Go Km
structure Pr where
 c:cJ
 d:cJ
 k:Int
 gx:Tg
 xs:List dG
 gy:Tg
 ys:List dG
def Pr.row(p:Pr):List C:=[.f (sl p.c.mg (aN p.c.ts)),.f (fi p.c.min),.f (sl p.d.mg (aN p.d.ts)),.f (fi p.d.min),.f (fi p.k),.f (sl p.gx (aN p.xs)),.f (sl p.gy (aN p.ys)),.f (fi (max 0 (-p.k)))]
def vr(la b:Int)(c d:cJ):Int:=(c.min-d.min-b) / 1440+1
def vj(la b:Int)(c d:cJ):Int:=(c.min-d.min+la-1) / 1440
structure oN(a b:aK)(p:Pr):Prop where
 ca:p.c ∈ a.cs
 db:p.d ∈ b.cs
 lo:vr a.len b.len p.c p.d≤p.k
 hi:p.k≤vj a.len b.len p.c p.d
 xo:wO p.xs
 yo:wO p.ys
 xm:∀ e,0≤e→(eF p.xs e↔eF p.c.ts (e+max 0 (-p.k)))
 ym:∀ e,0≤e→(eF p.ys e↔eF p.d.ts (e+max 0 p.k))
theorem xY(a b:aK):bg tab 55 [.a (a.row.map .f),.a (b.row.map .f)]=Eq (.c (.f (.fn 104 [.fp a.row 0,.fp b.row 0]))):=by
 refine bg.eq (bI rfl rfl fun Q d=>?_);apply ai;simp [aK.row];apply ai;simp;refine aC (d _ _ ?_);simp [deep,aK.row]
theorem oV{bb:Nat}{H:aj}(a b:aK)(ha:kJ a)(hb:kJ b)(PP:List Pr→aj→Prop)(RR:Pr→aj→Prop)(h0:PP [] H)
  (hk:∀ ps J J',PP ps J→(∀ i:Nat,i<H.length→J'[i]?=J[i]?)→J.length≤J'.length→PP ps J')
  (hy:∀ ps p J,PP ps J→H.length≤J.length→oN a b p→∃(r:Bool) (J':aj),Ev tab (.yield bb) [.a p.row] J (vb r) J'∧(if r then PP (ps++[p]) J'∧J.length≤J'.length∧∀ i:Nat,H.length≤i→i<J.length→J'[i]?=J[i]? else RR p J')) :
  ∃ H2,Ev tab (.fn 104) [.c (.yl bb),.c (.f (.fp a.row 0)),.c (.f (.fp b.row 0))] H (.t []) H2∧((∃ ps,PP ps H2∧(∀ p ∈ ps,oN a b p)∧∀ c ∈ a.cs,∀ d ∈ b.cs,∀ k,vr a.len b.len c d≤k→k≤vj a.len b.len c d→∃ p ∈ ps,p.c=c∧p.d=d∧p.k=k)∨∃ p,oN a b p∧RR p H2):=by
 obtain⟨la0,la1⟩:=ha.len;obtain⟨lb0,lb1⟩:=hb.len;have y8:=ha.cn;have y_:=hb.cn;have ou:∀ H:aj,bu H (.f (sl a.cg (aM a.cs)))=aa a.cs.length:=fun H=>by simp
 have s7:∀ H:aj,bu H (.f (sl b.cg (aM b.cs)))=aa b.cs.length:=fun H=>by simp
 have q_:∀(J:aj),aR J ab (.c (.f (.fp a.row 0)))=aa (.c (.f (sl a.cg (aM a.cs))))∧aR J ab (.c (.f (.fp a.row 1)))=aa (vi a.len):=fun J=>⟨rfl,rfl⟩
 have r_:∀(J:aj),aR J ab (.c (.f (.fp b.row 0)))=aa (.c (.f (sl b.cg (aM b.cs))))∧aR J ab (.c (.f (.fp b.row 1)))=aa (vi b.len):=fun J=>⟨rfl,rfl⟩
 obtain⟨r,H2,he,rfl,hP⟩:∃ r H2,Ev tab (.fn 104) [.c (.yl bb),.c (.f (.fp a.row 0)),.c (.f (.fp b.row 0))] H r H2∧(r=.t []∧((∃ ps,PP ps H2∧(∀ p ∈ ps,oN a b p)∧∀ c ∈ a.cs,∀ d ∈ b.cs,∀ k,vr a.len b.len c d≤k→k≤vj a.len b.len c d→∃ p ∈ ps,p.c=c∧p.d=d∧p.k=k)∨∃ p,oN a b p∧RR p H2)):=by
  refine cL rfl rfl fun Q hQ=>?_;apply ai;simp [q_,ou];refine bS a.cs.length (fun i t J=>t.g 0=.c (.yl bb)∧t.g 1=.c (.f (.fp a.row 0))∧t.g 2=.c (.f (.fp b.row 0))∧t.g 13=.c (.f (sl a.cg (aM a.cs)))∧H.length≤J.length∧∃ ps,PP ps J∧(∀ p ∈ ps,oN a b p)∧∀(B:Nat) (hi:B<a.cs.length),B<i→∀ d ∈ b.cs,∀ k,vr a.len b.len a.cs[B] d≤k→k≤vj a.len b.len a.cs[B] d→∃ p ∈ ps,p.c=a.cs[B]∧p.d=d∧p.k=k) (by omega) (by decide) (by decide) (by simp) (by simp)
   ⟨by simp,by simp,by simp,by simp,aft _,[],h0,by simp,fun B _ h=>by omega⟩ ?_ ?_
  ·rintro i t J hi ⟨g0,Y,X,v,s9,ps,hP,A,l⟩ hc t9 next
   have n_:=fun H:aj=>bl (H:=H) (g:=a.cg) (rows:=aM a.cs) (sz:=2) (k:=.i64) (i:=(i:Int)) (by omega) (by simp;omega);have j5:=fun H:aj=>bL (H:=H) (cK a.cs) (dI hi);simp only [avr]at n_;have t_:=ha.min (anc hi);have f7:=ha.few _ (anc hi);have M:=anc hi;obtain⟨c,j_⟩:=aJ (a.cs[i]);rw [←j_]at j5 t_ f7 M;simp only [cJ.row,avl,avs]at j5;refine aF ?_;apply ai;simp [hc,v,n_,j5,-aw];obtain⟨S,i6⟩:=aJ (J.length);obtain⟨J1,y⟩:=aJ (J++[bw.box [.f (sl c.mg (aN c.ts)),.f (fi c.min)] 0]);have c5:J1[S]?=aa (.box [.f (sl c.mg (aN c.ts)),.f (fi c.min)] 0):=by rw [y,i6];simp
   have b_:PP ps J1:=hk ps J J1 hP (fun i hi=>by rw [y,AT (by omega)]) (by rw [y,api];omega);have p_:J1.length=S+1:=by rw [y,api,i6];rfl
   rw [←y,←i6];apply ai;simp [X,r_,s7];refine bS b.cs.length (fun j t' J=>t'.g 0=.c (.yl bb)∧t'.g 1=.c (.f (.fp a.row 0))∧t'.g 2=.c (.f (.fp b.row 0))∧t'.g 13=.c (.f (sl a.cg (aM a.cs)))∧t'.g 14=t.g 14∧t'.g 15=t.g 15∧t'.g 5=.c (.ptr S 0 0)∧t'.g 20=.c (.f (sl b.cg (aM b.cs)))∧S<J.length∧J[S]?=aa (.box [.f (sl c.mg (aN c.ts)),.f (fi c.min)] 0)∧∃ ps,PP ps J∧(∀ p ∈ ps,oN a b p)∧(∀(B:Nat) (hi:B<a.cs.length),B<i→∀ d ∈ b.cs,∀ k,vr a.len b.len a.cs[B] d≤k→k≤vj a.len b.len a.cs[B] d→∃ p ∈ ps,p.c=a.cs[B]∧p.d=d∧p.k=k) ∧
     ∀(O:Nat) (hj:O<b.cs.length),O<j→∀ k,vr a.len b.len c b.cs[O]≤k→k≤vj a.len b.len c b.cs[O]→∃ p ∈ ps,p.c=c∧p.d=b.cs[O]∧p.k=k) (by omega) (by decide) (by decide) (by simp) (by simp)
    ⟨by simp [g0],by simp [Y],by simp [X],by simp [v],by simp,by simp,by simp,by simp,by omega,c5,ps,b_,A,l,fun O _ h=>by omega⟩ ?_ ?_
   ·clear hP A l b_ c5 p_ y;rintro j t' J hj ⟨g0,Y,X,v,F,I,g5,K,n8,c5,ps,hP,A,l,q⟩ j9 j8 j7;have o_:=fun H:aj=>bl (H:=H) (g:=b.cg) (rows:=aM b.cs) (sz:=2) (k:=.i64) (i:=(j:Int)) (by omega) (by simp;omega);have j6:=fun H:aj=>bL (H:=H) (cK b.cs) (dI hj);simp only [avr]at o_;have v6:=hb.min (anc hj);have f8:=hb.few _ (anc hj);have N:=anc hj;obtain⟨d,k_⟩:=aJ (b.cs[j]);rw [←k_]at j6 v6 f8 N;simp only [cJ.row,avl,avs]at j6;obtain⟨W,i7⟩:=aJ (J.length);obtain⟨J1,y⟩:=aJ (J++[bw.box [.f (sl d.mg (aN d.ts)),.f (fi d.min)] 0]);have c7:J1[W]?=aa (.box [.f (sl d.mg (aN d.ts)),.f (fi d.min)] 0):=by rw [y,i7];simp
    have h_:J1[S]?=aa (.box [.f (sl c.mg (aN c.ts)),.f (fi c.min)] 0):=by rw [y,AT n8];exact c5
    have b_:PP ps J1:=hk ps J J1 hP (fun i hi=>by rw [y,AT (by omega)]) (by rw [y,api];omega);have p_:J1.length=W+1:=by rw [y,api,i7];rfl
    obtain⟨lo,w9⟩:=aJ (vr a.len b.len c d);obtain⟨u,v9⟩:=aJ (vj a.len b.len c d);have n9:(c.min-d.min-b.len) / 1440+1=lo:=w9.symm;have l_:(c.min-d.min+a.len-1) / 1440=u:=v9.symm;have f1:=vg (c.min-d.min-b.len) (by omega) (by omega);have f2:=vg (c.min-d.min+a.len-1) (by omega) (by omega);rw [l_]at f2;have lob:-1≤lo∧lo≤1:=by omega
    have z8:-1≤u∧u≤1:=by omega
    have m5:∀ J:aj,J[S]?=aa (.box [.f (sl c.mg (aN c.ts)),.f (fi c.min)] 0)→aR J ab (.c (.ptr S 1 0))=aa (vi c.min)∧aR J (aa 2) (.c (.ptr S 0 0))=aa (.a [.f (sl c.mg (aN c.ts)),.f (fi c.min)])∧aR J (aa 1) (.c (.ptr S 0 0))=aa (.a [.f (sl c.mg (aN c.ts))]):=fun J h=>by refine⟨?_,?_,?_⟩<;>simp [aR,aE,h,aV]
    have m7:∀ J:aj,J[W]?=aa (.box [.f (sl d.mg (aN d.ts)),.f (fi d.min)] 0)→aR J ab (.c (.ptr W 1 0))=aa (vi d.min)∧aR J (aa 2) (.c (.ptr W 0 0))=aa (.a [.f (sl d.mg (aN d.ts)),.f (fi d.min)])∧aR J (aa 1) (.c (.ptr W 0 0))=aa (.a [.f (sl d.mg (aN d.ts))]):=fun J h=>by refine⟨?_,?_,?_⟩<;>simp [aR,aE,h,aV]
    obtain⟨v5,-,-⟩:=m5 J1 h_;obtain⟨v7,-,-⟩:=m7 J1 c7;refine aF ?_;apply ai;simp [j9,K,o_,j6,-aw];rw [←y,←i7];apply ai;simp [X,g5,v5,v7,r_,-aw,aW (n:=c.min-d.min),aW (n:=c.min-d.min-b.len),f1,n9,aW (n:=lo)];apply ai;simp [Y,g5,v5,v7,q_,-aw,aW (n:=c.min-d.min),aW (n:=c.min-d.min+a.len),aW (n:=c.min-d.min+a.len-1),f2];apply ai;simp;refine aF ?_;refine cI (fun n s=>∃(k:Int) (m:T) (J:aj),s=⟨m,[],J⟩∧n=(u+1-k).toNat∧lo≤k∧(k=lo∨k≤u+1)∧m.g 0=.c (.yl bb)∧m.g 1=.c (.f (.fp a.row 0))∧m.g 2=.c (.f (.fp b.row 0))∧m.g 13=.c (.f (sl a.cg (aM a.cs)))∧m.g 14=t.g 14∧m.g 15=t.g 15∧m.g 5=.c (.ptr S 0 0)∧m.g 7=.c (.ptr W 0 0)∧m.g 9=vi u∧m.g 10=vi k∧m.g 20=.c (.f (sl b.cg (aM b.cs)))∧m.g 21=t'.g 21∧m.g 22=t'.g 22∧W<J.length∧J[S]?=aa (.box [.f (sl c.mg (aN c.ts)),.f (fi c.min)] 0)∧J[W]?=aa (.box [.f (sl d.mg (aN d.ts)),.f (fi d.min)] 0)∧∃ ps,PP ps J∧(∀ p ∈ ps,oN a b p)∧(∀(B:Nat) (hi:B<a.cs.length),B<i→∀ d ∈ b.cs,∀ k,vr a.len b.len a.cs[B] d≤k→k≤vj a.len b.len a.cs[B] d→∃ p ∈ ps,p.c=a.cs[B]∧p.d=d∧p.k=k) ∧
     (∀(O:Nat) (hj:O<b.cs.length),O<j→∀ k,vr a.len b.len c b.cs[O]≤k→k≤vj a.len b.len c b.cs[O]→∃ p ∈ ps,p.c=c∧p.d=b.cs[O]∧p.k=k)∧∀ k',lo≤k'→k'<k→∃ p ∈ ps,p.c=c∧p.d=d∧p.k=k') (u+1-lo).toNat
     ⟨lo,_,J1,rfl,rfl,by omega,.inl rfl,by simp [g0],by simp [Y],by simp [X],by simp [v],by simp [F],by simp [I],by simp [g5],by simp,by simp,by simp,by simp [K],by simp,by simp,by omega,h_,c7,ps,b_,A,l,q,fun k' _ _=>by omega⟩ ?_
    clear hP A l q b_ c5 h_ c7 v5 v7;rintro n s ⟨k,m,J2,rfl,rfl,k0,k1,g0,Y,X,v,F,I,g5,g7,g9,z,K,a8,a_,hl7,c5,c7,ps,hP,A,l,q,c_⟩ ih;apply an;apply ai;simp [g9,z];by_cases v_:k≤u
    ·refine au (by simp [v_]) (aP ?_);obtain⟨v5,w5,x5⟩:=m5 J2 c5;obtain⟨v7,w7,x7⟩:=m7 J2 c7;have g_:unV .neg (vi k)=aa (vi (-k)):=by
      show aa (vi (IntKind.i64.wrap (0-k)))=_;rw [Int.zero_sub,aW]
     obtain⟨U,f_⟩:=aJ (J2.length);have i5:∀(m:T) (E:aj) (p:Pr),oN a b p→p.c=c→p.d=d→p.k=k→m.g 0=.c (.yl bb)→m.g 1=.c (.f (.fp a.row 0))→m.g 2=.c (.f (.fp b.row 0))→m.g 13=.c (.f (sl a.cg (aM a.cs)))→m.g 14=t.g 14→m.g 15=t.g 15→m.g 5=.c (.ptr S 0 0)→m.g 7=.c (.ptr W 0 0)→m.g 9=vi u→m.g 10=vi k→m.g 11=.c (.ptr U 0 0)→m.g 20=.c (.f (sl b.cg (aM b.cs)))→m.g 21=t'.g 21→m.g 22=t'.g 22 →
       E[U]?=aa (.box p.row 0)→(∀ i:Nat,i<J2.length→E[i]?=J2[i]?)→E.length=J2.length+1 →
       WP tab 104 ab [.code AK,.inBlock 5,.code AL,.inLoop AJ,.inBlock 4,.inBlock 3,.code (tI 22 88),.inLoop (ja 2 22 21 23 88 AH),.inBlock 2,.inBlock 1,.code (tI 15 89),.inLoop (ja 0 15 14 16 89 EZ),.inBlock 0] ⟨m,[],E⟩ Q:=by
      intro m E p i9 x6 x8 x9 g0 Y X v F I g5 g7 g9 z s8 K a8 a_ w_ i8 z_;have s_:PP ps E:=hk ps J2 E hP (fun i hi=>i8 i (by omega)) (by omega);obtain⟨r,J4,v8,hr⟩:=hy ps p E s_ (by omega) i9;have x_:p.row.length=8:=rfl;have tk:List.take 8 p.row=p.row:=rfl;have l8:aR E (aa 8) (.c (.ptr U 0 0))=aa (.a p.row):=by simp [aR,aE,w_,aV,x_,tk]
      apply an;refine aq (.inl rfl) ?_;simp [g0,s8,l8,-aw,v8.eq];cases r with
      | false=>exact au (by simp) (aC (hQ _ _ (.t []) rfl rfl ⟨rfl,.inr ⟨p,i9,by simpa using hr⟩⟩))
      | true=>
      obtain⟨t8,hl4,m_⟩:PP (ps++[p]) J4∧E.length≤J4.length∧∀ i:Nat,H.length≤i→i<E.length→J4[i]?=E[i]?:=by simpa using hr
      refine aB (by simp) (aP (aA ?_));refine aq (.inl rfl) ?_;simp [z,aW (n:=k+1)];have n5:J4[S]?=J2[S]?:=by rw [m_ S (by omega) (by omega),i8 S (by omega)]
      have n7:J4[W]?=J2[W]?:=by rw [m_ W (by omega) (by omega),i8 W (by omega)]
      refine ih (u+1-(k+1)).toNat _ (by omega) ⟨k+1,_,J4,rfl,rfl,by omega,.inr (by omega),by simp [g0],by simp [Y],by simp [X],by simp [v],by simp [F],by simp [I],by simp [g5],by simp [g7],by simp [g9],by simp,by simp [K],by simp [a8],by simp [a_],by omega,by rw [n5];exact c5,by rw [n7];exact c7,ps++[p],t8,fun x hx=>?_,fun B m4 d9 d' u_ k' Z h2=>?_,fun O b9 d9 k' Z h2=>?_,fun k' Z h2=>?_⟩
      ·rcases avq.1 hx with h | h
       ·exact A x h
       ·rw [avh]at h;rw [h];exact i9
      ·obtain⟨x,hx,h⟩:=l B m4 d9 d' u_ k' Z h2;exact⟨x,awa _ hx,h⟩
      ·obtain⟨x,hx,h⟩:=q O b9 d9 k' Z h2;exact⟨x,awa _ hx,h⟩
      ·by_cases e:k'=k
       ·exact⟨p,by simp,x6,x8,by rw [x9,e]⟩
       ·obtain⟨x,hx,h⟩:=c_ k' Z (by omega);exact⟨x,awa _ hx,h⟩
     obtain⟨E,e_⟩:=aJ (J2++[bw.box [.f (sl c.mg (aN c.ts)),.f (fi c.min),.f (sl d.mg (aN d.ts)),.f (fi d.min),.f (fi k),.f (sl c.mg (aN c.ts)),.f (sl d.mg (aN d.ts)),.f (fi (max 0 (-k)))] 0]);have i4:E[U]?=aa (.box [.f (sl c.mg (aN c.ts)),.f (fi c.min),.f (sl d.mg (aN d.ts)),.f (fi d.min),.f (fi k),.f (sl c.mg (aN c.ts)),.f (sl d.mg (aN d.ts)),.f (fi (max 0 (-k)))] 0):=by rw [e_,f_];simp
     have k3:∀ i:Nat,i<J2.length→E[i]?=J2[i]?:=fun i hi=>by rw [e_,AT hi]
     have l3:E.length=J2.length+1:=by rw [e_,api];rfl
     obtain⟨-,-,y6⟩:=m5 E (by rw [k3 S (by omega)];exact c5);obtain⟨-,-,y7⟩:=m7 E (by rw [k3 W (by omega)];exact c7);apply an;refine aF ?_;apply ai;simp [g5,g7,z,w5,x5,w7,x7,-aw,g_];rw [←e_,←f_];apply an;apply ai;simp [z];by_cases kp:0<k
     ·have m9:k=1:=by omega
      obtain⟨us,j4,i_,d_⟩:=yK d.mg d.ts f8;rw [show(-1:Int) = -k by omega]at d_;obtain⟨J4,L⟩:=aJ (E.set U (.box [.f (sl c.mg (aN c.ts)),.f (fi c.min),.f (sl d.mg (aN d.ts)),.f (fi d.min),.f (fi k),.f (sl c.mg (aN c.ts)),.f (sl .fs (aN us)),.f (fi (max 0 (-k)))] 0));have s6:cX E (.ptr U 6 0) [.f (sl .fs (aN us))]=aa J4:=by rw [L];simp [cX,i4,over]
      refine au (by simp [kp]) ?_;refine aq (.inl rfl) ?_;simp [g7,z,y7,-aw,g_,d_,s6,-bh];apply an;apply ai;simp [z,show¬ k<0 by omega];refine bo (by simp) ?_;refine i5 _ J4 ⟨c,d,k,c.mg,c.ts,Tg.fs,us⟩ ⟨M,N,by show vr a.len b.len c d≤k;omega,by show k≤vj a.len b.len c d;omega,f7,j4,fun x hx=>?_,fun x hx=>?_⟩ rfl rfl rfl (by simp [g0]) (by simp [Y]) (by simp [X]) (by simp [v]) (by simp [F]) (by simp [I]) (by simp [g5]) (by simp [g7]) (by simp [g9]) (by simp [z]) (by simp) (by simp [K]) (by simp [a8]) (by simp [a_]) ?_ (fun i hi=>by rw [L,AI (by omega)];exact k3 i hi) (by rw [L,avw];exact l3)
      ·show eF c.ts x↔eF c.ts (x+max 0 (-k));rw [show x+max 0 (-k)=x by omega]
      ·show eF us x↔eF d.ts (x+max 0 k);rw [i_ x,show x+1=x+max 0 k by omega]
      ·rw [L,IN (by omega)];simp [Pr.row]
     ·refine bo (by simp [kp]) ?_;apply an;apply ai;simp [z];by_cases kn:k<0
      ·have m9:k = -1:=by omega
       obtain⟨us,j4,i_,d_⟩:=yK c.mg c.ts f7;rw [←m9]at d_;obtain⟨J4,L⟩:=aJ (E.set U (.box [.f (sl c.mg (aN c.ts)),.f (fi c.min),.f (sl d.mg (aN d.ts)),.f (fi d.min),.f (fi k),.f (sl .fs (aN us)),.f (sl d.mg (aN d.ts)),.f (fi (max 0 (-k)))] 0));have s5:cX E (.ptr U 5 0) [.f (sl .fs (aN us))]=aa J4:=by rw [L];simp [cX,i4,over]
       refine au (by simp [kn]) ?_;refine aq (.inl rfl) ?_;simp [g5,z,y6,-aw,d_,s5,-bh];refine i5 _ J4 ⟨c,d,k,Tg.fs,us,d.mg,d.ts⟩ ⟨M,N,by show vr a.len b.len c d≤k;omega,by show k≤vj a.len b.len c d;omega,j4,f8,fun x hx=>?_,fun x hx=>?_⟩ rfl rfl rfl (by simp [g0]) (by simp [Y]) (by simp [X]) (by simp [v]) (by simp [F]) (by simp [I]) (by simp [g5]) (by simp [g7]) (by simp [g9]) (by simp [z]) (by simp) (by simp [K]) (by simp [a8]) (by simp [a_]) ?_ (fun i hi=>by rw [L,AI (by omega)];exact k3 i hi) (by rw [L,avw];exact l3)
       ·show eF us x↔eF c.ts (x+max 0 (-k));rw [i_ x,show x+1=x+max 0 (-k) by omega]
       ·show eF d.ts x↔eF d.ts (x+max 0 k);rw [show x+max 0 k=x by omega]
       ·rw [L,IN (by omega)];simp [Pr.row]
      ·refine bo (by simp [kn]) ?_;have z9:k=0:=by omega
       refine i5 _ E ⟨c,d,k,c.mg,c.ts,d.mg,d.ts⟩ ⟨M,N,by show vr a.len b.len c d≤k;omega,by show k≤vj a.len b.len c d;omega,f7,f8,fun x hx=>?_,fun x hx=>?_⟩ rfl rfl rfl (by simp [g0]) (by simp [Y]) (by simp [X]) (by simp [v]) (by simp [F]) (by simp [I]) (by simp [g5]) (by simp [g7]) (by simp [g9]) (by simp [z]) (by simp) (by simp [K]) (by simp [a8]) (by simp [a_]) i4 k3 l3
       ·show eF c.ts x↔eF c.ts (x+max 0 (-k));rw [show x+max 0 (-k)=x by omega]
       ·show eF d.ts x↔eF d.ts (x+max 0 k);rw [show x+max 0 k=x by omega]
    ·refine aB (by simp;omega) ?_;refine bJ rfl ?_;refine aA (j7 _ _ ⟨by simp [g0],by simp [Y],by simp [X],by simp [v],by simp [F],by simp [I],by simp [g5],by simp [K],by omega,c5,ps,hP,A,l,fun O b9 d9 k' Z h2=>?_⟩ (by simp [a_,j9]) (by simp [a8,j8]));by_cases e:O=j
     ·subst e;rw [←k_]at Z h2 ⊢;exact c_ k' (by omega) (by omega)
     ·exact q O b9 (by omega) k' Z h2
   ·rintro t' J ⟨g0,Y,X,v,F,I,g5,K,n8,c5,ps,hP,A,l,q⟩ - -;refine aA (next _ _ ⟨by simp [g0],by simp [Y],by simp [X],by simp [v],by omega,ps,hP,A,fun B u d9 d hd k Z h2=>?_⟩ (by simp [I,hc]) (by simp [F,t9]));by_cases e:B=i
    ·subst e;rw [←j_]at Z h2 ⊢;obtain⟨O,b9,rfl⟩:=avQ hd;exact q O b9 b9 k Z h2
    ·exact l B u (by omega) d hd k Z h2
  ·rintro t J ⟨g0,Y,X,v,s9,ps,hP,A,l⟩ - -;exact cE (hQ _ _ _ rfl rfl ⟨rfl,.inl ⟨ps,hP,A,fun c hc d hd k Z h2=>by
    obtain⟨B,u,rfl⟩:=avQ hc;exact l B u u d hd k Z h2⟩⟩)
 exact⟨H2,he,hP⟩
theorem Ql{bb:Nat}{H:aj}(a b:aK)(u:kJ a)(v:kJ b)(PP:List Pr→aj→Prop)(h0:PP [] H)
  (y:∀ ps J J',PP ps J→(∀ i:Nat,i<H.length→J'[i]?=J[i]?)→J.length≤J'.length→PP ps J')
  (z:∀ ps p J,PP ps J→H.length≤J.length→oN a b p→∃ J',Ev tab (.yield bb) [.a p.row] J (vb ae) J'∧PP (ps++[p]) J'∧J.length≤J'.length∧∀ i:Nat,H.length≤i→i<J.length→J'[i]?=J[i]?) :
  ∃ g,Ev tab (.fn 104) [.c (.yl bb),.c (.f (.fp a.row 0)),.c (.f (.fp b.row 0))] H (.t []) g∧∃ ps,PP ps g∧(∀ p ∈ ps,oN a b p)∧∀ c ∈ a.cs,∀ d ∈ b.cs,∀ k,vr a.len b.len c d≤k→k≤vj a.len b.len c d→∃ p ∈ ps,p.c=c∧p.d=d∧p.k=k:=by
 obtain⟨g,x,h | ⟨_,_,h⟩⟩:=oV a b u v PP (fun _ _=>False) h0 y fun ps p J j l m=>by
  obtain⟨J',q,s⟩:=z ps p J j l m;exact⟨ae,J',q,by simpa using s⟩
 ·exact⟨g,x,h⟩
 ·exact h.elim
end Go.Proofs.YtnaofdffomdmhaaGreat
namespace Go.Proofs.YtnaofdffomdmhaaGreat
open Go Km
def apo:bw→Bool
 | .cf _ _ _ _ _=>ag| _=>ae
def mP:List Nat→aj→aj
 | [],H=>H| b::d,H=>mP d (H.set b (.eH ag))
structure fI(bs:List Nat)(H:aj):Prop where
 nd:bs.Nodup
 on:∀ b ∈ bs,H[b]?=aa (.eH ae)
theorem kG{call:cR}:∀ {d:List Nat} {H:aj},fI d H→dL call (d.map .gZ) H=aa (mP d H)
 | [],H,_=>rfl
 | b::d,H,h=>by
  have l:=h.on b atI;have g:=List.nodup_cons.1 h.nd;simp only [avl,dL,l,mP];exact kG ⟨g.2,fun x j=>by rw [AI (by rintro rfl;exact g.1 j)];exact h.on x (aul _ j)⟩
theorem gS:∀ {d:List Nat} {H:aj} {i:Nat},i ∉ d→(mP d H)[i]?=H[i]?
 | [],_,_,_=>rfl
 | b::d,H,i,h=>by
  simp only [avn,not_or]at h;rw [mP,gS h.2,AI (Ne.symm h.1)]
def alZ(res:List gH)(r:V)(s:St):Prop:=∃ b,s.defs=b.map .gZ∧fI b s.heap∧∃ d,Km.results s.aD (mP b s.heap) res=aa d∧iU deep (mP b s.heap) d=aa r
theorem sN{f:Nat}{args:List V}{S:V→Prop}{ps:List P}{res:List gH}{body:aG}(A:tab f=aa ⟨ps,res,body⟩)(y:args.length=ps.length)
  (h:∀ Q:Option aG→St→Prop,(∀ j s r,S r→alZ res r s→Q j s)→WP tab f ab [.code body] ⟨cN ps args .e,[],[]⟩ Q):∃ r,S r∧bg tab f args r:=by
 have q:=h (fun _ s=>∃ r,S r∧alZ res r s) fun _ _ r b g=>⟨r,b,g⟩
 obtain⟨n,m,d,j,s,b,r,z,l,x,v,B,g,u⟩:=q;exact⟨r,z,B,mP l s.heap,tc A y ⟨n,m,d,j,s,b,0,0,_,by rw [x];exact kG v,g,rfl⟩,u⟩
theorem fI.set{d:List Nat}{H:aj}(h:fI d H){i:Nat}{y z:bw}(hi:H[i]?=aa y)(hy:y≠.eH ae):fI d (H.set i z):=⟨h.nd,fun b g=>by
 have:=h.on b g;rw [AI (by rintro rfl;rw [this]at hi;cases hi;exact hy rfl)];exact this⟩
theorem fI.not{b:List Nat}{H:aj}(h:fI b H){i:Nat}{y:bw}(hi:H[i]?=aa y)(hy:y≠.eH ae):i ∉ b:=fun d=>by
 have:=h.on i d;rw [hi]at this;cases this;exact hy rfl
theorem Bd(a b:aK)(s:a.xs=[]):∃ v,v=ag∧bg tab 54 [.a (a.row.map .f),.a (b.row.map .f)]=Eq (vb v):=by
 refine⟨ag,rfl,bg.eq (bI rfl rfl fun Q q=>?_)⟩;apply ai;simp [aK.row,s];apply an;apply ai;have d:∀(K:aj) (g:Tg),bu K (.f (sl g (aH [])))=aa 0:=fun K g=>by cases g<;>rfl
 simp [d];refine bS 0 (fun _ t K=>t.g 4=.c (.ptr 2 0 0)∧K[2]?=aa (.box [.f (.bool ag)] 0)) (by omega) (by decide) (by decide) (by simp) (by simp) ⟨by simp,rfl⟩ (fun j t H x=>by omega) ?_;rintro t K ⟨l,m⟩ - -;have u:cX K (.ptr 2 0 0) [.f (.bool ag)]=aa (K.set 2 (.box [.f (.bool ag)] 0)):=by simp [cX,m,over]
 apply ai;simp [l,u,-bh];refine aC (q _ _ ?_);simp [Km.results,bj,l,ak m]
end Go.Proofs.YtnaofdffomdmhaaGreat
namespace Go.Proofs.YtnaofdffomdmhaaGreat
open Go Km
def aI.lt(x y:aI):Prop:=x.fr<y.fr∨x.fr=y.fr∧(x.day<y.day∨x.day=y.day∧x.to<y.to)
theorem q8(x y:aI):eY x y<0↔x.lt y:=by
 unfold eY aI.lt;simp only [vL,dg]
 repeat' split
 all_goals omega
theorem aI.lt_trans{x y z:aI}(h:x.lt y)(b:y.lt z):x.lt z:=by unfold aI.lt at *;omega
theorem aI.apf{x y:aI}(h:¬ x.lt y)(d:x≠y):y.lt x:=by
 obtain⟨a,b,c⟩:=x;obtain⟨a',g,j⟩:=y;unfold aI.lt at *;simp only [ne_eq,aI.mk.injEq]at d;simp only at h ⊢;omega
theorem aI.D7{x:aI}:¬ x.lt x:=by unfold aI.lt;omega
def aI.le(x y:aI):Prop:=¬ y.lt x
theorem aI.le_trans{x y z:aI}(h:x.le y)(b:y.le z):x.le z:=by unfold aI.le aI.lt at *;omega
theorem aI.asm{x y:aI}(h:x.lt y):x.le y:=by unfold aI.le aI.lt at *;omega
@[simp] theorem aI.atx (x:aI):x.row.length=3:=rfl
theorem D5{b:Type}(A:List b)(x:b)(B:List b):(A++x::B)[A.length]?=aa x:=by simp
theorem Gt{b:Type}(A:List b)(x y:b)(B:List b):(A++x::B).set A.length y=A++y::B:=by simp
theorem lZ(l:List aI)(j:Nat)(x:aI):(aH l).set j x.row=aH (l.set j x):=by simp [aH,List.map_set]
theorem fA{l:List aI}{j:Nat}{x:aI}(h:l[j]?=aa x):(aH l)[j]?=aa x.row:=by simp [aH,h]
theorem zR{H:aj}{b ep F:Nat}{l:List aI}(hF:∀ x y:aI,Kf tab F [.a (x.row.map .f),.a (y.row.map .f)] (vi (eY x y)))(hl:l.length≤1000000)(hb:RB H b 3 ep (aH l)) :
  ∃ r H',Ev tab (.fn 341) [.c (.sl b 0 l.length 0 ep 3),vi 0,vi l.length,.c (.f (.fn F []))] H r H' ∧
   (r=.t []∧Fm b H H'∧∃ l':List aI,RB H' b 3 ep (aH l')∧l'.Perm l∧l'.Pairwise aI.le):=by
 refine cL rfl rfl fun Q hQ=>?_;apply ai;simp [aW (n:=(1:Int))];refine aF ?_;refine cI (fun n s=>∃(i:Nat) (t:T) (Y:aj) (rows:List aI),s=⟨t,[],Y⟩∧n=l.length+1-i∧1≤i∧(i≤l.length∨i=1)∧t.g 0=.c (.sl b 0 l.length 0 ep 3)∧t.g 1=vi 0∧t.g 2=vi l.length∧t.g 3=.c (.f (.fn F []))∧t.g 8=vi i ∧
  Fm b H Y∧RB Y b 3 ep (aH rows)∧rows.Perm l∧(rows.take i).Pairwise aI.le) l.length
  ⟨1,_,H,l,rfl,by omega,by omega,.inr rfl,by simp,by simp,by simp,by simp,by simp,Fm.refl H,hb,.refl _,?_⟩ ?_
 ·cases l with
  | nil=>simp| cons x r=>simp
 rintro n s ⟨i,t,Y,rows,rfl,rfl,f_,hi,g0,L,N,O,M,u,d,v,E⟩ ih;have a_:=v.length_eq;apply an;apply ai;simp [M,N];by_cases b9:i<l.length
 case neg=>
  refine aB (by simp [b9]) ?_;refine bJ (k':=[]) rfl ?_;refine cE (hQ _ _ _ rfl rfl ⟨rfl,u,rows,d,v,?_⟩);rwa [avj (by omega)]at E
 refine au (by simp [b9]) (aP ?_);apply an;refine aF ?_;apply ai;simp [M];refine aF ?_;obtain⟨S,x,C,q,hS⟩:∃ S x C,rows=S++x::C∧S.length=i:=by
  refine⟨rows.take i,rows[i]'(by omega),rows.drop (i+1),?_,by simp;omega⟩;rw [←auR (by omega),List.take_append_drop]
 have e_:S.Pairwise aI.le:=by
  rw [q,avF (by omega),avj (by omega)]at E;exact E
 refine cI (fun n s=>∃(t:T) (I:aj) (A B:List aI),s=⟨t,[],I⟩∧n=A.length∧S=A++B∧t.g 0=.c (.sl b 0 l.length 0 ep 3)∧t.g 1=vi 0∧t.g 2=vi l.length∧t.g 3=.c (.f (.fn F []))∧t.g 8=vi i∧t.g 9=vi A.length ∧
  Fm b H I∧RB I b 3 ep (aH (A++x::B++C))∧(∀ y ∈ B,x.le y)) i
  ⟨_,Y,S,[],rfl,hS.symm,by simp,by simp [g0],by simp [L],by simp [N],by simp [O],by simp [M],by simp [hS],u,by rw [q]at d;simpa using d,by simp⟩ ?_
 rintro n s ⟨t,I,A,B,rfl,rfl,K,g0,L,N,O,M,g9,u,d,hB⟩ f8;have stop:(A++x::B).Pairwise aI.le→∀ t:T,t.g 0=.c (.sl b 0 l.length 0 ep 3)→t.g 1=vi 0→t.g 2=vi l.length→t.g 3=.c (.f (.fn F []))→t.g 8=vi i→∀ I,Fm b H I→RB I b 3 ep (aH (A++x::B++C)) →
   WP tab 341 ab [.inBlock 1,.code nM,.inLoop qa,.inBlock 0] ⟨t,[],I⟩ Q:=by
  intro hp t g0 L N O M I u d;refine aA (aq (.inl rfl) ?_);simp [M,aW (n:=(i:Int)+1)];have g_:(A++x::B).length=i+1:=by rw [←hS,K];simp;omega
  refine ih (l.length+1-(i+1)) _ (by omega) ⟨i+1,_,I,A++x::B++C,rfl,rfl,by omega,.inl (by omega),by simp [g0],by simp [L],by simp [N],by simp [O],by simp,u,d,?_,?_⟩
  ·refine List.Perm.trans ?_ v;rw [q,K];simp only [List.append_assoc,awc];exact List.Perm.append_left A (List.perm_middle.symm)
  ·rw [avF (by omega),avj (by omega)];exact hp
 have h_:l.length=A.length+1+B.length+C.length:=by rw [←a_,q,K];simp;omega
 have b_:(A++B).Pairwise aI.le:=K▸e_;rw [av3]at b_;obtain⟨p1,p2,p3⟩:=b_;rcases List.eq_nil_or_concat A with rfl | ⟨J,y,rfl⟩
 ·
  apply an;apply ai;simp [g9,L];refine aB (by simp) ?_;refine bJ (k':=[.inBlock 1,.code nM,.inLoop qa,.inBlock 0]) rfl ?_;refine stop ?_ _ (by simp [g0]) (by simp [L]) (by simp [N]) (by simp [O]) (by simp [M]) _ u d;rw [awm,avZ];exact⟨hB,p2⟩
 ·obtain⟨m,X⟩:=aJ (J.length);have c_:=d;have e0:J++[y]++x::B++C=J++y::x ::(B++C):=by simp
  rw [List.concat_eq_append]at *;rw [e0]at d;have gx:(J++y::x ::(B++C))[m+1]?=aa x:=by rw [X,IS (by omega)];simp
  have gy:(J++y::x ::(B++C))[m]?=aa y:=by rw [X];exact D5 _ _ _
  have U:t.g 9=vi ((m:Int)+1):=by rw [g9,X];simp
  have hA:(J++[y]).length=m+1:=by rw [X];simp
  have i1:=d.idx (n:=l.length) (c:=0) (k:=.i64) (o:=0) (i:=(m:Int)+1) (by omega) (by omega);have i0:=d.idx (n:=l.length) (c:=0) (k:=.i64) (o:=0) (i:=(m:Int)) (by omega) (by omega);have t1:((m:Int)+1).toNat=m+1:=by omega
  rw [t1,avP]at i1;rw [avr,avP]at i0;have l1:=d.ldr (bz _) (fA gx);have l0:=d.ldr (bz _) (fA gy);have he:=(hF x y).ev I;apply an;apply ai;simp [U,g0,L,O,show(0:Int)<(m:Int)+1 by omega,i1,i0,l1,l0,he,-aw,aW (n:=(m:Int))];by_cases hc:eY x y<0
  case neg=>
   refine aB (by simp [hc]) ?_;refine bJ (k':=[.inBlock 1,.code nM,.inLoop qa,.inBlock 0]) rfl ?_;refine stop ?_ _ (by simp [g0]) (by simp [L]) (by simp [N]) (by simp [O]) (by simp [M]) _ (u.trans (Fm.push _ _)) (c_.push _);have d9:y.le x:=fun h=>hc ((q8 _ _).2 h);rw [av3];refine⟨p1,avZ.2 ⟨hB,p2⟩,fun a ha z W=>?_⟩;rcases avn.1 W with rfl | W
   ·rcases avq.1 ha with h | h
    ·exact aI.le_trans ((av3.1 p1).2.2 a h y (by simp)) d9
    ·obtain rfl:=avh.1 h;exact d9
   ·exact p3 a ha z W
  have f7:x.lt y:=(q8 _ _).1 hc;have g:=d.push (aki tab F [.a (x.row.map .f),.a (y.row.map .f)] I);obtain⟨HJ,Z⟩:=aJ (I++aki tab F [.a (x.row.map .f),.a (y.row.map .f)] I);rw [←Z]at g ⊢;have a8:Fm b H HJ:=by rw [Z];exact u.trans (Fm.push _ _)
  have lx:m+1<(aH (J++y::x ::(B++C))).length:=by simp;omega
  have i1:=g.idx (n:=l.length) (c:=0) (k:=.i64) (o:=0) (i:=(m:Int)+1) (by omega) (by omega);have i0:=g.idx (n:=l.length) (c:=0) (k:=.i64) (o:=0) (i:=(m:Int)) (by omega) (by omega);rw [t1,avP]at i1;rw [avr,avP]at i0;have l1:=g.ldr (bz _) (fA gx);have l0:=g.ldr (bz _) (fA gy);obtain⟨H3,s1,r1,f1,-⟩:=g.str (bz _) lx (row:=y.row) rfl;rw [lZ]at r1;have d_:=r1.idx (n:=l.length) (c:=0) (k:=.i64) (o:=0) (i:=(m:Int)) (by omega) (by omega);rw [avr,avP]at d_;obtain⟨H4,s2,r2,f2,-⟩:=r1.str (bz _) (j:=m) (by simp;omega) (row:=x.row) rfl;rw [lZ]at r2;have e4:((J++y::x ::(B++C)).set (m+1) y).set m x=J++x ::(y::B)++C:=by
   rw [X,List.set_append_right _ _ (by omega)];simp
  rw [e4]at r2;refine au (by simp [hc]) (aP ?_);apply an;refine aF ?_;refine aq (.inl rfl) ?_;simp [U,g0,i1,i0,d_,l1,l0,s1,s2,-aw,-bh,aW (n:=(m:Int))];refine aA ?_;refine aq (.inl rfl) ?_;simp [U,aW (n:=(m:Int))];refine f8 J.length _ (by simp) ⟨_,H4,J,y::B,rfl,rfl,by rw [K];simp,by simp [g0],by simp [L],by simp [N],by simp [O],by simp [M],by simp [X],a8.trans (f1.trans f2),r2,fun z W=>?_⟩;rcases avn.1 W with rfl | W
  ·exact aI.asm f7
  ·exact hB z W
def apd(n:Nat):Int:=if n=0 then 0 else if n=1 then 1 else if n≤3 then 2 else if n≤7 then 3 else 4
theorem akr:(List.range 13).map (fun n:Nat=>RK 280 [.c (.f (.int .u64 n))] (vi (apd n)))=(List.range 13).map fun n:Nat=>(vi (apd n)=vi (apd n)):=by kernel_rfl
theorem ady{n:Nat}(h:n≤12):∃ k:Int,bg tab 280 [.c (.f (.int .u64 n))]=Eq (vi k):=
 ⟨_,pW akr (av4.2 (show n<13 by omega))⟩
theorem apC{H:aj}{b ep F:Nat}{l:List aI}{k:Int}(q:∀ x y:aI,Kf tab F [.a (x.row.map .f),.a (y.row.map .f)] (vi (eY x y)))(A:l.length≤12)(v:RB H b 3 ep (aH l)) :
  ∃ r H',Ev tab (.fn 279) [.c (.sl b 0 l.length 0 ep 3),vi 0,vi l.length,vi k,.c (.f (.fn F []))] H r H' ∧
   (r=.t []∧Fm b H H'∧∃ l':List aI,RB H' b 3 ep (aH l')∧l'.Perm l∧l'.Pairwise aI.le):=by
 obtain⟨r,H',z,rfl,d,l',g,j,m⟩:=zR q (by omega) v;refine cL rfl rfl fun Q u=>?_;apply ai;simp;apply ai;simp;refine aF ?_;refine cI (fun _ s=>s=⟨_,[],H⟩) 0 rfl ?_;rintro _ s rfl -;refine aF ?_;apply ai;simp [aW (n:=(l.length:Int))];apply an;apply ai;simp;refine au (by simp;omega) ?_;apply ai;simp [z.eq];exact aC (u _ _ _ rfl rfl ⟨rfl,d,l',g,j,m⟩)
theorem adl{H:aj}{b ep F:Nat}{l:List aI}(u:∀ x y:aI,Kf tab F [.a (x.row.map .f),.a (y.row.map .f)] (vi (eY x y)))(g:l.length≤12)(d:RB H b 3 ep (aH l)) :
  ∃ r H',Ev tab (.fn 203) [.c (.sl b 0 l.length 0 ep 3),.c (.f (.fn F []))] H r H' ∧
   (r=.t []∧Fm b H H'∧∃ l':List aI,RB H' b 3 ep (aH l')∧l'.Perm l∧l'.Pairwise aI.le):=by
 obtain⟨k,A⟩:=ady g;obtain⟨r,H',z,rfl,j,l',m,q,s⟩:=apC (k:=k) u g d;refine cL rfl rfl fun Q v=>?_;apply ai;simp [d.len];refine aq (.inl rfl) ?_;have B:IntKind.wrap .u64 (l.length:Int)=l.length:=by
  show(l.length:Int) % 18446744073709551616=l.length;omega
 simp [B,A,z.eq];exact cE (v _ _ _ rfl rfl ⟨rfl,j,l',m,q,s⟩)
theorem wX{H:aj}{F:Nat}:∃ r H',Ev tab (.fn 341) [.c (.f .az),vi 0,vi 0,.c (.f (.fn F []))] H r H'∧(r=.t []∧H'=H):=by
 refine cL rfl rfl fun Q b=>?_;apply ai;simp [aW (n:=(1:Int))];refine aF ?_;refine cI (fun _ s=>s=⟨_,[],H⟩) 0 rfl ?_;rintro _ s rfl -;apply an;apply ai;simp;refine aB (by simp) ?_;refine bJ (k':=[]) rfl ?_;exact cE (b _ _ _ rfl rfl ⟨rfl,rfl⟩)
theorem akH{H:aj}{F:Nat}{k:Int}:∃ r H',Ev tab (.fn 279) [.c (.f .az),vi 0,vi 0,vi k,.c (.f (.fn F []))] H r H'∧(r=.t []∧H'=H):=by
 obtain⟨r,H',d,rfl,rfl⟩:=wX (H:=H) (F:=F);refine cL rfl rfl fun Q b=>?_;apply ai;simp;apply ai;simp;refine aF ?_;refine cI (fun _ s=>s=⟨_,[],_⟩) 0 rfl ?_;rintro _ s rfl -;refine aF ?_;apply ai;simp [aW (n:=(0:Int))];apply an;apply ai;simp;refine au (by simp) ?_;apply ai;simp [d.eq];exact aC (b _ _ _ rfl rfl ⟨rfl,rfl⟩)
theorem QG{H:aj}{F:Nat}:∃ r H',Ev tab (.fn 203) [.c (.f .az),.c (.f (.fn F []))] H r H'∧(r=.t []∧H'=H):=by
 obtain⟨k,b⟩:=ady (n:=0) (by omega);obtain⟨r,H',g,rfl,rfl⟩:=akH (H:=H) (F:=F) (k:=k);refine cL rfl rfl fun Q d=>?_;apply ai;simp [bu];refine aq (.inl rfl) ?_;have j:IntKind.wrap .u64 0=0:=rfl;simp at b;simp [j,b,g.eq];exact cE (d _ _ _ rfl rfl ⟨rfl,rfl⟩)
theorem adw{x y:aI}(h:x.le y)(b:x≠y):x.lt y:=aI.apf h (Ne.symm b)
def eqB(x y:aI):Bool:=x.day == y.day&&(x.fr == y.fr&&x.to == y.to)
theorem tQ{x y:aI}:eqB x y=ae↔x=y:=by
 obtain⟨a,b,c⟩:=x;obtain⟨a',d,g⟩:=y;simp [eqB]
theorem F_{l:List aI}(g:l.Pairwise aI.le){i j:Nat}(b:i<j)(d:j<l.length):(l[i]'(by omega)).le l[j]:=avV.1 g i j (by omega) d b
theorem DF{H:aj}{b ep:Nat}{l:List aI}(hl:l.length≤1000000)(hs:l.Pairwise aI.le)(B:RB H b 3 ep (aH l)) :
  ∃ r H',Ev tab (.fn 205) [.c (.sl b 0 l.length 0 ep 3)] H r H' ∧
   (∃ l' R:List aI,r=.c (.sl b 0 l'.length 0 ep 3)∧Fm b H H'∧RB H' b 3 ep (aH (l'++R))∧l'.length≤l.length∧l'.Pairwise aI.lt∧∀ x,x ∈ l'↔x ∈ l):=by
 refine cL rfl rfl fun Q hQ=>?_;apply ai;simp;apply an;apply ai;simp [B.len];by_cases h2:l.length<2
 ·refine au (by simp;omega) ?_;apply ai;simp;refine aC (hQ _ _ _ rfl (km (by simp)) ⟨l,[],rfl,Fm.refl _,by simpa using B,aft _,?_,fun _=>Iff.rfl⟩)
  match l,h2 with
  | [],_=>exact List.Pairwise.nil| [x],_=>exact awE _ _| x::y::r,h=>simp at h;omega
 refine aB (by simp;omega) (aP ?_);apply an;apply ai;simp;refine aF ?_;refine cI (fun n s=>∃(k:Nat) (t:T),s=⟨t,[],H⟩∧n=l.length-k∧1≤k∧k≤l.length∧t.g 0=.c (.sl b 0 l.length 0 ep 3)∧t.g 3=vi k∧(l.take k).Pairwise aI.lt) (l.length-1)
  ⟨1,_,rfl,rfl,by omega,by omega,by simp,by simp,?_⟩ ?_
 ·cases l with
  | nil=>simp| cons x r=>simp
 rintro n s ⟨k,t,rfl,rfl,i6,i7,g0,A,hp⟩ ih;apply an;apply ai;simp [g0,A,B.len];by_cases u:k<l.length
 case neg=>
  refine aB (by simp [u]) ?_;refine bJ (k':=[.code nL]) rfl ?_;apply ai;simp [g0];refine aC (hQ _ _ _ rfl (km (by simp)) ⟨l,[],rfl,Fm.refl _,by simpa using B,aft _,?_,fun _=>Iff.rfl⟩);rwa [avj (by omega)]at hp
 refine au (by simp [u]) (aP ?_);obtain⟨m,rfl⟩:∃ m,k=m+1:=⟨k-1,by omega⟩
 have ix:∀ {H:aj} {rows:List (List FC)} (B:RB H b 3 ep rows) (o n i:Nat) (hi:i<n),bH H 3 ab (.c (.sl b o n 0 ep 3)) (vi i)=aa (.c (.ptr b (o+i*3) ep)):=by
  intro H rows B o n i hi;have:=B.idx (n:=n) (c:=0) (k:=.i64) (o:=o) (i:=(i:Int)) (by omega) (by omega);rwa [avr]at this
 have i1:=ix B 0 l.length (m+1) u;have i0:=ix B 0 l.length m (by omega);have l1:=B.ldr (bz _) (fk (l:=l) (j:=m+1) u);have l0:=B.ldr (bz _) (fk (l:=l) (j:=m) (by omega));rw [avP]at i1 i0;have c1:((m+1:Nat):Int)-1=m:=by omega
 rw [show((m+1:Nat):Int)=(m:Int)+1 by omega]at i1;have c_:l.take (m+1+1)=l.take (m+1)++[l[m+1]]:=by rw [avK,By u];rfl
 apply an;refine aF ?_;apply ai;simp [g0,A,i1,i0,l1,l0,-aw,aW (n:=(m:Int)),aI.row];cases hc:(l[m+1].day == l[m].day&&(l[m+1].fr == l[m].fr&&l[m+1].to == l[m].to))
 ·
  refine aB (by simp) (aP (aA ?_));refine aq (.inl rfl) ?_;simp [A,aW (n:=(m:Int)+1+1)];refine ih (l.length-(m+2)) _ (by omega) ⟨m+2,_,rfl,rfl,by omega,by omega,by simp [g0],by simp;omega,?_⟩;show(l.take (m+1+1)).Pairwise aI.lt;have L:l[m]≠l[m+1]:=fun e=>by
   have:eqB l[m+1] l[m]=ae:=tQ.2 e.symm;rw [eqB,hc]at this;cases this
  rw [c_,av3];refine⟨hp,awE _ _,fun y hy z hz=>?_⟩;obtain rfl:=avh.1 hz;obtain⟨i,hi,rfl⟩:=avQ hy;have i5:i<m+1:=by simp at hi;omega
  rw [List.getElem_take];by_cases e:i=m
  ·subst e;exact adw (F_ hs (by omega) u) L
  ·exact aI.lt_trans (y:=l[m]) (by
    have h1:=avV.1 hp i m (by simp;omega) (by simp;omega) (by omega);simpa using h1) (adw (F_ hs (by omega) u) L)
 ·
  have f7:l[m+1]=l[m]:=tQ.1 hc;have c2:((m+1:Nat):Int)=(m:Int)+1:=by omega
  have M:=B.wi (k:=m+1) u;rw [c2]at M;refine au (by simp) ?_;apply ai;simp [g0,A,M];apply an;apply ai;simp;refine aF ?_;refine cI (fun n s=>∃(i:Nat) (t:T) (E:aj) (P R:List aI),s=⟨t,[],E⟩∧n=l.length-(m+2+i)∧m+2+i≤l.length∧t.g 0=.c (.sl b 0 l.length 0 ep 3)∧t.g 3=vi P.length∧t.g 4=.c (.sl b ((m+1)*3) (l.length-(m+1)) 0 ep 3)∧t.g 5=vi ((i:Int)+1) ∧
   Fm b H E∧RB E b 3 ep (aH (P++R))∧(P++R).length=l.length∧1≤P.length∧P.length≤m+1+i∧(∀ q,m+1+i≤q→(P++R)[q]?=l[q]?)∧P.Pairwise aI.lt∧∀ x,x ∈ P↔x ∈ l.take (m+2+i)) (l.length-(m+2))
   ⟨0,_,H,l.take (m+1),l.drop (m+1),rfl,rfl,by omega,by simp [g0],by simp [A];omega,by simp,by simp,Fm.refl _,by simpa using B,by simp,by simp;omega,by simp;omega,by simp,hp,fun x=>?_⟩ ?_
  ·show x ∈ l.take (m+1)↔x ∈ l.take (m+1+1);rw [c_,avq,avh];refine⟨.inl,fun h=>h.elim id fun e=>?_⟩;rw [e,f7];exact List.mem_take_iff_getElem.2 ⟨m,by omega,rfl⟩
  rintro n s ⟨i,t,E,P,R,rfl,rfl,hi,g0,A,O,S,F,d,v,U,d9,hq,J,g⟩ i4;have W:=d.len (o:=(m+1)*3) (l:=l.length-(m+1)) (c:=0);apply an;apply ai;simp [O,S,W];by_cases I:m+2+i<l.length
  case neg=>
   have a_:m+2+i=l.length:=by omega
   refine aB (by simp;omega) ?_;refine bJ (k':=[.code rU,.inBlock 1,.code rV,.inLoop rT,.inBlock 0,.code nL]) rfl ?_;have a8:P.length<l.length:=by omega
   obtain⟨H3,e_,Y,f8⟩:=d.clr (bz _) (zs:=[fi 0,fi 0,fi 0]) (by simpa using v) a8 rfl;have M:=d.wi a8;apply ai;simp [g0,A,M,e_];have h_:=Y.aey (n:=l.length) (k:=P.length) (by omega) (by omega);apply ai;simp [g0,A,h_];have e3:(aH (P++R)).take P.length++List.replicate (l.length-P.length) [fi 0,fi 0,fi 0]=aH (P++List.replicate (l.length-P.length) ⟨0,0,0⟩):=by
    simp [aH,aI.row]
   rw [e3]at Y;refine aC (hQ _ _ _ rfl (km (by simp)) ⟨P,_,rfl,F.trans f8,Y,by omega,J,fun x=>?_⟩);rw [g,a_,avH]
  have ha:(P++R)[m+2+i]?=aa l[m+2+i]:=by rw [hq _ (by omega),By I]
  have d_:(P++R)[m+1+i]?=aa (l[m+1+i]'(by omega)):=by rw [hq _ (by omega),By]
  have j1:=ix d ((m+1)*3) (l.length-(m+1)) (i+1) (by omega);have j0:=ix d ((m+1)*3) (l.length-(m+1)) i (by omega);rw [show(m+1)*3+(i+1)*3=(m+2+i)*3 by omega,show((i+1:Nat):Int)=(i:Int)+1 by omega]at j1;rw [show(m+1)*3+i*3=(m+1+i)*3 by omega]at j0;have d1:=d.ldr (bz _) (fA ha);have d0:=d.ldr (bz _) (fA d_);refine au (by simp;omega) (aP ?_);apply an;refine aF ?_;apply ai;simp [O,S,j1,j0,d1,d0,-aw,aW (n:=(i:Int)),aI.row];have N:l.take (m+2+(i+1))=l.take (m+2+i)++[l[m+2+i]]:=by
   rw [show m+2+(i+1)=m+2+i+1 by omega,avK,By I];rfl
  have next:∀(t:T) (E:aj) (P R:List aI),t.g 0=.c (.sl b 0 l.length 0 ep 3)→t.g 3=vi P.length→t.g 4=.c (.sl b ((m+1)*3) (l.length-(m+1)) 0 ep 3)→t.g 5=vi ((i:Int)+1) →
    Fm b H E→RB E b 3 ep (aH (P++R))→(P++R).length=l.length→1≤P.length→P.length≤m+2+i→(∀ q,m+2+i≤q→(P++R)[q]?=l[q]?)→P.Pairwise aI.lt→(∀ x,x ∈ P↔x ∈ l.take (m+2+(i+1))) →
    WP tab 205 ab [.inBlock 3,.code xK,.inLoop xJ,.inBlock 2,.code rU,.inBlock 1,.code rV,.inLoop rT,.inBlock 0,.code nL] ⟨t,[],E⟩ Q:=by
   intro t E P R g0 A O S F d v U d9 hq J g;refine aA (aq (.inl rfl) ?_);simp [S,aW (n:=(i:Int)+1+1)];exact i4 (l.length-(m+2+(i+1))) _ (by omega) ⟨i+1,_,E,P,R,rfl,rfl,by omega,by simp [g0],by simp [A],by simp [O],by simp,F,d,v,U,by omega,fun q h=>hq q (by omega),J,g⟩
  have f_:(l[m+1+i]'(by omega)).le l[m+2+i]:=F_ hs (by omega) I;cases K:(l[m+2+i].day == l[m+1+i].day&&(l[m+2+i].fr == l[m+1+i].fr&&l[m+2+i].to == l[m+1+i].to))
  ·have L:l[m+1+i]≠l[m+2+i]:=fun e=>by
    have:eqB l[m+2+i] l[m+1+i]=ae:=tQ.2 e.symm;rw [eqB,K]at this;cases this
   have b_:=adw f_ L;have kx:=ix d 0 l.length P.length (by omega);rw [avP]at kx;obtain⟨H3,s3,r3,f3,-⟩:=d.str (bz _) (j:=P.length) (by rw [jr,v];omega) (row:=(l[m+2+i]).row) rfl;rw [lZ]at r3;obtain⟨x0,Z,rfl⟩:∃ x0 Z,R=x0::Z:=by
    cases R with
    | nil=>simp at v;omega| cons x0 Z=>exact⟨_,_,rfl⟩
   rw [Gt]at r3;have X:¬l[m+2+i].day=l[m+1+i].day∨¬l[m+2+i].fr=l[m+1+i].fr∨¬l[m+2+i].to=l[m+1+i].to:=by
    simp at K;omega
   refine au (by simpa using X) ?_;apply ai;simp only [aI.row,avl,avs]at s3;simp [g0,A,O,S,j1,d1,kx,s3,-aw,-bh,aI.row];refine aq (.inl rfl) ?_;simp [A,aW (n:=(P.length:Int)+1)];have e5:P++l[m+2+i]::Z=(P++[l[m+2+i]])++Z:=by simp
   rw [e5]at r3;refine next _ H3 (P++[l[m+2+i]]) Z (by simp [g0]) (by simp) (by simp [O]) (by simp [S]) (F.trans f3) r3 (by simpa using v) (by simp) (by simp;omega) (fun q h=>?_) ?_ fun x=>?_
   ·rw [←e5,←Gt P x0,AI (by omega)];exact hq q (by omega)
   ·rw [av3];refine⟨J,awE _ _,fun y hy z hz=>?_⟩;obtain rfl:=avh.1 hz;obtain⟨q,g_,rfl⟩:=avQ ((g y).1 hy);have i8:q<m+2+i:=by simp at g_;omega
    rw [List.getElem_take];by_cases e:q=m+1+i
    ·subst e;exact b_
    ·have h1:=F_ hs (i:=q) (j:=m+1+i) (by omega) (by omega);unfold aI.le aI.lt at *;omega
   ·rw [N,avq,avq,g]
  ·have b9:l[m+2+i]=l[m+1+i]:=tQ.1 K;have X:l[m+2+i].day=l[m+1+i].day∧l[m+2+i].fr=l[m+1+i].fr∧l[m+2+i].to=l[m+1+i].to:=by simpa using K
   refine aB (by simpa using X) (aP ?_);refine next _ E P R (by simp [g0]) (by simp [A]) (by simp [O]) (by simp [S]) F d v U (by omega) (fun q h=>hq q (by omega)) J fun x=>?_
   rw [N,avq,avh,g];refine⟨.inl,fun h=>h.elim id fun e=>?_⟩;rw [e,b9];exact List.mem_take_iff_getElem.2 ⟨m+1+i,by omega,rfl⟩
def LI(H:aj)(c:C)(o:List aI):Prop:=(o=[]∧c=.f .az)∨(o≠[]∧∃ b ep,c=.sl b 0 o.length 0 ep 3∧RB H b 3 ep (aH o))
theorem LI.push{H:aj}{c:C}{o:List aI}(h:LI H c o)(J:aj):LI (H++J) c o:=by
 rcases h with h | ⟨h,b,ep,h1,h2⟩
 ·exact .inl h
 ·exact .inr ⟨h,b,ep,h1,h2.push J⟩
theorem wY(o:List aI)(x:aI):(aH (o++[x])).flatten=(aH o).flatten++x.row:=by simp [aH]
theorem LI.app{H:aj}{c:C}{o:List aI}(h:LI H c o)(v:o.length≤1000000){b1 fl:Nat}{x:aI}(m:H[b1]?=aa (.box (x.row.map .f) fl)) :
  ∃ q H',cH H 3 24 (.c c) (.c (.sl b1 0 1 1 0 3))=aa (.c q,H')∧LI H' q (o++[x])∧H.length≤H'.length∧∀(i:Nat) y,H[i]?=aa y→apo y=ae→H'[i]?=aa y:=by
 have g:cU H 3 (.c (.sl b1 0 1 1 0 3))=aa (1,x.row.map .f):=rX m (by rfl);rcases h with⟨rfl,rfl⟩ | ⟨u,b,ep,rfl,h2⟩
 ·have d:bV 1 24=ae:=by simp [bV]
  refine⟨.sl H.length 0 1 0 0 3,H++[.cf 3 (x.row.map .f) 0 0 .loc],?_,.inr ⟨by simp,H.length,0,by simp,?_⟩,by simp,fun i y hy _=>by rw [AT (ak hy)];exact hy⟩
  ·simp [cH,g,d]
  ·unfold RB;simp [aH]
 ·have d:bV (o.length+1) 24=ae:=by simp [bV];omega
  have j:o.length*3=(aH o).flatten.length:=by rw [bY (bz o),jr]
  unfold RB at h2;refine⟨.sl b 0 (o.length+1) 0 (ep+1) 3,H.set b (.cf 3 ((aH o).flatten.map .f++x.row.map .f) 0 (ep+1) .loc),?_,.inr ⟨by simp,b,ep+1,by simp,?_⟩,by simp,fun i y hy s=>?_⟩
  ·have l:(3:Nat)≠0:=by decide
   simp only [cH,g,l,if_false,h2,and_self,if_true];simp only [Nat.add_one_ne_zero,if_false];rw [bf ⟨trivial,by rw [avi];exact j,by omega⟩,d];simp
  ·unfold RB;rw [IN (ak h2),wY,awb]
  ·have:b≠i:=by rintro rfl;rw [h2]at hy;cases hy;cases s
   rw [AI this];exact hy
theorem arE{H:aj}{b ep n:Nat}{l R:List aI}(h:RB H b 3 ep (aH (l++R))):ey (n+1) H (.sl b 0 l.length 0 ep 3)=aa (sl .fs (aH l)):=by
 unfold RB at h;have d:l.length*3=(aH l).flatten.length:=by rw [bY (bz l),jr]
 have e:(aH (l++R)).flatten=(aH l).flatten++(aH R).flatten:=by simp [aH]
 simp only [mD,h];rw [bf ⟨trivial,trivial,by rw [avi,e,api];omega⟩,e,awj,awb,avF (by rw [avi];omega),avj (by rw [avi];omega)];rw [sI];cases l with
 | nil=>simp [sl,aH,Tg.fc]| cons x l=>simp [sl,aH]
theorem Bx{H:aj}:∃ r H',Ev tab (.fn 205) [.c (.f .az)] H r H'∧(r=.c (.f .az)∧H'=H):=by
 refine cL rfl rfl fun Q b=>?_;apply ai;simp;apply an;apply ai;simp [bu];refine au (by simp) ?_;apply ai;simp;exact aC (b _ _ _ rfl (km (by simp)) ⟨rfl,rfl⟩)
theorem CB(b g j:FC)(len mi d:Int)(m:ky len)(q:ky mi)(s:ky d) :
  bg tab 198 [.a [.f b,.f (fi len),.f g],.a [.f j,.f (fi mi)],vi d]=Eq (.a ((cM len mi d).row.map .f)):=bg.eq (Kf.Ey (by
 unfold ky at *;refine cr rfl rfl fun H Q l=>?_;apply ai;simp;apply ai;simp [aW (n:=d*1440),aW (n:=d*1440+mi)];apply ai;simp [aW (n:=d*1440+mi+len)];refine aC (l _ _ ?_);simp [cM,aI.row]))
theorem Rg(x y:aI):Kf tab 204 [.a (x.row.map .f),.a (y.row.map .f)] (vi (eY x y)):=by
 refine cr rfl rfl fun H Q d=>?_;have b:=yL .fs [dg x.fr y.fr,dg x.day y.day,dg x.to y.to] (by simp);simp [ints,sl,Tg.fc]at b;apply ai;simp [aI.row];apply ai;simp [gm,deep,mD,qW,b];refine aC (d _ _ ?_);simp [eY]
end Go.Proofs.YtnaofdffomdmhaaGreat
namespace Go.Proofs.YtnaofdffomdmhaaGreat
open Go Km
def Qu(q mi:Int):Int:=(q*10080-mi+1440-1) / 1440
def pL(n p d:Int):Bool:=decide (d % n=p)
structure gY(s:aK)(n p mi:Int):Prop where
 cs:s.cs=[⟨.fs,[td n p],mi⟩]
 sm:Az n p
 m0:0≤mi
 m1:mi≤1180
 l0:1≤s.len
 l1:s.len≤400
 xs:s.xs=[]
theorem Ca{m r t z n p mi le:Int}(h:Az n p)(g:0≤mi)(j:mi≤1180)(b:1≤le)(d:le≤400):gY (tn m r t z n p mi le).st n p mi:=⟨rfl,h,g,j,b,d,rfl⟩
def Dd(s:aK)(n p mi q:Int)(x:aI):Prop:=∃ d,x=cM s.len mi d∧max (Qu q mi) 0≤d∧d<Qu q mi+7∧pL n p d=ae
theorem PR(s:aK){n p mi:Int}(hs:gY s n p mi)(q:Int)(j7:-1≤q)(j8:q≤100) :
  ∃ g L,(L.Pairwise aI.lt∧∀ x,x ∈ L↔Dd s n p mi q x)∧L.length≤10∧bg tab 128 [.a (s.row.map .f),vi q]=Eq (.c (.f (sl g (aH L)))):=by
 have key:∃ r,(∃ g L,(L.Pairwise aI.lt∧∀ x,x ∈ L↔Dd s n p mi q x)∧L.length≤10∧r=.c (.f (sl g (aH L))))∧bg tab 128 [.a (s.row.map .f),vi q] r:=by
  refine dY rfl rfl fun Q hQ=>?_;have hF:∀ x y:aI,Kf tab 204 [.a (x.row.map .f),.a (y.row.map .f)] (vi (eY x y)):=Rg;obtain⟨e,hsm,m0,m1,i7,i8,f7⟩:=hs;have e_:s.xs.length=0:=by rw [f7];rfl
  have j5:=hsm.1;have f8:∀(t:T) (H:aj) (c:C) (o:List aI),t.g 5=.c c→LI H c o→o.length≤10→(∀ x,x ∈ o↔Dd s n p mi q x)→WP tab 128 ab [.code xz] ⟨t,[],H⟩ Q:=by
   intro t H c o B z N v;rcases z with⟨rfl,rfl⟩ | ⟨j6,b,ep,rfl,f_⟩
   ·obtain⟨r1,H1,e1,rfl,rfl⟩:=QG (H:=H) (F:=204);obtain⟨r2,H2,e2,rfl,rfl⟩:=Bx (H:=H1);apply ai;simp [B,e1.eq];apply ai;simp [B,e2.eq];refine aC (hQ _ _ _ ⟨.nil,[],⟨by simp,v⟩,by simp,rfl⟩ ?_);simp [sl,aH,Tg.fc]
   ·obtain⟨r1,H1,e1,rfl,f1,l1,q1,q2,q3⟩:=adl hF (by omega) f_;have ll:=q2.length_eq;rw [←ll]at e1 B;obtain⟨r2,H2,e2,l2,R2,rfl,f2,w1,w2,w3,w4⟩:=DF (by omega) q3 q1;apply ai;simp [B,e1.eq];apply ai;simp [B,e2.eq];refine aC (hQ _ _ _ ⟨.fs,l2,⟨w3,fun x=>by rw [w4,q2.mem_iff,v]⟩,by omega,rfl⟩ ?_);have:=arE (n:=63) w1;simp [deep,this]
  have Z:∀(t:T) (H:aj) (c:C) (o:List aI),t.g 1=vi q→t.g 2=.c (.ptr 0 0 0)→t.g 5=.c c→H[0]?=aa (.box [C.f (sl s.cg (aM s.cs)),C.f (fi s.len),C.f (sl s.xg (aH s.xs))] 0)→LI H c o→o.length≤7→(∀ x,x ∈ o↔Dd s n p mi q x) →
    WP tab 128 ab [.code nJ] ⟨t,[],H⟩ Q:=by
   intro t H c o S O B h0 z N v;apply an;apply ai;simp [O,h0];have j4:∀ K:aj,bu K (.f (sl s.xg (aH s.xs)))=aa 0:=fun K=>by rw [f7];cases s.xg<;>rfl
   rw [e_];refine bS 0 (fun j t H'=>LI H' c o∧t.g 5=.c c) (by omega) (by decide) (by decide) (by simp) (by simp) ⟨z,by simp [B]⟩ (fun j t H hj=>by omega) ?_;rintro t H' ⟨z,B⟩ - -;exact f8 _ H' c o (by simp [B]) z (by omega) v
  apply ai;simp [aK.row];apply ai;simp;apply an;apply ai;simp;have i_:s.cs.length≤1:=by rw [e];simp
  refine bS s.cs.length (fun j t H'=>t.g 1=vi q∧t.g 2=.c (.ptr 0 0 0)∧t.g 14=.c (.f (sl s.cg (aM s.cs)))∧H'[0]?=aa (.box [C.f (sl s.cg (aM s.cs)),C.f (fi s.len),C.f (sl s.xg (aH s.xs))] 0)∧∃ c o,t.g 5=.c c∧LI H' c o∧o.length≤7∧(j=0→o=[]∧c=.f .az)∧(j=1→∀ x,x ∈ o↔Dd s n p mi q x)) (by omega) (by decide) (by decide) (by simp) (by simp)
   ⟨by simp,by simp,by simp,by simp,.f .az,[],by simp,.inl ⟨rfl,rfl⟩,by simp,by simp,by omega⟩ ?_ ?_
  ·rintro j t H' hj ⟨S,O,A,h0,c,o,B,z,N,d_,-⟩ ha hb next
   have i5:j=0:=by omega
   subst i5;obtain⟨rfl,rfl⟩:=d_ rfl;simp at ha;have Y:=fun H:aj=>bL (H:=H) (cK s.cs) (dI (l:=s.cs) (j:=0) (by rw [e];simp));have a8:=fun H:aj=>bl (H:=H) (g:=s.cg) (rows:=aM s.cs) (sz:=2) (k:=.i64) (i:=0) (by omega) (by rw [e];simp);have h_:s.cs[0]'(by rw [e];simp)=⟨.fs,[td n p],mi⟩:=by simp [e]
   rw [h_]at Y;simp [cJ.row]at Y a8;have i4:=m6 (q*10080-mi+1440-1) 1440 (by omega) (by omega) (by omega);obtain⟨fst,X⟩:=aJ (Qu q mi);have a_:(q*10080-mi+1440-1) / 1440=fst:=by rw [X];rfl
   have b_:nm [td n p]=ae:=Av hsm;have c_:∀ d,0≤d→d≤1000→bg tab 170 [.a [.f (sl .fs (aN [td n p]))],vi d]=Eq (vb (pL n p d)):=fun d h0 I=>by
    have:=Gd .fs [td n p] b_ d (by unfold Day;omega);rw [this];have J:=sL (n:=n) (p:=p) h0;have h3:hasB (pd n p) d=pL n p d:=by
     unfold pL;by_cases k:d % n=p
     ·rw [decide_eq_true k,J.2 k]
     ·rw [decide_eq_false k];cases hb:hasB (pd n p) d with
      | false=>rfl| true=>exact absurd (J.1 hb) k
    rw [td]at b_;simp [B5,tY,td,b_,h3]
   have b9:=fun d (h:ky d)=>CB (sl s.cg (aM s.cs)) (sl s.xg (aH s.xs)) (sl .fs (aN [td n p])) s.len mi d (by unfold ky;omega) (by unfold ky;omega) h;refine aF ?_;apply ai;simp [A,ha,a8,Y];have kN:(H'++[bw.box [.f (sl .fs (aN [td n p])),.f (fi mi)] 0])[H'.length]?=aa (.box [.f (sl .fs (aN [td n p])),.f (fi mi)] 0):=by simp
   have k0:(H'++[bw.box [.f (sl .fs (aN [td n p])),.f (fi mi)] 0])[0]?=aa (.box [C.f (sl s.cg (aM s.cs)),C.f (fi s.len),C.f (sl s.xg (aH s.xs))] 0):=by rw [AT (ak h0)];exact h0
   generalize H'++[bw.box [.f (sl .fs (aN [td n p])),.f (fi mi)] 0]=HA at kN k0 ⊢;obtain⟨bN,g_⟩:=aJ (H'.length);rw [←g_]at kN ⊢;apply ai;simp [S,kN,aW (n:=q*10080),aW (n:=q*10080-mi),aW (n:=q*10080-mi+1440),aW (n:=q*10080-mi+1440-1),i4,a_];apply ai;simp;have fb:-9≤fst∧fst≤701:=by omega
   refine aF ?_;refine cI (fun m st=>∃(u:Int) (t:T) (H:aj) (c:C) (o:List aI),st=⟨t,[],H⟩∧(m:Int)=fst+7-u∧max fst 0≤u∧u≤fst+7∧t.g 1=vi q∧t.g 2=.c (.ptr 0 0 0)∧t.g 7=.c (.ptr bN 0 0)∧t.g 8=vi fst∧t.g 10=vi u∧t.g 14=.c (.f (sl s.cg (aM s.cs)))∧t.g 15=vi (s.cs.length:Nat)∧t.g 16=vi 0∧t.g 5=.c c ∧
    H[0]?=aa (.box [C.f (sl s.cg (aM s.cs)),C.f (fi s.len),C.f (sl s.xg (aH s.xs))] 0)∧H[bN]?=aa (.box [.f (sl .fs (aN [td n p])),.f (fi mi)] 0)∧LI H c o∧(o.length:Int)≤u-max fst 0∧∀ x,x ∈ o↔∃ d,x=cM s.len mi d∧max fst 0≤d∧d<u∧pL n p d=ae) (fst+7-max fst 0).toNat
    ⟨max fst 0,_,HA,.f .az,[],rfl,by omega,by omega,by omega,by simp [S],by simp [O],by simp,by simp,by simp,by simp [A],by simpa using hb,by simp [ha],by simp [B],k0,kN,.inl ⟨rfl,rfl⟩,by simp,fun x=>by simp;intros;omega⟩ ?_
   rintro m st ⟨u,t,H,c,o,rfl,hm,c0,c1,S,O,g7,g8,E,A,U,W,B,h0,hN,z,N,v⟩ ih;apply an;apply ai;simp [g8,E,aW (n:=fst+7)];by_cases i9:u<fst+7
   ·refine au (by simp [i9]) (aP ?_);apply an;refine aF ?_;have go:∀(t:T) (H:aj) (c:C) (o:List aI),t.g 1=vi q→t.g 2=.c (.ptr 0 0 0)→t.g 7=.c (.ptr bN 0 0)→t.g 8=vi fst→t.g 10=vi u→t.g 14=.c (.f (sl s.cg (aM s.cs)))→t.g 15=vi (s.cs.length:Nat)→t.g 16=vi 0→t.g 5=.c c →
      H[0]?=aa (.box [C.f (sl s.cg (aM s.cs)),C.f (fi s.len),C.f (sl s.xg (aH s.xs))] 0)→H[bN]?=aa (.box [.f (sl .fs (aN [td n p])),.f (fi mi)] 0)→LI H c o→(o.length:Int)≤u+1-max fst 0→(∀ x,x ∈ o↔∃ d,x=cM s.len mi d∧max fst 0≤d∧d<u+1∧pL n p d=ae) →
      WP tab 128 ab [.inBlock 3,.code xy,.inLoop xw,.inBlock 2,.inBlock 1,.code (tI 16 50),.inLoop (ja 0 16 15 17 50 rN),.inBlock 0,.code nJ] ⟨t,[],H⟩ Q:=by
     intro t H c o S O g7 g8 E A U W B h0 hN z N v;refine aA (aq (.inl rfl) ?_);simp [E,aW (n:=u+1)];exact ih (fst+7-(u+1)).toNat _ (by omega) ⟨u+1,_,H,c,o,rfl,by omega,by omega,by omega,by simp [S],by simp [O],by simp [g7],by simp [g8],by simp,by simp [A],by simp [U],by simp [W],by simp [B],h0,hN,z,by omega,v⟩
    apply ai;simp [g7,E,hN,c_ u (by omega) (by omega)];cases hc:pL n p u
    ·refine bo (by simp) ?_;refine go _ H c o (by simp [S]) (by simp [O]) (by simp [g7]) (by simp [g8]) (by simp [E]) (by simp [A]) (by simp [U]) (by simp [W]) (by simp [B]) h0 hN z (by omega) fun x=>?_;rw [v];constructor
     ·rintro⟨d,I,J,h3,M⟩;exact⟨d,I,J,by omega,M⟩
     ·rintro⟨d,I,J,h3,M⟩;by_cases hd:d=u
      ·subst hd;rw [hc]at M;cases M
      ·exact⟨d,I,J,by omega,M⟩
    ·have d9:=b9 u (by unfold ky;omega);simp [cM,aI.row]at d9;obtain⟨c',H2,e1,e2,e3,e4⟩:=(z.push [.box [.f (fi u),.f (fi (u*1440+mi)),.f (fi (u*1440+mi+s.len))] 0]).app (by omega) (b1:=H.length) (fl:=0) (x:=cM s.len mi u) (by simp [aI.row,cM]);have p0:=e4 _ _ (show(H++[bw.box [.f (fi u),.f (fi (u*1440+mi)),.f (fi (u*1440+mi+s.len))] 0])[0]?=_ by rw [AT (ak h0)];exact h0) rfl;have pN:=e4 _ _ (show(H++[bw.box [.f (fi u),.f (fi (u*1440+mi)),.f (fi (u*1440+mi+s.len))] 0])[bN]?=_ by rw [AT (ak hN)];exact hN) rfl;refine au (by simp) ?_;refine aq (.inl rfl) ?_;simp [O,B,g7,E,h0,hN,d9,e1];refine go _ H2 c' (o++[cM s.len mi u]) (by simp [S]) (by simp [O]) (by simp [g7]) (by simp [g8]) (by simp [E]) (by simp [A]) (by simp [U]) (by simp [W]) (by simp) p0 pN e2 (by simp;omega) fun x=>?_;rw [avq,avh,v];constructor
     ·rintro(⟨d,I,J,h3,M⟩ | rfl)
      ·exact⟨d,I,J,by omega,M⟩
      ·exact⟨u,rfl,by omega,by omega,hc⟩
     ·rintro⟨d,I,J,h3,M⟩;by_cases hd:d=u
      ·subst hd;exact .inr I
      ·exact .inl ⟨d,I,J,by omega,M⟩
   ·have:u=fst+7:=by omega
    subst this;refine aB (by simp) ?_;refine bJ (k':=[.inBlock 1,.code (tI 16 50),.inLoop (ja 0 16 15 17 50 rN),.inBlock 0,.code nJ]) rfl ?_;refine aA (next _ _ ?_ (by simp [W]) (by simp [U]));refine⟨by simp [S],by simp [O],by simp [A],h0,c,o,by simp [B],z,by omega,by omega,fun _ x=>?_⟩;rw [v];constructor
    ·rintro⟨d,I,J,h3,M⟩;exact⟨d,I,by rw [←X];omega,by rw [←X];omega,M⟩
    ·rintro⟨d,I,J,h3,M⟩;exact⟨d,I,by omega,by omega,M⟩
  ·rintro t H' ⟨S,O,A,h0,c,o,B,z,N,d_,i6⟩ - -;refine Z _ H' c o (by simp [S]) (by simp [O]) (by simp [B]) h0 z N fun x=>?_;exact i6 (by rw [e];rfl) x
 obtain⟨r,⟨g,L,I,J,rfl⟩,h⟩:=key;exact⟨g,L,I,J,bg.eq h⟩
end Go.Proofs.YtnaofdffomdmhaaGreat
namespace Go.Proofs.YtnaofdffomdmhaaGreat
open Go Km
def cY(b d:FC)(x:av):FC:=.fp ([b,d]++x.row) 0
def eO(af b:Int):FC:=sl .fs (rows (b5 af b))
def bM(af b r:Int):cC:=if r=0 then nz af .fs [(1,b)] .nil []else if r=1 then nz af .nil [] .nil []else nz af .nil [] .fs [0,1]
theorem lF(af b:Int){r:Int}(h0:0≤r)(d:r≤2):(b5 af b)[r.toNat]?=aa (bM af b r):=by
 obtain rfl | rfl | rfl:r=0∨r=1∨r=2:=by omega
 all_goals rfl
theorem mq(af b:Int)(u:FC)(x:av)(h0:0≤x.room)(m:x.room≤2):bg tab 120 [.c (.f (cY (eO af b) u x))]=Eq (.a ((bM af b x.room).row.map .f)):=bg.eq (by
 refine bI rfl rfl fun Q q=>?_;have s:=lF af b h0 m;have d:=fun H:aj=>bl (H:=H) (g:=.fs) (rows:=rows (b5 af b)) (sz:=15) (k:=.i64) (i:=x.room) h0 (by simp [b5];omega);have l:=fun H:aj=>bL (H:=H) (fD (b5 af b)) (j:=x.room.toNat) (row:=(bM af b x.room).row) (by rw [rows,List.getElem?_map,s];rfl);apply ai;simp;apply ai;simp [cY,eO,oG,aV,av.row,d,l,cC.row];refine aC (q _ _ ?_);simp [iU,cD,deep,bj,cC.row])
theorem Bo(af g:Int)(m:FC)(x:av)(h0:0≤x.room)(s:x.room≤2):∃ l:List Int,l.length=8∧l=(if 10<x.size then [14,0,0,0,0,0,0,0]else [0,0,0,0,0,0,0,0])∧∀ H,∃ J,Ev tab (.fn 77) [.c (.f (cY (eO af g) m x))] H (.t [.a (l.map fun n=>.f (fi n)),vi 0]) (H++J):=by
 refine⟨_,?_,rfl,fun H=>?_⟩
 ·split<;>rfl
 obtain⟨r,H',u,rfl,J,rfl⟩:∃ r H',Ev tab (.fn 77) [.c (.f (cY (eO af g) m x))] H r H'∧r=.t [.a ((if 10<x.size then [14,0,0,0,0,0,0,0]else [0,0,0,0,0,0,0,0]:List Int).map fun n=>.f (fi n)),vi 0]∧∃ J,H'=H++J:=by
  refine cL (C:=fun r H'=>r=.t [.a ((if 10<x.size then [14,0,0,0,0,0,0,0]else [0,0,0,0,0,0,0,0]:List Int).map fun n=>.f (fi n)),vi 0]∧∃ J,H'=H++J) anY rfl fun Q q=>?_;have j:=mq af g m x h0 s;have b:(bM af g x.room).cap=10:=by unfold bM;split<;>(try split)<;>rfl
  apply ai;simp;apply an;apply ai;simp only [cY,av.row,cC.row,awc,awm,avl,avs]at j;by_cases d:10<x.size
  ·simp [cY,oG,aV,av.row,j,iX,b,d];refine au (by simp) (ai ?_);simp;refine aC (q _ _ _ rfl ?_ ⟨rfl,_,rfl⟩);simp [Km.results,bj,d,aV]
  ·simp [cY,oG,aV,av.row,j,iX,b,d];refine bo (by simp) ?_;apply ai;simp;refine aC (q _ _ _ rfl ?_ ⟨rfl,_,rfl⟩);simp [Km.results,bj,d,aV]
 exact⟨J,u⟩
end Go.Proofs.YtnaofdffomdmhaaGreat
namespace Go.Proofs.YtnaofdffomdmhaaGreat
open Go Km
def pJ(n p mi le:Int):List Int:=if mi+le≤1440 then [0,0,0,0,0,0,0,0]else [16,0,p,p*1440+mi,p*1440+mi+le,0,0,0]
def jx(b:List Int):V:=.a (b.map fun n=>.f (fi n))
theorem ada(af j:Int)(x:FC){m r t z n p:Int}(i:Az n p){k:Nat}(h:k<60)(le:Int)(W:1≤le)(X:le≤10080)(h0:0≤r)(Y:r≤2)(H:aj) :
  ∃ H',Ev tab (.fn 78) [.c (.f (cY (eO af j) x (tn m r t z n p (20*k:Nat) le)))] H (.t [jx (pJ n p (20*k:Nat) le),vi 0]) H'∧Kp H H':=by
 obtain⟨mi,J⟩:=aJ (20*k:Nat);have S:=ac_ i h le W X;rw [←J]at S ⊢;obtain⟨r',H',f,rfl,Z⟩:∃ r' H',Ev tab (.fn 78) [.c (.f (cY (eO af j) x (tn m r t z n p mi le)))] H r' H'∧(r'=.t [jx (pJ n p mi le),vi 0]∧Kp H H'):=by
  refine cL rfl rfl fun Q O=>?_;have v:=mq af j x (tn m r t z n p mi le) h0 Y;have L:∃ a b c d e,(bM af j r).row=a::b::c ::(dM++[d,e]):=by
   unfold bM;split<;>(try split)<;>exact⟨_,_,_,_,_,rfl⟩
  obtain⟨a,b,c,d,e,L⟩:=L;change bg tab 120 [.c (.f (cY (eO af j) x (tn m r t z n p mi le)))]=Eq (.a ((bM af j r).row.map .f))at v;rw [L]at v;have E:iX 3 (aa 10) (.a (.f a::.f b::.f c ::(List.map C.f dM++[.f d,.f e])))=aa (.a (dM.map .f)):=rfl;have B:∀ K:aj,aR K (aa 3) (.c (.f (.fp ([eO af j,x]++(tn m r t z n p mi le).row) 6)))=aa (.a ((tK n p mi le).map .f)):=fun K=>rfl;obtain⟨cd,F⟩:=aJ ([eO af j,x]++(tn m r t z n p mi le).row);simp only [cY]at v ⊢;rw [←F]at v B ⊢;have I:(iZ n p mi le).row.length=3:=rfl;apply ai;simp;obtain⟨u,q⟩:=aJ (H++[bw.box [.f (fi 0),.f (fi 0),.f (fi 0),.f (fi 0),.f (fi 0),.f (fi 0),.f (fi 0),.f (fi 0)] 0]:aj);have M:Kp H u:=by rw [q];exact Kp.push _ _
  have w:u[H.length]?=aa (.box [.f (fi 0),.f (fi 0),.f (fi 0),.f (fi 0),.f (fi 0),.f (fi 0),.f (fi 0),.f (fi 0)] 0):=by rw [q];simp
  rw [←q];apply ai;simp only [avl,awb,avs]at v;simp [v,E,B,S,I];obtain⟨l,s⟩:=aJ (u++[bw.box ((iZ n p mi le).row.map .f) 0]:aj);have A:Kp u l:=by rw [s];exact Kp.push _ _
  have q1:l[u.length]?=aa (.box ((iZ n p mi le).row.map .f) 0):=by rw [s];simp
  have g:=A.get w;rw [←s];have U:=M.tr A;apply an;apply ai;by_cases y:(mi:Int)+le≤1440
  ·simp [y];refine au (by simp) ?_;have N:cX l (.ptr H.length 0 0) [.f (fi 0),.f (fi 0),.f (fi 0),.f (fi 0),.f (fi 0),.f (fi 0),.f (fi 0),.f (fi 0)]=aa (l.set H.length (.box [.f (fi 0),.f (fi 0),.f (fi 0),.f (fi 0),.f (fi 0),.f (fi 0),.f (fi 0),.f (fi 0)] 0)):=by simp [cX,g,over]
   apply ai;simp [N,-bh];refine aC (O _ _ _ rfl ?_ ⟨rfl,U.mQ (aft _) _⟩);simp [Km.results,bj,ak g,aV,jx,pJ,y]
  ·simp [y];refine bo (by simp) ?_;have o:aR l (aa 3) (.c (.ptr u.length 0 0))=aa (.a [.f (fi p),.f (fi (p*1440+mi)),.f (fi (p*1440+mi+le))]):=by simp [aR,aE,q1,aV,iZ,y,aI.row]
   have N:cX l (.ptr H.length 0 0) [.f (fi 16),.f (fi 0),.f (fi p),.f (fi (p*1440+mi)),.f (fi (p*1440+mi+le)),.f (fi 0),.f (fi 0),.f (fi 0)]=aa (l.set H.length (.box [.f (fi 16),.f (fi 0),.f (fi p),.f (fi (p*1440+mi)),.f (fi (p*1440+mi+le)),.f (fi 0),.f (fi 0),.f (fi 0)] 0)):=by simp [cX,g,over]
   apply ai;simp [o,N,-aw,-bh];refine aC (O _ _ _ rfl ?_ ⟨rfl,U.mQ (aft _) _⟩);simp [Km.results,bj,ak g,aV,jx,pJ,y]
 exact⟨H',f,Z⟩
end Go.Proofs.YtnaofdffomdmhaaGreat
namespace Go.Proofs.YtnaofdffomdmhaaGreat
open Go Km
def eu:List aI→Int
 | []=>0| x::r=>x.to-x.fr+eu r
theorem CX(a b:List aI):eu (a++b)=eu a+eu b:=by
 induction a with
 | nil=>simp [eu]| cons x a d=>simp only [awc,eu,d];omega
theorem vu(g:Tg)(L:List aI)(I:L.length≤1000)(z:∀ x ∈ L,0≤x.fr∧x.fr≤x.to∧x.to≤2000000):bg tab 202 [.c (.f (sl g (aH L)))]=Eq (vi (eu L)):=Kf.eq (by
 refine cr rfl rfl fun H Q y=>?_;apply ai;simp;apply ai;simp;apply an;apply ai;simp;refine bS L.length (fun j t H'=>(∃ J,H'=H++J)∧t.g 6=.c (.f (sl g (aH L)))∧t.g 3=vi (eu (L.take j))∧0≤eu (L.take j)∧eu (L.take j)≤j*2000000) (by omega) (by decide) (by decide) (by simp) (by simp) ⟨⟨[],by simp⟩,by simp,by simp [eu],by simp [eu],by simp [eu]⟩ ?_ ?_
 ·rintro j t _ l ⟨⟨J,rfl⟩,m,d,A,B⟩ u q next
  have b:=fun H:aj=>bL (H:=H) (bz L) (fk l);have s:L.take (j+1)=L.take j++[L[j]]:=by rw [avK,By l];rfl
  have v:eu (L.take (j+1))=eu (L.take j)+(L[j].to-L[j].fr):=by rw [s,CX];simp [eu]
  obtain⟨b1,E,F⟩:=z L[j] (anc l);simp [aI.row]at b;refine aF ?_;apply ai;simp [m,u,bl,l,b];refine aq (.inl rfl) ?_;simp [d,aW (n:=L[j].to-L[j].fr),aW (n:=eu (L.take j)+(L[j].to-L[j].fr))];refine aA (next _ _ ?_ (by simp [u]) (by simp [q]));exact⟨⟨_,rfl⟩,by simp [m],by simp [v],by omega,by rw [v];omega⟩
 ·rintro t _ ⟨⟨J,rfl⟩,m,d,A,B⟩ - -;rw [avH]at d;apply ai;simp [d];refine aC (y _ _ ?_);simp)
def bP(l:List aK):List (List FC):=l.map aK.row
@[simp] theorem wz (l:List aK):(bP l).length=l.length:=by simp [bP]
theorem eS(l:List aK):cu 3 (bP l):=cu.map fun _=>rfl
theorem xn{l:List aK}{j:Nat}(b:j<l.length):(bP l)[j]?=aa l[j].row:=by simp [bP,b]
def cw(k b:Int)(l:List av):List aK:=(l.filter fun s=>decide (s.room=k)&&decide (s.dB=b)).map av.st
theorem vI(k d:Int)(a b:List av):cw k d (a++b)=cw k d a++cw k d b:=by simp [cw]
theorem GI(g:Tg)(l:List av)(k m:Int)(hl:l.length≤1000)(H:aj):∃ c H',Ev tab (.fn 141) [.c (.f (sl g (al l))),vi k,vi m] H (.c c) H'∧LR H' c 3 (bP (cw k m l))∧(∀ i,bG c=aa i→H.length≤i)∧Kp H H':=by
 obtain⟨r,H',he,c,rfl,h⟩:∃ r H',Ev tab (.fn 141) [.c (.f (sl g (al l))),vi k,vi m] H r H'∧∃ c,r=.c c∧LR H' c 3 (bP (cw k m l))∧(∀ i,bG c=aa i→H.length≤i)∧Kp H H':=by
  refine cL (C:=fun r H'=>∃ c,r=.c c∧LR H' c 3 (bP (cw k m l))∧(∀ i,bG c=aa i→H.length≤i)∧Kp H H') an2 rfl fun Q hQ=>?_;apply ai;simp;apply ai;simp;apply an;apply ai;simp;refine bS l.length (fun j t J=>t.g 10=.c (.f (sl g (al l)))∧t.g 1=vi k∧t.g 2=vi m∧(cw k m (l.take j)).length≤j∧∃ c,t.g 7=.c c∧LR J c 3 (bP (cw k m (l.take j)))∧(∀ i,bG c=aa i→H.length≤i)∧Kp H J) (by omega) (by decide) (by decide) (by simp) (by simp)
   ⟨by simp,by simp,by simp,by simp [cw],.f .az,by simp,by simpa [cw,bP]using LR.nil H 3,by simp [bG],⟨aft _,fun _ _=>rfl⟩⟩ ?_ ?_
  ·rintro j t J w ⟨u,F,L,e,c,N,W,q,Y⟩ X a next
   have B:=fun H:aj=>bL (H:=H) (aX l) (cQ w);have A:=fun H:aj=>bl (H:=H) (g:=g) (rows:=al l) (sz:=7) (k:=.i64) (i:=(j:Int)) (by omega) (by simp;omega);simp only [avr]at A;have K:l.take (j+1)=l.take j++[l[j]]:=by rw [avK,By w];rfl
   obtain⟨s,hs⟩:=aJ (l[j]);rw [←hs]at B K;have f:s.row.length=7:=rfl;obtain⟨b,O⟩:=aJ (J.length);obtain⟨v,x⟩:=aJ (J++[bw.box (s.row.map .f) 0]);have z:=W.push [bw.box (s.row.map .f) 0];rw [←x]at z;have y:Kp H v:=by rw [x];exact Y.tr (Kp.push _ _)
   have d:v[b]?=aa (.box (s.row.map .f) 0):=by rw [x,O];simp
   have o:aR v ab (.c (.ptr b 1 0))=aa (vi s.room):=by simp [aR,aE,d,av.row]
   have l2:aR v ab (.c (.ptr b 2 0))=aa (vi s.dB):=by simp [aR,aE,d,av.row]
   have l4:aR v (aa 3) (.c (.ptr b 4 0))=aa (.a (s.st.row.map .f)):=by simp [aR,aE,d,av.row,aK.row,aV]
   refine aF ?_;apply ai;simp [u,X,A,B,f,-aw];rw [←x,←O];have skip:(decide (s.room=k)&&decide (s.dB=m))=ag→cw k m (l.take (j+1))=cw k m (l.take j):=fun h=>by
    rw [K,vI];simp [cw,h]
   apply ai;by_cases M:s.room=k
   ·by_cases U:s.dB=m
    ·have E:cw k m (l.take (j+1))=cw k m (l.take j)++[s.st]:=by rw [K,vI];simp [cw,M,U]
     simp [F,L,o,l2,M,U,-aw];refine au (by simp) ?_;have Z:=z.push [bw.box (s.st.row.map .f) 0];have d2:(v++[bw.box (s.st.row.map .f) 0])[v.length]?=aa (.box (s.st.row.map .f) 0):=by simp
     obtain⟨c',J2,e1,e2,p,e4⟩:=Z.app (eS _) (by decide) (row:=s.st.row) rfl (bytes:=56) (by simp [bV];omega) d2;have n:s.st.row.length=3:=rfl;refine aq (.inl rfl) ?_;simp [N,l4,n,e1,-aw];refine aA (next _ _ ⟨by simp [u],by simp [F],by simp [L],by rw [E];simp;omega,c',by simp,by rw [E];simpa [bP]using e2,fun i hi=>?_,?_⟩ (by simp [X]) (by simp [a]))
     ·rcases e4 with h | h
      ·exact q i (by rw [←h];exact hi)
      ·rw [h]at hi;cases hi;have:=y.1;simp;omega
     ·have I:=y.tr (Kp.push v [bw.box (s.st.row.map .f) 0]);refine⟨by have:=p.1;have:=I.1;omega,fun i hi=>?_⟩;rw [←I.2 i hi];have S:i<(v++[bw.box (s.st.row.map .f) 0]).length:=by have:=I.1;omega
      rw [By S];exact p.2 i _ (By S) fun h=>by have:=q i h;omega
    ·simp [F,L,o,l2,M,U,-aw];refine aB (by simp) (aP (aA (next _ _ ?_ (by simp [X]) (by simp [a]))));exact⟨by simp [u],by simp [F],by simp [L],by rw [skip (by simp [U])];omega,c,by simp [N],by rw [skip (by simp [U])];exact z,q,y⟩
   ·simp [F,o,M,-aw];refine aB (by simp) (aP (aA (next _ _ ?_ (by simp [X]) (by simp [a]))));exact⟨by simp [u],by simp [F],by simp [L],by rw [skip (by simp [M])];omega,c,by simp [N],by rw [skip (by simp [M])];exact z,q,y⟩
  ·rintro t J ⟨u,F,L,e,c,N,W,q,Y⟩ - -;rw [avH]at W;apply ai;simp [N];exact aC (hQ _ _ (.c c) rfl (km (by simp)) ⟨c,rfl,W,q,Y⟩)
 exact⟨c,H',he,h⟩
end Go.Proofs.YtnaofdffomdmhaaGreat
namespace Go.Proofs.YtnaofdffomdmhaaGreat
open Go Km
def mM(b:Int):List (Int × Int)→Int × Bool
 | []=>(0,ag)| q::r=>if q.1=b then(q.2,ae)else mM b r
theorem BV(af v:Int)(N:FC)(x:av)(h0:0≤x.room)(W:x.room≤2):bg tab 125 [.c (.f (cY (eO af v) N x))]=Eq (.t [vi (mM x.dB (bM af v x.room).q).1,vb (mM x.dB (bM af v x.room).q).2]):=bg.eq (by
 refine bI rfl rfl fun Q M=>?_;have l:=mq af v N x h0 W;have Z:(bM af v x.room).q.length≤1:=by unfold bM nz;split<;>(try split)<;>simp
 generalize bM af v x.room=r at *;obtain⟨O,A⟩:=aJ ([eO af v,N]++x.row);have a:∀ K:aj,aR K ab (.c (.f (.fp O 4)))=aa (vi x.dB):=fun K=>by rw [A];rfl
 simp only [cY]at l ⊢;rw [←A]at l ⊢;have Y:iX 13 ab (.a (r.row.map .f))=aa (.c (.f (sl r.qg (fV r.q)))):=rfl;have B:∀ K:aj,bu K (.f (sl r.qg (fV r.q)))=aa r.q.length:=fun K=>by simp [fV]
 obtain⟨res,u⟩:=aJ (mM x.dB r.q);rw [←u]at M;apply ai;simp;apply an;apply ai;simp [l,Y,B];refine bS r.q.length (fun j t J=>t.g 0=.c (.f (.fp O 0))∧t.g 8=.c (.f (sl r.qg (fV r.q)))∧res=mM x.dB (r.q.drop j)) (by omega) (by decide) (by decide) (by simp) (by simp) ⟨by simp,by simp,by simpa using u⟩ ?_ ?_
 ·rintro j t J U ⟨g0,L,s⟩ S X next
  have m:=fun H:aj=>bl (H:=H) (g:=r.qg) (rows:=fV r.q) (sz:=2) (k:=.i64) (i:=(j:Int)) (by omega) (by simp [fV];omega);have E:=fun H:aj=>bL (H:=H) (vQ r.q) (Ch U);simp only [avr]at m;rw [auR U,mM]at s;generalize r.q[j]=q at *;obtain⟨b,z⟩:=aJ (J.length);refine aF ?_;apply ai;simp [L,S,m,E,-aw];obtain⟨I,y⟩:=aJ (J++[bw.box [.f (fi q.1),.f (fi q.2)] 0]);have d:I[b]?=aa (.box [.f (fi q.1),.f (fi q.2)] 0):=by rw [y,z];simp
  have c:aR I ab (.c (.ptr b 0 0))=aa (vi q.1):=by simp [aR,aE,d]
  have e:aR I ab (.c (.ptr b 1 0))=aa (vi q.2):=by simp [aR,aE,d]
  rw [←y,←z];apply ai;simp [g0,c,a,-aw];by_cases F:q.1=x.dB
  ·rw [bf F]at s;refine au (by simp [F]) ?_;apply ai;simp [e,-aw];refine aC (M _ _ ?_);simp [s]
  ·rw [aY F]at s;refine aB (by simp [F]) (aP (aA (next _ _ ⟨by simp [g0],by simp [L],s⟩ (by simp [S]) (by simp [X]))))
 ·rintro t J ⟨g0,L,s⟩ - -;rw [awg,mM]at s;apply ai;simp;refine aC (M _ _ ?_);simp [s])
def tH:List Nat:=[1,2,3,4,5,6,10,12,15,20,30,60]
theorem tP{d:Nat}(h:d ∈ tH):d≤60:=by
 simp only [tH,avn,av6,or_false]at h;omega
def Ck(s:aK):Int:=match s.cs with
 | ⟨_,⟨_,f::_⟩::_,_⟩::_=>f.eV| _=>1
theorem gY.eV{s:aK}{n p mi:Int}(h:gY s n p mi):Ck s=n:=by simp [Ck,h.cs,td,pd]
def wZ:Nat→List aK→Nat
 | d,[]=>d| d,s::r=>wZ (axe d (Ck s).toNat) r
theorem adt{d:Nat}{n p:Int}(b:d ∈ tH)(h:Az n p):∃ e ∈ tH,e=axe d n.toNat∧bg tab 215 [vi (7*(d:Int)),vi n]=Eq (.t [vi (7*(e:Int)),vi 0]):=by
 obtain⟨j,l,m,q⟩:=h;have g:(d,n.toNat) ∈ adu:=by
  obtain rfl | rfl | rfl | rfl | rfl | rfl:n=1∨n=2∨n=3∨n=4∨n=5∨n=6:=by omega
  all_goals
   unfold adu;rw [awx];exact⟨d,b,by simp⟩
 refine⟨axe d n.toNat,?_,rfl,?_⟩
 ·have:n.toNat ∈ [1,2,3,4,5,6]:=by
   obtain rfl | rfl | rfl | rfl | rfl | rfl:n=1∨n=2∨n=3∨n=4∨n=5∨n=6:=by omega
   all_goals simp
  have key:∀ d ∈ tH,∀ k ∈ [1,2,3,4,5,6],axe d k ∈ tH:=by decide
  exact key d b _ this
 ·have:=apa g;simp only at this;rw [awR (by omega)]at this;simp only [Int.natCast_mul]at this;exact this
theorem DW(g:Tg)(L:List aK)(hl:L.length≤2000)(h:∀ s ∈ L,∃ n p mi,gY s n p mi):wZ 1 L ∈ tH∧bg tab 140 [.c (.f (sl g (bP L)))]=Eq (.t [vi (15+7*(wZ 1 L:Int)),vb ae]):=by
 obtain⟨D,X⟩:=aJ (wZ 1 L);rw [←X];obtain⟨r,⟨S,rfl⟩,hp⟩:∃ r,(D ∈ tH∧r=.t [vi (15+7*(D:Int)),vb ae])∧bg tab 140 [.c (.f (sl g (bP L)))] r:=by
  refine dY rfl rfl fun Q hQ=>?_;apply ai;simp;apply ai;simp;apply an;apply ai;simp;refine bS L.length (fun j t J=>t.g 16=.c (.f (sl g (bP L)))∧t.g 4=vi 0∧∃ d,d ∈ tH∧D=wZ d (L.drop j)∧t.g 5=vi (7*(d:Int))) (by omega) (by decide) (by decide) (by simp) (by simp) ⟨by simp,by simp,1,by simp [tH],by simpa using X,by simp⟩ ?_ ?_
  ·rintro j t J o ⟨l,x,d,S,O,v⟩ ha hb next
   rw [auR o,wZ]at O;obtain⟨n,p,mi,U⟩:=h L[j] (anc o);have A:=fun H:aj=>bl (H:=H) (g:=g) (rows:=bP L) (sz:=3) (k:=.i64) (i:=(j:Int)) (by omega) (by simp;omega);have f:=fun H:aj=>bL (H:=H) (eS L) (xn o);simp only [avr]at A;generalize L[j]=s at *;have e_:s.row.length=3:=rfl;obtain⟨b,Z⟩:=aJ (J.length);obtain⟨W,Y⟩:=aJ (J++[bw.box (s.row.map .f) 0]);have d1:W[b]?=aa (.box (s.row.map .f) 0):=by rw [Y,Z];simp
   have x0:∀ K:aj,K[b]?=W[b]?→aR K ab (.c (.ptr b 0 0))=aa (.c (.f (sl s.cg (aM s.cs)))):=fun K z=>by simp [aR,aE,z.trans d1,aK.row]
   have x2:∀ K:aj,K[b]?=W[b]?→aR K ab (.c (.ptr b 2 0))=aa (.c (.f (sl s.xg (aH s.xs)))):=fun K z=>by simp [aR,aE,z.trans d1,aK.row]
   have b_:∀ K:aj,bu K (.f (sl s.cg (aM s.cs)))=aa 1:=fun K=>by rw [U.cs];simp [aM]
   have f7:∀ K:aj,bu K (.f (sl s.xg (aH s.xs)))=aa 0:=fun K=>by rw [U.xs];cases s.xg<;>rfl
   have c_:∀ K:aj,bH K 2 ab (.c (.f (sl s.cg (aM s.cs)))) (vi 0)=aa (.c (.f (.fp [vC n p,fi mi] 0))):=fun K=>by rw [U.cs];rfl
   have b9:∀ K:aj,aR K (aa 2) (.c (.f (.fp [vC n p,fi mi] 0)))=aa (.a [.f (vC n p),.f (fi mi)]):=fun K=>rfl;have a:=akh (n:=n) (p:=p) U.sm;change bg tab 214 [.a [.f (vC n p)]]=_ at a;obtain⟨e,he,d9,c⟩:=adt S U.sm;rw [U.eV,←d9]at O;refine aF ?_;apply ai;simp [l,ha,A,f,e_,-aw];rw [←Y,←Z];apply an;apply ai;simp [x0 W rfl,b_,-aw];refine bS 1 (fun i u K=>u.g 16=.c (.f (sl g (bP L)))∧u.g 17=vi (L.length:Nat)∧u.g 18=vi j∧u.g 7=.c (.ptr b 0 0)∧u.g 23=.c (.f (sl s.cg (aM s.cs)))∧u.g 4=vi 0∧K[b]?=W[b]?∧u.g 5=(if i=0 then vi (7*(d:Int))else vi (7*(e:Int)))) (by omega) (by decide) (by decide) (by simp) (by simp)
    ⟨by simp [l],by simp [hb],by simp [ha],by simp,by simp,by simp [x],rfl,by simp [v]⟩ ?_ ?_
   ·rintro i u K hi ⟨l,m,q,g7,E,x,z,v⟩ I a_ N;have d_:i=0:=by omega
    subst d_;simp only [if_true]at v;refine aF ?_;apply ai;simp at I;simp [E,I,c_,b9,-aw];obtain⟨B,y⟩:=aJ (K++[bw.box [.f (vC n p),.f (fi mi)] 0]);have m1:B[K.length]?=aa (.box [.f (vC n p),.f (fi mi)] 0):=by rw [y];simp
    have l1:aR B (aa 1) (.c (.ptr K.length 0 0))=aa (.a [.f (vC n p)]):=by simp [aR,aE,m1,aV]
    have lb:b<K.length:=by have:=ak (z.trans d1);omega
    have n1:B.length=K.length+1:=by rw [y];simp
    rw [←y];apply ai;simp [l1,a,-aw];obtain⟨K2,F⟩:=aJ (B++[bw.box [.f .es,.f (fi 0),.f (fi n),.f (.fs [fi p] 1)] 0]);have m2:K2[B.length]?=aa (.box [.f .es,.f (fi 0),.f (fi n),.f (.fs [fi p] 1)] 0):=by rw [F];simp
    have l2:aR K2 ab (.c (.ptr B.length 2 0))=aa (vi n):=by simp [aR,aE,m2]
    have l3:aR K2 ab (.c (.ptr B.length 1 0))=aa (vi 0):=by simp [aR,aE,m2]
    rw [←F];apply an;apply ai;simp;refine bo (by simp) ?_;refine an (ai ?_);simp [v,l2,c,-aw];apply ai;have a8:=tP he;simp;refine aB (by simp;omega) (aP ?_);refine aq (.inl rfl) ?_;simp [x,l3,-aw];refine aA (N _ _ ⟨by simp [l],by simp [m],by simp [q],by simp [g7],by simp [E],by simp,?_,by simp⟩ (by simp [I]) (by simp [a_]));rw [F,AT (by omega),y,AT lb];exact z
   ·rintro u K ⟨l,m,q,g7,E,x,z,v⟩ - -;simp only [Nat.one_ne_zero,if_false]at v;apply ai;simp [g7,x2 K z,f7,-aw];refine bS 0 (fun _ w _=>w.g 16=.c (.f (sl g (bP L)))∧w.g 17=vi (L.length:Nat)∧w.g 18=vi j∧w.g 4=vi 0∧w.g 5=vi (7*(e:Int))) (by omega) (by decide) (by decide) (by simp) (by simp)
     ⟨by simp [l],by simp [m],by simp [q],by simp [x],by simp [v]⟩ (fun j t H o=>by omega) ?_
    rintro w M ⟨l,m,q,x,v⟩ - -;exact aA (next _ _ ⟨by simp [l],by simp [x],e,he,O,by simp [v]⟩ (by simp [q]) (by simp [m]))
  ·rintro t J ⟨l,x,d,S,O,v⟩ - -;rw [awg,wZ]at O;rw [O]at hQ;have a8:=tP S;apply ai;simp [x,v,aW (n:=(15:Int)),aW (n:=(15:Int)+7*(d:Int))];refine aC (hQ _ _ _ ⟨S,rfl⟩ ?_);simp [Km.results,bj];omega
 exact⟨S,hp.eq⟩
theorem BS:∀ {L:List aK} {d:Nat},(∀ s ∈ L,0≤Ck s)→(d:Int) ∣ (wZ d L:Int)∧∀ s ∈ L,Ck s ∣ (wZ d L:Int)
 | [],d,_=>⟨Int.dvd_refl _,fun s h=>by simp at h⟩
 | s::r,d,h=>by
  obtain⟨g,l⟩:=BS (L:=r) (d:=axe d (Ck s).toNat) fun x b=>h x (aul _ b);have h0:=h s atI;refine⟨awn (Int.natCast_dvd_natCast.2 (Nat.dvd_lcm_left _ _)) g,fun x b=>?_⟩;rcases avn.1 b with rfl | b
  ·have j:((Ck x).toNat:Int) ∣ ((axe d (Ck x).toNat:Nat):Int):=Int.natCast_dvd_natCast.2 (Nat.dvd_lcm_right _ _);rw [awR h0]at j;exact awn j g
  ·exact l x b
end Go.Proofs.YtnaofdffomdmhaaGreat
namespace Go.Proofs.YtnaofdffomdmhaaGreat
open Go Km
theorem aoQ{f:Nat}{args:List V}{H:aj}{S:V→aj→Prop}{ps:List P}{res:List gH}{body:aG}(z:tab f=aa ⟨ps,res,body⟩)(y:args.length=ps.length)
  (h:∀ Q:Option aG→St→Prop,(∀ j s r,(∃ b,s.defs=b.map .gZ∧fI b s.heap∧Km.results s.aD (mP b s.heap) res=aa r∧S r (mP b s.heap))→Q j s)→WP tab f ab [.code body] ⟨cN ps args .e,[],H⟩ Q):∃ r H',Ev tab (.fn f) args H r H'∧S r H':=by
 have l:=h (fun _ s=>∃ r,∃ b,s.defs=b.map .gZ∧fI b s.heap∧Km.results s.aD (mP b s.heap) res=aa r∧S r (mP b s.heap)) fun _ _ r g=>⟨r,g⟩
 obtain⟨n,m,d,j,s,g,r,b,x,v,q,u⟩:=l;exact⟨r,mP b s.heap,tc z y ⟨n,m,d,j,s,g,0,0,_,by rw [x];exact kG v,q,rfl⟩,u⟩
theorem B_:∀ {d:List Nat} {H:aj},(mP d H).length=H.length
 | [],_=>rfl| b::d,H=>by rw [mP,B_,avw]
end Go.Proofs.YtnaofdffomdmhaaGreat
namespace Go.Proofs.YtnaofdffomdmhaaGreat
open Go Km
theorem Be{q:Type}{r:q→q→Bool}(b:∀ x y,r x y=r y x):∀ {l:List q},l.Pairwise (fun x y=>r x y=ag)→∀ x ∈ l,∀ y ∈ l,r x y=ae→x=y
 | [],_,x,j,_,_,_=>by cases j
 | a::l,h,x,j,y,u,d=>by
  rcases avn.1 j with s | v
  ·rcases avn.1 u with g | m
   ·rw [s,g]
   ·rw [s,awh h m]at d;cases d
  ·rcases avn.1 u with g | m
   ·rw [g,b,awh h v]at d;cases d
   ·exact Be b (awX h) x v y m d
def mE(a b:av):Bool:=decide (a.meet<b.meet)||(decide (a.meet=b.meet)&&decide (a.room<b.room))
def kY(s:av):List av→List av
 | []=>[s]| x::r=>if mE s x then s::x::r else x::kY s r
theorem jG(s:av):∀ l:List av,(kY s l).Perm (l++[s])
 | []=>.refl _
 | x::r=>by
  simp only [kY];split
  ·exact(List.perm_append_comm (l₁:=[s]) (l₂:=x::r))
  ·exact(jG s r).cons x
theorem yB{a b:av}:mE a b=ae↔a.meet<b.meet∨a.meet=b.meet∧a.room<b.room:=by simp [mE]
theorem tZ(s:av):∀ {l:List av},l.Pairwise jf→(kY s l).Pairwise jf
 | [],_=>awE _ _
 | x::r,h=>by
  simp only [kY];split
  ·rename_i d;rw [yB]at d;refine avZ.2 ⟨fun y b=>?_,h⟩;rcases avn.1 b with rfl | b
   ·unfold jf;omega
   ·have:=awh h b;unfold jf at *;omega
  ·rename_i d;have g:¬ (s.meet<x.meet∨s.meet=x.meet∧s.room<x.room):=fun e=>d (yB.2 e);refine avZ.2 ⟨fun y b=>?_,tZ s (awX h)⟩;have:y ∈ r++[s]:=(jG s r).mem_iff.1 b;rcases avq.1 this with b | b
   ·exact awh h b
   ·obtain rfl:=avh.1 b;exact g
def srt:List av→List av
 | []=>[]| s::r=>kY s (srt r)
theorem lG:∀ l:List av,(srt l).Perm l
 | []=>.refl _| s::r=>(jG s _).trans (List.perm_append_comm.trans ((lG r).cons s))
theorem EO:∀ l:List av,(srt l).Pairwise jf
 | []=>.nil| s::r=>tZ s (EO r)
def gw(l:List av):Prop:=l.Pairwise fun x y=>bZ x y=ag
theorem pK(x y:av):bZ x y=bZ y x:=by simp only [bZ,eq_comm]
theorem gw.perm{l l':List av}(h:gw l)(b:l'.Perm l):gw l':=(b.pairwise_iff (fun {x y} e=>by rw [pK];exact e)).2 h
theorem yX{l A:List av}(h:gw l)(b:A.Perm l)(j:A.Pairwise jf):A=srt l:=
 uY (b.trans (lG l).symm) j (EO l) fun x m y q d g=>Be (r:=bZ) pK h x (b.mem_iff.1 m) y (b.mem_iff.1 q) (sF.2 (by unfold jf at d g;omega))
def gC(x y:av):Prop:=x.meet<y.meet∨x.meet=y.meet∧x.room<y.room
theorem aeL{l:List av}(h:gw l):(srt l).Pairwise gC:=by
 refine List.Pairwise.imp (fun {x y} e=>?_) ((EO l).and (h.perm (lG l)));have b:=e.1;have d:=e.2;unfold jf at b;have g:¬ (x.meet=y.meet∧x.room=y.room):=by simpa [bZ]using d
 unfold gC;omega
theorem pX{l0:List av}:∀ {l acc:List av},gw acc→(∀ x ∈ l0,∀ y ∈ acc,bZ x y=ag)→gw (uniq l0 acc l)∧∀ x ∈ l0,∀ y ∈ uniq l0 acc l,bZ x y=ag
 | [],acc,h,g=>⟨h,g⟩
 | s::l,acc,h,g=>by
  simp only [uniq];split
  ·exact pX h g
  ·rename_i j;simp only [Bool.or_eq_true,awd,not_or,not_exists,not_and,Bool.not_eq_true]at j;refine pX (av3.2 ⟨h,awE _ _,fun a q b u=>?_⟩) fun x m y d=>?_
   ·rw [avh.1 u];exact j.2 a q
   ·rcases avq.1 d with d | d
    ·exact g x m y d
    ·rw [avh.1 d];exact j.1 x m
def kM(l0:List av)(h:dm):List av:=srt (l0++uniq l0 [] (bB h.l))
theorem nO{l0:List av}(h0:gw l0)(h:dm):gw (l0++uniq l0 [] (bB h.l)):=by
 obtain⟨b,d⟩:=pX (l0:=l0) (l:=bB h.l) (acc:=[]) .nil (by simp);exact av3.2 ⟨h0,b,d⟩
theorem vq(h:dm):(bB h.l).length≤h.l.length:=by simp only [bB,avi];exact List.length_filter_le _ _
theorem Fo{l0:List av}(h:dm):(kM l0 h).length≤l0.length+h.l.length:=by
 have b:=nG (l0:=l0) (l:=bB h.l) (acc:=[]);have g:=vq h;have d:=(lG (l0++uniq l0 [] (bB h.l))).length_eq;unfold kM;simp at b d;omega
theorem BW{h:dm}{s:av}(b:s ∈ bB h.l):∃ x ∈ h.l,s=x.aU:=by
 simp only [bB,avx,avW]at b;obtain⟨y,⟨d,_⟩,rfl⟩:=b;exact⟨y,d,rfl⟩
theorem Fp{l0:List av}{h:dm}{s:av}(b:s ∈ kM l0 h):s ∈ l0∨∃ x ∈ h.l,s=x.aU:=by
 have:=(lG _).mem_iff.1 b;rcases avq.1 this with e | e
 ·exact .inl e
 ·rcases wI e with e | e
  ·cases e
  ·exact .inr (BW e)
end Go.Proofs.YtnaofdffomdmhaaGreat
