/-
  am1 ta nM kS and ta ni answer, for all arguments of adM kind, in ta small machine: part 2.
-/
import Derived.Test.YtnaofdffomdmhaaGreatS1
import Derived.Test.YtnaofdffomdmhaaGreatK4
import Derived.Test.YtnaofdffomdmhaaGreatK3
import Derived.Test.YtnaofdffomdmhaaGreatK5
open Option renaming some → aa,none → ab
open Bool renaming true → ae,false → ag
open List renaming getElem?_append_left → anc, drop_zero → au5, getElem?_append_right → atZ, getElem?_drop → auj, getElem_mem → at2, take_add_one → auz, getElem?_eq_getElem → asZ, mem_append → auh, mem_singleton → aua, take_length → auv, mem_append_left → au7, mem_append_right → avO, mem_cons_self → at4, mem_cons_of_mem → at5, map_inj_left → avl, mem_flatMap → avz, mem_map → auq, mem_filter → auS, any_eq_true → au3, mem_range → avb, getElem?_set_ne → aft, getElem?_eq_some_iff → atu, drop_eq_getElem_cons → at7, getElem?_set_self → atY, map_cons → aug, map_nil → aus, length_append → at6, length_set → aul, set_getElem_self → avr, length_map → at9, take_of_length_le → at8, mem_cons → auc, not_mem_nil → auT, getElem_of_mem → auI, take_append_of_le_length → auw, cons_append → auX, pairwise_append → au1, nil_append → ave, pairwise_cons → auN, pairwise_iff_getElem → auQ, pairwise_singleton → avw, map_append → au2, drop_length → au8, rel_of_pairwise_cons → au9
open Int renaming toNat_natCast → aui, lt_or_le → avo, toNat_of_nonneg → avI, dvd_trans → avg
open Nat renaming lcm → av7, le_refl → at3, add_mul → auF, one_mul → av1, zero_add → auH
open Prod.mk renaming inj → auC
open Bool renaming and_eq_true → atI
open Option.some renaming inj → avY
open List.Pairwise renaming of_cons → avP
set_option linter.unusedVariables false
set_option linter.constructorNameAsVariable false
set_option linter.unusedSimpArgs false
set_option linter.unusedSectionVars false
set_option linter.unnecessarySimpa false
set_option maxRecDepth 100000
namespace Go.Proofs.YtnaofdffomdmhaaGreat
open Go Km
theorem qz{n b:Nat}(g:n≤1100000)(d:b≤4096):bU n b=ae:=by
 have h:(2*n+768)*b≤2200768*4096:=Nat.mul_le_mul (by omega) d;simp [bU];omega
theorem Qz(g:Tg)(ps:List bM)(B:∀ p ∈ ps,Mod p)(I:1≤ps.length)(F:ps.length≤64):∃ b,(b=ae↔uR [] ps)∧Kf tab 177 [.c (.f (sl g (ba ps)))] (vb b):=by
 obtain⟨b,z⟩:∃ b:Bool,b=ae↔uR [] ps:=⟨open Classical in decide (uR [] ps),by simp⟩
 refine⟨b,z,cP rfl rfl fun H Q E=>?_⟩;have u:RH H (H++[.box [.f (sl g (ba ps))] 0,.box (List.replicate ps.length (C.f (fi 0))) 0,.box [.sl (H.length+1) 0 ps.length ps.length 0 1] 0,.box [.cl 255 [.ptr H.length 0 0,.ptr (H.length+2) 0 0,.ptr (H.length+3) 0 0]] 0]) g ps (List.replicate ps.length 0):=by
  refine⟨⟨0,by simp⟩,by simp,by simp,by simp,fun i hi=>anc hi⟩
 obtain⟨v,H',d,A,rfl,q,K,m,-⟩:=as6 H rfl g ps B F ps.length 0 (by omega) _ _ [] u (by simp) rfl (fun j h=>absurd h (Nat.not_lt_zero j));rw [au5,←z]at q;have x:A=b:=by rw [Bool.eq_iff_iff];exact q
 subst x;have d:=d.eq;simp only [show((0:Nat):Int)=0 from rfl]at d;apply ai;simp;have l:bU ps.length 8=ae:=qz (by omega) (by decide);have y:∀(t:T) (H:aj),t.g 6=vi ps.length→bu t H (.dR 1 8 [.int .i64 0] (R 6) (R 6))=aa (.c (.sl H.length 0 ps.length ps.length 0 1),H++[.box (List.replicate ps.length (C.f (fi 0))) 0]):=by
  intro t H h;have e:(cE ps.length [fi 0]).map C.f=List.replicate ps.length (C.f (fi 0)):=by simp [cE]
  simp only [bu,DF,h,ik];rw [bg ⟨by omega,Int.le_refl _,by simpa using l,rfl⟩];rw [aY (by omega),aui,e]
 apply ai;simp [y];apply ai;simp;apply ai;simp;apply ai;simp [bZ,d];have s:H'=H++H'.drop H.length:=by
  refine List.ext_getElem? fun i=>?_;have J:=au m.2.2.2.1;rcases Nat.lt_or_ge i H.length with h | h
  ·exact(m.2.2.2.2 i h).trans (anc h).symm
  ·refine Eq.trans ?_ (atZ h).symm;rw [auj,Nat.add_sub_cancel' h]
 refine aC (E _ _ ?_);simp;exact⟨_,s⟩
theorem QA(g:Tg)(ps:List bM)(j:∀ p ∈ ps,Mod p)(d:1≤ps.length)(m:ps.length≤64):∃ b,(b=ae↔uR [] ps)∧bo tab 177 [.c (.f (sl g (ba ps)))]=Eq (vb b):=by
 obtain⟨b,l,h⟩:=Qz g ps j d m;exact⟨b,l,h.eq⟩
def ie(S:Int→Prop)(l:Int)(f:Bool):Prop:=(f=ag∧l=0∧∀ d,¬ S d)∨(f=ae∧S l∧∀ d,S d→l≤d)
theorem ie.iff{S S':Int→Prop}{l:Int}{f:Bool}(h:ie S l f)(g:∀ d,S' d↔S d):ie S' l f:=by
 rcases h with⟨a,b,c⟩ | ⟨a,b,c⟩
 ·exact .inl ⟨a,b,fun d j=>c d ((g d).1 j)⟩
 ·exact .inr ⟨a,(g _).2 b,fun d j=>c d ((g d).1 j)⟩
theorem ie.step{S S':Int→Prop}{l x:Int}{f:Bool}(h:ie S l f)(g:∀ d,S' d↔S d∨d=x):ie S' (if f=ag∨x<l then x else l) ae:=by
 right;rcases h with⟨rfl,rfl,c⟩ | ⟨rfl,b,c⟩
 ·refine⟨rfl,by simpa using (g x).2 (.inr rfl),fun d j=>?_⟩;rcases(g d).1 j with h | rfl
  ·exact absurd h (c d)
  ·simp
 ·refine⟨rfl,?_,fun d j=>?_⟩
  ·by_cases k:x<l
   ·simpa [k]using (g x).2 (.inr rfl)
   ·simpa [k]using (g l).2 (.inl b)
  ·rcases(g d).1 j with h | rfl
   ·have:=c d h;by_cases k:x<l<;>simp [k]<;>omega
   ·by_cases k:d<l<;>simp [k];omega
def lG(ps:List bM)(n:Int)(l:List bM)(d:Int):Prop:=n≤d∧vN ps d=ae∧∃ p ∈ l,d ∈ p.head
theorem abJ(g:Tg)(ps:List bM)(hP:∀ p ∈ ps,gF p=ae)(hl:ps.length≤64)(n:Int):∃ e f,ie (lG ps n ps) e f∧bo tab 176 [.c (.f (sl g (ba ps))),vi n]=Eq (.t [vi e,vb f]):=by
 have key:∃ r,(∃ e f,ie (lG ps n ps) e f∧r=.t [vi e,vb f])∧bo tab 176 [.c (.f (sl g (ba ps))),vi n] r:=by
  refine dG rfl rfl fun Q hQ=>?_;apply ai;simp;apply ai;simp;apply al;apply ai;simp;refine bR ps.length (fun j t H'=>t.g 0=.c (.f (sl g (ba ps)))∧t.g 1=vi n∧t.g 12=.c (.f (sl g (ba ps)))∧∃ e f,t.g 6=vi e∧t.g 7=vb f∧ie (lG ps n (ps.take j)) e f) (by omega) (by decide) (by decide) (by simp) (by simp)
   ⟨by simp,by simp,by simp,0,ag,by simp,by simp,.inl ⟨rfl,rfl,fun d hd=>by obtain⟨_,_,p,hp,_⟩:=hd;simp at hp⟩⟩ ?_ ?_
  ·rintro j t H hj ⟨g0,s,b,e,f,A,B,M⟩ ha hb next
   obtain⟨p,hp⟩:=aK (ps[j]);have b9:p ∈ ps:=hp▸at2 hj;obtain⟨f0,f1,p0,p1,Az,-,a8,-⟩:=fu (hP p b9);have N:=fun H:aj=>bL (H:=H) (cq ps) (dQ (l:=ps) (j:=j) hj);have U:=fun H:aj=>bt (H:=H) (g:=g) (rows:=ba ps) (sz:=4) (k:=.i64) (i:=j) (by omega) (by simpa using hj);rw [←hp]at N;simp [bM.row]at N U;have b_:ps.take (j+1)=ps.take j++[p]:=by rw [auz,asZ hj,hp];rfl
   refine aF ?_;apply ai;simp [b,ha,U,N];apply ai;simp;refine bR p.head.length (fun i t H'=>t.g 0=.c (.f (sl g (ba ps)))∧t.g 1=vi n∧t.g 12=.c (.f (sl g (ba ps)))∧t.g 14=vi j∧t.g 13=vi ps.length∧t.g 19=.c (.f (sl p.hg (ints p.head))) ∧
    ∃ e f,t.g 6=vi e∧t.g 7=vb f∧ie (fun d=>lG ps n (ps.take j) d∨(n≤d∧vN ps d=ae∧d ∈ p.head.take i)) e f) (by omega) (by decide) (by decide) (by simp) (by simp)
    ⟨by simp [g0],by simp [s],by simp [b],by simp [ha],by simp [hb],by simp,e,f,by simp [A],by simp [B],M.iff fun d=>by simp⟩ ?_ ?_
   ·rintro i t H hi ⟨g0,s,b,v,u,y,e,f,A,B,M⟩ J L nx;obtain⟨x,hx⟩:=aK (p.head[i]);have c_:x ∈ p.head:=hx▸at2 hi;have i4:=a8 x c_;have a7:=fun H:aj=>jG (H:=H) hi;rw [←hx]at a7;have z:=(ak3 g ps (by omega) hP x (by unfold Day;omega)).eq;have W:p.head.take (i+1)=p.head.take i++[x]:=by rw [auz,asZ hi,hx];rfl
    refine aF ?_;apply ai;simp [J,y,bt,hi,a7];have cM:¬ (n≤x∧vN ps x=ae)→ie (fun d=>lG ps n (ps.take j) d∨(n≤d∧vN ps d=ae∧d ∈ p.head.take (i+1))) e f:=fun a_=>M.iff fun d=>by
     rw [W,auh,aua];constructor
     ·rintro(h | ⟨E,F,I | rfl⟩)
      ·exact .inl h
      ·exact .inr ⟨E,F,I⟩
      ·exact absurd ⟨E,F⟩ a_
     ·rintro(h | ⟨E,F,I⟩)
      ·exact .inl h
      ·exact .inr ⟨E,F,.inl I⟩
    have O:(n≤x∧vN ps x=ae)→ie (fun d=>lG ps n (ps.take j) d∨(n≤d∧vN ps d=ae∧d ∈ p.head.take (i+1))) (if f=ag∨x<e then x else e) ae:=fun X=>M.step fun d=>by
     rw [W,auh,aua];constructor
     ·rintro(h | ⟨E,F,I | rfl⟩)
      ·exact .inl (.inl h)
      ·exact .inl (.inr ⟨E,F,I⟩)
      ·exact .inr rfl
     ·rintro((h | ⟨E,F,I⟩) | rfl)
      ·exact .inl h
      ·exact .inr ⟨E,F,.inl I⟩
      ·exact .inr ⟨X.1,X.2,.inr rfl⟩
    have K:∀(t:T) (H:aj) (e':Int) (f':Bool),t.g 0=.c (.f (sl g (ba ps)))→t.g 1=vi n→t.g 12=.c (.f (sl g (ba ps)))→t.g 14=vi j→t.g 13=vi ps.length→t.g 19=.c (.f (sl p.hg (ints p.head)))→t.g 21=vi i→t.g 20=vi p.head.length→t.g 6=vi e'→t.g 7=vb f'→ie (fun d=>lG ps n (ps.take j) d∨(n≤d∧vN ps d=ae∧d ∈ p.head.take (i+1))) e' f' →
      WP tab 176 ab [.code Bb,.inLoop Ba,.inBlock 2,.inBlock 1,.code Bc,.inLoop Fq,.inBlock 0,.code Bd] ⟨t,[],H⟩ Q:=by
     intro t H e' f' q0 q1 d9 e_ d_ f_ h_ g_ q6 q7 qm;refine nx _ _ ?_ h_ g_;exact⟨by simp [q0],by simp [q1],by simp [d9],by simp [e_],by simp [d_],by simp [f_],e',f',by simp [q6],by simp [q7],qm⟩
    by_cases S:n≤x
    ·cases f with
     | false=>
      cases m:vN ps x with
      | false=>
       rw [m]at z;apply ai;simp [g0,s,A,B,S,z];refine aD (by simp) (aO (az ?_));exact K _ _ e ag (by simp [g0]) (by simp [s]) (by simp [b]) (by simp [v]) (by simp [u]) (by simp [y]) (by simp [J]) (by simp [L]) (by simp [A]) (by simp [B]) (cM (by simp [m]))
      | true=>
       rw [m]at z;apply ai;simp [g0,s,A,B,S,z];refine aq (by simp) (an (.inl rfl) ?_);simp;refine az ?_;exact K _ _ x ae (by simp [g0]) (by simp [s]) (by simp [b]) (by simp [v]) (by simp [u]) (by simp [y]) (by simp [J]) (by simp [L]) (by simp) (by simp) (by have:=O ⟨S,m⟩;simpa using this)
     | true=>
      by_cases Z:x<e
      ·cases m:vN ps x with
       | false=>
        rw [m]at z;apply ai;simp [g0,s,A,B,S,Z,z];refine aD (by simp) (aO (az ?_));exact K _ _ e ae (by simp [g0]) (by simp [s]) (by simp [b]) (by simp [v]) (by simp [u]) (by simp [y]) (by simp [J]) (by simp [L]) (by simp [A]) (by simp [B]) (cM (by simp [m]))
       | true=>
        rw [m]at z;apply ai;simp [g0,s,A,B,S,Z,z];refine aq (by simp) (an (.inl rfl) ?_);simp;refine az ?_;exact K _ _ x ae (by simp [g0]) (by simp [s]) (by simp [b]) (by simp [v]) (by simp [u]) (by simp [y]) (by simp [J]) (by simp [L]) (by simp) (by simp) (by have:=O ⟨S,m⟩;simpa [Z]using this)
      ·apply ai;simp [g0,s,A,B,S,Z];refine aD (by simp) (aO (az ?_));refine K _ _ e ae (by simp [g0]) (by simp [s]) (by simp [b]) (by simp [v]) (by simp [u]) (by simp [y]) (by simp [J]) (by simp [L]) (by simp [A]) (by simp [B]) ?_;cases m:vN ps x with
       | false=>exact cM (by simp [m])
       | true=>have:=O ⟨S,m⟩;simpa [Z]using this
    ·apply ai;simp [g0,s,A,B,S];refine aD (by simp) (aO (az ?_));exact K _ _ e f (by simp [g0]) (by simp [s]) (by simp [b]) (by simp [v]) (by simp [u]) (by simp [y]) (by simp [J]) (by simp [L]) (by simp [A]) (by simp [B]) (cM fun h=>S h.1)
   ·rintro t H ⟨g0,s,b,v,u,y,e,f,A,B,M⟩ - -;rw [auv]at M;refine az (next _ _ ?_ (by simp [v]) (by simp [u]));refine⟨by simp [g0],by simp [s],by simp [b],e,f,by simp [A],by simp [B],M.iff fun d=>?_⟩;unfold lG;rw [b_];constructor
    ·rintro⟨E,F,q,Y,I⟩;rcases auh.1 Y with Y | Y
     ·exact .inl ⟨E,F,q,Y,I⟩
     ·rw [aua.1 Y]at I;exact .inr ⟨E,F,I⟩
    ·rintro(⟨E,F,q,Y,I⟩ | ⟨E,F,I⟩)
     ·exact⟨E,F,q,au7 _ Y,I⟩
     ·exact⟨E,F,p,avO _ (aua.2 rfl),I⟩
  ·rintro t H ⟨g0,s,b,e,f,A,B,M⟩ ha hb;rw [auv]at M;apply ai;simp [A,B];refine aC (hQ _ _ _ ⟨e,f,M,rfl⟩ ?_);simp
 obtain⟨r,⟨e,f,M,rfl⟩,h⟩:=key;exact⟨e,f,M,h.eq⟩
end Go.Proofs.YtnaofdffomdmhaaGreat
namespace Go.Proofs.YtnaofdffomdmhaaGreat
open Go Km
structure yk(ps:List bM):Prop where
 l1:1≤ps.length
 l2:ps.length≤64
 mod:∀ p ∈ ps,Mod p
 prod:fQ ps≤1000000
 st:dm ps≤1000000000000
theorem yk.eS{ps:List bM}(h:yk ps):∀ p ∈ ps,gF p=ae:=fun p b=>(h.mod p b).ok
def InN(ps:List bM)(n x:Int):Prop:=n≤x∧vN ps x=ae
theorem Gd{ps:List bM}{x:Int}(b:0≤x):vN ps x=ae↔∀ p ∈ ps,xH p x=ae:=by
 simp [vN,hasB,b]
theorem zx{x:Int}:∀ {l:List bM},0≤x→x<dm l→∃ p ∈ l,x<p.fr
 | [],h0,h=>by simp only [dm]at h;omega
 | q::l,h0,h=>by
  simp only [dm]at h;by_cases k:x<q.fr
  ·exact⟨q,at4,k⟩
  ·obtain⟨p,b,e⟩:=zx (x:=x) (l:=l) h0 (by omega);exact⟨p,at5 _ b,e⟩
theorem B7{ps:List bM}(h:yk ps){n x:Int}(j:0≤n)(l:dm ps≤x):InN ps n x↔max n (dm ps)≤x∧∀ p ∈ ps,ka p x:=by
 have h0:=nS ps;unfold InN;rw [Gd (by omega)];constructor
 ·rintro⟨g,d⟩;exact⟨by omega,fun p b=>(Cj (h.mod p b) (by have:=nR b;omega)).1 (d p b)⟩
 ·rintro⟨g,d⟩;exact⟨by omega,fun p b=>(Cj (h.mod p b) (by have:=nR b;omega)).2 (d p b)⟩
theorem aky(g:Tg)(ps:List bM)(h:yk ps)(n:Int)(J:0≤n)(W:n≤1000000000000):∃ d f q z,ie (InN ps n) d f∧(0≤d∧d≤1000001000000) ∧
  bo tab 176 [.c (.f (sl g (ba ps))),vi n]=Eq (.t [vi q,vb z]) ∧
  ((z=ae∧d=q∧f=ae)∨(z=ag∧q=0∧∃ b,bo tab 177 [.c (.f (sl g (ba ps)))]=Eq (vb b)∧((b=ag∧d=0∧f=ag)∨(b=ae∧bo tab 178 [.c (.f (sl g (ba ps))),vi n]=Eq (.t [vi d,vb f]))))):=by
 obtain⟨q,z,U,A⟩:=abJ g ps h.eS h.l2 n;have Y:=nS ps;have Z:=h.st;have X:=h.prod;have u:∀ x,InN ps n x→x<dm ps→lG ps n ps x:=by
  rintro x ⟨N,H⟩ l;obtain⟨p,y,S⟩:=zx (by omega) l;refine⟨N,H,p,y,?_⟩;have:=(Gd (by omega)).1 H p y;unfold xH at this;rw [aY (by omega),decide_eq_true_eq]at this;exact this
 rcases U with⟨rfl,rfl,F⟩ | ⟨rfl,O,v⟩
 ·have B:∀ x,InN ps n x→dm ps≤x:=fun x l=>by
   rcases avo x (dm ps)with k | k
   ·exact absurd (u x l k) (F x)
   ·exact k
  have j:∀ x,InN ps n x↔max n (dm ps)≤x∧∀ p ∈ ps,ka p x:=fun x=>by
   constructor
   ·intro l;exact(B7 h J (B x l)).1 l
   ·intro l;exact(B7 h J (by omega)).2 l
  obtain⟨b,I,m⟩:=QA g ps h.mod h.l1 h.l2;cases b with
  | false=>
   refine⟨0,ag,0,ag,.inl ⟨rfl,rfl,fun x l=>?_⟩,⟨by omega,by omega⟩,A,.inr ⟨rfl,rfl,ag,m,.inl ⟨rfl,rfl,rfl⟩⟩⟩;have:=I.2 (GB (d:=x) ps [] (by simp) ((j x).1 l).2);cases this
  | true=>
   rcases aja g ps h.mod h.l2 h.prod n _ rfl (by omega)with⟨d,⟨K,L,d3,M⟩,E⟩ | ⟨s,E⟩
   ·exact⟨d,ae,0,ag,.inr ⟨rfl,(j d).2 ⟨K,L⟩,fun x l=>M x ((j x).1 l).1 ((j x).1 l).2⟩,⟨by omega,by omega⟩,A,.inr ⟨rfl,rfl,ae,m,.inr ⟨rfl,E⟩⟩⟩
   ·exact⟨0,ag,0,ag,.inl ⟨rfl,rfl,fun x l=>s x ((j x).1 l).1 ((j x).1 l).2⟩,⟨by omega,by omega⟩,A,.inr ⟨rfl,rfl,ae,m,.inr ⟨rfl,E⟩⟩⟩
 ·obtain⟨s1,s2,p,y,Q⟩:=O;have I:=(fu (h.eS p y)).2.2.2.2.2.2.1 q Q;have:=nR y;refine⟨q,ae,q,ae,.inr ⟨rfl,⟨s1,s2⟩,fun x l=>?_⟩,⟨by omega,by omega⟩,A,.inl ⟨rfl,rfl,rfl⟩⟩;rcases avo x (dm ps)with k | k
  ·exact v x (u x l k)
  ·omega
theorem ie.join{S S1 q:Int→Prop}{l x:Int}{f m:Bool}(h1:ie S1 l f)(h2:ie q x m)(g:∀ d,S d↔S1 d∨q d):ie S (if m=ae∧(f=ag∨x<l)then x else l) (f||m):=by
 rcases h1 with⟨rfl,rfl,a⟩ | ⟨rfl,a,b⟩<;>rcases h2 with⟨rfl,rfl,c⟩ | ⟨rfl,c,e⟩
 ·refine .inl ⟨rfl,by simp,fun d j=>?_⟩;rcases(g d).1 j with h | h
  ·exact a d h
  ·exact c d h
 ·refine .inr ⟨rfl,by simpa using (g x).2 (.inr c),fun d j=>?_⟩;rcases(g d).1 j with h | h
  ·exact absurd h (a d)
  ·simpa using e d h
 ·refine .inr ⟨rfl,by simpa using (g l).2 (.inl a),fun d j=>?_⟩;rcases(g d).1 j with h | h
  ·simpa using b d h
  ·exact absurd h (c d)
 ·refine .inr ⟨rfl,?_,fun d j=>?_⟩
  ·by_cases k:x<l
   ·simpa [k]using (g x).2 (.inr c)
   ·simpa [k]using (g l).2 (.inl a)
  ·rcases(g d).1 j with h | h
   ·have:=b d h;by_cases k:x<l<;>simp [k]<;>omega
   ·have:=e d h;by_cases k:x<l<;>simp [k]<;>omega
def QH(H:aj)(n b:Int)(found:Bool):Prop:=H[0]?=aa (.box [.f (fi n)] 0)∧H[1]?=aa (.box [.f (fi b)] 0)∧H[2]?=aa (.box [.f (.bool found)] 0)∧H[3]?=aa (.eZ ae) ∧
 ∃ s:T,H[4]?=aa (.lp 107 s [P.nat 12] dr cU .ready ab 3)∧s.g 3=.c (.ptr 0 0 0)∧s.g 6=.c (.ptr 1 0 0)∧s.g 7=.c (.ptr 2 0 0)
end Go.Proofs.YtnaofdffomdmhaaGreat
namespace Go.Proofs.YtnaofdffomdmhaaGreat
open Go Km
theorem jK{k:IntKind}{a b:Int}(h:0≤a)(d:b≠0):dp .rem (.c (.f (.int k a))) (.c (.f (.int k b)))=aa (.c (.f (.int k (a % b)))):=by
 rw [iy d,Int.tmod_eq_emod_of_nonneg h]
def mU:FC:=.fs [.fs [.fs [.aw,fi 0,fi 1,.fs [fi 0] 1] 1] 1,fi 0,fi 1440] 1
def mw(af:Int)(d:Tg)(q:List (Int × Int))(b:Tg)(p:List Int):cC:=⟨10,0,af,fi 0,.fs [fi 3] 1,fi (-1),.aw,fi 0,.aw,fi 0,.aw,mU,.aw,d,q,b,p⟩
def ct(af b:Int):List cC:=[mw af .fs [(1,b)] .nil [],mw af .nil [] .nil [],mw af .nil [] .fs [0,1]]
def ac3(af b:Int):V:=.c (.f (sl .fs (rows (ct af b))))
set_option maxRecDepth 10000
theorem ac4(a q:Int)(j:0≤a)(a1:a≤255)(s:0≤q)(u:q≤65535):bo tab 31 [.c (.f (.int .u8 a)),.c (.f (.int .u16 q))]=Eq (ac3 (a % 40) (q % 3000)):=bo.eq (by
 refine bV rfl rfl fun Q l=>?_;have g:=jK (k:=.u8) (b:=40) j (by decide);have d:=jK (k:=.i64) (b:=3000) s (by decide);apply ai;simp;apply ai;simp;apply ai;simp;apply ai;simp [g,aW (n:=a % 40)];refine al (fe (.inl rfl) ?_ ?_)
 case _=>
  simp;apply ai;simp [aW (n:=q),d];apply ai;simp;apply ai;simp;refine aC (l _ _ ?_);simp [iZ,cD,deep,mr,bj,ac3,ct,rows,cC.row,mw,mU,sl,Tg.fc,gz,ints]
 ·intro c m;rw [aua.1 m];refine⟨by decide,_,rfl,.inl ⟨by decide,?_⟩⟩;simp [gl,V.beq,iG,C.beq,FC.beq])
def u8s(l:List Int):List C:=l.map fun x=>.f (.int .u8 x)
theorem adE(l s u m d g q j:Int)(h:∀ x ∈ [l,s,u,m,d,g,q,j],0≤x∧x≤255) :
  bo tab 37 [.a (u8s [l,s,u,m,d,g,q,j])]=Eq (.a ((oy (1+l % 7) (s % 3) (u % 3) (1+m % 12) (1+d % 6) (g % (1+d % 6)) (20*(q % 60)) (10+10*(j % 30))).row.map .f)):=bo.eq (by
 have b0:=h l (by simp);have b1:=h s (by simp);have v:=h u (by simp);have y:=h m (by simp);have z:=h d (by simp);have A:=h g (by simp);have B:=h q (by simp);have E:=h j (by simp);refine bV rfl rfl fun Q O=>?_;have F:=jK (k:=.u8) (b:=7) b0.1 (by decide);have H:=jK (k:=.u8) (b:=3) b1.1 (by decide);have I:=jK (k:=.u8) (b:=3) v.1 (by decide);have J:=jK (k:=.u8) (b:=12) y.1 (by decide);have K:=jK (k:=.u8) (b:=6) z.1 (by decide);have L:=jK (k:=.i64) (b:=1+d % 6) A.1 (by omega);have M:=jK (k:=.u8) (b:=60) B.1 (by decide);have N:=jK (k:=.u8) (b:=30) E.1 (by decide);have S:=Int.emod_nonneg g (show 1+d % 6≠0 by omega);have U:=Int.emod_lt_of_pos g (show 0<1+d % 6 by omega);apply ai;simp [u8s];apply ai;simp [K,aW (n:=d % 6),aW (n:=1+d % 6)];apply ai;simp [aW (n:=g),L];apply ai;simp [N,M,aW (n:=j % 30),aW (n:=10*(j % 30)),aW (n:=10+10*(j % 30)),aW (n:=q % 60),aW (n:=20*(q % 60))];apply ai;simp [F,H,I,J,aW (n:=l % 7),aW (n:=1+l % 7),aW (n:=s % 3),aW (n:=u % 3),aW (n:=m % 12),aW (n:=1+m % 12)];refine aC (O _ _ ?_);simp [iZ,cD,deep,mr,bj,oy,av.row,aH,aN,cL.row,aM,dx.row,ba,bM.row,ints,sl,Tg.fc])
end Go.Proofs.YtnaofdffomdmhaaGreat
namespace Go.Proofs.YtnaofdffomdmhaaGreat
open Go Km
theorem asU(args:List V)(H:aj)(h:tab.get fo=ab):tab.sX fo args H=Km.sX fo args H:=by
 show(match tab.get fo with | some _=>ab | none=>Km.sX fo args H)=_;rw [h]
abbrev RK(f:Nat)(args:List V)(r:V):Prop:=bB tab 400 60 (.fn f) args .e 0 (isR r)
theorem mv{f:Nat}{args:List V}{r:V}(h:RK f args r=(r=r)):bo tab f args=Eq r:=(acX asU h).eq
theorem xc{d:Type}{L:List d}{f:Nat}{args:d→List V}{b:d→V}(h:L.map (fun x=>RK f (args x) (b x))=L.map fun x=>(b x=b x)){x:d}(g:x ∈ L):bo tab f (args x)=Eq (b x):=
 mv (avl.1 h x g)
def mx(n p:Int):V:=.a [.f (.fs [.fs [.aw,fi 0,fi n,.fs [fi p] 1] 1] 1)]
def oS:V:=.a [.f .aw]
def pj:V:=.a [.f (.fs [.fs [.es,fi 0,fi 1,.fs [fi 0] 1] 1] 1)]
def fam:List (Int × Int):=[(1,0),(2,0),(2,1),(3,0),(3,1),(3,2),(4,0),(4,1),(4,2),(4,3),(5,0),(5,1),(5,2),(5,3),(5,4),(6,0),(6,1),(6,2),(6,3),(6,4),(6,5)]
def AS(n p:Int):Prop:=1≤n∧n≤6∧0≤p∧p<n
theorem jZ{n p:Int}(h:AS n p):(n,p) ∈ fam:=by
 obtain⟨b,d,g,j⟩:=h;obtain rfl | rfl | rfl | rfl | rfl | rfl:n=1∨n=2∨n=3∨n=4∨n=5∨n=6:=by omega
 all_goals obtain rfl | rfl | rfl | rfl | rfl | rfl:p=0∨p=1∨p=2∨p=3∨p=4∨p=5:=by omega
 all_goals first | omega | simp [fam]
def QG(n p:Int):Int:=if p=0 then n-1 else p-1
theorem lP:fam.map (fun x=>(RK 106 [mx x.1 x.2,vi (-1)] (.t [mx x.1 (QG x.1 x.2),vi 0]),RK 214 [mx x.1 x.2] (.t [.a [.f .es,.f (fi 0),.f (fi x.1),.f (.fs [fi x.2] 1)],vi 0]),RK 210 [mx x.1 x.2,pj] (.t [oS,vi 0]),RK 210 [mx x.1 x.2,oS] (.t [mx x.1 x.2,vi 0]),RK 58 [mx x.1 x.2] (vb ag),RK 211 [mx x.1 x.2,vi 0] (.t [vi x.2,vb ae]))) =
  fam.map fun x=>((.t [mx x.1 (QG x.1 x.2),vi 0]:V)=.t [mx x.1 (QG x.1 x.2),vi 0],(.t [.a [.f .es,.f (fi 0),.f (fi x.1),.f (.fs [fi x.2] 1)],vi 0]:V)=.t [.a [.f .es,.f (fi 0),.f (fi x.1),.f (.fs [fi x.2] 1)],vi 0],(.t [oS,vi 0]:V)=.t [oS,vi 0],(.t [mx x.1 x.2,vi 0]:V)=.t [mx x.1 x.2,vi 0],vb ag=vb ag,(.t [vi x.2,vb ae]:V)=.t [vi x.2,vb ae]):=by kernel_rfl
end Go.Proofs.YtnaofdffomdmhaaGreat
namespace Go.Proofs.YtnaofdffomdmhaaGreat
open Go Km
def pE:V:=.a [.f .es,.f (fi 0),.f (fi 1),.f (.fs [fi 0] 1)]
def Gv:V:=.a [.f (fi 0),.f (.fs [fi 3] 1),.f (fi (-1)),.f .aw,.f (fi 0),.f .aw,.f (fi 0),.f .aw,.f mU,.f .aw]
def ace:List (Nat × Nat):=([1,2,3,4,5,6,10,12,15,20,30,60]:List Nat).flatMap fun d=>[(d,1),(d,2),(d,3),(d,4),(d,5),(d,6)]
theorem vX:([RK 290 [pE] pj,RK 57 [pj,mx 1 0] (.t [pj,vi 0]),RK 106 [mx 1 0,vi 0] (.t [mx 1 0,vi 0]),RK 106 [pj,vi 0] (.t [pj,vi 0]),RK 284 [oS,pj] (.t [pj,vi 0]),RK 284 [pj,oS] (.t [pj,vi 0]),RK 284 [oS,oS] (.t [oS,vi 0]),RK 287 [.c (.f .aw)] oS,RK 190 [Gv] (vi 0)],
  (List.range 60).map (fun k=>RK 276 [vi (20*k:Nat)] (.t [vi 0,vi (20*k:Nat)])),ace.map fun x=>RK 215 [vi (7*x.1:Nat),vi (x.2:Nat)] (.t [vi (7*av7 x.1 x.2:Nat),vi 0])) =
 ([pj=pj,(.t [pj,vi 0]:V)=.t [pj,vi 0],(.t [mx 1 0,vi 0]:V)=.t [mx 1 0,vi 0],(.t [pj,vi 0]:V)=.t [pj,vi 0],(.t [pj,vi 0]:V)=.t [pj,vi 0],(.t [pj,vi 0]:V)=.t [pj,vi 0],(.t [oS,vi 0]:V)=.t [oS,vi 0],oS=oS,vi 0=vi 0],
  (List.range 60).map (fun k=>((.t [vi 0,vi (20*k:Nat)]:V)=.t [vi 0,vi (20*k:Nat)])),ace.map fun x=>((.t [vi (7*av7 x.1 x.2:Nat),vi 0]:V)=.t [vi (7*av7 x.1 x.2:Nat),vi 0])):=by kernel_rfl
end Go.Proofs.YtnaofdffomdmhaaGreat
namespace Go.Proofs.YtnaofdffomdmhaaGreat
open Go Km
def com(x y:Int × Int):Bool:=(List.range 60).any fun d=>decide ((d:Int) % x.1=x.2)&&decide ((d:Int) % y.1=y.2)
def inc:List ((Int × Int) × Int × Int):=fam.flatMap fun x=>(fam.filter fun y=>!com x y).map fun y=>(x,y)
theorem aip:inc.map (fun z=>RK 57 [mx z.1.1 z.1.2,mx z.2.1 z.2.2] (.t [oS,vi 0]))=inc.map fun _=>((.t [oS,vi 0]:V)=.t [oS,vi 0]):=by kernel_rfl
theorem adU:(List.range 60).map (fun k=>RK 282 [.a [.f (fi 0),.f (.fs [fi 3] 1),.f (fi (-1)),.f .aw,.f (fi 0),.f .aw,.f (fi 0),.f .aw],vi (20*k:Nat)] (.t [.c (.f (.fs [fi 0,.es,fi 0,fi 1,.fs [fi 0] 1] 1)),vi 0]))=(List.range 60).map fun _=>((.t [.c (.f (.fs [fi 0,.es,fi 0,fi 1,.fs [fi 0] 1] 1)),vi 0]:V)=.t [.c (.f (.fs [fi 0,.es,fi 0,fi 1,.fs [fi 0] 1] 1)),vi 0]):=by kernel_rfl
theorem yF:bo tab 58 [oS]=Eq (vb ae):=mv (by kernel_rfl)
theorem acE:bo tab 211 [oS,vi 0]=Eq (.t [vi 0,vb ag]):=mv (by kernel_rfl)
end Go.Proofs.YtnaofdffomdmhaaGreat
namespace Go.Proofs.YtnaofdffomdmhaaGreat
open Go Km
section
variable{n p:Int}(h:AS n p)
include h
theorem adj:bo tab 106 [mx n p,vi (-1)]=Eq (.t [mx n (QG n p),vi 0]):=mv (auC (avl.1 lP _ (jZ h))).1
theorem ai8:bo tab 214 [mx n p]=Eq (.t [.a [.f .es,.f (fi 0),.f (fi n),.f (.fs [fi p] 1)],vi 0]):=mv (auC (auC (avl.1 lP _ (jZ h))).2).1
theorem Qh:bo tab 210 [mx n p,pj]=Eq (.t [oS,vi 0]):=mv (auC (auC (auC (avl.1 lP _ (jZ h))).2).2).1
theorem Qi:bo tab 210 [mx n p,oS]=Eq (.t [mx n p,vi 0]):=mv (auC (auC (auC (auC (avl.1 lP _ (jZ h))).2).2).2).1
theorem abK:bo tab 58 [mx n p]=Eq (vb ag):=mv (auC (auC (auC (auC (auC (avl.1 lP _ (jZ h))).2).2).2).2).1
theorem ajt:bo tab 211 [mx n p,vi 0]=Eq (.t [vi p,vb ae]):=mv (auC (auC (auC (auC (auC (avl.1 lP _ (jZ h))).2).2).2).2).2
end
theorem am8{n p m q:Int}(h:AS n p)(b:AS m q)(d:com (n,p) (m,q)=ag):bo tab 57 [mx n p,mx m q]=Eq (.t [oS,vi 0]):=
 xc (x:=((n,p),(m,q))) aip (by
  unfold inc;exact avz.2 ⟨(n,p),jZ h,auq.2 ⟨(m,q),auS.2 ⟨jZ b,by rw [d];rfl⟩,rfl⟩⟩)
theorem aiC{n p m q:Int}(h:com (n,p) (m,q)=ae):∃ d:Int,0≤d∧d<60∧d % n=p∧d % m=q:=by
 obtain⟨d,b,h⟩:=au3.1 h;simp only [atI,decide_eq_true_eq]at h;exact⟨d,by omega,by have:=avb.1 b;omega,h⟩
theorem akC{k:Nat}(b:k<60):bo tab 282 [.a [.f (fi 0),.f (.fs [fi 3] 1),.f (fi (-1)),.f .aw,.f (fi 0),.f .aw,.f (fi 0),.f .aw],vi (20*k:Nat)]=Eq (.t [.c (.f (.fs [fi 0,.es,fi 0,fi 1,.fs [fi 0] 1] 1)),vi 0]):=xc adU (avb.2 b)
theorem aiT(m r t z n p mi le:Int):Fix (oy m r t z n p mi le):=by
 unfold Fix;exact(qp (m:=400) (d:=60) (by kernel_rfl)).eq
end Go.Proofs.YtnaofdffomdmhaaGreat
namespace Km
open Go
theorem Kp.tr{H K L:aj}(h:Kp H K)(d:Kp K L):Kp H L:=⟨Nat.le_trans h.1 d.1,fun b l=>(d.2 b (Nat.lt_of_lt_of_le l h.1)).trans (h.2 b l)⟩
theorem Kp.get{H K:aj}(h:Kp H K){i:Nat}{y:bz}(hi:H[i]?=aa y):K[i]?=aa y:=by rw [h.2 i (au hi)];exact hi
theorem Kp.mG{H K:aj}(h:Kp H K){i:Nat}(hi:H.length≤i)(x:bz):Kp H (K.set i x):=⟨by simpa using h.1,fun b l=>by rw [aft (by omega)];exact h.2 b l⟩
end Km
namespace Go.Proofs.YtnaofdffomdmhaaGreat
open Go Km
def E1:FC:=.fs [.fs [.es,fi 0,fi 1,.fs [fi 0] 1] 1] 1
def S1:FC:=.fs [.fs [.aw,fi 0,fi 1,.fs [fi 0] 1] 1] 1
def ea:List FC:=[fi 0,.fs [fi 3] 1,fi (-1),.aw,fi 0,.aw,fi 0,.aw,mU,.aw]
theorem fZ:bo tab 290 [pE]=Eq pj∧bo tab 57 [pj,mx 1 0]=Eq (.t [pj,vi 0])∧bo tab 106 [mx 1 0,vi 0]=Eq (.t [mx 1 0,vi 0])∧bo tab 106 [pj,vi 0]=Eq (.t [pj,vi 0])∧bo tab 284 [oS,pj]=Eq (.t [pj,vi 0])∧bo tab 284 [pj,oS]=Eq (.t [pj,vi 0])∧bo tab 284 [oS,oS]=Eq (.t [oS,vi 0])∧bo tab 287 [.c (.f .aw)]=Eq oS∧bo tab 190 [Gv]=Eq (vi 0):=by
 have h:=(auC vX).1;simp only [List.cons.injEq,and_true]at h;obtain⟨b,d,g,j,l,m,q,s,u⟩:=h;have t:=fun {f:Nat} {a:List V} {r:V} (h:RK f a r=True)=>mv (h.trans (eq_true rfl).symm);exact⟨t b,t d,t g,t j,t l,t m,t q,t s,t u⟩
theorem adz{k:Nat}(b:k<60):bo tab 276 [vi (20*k:Nat)]=Eq (.t [vi 0,vi (20*k:Nat)]):=xc (auC (auC vX).2).1 (avb.2 b)
theorem anO{x:Nat × Nat}(h:x ∈ ace):bo tab 215 [vi (7*x.1:Nat),vi (x.2:Nat)]=Eq (.t [vi (7*av7 x.1 x.2:Nat),vi 0]):=xc (auC (auC vX).2).2 h
theorem anU:bo tab 210 [mx 1 0,oS]=Eq (.t [mx 1 0,vi 0]):=mv (auC (auC (auC (auC (avl.1 lP (1,0) (by simp [fam]))).2).2).2).1
theorem aqy{H:aj}(s:H[0]?=aa (.box (ea.map .f) 0)):∃ r H',Ev tab (.fn 286) [.a [.f S1],.c (.ptr 0 0 0)] H r H'∧(r=.t [.a [.f S1],vi 0]∧Kp H H'):=by
 refine cI rfl rfl fun Q q=>?_;have d:=fZ.2.2.2.2.2.2.2.1;have j:=anU;have u:∀ K:aj,Kp H K→aV K ab (.c (.ptr 0 9 0))=aa (.c (.f .aw)):=fun K b=>by simp [aV,aG,b.get s,ea]
 apply ai;simp;have b:=Kp.push H [bz.box [C.f S1] 0,bz.box [C.f FC.aw] 0];have l:(H++[bz.box [C.f S1] 0,bz.box [C.f FC.aw] 0])[H.length]?=aa (.box [.f S1] 0):=by simp
 have g:(H++[bz.box [C.f S1] 0,bz.box [C.f FC.aw] 0])[H.length+1]?=aa (.box [.f .aw] 0):=by simp
 generalize H++[bz.box [C.f S1] 0,bz.box [C.f FC.aw] 0]=K at b l g ⊢;have v:dh K (.ptr (H.length+1) 0 0) [.f S1]=aa (K.set (H.length+1) (.box [.f S1] 0)):=by simp [dh,g,bp]
 have m:aV K (aa 1) (.c (.ptr H.length 0 0))=aa (.a [.f S1]):=by simp [aV,aG,l,aT]
 apply ai;simp only [oS]at d;change bo tab 287 _=_ at d;change bo tab 210 [.a [.f S1],.a [.f .aw]]=Eq (.t [.a [.f S1],vi 0])at j;simp [m,u K b,d,j,v,-aA,-bl];refine aC (q _ _ _ rfl ?_ ⟨rfl,b.mG (by omega) _⟩);simp [Km.results,bj,au g,aT]
theorem aqp:bo tab 288 [vi 0]=Eq (.c (.f (.fn 354 [.fp [fi 0] 0]))):=bo.eq (by
 refine bV rfl rfl fun Q b=>?_;apply ai;simp;apply ai;simp;refine aC (b _ _ ?_);simp [deep])
theorem akV{H:aj}{s:FC}(h:bo tab 106 [.a [.f s],vi 0]=Eq (.t [.a [.f s],vi 0])):∃ r H',Ev tab (.fn 354) [.a [.f s],.c (.f (.fp [fi 0] 0))] H r H'∧(r=.t [.a [.f s],vi 0]∧Kp H H'):=by
 refine cI rfl rfl fun Q l=>?_;apply ai;simp;have d:=Kp.push H [bz.box [C.f s] 0,bz.box [C.f FC.aw] 0];have g:(H++[bz.box [C.f s] 0,bz.box [C.f FC.aw] 0])[H.length]?=aa (.box [.f s] 0):=by simp
 have b:(H++[bz.box [C.f s] 0,bz.box [C.f FC.aw] 0])[H.length+1]?=aa (.box [.f .aw] 0):=by simp
 generalize H++[bz.box [C.f s] 0,bz.box [C.f FC.aw] 0]=K at d g b ⊢;have m:dh K (.ptr (H.length+1) 0 0) [.f s]=aa (K.set (H.length+1) (.box [.f s] 0)):=by simp [dh,b,bp]
 have j:aV K (aa 1) (.c (.ptr H.length 0 0))=aa (.a [.f s]):=by simp [aV,aG,g,aT]
 change bo tab 106 _=_ at h;apply ai;simp [j,ou,h,m,-aA,-bl];refine aC (l _ _ _ rfl ?_ ⟨rfl,d.mG (by omega) _⟩);simp [Km.results,bj,au b,aT]
theorem aqz{H:aj}{b:Nat}(u:H[b]?=aa (.box [.f (fi 0),.f .es,.f (fi 0),.f (fi 1),.f (.fs [fi 0] 1)] 0)):∃ r H',Ev tab (.fn 289) [.a [.f S1],.c (.ptr b 0 0)] H r H'∧(r=.t [.a [.f E1],vi 0]∧Kp H H'):=by
 refine cI rfl rfl fun Q s=>?_;have j:=fZ.1;have l:=fZ.2.1;have v:∀ K:aj,Kp H K→aV K (aa 4) (.c (.ptr b 1 0))=aa (.a [.f .es,.f (fi 0),.f (fi 1),.f (.fs [fi 0] 1)]):=fun K d=>by simp [aV,aG,d.get u,aT]
 apply ai;simp;have d:=Kp.push H [bz.box [C.f S1] 0,bz.box [C.f FC.aw] 0];have m:(H++[bz.box [C.f S1] 0,bz.box [C.f FC.aw] 0])[H.length]?=aa (.box [.f S1] 0):=by simp
 have g:(H++[bz.box [C.f S1] 0,bz.box [C.f FC.aw] 0])[H.length+1]?=aa (.box [.f .aw] 0):=by simp
 generalize H++[bz.box [C.f S1] 0,bz.box [C.f FC.aw] 0]=K at d m g ⊢;have x:dh K (.ptr (H.length+1) 0 0) [.f E1]=aa (K.set (H.length+1) (.box [.f E1] 0)):=by simp [dh,g,bp]
 have q:aV K (aa 1) (.c (.ptr H.length 0 0))=aa (.a [.f S1]):=by simp [aV,aG,m,aT]
 change bo tab 290 [.a [.f .es,.f (fi 0),.f (fi 1),.f (.fs [fi 0] 1)]]=Eq (.a [.f E1])at j;change bo tab 57 [.a [.f E1],.a [.f S1]]=Eq (.t [.a [.f E1],vi 0])at l;apply ai;simp [q,v K d,j,l,x,-aA,-bl];refine aC (s _ _ _ rfl ?_ ⟨rfl,d.mG (by omega) _⟩);simp [Km.results,bj,au g,aT]
theorem akX{H:aj}{b:Nat}{u v w:FC}(q:H[b]?=aa (.box [.f u] 0))(h:bo tab 284 [.a [.f u],.a [.f v]]=Eq (.t [.a [.f w],vi 0])):∃ r H',Ev tab (.fn 283) [.a [.f v],.c (.ptr b 0 0)] H r H'∧(r=.t [.a [.f w],vi 0]∧Kp H H'):=by
 refine cI rfl rfl fun Q m=>?_;have s:∀ K:aj,Kp H K→aV K (aa 1) (.c (.ptr b 0 0))=aa (.a [.f u]):=fun K d=>by simp [aV,aG,d.get q,aT]
 apply ai;simp;have d:=Kp.push H [bz.box [C.f v] 0,bz.box [C.f FC.aw] 0];have j:(H++[bz.box [C.f v] 0,bz.box [C.f FC.aw] 0])[H.length]?=aa (.box [.f v] 0):=by simp
 have g:(H++[bz.box [C.f v] 0,bz.box [C.f FC.aw] 0])[H.length+1]?=aa (.box [.f .aw] 0):=by simp
 generalize H++[bz.box [C.f v] 0,bz.box [C.f FC.aw] 0]=K at d j g ⊢;have x:dh K (.ptr (H.length+1) 0 0) [.f w]=aa (K.set (H.length+1) (.box [.f w] 0)):=by simp [dh,g,bp]
 have l:aV K (aa 1) (.c (.ptr H.length 0 0))=aa (.a [.f v]):=by simp [aV,aG,j,aT]
 change bo tab 284 _=_ at h;apply ai;simp [l,s K d,h,x,-aA,-bl];refine aC (m _ _ _ rfl ?_ ⟨rfl,d.mG (by omega) _⟩);simp [Km.results,bj,au g,aT]
theorem xd{cs:List C}{k:Nat}{x:C}(h:cs[k]?=aa x):aT ab (cs.drop k)=aa (.c x):=by
 have b:=(atu.1 h).1;have e:=asZ b;rw [h]at e;rw [at7 b,←avY e];rfl
theorem BH{H:aj}{b:Nat}(cs:List C)(d:List FC)(e:d.length=cs.length+1)(c:cs.length≤100)(F:H[b]?=aa (.box cs 0))
  (step:∀(j:Nat) (J:j<cs.length) (K:aj),Kp H K→∃ f M r q,bZ (.c cs[j]) [.a [.f (d[j]'(by omega))]]=aa (f,M)∧Ev tab f M K r q∧(r=.t [.a [.f (d[j+1]'(by omega))],vi 0]∧Kp K q)) :
  ∃ r H',Ev tab (.fn 285) [.a [.f (d[0]'(by omega))],.c (.sl b 0 cs.length cs.length 0 1)] H r H'∧(r=.t [.a [.f (d[cs.length]'(by omega))],vi 0]∧Kp H H'):=by
 refine cI rfl rfl fun Q Y=>?_;have Z:=au F;have k:∀ K:aj,Kp H K→∀ j:Nat,(h:j<cs.length)→bG K 1 ab (.c (.sl b 0 cs.length cs.length 0 1)) (vi j)=aa (.c (.ptr b j 0))∧aV K ab (.c (.ptr b j 0))=aa (.c cs[j]):=fun K x j h=>by
  have g:=x.get F;refine⟨?_,?_⟩
  ·simp [bG,show ik (vi (j:Int))=aa (j:Int) from rfl,g,h]
  ·rw [aA,g];exact xd (asZ h)
 apply ai;simp;have x:=Kp.push H [bz.box [C.f (d[0]'(by omega))] 0,bz.box [C.f FC.aw] 0];have U:(H++[bz.box [C.f (d[0]'(by omega))] 0,bz.box [C.f FC.aw] 0])[H.length]?=aa (.box [.f (d[0]'(by omega))] 0):=by simp
 have W:(H++[bz.box [C.f (d[0]'(by omega))] 0,bz.box [C.f FC.aw] 0])[H.length+1]?=aa (.box [.f .aw] 0):=by simp
 generalize H++[bz.box [C.f (d[0]'(by omega))] 0,bz.box [C.f FC.aw] 0]=X at x U W ⊢;apply al;apply ai;have len:∀ K:aj,Kp H K→bA K (.sl b 0 cs.length cs.length 0 1)=aa cs.length:=fun K x=>by simp [bA,x.get F]
 simp [len X x];refine bR cs.length (fun j t K=>t.g 1=.c (.sl b 0 cs.length cs.length 0 1)∧t.g 10=.c (.sl b 0 cs.length cs.length 0 1)∧t.g 2=.c (.ptr H.length 0 0)∧t.g 4=.c (.ptr (H.length+1) 0 0)∧Kp H K∧(∀ h:j<d.length,K[H.length]?=aa (.box [.f d[j]] 0))∧K[H.length+1]?=aa (.box [.f .aw] 0)) (by omega) (by decide) (by decide) (by simp) (by simp)
  ⟨by simp,by simp,by simp,by simp,x,fun _=>U,W⟩ ?_ ?_
 ·rintro j t K J ⟨N,s,z,B,A,m,E⟩ O g next
  obtain⟨i,n⟩:=k K A j J;have m:=m (by omega);obtain⟨f,as',r,q,a,I,rfl,u⟩:=step j J K A;have I:=I.eq;have L:aV K (aa 1) (.c (.ptr H.length 0 0))=aa (.a [.f (d[j]'(by omega))]):=by simp [aV,aG,m,aT]
  have S:=u.get m;have p:=u.get E;refine aF ?_;apply ai;simp [s,O,i,n,-aA];apply ai;simp [z,L,a,I,-aA];obtain⟨y,v⟩:=aK (q++[bz.box [.f (d[j+1]'(by omega))] 0]:aj);have w:y[q.length]?=aa (.box [.f (d[j+1]'(by omega))] 0):=by rw [v];simp
  have l:Kp q y:=by rw [v];exact Kp.push _ _
  rw [←v];apply al;apply ai;simp;refine bw (by simp) ?_;have o:aV y (aa 1) (.c (.ptr q.length 0 0))=aa (.a [.f (d[j+1]'(by omega))]):=by simp [aV,aG,w,aT]
  have s2:dh y (.ptr H.length 0 0) [.f (d[j+1]'(by omega))]=aa (y.set H.length (.box [.f (d[j+1]'(by omega))] 0)):=by simp [dh,l.get S,bp]
  refine an (.inl rfl) ?_;simp [z,o,s2,-aA,-bl];refine az (next _ _ ⟨by simp [N],by simp [s],by simp [z],by simp [B],((A.tr u).tr l).mG (by omega) _,fun _=>atY (au (l.get S)),?_⟩ (by simp [O]) (by simp [g]));rw [aft (by omega)];exact l.get p
 ·rintro t K ⟨N,s,z,B,A,m,E⟩ - -;have m:=m (by omega);have L:aV K (aa 1) (.c (.ptr H.length 0 0))=aa (.a [.f (d[cs.length]'(by omega))]):=by simp [aV,aG,m,aT]
  have sn:dh K (.ptr (H.length+1) 0 0) [.f (d[cs.length]'(by omega))]=aa (K.set (H.length+1) (.box [.f (d[cs.length]'(by omega))] 0)):=by simp [dh,E,bp]
  apply ai;simp [z,B,L,sn,-aA,-bl];refine aC (Y _ _ _ rfl ?_ ⟨rfl,A.mG (by omega) _⟩);simp [Km.results,bj,B,au E,aT]
end Go.Proofs.YtnaofdffomdmhaaGreat
namespace Go.Proofs.YtnaofdffomdmhaaGreat
open Go Km
theorem BP(mi le:Int):bo tab 278 [.a (ea.map .f),vi mi,vi le]=Eq (.c (.f (.fn 340 [.fp ea 0,.fp [fi mi] 0,.fp [fi le] 0]))):=bo.eq (by
 refine bV rfl rfl fun Q b=>?_;apply ai;simp [ea];apply ai;simp;refine aC (b _ _ ?_);simp [deep,ea])
theorem BO{bb:Nat}{H:aj}(mi le:Int)(S:0≤mi)(c:mi≤1440)(Y:0≤le)(Z:le≤20000)(P:aj→Prop)
  (F:¬ mi+le≤1440→∀ K,Kp H K→P K) (W:mi+le≤1440→∀ K,Kp H K→∃ A,Ev tab (.yield bb) [.a [.f S1,.f (fi 0),.f (fi 1440)]] K (vb ae) A∧P A) :
  ∃ r H',Ev tab (.fn 340) [.c (.yl bb),.c (.f (.fp ea 0)),.c (.f (.fp [fi mi] 0)),.c (.f (.fp [fi le] 0))] H r H'∧(r=.t []∧P H'):=by
 refine cI rfl rfl fun Q U=>?_;have s:∀ K:aj,bA K (.f mU)=aa 1:=fun K=>rfl;have lo:∀ K:aj,aV K ab (.c (.f (.fp ea 8)))=aa (.c (.f mU)):=fun K=>rfl;have v:∀ K:aj,aV K ab (.c (.f (.fp [fi mi] 0)))=aa (vi mi):=fun K=>rfl;have u:∀ K:aj,aV K ab (.c (.f (.fp [fi le] 0)))=aa (vi le):=fun K=>rfl;apply ai;simp [lo,s];refine bR 1 (fun j t K=>t.g 0=.c (.yl bb)∧t.g 2=.c (.f (.fp [fi mi] 0))∧t.g 3=.c (.f (.fp [fi le] 0))∧t.g 8=.c (.f mU)∧(j=0→Kp H K)∧(j=1→P K)) (by omega) (by decide) (by decide) (by simp) (by simp) ⟨by simp,by simp,by simp,by simp,fun _=>⟨at3 _,fun _ _=>rfl⟩,by omega⟩ ?_ ?_
 ·rintro j t K a ⟨g0,l,m,x,B,-⟩ y J next
  obtain rfl:j=0:=by omega
  have B:=B rfl;have L:bG K 3 ab (.c (.f mU)) (vi ((0:Nat):Int))=aa (.c (.f (.fp [S1,fi 0,fi 1440] 0))):=rfl;have X:aV K (aa 3) (.c (.f (.fp [S1,fi 0,fi 1440] 0)))=aa (.a [.f S1,.f (fi 0),.f (fi 1440)]):=rfl;refine aF ?_;apply ai;simp only [Int.ofNat_zero,Int.natCast_zero]at L y;simp [x,y,L,X];obtain⟨g,b⟩:=aK (K++[bz.box [.f S1,.f (fi 0),.f (fi 1440)] 0]:aj);have I:g[K.length]?=aa (.box [.f S1,.f (fi 0),.f (fi 1440)] 0):=by rw [b];simp
  have q:Kp H g:=B.tr (by rw [b];exact Kp.push _ _);rw [←b];have M:aV g ab (.c (.ptr K.length 1 0))=aa (vi 0):=by simp [aV,aG,I]
  have N:aV g ab (.c (.ptr K.length 2 0))=aa (vi 1440):=by simp [aV,aG,I]
  have O:aV g (aa 3) (.c (.ptr K.length 0 0))=aa (.a [.f S1,.f (fi 0),.f (fi 1440)]):=by simp [aV,aG,I,aT]
  apply al;refine an (.inl rfl) ?_;by_cases z:mi+le≤1440
  ·obtain⟨A,d,E⟩:=W z g q;have d:=d.eq;simp [g0,l,m,M,N,O,v,u,S,aW (n:=mi+le),z,d,-aA];exact aD (by simp) (aO (az (next _ _ ⟨by simp [g0],by simp [l],by simp [m],by simp [x],by omega,fun _=>E⟩ (by simp [y]) (by simp [J]))))
  ·simp [g0,l,m,M,N,O,v,u,S,aW (n:=mi+le),z,-aA];exact aD (by simp) (aO (az (next _ _ ⟨by simp [g0],by simp [l],by simp [m],by simp [x],by omega,fun _=>F z _ q⟩ (by simp [y]) (by simp [J]))))
 ·rintro t K ⟨g0,l,m,x,-,E⟩ - -;exact cJ (U _ _ _ rfl rfl ⟨rfl,E rfl⟩)
end Go.Proofs.YtnaofdffomdmhaaGreat
namespace Go.Proofs.YtnaofdffomdmhaaGreat
open Go Km
theorem Al{tab:TB}{fn i:Nat}{u:Option Nat}{k:List cZ}{ds:List dK}{Q:Option aE→St→Prop}{a b c x:Nat}{body:aE}{t:T}{H:aj}(N:Nat)(I:Nat→T→List dK→aj→Prop)(K:N≤9223372036854775807)(A:a≠b)(E:x≠b)
  (l:t.g a=vi 0) (m:t.g b=vi N) (h0:I 0 t ds H)
  (step:∀ j t ds H,j<N→I j t ds H→t.g a=vi j→t.g b=vi N →
   (∀ v d H',I (j+1) ((v.s x (vi (j+1:Nat))).s a (vi (j+1:Nat))) d H'→v.g a=vi j→v.g b=vi N →
    WP tab fn u (.code (rZ a x)::.inLoop (iu i a b c x body)::.inBlock i::k) ⟨v,d,H'⟩ Q) →
   WP tab fn u (.code body::.code (rZ a x)::.inLoop (iu i a b c x body)::.inBlock i::k) ⟨t.s c (vb ae),ds,H⟩ Q)
  (done:∀ t ds H,I N t ds H→t.g a=vi N→t.g b=vi N→WP tab fn u k ⟨t.s c (vb ag),ds,H⟩ Q) :
  WP tab fn u (.code (Ae i a b c x body)::k) ⟨t,ds,H⟩ Q:=by
 have q:∀ ops:List aP,ops.all (·.op.dS)=ae→u=ab∨ops.all (·.op.dS)=ae:=fun _ h=>.inr h;refine aF ?_;refine cH (fun n s=>∃ j t ds H,s=⟨t,ds,H⟩∧j≤N∧n=N-j∧I j t ds H∧t.g a=vi j∧t.g b=vi N) N ⟨0,t,ds,H,rfl,by omega,by omega,h0,l,m⟩ ?_;rintro n s ⟨j,t,ds,H,rfl,L,rfl,F,l,m⟩ J;apply al;refine an (q _ rfl) ?_;simp [l,m];by_cases g:j<N
 ·rw [decide_eq_true g];apply al;refine aq (by simp) ?_;refine aO ?_;apply al;refine step j t ds H g F l m fun v d H' y z B=>?_;refine an (q _ rfl) ?_;simp [z];rw [aW];refine J (N-(j+1)) _ (by omega) ⟨j+1,_,d,H',rfl,by omega,rfl,by simpa using y,by simp,?_⟩;simp [A,E,B]
 ·have:j=N:=by omega
  subst this;rw [decide_eq_false g];apply al;refine aD (by simp) ?_;refine bJ (k':=k) (by simp [Km.exitTo]) ?_;exact done t ds H F l m
def dF(mi le:Int):FC:=if mi+le≤1440 then E1 else .aw
theorem aiE{k:Nat}(hk:k<60)(le:Int)(l0:1≤le)(l1:le≤10080):bo tab 209 [.a (ea.map .f),vi (20*k:Nat),vi le]=Eq (.t [.a [.f (dF (20*k:Nat) le)],vi 0]):=by
 obtain⟨v,rfl,hp⟩:∃ v,v=.t [.a [.f (dF (20*k:Nat) le)],vi 0]∧bo tab 209 [.a (ea.map .f),vi (20*k:Nat),vi le] v:=by
  refine CE aqi rfl fun Q hQ=>?_;obtain⟨m,hm⟩:=aK (20*k:Nat);have f_:=adz hk;have g_:=akC hk;rw [←hm]at f_ g_ ⊢;have x9:m≤1180:=by omega
  have i5:=fZ.2.2.2.2.2.2.2.2;have a7:=fZ.2.2.2.2.2.2.2.1;have m4:=fZ.2.2.1;have l_:=fZ.2.2.2.1;have j_:=fZ.2.2.2.2.1;have k_:=fZ.2.2.2.2.2.1;have j4:=fZ.2.2.2.2.2.2.1;have t_:=BP m le;change bo tab 190 [.a (ea.map .f)]=Eq (vi 0)at i5;change bo tab 276 _=_ at f_;change bo tab 282 [.a (List.map C.f [fi 0,.fs [fi 3] 1,fi (-1),.aw,fi 0,.aw,fi 0,.aw]),vi (m:Int)]=_ at g_;simp only [aug,aus]at g_;have la:∀ K:aj,K[0]?=aa (.box (ea.map .f) 0)→aV K (aa 10) (.c (.ptr 0 0 0))=aa (.a (ea.map .f))∧aV K (aa 8) (.c (.ptr 0 0 0))=aa (.a (List.map C.f [fi 0,.fs [fi 3] 1,fi (-1),.aw,fi 0,.aw,fi 0,.aw])):=fun K h=>by refine⟨?_,?_⟩<;>simp [aV,aG,h,ea,aT]
  apply ai;simp;obtain⟨H0,S⟩:=aK ([.box (ea.map .f) 0,.box [.f .aw] 0,.box [.f (fi 0)] 0]:aj);rw [←S];have j7:H0.length=3:=by rw [S];rfl
  have z0:H0[0]?=aa (.box (ea.map .f) 0):=by rw [S];rfl
  have z1:H0[1]?=aa (.box [.f .aw] 0):=by rw [S];rfl
  have z2:H0[2]?=aa (.box [.f (fi 0)] 0):=by rw [S];rfl
  apply al;apply ai;simp [(la _ z0).1,i5,-aA,show¬ (m:Int) < -4320 by omega,show¬ (4320:Int)<m by omega,show¬ le<1 by omega,show¬ 10080<le by omega];refine bw (by simp) ?_;apply ai;simp [f_];obtain⟨H2,b_⟩:=aK (H0++[bz.box [.f (fi 0)] 0]:aj);have n2:H2.length=4:=by rw [b_];simp [j7]
  have k2:Kp H0 H2:=by rw [b_];exact Kp.push _ _
  rw [←b_];have w3:H2[3]?=aa (.box [.f (fi 0)] 0):=by rw [b_];simp [←j7]
  apply ai;simp [(la _ (k2.get z0)).2,g_,-aA,j7,n2];obtain⟨H3,c_⟩:=aK (H2++[bz.box [.f (fi 0)] 0]:aj);have n3:H3.length=5:=by rw [c_];simp [n2]
  have k3:Kp H2 H3:=by rw [c_];exact Kp.push _ _
  have w4:H3[4]?=aa (.box [.f (fi 0)] 0):=by rw [c_];simp [←n2]
  rw [←c_];have n8:∀ K:aj,K[4]?=aa (.box [.f (fi 0)] 0)→aV K ab (.c (.ptr 4 0 0))=aa (vi 0):=fun K h=>by simp [aV,aG,h]
  apply al;apply ai;simp [n8 _ w4,-aA];refine bw (by simp) ?_;apply ai;simp [n3];apply ai;obtain⟨H4,U⟩:=aK (H3++[bz.box [.f .aw] 0,bz.box [.cl 283 [.ptr 5 0 0]] 0]:aj);have n4:H4.length=7:=by rw [U];simp [n3]
  have k4:Kp H3 H4:=by rw [U];exact Kp.push _ _
  have w5:H4[5]?=aa (.box [.f .aw] 0):=by rw [U];simp [←n3]
  have w6:H4[6]?=aa (.box [.cl 283 [.ptr 5 0 0]] 0):=by rw [U,atZ (by omega),n3];rfl
  simp [n3,mL];rw [←U];have u6:∀ K:aj,bA K (.f (.fs [fi 0,.es,fi 0,fi 1,.fs [fi 0] 1] 1))=aa 1:=fun K=>rfl;apply al;apply ai;simp [u6];have j6:Kp H0 H4:=(k2.tr k3).tr k4;have u0:=j6.get z0;have u1:=j6.get z1;have u2:=j6.get z2;have u3:=(k3.tr k4).get w3;have u4:=k4.get w4;refine Al 1 (fun j t ds K=>t.g 1=vi m∧t.g 2=vi le∧t.g 3=.c (.ptr 0 0 0)∧t.g 6=.c (.ptr 1 0 0)∧t.g 7=.c (.ptr 2 0 0)∧t.g 8=.c (.ptr 3 0 0)∧t.g 9=vi m∧t.g 11=.c (.ptr 4 0 0)∧t.g 12=.c (.ptr 5 0 0)∧t.g 13=.c (.ptr 6 0 0)∧t.g 59=.c (.f (.fs [fi 0,.es,fi 0,fi 1,.fs [fi 0] 1] 1))∧(j=0→ds=[]∧K=H4)∧(j=1→ds=[.gX 9]∧K[9]?=aa (.eZ ae)∧(∀ i:Nat,i<7→i≠5→K[i]?=H4[i]?)∧K[5]?=aa (.box [.f (dF m le)] 0))) (by omega) (by decide) (by decide) (by simp) (by simp)
   ⟨by simp,by simp,by simp,by simp,by simp,by simp,by simp,by simp,by simp,by simp,by simp,fun _=>⟨rfl,rfl⟩,by omega⟩ ?_ ?_
  ·rintro j t ds K hj ⟨g1,g2,g3,g6,g7,g8,g9,s,z,x,A,I,-⟩ ha hb next
   obtain rfl:j=0:=by omega
   obtain⟨rfl,rfl⟩:=I rfl;have ix:bG K 5 ab (.c (.f (.fs [fi 0,.es,fi 0,fi 1,.fs [fi 0] 1] 1))) (vi 0)=aa (.c (.f (.fp [fi 0,.es,fi 0,fi 1,.fs [fi 0] 1] 0))):=rfl;have ld:aV K (aa 5) (.c (.f (.fp [fi 0,.es,fi 0,fi 1,.fs [fi 0] 1] 0)))=aa (.a [.f (fi 0),.f .es,.f (fi 0),.f (fi 1),.f (.fs [fi 0] 1)]):=rfl;have i8:t.g 61=vi 0:=ha;refine aF ?_;apply ai;simp [A,i8,ix,ld,n4];obtain⟨H5,d9⟩:=aK (K++[bz.box [.f (fi 0),.f .es,.f (fi 0),.f (fi 1),.f (.fs [fi 0] 1)] 0]:aj);have n5:H5.length=8:=by rw [d9];simp [n4]
   have k5:Kp K H5:=by rw [d9];exact Kp.push _ _
   have w7:H5[7]?=aa (.box [.f (fi 0),.f .es,.f (fi 0),.f (fi 1),.f (.fs [fi 0] 1)] 0):=by rw [d9];simp [←n4]
   rw [←d9];have l7:aV H5 ab (.c (.ptr 7 0 0))=aa (vi 0):=by simp [aV,aG,w7]
   apply ai;simp [g9,l7,-aA,aW (n:=(m:Int)),f_,n5];obtain⟨J,d_⟩:=aK (H5++[bz.box [.f (fi 0)] 0]:aj);have n6:J.length=9:=by rw [d_];simp [n5]
   have k6:Kp H5 J:=by rw [d_];exact Kp.push _ _
   have w8:J[8]?=aa (.box [.f (fi 0)] 0):=by rw [d_];simp [←n5]
   rw [←d_];have m_:=k5.tr k6;apply ai;simp [g2,g3,(la _ (m_.get u0)).1,t_,-aA];refine aF ?_
   suffices go:∀ u:T,u.g 1=vi m→u.g 2=vi le→u.g 3=.c (.ptr 0 0 0)→u.g 6=.c (.ptr 1 0 0)→u.g 7=.c (.ptr 2 0 0)→u.g 8=.c (.ptr 3 0 0)→u.g 9=vi m→u.g 11=.c (.ptr 4 0 0)→u.g 12=.c (.ptr 5 0 0)→u.g 13=.c (.ptr 6 0 0)→u.g 59=.c (.f (.fs [fi 0,.es,fi 0,fi 1,.fs [fi 0] 1] 1))→u.g 61=vi 0→u.g 60=vi 1→u.g 15=.c (.ptr 7 0 0)→u.g 16=.c (.ptr 8 0 0)→u.g 76=.c (.f (.fn 340 [.fp ea 0,.fp [fi m] 0,.fp [fi le] 0])) →
     WP tab 209 ab [.code Bj,.inBlock 2,.inBlock 1,.code (rZ 61 98),.inLoop (iu 0 61 60 62 98 Bi),.inBlock 0,.code Bk] ⟨u,[],J⟩ Q by
    exact go _ (by simp [g1]) (by simp [g2]) (by simp [g3]) (by simp [g6]) (by simp [g7]) (by simp [g8]) (by simp [g9]) (by simp [s]) (by simp [z]) (by simp [x]) (by simp [A]) (by simp [i8]) (by simpa using hb) (by simp) (by simp) (by simp)
   clear g1 g2 g3 g6 g7 g8 g9 s z x A ha hb i8 I;intro u g1 g2 g3 g6 g7 g8 g9 s z x A s9 s8 r_ s7 s_;obtain⟨LP,e_⟩:∃ LP:ez→Option aE→bz,LP=fun st pd=>.lp 209 u [P.nat 77] iD iE st pd 9:=⟨_,rfl⟩
   obtain⟨W,hW⟩:=aK (J++[.eZ ae,LP .ready ab]);have nW:W.length=11:=by rw [hW,at6,n6];rfl
   have kW:Kp J W:=by rw [hW];exact Kp.push _ _
   have q9:W[9]?=aa (.eZ ae):=by rw [hW,atZ (by omega),n6];rfl
   have j8:W[10]?=aa (LP .ready ab):=by rw [hW,atZ (by omega),n6];rfl
   have F:=m_.tr kW;have p0:=F.get u0;have p3:=F.get u3;have p4:=F.get u4;have p5:=F.get w5;have p6:=F.get w6;have p7:=(k6.tr kW).get w7;have p8:=kW.get w8;obtain⟨PP,i7⟩:∃ PP:aj→Prop,PP=fun K=>11≤K.length∧(∀ i:Nat,i<11→i≠5→K[i]?=W[i]?)∧K[5]?=aa (.box [.f (dF m le)] 0):=⟨_,rfl⟩
   obtain⟨r,H7,he,rfl,hP⟩:=BO (bb:=10) (H:=W) m le (by omega) (by omega) (by omega) (by omega) PP
    (fun u7 K I=>by
     rw [i7];refine⟨by have:=I.1;omega,fun i hi _=>I.2 i (by omega),?_⟩;rw [I.get p5,dF,aY u7])
    (fun hf K I=>by
     have h_:=I.get j8;rw [e_]at h_;obtain⟨r,K',u5,rfl,hP⟩:∃ r K',Ev tab (.yield 10) [.a [.f S1,.f (fi 0),.f (fi 1440)]] K r K'∧(r=vb ae∧PP K'):=by
      refine gu (tab:=tab) (b:=10) (args:=[.a [.f S1,.f (fi 0),.f (fi 1440)]]) (H:=K) h_ rfl fun Q' t7=>?_;obtain⟨b9,Y⟩:=aK (K.length);have x8:=I.1;refine an (.inr rfl) ?_;simp;rw [←Y];obtain⟨K1,q⟩:=aK (K++[bz.box [.f S1,.f (fi 0),.f (fi 1440)] 0]);rw [←q];have E:Kp K K1:=by rw [q];exact Kp.push _ _
      have p_:K1[b9]?=aa (.box [.f S1,.f (fi 0),.f (fi 1440)] 0):=by rw [q,Y];simp
      refine nJ (E.get h_) ?_;obtain⟨d,X⟩:=aK (K1.set 10 (.lp 209 u [P.nat 77] iD iE .busy ab 9));rw [←X];have e2:∀ i:Nat,i<W.length→i≠10→d[i]?=W[i]?:=fun i hi i_=>by rw [X,aft (Ne.symm i_),E.2 i (by omega),I.2 i hi]
      have q_:d[10]?=aa (.lp 209 u [P.nat 77] iD iE .busy ab 9):=by rw [X];exact atY (au (E.get h_))
      have r5:d[b9]?=aa (.box [.f S1,.f (fi 0),.f (fi 1440)] 0):=by rw [X,aft (by omega)];exact p_
      have y6:d.length=b9+1:=by rw [X,aul,q,Y];simp
      have v:∀ {i:Nat} {y:bz},W[i]?=aa y→i≠10→d[i]?=aa y:=fun h i_=>by rw [e2 _ (au h) i_];exact h
      have v_:aV d (aa 1) (.c (.ptr b9 0 0))=aa (.a [.f S1]):=by simp [aV,aG,r5,aT]
      have v9:aV d ab (.c (.ptr 8 0 0))=aa (vi 0):=by simp [aV,aG,v p8 (by omega)]
      have r8:aV d ab (.c (.ptr 3 0 0))=aa (vi 0):=by simp [aV,aG,v p3 (by omega)]
      have v8:aV d ab (.c (.ptr 6 0 0))=aa (.c (.cl 283 [.ptr 5 0 0])):=by simp [aV,aG,v p6 (by omega)]
      have a_:unV .neg (vi 0)=aa (vi 0):=rfl;have t8:=aqp;obtain⟨cs,Z⟩:=aK ([.cl 286 [.ptr 0 0 0],.f (.fn 354 [.fp [fi 0] 0]),.cl 289 [.ptr 7 0 0],.f (.fn 354 [.fp [fi 0] 0]),.cl 283 [.ptr 5 0 0]]:List C);obtain⟨K3,i6⟩:=aK (d++[bz.box cs 0]);have m9:Kp d K3:=by rw [i6];exact Kp.push _ _
      have c3:K3[d.length]?=aa (.box cs 0):=by rw [i6];simp
      obtain⟨r,K4,l,rfl,v6⟩:=BH (H:=K3) (b:=d.length) cs [S1,S1,S1,E1,E1,E1] (by rw [Z];rfl) (by rw [Z];decide) c3 (fun j hj L hL=>by
       have kL:=m9.tr hL;subst Z
       match j,hj with
       | 0,_=>obtain⟨r,M,N,O⟩:=aqy (kL.get (v p0 (by omega)));exact⟨.fn 286,_,r,M,rfl,N,O⟩
       | 1,_=>obtain⟨r,M,N,O⟩:=akV (H:=L) m4;exact⟨.fn 354,_,r,M,rfl,N,O⟩
       | 2,_=>obtain⟨r,M,N,O⟩:=aqz (kL.get (v p7 (by omega)));exact⟨.fn 289,_,r,M,rfl,N,O⟩
       | 3,_=>obtain⟨r,M,N,O⟩:=akV (H:=L) l_;exact⟨.fn 354,_,r,M,rfl,N,O⟩
       | 4,_=>obtain⟨r,M,N,O⟩:=akX (kL.get (v p5 (by omega))) j_;exact⟨.fn 283,_,r,M,rfl,N,O⟩)
      have l:Ev tab (.fn 285) [.a [.f S1],.c (.sl d.length 0 5 5 0 1)] K3 (.t [.a [.f E1],vi 0]) K4:=by
       subst Z;exact l
      have l:=l.eq;have a8:=m9.tr v6;have x5:=a8.get (v p5 (by omega));have x4:=a8.get (v p4 (by omega));obtain⟨K5,B⟩:=aK (K4.set 5 (.box [.f E1] 0));have w_:dh K4 (.ptr 5 0 0) [.f E1]=aa K5:=by rw [B];simp [dh,x5,bp]
      have j9:K5[4]?=aa (.box [.f (fi 0)] 0):=by rw [B,aft (by omega)];exact x4
      have w9:dh K5 (.ptr 4 0 0) [.f (fi 0)]=aa K5:=by
       simp [dh,j9,bp];obtain⟨i9,e⟩:=atu.1 j9;rw [←e];exact avr i9
      have n9:K5[10]?=aa (.lp 209 u [P.nat 77] iD iE .busy ab 9):=by rw [B,aft (by omega)];exact a8.get q_
      refine aF ?_;refine al (an (.inr rfl) ?_);simp [g3,r_,s7,g8,x,v_,v9,r8,v8,a_,t8,mL,-aA];rw [←Z,←i6];simp [z,s,l,w_,w9,-bl];refine al (an (.inr rfl) ?_);simp [s,n8 _ j9,-aA];refine aD (by simp) (aO (az (cJ (t7 _ _ _ _ _ _ _ _ _ _ rfl n9 ⟨rfl,?_⟩))));rw [i7];have x_:=a8.1;refine⟨?_,fun i hi h5=>?_,?_⟩
      ·rw [aul,B,aul];omega
      ·by_cases e:i=10
       ·subst e;rw [atY (au n9),j8,e_];rfl
       ·rw [aft (Ne.symm e),B,aft (Ne.symm h5),a8.2 i (by omega),e2 i (by omega) e]
      ·rw [aft (by omega),B,atY (au x5),dF,bg hf]
     exact⟨K',u5,hP⟩)
   rw [i7]at hP;obtain⟨nP,eP,vP⟩:=hP;have t9:Ev tab (.fn 340) [.c (.yl (J.length+1)),.c (.f (.fp ea 0)),.c (.f (.fp [fi m] 0)),.c (.f (.fp [fi le] 0))] (J++[.eZ ae,.lp 209 u [P.nat 77] iD iE .ready ab J.length]) (.t []) H7:=by
    have e:J++[.eZ ae,.lp 209 u [P.nat 77] iD iE .ready ab J.length]=W:=by rw [hW,e_,n6]
    rw [e,n6];exact he
   refine ju (g:=340) (by rw [DF,s_];simp [bZ]) t9 ?_;rw [n6];have x6:H7[10]?=aa (.lp 209 u [P.nat 77] iD iE .ready ab 9):=by rw [eP 10 (by omega) (by omega),j8,e_]
   refine lk x6 (by decide) ?_;refine az (az (next _ _ _ ⟨by simp [g1],by simp [g2],by simp [g3],by simp [g6],by simp [g7],by simp [g8],by simp [g9],by simp [s],by simp [z],by simp [x],by simp [A],by omega,fun _=>⟨rfl,?_,fun i hi h5=>?_,?_⟩⟩ (by simpa using s9) (by simpa using s8)))
   ·rw [aft (by omega),eP 9 (by omega) (by omega)];exact q9
   ·rw [aft (by omega),eP i (by omega) h5,F.2 i (by omega)]
   ·rw [aft (by omega)];exact vP
  ·rintro t ds K ⟨g1,g2,g3,g6,g7,g8,g9,s,z,x,A,-,I⟩ - -;obtain⟨rfl,q9,eK,v5⟩:=I rfl;have p1:K[1]?=aa (.box [.f .aw] 0):=by rw [eK 1 (by omega) (by omega)];exact u1
   have p2:K[2]?=aa (.box [.f (fi 0)] 0):=by rw [eK 2 (by omega) (by omega)];exact u2
   have p3:K[3]?=aa (.box [.f (fi 0)] 0):=by rw [eK 3 (by omega) (by omega)];exact u3
   have p6:K[6]?=aa (.box [.cl 283 [.ptr 5 0 0]] 0):=by rw [eK 6 (by omega) (by omega)];exact w6
   have l3:aV K ab (.c (.ptr 3 0 0))=aa (vi 0):=by simp [aV,aG,p3]
   have l6:aV K ab (.c (.ptr 6 0 0))=aa (.c (.cl 283 [.ptr 5 0 0])):=by simp [aV,aG,p6]
   have a_:unV .neg (vi 0)=aa (vi 0):=rfl;apply ai;simp;apply al;apply ai;simp [g8,l3,a_,-aA];refine aF (iK ?_);apply ai;simp;refine al (aD (by simp) ?_);refine bJ (k':=[.code Bl]) rfl ?_;obtain⟨K1,q⟩:=aK (K++[bz.box [.cl 283 [.ptr 5 0 0]] 0]:aj);have E:Kp K K1:=by rw [q];exact Kp.push _ _
   have c1:K1[K.length]?=aa (.box [.cl 283 [.ptr 5 0 0]] 0):=by rw [q];simp
   have u9:bo tab 284 [.a [.f (dF m le)],.a [.f .aw]]=Eq (.t [.a [.f (dF m le)],vi 0]):=by
    unfold dF;split
    ·exact k_
    ·exact j4
   obtain⟨r,d,l,rfl,u_⟩:=BH (H:=K1) (b:=K.length) [.cl 283 [.ptr 5 0 0]] [.aw,dF m le] rfl (by decide) c1 (fun j hj L hL=>by
    match j,hj with
    | 0,_=>obtain⟨r,M,N,O⟩:=akX ((E.tr hL).get v5) u9;exact⟨.fn 283,_,r,M,rfl,N,O⟩)
   have l:Ev tab (.fn 285) [.a [.f .aw],.c (.sl K.length 0 1 1 0 1)] K1 (.t [.a [.f (dF m le)],vi 0]) d:=l;have l:=l.eq;have j5:=E.tr u_;have y1:=j5.get p1;have y2:=j5.get p2;have y9:=j5.get q9;have s1:dh d (.ptr 1 0 0) [.f (dF m le)]=aa (d.set 1 (.box [.f (dF m le)] 0)):=by simp [dh,y1,bp]
   have i4:(d.set 1 (.box [.f (dF m le)] 0))[2]?=aa (.box [.f (fi 0)] 0):=by rw [aft (by omega)];exact y2
   have s2:dh (d.set 1 (.box [.f (dF m le)] 0)) (.ptr 2 0 0) [.f (fi 0)]=aa (d.set 1 (.box [.f (dF m le)] 0)):=by
    simp [dh,i4,bp];obtain⟨i9,e⟩:=atu.1 i4;rw [←e];exact avr i9
   have n_:(d.set 1 (.box [.f (dF m le)] 0))[1]?=aa (.box [.f (dF m le)] 0):=atY (au y1);have o_:(d.set 1 (.box [.f (dF m le)] 0))[9]?=aa (.eZ ae):=by rw [aft (by omega)];exact y9
   simp only [oS]at a7;change bo tab 287 _=_ at a7;apply ai;simp [x,l6,a7,←q,l,g6,g7,s1,s2,-aA,-bl];generalize d.set 1 (.box [.f (dF m le)] 0)=K3 at n_ i4 o_ ⊢;have a1:(K3.set 9 (.eZ ag))[1]?=aa (.box [.f (dF m le)] 0):=by rw [aft (by omega)];exact n_
   have a2:(K3.set 9 (.eZ ag))[2]?=aa (.box [.f (fi 0)] 0):=by rw [aft (by omega)];exact i4
   refine aC (hQ _ _ _ rfl (.inr ⟨9,rfl,o_,.t [.a [.f (dF m le)],vi 0],?_,by simp [iZ,cD,bj];rw [show(m:Int)=20*(k:Int) by omega]⟩));simp [Km.results,bj,g6,g7,a1,a2,aT]
 exact hp.eq
end Go.Proofs.YtnaofdffomdmhaaGreat
namespace Go.Proofs.YtnaofdffomdmhaaGreat
open Go Km
theorem lO{m r t z n p mi le:Int}(h:AS n p)(s:0≤mi)(u:mi≤1180)(b:1≤le)(d:le≤10080):dU (oy m r t z n p mi le).st=ae:=by
 obtain⟨g,j,l,q⟩:=h;show dU ⟨.fs,[⟨.fs,[⟨.fs,[⟨.nil,[],0,n,.fs,[p]⟩]⟩],mi⟩],le,.nil,[]⟩=ae;simp [dU,eI,iV,oa,kh,gF,eF,bF];omega
theorem Ab(m r t z n p mi le:Int):(oy m r t z n p mi le).st.Sm:=by
 simp [aJ.Sm,oy,dx.Sm,bM.Sm]
def wb(n p:Int):FC:=.fs [.fs [.aw,fi 0,fi n,.fs [fi p] 1] 1] 1
def tZ(n p mi le:Int):List FC:=[.fs [wb n p,fi mi] 1,fi le,.aw]
theorem aku(m r t z n p mi le:Int):(oy m r t z n p mi le).st.row=tZ n p mi le:=rfl
theorem EO{H:aj}{a b:Nat}(l:a≠b)(x:aI)(z:H[a]?=aa (.box [.f (fi 0),.f (fi 0),.f (fi 0)] 0))(A:H[b]?=aa (.box [.f (.bool ag)] 0)) :
  ∃ r H',Ev tab (.fn 208) [.a (x.row.map .f),.c (.ptr a 0 0),.c (.ptr b 0 0)] H r H'∧(r=.t []∧H.length≤H'.length∧(∀ i:Nat,i<H.length→i≠a→i≠b→H'[i]?=H[i]?)∧H'[a]?=aa (.box (x.row.map .f) 0)∧H'[b]?=aa (.box [.f (.bool ae)] 0)):=by
 refine cI rfl rfl fun Q X=>?_;have N:=ze .fs [de x.fr 0,de x.day 0,de x.to 0] (by simp);simp [ints,sl,Tg.fc]at N;have la:=au z;have lb:=au A;apply ai;simp [aI.row];obtain⟨K,y⟩:=aK (H++[bz.box [.f (fi x.day),.f (fi x.fr),.f (fi x.to)] 0]:aj);have B:Kp H K:=by rw [y];exact Kp.push _ _
 have u:K[H.length]?=aa (.box [.f (fi x.day),.f (fi x.fr),.f (fi x.to)] 0):=by rw [y];simp
 have F:=B.get z;have qb:=B.get A;rw [←y];have x0:aV K ab (.c (.ptr H.length 0 0))=aa (vi x.day):=by simp [aV,aG,u]
 have x1:aV K ab (.c (.ptr H.length 1 0))=aa (vi x.fr):=by simp [aV,aG,u]
 have x2:aV K ab (.c (.ptr H.length 2 0))=aa (vi x.to):=by simp [aV,aG,u]
 have v:∀ j:Nat,j<3→aV K ab (.c (.ptr a j 0))=aa (vi 0):=fun j Z=>by
  match j,Z with
  | 0,_=>simp [aV,aG,F]| 1,_=>simp [aV,aG,F]| 2,_=>simp [aV,aG,F]
 apply ai;simp [x0,x1,x2,v 0 (by decide),v 1 (by decide),v 2 (by decide),gj,deep,mr,qf,N,-aA];obtain⟨d,g⟩:=aK (K++[bz.box [.f (fi (de x.fr 0)),.f (fi (de x.day 0)),.f (fi (de x.to 0))] 3]:aj);have m:Kp K d:=by rw [g];exact Kp.push _ _
 rw [←g];have s:=B.tr m;have ra:=s.get z;have I:=s.get A;have J:=m.get u;have b0:aV d ab (.c (.ptr b 0 0))=aa (vb ag):=by simp [aV,aG,I]
 have E:∀ L:aj,L[H.length]?=aa (.box [.f (fi x.day),.f (fi x.fr),.f (fi x.to)] 0)→aV L (aa 3) (.c (.ptr H.length 0 0))=aa (.a [.f (fi x.day),.f (fi x.fr),.f (fi x.to)]):=fun L h=>by simp [aV,aG,h,aT]
 apply ai;simp [b0,-aA];refine aq (by simp) ?_;have S:dh d (.ptr b 0 0) [.f (.bool ae)]=aa (d.set b (.box [.f (.bool ae)] 0)):=by simp [dh,I,bp]
 have q:(d.set b (.box [.f (.bool ae)] 0))[a]?=aa (.box [.f (fi 0),.f (fi 0),.f (fi 0)] 0):=by rw [aft (Ne.symm l)];exact ra
 have O:dh (d.set b (.box [.f (.bool ae)] 0)) (.ptr a 0 0) [.f (fi x.day),.f (fi x.fr),.f (fi x.to)]=aa ((d.set b (.box [.f (.bool ae)] 0)).set a (.box [.f (fi x.day),.f (fi x.fr),.f (fi x.to)] 0)):=by simp [dh,q,bp]
 have M:(d.set b (.box [.f (.bool ae)] 0))[H.length]?=aa (.box [.f (fi x.day),.f (fi x.fr),.f (fi x.to)] 0):=by rw [aft (by omega)];exact J
 refine fe (.inl rfl) ?_ ?_
 case _=>
  simp [E d J,S,O,-aA,-bl];refine cJ (X _ _ _ rfl rfl ⟨rfl,by simp;exact s.1,fun i hi U W=>?_,atY (au q),?_⟩)
  ·rw [aft (Ne.symm U),aft (Ne.symm W)];exact s.2 i hi
  ·rw [aft l];exact atY (au I)
 ·intro c Y;rw [aua.1 Y];refine⟨by decide,_,rfl,.inl ⟨by decide,?_⟩⟩;simp [E d J,E _ M,S,O,gl,V.beq,iG,C.beq,FC.beq,-aA,-bl]
def iW(n p mi le:Int):aI:=if mi+le≤1440 then⟨0,0,0⟩else⟨p,p*1440+mi,p*1440+mi+le⟩
theorem abZ{n p:Int}(W:AS n p){k:Nat}(hk:k<60)(le:Int)(e0:1≤le)(e1:le≤10080) :
  bo tab 136 [.a (ea.map .f),.a ((tZ n p (20*k:Nat) le).map .f)]=Eq (.t [vb (decide ((20*k:Nat)+le≤1440)),.a ((iW n p (20*k:Nat) le).row.map .f),vi 0]):=bo.eq (by
 obtain⟨m,hm⟩:=aK (20*k:Nat);have hd:=aiE hk le e0 e1;have I:=zz _ (Ab 1 0 0 1 n p (20*k:Nat) le);rw [lO W (by omega) (by omega) e0 e1,aku]at I;rw [←hm]at hd I ⊢;have i4:m≤1180:=by omega
 have e_:=W;obtain⟨b1,b2,b3,b4⟩:=e_;have A:=fZ.2.2.2.2.2.2.2.2;change bo tab 190 [.a (ea.map .f)]=Eq (vi 0)at A;refine bV rfl rfl fun Q hQ=>?_;have b9:∀ K:aj,K[0]?=aa (.box (ea.map .f) 0)→aV K (aa 10) (.c (.ptr 0 0 0))=aa (.a (ea.map .f)):=fun K h=>by simp [aV,aG,h,ea,aT]
 have X:∀ K:aj,K[1]?=aa (.box ((tZ n p m le).map .f) 0)→aV K (aa 3) (.c (.ptr 1 0 0))=aa (.a ((tZ n p m le).map .f))∧aV K ab (.c (.ptr 1 0 0))=aa (.c (.f (.fs [wb n p,fi m] 1)))∧aV K ab (.c (.ptr 1 1 0))=aa (vi le)∧aV K ab (.c (.ptr 1 2 0))=aa (.c (.f .aw)):=fun K h=>by refine⟨?_,?_,?_,?_⟩<;>simp [aV,aG,h,tZ,aT]
 apply ai;simp;obtain⟨O,g⟩:=aK ([.box (ea.map .f) 0,.box ((tZ n p m le).map .f) 0,.box [.f (fi 0),.f (fi 0),.f (fi 0)] 0]:aj);rw [←g];have n0:O.length=3:=by rw [g];rfl
 have z0:O[0]?=aa (.box (ea.map .f) 0):=by rw [g];rfl
 have N:O[1]?=aa (.box ((tZ n p m le).map .f) 0):=by rw [g];rfl
 have z2:O[2]?=aa (.box [.f (fi 0),.f (fi 0),.f (fi 0)] 0):=by rw [g];rfl
 apply al;apply ai;simp [b9 _ z0,A,(X _ N).1,I,-aA];refine bw (by simp) ?_;obtain⟨Y,l⟩:=aK (O++[.box [.f (.bool ag)] 0,.box [.f (fi 0),.f (fi 0),.f (fi 0)] 0]:aj);have k1:Kp O Y:=by rw [l];exact Kp.push _ _
 have n1:Y.length=5:=by rw [l];simp [n0]
 have z3:Y[3]?=aa (.box [.f (.bool ag)] 0):=by rw [l];simp [←n0]
 have z4:Y[4]?=aa (.box [.f (fi 0),.f (fi 0),.f (fi 0)] 0):=by rw [l,atZ (by omega),n0];rfl
 apply ai;simp [n0];apply ai;simp [n0];rw [←l];apply ai;simp [mL];apply al;apply ai;have d9:∀ K:aj,bA K (.f (.fs [wb n p,fi m] 1))=aa 1:=fun K=>rfl;simp [(X _ (k1.get N)).2.1,d9,-aA];obtain⟨ok,s⟩:=aK (decide ((m:Int)+le≤1440):Bool);refine bR 1 (fun j t K=>t.g 3=.c (.ptr 1 0 0)∧t.g 5=.c (.ptr 2 0 0)∧t.g 8=.c (.ptr 3 0 0)∧t.g 9=.c (.ptr 4 0 0)∧t.g 2=.c (.ptr 0 0 0)∧t.g 10=.c (.cl 208 [.ptr 4 0 0,.ptr 3 0 0])∧t.g 33=.c (.f (.fs [wb n p,fi m] 1))∧(j=0→K=Y∧t.g 7=vb ae)∧(j=1→t.g 7=vb ok∧K[1]?=aa (.box ((tZ n p m le).map .f) 0)∧K[2]?=aa (.box [.f (fi 0),.f (fi 0),.f (fi 0)] 0)∧K[4]?=aa (.box ((iW n p m le).row.map .f) 0))) (by omega) (by decide) (by decide) (by simp) (by simp)
  ⟨by simp,by simp,by simp,by simp,by simp,by simp,by simp,fun _=>⟨rfl,by simp⟩,by omega⟩ ?_ ?_
 ·rintro j t K hj ⟨B,E,g8,U,g2,u,v,hK,-⟩ ha hb next
  obtain rfl:j=0:=by omega
  obtain⟨rfl,g7⟩:=hK rfl;have F:t.g 35=vi 0:=ha;have ix:bG K 2 ab (.c (.f (.fs [wb n p,fi m] 1))) (vi 0)=aa (.c (.f (.fp [wb n p,fi m] 0))):=rfl;have ld:aV K (aa 2) (.c (.f (.fp [wb n p,fi m] 0)))=aa (.a [.f (wb n p),.f (fi m)]):=rfl;refine aF ?_;apply ai;simp [v,F,ix,ld,n1];obtain⟨Z,x⟩:=aK (K++[.box [.f (wb n p),.f (fi m)] 0]:aj);have k2:Kp K Z:=by rw [x];exact Kp.push _ _
  have n2:Z.length=6:=by rw [x];simp [n1]
  have z5:Z[5]?=aa (.box [.f (wb n p),.f (fi m)] 0):=by rw [x];simp [←n1]
  have l5:∀ L:aj,L[5]?=aa (.box [.f (wb n p),.f (fi m)] 0)→aV L ab (.c (.ptr 5 1 0))=aa (vi m)∧aV L (aa 1) (.c (.ptr 5 0 0))=aa (.a [.f (wb n p)]):=fun L h=>by refine⟨?_,?_⟩<;>simp [aV,aG,h,aT]
  rw [←x];have M:=k1.tr k2;apply ai;simp [g2,B,b9 _ (M.get z0),(l5 _ z5).1,(X _ (M.get N)).2.2.1,hd,n2,-aA];obtain⟨S,y⟩:=aK (Z++[.box [.f (dF m le)] 0]:aj);have k3:Kp Z S:=by rw [y];exact Kp.push _ _
  have n3:S.length=7:=by rw [y];simp [n2]
  have z6:S[6]?=aa (.box [.f (dF m le)] 0):=by rw [y];simp [←n2]
  have l6:aV S (aa 1) (.c (.ptr 6 0 0))=aa (.a [.f (dF m le)]):=by simp [aV,aG,z6,aT]
  rw [←y];apply al;apply ai;simp;refine bw (by simp) ?_;obtain⟨bad,q⟩:=aK (if(m:Int)+le≤1440 then FC.aw else wb n p:FC);have a_:bo tab 210 [.a [.f (wb n p)],.a [.f (dF m le)]]=Eq (.t [.a [.f bad],vi 0]):=by
   rw [q];unfold dF;split
   ·exact Qh W
   ·exact Qi W
  have a8:bo tab 58 [.a [.f bad]]=Eq (vb ok):=by
   rw [q,s];by_cases h:(m:Int)+le≤1440
   ·rw [bg h,decide_eq_true h];exact yF
   ·rw [aY h,decide_eq_false h];exact abK W
  have d_:bo tab 211 [.a [.f bad],vi 0]=Eq (.t [vi (if(m:Int)+le≤1440 then 0 else p),vb (!ok)]):=by
   rw [q,s];by_cases h:(m:Int)+le≤1440
   ·rw [bg h,bg h,decide_eq_true h];exact acE
   ·rw [aY h,aY h,decide_eq_false h];exact ajt W
  apply ai;simp [(l5 _ (k3.get z5)).2,l6,a_,n3,-aA];obtain⟨H4,z⟩:=aK (S++[.box [.f bad] 0]:aj);have k4:Kp S H4:=by rw [z];exact Kp.push _ _
  have n4:H4.length=8:=by rw [z];simp [n3]
  have z7:H4[7]?=aa (.box [.f bad] 0):=by rw [z];simp [←n3]
  have l7:aV H4 (aa 1) (.c (.ptr 7 0 0))=aa (.a [.f bad]):=by simp [aV,aG,z7,aT]
  rw [←z];have d:=(M.tr k3).tr k4;have J:=(k2.tr k3).tr k4;apply al;apply ai;simp;refine bw (by simp) ?_;apply ai;simp [g7,l7,a8,-aA];have q1:=nh (a:=2251799813685248-m-le) (b:=1440) (by omega) (by decide) (by omega);apply ai;simp [B,(l5 _ ((k3.tr k4).get z5)).1,(X _ (d.get N)).2.2.1,aW (n:=2251799813685248-(m:Int)),aW (n:=2251799813685248-(m:Int)-le),q1,-aA];apply ai;simp [l7,d_,-aA];apply al;refine an (.inl rfl) ?_;cases ok with
  | true=>
   have hc:(m:Int)+le≤1440:=by simpa using s.symm
   simp;refine aD (by simp) (aO (az (next _ _ ⟨by simp [B],by simp [E],by simp [g8],by simp [U],by simp [g2],by simp [u],by simp [v],by omega,fun _=>⟨by simp,d.get N,d.get z2,?_⟩⟩ (by simpa using F) (by simpa using hb))));rw [J.get z4,iW,bg hc];rfl
  | false=>
   have hc:¬ (m:Int)+le≤1440:=by simpa using s.symm
   simp [hc,show p≤(2251799813685248-(m:Int)-le) / 1440 by omega];refine aq (by simp) ?_;apply ai;simp [(l5 _ ((k3.tr k4).get z5)).1,aW (n:=p*1440),aW (n:=p*1440+m),-aA];obtain⟨r,H5,he,rfl,h_,a7,b_,g_⟩:=EO (H:=H4) (a:=4) (b:=3) (by omega) ⟨p,p*1440+m,p*1440+m+le⟩ (J.get z4) (J.get z3);have he:=he.eq;simp [aI.row]at he;refine an (.inl rfl) ?_;simp [u,B,(X _ (d.get N)).2.2.1,aW (n:=p*1440+m+le),bZ,he,-aA];refine az (next _ _ ⟨by simp [B],by simp [E],by simp [g8],by simp [U],by simp [g2],by simp [u],by simp [v],by omega,fun _=>⟨by simp,?_,?_,?_⟩⟩ (by simpa using F) (by simpa using hb))
   ·rw [a7 1 (by omega) (by omega) (by omega)];exact d.get N
   ·rw [a7 2 (by omega) (by omega) (by omega)];exact d.get z2
   ·rw [b_,iW,aY hc]
 ·rintro t K ⟨B,E,g8,U,g2,u,v,-,hK⟩ - -;obtain⟨g7,y1,y2,y4⟩:=hK rfl;apply al;apply ai;have c_:∀ K:aj,bA K (.f .aw)=aa 0:=fun K=>rfl;simp [B,(X _ y1).2.2.2,c_,-aA];refine bR 0 (fun _ t K'=>K'=K∧t.g 7=vb ok∧t.g 9=.c (.ptr 4 0 0)∧t.g 5=.c (.ptr 2 0 0)) (by omega) (by decide) (by decide) (by simp) (by simp) ⟨rfl,by simp [g7],by simp [U],by simp [E]⟩ (fun j t H hj=>by omega) ?_;rintro t' K' ⟨rfl,g7,U,E⟩ - -;have l4:aV K' (aa 3) (.c (.ptr 4 0 0))=aa (.a ((iW n p m le).row.map .f)):=by simp [aV,aG,y4,aT,aI.row]
  have s2:dh K' (.ptr 2 0 0) ((iW n p m le).row.map .f)=aa (K'.set 2 (.box ((iW n p m le).row.map .f) 0)):=by simp [dh,y2,bp,aI.row]
  have f_:(iW n p m le).row.length=3:=rfl;apply ai;simp [g7,U,E,l4,s2,f_,-aA,-bl];refine aC (hQ _ _ ?_);simp [Km.results,bj,E,au y2,aT,aI.row,iZ,cD,s])
end Go.Proofs.YtnaofdffomdmhaaGreat
namespace Go.Proofs.YtnaofdffomdmhaaGreat
open Go Km
def TV(J:aj)(c:C)(fs:List bM):Prop:=(∃ g,c=.f (sl g (ba fs)))∨LR J c 4 (ba fs)
def akQ(f:Nat)(g:List FC)(L:List (List bM)):Prop:=∀(b:Nat) (H:aj) (PP:Nat→aj→Prop),PP 0 H →
 (∀(j:Nat) (m:j<L.length) (d J:aj) (c:C),PP j d→(∀ i:Nat,i<d.length→J[i]?=d[i]?)→d.length≤J.length→TV J c L[j]→(∀ i,bE c=aa i→d.length≤i)→∃ H',Ev tab (.yield b) [.c c] J (vb ae) H'∧PP (j+1) H') →
 ∃ l,Ev tab (.fn f) (.c (.yl b)::g.map fun x=>.c (.f x)) H (.t []) l∧PP L.length l
theorem pc{ps:List bM}(h:ps≠[])(g:Tg):sl g (ba ps)=.fs (ba ps).flatten ps.length:=by
 cases ps with
 | nil=>exact absurd rfl h| cons p l=>simp [sl,ba]
def TW(J:aj)(c:C)(fs:List bM):Prop:=(∃ g,c=.f (sl g (ba fs)))∨(∃ b ep fl,c=.sl b 0 fs.length 0 ep 4∧J[b]?=aa (.b5 4 ((ba fs).flatten.map .f) fl ep .loc))
section
variable{J:aj}{c:C}{fs:List bM}
theorem TV.tw(h:TV J c fs):TW J c fs:=by
 rcases h with⟨g,rfl⟩ | ⟨h0,rfl | rfl⟩ | ⟨j,b,ep,rfl,d⟩
 ·exact .inl ⟨g,rfl⟩
 ·exact .inl ⟨.nil,by rw [h0];rfl⟩
 ·exact .inl ⟨.es,by rw [h0];rfl⟩
 ·unfold RB at d;exact .inr ⟨b,ep,0,by rw [Cy],d⟩
theorem TW.ex(h:TW J c fs)(h0:fs≠[])(n:Nat):ek (n+1) J c=aa (sl .fs (ba fs)):=by
 rcases h with⟨g,rfl⟩ | ⟨b,ep,fl,rfl,d⟩
 ·show aa (sl g (ba fs))=_;rw [pc h0,pc h0]
 ·have j:(ba fs).flatten.length=fs.length*4:=by have:=bW (cq fs);simpa using this
  simp only [mr,d];rw [bg ⟨trivial,trivial,by rw [at9];omega⟩,au5,at8 (by rw [at9];omega),sq,pc h0];rfl
theorem TW.mk(h:TW J c fs)(n:Nat):TW (gD (n+1) c J) c fs∧∀(i:Nat) (y:bz),J[i]?=aa y→bE c≠aa i→(gD (n+1) c J)[i]?=aa y:=by
 rcases h with⟨g,rfl⟩ | ⟨b,ep,fl,rfl,j⟩
 ·exact⟨.inl ⟨g,rfl⟩,fun i y hy _=>hy⟩
 ·have e:gD (n+1) (.sl b 0 fs.length 0 ep 4) J=J.set b (.b5 4 ((ba fs).flatten.map .f) (Nat.max fl (0+fs.length*4)) ep .loc):=by
   simp only [qf,j];rw [uo];intro x d;have d:=List.mem_of_mem_drop (List.mem_of_mem_take d);obtain⟨m,_,rfl⟩:=auq.1 d;exact⟨_,rfl⟩
  rw [e];exact⟨.inr ⟨b,ep,_,rfl,atY (au j)⟩,fun i y hy hi=>by rw [aft (by rintro rfl;exact hi rfl)];exact hy⟩
theorem TW.set(h:TW J c fs){i:Nat}(hi:bE c≠aa i)(x:bz):TW (J.set i x) c fs:=by
 rcases h with h | ⟨b,ep,fl,rfl,d⟩
 ·exact .inl h
 ·exact .inr ⟨b,ep,fl,rfl,by rw [aft (by rintro rfl;exact hi rfl)];exact d⟩
end
theorem Am(ps:List bM)(h:yk ps)(n:Int)(hn:0≤n)(b9:n≤1000000000000):∃ d f,ie (InN ps n) d f∧(0≤d∧d≤1000001000000)∧∀ H g found c,QH H n g found→TW H c ps→(∀ i,bE c=aa i→4<i) →
  ∃ r H',Ev tab (.yield 4) [.c c] H r H'∧(r=vb ae∧QH H' n (if f=ae∧(found=ag∨d<g)then d else g) (found||f)):=by
 obtain⟨d,f,e0,f0,hm,hd,he,hc⟩:=aky .fs ps h n hn b9;refine⟨d,f,hm,hd,?_⟩;rintro H g found c ⟨h0,h1,h2,h3,s,h4,u,K,L⟩ v N;refine gu (tab:=tab) (b:=4) h4 rfl fun Q' M=>?_;have a_:=au h4;have F:∀(t:T) (j:aj),j[0]?=aa (.box [.f (fi n)] 0)→j[1]?=aa (.box [.f (fi g)] 0)→j[2]?=aa (.box [.f (.bool found)] 0)→j[3]?=aa (.eZ ae)→j[4]?=aa (.lp 107 s [P.nat 12] dr cU .busy ab 3) →
   t.g 3=.c (.ptr 0 0 0)→t.g 6=.c (.ptr 1 0 0)→t.g 7=.c (.ptr 2 0 0)→t.g 9=vi d→t.g 10=vb f→WP tab 107 (aa 4) [.code Bf,.inBlock 1] ⟨t,[],j⟩ Q':=by
  rintro t j q0 U A q3 q4 e3 I y J q;have l1:=au U;have l2:=au A;have cM:(f=ae∧(found=ag∨d<g)→False)→QH (j.set 4 (.lp 107 s [P.nat 12] dr cU .ready ab 3)) n (if f=ae∧(found=ag∨d<g)then d else g) (found||f):=by
   intro x;have hf:(found||f)=found:=by
    cases f<;>cases found<;>simp at x ⊢
   rw [aY x,hf];exact⟨by rw [aft (by decide)];exact q0,by rw [aft (by decide)];exact U,by rw [aft (by decide)];exact A,by rw [aft (by decide)];exact q3,s,atY (au q4),u,K,L⟩
  have b_:(j.set 1 (.box [.f (fi d)] 0))[2]?=aa (.box [.f (.bool found)] 0):=by rw [aft (by decide)];exact A
  have Q:(f=ae∧(found=ag∨d<g))→QH (((j.set 1 (.box [.f (fi d)] 0)).set 2 (.box [.f (.bool ae)] 0)).set 4 (.lp 107 s [P.nat 12] dr cU .ready ab 3)) n (if f=ae∧(found=ag∨d<g)then d else g) (found||f):=by
   intro l;have hf:(found||f)=ae:=by rw [l.1];simp
   rw [bg l,hf];refine⟨?_,?_,?_,?_,s,atY (by simp;exact au q4),u,K,L⟩
   ·rw [aft (by decide),aft (by decide),aft (by decide)];exact q0
   ·rw [aft (by decide),aft (by decide),atY l1]
   ·rw [aft (by decide),atY (by simpa using l2)]
   ·rw [aft (by decide),aft (by decide),aft (by decide)];exact q3
  have done:∀ B:T,(f=ae∧(found=ag∨d<g)→False)→WP tab 107 (aa 4) [.inBlock 1] ⟨B,[],j⟩ Q':=by
   intro B x;refine az (cJ (M _ _ _ _ _ _ _ _ _ _ rfl q4 ⟨rfl,?_⟩));have:=cM x;rw [show(j.set 4 (.lp 107 s [P.nat 12] dr cU .ready ab 3))=j.set 4 (.lp 107 s [P.nat 12] dr cU (if(ab:Option aE).isNone=ae then .ready else .done) ab 3) from rfl]at this;exact this
  have m:∀ B:T,B.g 6=.c (.ptr 1 0 0)→B.g 7=.c (.ptr 2 0 0)→B.g 9=vi d→(f=ae∧(found=ag∨d<g))→WP tab 107 (aa 4) [.code Bg,.inBlock 1] ⟨B,[],j⟩ Q':=by
   intro B I y J l;refine an (.inr rfl) ?_;simp [I,y,J,U,A,b_];refine az (cJ (M _ _ _ _ _ _ _ _ _ _ rfl (by rw [aft (by decide),aft (by decide)];exact q4) ⟨rfl,?_⟩));exact Q l
  apply al;cases f with
  | false=>
   refine an (.inr rfl) ?_;simp [y,q,A];refine aD (by simp) (aO (done _ (by simp)))
  | true=>
   cases found with
   | false=>
    refine an (.inr rfl) ?_;simp [y,q,A];refine aq (by simp) (m _ (by simp [I]) (by simp [y]) (by simp [J]) (by simp))
   | true=>
    by_cases k:d<g
    ·refine an (.inr rfl) ?_;simp [I,y,J,q,U,A,k];refine aq (by simp) (m _ (by simp [I]) (by simp [y]) (by simp [J]) (by simp [k]))
    ·refine an (.inr rfl) ?_;simp [I,y,J,q,U,A,k];refine aD (by simp) (aO (done _ (by simp [k])))
 refine an (.inr rfl) ?_;simp;refine nJ h4 ?_;have b0:(H.set 4 (.lp 107 s [P.nat 12] dr cU .busy ab 3))[0]?=aa (.box [.f (fi n)] 0):=by rw [aft (by decide)];exact h0
 have b1:(H.set 4 (.lp 107 s [P.nat 12] dr cU .busy ab 3))[1]?=aa (.box [.f (fi g)] 0):=by rw [aft (by decide)];exact h1
 have X:(H.set 4 (.lp 107 s [P.nat 12] dr cU .busy ab 3))[2]?=aa (.box [.f (.bool found)] 0):=by rw [aft (by decide)];exact h2
 have Y:(H.set 4 (.lp 107 s [P.nat 12] dr cU .busy ab 3))[3]?=aa (.eZ ae):=by rw [aft (by decide)];exact h3
 have Z:(H.set 4 (.lp 107 s [P.nat 12] dr cU .busy ab 3))[4]?=aa (.lp 107 s [P.nat 12] dr cU .busy ab 3):=atY a_;have v:=v.set (i:=4) (fun e=>by have:=N 4 e;omega) (.lp 107 s [P.nat 12] dr cU .busy ab 3);generalize H.set 4 (.lp 107 s [P.nat 12] dr cU .busy ab 3)=j at b0 b1 X Y Z v ⊢;have S:∀ i:Nat,i≤4→bE c≠aa i:=fun i hi e=>by have:=N i e;omega
 have step:∀ j:aj,j[0]?=aa (.box [.f (fi n)] 0)→j[1]?=aa (.box [.f (fi g)] 0)→j[2]?=aa (.box [.f (.bool found)] 0)→j[3]?=aa (.eZ ae)→j[4]?=aa (.lp 107 s [P.nat 12] dr cU .busy ab 3)→TW j c ps →
   ∃ E:aj,E=gD 64 c j∧ek 64 j c=aa (sl .fs (ba ps))∧E[0]?=aa (.box [.f (fi n)] 0)∧E[1]?=aa (.box [.f (fi g)] 0)∧E[2]?=aa (.box [.f (.bool found)] 0)∧E[3]?=aa (.eZ ae)∧E[4]?=aa (.lp 107 s [P.nat 12] dr cU .busy ab 3)∧TW E c ps:=by
  intro j b0 b1 X Y Z hT;obtain⟨m1,O⟩:=hT.mk 63;exact⟨_,rfl,hT.ex (List.length_pos_iff.1 h.l1) 63,O 0 _ b0 (S 0 (by omega)),O 1 _ b1 (S 1 (by omega)),O 2 _ X (S 2 (by omega)),O 3 _ Y (S 3 (by omega)),O 4 _ Z (S 4 (by omega)),m1⟩
 obtain⟨H1,e1,x1,W,a1,a2,a3,a4,a7⟩:=step j b0 b1 X Y Z v;obtain⟨H2,e2,x2,c0,c1,c2,c3,c4,a8⟩:=step H1 W a1 a2 a3 a4 a7;obtain⟨H3,e3,x3,d0,d1,d2,d3,d4,c_⟩:=step H2 c0 c1 c2 c3 c4 a8;refine aF ?_;refine al (an (.inr rfl) ?_);simp [u,b0,x1,deep,he,←e1];apply al;rcases hc with⟨rfl,rfl,rfl⟩ | ⟨rfl,rfl,b,z,hc⟩
 ·refine al (an (.inr rfl) ?_);simp;refine bw (by simp) ?_;exact F _ _ W a1 a2 a3 a4 (by simp [u]) (by simp [K]) (by simp [L]) (by simp) (by simp)
 ·rcases hc with⟨rfl,rfl,rfl⟩ | ⟨rfl,hl⟩
  ·refine al (an (.inr rfl) ?_);simp [u,W,x2,deep,z,←e2,show n≤1152921504606846976 by omega];refine bw (by simp) ?_;exact F _ _ c0 c1 c2 c3 c4 (by simp [u]) (by simp [K]) (by simp [L]) (by simp) (by simp)
  ·refine al (an (.inr rfl) ?_);simp [u,W,x2,deep,z,←e2,show n≤1152921504606846976 by omega];refine aq (by simp) ?_;refine an (.inr rfl) ?_;simp [u,c0,x3,deep,hl,←e3];exact F _ _ d0 d1 d2 d3 d4 (by simp [u]) (by simp [K]) (by simp [L]) (by simp) (by simp)
end Go.Proofs.YtnaofdffomdmhaaGreat
namespace Go.Proofs.YtnaofdffomdmhaaGreat
open Go Km
def Rr(L:List (List bM))(n x:Int):Prop:=∃ t ∈ L,InN t n x
theorem ajB{H H':aj}{n b:Int}{found:Bool}(h:QH H n b found)(u:∀ i:Nat,i<H.length→H'[i]?=H[i]?):QH H' n b found:=by
 obtain⟨h0,g,j,l,s,m,q⟩:=h;have k:∀(i:Nat) y,H[i]?=aa y→H'[i]?=aa y:=fun i y d=>by rw [u i (au d)];exact d
 exact⟨k _ _ h0,k _ _ g,k _ _ j,k _ _ l,s,k _ _ m,q⟩
theorem P9(F:Nat)(l:List FC)(L:List (List bM))(o:akQ F l L)(k:∀ t ∈ L,yk t)(n:Int)(hn:0≤n)(K:n≤1000000000000):∃ d f,ie (Rr L n) d f∧(0≤d∧d≤1000001000000) ∧
  bo tab 107 [.c (.f (.fn F l)),vi n]=Eq (.t [vi d,vb f]):=by
 have key:∃ r,(∃ d f,ie (Rr L n) d f∧(0≤d∧d≤1000001000000)∧r=.t [vi d,vb f])∧bo tab 107 [.c (.f (.fn F l)),vi n] r:=by
  refine CE aqh rfl fun Q p=>?_;have z:∀ s:T,s.g 3=.c (.ptr 0 0 0)→s.g 6=.c (.ptr 1 0 0)→s.g 7=.c (.ptr 2 0 0)→s.g 11=.c (.f (.fn F l)) →
    WP tab 107 ab [.code Fw,.inBlock 0,.code Bh] ⟨s,[],[.box [.f (fi n)] 0,.box [.f (fi 0)] 0,.box [.f (.bool ag)] 0]⟩ Q:=by
   intro s a O S A;obtain⟨y,Z,b,found,⟨-,w1,w2,w3,N,w4,-⟩,q,U⟩:=o 4 [.box [.f (fi n)] 0,.box [.f (fi 0)] 0,.box [.f (.bool ag)] 0,.eZ ae,.lp 107 s [P.nat 12] dr cU .ready ab 3]
    (fun j H=>∃ b found,QH H n b found∧ie (Rr (L.take j) n) b found∧(0≤b∧b≤1000001000000))
    ⟨0,ag,⟨rfl,rfl,rfl,rfl,s,rfl,a,O,S⟩,.inl ⟨rfl,rfl,fun d v=>by obtain⟨t,m,-⟩:=v;simp at m⟩,by omega,by omega⟩ fun j W Y J c ⟨b,found,u,q,U⟩ hk X w hc=>by
     obtain⟨d,f,I,v,hy⟩:=Am L[j] (k _ (at2 W)) n hn K;have l4:4<Y.length:=by obtain⟨-,-,-,-,s',e,-⟩:=u;exact au e
     obtain⟨r,H',E,rfl,B⟩:=hy J b found c (ajB u hk) w.tw (fun i hi=>by have:=hc i hi;omega);have M:L.take (j+1)=L.take j++[L[j]]:=by rw [auz,asZ W];rfl
     refine⟨H',E,_,_,B,ie.join q I fun x=>?_,?_⟩
     ·unfold Rr;rw [M];constructor
      ·rintro⟨t,m,h⟩;rcases auh.1 m with m | m
       ·exact .inl ⟨t,m,h⟩
       ·rw [aua.1 m]at h;exact .inr h
      ·rintro(⟨t,m,h⟩ | h)
       ·exact⟨t,au7 _ m,h⟩
       ·exact⟨_,avO _ (aua.2 rfl),h⟩
     ·split<;>omega
   rw [auv]at q;refine ju (g:=F) (by rw [DF,A];simp [bZ]) Z ?_;refine lk w4 (by decide) ?_;refine az ?_;apply ai;have v1:(y.set 4 (.lp 107 N [P.nat 12] dr cU .exhausted ab 3))[1]?=aa (.box [.f (fi b)] 0):=by rw [aft (by decide)];exact w1
   have v2:(y.set 4 (.lp 107 N [P.nat 12] dr cU .exhausted ab 3))[2]?=aa (.box [.f (.bool found)] 0):=by rw [aft (by decide)];exact w2
   have v3:(y.set 4 (.lp 107 N [P.nat 12] dr cU .exhausted ab 3))[3]?=aa (.eZ ae):=by rw [aft (by decide)];exact w3
   simp [O,S,v1,v2];refine aC (p _ _ _ ⟨b,found,q,U,rfl⟩ (.inr ⟨3,rfl,v3,.t [vi b,vb found],?_,by simp [iZ,cD,bj]⟩));simp [Km.results,cN,bj]
  apply ai;simp;apply ai;simp;apply al;apply ai;simp;refine aF ?_;exact z _ (by simp) (by simp) (by simp) (by simp)
 obtain⟨r,⟨d,f,q,v,rfl⟩,h⟩:=key;exact⟨d,f,q,v,h.eq⟩
def sW(ss ts:List (List bM)):List (List bM):=(ss.map fun s=>ts.map fun t=>s++t).flatten
theorem Qs(ss ts:List (List bM)):(sW ss ts).length=ss.length*ts.length:=by
 unfold sW;induction ss with
 | nil=>simp| cons s ss b=>rw [aug,List.flatten_cons,at6,b,at9,List.length_cons,Nat.succ_mul,Nat.add_comm]
theorem acM{ss ts:List (List bM)}{i k:Nat}(hi:i<ss.length)(d:k<ts.length):(sW ss ts)[i*ts.length+k]?=aa (ss[i]++ts[k]):=by
 have h:=oN (rows:=ss.map fun s=>ts.map fun t=>s++t) (sz:=ts.length) (j:=i) (row:=ts.map fun t=>ss[i]++t) (fun r g=>by
  obtain⟨s,-,rfl⟩:=auq.1 g;simp) (by simp [hi])
 have b:(ts.map fun t=>ss[i]++t)[k]?=aa (ss[i]++ts[k]):=by simp [d]
 rw [←h,List.getElem?_take,bg d,auj]at b;exact b
theorem acN(x y:FC):bo tab 108 [.a [.f x],.a [.f y]]=Eq (.c (.f (.fn 179 [.fp [x] 0,.fp [y] 0]))):=by
 refine bo.eq (bV rfl rfl fun Q b=>?_);apply ai;simp;apply ai;simp;refine aC (b _ _ ?_);simp [deep]
theorem EL(g g':Tg)(ss ts:List dx)(hs:ss.length≤1000)(ht:ts.length≤1000)(b9:∀ s ∈ ss,s.fs.length≤1000)(b_:∀ t ∈ ts,t.fs.length≤1000) :
  akQ 179 [.fp [sl g (aM ss)] 0,.fp [sl g' (aM ts)] 0] (sW (ss.map (·.fs)) (ts.map (·.fs))):=by
 intro b H PP h0 hy;have v:(sW (ss.map (·.fs)) (ts.map (·.fs))).length=ss.length*ts.length:=by rw [Qs,at9,at9]
 have U:∀ H:aj,bA H (.f (sl g (aM ss)))=aa ss.length:=fun H=>by simp
 have W:∀ H:aj,bA H (.f (sl g' (aM ts)))=aa ts.length:=fun H=>by simp
 obtain⟨r,X,he,rfl,f⟩:∃ r X,Ev tab (.fn 179) [.c (.yl b),.c (.f (.fp [sl g (aM ss)] 0)),.c (.f (.fp [sl g' (aM ts)] 0))] H r X∧(r=.t []∧PP (ss.length*ts.length) X):=by
  refine cI rfl rfl fun Q hQ=>?_;apply ai;simp [ou,U];refine bR ss.length (fun i s J=>s.g 0=.c (.yl b)∧s.g 2=.c (.f (.fp [sl g' (aM ts)] 0))∧s.g 9=.c (.f (sl g (aM ss)))∧PP (i*ts.length) J) (by omega) (by decide) (by decide) (by simp) (by simp) ⟨by simp,by simp,by simp,by simpa using h0⟩ ?_ ?_
  ·rintro i s J hi ⟨g0,E,I,K⟩ h hb next
   have y:=fun H:aj=>pZ (H:=H) (iC ss) (kj (l:=ss) (j:=i) hi) rfl;have u:=fun H:aj=>bt (H:=H) (g:=g) (rows:=aM ss) (sz:=1) (k:=.i64) (i:=i) (by omega) (by simpa using hi);simp at y u;refine aF ?_;apply ai;simp [I,h,u,y];apply ai;simp [E,ou,W];refine bR ts.length (fun k s' J=>s'.g 0=.c (.yl b)∧s'.g 2=.c (.f (.fp [sl g' (aM ts)] 0))∧s'.g 9=.c (.f (sl g (aM ss)))∧s'.g 5=.c (.f (sl ss[i].tg (ba ss[i].fs)))∧s'.g 16=.c (.f (sl g' (aM ts)))∧s'.g 10=s.g 10∧s'.g 11=s.g 11∧PP (i*ts.length+k) J) (by omega) (by decide) (by decide) (by simp) (by simp)
    ⟨by simp [g0],by simp [E],by simp [I],by simp,by simp,by simp,by simp,by simpa using K⟩ ?_ ?_
   ·rintro k s' J Z ⟨g0,E,I,e,B,z,A,K⟩ S n N;have m:=fun H:aj=>pZ (H:=H) (iC ts) (kj (l:=ts) (j:=k) Z) rfl;have d:=fun H:aj=>bt (H:=H) (g:=g') (rows:=aM ts) (sz:=1) (k:=.i64) (i:=k) (by omega) (by simpa using Z);simp at m d;have a8:i*ts.length+k<(sW (ss.map (·.fs)) (ts.map (·.fs))).length:=by
     rw [v];have:(i+1)*ts.length≤ss.length*ts.length:=Nat.mul_le_mul_right _ hi;rw [auF,av1]at this;omega
    have p:(sW (ss.map (·.fs)) (ts.map (·.fs)))[i*ts.length+k]=ss[i].fs++ts[k].fs:=by
     have:=acM (ss:=ss.map (·.fs)) (ts:=ts.map (·.fs)) (i:=i) (k:=k) (by simpa using hi) (by simpa using Z);simp only [at9,List.getElem_map]at this;exact(atu.1 this).2
    have d_:=b9 _ (at2 hi);have e_:=b_ _ (at2 Z);obtain⟨Y,q⟩:=aK (J++[bz.box [.f (sl ss[i].tg (ba ss[i].fs)),.f (sl ts[k].tg (ba ts[k].fs))] 0]);have b1:Y[J.length]?=aa (.box [.f (sl ss[i].tg (ba ss[i].fs)),.f (sl ts[k].tg (ba ts[k].fs))] 0):=by rw [q];simp
    have a_:ba (ss[i].fs++ts[k].fs)=ba ss[i].fs++ba ts[k].fs:=by simp [ba]
    obtain⟨r,a,M,c,rfl,L,a7,d9,o⟩:=yD (tab:=tab) (H:=Y) (F:=180) (G:=261) (sz:=4) (bytes:=64) (zs:=[.aw,fi 0,fi 0,.aw]) amI amP (by decide) rfl (b:=J.length) [(.f (sl ss[i].tg (ba ss[i].fs)),ba ss[i].fs),(.f (sl ts[k].tg (ba ts[k].fs)),ba ts[k].fs)] b1 (by simp)
     (fun x O=>by
      simp only [auc,auT,or_false]at O;rcases O with rfl | rfl
      ·exact⟨cq _,fun H' _=>⟨by simp,mI (cq _)⟩⟩
      ·exact⟨cq _,fun H' _=>⟨by simp,mI (cq _)⟩⟩)
     (by simp;omega) (qz (by simp;omega) (by decide))
    have L:LR a c 4 (ba (ss[i].fs++ts[k].fs)):=by
     rw [a_];simpa using L
    have c_:Y.length=J.length+1:=by rw [q];simp
    obtain⟨J3,w,f⟩:=hy (i*ts.length+k) a8 J a c K (fun x O=>by rw [a7 x (by omega),q,anc O]) (by omega) (by rw [p];exact .inr L) (fun x O=>by have:=o x O;omega);have M:Ev tab (.fn 180) [.c (.sl J.length 0 2 2 0 1)] Y (.c c) a:=M;refine aF ?_;apply ai;simp [S,B,d,m];apply al;refine an (.inl rfl) ?_;simp [g0,e,←q,M.eq,w.eq];refine bw (by simp) ?_;refine az (N _ _ ?_ (by simp [S]) (by simp [n]));exact⟨by simp [g0],by simp [E],by simp [I],by simp [e],by simp [B],by simp [z],by simp [A],f⟩
   ·rintro s' J ⟨g0,E,I,e,B,z,A,K⟩ - -;refine az (next _ _ ⟨by simp [g0],by simp [E],by simp [I],?_⟩ (by simp [A,h]) (by simp [z,hb]));rw [auF,av1];exact K
  ·rintro s J ⟨g0,E,I,K⟩ h hb;exact cJ (hQ _ _ _ rfl rfl ⟨rfl,K⟩)
 exact⟨X,he,by rw [v];exact f⟩
end Go.Proofs.YtnaofdffomdmhaaGreat
namespace Go.Proofs.YtnaofdffomdmhaaGreat
open Go Km
def pd(n p:Int):bM:=⟨.nil,[],0,n,.fs,[p]⟩
def td(n p:Int):dx:=⟨.fs,[pd n p]⟩
def xp(ts:List dx):Prop:=∃ n p,AS n p∧ts=[td n p]
def ew(ts:List dx)(d:Int):Prop:=∃ n p,ts=[td n p]∧d % n=p
theorem jX{n p d:Int}:ew [td n p] d↔d % n=p:=by
 constructor
 ·rintro⟨b,g,h,e⟩;simp [td,pd]at h;rw [h.1,h.2];exact e
 ·exact fun e=>⟨n,p,rfl,e⟩
theorem GX(g:Tg)(n p:Int):sl g (aM [td n p])=wb n p:=by cases g<;>rfl
theorem adf{n p:Int}(h:AS n p):AS n (QG n p)∧∀ x:Int,x % n=QG n p↔(x+1) % n=p:=by
 obtain⟨b,d,g,j⟩:=h;unfold QG AS;obtain rfl | rfl | rfl | rfl | rfl | rfl:n=1∨n=2∨n=3∨n=4∨n=5∨n=6:=by omega
 all_goals split<;>refine⟨⟨by omega,by omega,by omega,by omega⟩,fun x=>by omega⟩
theorem zd(g:Tg)(ts:List dx)(h:xp ts):∃ us,xp us∧(∀ x,ew us x↔ew ts (x+1))∧bo tab 106 [.a [.f (sl g (aM ts))],vi (-1)]=Eq (.t [.a [.f (sl .fs (aM us))],vi 0]):=by
 obtain⟨n,p,b,rfl⟩:=h;obtain⟨d,j⟩:=adf b;refine⟨[td n (QG n p)],⟨_,_,d,rfl⟩,fun x=>by rw [jX,jX];exact j x,?_⟩;rw [GX,GX];exact adj b
theorem EN{n p:Int}(h:AS n p):Mod (pd n p):=by
 obtain⟨b,d,g,j⟩:=h;refine⟨?_,by show n≤1000;omega⟩;show gF ⟨.nil,[],0,n,.fs,[p]⟩=ae;simp [gF,eF];omega
theorem wz{n p d:Int}(h0:0≤d):hasB (pd n p) d=ae↔d % n=p:=by
 simp [hasB,xH,pd,h0]
theorem Fb{n p:Int}(h:AS n p):oa [td n p]=ae:=by
 have:=(EN h).ok;simp [oa,kh,td,this]
theorem ald(n p:Int):∀ t ∈ [td n p],t.Sm:=by simp [dx.Sm,td,pd,bM.Sm]
theorem zb(g g':Tg)(ss ts:List dx)(S:xp ss)(U:xp ts)(n:Int)(Y:-1000000000000≤n)(O:n≤1000000000000) :
  ∃ d f,ie (fun x=>max n 0≤x∧ew ss x∧ew ts x) d f∧(0≤d∧d≤1000001000000)∧bo tab 56 [.a [.f (sl g (aM ss))],.a [.f (sl g' (aM ts))],vi n]=Eq (.t [vi d,vb f]):=by
 obtain⟨j,m,b,rfl⟩:=S;obtain⟨l,q,z,rfl⟩:=U;have u:=(Et g [td j m] (by simp) (ald j m)).eq;rw [Fb b]at u;have v:=(Et g' [td l q] (by simp) (ald l q)).eq;rw [Fb z]at v;have B:=acN (sl g (aM [td j m])) (sl g' (aM [td l q]));have s:=EL g g' [td j m] [td l q] (by simp) (by simp) (by simp [td]) (by simp [td]);have K:sW ([td j m].map (·.fs)) ([td l q].map (·.fs))=[[pd j m,pd l q]]:=rfl;rw [K]at s;obtain⟨d,f,N,M,A⟩:=P9 _ _ _ s (fun x W=>by
  rw [aua.1 W];refine⟨by simp,by simp,fun p E=>?_,?_,?_⟩
  ·simp only [auc,auT,or_false]at E;rcases E with rfl | rfl
   ·exact EN b
   ·exact EN z
  ·obtain⟨a1,F,_,_⟩:=b;obtain⟨b1,H,_,_⟩:=z;have:=Int.mul_le_mul F H (by omega) (by omega);simp only [fQ,pd,Int.mul_one];omega
  ·simp [dm,pd]) (max n 0) (by omega) (by omega)
 refine⟨d,f,N.iff fun x=>?_,M,bo.eq (bV rfl rfl fun Q L=>?_)⟩
 ·rw [jX,jX];unfold Rr InN;constructor
  ·rintro⟨h0,I,J⟩;refine⟨_,aua.2 rfl,h0,?_⟩;simp only [vN,List.all_cons,List.all_nil,Bool.and_true,atI];exact⟨(wz (by omega)).2 I,(wz (by omega)).2 J⟩
  ·rintro⟨y,X,h0,b⟩;rw [aua.1 X]at b;simp only [vN,List.all_cons,List.all_nil,Bool.and_true,atI]at b;exact⟨h0,(wz (by omega)).1 b.1,(wz (by omega)).1 b.2⟩
 ·apply ai;simp;apply al;apply ai;simp [u,v];refine bw (by simp) ?_;apply ai;simp [B,A];refine aC (L _ _ ?_);simp
theorem ajl(g g':Tg)(ss ts:List dx)(v:xp ss)(y:xp ts)(b:∀ x,0≤x→¬ (ew ss x∧ew ts x)):bo tab 57 [.a [.f (sl g (aM ss))],.a [.f (sl g' (aM ts))]]=Eq (.t [.a [.f .aw],vi 0]):=by
 obtain⟨z,B,q,rfl⟩:=v;obtain⟨A,E,s,rfl⟩:=y;rw [GX,GX];refine am8 q s ?_;cases u:com (z,B) (A,E)with
 | false=>rfl
 | true=>
  obtain⟨d,j,_,l,m⟩:=aiC u;exact absurd ⟨jX.2 l,jX.2 m⟩ (b d j)
structure jQ(s:aJ):Prop where
 len:1≤s.len∧s.len≤400
 cn:s.cs.length≤3
 min:∀ {c},c ∈ s.cs→0≤c.min∧c.min≤1180
 sm:s.Sm
 v:dU s=ae
 few:∀ c ∈ s.cs,xp c.ts
 xs:s.xs=[]
theorem adJ{m r t z n p mi le:Int}(h:AS n p)(g:0≤mi)(j:mi≤1180)(d:1≤le)(l:le≤400):jQ (oy m r t z n p mi le).st:=
 ⟨⟨d,l⟩,by simp [oy],fun b=>by simp [oy]at b;rw [b];exact⟨g,j⟩,Ab _ _ _ _ _ _ _ _,lO h g j d (by omega),fun c b=>by simp [oy]at b;rw [b];exact⟨n,p,h,rfl⟩,rfl⟩
end Go.Proofs.YtnaofdffomdmhaaGreat
namespace Go.Proofs.YtnaofdffomdmhaaGreat
open Go Km
structure Pr where
 c:cL
 d:cL
 k:Int
 gx:Tg
 xs:List dx
 gy:Tg
 ys:List dx
def Pr.row(p:Pr):List C:=[.f (sl p.c.mg (aM p.c.ts)),.f (fi p.c.min),.f (sl p.d.mg (aM p.d.ts)),.f (fi p.d.min),.f (fi p.k),.f (sl p.gx (aM p.xs)),.f (sl p.gy (aM p.ys)),.f (fi (max 0 (-p.k)))]
def uA(la b:Int)(c d:cL):Int:=(c.min-d.min-b) / 1440+1
def uu(la b:Int)(c d:cL):Int:=(c.min-d.min+la-1) / 1440
structure oE(a b:aJ)(p:Pr):Prop where
 ca:p.c ∈ a.cs
 db:p.d ∈ b.cs
 lo:uA a.len b.len p.c p.d≤p.k
 hi:p.k≤uu a.len b.len p.c p.d
 xo:xp p.xs
 yo:xp p.ys
 xm:∀ e,0≤e→(ew p.xs e↔ew p.c.ts (e+max 0 (-p.k)))
 ym:∀ e,0≤e→(ew p.ys e↔ew p.d.ts (e+max 0 p.k))
theorem yG(a b:aJ):bo tab 55 [.a (a.row.map .f),.a (b.row.map .f)]=Eq (.c (.f (.fn 104 [.fp a.row 0,.fp b.row 0]))):=by
 refine bo.eq (bV rfl rfl fun Q d=>?_);apply ai;simp [aJ.row];apply ai;simp;refine aC (d _ _ ?_);simp [deep,aJ.row]
theorem oM{bb:Nat}{H:aj}(a b:aJ)(ha:jQ a)(hb:jQ b)(PP:List Pr→aj→Prop)(RR:Pr→aj→Prop)(h0:PP [] H)
  (hk:∀ ps J J',PP ps J→(∀ i:Nat,i<H.length→J'[i]?=J[i]?)→J.length≤J'.length→PP ps J')
  (hy:∀ ps p J,PP ps J→H.length≤J.length→oE a b p→∃(r:Bool) (J':aj),Ev tab (.yield bb) [.a p.row] J (vb r) J'∧(if r then PP (ps++[p]) J'∧J.length≤J'.length∧∀ i:Nat,H.length≤i→i<J.length→J'[i]?=J[i]? else RR p J')) :
  ∃ H2,Ev tab (.fn 104) [.c (.yl bb),.c (.f (.fp a.row 0)),.c (.f (.fp b.row 0))] H (.t []) H2∧((∃ ps,PP ps H2∧(∀ p ∈ ps,oE a b p)∧∀ c ∈ a.cs,∀ d ∈ b.cs,∀ k,uA a.len b.len c d≤k→k≤uu a.len b.len c d→∃ p ∈ ps,p.c=c∧p.d=d∧p.k=k)∨∃ p,oE a b p∧RR p H2):=by
 obtain⟨z8,z9⟩:=ha.len;obtain⟨z_,lb1⟩:=hb.len;have x8:=ha.cn;have x9:=hb.cn;have nZ:∀ H:aj,bA H (.f (sl a.cg (aN a.cs)))=aa a.cs.length:=fun H=>by simp
 have s7:∀ H:aj,bA H (.f (sl b.cg (aN b.cs)))=aa b.cs.length:=fun H=>by simp
 have r5:∀(J:aj),aV J ab (.c (.f (.fp a.row 0)))=aa (.c (.f (sl a.cg (aN a.cs))))∧aV J ab (.c (.f (.fp a.row 1)))=aa (vi a.len):=fun J=>⟨rfl,rfl⟩
 have r_:∀(J:aj),aV J ab (.c (.f (.fp b.row 0)))=aa (.c (.f (sl b.cg (aN b.cs))))∧aV J ab (.c (.f (.fp b.row 1)))=aa (vi b.len):=fun J=>⟨rfl,rfl⟩
 obtain⟨r,H2,he,rfl,hP⟩:∃ r H2,Ev tab (.fn 104) [.c (.yl bb),.c (.f (.fp a.row 0)),.c (.f (.fp b.row 0))] H r H2∧(r=.t []∧((∃ ps,PP ps H2∧(∀ p ∈ ps,oE a b p)∧∀ c ∈ a.cs,∀ d ∈ b.cs,∀ k,uA a.len b.len c d≤k→k≤uu a.len b.len c d→∃ p ∈ ps,p.c=c∧p.d=d∧p.k=k)∨∃ p,oE a b p∧RR p H2)):=by
  refine cI rfl rfl fun Q hQ=>?_;apply ai;simp [r5,nZ];refine bR a.cs.length (fun i t J=>t.g 0=.c (.yl bb)∧t.g 1=.c (.f (.fp a.row 0))∧t.g 2=.c (.f (.fp b.row 0))∧t.g 13=.c (.f (sl a.cg (aN a.cs)))∧H.length≤J.length∧∃ ps,PP ps J∧(∀ p ∈ ps,oE a b p)∧∀(B:Nat) (hi:B<a.cs.length),B<i→∀ d ∈ b.cs,∀ k,uA a.len b.len a.cs[B] d≤k→k≤uu a.len b.len a.cs[B] d→∃ p ∈ ps,p.c=a.cs[B]∧p.d=d∧p.k=k) (by omega) (by decide) (by decide) (by simp) (by simp)
   ⟨by simp,by simp,by simp,by simp,at3 _,[],h0,by simp,fun B _ h=>by omega⟩ ?_ ?_
  ·rintro i t J hi ⟨g0,Y,X,v,s9,ps,hP,A,l⟩ hc t8 next
   have o_:=fun H:aj=>bt (H:=H) (g:=a.cg) (rows:=aN a.cs) (sz:=2) (k:=.i64) (i:=(i:Int)) (by omega) (by simp;omega);have j6:=fun H:aj=>bL (H:=H) (dO a.cs) (gM hi);simp only [aui]at o_;have t9:=ha.min (at2 hi);have e_:=ha.few _ (at2 hi);have M:=at2 hi;obtain⟨c,k_⟩:=aK (a.cs[i]);rw [←k_]at j6 t9 e_ M;simp only [cL.row,aug,aus]at j6;refine aF ?_;apply ai;simp [hc,v,o_,j6,-aA];obtain⟨S,i7⟩:=aK (J.length);obtain⟨J1,y⟩:=aK (J++[bz.box [.f (sl c.mg (aM c.ts)),.f (fi c.min)] 0]);have c5:J1[S]?=aa (.box [.f (sl c.mg (aM c.ts)),.f (fi c.min)] 0):=by rw [y,i7];simp
   have b9:PP ps J1:=hk ps J J1 hP (fun i hi=>by rw [y,anc (by omega)]) (by rw [y,at6];omega);have q_:J1.length=S+1:=by rw [y,at6,i7];rfl
   rw [←y,←i7];apply ai;simp [X,r_,s7];refine bR b.cs.length (fun j t' J=>t'.g 0=.c (.yl bb)∧t'.g 1=.c (.f (.fp a.row 0))∧t'.g 2=.c (.f (.fp b.row 0))∧t'.g 13=.c (.f (sl a.cg (aN a.cs)))∧t'.g 14=t.g 14∧t'.g 15=t.g 15∧t'.g 5=.c (.ptr S 0 0)∧t'.g 20=.c (.f (sl b.cg (aN b.cs)))∧S<J.length∧J[S]?=aa (.box [.f (sl c.mg (aM c.ts)),.f (fi c.min)] 0)∧∃ ps,PP ps J∧(∀ p ∈ ps,oE a b p)∧(∀(B:Nat) (hi:B<a.cs.length),B<i→∀ d ∈ b.cs,∀ k,uA a.len b.len a.cs[B] d≤k→k≤uu a.len b.len a.cs[B] d→∃ p ∈ ps,p.c=a.cs[B]∧p.d=d∧p.k=k) ∧
     ∀(O:Nat) (hj:O<b.cs.length),O<j→∀ k,uA a.len b.len c b.cs[O]≤k→k≤uu a.len b.len c b.cs[O]→∃ p ∈ ps,p.c=c∧p.d=b.cs[O]∧p.k=k) (by omega) (by decide) (by decide) (by simp) (by simp)
    ⟨by simp [g0],by simp [Y],by simp [X],by simp [v],by simp,by simp,by simp,by simp,by omega,c5,ps,b9,A,l,fun O _ h=>by omega⟩ ?_ ?_
   ·clear hP A l b9 c5 q_ y;rintro j t' J hj ⟨g0,Y,X,v,F,I,g5,K,n9,c5,ps,hP,A,l,q⟩ j_ j9 j8;have p_:=fun H:aj=>bt (H:=H) (g:=b.cg) (rows:=aN b.cs) (sz:=2) (k:=.i64) (i:=(j:Int)) (by omega) (by simp;omega);have j7:=fun H:aj=>bL (H:=H) (dO b.cs) (gM hj);simp only [aui]at p_;have u5:=hb.min (at2 hj);have f_:=hb.few _ (at2 hj);have N:=at2 hj;obtain⟨d,l_⟩:=aK (b.cs[j]);rw [←l_]at j7 u5 f_ N;simp only [cL.row,aug,aus]at j7;obtain⟨W,i8⟩:=aK (J.length);obtain⟨J1,y⟩:=aK (J++[bz.box [.f (sl d.mg (aM d.ts)),.f (fi d.min)] 0]);have c7:J1[W]?=aa (.box [.f (sl d.mg (aM d.ts)),.f (fi d.min)] 0):=by rw [y,i8];simp
    have i4:J1[S]?=aa (.box [.f (sl c.mg (aM c.ts)),.f (fi c.min)] 0):=by rw [y,anc n9];exact c5
    have b9:PP ps J1:=hk ps J J1 hP (fun i hi=>by rw [y,anc (by omega)]) (by rw [y,at6];omega);have q_:J1.length=W+1:=by rw [y,at6,i8];rfl
    obtain⟨lo,u_⟩:=aK (uA a.len b.len c d);obtain⟨u,u7⟩:=aK (uu a.len b.len c d);have n_:(c.min-d.min-b.len) / 1440+1=lo:=u_.symm;have m4:(c.min-d.min+a.len-1) / 1440=u:=u7.symm;have f1:=vA (c.min-d.min-b.len) (by omega) (by omega);have f2:=vA (c.min-d.min+a.len-1) (by omega) (by omega);rw [m4]at f2;have lob:-1≤lo∧lo≤1:=by omega
    have x_:-1≤u∧u≤1:=by omega
    have m5:∀ J:aj,J[S]?=aa (.box [.f (sl c.mg (aM c.ts)),.f (fi c.min)] 0)→aV J ab (.c (.ptr S 1 0))=aa (vi c.min)∧aV J (aa 2) (.c (.ptr S 0 0))=aa (.a [.f (sl c.mg (aM c.ts)),.f (fi c.min)])∧aV J (aa 1) (.c (.ptr S 0 0))=aa (.a [.f (sl c.mg (aM c.ts))]):=fun J h=>by refine⟨?_,?_,?_⟩<;>simp [aV,aG,h,aT]
    have m7:∀ J:aj,J[W]?=aa (.box [.f (sl d.mg (aM d.ts)),.f (fi d.min)] 0)→aV J ab (.c (.ptr W 1 0))=aa (vi d.min)∧aV J (aa 2) (.c (.ptr W 0 0))=aa (.a [.f (sl d.mg (aM d.ts)),.f (fi d.min)])∧aV J (aa 1) (.c (.ptr W 0 0))=aa (.a [.f (sl d.mg (aM d.ts))]):=fun J h=>by refine⟨?_,?_,?_⟩<;>simp [aV,aG,h,aT]
    obtain⟨v5,-,-⟩:=m5 J1 i4;obtain⟨v7,-,-⟩:=m7 J1 c7;refine aF ?_;apply ai;simp [j_,K,p_,j7,-aA];rw [←y,←i8];apply ai;simp [X,g5,v5,v7,r_,-aA,aW (n:=c.min-d.min),aW (n:=c.min-d.min-b.len),f1,n_,aW (n:=lo)];apply ai;simp [Y,g5,v5,v7,r5,-aA,aW (n:=c.min-d.min),aW (n:=c.min-d.min+a.len),aW (n:=c.min-d.min+a.len-1),f2];apply ai;simp;refine aF ?_;refine cH (fun n s=>∃(k:Int) (m:T) (J:aj),s=⟨m,[],J⟩∧n=(u+1-k).toNat∧lo≤k∧(k=lo∨k≤u+1)∧m.g 0=.c (.yl bb)∧m.g 1=.c (.f (.fp a.row 0))∧m.g 2=.c (.f (.fp b.row 0))∧m.g 13=.c (.f (sl a.cg (aN a.cs)))∧m.g 14=t.g 14∧m.g 15=t.g 15∧m.g 5=.c (.ptr S 0 0)∧m.g 7=.c (.ptr W 0 0)∧m.g 9=vi u∧m.g 10=vi k∧m.g 20=.c (.f (sl b.cg (aN b.cs)))∧m.g 21=t'.g 21∧m.g 22=t'.g 22∧W<J.length∧J[S]?=aa (.box [.f (sl c.mg (aM c.ts)),.f (fi c.min)] 0)∧J[W]?=aa (.box [.f (sl d.mg (aM d.ts)),.f (fi d.min)] 0)∧∃ ps,PP ps J∧(∀ p ∈ ps,oE a b p)∧(∀(B:Nat) (hi:B<a.cs.length),B<i→∀ d ∈ b.cs,∀ k,uA a.len b.len a.cs[B] d≤k→k≤uu a.len b.len a.cs[B] d→∃ p ∈ ps,p.c=a.cs[B]∧p.d=d∧p.k=k) ∧
     (∀(O:Nat) (hj:O<b.cs.length),O<j→∀ k,uA a.len b.len c b.cs[O]≤k→k≤uu a.len b.len c b.cs[O]→∃ p ∈ ps,p.c=c∧p.d=b.cs[O]∧p.k=k)∧∀ k',lo≤k'→k'<k→∃ p ∈ ps,p.c=c∧p.d=d∧p.k=k') (u+1-lo).toNat
     ⟨lo,_,J1,rfl,rfl,by omega,.inl rfl,by simp [g0],by simp [Y],by simp [X],by simp [v],by simp [F],by simp [I],by simp [g5],by simp,by simp,by simp,by simp [K],by simp,by simp,by omega,i4,c7,ps,b9,A,l,q,fun k' _ _=>by omega⟩ ?_
    clear hP A l q b9 c5 i4 c7 v5 v7;rintro n s ⟨k,m,J2,rfl,rfl,k0,k1,g0,Y,X,v,F,I,g5,g7,g9,z,K,a7,a8,y_,c5,c7,ps,hP,A,l,q,b_⟩ ih;apply al;apply ai;simp [g9,z];by_cases u9:k≤u
    ·refine aq (by simp [u9]) (aO ?_);obtain⟨v5,w5,x5⟩:=m5 J2 c5;obtain⟨v7,w7,x7⟩:=m7 J2 c7;have h_:unV .neg (vi k)=aa (vi (-k)):=by
      show aa (vi (IntKind.i64.wrap (0-k)))=_;rw [Int.zero_sub,aW]
     obtain⟨U,g_⟩:=aK (J2.length);have i6:∀(m:T) (E:aj) (p:Pr),oE a b p→p.c=c→p.d=d→p.k=k→m.g 0=.c (.yl bb)→m.g 1=.c (.f (.fp a.row 0))→m.g 2=.c (.f (.fp b.row 0))→m.g 13=.c (.f (sl a.cg (aN a.cs)))→m.g 14=t.g 14→m.g 15=t.g 15→m.g 5=.c (.ptr S 0 0)→m.g 7=.c (.ptr W 0 0)→m.g 9=vi u→m.g 10=vi k→m.g 11=.c (.ptr U 0 0)→m.g 20=.c (.f (sl b.cg (aN b.cs)))→m.g 21=t'.g 21→m.g 22=t'.g 22 →
       E[U]?=aa (.box p.row 0)→(∀ i:Nat,i<J2.length→E[i]?=J2[i]?)→E.length=J2.length+1 →
       WP tab 104 ab [.code A3,.inBlock 5,.code A4,.inLoop A1,.inBlock 4,.inBlock 3,.code (rZ 22 88),.inLoop (iu 2 22 21 23 88 A0),.inBlock 2,.inBlock 1,.code (rZ 15 89),.inLoop (iu 0 15 14 16 89 Fi),.inBlock 0] ⟨m,[],E⟩ Q:=by
      intro m E p i_ v8 v9 v_ g0 Y X v F I g5 g7 g9 z s8 K a7 a8 v6 i9 y7;have s_:PP ps E:=hk ps J2 E hP (fun i hi=>i9 i (by omega)) (by omega);obtain⟨r,J4,u6,hr⟩:=hy ps p E s_ (by omega) i_;have w9:p.row.length=8:=rfl;have tk:List.take 8 p.row=p.row:=rfl;have l8:aV E (aa 8) (.c (.ptr U 0 0))=aa (.a p.row):=by simp [aV,aG,v6,aT,w9,tk]
      apply al;refine an (.inl rfl) ?_;simp [g0,s8,l8,-aA,u6.eq];cases r with
      | false=>exact aq (by simp) (aC (hQ _ _ (.t []) rfl rfl ⟨rfl,.inr ⟨p,i_,by simpa using hr⟩⟩))
      | true=>
      obtain⟨t7,y8,n8⟩:PP (ps++[p]) J4∧E.length≤J4.length∧∀ i:Nat,H.length≤i→i<E.length→J4[i]?=E[i]?:=by simpa using hr
      refine aD (by simp) (aO (az ?_));refine an (.inl rfl) ?_;simp [z,aW (n:=k+1)];have n5:J4[S]?=J2[S]?:=by rw [n8 S (by omega) (by omega),i9 S (by omega)]
      have n7:J4[W]?=J2[W]?:=by rw [n8 W (by omega) (by omega),i9 W (by omega)]
      refine ih (u+1-(k+1)).toNat _ (by omega) ⟨k+1,_,J4,rfl,rfl,by omega,.inr (by omega),by simp [g0],by simp [Y],by simp [X],by simp [v],by simp [F],by simp [I],by simp [g5],by simp [g7],by simp [g9],by simp,by simp [K],by simp [a7],by simp [a8],by omega,by rw [n5];exact c5,by rw [n7];exact c7,ps++[p],t7,fun x hx=>?_,fun B m9 c_ d' t_ k' Z h2=>?_,fun O a_ c_ k' Z h2=>?_,fun k' Z h2=>?_⟩
      ·rcases auh.1 hx with h | h
       ·exact A x h
       ·rw [aua]at h;rw [h];exact i_
      ·obtain⟨x,hx,h⟩:=l B m9 c_ d' t_ k' Z h2;exact⟨x,au7 _ hx,h⟩
      ·obtain⟨x,hx,h⟩:=q O a_ c_ k' Z h2;exact⟨x,au7 _ hx,h⟩
      ·by_cases e:k'=k
       ·exact⟨p,by simp,v8,v9,by rw [v_,e]⟩
       ·obtain⟨x,hx,h⟩:=b_ k' Z (by omega);exact⟨x,au7 _ hx,h⟩
     obtain⟨E,d_⟩:=aK (J2++[bz.box [.f (sl c.mg (aM c.ts)),.f (fi c.min),.f (sl d.mg (aM d.ts)),.f (fi d.min),.f (fi k),.f (sl c.mg (aM c.ts)),.f (sl d.mg (aM d.ts)),.f (fi (max 0 (-k)))] 0]);have i5:E[U]?=aa (.box [.f (sl c.mg (aM c.ts)),.f (fi c.min),.f (sl d.mg (aM d.ts)),.f (fi d.min),.f (fi k),.f (sl c.mg (aM c.ts)),.f (sl d.mg (aM d.ts)),.f (fi (max 0 (-k)))] 0):=by rw [d_,g_];simp
     have k3:∀ i:Nat,i<J2.length→E[i]?=J2[i]?:=fun i hi=>by rw [d_,anc hi]
     have l3:E.length=J2.length+1:=by rw [d_,at6];rfl
     obtain⟨-,-,w_⟩:=m5 E (by rw [k3 S (by omega)];exact c5);obtain⟨-,-,x6⟩:=m7 E (by rw [k3 W (by omega)];exact c7);apply al;refine aF ?_;apply ai;simp [g5,g7,z,w5,x5,w7,x7,-aA,h_];rw [←d_,←g_];apply al;apply ai;simp [z];by_cases kp:0<k
     ·have m_:k=1:=by omega
      obtain⟨us,j5,j4,d9⟩:=zd d.mg d.ts f_;rw [show(-1:Int) = -k by omega]at d9;obtain⟨J4,L⟩:=aK (E.set U (.box [.f (sl c.mg (aM c.ts)),.f (fi c.min),.f (sl d.mg (aM d.ts)),.f (fi d.min),.f (fi k),.f (sl c.mg (aM c.ts)),.f (sl .fs (aM us)),.f (fi (max 0 (-k)))] 0));have s6:dh E (.ptr U 6 0) [.f (sl .fs (aM us))]=aa J4:=by rw [L];simp [dh,i5,bp]
      refine aq (by simp [kp]) ?_;refine an (.inl rfl) ?_;simp [g7,z,x6,-aA,h_,d9,s6,-bl];apply al;apply ai;simp [z,show¬ k<0 by omega];refine bw (by simp) ?_;refine i6 _ J4 ⟨c,d,k,c.mg,c.ts,Tg.fs,us⟩ ⟨M,N,by show uA a.len b.len c d≤k;omega,by show k≤uu a.len b.len c d;omega,e_,j5,fun x hx=>?_,fun x hx=>?_⟩ rfl rfl rfl (by simp [g0]) (by simp [Y]) (by simp [X]) (by simp [v]) (by simp [F]) (by simp [I]) (by simp [g5]) (by simp [g7]) (by simp [g9]) (by simp [z]) (by simp) (by simp [K]) (by simp [a7]) (by simp [a8]) ?_ (fun i hi=>by rw [L,aft (by omega)];exact k3 i hi) (by rw [L,aul];exact l3)
      ·show ew c.ts x↔ew c.ts (x+max 0 (-k));rw [show x+max 0 (-k)=x by omega]
      ·show ew us x↔ew d.ts (x+max 0 k);rw [j4 x,show x+1=x+max 0 k by omega]
      ·rw [L,atY (by omega)];simp [Pr.row]
     ·refine bw (by simp [kp]) ?_;apply al;apply ai;simp [z];by_cases kn:k<0
      ·have m_:k = -1:=by omega
       obtain⟨us,j5,j4,d9⟩:=zd c.mg c.ts e_;rw [←m_]at d9;obtain⟨J4,L⟩:=aK (E.set U (.box [.f (sl c.mg (aM c.ts)),.f (fi c.min),.f (sl d.mg (aM d.ts)),.f (fi d.min),.f (fi k),.f (sl .fs (aM us)),.f (sl d.mg (aM d.ts)),.f (fi (max 0 (-k)))] 0));have s5:dh E (.ptr U 5 0) [.f (sl .fs (aM us))]=aa J4:=by rw [L];simp [dh,i5,bp]
       refine aq (by simp [kn]) ?_;refine an (.inl rfl) ?_;simp [g5,z,w_,-aA,d9,s5,-bl];refine i6 _ J4 ⟨c,d,k,Tg.fs,us,d.mg,d.ts⟩ ⟨M,N,by show uA a.len b.len c d≤k;omega,by show k≤uu a.len b.len c d;omega,j5,f_,fun x hx=>?_,fun x hx=>?_⟩ rfl rfl rfl (by simp [g0]) (by simp [Y]) (by simp [X]) (by simp [v]) (by simp [F]) (by simp [I]) (by simp [g5]) (by simp [g7]) (by simp [g9]) (by simp [z]) (by simp) (by simp [K]) (by simp [a7]) (by simp [a8]) ?_ (fun i hi=>by rw [L,aft (by omega)];exact k3 i hi) (by rw [L,aul];exact l3)
       ·show ew us x↔ew c.ts (x+max 0 (-k));rw [j4 x,show x+1=x+max 0 (-k) by omega]
       ·show ew d.ts x↔ew d.ts (x+max 0 k);rw [show x+max 0 k=x by omega]
       ·rw [L,atY (by omega)];simp [Pr.row]
      ·refine bw (by simp [kn]) ?_;have y6:k=0:=by omega
       refine i6 _ E ⟨c,d,k,c.mg,c.ts,d.mg,d.ts⟩ ⟨M,N,by show uA a.len b.len c d≤k;omega,by show k≤uu a.len b.len c d;omega,e_,f_,fun x hx=>?_,fun x hx=>?_⟩ rfl rfl rfl (by simp [g0]) (by simp [Y]) (by simp [X]) (by simp [v]) (by simp [F]) (by simp [I]) (by simp [g5]) (by simp [g7]) (by simp [g9]) (by simp [z]) (by simp) (by simp [K]) (by simp [a7]) (by simp [a8]) i5 k3 l3
       ·show ew c.ts x↔ew c.ts (x+max 0 (-k));rw [show x+max 0 (-k)=x by omega]
       ·show ew d.ts x↔ew d.ts (x+max 0 k);rw [show x+max 0 k=x by omega]
    ·refine aD (by simp;omega) ?_;refine bJ rfl ?_;refine az (j8 _ _ ⟨by simp [g0],by simp [Y],by simp [X],by simp [v],by simp [F],by simp [I],by simp [g5],by simp [K],by omega,c5,ps,hP,A,l,fun O a_ c_ k' Z h2=>?_⟩ (by simp [a8,j_]) (by simp [a7,j9]));by_cases e:O=j
     ·subst e;rw [←l_]at Z h2 ⊢;exact b_ k' (by omega) (by omega)
     ·exact q O a_ (by omega) k' Z h2
   ·rintro t' J ⟨g0,Y,X,v,F,I,g5,K,n9,c5,ps,hP,A,l,q⟩ - -;refine az (next _ _ ⟨by simp [g0],by simp [Y],by simp [X],by simp [v],by omega,ps,hP,A,fun B u c_ d hd k Z h2=>?_⟩ (by simp [I,hc]) (by simp [F,t8]));by_cases e:B=i
    ·subst e;rw [←k_]at Z h2 ⊢;obtain⟨O,a_,rfl⟩:=auI hd;exact q O a_ a_ k Z h2
    ·exact l B u (by omega) d hd k Z h2
  ·rintro t J ⟨g0,Y,X,v,s9,ps,hP,A,l⟩ - -;exact cJ (hQ _ _ _ rfl rfl ⟨rfl,.inl ⟨ps,hP,A,fun c hc d hd k Z h2=>by
    obtain⟨B,u,rfl⟩:=auI hc;exact l B u u d hd k Z h2⟩⟩)
 exact⟨H2,he,hP⟩
theorem PJ{bb:Nat}{H:aj}(a b:aJ)(u:jQ a)(v:jQ b)(PP:List Pr→aj→Prop)(h0:PP [] H)
  (y:∀ ps J J',PP ps J→(∀ i:Nat,i<H.length→J'[i]?=J[i]?)→J.length≤J'.length→PP ps J')
  (z:∀ ps p J,PP ps J→H.length≤J.length→oE a b p→∃ J',Ev tab (.yield bb) [.a p.row] J (vb ae) J'∧PP (ps++[p]) J'∧J.length≤J'.length∧∀ i:Nat,H.length≤i→i<J.length→J'[i]?=J[i]?) :
  ∃ g,Ev tab (.fn 104) [.c (.yl bb),.c (.f (.fp a.row 0)),.c (.f (.fp b.row 0))] H (.t []) g∧∃ ps,PP ps g∧(∀ p ∈ ps,oE a b p)∧∀ c ∈ a.cs,∀ d ∈ b.cs,∀ k,uA a.len b.len c d≤k→k≤uu a.len b.len c d→∃ p ∈ ps,p.c=c∧p.d=d∧p.k=k:=by
 obtain⟨g,x,h | ⟨_,_,h⟩⟩:=oM a b u v PP (fun _ _=>False) h0 y fun ps p J j l m=>by
  obtain⟨J',q,s⟩:=z ps p J j l m;exact⟨ae,J',q,by simpa using s⟩
 ·exact⟨g,x,h⟩
 ·exact h.elim
end Go.Proofs.YtnaofdffomdmhaaGreat
namespace Go.Proofs.YtnaofdffomdmhaaGreat
open Go Km
def an1:bz→Bool
 | .b5 _ _ _ _ _=>ag| _=>ae
def nb:List Nat→aj→aj
 | [],H=>H| b::d,H=>nb d (H.set b (.eZ ag))
structure fD(bs:List Nat)(H:aj):Prop where
 nd:bs.Nodup
 on:∀ b ∈ bs,H[b]?=aa (.eZ ae)
theorem kG{call:cR}:∀ {d:List Nat} {H:aj},fD d H→dH call (d.map .gX) H=aa (nb d H)
 | [],H,_=>rfl
 | b::d,H,h=>by
  have l:=h.on b at4;have g:=List.nodup_cons.1 h.nd;simp only [aug,dH,l,nb];exact kG ⟨g.2,fun x j=>by rw [aft (by rintro rfl;exact g.1 j)];exact h.on x (at5 _ j)⟩
theorem iM:∀ {d:List Nat} {H:aj} {i:Nat},i ∉ d→(nb d H)[i]?=H[i]?
 | [],_,_,_=>rfl
 | b::d,H,i,h=>by
  simp only [auc,not_or]at h;rw [nb,iM h.2,aft (Ne.symm h.1)]
def akP(d:List gG)(r:V)(s:St):Prop:=∃ b,s.defs=b.map .gX∧fD b s.heap∧∃ g,Km.results s.aB (nb b s.heap) d=aa g∧iZ deep (nb b s.heap) g=aa r
theorem zo{f:Nat}{args:List V}{S:V→Prop}{ps:List P}{b:List gG}{body:aE}(B:tab f=aa ⟨ps,b,body⟩)(z:args.length=ps.length)
  (h:∀ Q:Option aE→St→Prop,(∀ j s r,S r→akP b r s→Q j s)→WP tab f ab [.code body] ⟨cK ps args .e,[],[]⟩ Q):∃ r,S r∧bo tab f args r:=by
 have u:=h (fun _ s=>∃ r,S r∧akP b r s) fun _ _ r g l=>⟨r,g,l⟩
 obtain⟨n,m,d,j,s,g,r,A,q,y,x,E,l,v⟩:=u;exact⟨r,A,E,nb q s.heap,sM B z ⟨n,m,d,j,s,g,0,0,_,by rw [y];exact kG x,l,rfl⟩,v⟩
theorem fD.set{d:List Nat}{H:aj}(h:fD d H){i:Nat}{y z:bz}(hi:H[i]?=aa y)(hy:y≠.eZ ae):fD d (H.set i z):=⟨h.nd,fun b g=>by
 have:=h.on b g;rw [aft (by rintro rfl;rw [this]at hi;cases hi;exact hy rfl)];exact this⟩
theorem fD.not{b:List Nat}{H:aj}(h:fD b H){i:Nat}{y:bz}(hi:H[i]?=aa y)(hy:y≠.eZ ae):i ∉ b:=fun d=>by
 have:=h.on i d;rw [hi]at this;cases this;exact hy rfl
theorem Bt(a b:aJ)(s:a.xs=[]):∃ v,v=ag∧bo tab 54 [.a (a.row.map .f),.a (b.row.map .f)]=Eq (vb v):=by
 refine⟨ag,rfl,bo.eq (bV rfl rfl fun Q q=>?_)⟩;apply ai;simp [aJ.row,s];apply al;apply ai;have d:∀(K:aj) (g:Tg),bA K (.f (sl g (aH [])))=aa 0:=fun K g=>by cases g<;>rfl
 simp [d];refine bR 0 (fun _ t K=>t.g 4=.c (.ptr 2 0 0)∧K[2]?=aa (.box [.f (.bool ag)] 0)) (by omega) (by decide) (by decide) (by simp) (by simp) ⟨by simp,rfl⟩ (fun j t H x=>by omega) ?_;rintro t K ⟨l,m⟩ - -;have u:dh K (.ptr 2 0 0) [.f (.bool ag)]=aa (K.set 2 (.box [.f (.bool ag)] 0)):=by simp [dh,m,bp]
 apply ai;simp [l,u,-bl];refine aC (q _ _ ?_);simp [Km.results,bj,l,au m]
end Go.Proofs.YtnaofdffomdmhaaGreat
namespace Go.Proofs.YtnaofdffomdmhaaGreat
open Go Km
def aI.lt(x y:aI):Prop:=x.fr<y.fr∨x.fr=y.fr∧(x.day<y.day∨x.day=y.day∧x.to<y.to)
theorem qn(x y:aI):eU x y<0↔x.lt y:=by
 unfold eU aI.lt;simp only [wm,de]
 repeat' split
 all_goals omega
theorem aI.lt_trans{x y z:aI}(h:x.lt y)(b:y.lt z):x.lt z:=by unfold aI.lt at *;omega
theorem aI.anT{x y:aI}(h:¬ x.lt y)(d:x≠y):y.lt x:=by
 obtain⟨a,b,c⟩:=x;obtain⟨a',g,j⟩:=y;unfold aI.lt at *;simp only [ne_eq,aI.mk.injEq]at d;simp only at h ⊢;omega
theorem aI.Ei{x:aI}:¬ x.lt x:=by unfold aI.lt;omega
def aI.le(x y:aI):Prop:=¬ y.lt x
theorem aI.le_trans{x y z:aI}(h:x.le y)(b:y.le z):x.le z:=by unfold aI.le aI.lt at *;omega
theorem aI.aqU{x y:aI}(h:x.lt y):x.le y:=by unfold aI.le aI.lt at *;omega
@[simp] theorem aI.asb (x:aI):x.row.length=3:=rfl
theorem Eg{b:Type}(A:List b)(x:b)(B:List b):(A++x::B)[A.length]?=aa x:=by simp
theorem GH{b:Type}(A:List b)(x y:b)(B:List b):(A++x::B).set A.length y=A++y::B:=by simp
theorem lT(l:List aI)(j:Nat)(x:aI):(aH l).set j x.row=aH (l.set j x):=by simp [aH,List.map_set]
theorem fq{l:List aI}{j:Nat}{x:aI}(h:l[j]?=aa x):(aH l)[j]?=aa x.row:=by simp [aH,h]
theorem Ak{H:aj}{b ep F:Nat}{l:List aI}(hF:∀ x y:aI,Kf tab F [.a (x.row.map .f),.a (y.row.map .f)] (vi (eU x y)))(hl:l.length≤1000000)(hb:RB H b 3 ep (aH l)) :
  ∃ r H',Ev tab (.fn 341) [.c (.sl b 0 l.length 0 ep 3),vi 0,vi l.length,.c (.f (.fn F []))] H r H' ∧
   (r=.t []∧Fm b H H'∧∃ l':List aI,RB H' b 3 ep (aH l')∧l'.Perm l∧l'.Pairwise aI.le):=by
 refine cI rfl rfl fun Q hQ=>?_;apply ai;simp [aW (n:=(1:Int))];refine aF ?_;refine cH (fun n s=>∃(i:Nat) (t:T) (Y:aj) (rows:List aI),s=⟨t,[],Y⟩∧n=l.length+1-i∧1≤i∧(i≤l.length∨i=1)∧t.g 0=.c (.sl b 0 l.length 0 ep 3)∧t.g 1=vi 0∧t.g 2=vi l.length∧t.g 3=.c (.f (.fn F []))∧t.g 8=vi i ∧
  Fm b H Y∧RB Y b 3 ep (aH rows)∧rows.Perm l∧(rows.take i).Pairwise aI.le) l.length
  ⟨1,_,H,l,rfl,by omega,by omega,.inr rfl,by simp,by simp,by simp,by simp,by simp,Fm.refl H,hb,.refl _,?_⟩ ?_
 ·cases l with
  | nil=>simp| cons x r=>simp
 rintro n s ⟨i,t,Y,rows,rfl,rfl,g_,hi,g0,L,N,O,M,u,d,v,E⟩ ih;have a8:=v.length_eq;apply al;apply ai;simp [M,N];by_cases a_:i<l.length
 case neg=>
  refine aD (by simp [a_]) ?_;refine bJ (k':=[]) rfl ?_;refine cJ (hQ _ _ _ rfl rfl ⟨rfl,u,rows,d,v,?_⟩);rwa [at8 (by omega)]at E
 refine aq (by simp [a_]) (aO ?_);apply al;refine aF ?_;apply ai;simp [M];refine aF ?_;obtain⟨S,x,C,q,hS⟩:∃ S x C,rows=S++x::C∧S.length=i:=by
  refine⟨rows.take i,rows[i]'(by omega),rows.drop (i+1),?_,by simp;omega⟩;rw [←at7 (by omega),List.take_append_drop]
 have d_:S.Pairwise aI.le:=by
  rw [q,auw (by omega),at8 (by omega)]at E;exact E
 refine cH (fun n s=>∃(t:T) (I:aj) (A B:List aI),s=⟨t,[],I⟩∧n=A.length∧S=A++B∧t.g 0=.c (.sl b 0 l.length 0 ep 3)∧t.g 1=vi 0∧t.g 2=vi l.length∧t.g 3=.c (.f (.fn F []))∧t.g 8=vi i∧t.g 9=vi A.length ∧
  Fm b H I∧RB I b 3 ep (aH (A++x::B++C))∧(∀ y ∈ B,x.le y)) i
  ⟨_,Y,S,[],rfl,hS.symm,by simp,by simp [g0],by simp [L],by simp [N],by simp [O],by simp [M],by simp [hS],u,by rw [q]at d;simpa using d,by simp⟩ ?_
 rintro n s ⟨t,I,A,B,rfl,rfl,K,g0,L,N,O,M,g9,u,d,hB⟩ f_;have stop:(A++x::B).Pairwise aI.le→∀ t:T,t.g 0=.c (.sl b 0 l.length 0 ep 3)→t.g 1=vi 0→t.g 2=vi l.length→t.g 3=.c (.f (.fn F []))→t.g 8=vi i→∀ I,Fm b H I→RB I b 3 ep (aH (A++x::B++C)) →
   WP tab 341 ab [.inBlock 1,.code nC,.inLoop po,.inBlock 0] ⟨t,[],I⟩ Q:=by
  intro hp t g0 L N O M I u d;refine az (an (.inl rfl) ?_);simp [M,aW (n:=(i:Int)+1)];have h_:(A++x::B).length=i+1:=by rw [←hS,K];simp;omega
  refine ih (l.length+1-(i+1)) _ (by omega) ⟨i+1,_,I,A++x::B++C,rfl,rfl,by omega,.inl (by omega),by simp [g0],by simp [L],by simp [N],by simp [O],by simp,u,d,?_,?_⟩
  ·refine List.Perm.trans ?_ v;rw [q,K];simp only [List.append_assoc,auX];exact List.Perm.append_left A (List.perm_middle.symm)
  ·rw [auw (by omega),at8 (by omega)];exact hp
 have i4:l.length=A.length+1+B.length+C.length:=by rw [←a8,q,K];simp;omega
 have b9:(A++B).Pairwise aI.le:=K▸d_;rw [au1]at b9;obtain⟨p1,p2,p3⟩:=b9;rcases List.eq_nil_or_concat A with rfl | ⟨J,y,rfl⟩
 ·
  apply al;apply ai;simp [g9,L];refine aD (by simp) ?_;refine bJ (k':=[.inBlock 1,.code nC,.inLoop po,.inBlock 0]) rfl ?_;refine stop ?_ _ (by simp [g0]) (by simp [L]) (by simp [N]) (by simp [O]) (by simp [M]) _ u d;rw [ave,auN];exact⟨hB,p2⟩
 ·obtain⟨m,X⟩:=aK (J.length);have b_:=d;have e0:J++[y]++x::B++C=J++y::x ::(B++C):=by simp
  rw [List.concat_eq_append]at *;rw [e0]at d;have gx:(J++y::x ::(B++C))[m+1]?=aa x:=by rw [X,atZ (by omega)];simp
  have gy:(J++y::x ::(B++C))[m]?=aa y:=by rw [X];exact Eg _ _ _
  have U:t.g 9=vi ((m:Int)+1):=by rw [g9,X];simp
  have hA:(J++[y]).length=m+1:=by rw [X];simp
  have i1:=d.idx (n:=l.length) (c:=0) (k:=.i64) (o:=0) (i:=(m:Int)+1) (by omega) (by omega);have i0:=d.idx (n:=l.length) (c:=0) (k:=.i64) (o:=0) (i:=(m:Int)) (by omega) (by omega);have t1:((m:Int)+1).toNat=m+1:=by omega
  rw [t1,auH]at i1;rw [aui,auH]at i0;have l1:=d.ldr (bD _) (fq gx);have l0:=d.ldr (bD _) (fq gy);have he:=(hF x y).ev I;apply al;apply ai;simp [U,g0,L,O,show(0:Int)<(m:Int)+1 by omega,i1,i0,l1,l0,he,-aA,aW (n:=(m:Int))];by_cases hc:eU x y<0
  case neg=>
   refine aD (by simp [hc]) ?_;refine bJ (k':=[.inBlock 1,.code nC,.inLoop po,.inBlock 0]) rfl ?_;refine stop ?_ _ (by simp [g0]) (by simp [L]) (by simp [N]) (by simp [O]) (by simp [M]) _ (u.trans (Fm.push _ _)) (b_.push _);have c_:y.le x:=fun h=>hc ((qn _ _).2 h);rw [au1];refine⟨p1,auN.2 ⟨hB,p2⟩,fun a ha z W=>?_⟩;rcases auc.1 W with rfl | W
   ·rcases auh.1 ha with h | h
    ·exact aI.le_trans ((au1.1 p1).2.2 a h y (by simp)) c_
    ·obtain rfl:=aua.1 h;exact c_
   ·exact p3 a ha z W
  have e_:x.lt y:=(qn _ _).1 hc;have g:=d.push (ai9 tab F [.a (x.row.map .f),.a (y.row.map .f)] I);obtain⟨HJ,Z⟩:=aK (I++ai9 tab F [.a (x.row.map .f),.a (y.row.map .f)] I);rw [←Z]at g ⊢;have a7:Fm b H HJ:=by rw [Z];exact u.trans (Fm.push _ _)
  have lx:m+1<(aH (J++y::x ::(B++C))).length:=by simp;omega
  have i1:=g.idx (n:=l.length) (c:=0) (k:=.i64) (o:=0) (i:=(m:Int)+1) (by omega) (by omega);have i0:=g.idx (n:=l.length) (c:=0) (k:=.i64) (o:=0) (i:=(m:Int)) (by omega) (by omega);rw [t1,auH]at i1;rw [aui,auH]at i0;have l1:=g.ldr (bD _) (fq gx);have l0:=g.ldr (bD _) (fq gy);obtain⟨H3,s1,r1,f1,-⟩:=g.str (bD _) lx (row:=y.row) rfl;rw [lT]at r1;have d9:=r1.idx (n:=l.length) (c:=0) (k:=.i64) (o:=0) (i:=(m:Int)) (by omega) (by omega);rw [aui,auH]at d9;obtain⟨H4,s2,r2,f2,-⟩:=r1.str (bD _) (j:=m) (by simp;omega) (row:=x.row) rfl;rw [lT]at r2;have e4:((J++y::x ::(B++C)).set (m+1) y).set m x=J++x ::(y::B)++C:=by
   rw [X,List.set_append_right _ _ (by omega)];simp
  rw [e4]at r2;refine aq (by simp [hc]) (aO ?_);apply al;refine aF ?_;refine an (.inl rfl) ?_;simp [U,g0,i1,i0,d9,l1,l0,s1,s2,-aA,-bl,aW (n:=(m:Int))];refine az ?_;refine an (.inl rfl) ?_;simp [U,aW (n:=(m:Int))];refine f_ J.length _ (by simp) ⟨_,H4,J,y::B,rfl,rfl,by rw [K];simp,by simp [g0],by simp [L],by simp [N],by simp [O],by simp [M],by simp [X],a7.trans (f1.trans f2),r2,fun z W=>?_⟩;rcases auc.1 W with rfl | W
  ·exact aI.aqU e_
  ·exact hB z W
def anR(n:Nat):Int:=if n=0 then 0 else if n=1 then 1 else if n≤3 then 2 else if n≤7 then 3 else 4
theorem ajh:(List.range 13).map (fun n:Nat=>RK 280 [.c (.f (.int .u64 n))] (vi (anR n)))=(List.range 13).map fun n:Nat=>(vi (anR n)=vi (anR n)):=by kernel_rfl
theorem aci{n:Nat}(h:n≤12):∃ k:Int,bo tab 280 [.c (.f (.int .u64 n))]=Eq (vi k):=
 ⟨_,xc ajh (avb.2 (show n<13 by omega))⟩
theorem aoa{H:aj}{b ep F:Nat}{l:List aI}{k:Int}(q:∀ x y:aI,Kf tab F [.a (x.row.map .f),.a (y.row.map .f)] (vi (eU x y)))(A:l.length≤12)(v:RB H b 3 ep (aH l)) :
  ∃ r H',Ev tab (.fn 279) [.c (.sl b 0 l.length 0 ep 3),vi 0,vi l.length,vi k,.c (.f (.fn F []))] H r H' ∧
   (r=.t []∧Fm b H H'∧∃ l':List aI,RB H' b 3 ep (aH l')∧l'.Perm l∧l'.Pairwise aI.le):=by
 obtain⟨r,H',z,rfl,d,l',g,j,m⟩:=Ak q (by omega) v;refine cI rfl rfl fun Q u=>?_;apply ai;simp;apply ai;simp;refine aF ?_;refine cH (fun _ s=>s=⟨_,[],H⟩) 0 rfl ?_;rintro _ s rfl -;refine aF ?_;apply ai;simp [aW (n:=(l.length:Int))];apply al;apply ai;simp;refine aq (by simp;omega) ?_;apply ai;simp [z.eq];exact aC (u _ _ _ rfl rfl ⟨rfl,d,l',g,j,m⟩)
theorem ab9{H:aj}{b ep F:Nat}{l:List aI}(u:∀ x y:aI,Kf tab F [.a (x.row.map .f),.a (y.row.map .f)] (vi (eU x y)))(g:l.length≤12)(d:RB H b 3 ep (aH l)) :
  ∃ r H',Ev tab (.fn 203) [.c (.sl b 0 l.length 0 ep 3),.c (.f (.fn F []))] H r H' ∧
   (r=.t []∧Fm b H H'∧∃ l':List aI,RB H' b 3 ep (aH l')∧l'.Perm l∧l'.Pairwise aI.le):=by
 obtain⟨k,A⟩:=aci g;obtain⟨r,H',z,rfl,j,l',m,q,s⟩:=aoa (k:=k) u g d;refine cI rfl rfl fun Q v=>?_;apply ai;simp [d.len];refine an (.inl rfl) ?_;have B:IntKind.wrap .u64 (l.length:Int)=l.length:=by
  show(l.length:Int) % 18446744073709551616=l.length;omega
 simp [B,A,z.eq];exact cJ (v _ _ _ rfl rfl ⟨rfl,j,l',m,q,s⟩)
theorem xC{H:aj}{F:Nat}:∃ r H',Ev tab (.fn 341) [.c (.f .aw),vi 0,vi 0,.c (.f (.fn F []))] H r H'∧(r=.t []∧H'=H):=by
 refine cI rfl rfl fun Q b=>?_;apply ai;simp [aW (n:=(1:Int))];refine aF ?_;refine cH (fun _ s=>s=⟨_,[],H⟩) 0 rfl ?_;rintro _ s rfl -;apply al;apply ai;simp;refine aD (by simp) ?_;refine bJ (k':=[]) rfl ?_;exact cJ (b _ _ _ rfl rfl ⟨rfl,rfl⟩)
theorem ajx{H:aj}{F:Nat}{k:Int}:∃ r H',Ev tab (.fn 279) [.c (.f .aw),vi 0,vi 0,vi k,.c (.f (.fn F []))] H r H'∧(r=.t []∧H'=H):=by
 obtain⟨r,H',d,rfl,rfl⟩:=xC (H:=H) (F:=F);refine cI rfl rfl fun Q b=>?_;apply ai;simp;apply ai;simp;refine aF ?_;refine cH (fun _ s=>s=⟨_,[],_⟩) 0 rfl ?_;rintro _ s rfl -;refine aF ?_;apply ai;simp [aW (n:=(0:Int))];apply al;apply ai;simp;refine aq (by simp) ?_;apply ai;simp [d.eq];exact aC (b _ _ _ rfl rfl ⟨rfl,rfl⟩)
theorem P6{H:aj}{F:Nat}:∃ r H',Ev tab (.fn 203) [.c (.f .aw),.c (.f (.fn F []))] H r H'∧(r=.t []∧H'=H):=by
 obtain⟨k,b⟩:=aci (n:=0) (by omega);obtain⟨r,H',g,rfl,rfl⟩:=ajx (H:=H) (F:=F) (k:=k);refine cI rfl rfl fun Q d=>?_;apply ai;simp [bA];refine an (.inl rfl) ?_;have j:IntKind.wrap .u64 0=0:=rfl;simp at b;simp [j,b,g.eq];exact cJ (d _ _ _ rfl rfl ⟨rfl,rfl⟩)
theorem acg{x y:aI}(h:x.le y)(b:x≠y):x.lt y:=aI.anT h (Ne.symm b)
def eqB(x y:aI):Bool:=x.day == y.day&&(x.fr == y.fr&&x.to == y.to)
theorem ue{x y:aI}:eqB x y=ae↔x=y:=by
 obtain⟨a,b,c⟩:=x;obtain⟨a',d,g⟩:=y;simp [eqB]
theorem Gm{l:List aI}(g:l.Pairwise aI.le){i j:Nat}(b:i<j)(d:j<l.length):(l[i]'(by omega)).le l[j]:=auQ.1 g i j (by omega) d b
theorem DS{H:aj}{b ep:Nat}{l:List aI}(hl:l.length≤1000000)(hs:l.Pairwise aI.le)(B:RB H b 3 ep (aH l)) :
  ∃ r H',Ev tab (.fn 205) [.c (.sl b 0 l.length 0 ep 3)] H r H' ∧
   (∃ l' R:List aI,r=.c (.sl b 0 l'.length 0 ep 3)∧Fm b H H'∧RB H' b 3 ep (aH (l'++R))∧l'.length≤l.length∧l'.Pairwise aI.lt∧∀ x,x ∈ l'↔x ∈ l):=by
 refine cI rfl rfl fun Q hQ=>?_;apply ai;simp;apply al;apply ai;simp [B.len];by_cases h2:l.length<2
 ·refine aq (by simp;omega) ?_;apply ai;simp;refine aC (hQ _ _ _ rfl (kd (by simp)) ⟨l,[],rfl,Fm.refl _,by simpa using B,at3 _,?_,fun _=>Iff.rfl⟩)
  match l,h2 with
  | [],_=>exact List.Pairwise.nil| [x],_=>exact avw _ _| x::y::r,h=>simp at h;omega
 refine aD (by simp;omega) (aO ?_);apply al;apply ai;simp;refine aF ?_;refine cH (fun n s=>∃(k:Nat) (t:T),s=⟨t,[],H⟩∧n=l.length-k∧1≤k∧k≤l.length∧t.g 0=.c (.sl b 0 l.length 0 ep 3)∧t.g 3=vi k∧(l.take k).Pairwise aI.lt) (l.length-1)
  ⟨1,_,rfl,rfl,by omega,by omega,by simp,by simp,?_⟩ ?_
 ·cases l with
  | nil=>simp| cons x r=>simp
 rintro n s ⟨k,t,rfl,rfl,i7,i8,g0,A,hp⟩ ih;apply al;apply ai;simp [g0,A,B.len];by_cases u:k<l.length
 case neg=>
  refine aD (by simp [u]) ?_;refine bJ (k':=[.code nB]) rfl ?_;apply ai;simp [g0];refine aC (hQ _ _ _ rfl (kd (by simp)) ⟨l,[],rfl,Fm.refl _,by simpa using B,at3 _,?_,fun _=>Iff.rfl⟩);rwa [at8 (by omega)]at hp
 refine aq (by simp [u]) (aO ?_);obtain⟨m,rfl⟩:∃ m,k=m+1:=⟨k-1,by omega⟩
 have ix:∀ {H:aj} {rows:List (List FC)} (B:RB H b 3 ep rows) (o n i:Nat) (hi:i<n),bG H 3 ab (.c (.sl b o n 0 ep 3)) (vi i)=aa (.c (.ptr b (o+i*3) ep)):=by
  intro H rows B o n i hi;have:=B.idx (n:=n) (c:=0) (k:=.i64) (o:=o) (i:=(i:Int)) (by omega) (by omega);rwa [aui]at this
 have i1:=ix B 0 l.length (m+1) u;have i0:=ix B 0 l.length m (by omega);have l1:=B.ldr (bD _) (gw (l:=l) (j:=m+1) u);have l0:=B.ldr (bD _) (gw (l:=l) (j:=m) (by omega));rw [auH]at i1 i0;have c1:((m+1:Nat):Int)-1=m:=by omega
 rw [show((m+1:Nat):Int)=(m:Int)+1 by omega]at i1;have b_:l.take (m+1+1)=l.take (m+1)++[l[m+1]]:=by rw [auz,asZ u];rfl
 apply al;refine aF ?_;apply ai;simp [g0,A,i1,i0,l1,l0,-aA,aW (n:=(m:Int)),aI.row];cases hc:(l[m+1].day == l[m].day&&(l[m+1].fr == l[m].fr&&l[m+1].to == l[m].to))
 ·
  refine aD (by simp) (aO (az ?_));refine an (.inl rfl) ?_;simp [A,aW (n:=(m:Int)+1+1)];refine ih (l.length-(m+2)) _ (by omega) ⟨m+2,_,rfl,rfl,by omega,by omega,by simp [g0],by simp;omega,?_⟩;show(l.take (m+1+1)).Pairwise aI.lt;have L:l[m]≠l[m+1]:=fun e=>by
   have:eqB l[m+1] l[m]=ae:=ue.2 e.symm;rw [eqB,hc]at this;cases this
  rw [b_,au1];refine⟨hp,avw _ _,fun y hy z hz=>?_⟩;obtain rfl:=aua.1 hz;obtain⟨i,hi,rfl⟩:=auI hy;have i6:i<m+1:=by simp at hi;omega
  rw [List.getElem_take];by_cases e:i=m
  ·subst e;exact acg (Gm hs (by omega) u) L
  ·exact aI.lt_trans (y:=l[m]) (by
    have h1:=auQ.1 hp i m (by simp;omega) (by simp;omega) (by omega);simpa using h1) (acg (Gm hs (by omega) u) L)
 ·
  have e_:l[m+1]=l[m]:=ue.1 hc;have c2:((m+1:Nat):Int)=(m:Int)+1:=by omega
  have M:=B.wR (k:=m+1) u;rw [c2]at M;refine aq (by simp) ?_;apply ai;simp [g0,A,M];apply al;apply ai;simp;refine aF ?_;refine cH (fun n s=>∃(i:Nat) (t:T) (E:aj) (P R:List aI),s=⟨t,[],E⟩∧n=l.length-(m+2+i)∧m+2+i≤l.length∧t.g 0=.c (.sl b 0 l.length 0 ep 3)∧t.g 3=vi P.length∧t.g 4=.c (.sl b ((m+1)*3) (l.length-(m+1)) 0 ep 3)∧t.g 5=vi ((i:Int)+1) ∧
   Fm b H E∧RB E b 3 ep (aH (P++R))∧(P++R).length=l.length∧1≤P.length∧P.length≤m+1+i∧(∀ q,m+1+i≤q→(P++R)[q]?=l[q]?)∧P.Pairwise aI.lt∧∀ x,x ∈ P↔x ∈ l.take (m+2+i)) (l.length-(m+2))
   ⟨0,_,H,l.take (m+1),l.drop (m+1),rfl,rfl,by omega,by simp [g0],by simp [A];omega,by simp,by simp,Fm.refl _,by simpa using B,by simp,by simp;omega,by simp;omega,by simp,hp,fun x=>?_⟩ ?_
  ·show x ∈ l.take (m+1)↔x ∈ l.take (m+1+1);rw [b_,auh,aua];refine⟨.inl,fun h=>h.elim id fun e=>?_⟩;rw [e,e_];exact List.mem_take_iff_getElem.2 ⟨m,by omega,rfl⟩
  rintro n s ⟨i,t,E,P,R,rfl,rfl,hi,g0,A,O,S,F,d,v,U,c_,hq,J,g⟩ i5;have W:=d.len (o:=(m+1)*3) (l:=l.length-(m+1)) (c:=0);apply al;apply ai;simp [O,S,W];by_cases I:m+2+i<l.length
  case neg=>
   have a8:m+2+i=l.length:=by omega
   refine aD (by simp;omega) ?_;refine bJ (k':=[.code rb,.inBlock 1,.code re,.inLoop q8,.inBlock 0,.code nB]) rfl ?_;have a7:P.length<l.length:=by omega
   obtain⟨H3,d_,Y,f_⟩:=d.clr (bD _) (zs:=[fi 0,fi 0,fi 0]) (by simpa using v) a7 rfl;have M:=d.wR a7;apply ai;simp [g0,A,M,d_];have i4:=Y.adn (n:=l.length) (k:=P.length) (by omega) (by omega);apply ai;simp [g0,A,i4];have e3:(aH (P++R)).take P.length++List.replicate (l.length-P.length) [fi 0,fi 0,fi 0]=aH (P++List.replicate (l.length-P.length) ⟨0,0,0⟩):=by
    simp [aH,aI.row]
   rw [e3]at Y;refine aC (hQ _ _ _ rfl (kd (by simp)) ⟨P,_,rfl,F.trans f_,Y,by omega,J,fun x=>?_⟩);rw [g,a8,auv]
  have ha:(P++R)[m+2+i]?=aa l[m+2+i]:=by rw [hq _ (by omega),asZ I]
  have d9:(P++R)[m+1+i]?=aa (l[m+1+i]'(by omega)):=by rw [hq _ (by omega),asZ]
  have j1:=ix d ((m+1)*3) (l.length-(m+1)) (i+1) (by omega);have j0:=ix d ((m+1)*3) (l.length-(m+1)) i (by omega);rw [show(m+1)*3+(i+1)*3=(m+2+i)*3 by omega,show((i+1:Nat):Int)=(i:Int)+1 by omega]at j1;rw [show(m+1)*3+i*3=(m+1+i)*3 by omega]at j0;have d1:=d.ldr (bD _) (fq ha);have d0:=d.ldr (bD _) (fq d9);refine aq (by simp;omega) (aO ?_);apply al;refine aF ?_;apply ai;simp [O,S,j1,j0,d1,d0,-aA,aW (n:=(i:Int)),aI.row];have N:l.take (m+2+(i+1))=l.take (m+2+i)++[l[m+2+i]]:=by
   rw [show m+2+(i+1)=m+2+i+1 by omega,auz,asZ I];rfl
  have next:∀(t:T) (E:aj) (P R:List aI),t.g 0=.c (.sl b 0 l.length 0 ep 3)→t.g 3=vi P.length→t.g 4=.c (.sl b ((m+1)*3) (l.length-(m+1)) 0 ep 3)→t.g 5=vi ((i:Int)+1) →
    Fm b H E→RB E b 3 ep (aH (P++R))→(P++R).length=l.length→1≤P.length→P.length≤m+2+i→(∀ q,m+2+i≤q→(P++R)[q]?=l[q]?)→P.Pairwise aI.lt→(∀ x,x ∈ P↔x ∈ l.take (m+2+(i+1))) →
    WP tab 205 ab [.inBlock 3,.code yh,.inLoop yg,.inBlock 2,.code rb,.inBlock 1,.code re,.inLoop q8,.inBlock 0,.code nB] ⟨t,[],E⟩ Q:=by
   intro t E P R g0 A O S F d v U c_ hq J g;refine az (an (.inl rfl) ?_);simp [S,aW (n:=(i:Int)+1+1)];exact i5 (l.length-(m+2+(i+1))) _ (by omega) ⟨i+1,_,E,P,R,rfl,rfl,by omega,by simp [g0],by simp [A],by simp [O],by simp,F,d,v,U,by omega,fun q h=>hq q (by omega),J,g⟩
  have g_:(l[m+1+i]'(by omega)).le l[m+2+i]:=Gm hs (by omega) I;cases K:(l[m+2+i].day == l[m+1+i].day&&(l[m+2+i].fr == l[m+1+i].fr&&l[m+2+i].to == l[m+1+i].to))
  ·have L:l[m+1+i]≠l[m+2+i]:=fun e=>by
    have:eqB l[m+2+i] l[m+1+i]=ae:=ue.2 e.symm;rw [eqB,K]at this;cases this
   have b9:=acg g_ L;have kx:=ix d 0 l.length P.length (by omega);rw [auH]at kx;obtain⟨H3,s3,r3,f3,-⟩:=d.str (bD _) (j:=P.length) (by rw [jg,v];omega) (row:=(l[m+2+i]).row) rfl;rw [lT]at r3;obtain⟨x0,Z,rfl⟩:∃ x0 Z,R=x0::Z:=by
    cases R with
    | nil=>simp at v;omega| cons x0 Z=>exact⟨_,_,rfl⟩
   rw [GH]at r3;have X:¬l[m+2+i].day=l[m+1+i].day∨¬l[m+2+i].fr=l[m+1+i].fr∨¬l[m+2+i].to=l[m+1+i].to:=by
    simp at K;omega
   refine aq (by simpa using X) ?_;apply ai;simp only [aI.row,aug,aus]at s3;simp [g0,A,O,S,j1,d1,kx,s3,-aA,-bl,aI.row];refine an (.inl rfl) ?_;simp [A,aW (n:=(P.length:Int)+1)];have e5:P++l[m+2+i]::Z=(P++[l[m+2+i]])++Z:=by simp
   rw [e5]at r3;refine next _ H3 (P++[l[m+2+i]]) Z (by simp [g0]) (by simp) (by simp [O]) (by simp [S]) (F.trans f3) r3 (by simpa using v) (by simp) (by simp;omega) (fun q h=>?_) ?_ fun x=>?_
   ·rw [←e5,←GH P x0,aft (by omega)];exact hq q (by omega)
   ·rw [au1];refine⟨J,avw _ _,fun y hy z hz=>?_⟩;obtain rfl:=aua.1 hz;obtain⟨q,h_,rfl⟩:=auI ((g y).1 hy);have i9:q<m+2+i:=by simp at h_;omega
    rw [List.getElem_take];by_cases e:q=m+1+i
    ·subst e;exact b9
    ·have h1:=Gm hs (i:=q) (j:=m+1+i) (by omega) (by omega);unfold aI.le aI.lt at *;omega
   ·rw [N,auh,auh,g]
  ·have a_:l[m+2+i]=l[m+1+i]:=ue.1 K;have X:l[m+2+i].day=l[m+1+i].day∧l[m+2+i].fr=l[m+1+i].fr∧l[m+2+i].to=l[m+1+i].to:=by simpa using K
   refine aD (by simpa using X) (aO ?_);refine next _ E P R (by simp [g0]) (by simp [A]) (by simp [O]) (by simp [S]) F d v U (by omega) (fun q h=>hq q (by omega)) J fun x=>?_
   rw [N,auh,aua,g];refine⟨.inl,fun h=>h.elim id fun e=>?_⟩;rw [e,a_];exact List.mem_take_iff_getElem.2 ⟨m+1+i,by omega,rfl⟩
def LI(H:aj)(c:C)(o:List aI):Prop:=(o=[]∧c=.f .aw)∨(o≠[]∧∃ b ep,c=.sl b 0 o.length 0 ep 3∧RB H b 3 ep (aH o))
theorem LI.push{H:aj}{c:C}{o:List aI}(h:LI H c o)(J:aj):LI (H++J) c o:=by
 rcases h with h | ⟨h,b,ep,h1,h2⟩
 ·exact .inl h
 ·exact .inr ⟨h,b,ep,h1,h2.push J⟩
theorem xD(o:List aI)(x:aI):(aH (o++[x])).flatten=(aH o).flatten++x.row:=by simp [aH]
theorem LI.app{H:aj}{c:C}{o:List aI}(h:LI H c o)(v:o.length≤1000000){b1 fl:Nat}{x:aI}(m:H[b1]?=aa (.box (x.row.map .f) fl)) :
  ∃ q H',cG H 3 24 (.c c) (.c (.sl b1 0 1 1 0 3))=aa (.c q,H')∧LI H' q (o++[x])∧H.length≤H'.length∧∀(i:Nat) y,H[i]?=aa y→an1 y=ae→H'[i]?=aa y:=by
 have g:cV H 3 (.c (.sl b1 0 1 1 0 3))=aa (1,x.row.map .f):=ri m (by rfl);rcases h with⟨rfl,rfl⟩ | ⟨u,b,ep,rfl,h2⟩
 ·have d:bU 1 24=ae:=by simp [bU]
  refine⟨.sl H.length 0 1 0 0 3,H++[.b5 3 (x.row.map .f) 0 0 .loc],?_,.inr ⟨by simp,H.length,0,by simp,?_⟩,by simp,fun i y hy _=>by rw [anc (au hy)];exact hy⟩
  ·simp [cG,g,d]
  ·unfold RB;simp [aH]
 ·have d:bU (o.length+1) 24=ae:=by simp [bU];omega
  have j:o.length*3=(aH o).flatten.length:=by rw [bW (bD o),jg]
  unfold RB at h2;refine⟨.sl b 0 (o.length+1) 0 (ep+1) 3,H.set b (.b5 3 ((aH o).flatten.map .f++x.row.map .f) 0 (ep+1) .loc),?_,.inr ⟨by simp,b,ep+1,by simp,?_⟩,by simp,fun i y hy s=>?_⟩
  ·have l:(3:Nat)≠0:=by decide
   simp only [cG,g,l,if_false,h2,and_self,if_true];simp only [Nat.add_one_ne_zero,if_false];rw [bg ⟨trivial,by rw [at9];exact j,by omega⟩,d];simp
  ·unfold RB;rw [atY (au h2),xD,au2]
  ·have:b≠i:=by rintro rfl;rw [h2]at hy;cases hy;cases s
   rw [aft this];exact hy
theorem aqa{H:aj}{b ep n:Nat}{l R:List aI}(h:RB H b 3 ep (aH (l++R))):ek (n+1) H (.sl b 0 l.length 0 ep 3)=aa (sl .fs (aH l)):=by
 unfold RB at h;have d:l.length*3=(aH l).flatten.length:=by rw [bW (bD l),jg]
 have e:(aH (l++R)).flatten=(aH l).flatten++(aH R).flatten:=by simp [aH]
 simp only [mr,h];rw [bg ⟨trivial,trivial,by rw [at9,e,at6];omega⟩,e,au5,au2,auw (by rw [at9];omega),at8 (by rw [at9];omega)];rw [sq];cases l with
 | nil=>simp [sl,aH,Tg.fc]| cons x l=>simp [sl,aH]
theorem BM{H:aj}:∃ r H',Ev tab (.fn 205) [.c (.f .aw)] H r H'∧(r=.c (.f .aw)∧H'=H):=by
 refine cI rfl rfl fun Q b=>?_;apply ai;simp;apply al;apply ai;simp [bA];refine aq (by simp) ?_;apply ai;simp;exact aC (b _ _ _ rfl (kd (by simp)) ⟨rfl,rfl⟩)
theorem ac0(b g j:FC)(len mi d:Int)(m:mC len)(q:mC mi)(s:mC d) :
  bo tab 198 [.a [.f b,.f (fi len),.f g],.a [.f j,.f (fi mi)],vi d]=Eq (.a ((cQ len mi d).row.map .f)):=bo.eq (Kf.EP (by
 unfold mC at *;refine cP rfl rfl fun H Q l=>?_;apply ai;simp;apply ai;simp [aW (n:=d*1440),aW (n:=d*1440+mi)];apply ai;simp [aW (n:=d*1440+mi+len)];refine aC (l _ _ ?_);simp [cQ,aI.row]))
theorem QE(x y:aI):Kf tab 204 [.a (x.row.map .f),.a (y.row.map .f)] (vi (eU x y)):=by
 refine cP rfl rfl fun H Q d=>?_;have b:=ze .fs [de x.fr y.fr,de x.day y.day,de x.to y.to] (by simp);simp [ints,sl,Tg.fc]at b;apply ai;simp [aI.row];apply ai;simp [gj,deep,mr,qf,b];refine aC (d _ _ ?_);simp [eU]
end Go.Proofs.YtnaofdffomdmhaaGreat
namespace Go.Proofs.YtnaofdffomdmhaaGreat
open Go Km
def PU(q mi:Int):Int:=(q*10080-mi+1440-1) / 1440
def vW(n p d:Int):Bool:=decide (d % n=p)
structure jx(s:aJ)(n p mi:Int):Prop where
 cs:s.cs=[⟨.fs,[td n p],mi⟩]
 sm:AS n p
 m0:0≤mi
 m1:mi≤1180
 l0:1≤s.len
 l1:s.len≤400
 xs:s.xs=[]
theorem Co{m r t z n p mi le:Int}(h:AS n p)(g:0≤mi)(j:mi≤1180)(b:1≤le)(d:le≤400):jx (oy m r t z n p mi le).st n p mi:=⟨rfl,h,g,j,b,d,rfl⟩
def Dq(s:aJ)(n p mi q:Int)(x:aI):Prop:=∃ d,x=cQ s.len mi d∧max (PU q mi) 0≤d∧d<PU q mi+7∧vW n p d=ae
theorem O_(s:aJ){n p mi:Int}(hs:jx s n p mi)(q:Int)(j8:-1≤q)(j9:q≤100) :
  ∃ g L,(L.Pairwise aI.lt∧∀ x,x ∈ L↔Dq s n p mi q x)∧L.length≤10∧bo tab 128 [.a (s.row.map .f),vi q]=Eq (.c (.f (sl g (aH L)))):=by
 have key:∃ r,(∃ g L,(L.Pairwise aI.lt∧∀ x,x ∈ L↔Dq s n p mi q x)∧L.length≤10∧r=.c (.f (sl g (aH L))))∧bo tab 128 [.a (s.row.map .f),vi q] r:=by
  refine dG rfl rfl fun Q hQ=>?_;have hF:∀ x y:aI,Kf tab 204 [.a (x.row.map .f),.a (y.row.map .f)] (vi (eU x y)):=QE;obtain⟨e,hsm,m0,m1,i8,i9,e_⟩:=hs;have d_:s.xs.length=0:=by rw [e_];rfl
  have j6:=hsm.1;have f_:∀(t:T) (H:aj) (c:C) (o:List aI),t.g 5=.c c→LI H c o→o.length≤10→(∀ x,x ∈ o↔Dq s n p mi q x)→WP tab 128 ab [.code xX] ⟨t,[],H⟩ Q:=by
   intro t H c o B z N v;rcases z with⟨rfl,rfl⟩ | ⟨j7,b,ep,rfl,g_⟩
   ·obtain⟨r1,H1,e1,rfl,rfl⟩:=P6 (H:=H) (F:=204);obtain⟨r2,H2,e2,rfl,rfl⟩:=BM (H:=H1);apply ai;simp [B,e1.eq];apply ai;simp [B,e2.eq];refine aC (hQ _ _ _ ⟨.nil,[],⟨by simp,v⟩,by simp,rfl⟩ ?_);simp [sl,aH,Tg.fc]
   ·obtain⟨r1,H1,e1,rfl,f1,l1,q1,q2,q3⟩:=ab9 hF (by omega) g_;have ll:=q2.length_eq;rw [←ll]at e1 B;obtain⟨r2,H2,e2,l2,R2,rfl,f2,w1,w2,w3,w4⟩:=DS (by omega) q3 q1;apply ai;simp [B,e1.eq];apply ai;simp [B,e2.eq];refine aC (hQ _ _ _ ⟨.fs,l2,⟨w3,fun x=>by rw [w4,q2.mem_iff,v]⟩,by omega,rfl⟩ ?_);have:=aqa (n:=63) w1;simp [deep,this]
  have Z:∀(t:T) (H:aj) (c:C) (o:List aI),t.g 1=vi q→t.g 2=.c (.ptr 0 0 0)→t.g 5=.c c→H[0]?=aa (.box [C.f (sl s.cg (aN s.cs)),C.f (fi s.len),C.f (sl s.xg (aH s.xs))] 0)→LI H c o→o.length≤7→(∀ x,x ∈ o↔Dq s n p mi q x) →
    WP tab 128 ab [.code nA] ⟨t,[],H⟩ Q:=by
   intro t H c o S O B h0 z N v;apply al;apply ai;simp [O,h0];have j5:∀ K:aj,bA K (.f (sl s.xg (aH s.xs)))=aa 0:=fun K=>by rw [e_];cases s.xg<;>rfl
   rw [d_];refine bR 0 (fun j t H'=>LI H' c o∧t.g 5=.c c) (by omega) (by decide) (by decide) (by simp) (by simp) ⟨z,by simp [B]⟩ (fun j t H hj=>by omega) ?_;rintro t H' ⟨z,B⟩ - -;exact f_ _ H' c o (by simp [B]) z (by omega) v
  apply ai;simp [aJ.row];apply ai;simp;apply al;apply ai;simp;have j4:s.cs.length≤1:=by rw [e];simp
  refine bR s.cs.length (fun j t H'=>t.g 1=vi q∧t.g 2=.c (.ptr 0 0 0)∧t.g 14=.c (.f (sl s.cg (aN s.cs)))∧H'[0]?=aa (.box [C.f (sl s.cg (aN s.cs)),C.f (fi s.len),C.f (sl s.xg (aH s.xs))] 0)∧∃ c o,t.g 5=.c c∧LI H' c o∧o.length≤7∧(j=0→o=[]∧c=.f .aw)∧(j=1→∀ x,x ∈ o↔Dq s n p mi q x)) (by omega) (by decide) (by decide) (by simp) (by simp)
   ⟨by simp,by simp,by simp,by simp,.f .aw,[],by simp,.inl ⟨rfl,rfl⟩,by simp,by simp,by omega⟩ ?_ ?_
  ·rintro j t H' hj ⟨S,O,A,h0,c,o,B,z,N,d9,-⟩ ha hb next
   have i6:j=0:=by omega
   subst i6;obtain⟨rfl,rfl⟩:=d9 rfl;simp at ha;have Y:=fun H:aj=>bL (H:=H) (dO s.cs) (gM (l:=s.cs) (j:=0) (by rw [e];simp));have a7:=fun H:aj=>bt (H:=H) (g:=s.cg) (rows:=aN s.cs) (sz:=2) (k:=.i64) (i:=0) (by omega) (by rw [e];simp);have i4:s.cs[0]'(by rw [e];simp)=⟨.fs,[td n p],mi⟩:=by simp [e]
   rw [i4]at Y;simp [cL.row]at Y a7;have i5:=sN (q*10080-mi+1440-1) 1440 (by omega) (by omega) (by omega);obtain⟨fst,X⟩:=aK (PU q mi);have a8:(q*10080-mi+1440-1) / 1440=fst:=by rw [X];rfl
   have b9:oa [td n p]=ae:=Fb hsm;have b_:∀ d,0≤d→d≤1000→bo tab 170 [.a [.f (sl .fs (aM [td n p]))],vi d]=Eq (vb (vW n p d)):=fun d h0 I=>by
    have:=ajo .fs [td n p] b9 d (by unfold Day;omega);rw [this];have J:=wz (n:=n) (p:=p) h0;have h3:hasB (pd n p) d=vW n p d:=by
     unfold vW;by_cases k:d % n=p
     ·rw [decide_eq_true k,J.2 k]
     ·rw [decide_eq_false k];cases hb:hasB (pd n p) d with
      | false=>rfl| true=>exact absurd (J.1 hb) k
    rw [td]at b9;simp [acw,vN,td,b9,h3]
   have a_:=fun d (h:mC d)=>ac0 (sl s.cg (aN s.cs)) (sl s.xg (aH s.xs)) (sl .fs (aM [td n p])) s.len mi d (by unfold mC;omega) (by unfold mC;omega) h;refine aF ?_;apply ai;simp [A,ha,a7,Y];have kN:(H'++[bz.box [.f (sl .fs (aM [td n p])),.f (fi mi)] 0])[H'.length]?=aa (.box [.f (sl .fs (aM [td n p])),.f (fi mi)] 0):=by simp
   have k0:(H'++[bz.box [.f (sl .fs (aM [td n p])),.f (fi mi)] 0])[0]?=aa (.box [C.f (sl s.cg (aN s.cs)),C.f (fi s.len),C.f (sl s.xg (aH s.xs))] 0):=by rw [anc (au h0)];exact h0
   generalize H'++[bz.box [.f (sl .fs (aM [td n p])),.f (fi mi)] 0]=HA at kN k0 ⊢;obtain⟨bN,h_⟩:=aK (H'.length);rw [←h_]at kN ⊢;apply ai;simp [S,kN,aW (n:=q*10080),aW (n:=q*10080-mi),aW (n:=q*10080-mi+1440),aW (n:=q*10080-mi+1440-1),i5,a8];apply ai;simp;have fb:-9≤fst∧fst≤701:=by omega
   refine aF ?_;refine cH (fun m st=>∃(u:Int) (t:T) (H:aj) (c:C) (o:List aI),st=⟨t,[],H⟩∧(m:Int)=fst+7-u∧max fst 0≤u∧u≤fst+7∧t.g 1=vi q∧t.g 2=.c (.ptr 0 0 0)∧t.g 7=.c (.ptr bN 0 0)∧t.g 8=vi fst∧t.g 10=vi u∧t.g 14=.c (.f (sl s.cg (aN s.cs)))∧t.g 15=vi (s.cs.length:Nat)∧t.g 16=vi 0∧t.g 5=.c c ∧
    H[0]?=aa (.box [C.f (sl s.cg (aN s.cs)),C.f (fi s.len),C.f (sl s.xg (aH s.xs))] 0)∧H[bN]?=aa (.box [.f (sl .fs (aM [td n p])),.f (fi mi)] 0)∧LI H c o∧(o.length:Int)≤u-max fst 0∧∀ x,x ∈ o↔∃ d,x=cQ s.len mi d∧max fst 0≤d∧d<u∧vW n p d=ae) (fst+7-max fst 0).toNat
    ⟨max fst 0,_,HA,.f .aw,[],rfl,by omega,by omega,by omega,by simp [S],by simp [O],by simp,by simp,by simp,by simp [A],by simpa using hb,by simp [ha],by simp [B],k0,kN,.inl ⟨rfl,rfl⟩,by simp,fun x=>by simp;intros;omega⟩ ?_
   rintro m st ⟨u,t,H,c,o,rfl,hm,c0,c1,S,O,g7,g8,E,A,U,W,B,h0,hN,z,N,v⟩ ih;apply al;apply ai;simp [g8,E,aW (n:=fst+7)];by_cases i_:u<fst+7
   ·refine aq (by simp [i_]) (aO ?_);apply al;refine aF ?_;have go:∀(t:T) (H:aj) (c:C) (o:List aI),t.g 1=vi q→t.g 2=.c (.ptr 0 0 0)→t.g 7=.c (.ptr bN 0 0)→t.g 8=vi fst→t.g 10=vi u→t.g 14=.c (.f (sl s.cg (aN s.cs)))→t.g 15=vi (s.cs.length:Nat)→t.g 16=vi 0→t.g 5=.c c →
      H[0]?=aa (.box [C.f (sl s.cg (aN s.cs)),C.f (fi s.len),C.f (sl s.xg (aH s.xs))] 0)→H[bN]?=aa (.box [.f (sl .fs (aM [td n p])),.f (fi mi)] 0)→LI H c o→(o.length:Int)≤u+1-max fst 0→(∀ x,x ∈ o↔∃ d,x=cQ s.len mi d∧max fst 0≤d∧d<u+1∧vW n p d=ae) →
      WP tab 128 ab [.inBlock 3,.code xW,.inLoop xV,.inBlock 2,.inBlock 1,.code (rZ 16 50),.inLoop (iu 0 16 15 17 50 qV),.inBlock 0,.code nA] ⟨t,[],H⟩ Q:=by
     intro t H c o S O g7 g8 E A U W B h0 hN z N v;refine az (an (.inl rfl) ?_);simp [E,aW (n:=u+1)];exact ih (fst+7-(u+1)).toNat _ (by omega) ⟨u+1,_,H,c,o,rfl,by omega,by omega,by omega,by simp [S],by simp [O],by simp [g7],by simp [g8],by simp,by simp [A],by simp [U],by simp [W],by simp [B],h0,hN,z,by omega,v⟩
    apply ai;simp [g7,E,hN,b_ u (by omega) (by omega)];cases hc:vW n p u
    ·refine bw (by simp) ?_;refine go _ H c o (by simp [S]) (by simp [O]) (by simp [g7]) (by simp [g8]) (by simp [E]) (by simp [A]) (by simp [U]) (by simp [W]) (by simp [B]) h0 hN z (by omega) fun x=>?_;rw [v];constructor
     ·rintro⟨d,I,J,h3,M⟩;exact⟨d,I,J,by omega,M⟩
     ·rintro⟨d,I,J,h3,M⟩;by_cases hd:d=u
      ·subst hd;rw [hc]at M;cases M
      ·exact⟨d,I,J,by omega,M⟩
    ·have c_:=a_ u (by unfold mC;omega);simp [cQ,aI.row]at c_;obtain⟨c',H2,e1,e2,e3,e4⟩:=(z.push [.box [.f (fi u),.f (fi (u*1440+mi)),.f (fi (u*1440+mi+s.len))] 0]).app (by omega) (b1:=H.length) (fl:=0) (x:=cQ s.len mi u) (by simp [aI.row,cQ]);have p0:=e4 _ _ (show(H++[bz.box [.f (fi u),.f (fi (u*1440+mi)),.f (fi (u*1440+mi+s.len))] 0])[0]?=_ by rw [anc (au h0)];exact h0) rfl;have pN:=e4 _ _ (show(H++[bz.box [.f (fi u),.f (fi (u*1440+mi)),.f (fi (u*1440+mi+s.len))] 0])[bN]?=_ by rw [anc (au hN)];exact hN) rfl;refine aq (by simp) ?_;refine an (.inl rfl) ?_;simp [O,B,g7,E,h0,hN,c_,e1];refine go _ H2 c' (o++[cQ s.len mi u]) (by simp [S]) (by simp [O]) (by simp [g7]) (by simp [g8]) (by simp [E]) (by simp [A]) (by simp [U]) (by simp [W]) (by simp) p0 pN e2 (by simp;omega) fun x=>?_;rw [auh,aua,v];constructor
     ·rintro(⟨d,I,J,h3,M⟩ | rfl)
      ·exact⟨d,I,J,by omega,M⟩
      ·exact⟨u,rfl,by omega,by omega,hc⟩
     ·rintro⟨d,I,J,h3,M⟩;by_cases hd:d=u
      ·subst hd;exact .inr I
      ·exact .inl ⟨d,I,J,by omega,M⟩
   ·have:u=fst+7:=by omega
    subst this;refine aD (by simp) ?_;refine bJ (k':=[.inBlock 1,.code (rZ 16 50),.inLoop (iu 0 16 15 17 50 qV),.inBlock 0,.code nA]) rfl ?_;refine az (next _ _ ?_ (by simp [W]) (by simp [U]));refine⟨by simp [S],by simp [O],by simp [A],h0,c,o,by simp [B],z,by omega,by omega,fun _ x=>?_⟩;rw [v];constructor
    ·rintro⟨d,I,J,h3,M⟩;exact⟨d,I,by rw [←X];omega,by rw [←X];omega,M⟩
    ·rintro⟨d,I,J,h3,M⟩;exact⟨d,I,by omega,by omega,M⟩
  ·rintro t H' ⟨S,O,A,h0,c,o,B,z,N,d9,i7⟩ - -;refine Z _ H' c o (by simp [S]) (by simp [O]) (by simp [B]) h0 z N fun x=>?_;exact i7 (by rw [e];rfl) x
 obtain⟨r,⟨g,L,I,J,rfl⟩,h⟩:=key;exact⟨g,L,I,J,bo.eq h⟩
end Go.Proofs.YtnaofdffomdmhaaGreat
namespace Go.Proofs.YtnaofdffomdmhaaGreat
open Go Km
def eg(b d:FC)(x:av):FC:=.fp ([b,d]++x.row) 0
def fR(af b:Int):FC:=sl .fs (rows (ct af b))
def cf(af b r:Int):cC:=if r=0 then mw af .fs [(1,b)] .nil []else if r=1 then mw af .nil [] .nil []else mw af .nil [] .fs [0,1]
theorem nk(af b:Int){r:Int}(h0:0≤r)(d:r≤2):(ct af b)[r.toNat]?=aa (cf af b r):=by
 obtain rfl | rfl | rfl:r=0∨r=1∨r=2:=by omega
 all_goals rfl
theorem uF(af b:Int)(u:FC)(x:av)(h0:0≤x.room)(m:x.room≤2):bo tab 120 [.c (.f (eg (fR af b) u x))]=Eq (.a ((cf af b x.room).row.map .f)):=bo.eq (by
 refine bV rfl rfl fun Q q=>?_;have s:=nk af b h0 m;have d:=fun H:aj=>bt (H:=H) (g:=.fs) (rows:=rows (ct af b)) (sz:=15) (k:=.i64) (i:=x.room) h0 (by simp [ct];omega);have l:=fun H:aj=>bL (H:=H) (gA (ct af b)) (j:=x.room.toNat) (row:=(cf af b x.room).row) (by rw [rows,List.getElem?_map,s];rfl);apply ai;simp;apply ai;simp [eg,fR,ou,aT,av.row,d,l,cC.row];refine aC (q _ _ ?_);simp [iZ,cD,deep,bj,cC.row])
theorem BD(af g:Int)(m:FC)(x:av)(h0:0≤x.room)(s:x.room≤2):∃ l:List Int,l.length=8∧l=(if 10<x.size then [14,0,0,0,0,0,0,0]else [0,0,0,0,0,0,0,0])∧∀ H,∃ J,Ev tab (.fn 77) [.c (.f (eg (fR af g) m x))] H (.t [.a (l.map fun n=>.f (fi n)),vi 0]) (H++J):=by
 refine⟨_,?_,rfl,fun H=>?_⟩
 ·split<;>rfl
 obtain⟨r,H',u,rfl,J,rfl⟩:∃ r H',Ev tab (.fn 77) [.c (.f (eg (fR af g) m x))] H r H'∧r=.t [.a ((if 10<x.size then [14,0,0,0,0,0,0,0]else [0,0,0,0,0,0,0,0]:List Int).map fun n=>.f (fi n)),vi 0]∧∃ J,H'=H++J:=by
  refine cI (C:=fun r H'=>r=.t [.a ((if 10<x.size then [14,0,0,0,0,0,0,0]else [0,0,0,0,0,0,0,0]:List Int).map fun n=>.f (fi n)),vi 0]∧∃ J,H'=H++J) amB rfl fun Q q=>?_;have j:=uF af g m x h0 s;have b:(cf af g x.room).cap=10:=by unfold cf;split<;>(try split)<;>rfl
  apply ai;simp;apply al;apply ai;simp only [eg,av.row,cC.row,auX,ave,aug,aus]at j;by_cases d:10<x.size
  ·simp [eg,ou,aT,av.row,j,ku,b,d];refine aq (by simp) (ai ?_);simp;refine aC (q _ _ _ rfl ?_ ⟨rfl,_,rfl⟩);simp [Km.results,bj,d,aT]
  ·simp [eg,ou,aT,av.row,j,ku,b,d];refine bw (by simp) ?_;apply ai;simp;refine aC (q _ _ _ rfl ?_ ⟨rfl,_,rfl⟩);simp [Km.results,bj,d,aT]
 exact⟨J,u⟩
end Go.Proofs.YtnaofdffomdmhaaGreat
namespace Go.Proofs.YtnaofdffomdmhaaGreat
open Go Km
def oQ(n p mi le:Int):List Int:=if mi+le≤1440 then [0,0,0,0,0,0,0,0]else [16,0,p,p*1440+mi,p*1440+mi+le,0,0,0]
def qN(b:List Int):V:=.a (b.map fun n=>.f (fi n))
theorem ab0(af j:Int)(x:FC){m r t z n p:Int}(i:AS n p){k:Nat}(h:k<60)(le:Int)(W:1≤le)(X:le≤10080)(h0:0≤r)(Y:r≤2)(H:aj) :
  ∃ H',Ev tab (.fn 78) [.c (.f (eg (fR af j) x (oy m r t z n p (20*k:Nat) le)))] H (.t [qN (oQ n p (20*k:Nat) le),vi 0]) H'∧Kp H H':=by
 obtain⟨mi,J⟩:=aK (20*k:Nat);have S:=abZ i h le W X;rw [←J]at S ⊢;obtain⟨r',H',f,rfl,Z⟩:∃ r' H',Ev tab (.fn 78) [.c (.f (eg (fR af j) x (oy m r t z n p mi le)))] H r' H'∧(r'=.t [qN (oQ n p mi le),vi 0]∧Kp H H'):=by
  refine cI rfl rfl fun Q O=>?_;have v:=uF af j x (oy m r t z n p mi le) h0 Y;have L:∃ a b c d e,(cf af j r).row=a::b::c ::(ea++[d,e]):=by
   unfold cf;split<;>(try split)<;>exact⟨_,_,_,_,_,rfl⟩
  obtain⟨a,b,c,d,e,L⟩:=L;change bo tab 120 [.c (.f (eg (fR af j) x (oy m r t z n p mi le)))]=Eq (.a ((cf af j r).row.map .f))at v;rw [L]at v;have E:ku 3 (aa 10) (.a (.f a::.f b::.f c ::(List.map C.f ea++[.f d,.f e])))=aa (.a (ea.map .f)):=rfl;have B:∀ K:aj,aV K (aa 3) (.c (.f (.fp ([fR af j,x]++(oy m r t z n p mi le).row) 6)))=aa (.a ((tZ n p mi le).map .f)):=fun K=>rfl;obtain⟨cd,F⟩:=aK ([fR af j,x]++(oy m r t z n p mi le).row);simp only [eg]at v ⊢;rw [←F]at v B ⊢;have I:(iW n p mi le).row.length=3:=rfl;apply ai;simp;obtain⟨u,q⟩:=aK (H++[bz.box [.f (fi 0),.f (fi 0),.f (fi 0),.f (fi 0),.f (fi 0),.f (fi 0),.f (fi 0),.f (fi 0)] 0]:aj);have M:Kp H u:=by rw [q];exact Kp.push _ _
  have w:u[H.length]?=aa (.box [.f (fi 0),.f (fi 0),.f (fi 0),.f (fi 0),.f (fi 0),.f (fi 0),.f (fi 0),.f (fi 0)] 0):=by rw [q];simp
  rw [←q];apply ai;simp only [aug,au2,aus]at v;simp [v,E,B,S,I];obtain⟨l,s⟩:=aK (u++[bz.box ((iW n p mi le).row.map .f) 0]:aj);have A:Kp u l:=by rw [s];exact Kp.push _ _
  have q1:l[u.length]?=aa (.box ((iW n p mi le).row.map .f) 0):=by rw [s];simp
  have g:=A.get w;rw [←s];have U:=M.tr A;apply al;apply ai;by_cases y:(mi:Int)+le≤1440
  ·simp [y];refine aq (by simp) ?_;have N:dh l (.ptr H.length 0 0) [.f (fi 0),.f (fi 0),.f (fi 0),.f (fi 0),.f (fi 0),.f (fi 0),.f (fi 0),.f (fi 0)]=aa (l.set H.length (.box [.f (fi 0),.f (fi 0),.f (fi 0),.f (fi 0),.f (fi 0),.f (fi 0),.f (fi 0),.f (fi 0)] 0)):=by simp [dh,g,bp]
   apply ai;simp [N,-bl];refine aC (O _ _ _ rfl ?_ ⟨rfl,U.mG (at3 _) _⟩);simp [Km.results,bj,au g,aT,qN,oQ,y]
  ·simp [y];refine bw (by simp) ?_;have o:aV l (aa 3) (.c (.ptr u.length 0 0))=aa (.a [.f (fi p),.f (fi (p*1440+mi)),.f (fi (p*1440+mi+le))]):=by simp [aV,aG,q1,aT,iW,y,aI.row]
   have N:dh l (.ptr H.length 0 0) [.f (fi 16),.f (fi 0),.f (fi p),.f (fi (p*1440+mi)),.f (fi (p*1440+mi+le)),.f (fi 0),.f (fi 0),.f (fi 0)]=aa (l.set H.length (.box [.f (fi 16),.f (fi 0),.f (fi p),.f (fi (p*1440+mi)),.f (fi (p*1440+mi+le)),.f (fi 0),.f (fi 0),.f (fi 0)] 0)):=by simp [dh,g,bp]
   apply ai;simp [o,N,-aA,-bl];refine aC (O _ _ _ rfl ?_ ⟨rfl,U.mG (at3 _) _⟩);simp [Km.results,bj,au g,aT,qN,oQ,y]
 exact⟨H',f,Z⟩
end Go.Proofs.YtnaofdffomdmhaaGreat
namespace Go.Proofs.YtnaofdffomdmhaaGreat
open Go Km
def fS:List aI→Int
 | []=>0| x::r=>x.to-x.fr+fS r
theorem C9(a b:List aI):fS (a++b)=fS a+fS b:=by
 induction a with
 | nil=>simp [fS]| cons x a d=>simp only [auX,fS,d];omega
theorem Es(g:Tg)(L:List aI)(I:L.length≤1000)(z:∀ x ∈ L,0≤x.fr∧x.fr≤x.to∧x.to≤2000000):bo tab 202 [.c (.f (sl g (aH L)))]=Eq (vi (fS L)):=Kf.eq (by
 refine cP rfl rfl fun H Q y=>?_;apply ai;simp;apply ai;simp;apply al;apply ai;simp;refine bR L.length (fun j t H'=>(∃ J,H'=H++J)∧t.g 6=.c (.f (sl g (aH L)))∧t.g 3=vi (fS (L.take j))∧0≤fS (L.take j)∧fS (L.take j)≤j*2000000) (by omega) (by decide) (by decide) (by simp) (by simp) ⟨⟨[],by simp⟩,by simp,by simp [fS],by simp [fS],by simp [fS]⟩ ?_ ?_
 ·rintro j t _ l ⟨⟨J,rfl⟩,m,d,A,B⟩ u q next
  have b:=fun H:aj=>bL (H:=H) (bD L) (gw l);have s:L.take (j+1)=L.take j++[L[j]]:=by rw [auz,asZ l];rfl
  have v:fS (L.take (j+1))=fS (L.take j)+(L[j].to-L[j].fr):=by rw [s,C9];simp [fS]
  obtain⟨b1,E,F⟩:=z L[j] (at2 l);simp [aI.row]at b;refine aF ?_;apply ai;simp [m,u,bt,l,b];refine an (.inl rfl) ?_;simp [d,aW (n:=L[j].to-L[j].fr),aW (n:=fS (L.take j)+(L[j].to-L[j].fr))];refine az (next _ _ ?_ (by simp [u]) (by simp [q]));exact⟨⟨_,rfl⟩,by simp [m],by simp [v],by omega,by rw [v];omega⟩
 ·rintro t _ ⟨⟨J,rfl⟩,m,d,A,B⟩ - -;rw [auv]at d;apply ai;simp [d];refine aC (y _ _ ?_);simp)
def bK(l:List aJ):List (List FC):=l.map aJ.row
@[simp] theorem wY (l:List aJ):(bK l).length=l.length:=by simp [bK]
theorem eM(l:List aJ):cr 3 (bK l):=cr.map fun _=>rfl
theorem xN{l:List aJ}{j:Nat}(b:j<l.length):(bK l)[j]?=aa l[j].row:=by simp [bK,b]
def bX(k b:Int)(l:List av):List aJ:=(l.filter fun s=>decide (s.room=k)&&decide (s.dB=b)).map av.st
theorem oV(k d:Int)(a b:List av):bX k d (a++b)=bX k d a++bX k d b:=by simp [bX]
theorem GY(g:Tg)(l:List av)(k m:Int)(hl:l.length≤1000)(H:aj):∃ c H',Ev tab (.fn 141) [.c (.f (sl g (ak l))),vi k,vi m] H (.c c) H'∧LR H' c 3 (bK (bX k m l))∧(∀ i,bE c=aa i→H.length≤i)∧Kp H H':=by
 obtain⟨r,H',he,c,rfl,h⟩:∃ r H',Ev tab (.fn 141) [.c (.f (sl g (ak l))),vi k,vi m] H r H'∧∃ c,r=.c c∧LR H' c 3 (bK (bX k m l))∧(∀ i,bE c=aa i→H.length≤i)∧Kp H H':=by
  refine cI (C:=fun r H'=>∃ c,r=.c c∧LR H' c 3 (bK (bX k m l))∧(∀ i,bE c=aa i→H.length≤i)∧Kp H H') amE rfl fun Q hQ=>?_;apply ai;simp;apply ai;simp;apply al;apply ai;simp;refine bR l.length (fun j t J=>t.g 10=.c (.f (sl g (ak l)))∧t.g 1=vi k∧t.g 2=vi m∧(bX k m (l.take j)).length≤j∧∃ c,t.g 7=.c c∧LR J c 3 (bK (bX k m (l.take j)))∧(∀ i,bE c=aa i→H.length≤i)∧Kp H J) (by omega) (by decide) (by decide) (by simp) (by simp)
   ⟨by simp,by simp,by simp,by simp [bX],.f .aw,by simp,by simpa [bX,bK]using LR.nil H 3,by simp [bE],⟨at3 _,fun _ _=>rfl⟩⟩ ?_ ?_
  ·rintro j t J w ⟨u,F,L,e,c,N,W,q,Y⟩ X a next
   have B:=fun H:aj=>bL (H:=H) (aS l) (cA w);have A:=fun H:aj=>bt (H:=H) (g:=g) (rows:=ak l) (sz:=7) (k:=.i64) (i:=(j:Int)) (by omega) (by simp;omega);simp only [aui]at A;have K:l.take (j+1)=l.take j++[l[j]]:=by rw [auz,asZ w];rfl
   obtain⟨s,hs⟩:=aK (l[j]);rw [←hs]at B K;have f:s.row.length=7:=rfl;obtain⟨b,O⟩:=aK (J.length);obtain⟨v,x⟩:=aK (J++[bz.box (s.row.map .f) 0]);have z:=W.push [bz.box (s.row.map .f) 0];rw [←x]at z;have y:Kp H v:=by rw [x];exact Y.tr (Kp.push _ _)
   have d:v[b]?=aa (.box (s.row.map .f) 0):=by rw [x,O];simp
   have o:aV v ab (.c (.ptr b 1 0))=aa (vi s.room):=by simp [aV,aG,d,av.row]
   have l2:aV v ab (.c (.ptr b 2 0))=aa (vi s.dB):=by simp [aV,aG,d,av.row]
   have l4:aV v (aa 3) (.c (.ptr b 4 0))=aa (.a (s.st.row.map .f)):=by simp [aV,aG,d,av.row,aJ.row,aT]
   refine aF ?_;apply ai;simp [u,X,A,B,f,-aA];rw [←x,←O];have skip:(decide (s.room=k)&&decide (s.dB=m))=ag→bX k m (l.take (j+1))=bX k m (l.take j):=fun h=>by
    rw [K,oV];simp [bX,h]
   apply ai;by_cases M:s.room=k
   ·by_cases U:s.dB=m
    ·have E:bX k m (l.take (j+1))=bX k m (l.take j)++[s.st]:=by rw [K,oV];simp [bX,M,U]
     simp [F,L,o,l2,M,U,-aA];refine aq (by simp) ?_;have Z:=z.push [bz.box (s.st.row.map .f) 0];have d2:(v++[bz.box (s.st.row.map .f) 0])[v.length]?=aa (.box (s.st.row.map .f) 0):=by simp
     obtain⟨c',J2,e1,e2,p,e4⟩:=Z.app (eM _) (by decide) (row:=s.st.row) rfl (bytes:=56) (by simp [bU];omega) d2;have n:s.st.row.length=3:=rfl;refine an (.inl rfl) ?_;simp [N,l4,n,e1,-aA];refine az (next _ _ ⟨by simp [u],by simp [F],by simp [L],by rw [E];simp;omega,c',by simp,by rw [E];simpa [bK]using e2,fun i hi=>?_,?_⟩ (by simp [X]) (by simp [a]))
     ·rcases e4 with h | h
      ·exact q i (by rw [←h];exact hi)
      ·rw [h]at hi;cases hi;have:=y.1;simp;omega
     ·have I:=y.tr (Kp.push v [bz.box (s.st.row.map .f) 0]);refine⟨by have:=p.1;have:=I.1;omega,fun i hi=>?_⟩;rw [←I.2 i hi];have S:i<(v++[bz.box (s.st.row.map .f) 0]).length:=by have:=I.1;omega
      rw [asZ S];exact p.2 i _ (asZ S) fun h=>by have:=q i h;omega
    ·simp [F,L,o,l2,M,U,-aA];refine aD (by simp) (aO (az (next _ _ ?_ (by simp [X]) (by simp [a]))));exact⟨by simp [u],by simp [F],by simp [L],by rw [skip (by simp [U])];omega,c,by simp [N],by rw [skip (by simp [U])];exact z,q,y⟩
   ·simp [F,o,M,-aA];refine aD (by simp) (aO (az (next _ _ ?_ (by simp [X]) (by simp [a]))));exact⟨by simp [u],by simp [F],by simp [L],by rw [skip (by simp [M])];omega,c,by simp [N],by rw [skip (by simp [M])];exact z,q,y⟩
  ·rintro t J ⟨u,F,L,e,c,N,W,q,Y⟩ - -;rw [auv]at W;apply ai;simp [N];exact aC (hQ _ _ (.c c) rfl (kd (by simp)) ⟨c,rfl,W,q,Y⟩)
 exact⟨c,H',he,h⟩
end Go.Proofs.YtnaofdffomdmhaaGreat
namespace Go.Proofs.YtnaofdffomdmhaaGreat
open Go Km
def mE(b:Int):List (Int × Int)→Int × Bool
 | []=>(0,ag)| q::r=>if q.1=b then(q.2,ae)else mE b r
theorem acj(af v:Int)(O:FC)(x:av)(h0:0≤x.room)(X:x.room≤2):bo tab 125 [.c (.f (eg (fR af v) O x))]=Eq (.t [vi (mE x.dB (cf af v x.room).q).1,vb (mE x.dB (cf af v x.room).q).2]):=bo.eq (by
 refine bV rfl rfl fun Q M=>?_;have l:=uF af v O x h0 X;have a:(cf af v x.room).q.length≤1:=by unfold cf mw;split<;>(try split)<;>simp
 generalize cf af v x.room=r at *;obtain⟨S,A⟩:=aK ([fR af v,O]++x.row);have c:∀ K:aj,aV K ab (.c (.f (.fp S 4)))=aa (vi x.dB):=fun K=>by rw [A];rfl
 simp only [eg]at l ⊢;rw [←A]at l ⊢;have Z:ku 13 ab (.a (r.row.map .f))=aa (.c (.f (sl r.qg (gz r.q)))):=rfl;have B:∀ K:aj,bA K (.f (sl r.qg (gz r.q)))=aa r.q.length:=fun K=>by simp [gz]
 obtain⟨N,u⟩:=aK (mE x.dB r.q);rw [←u]at M;apply ai;simp;apply al;apply ai;simp [l,Z,B];refine bR r.q.length (fun j t J=>t.g 0=.c (.f (.fp S 0))∧t.g 8=.c (.f (sl r.qg (gz r.q)))∧N=mE x.dB (r.q.drop j)) (by omega) (by decide) (by decide) (by simp) (by simp) ⟨by simp,by simp,by simpa using u⟩ ?_ ?_
 ·rintro j t J W ⟨g0,L,s⟩ U Y next
  have m:=fun H:aj=>bt (H:=H) (g:=r.qg) (rows:=gz r.q) (sz:=2) (k:=.i64) (i:=(j:Int)) (by omega) (by simp [gz];omega);have E:=fun H:aj=>bL (H:=H) (wv r.q) (Cw W);simp only [aui]at m;rw [at7 W,mE]at s;generalize r.q[j]=q at *;obtain⟨b,z⟩:=aK (J.length);refine aF ?_;apply ai;simp [L,U,m,E,-aA];obtain⟨I,y⟩:=aK (J++[bz.box [.f (fi q.1),.f (fi q.2)] 0]);have d:I[b]?=aa (.box [.f (fi q.1),.f (fi q.2)] 0):=by rw [y,z];simp
  have e:aV I ab (.c (.ptr b 0 0))=aa (vi q.1):=by simp [aV,aG,d]
  have f:aV I ab (.c (.ptr b 1 0))=aa (vi q.2):=by simp [aV,aG,d]
  rw [←y,←z];apply ai;simp [g0,e,c,-aA];by_cases F:q.1=x.dB
  ·rw [bg F]at s;refine aq (by simp [F]) ?_;apply ai;simp [f,-aA];refine aC (M _ _ ?_);simp [s]
  ·rw [aY F]at s;refine aD (by simp [F]) (aO (az (next _ _ ⟨by simp [g0],by simp [L],s⟩ (by simp [U]) (by simp [Y]))))
 ·rintro t J ⟨g0,L,s⟩ - -;rw [au8,mE]at s;apply ai;simp;refine aC (M _ _ ?_);simp [s])
def tn:List Nat:=[1,2,3,4,5,6,10,12,15,20,30,60]
theorem ud{d:Nat}(h:d ∈ tn):d≤60:=by
 simp only [tn,auc,auT,or_false]at h;omega
def Cz(s:aJ):Int:=match s.cs with
 | ⟨_,⟨_,f::_⟩::_,_⟩::_=>f.eS| _=>1
theorem jx.eS{s:aJ}{n p mi:Int}(h:jx s n p mi):Cz s=n:=by simp [Cz,h.cs,td,pd]
def xE:Nat→List aJ→Nat
 | d,[]=>d| d,s::r=>xE (av7 d (Cz s).toNat) r
theorem acd{d:Nat}{n p:Int}(b:d ∈ tn)(h:AS n p):∃ e ∈ tn,e=av7 d n.toNat∧bo tab 215 [vi (7*(d:Int)),vi n]=Eq (.t [vi (7*(e:Int)),vi 0]):=by
 obtain⟨j,l,m,q⟩:=h;have g:(d,n.toNat) ∈ ace:=by
  obtain rfl | rfl | rfl | rfl | rfl | rfl:n=1∨n=2∨n=3∨n=4∨n=5∨n=6:=by omega
  all_goals
   unfold ace;rw [avz];exact⟨d,b,by simp⟩
 refine⟨av7 d n.toNat,?_,rfl,?_⟩
 ·have:n.toNat ∈ [1,2,3,4,5,6]:=by
   obtain rfl | rfl | rfl | rfl | rfl | rfl:n=1∨n=2∨n=3∨n=4∨n=5∨n=6:=by omega
   all_goals simp
  have key:∀ d ∈ tn,∀ k ∈ [1,2,3,4,5,6],av7 d k ∈ tn:=by decide
  exact key d b _ this
 ·have:=anO g;simp only at this;rw [avI (by omega)]at this;simp only [Int.natCast_mul]at this;exact this
theorem D8(g:Tg)(L:List aJ)(hl:L.length≤2000)(h:∀ s ∈ L,∃ n p mi,jx s n p mi):xE 1 L ∈ tn∧bo tab 140 [.c (.f (sl g (bK L)))]=Eq (.t [vi (15+7*(xE 1 L:Int)),vb ae]):=by
 obtain⟨D,X⟩:=aK (xE 1 L);rw [←X];obtain⟨r,⟨S,rfl⟩,hp⟩:∃ r,(D ∈ tn∧r=.t [vi (15+7*(D:Int)),vb ae])∧bo tab 140 [.c (.f (sl g (bK L)))] r:=by
  refine dG rfl rfl fun Q hQ=>?_;apply ai;simp;apply ai;simp;apply al;apply ai;simp;refine bR L.length (fun j t J=>t.g 16=.c (.f (sl g (bK L)))∧t.g 4=vi 0∧∃ d,d ∈ tn∧D=xE d (L.drop j)∧t.g 5=vi (7*(d:Int))) (by omega) (by decide) (by decide) (by simp) (by simp) ⟨by simp,by simp,1,by simp [tn],by simpa using X,by simp⟩ ?_ ?_
  ·rintro j t J o ⟨l,x,d,S,O,v⟩ ha hb next
   rw [at7 o,xE]at O;obtain⟨n,p,mi,U⟩:=h L[j] (at2 o);have A:=fun H:aj=>bt (H:=H) (g:=g) (rows:=bK L) (sz:=3) (k:=.i64) (i:=(j:Int)) (by omega) (by simp;omega);have f:=fun H:aj=>bL (H:=H) (eM L) (xN o);simp only [aui]at A;generalize L[j]=s at *;have d_:s.row.length=3:=rfl;obtain⟨b,Z⟩:=aK (J.length);obtain⟨W,Y⟩:=aK (J++[bz.box (s.row.map .f) 0]);have d1:W[b]?=aa (.box (s.row.map .f) 0):=by rw [Y,Z];simp
   have x0:∀ K:aj,K[b]?=W[b]?→aV K ab (.c (.ptr b 0 0))=aa (.c (.f (sl s.cg (aN s.cs)))):=fun K z=>by simp [aV,aG,z.trans d1,aJ.row]
   have x2:∀ K:aj,K[b]?=W[b]?→aV K ab (.c (.ptr b 2 0))=aa (.c (.f (sl s.xg (aH s.xs)))):=fun K z=>by simp [aV,aG,z.trans d1,aJ.row]
   have b9:∀ K:aj,bA K (.f (sl s.cg (aN s.cs)))=aa 1:=fun K=>by rw [U.cs];simp [aN]
   have e_:∀ K:aj,bA K (.f (sl s.xg (aH s.xs)))=aa 0:=fun K=>by rw [U.xs];cases s.xg<;>rfl
   have b_:∀ K:aj,bG K 2 ab (.c (.f (sl s.cg (aN s.cs)))) (vi 0)=aa (.c (.f (.fp [wb n p,fi mi] 0))):=fun K=>by rw [U.cs];rfl
   have a_:∀ K:aj,aV K (aa 2) (.c (.f (.fp [wb n p,fi mi] 0)))=aa (.a [.f (wb n p),.f (fi mi)]):=fun K=>rfl;have a:=ai8 (n:=n) (p:=p) U.sm;change bo tab 214 [.a [.f (wb n p)]]=_ at a;obtain⟨e,he,c_,c⟩:=acd S U.sm;rw [U.eS,←c_]at O;refine aF ?_;apply ai;simp [l,ha,A,f,d_,-aA];rw [←Y,←Z];apply al;apply ai;simp [x0 W rfl,b9,-aA];refine bR 1 (fun i u K=>u.g 16=.c (.f (sl g (bK L)))∧u.g 17=vi (L.length:Nat)∧u.g 18=vi j∧u.g 7=.c (.ptr b 0 0)∧u.g 23=.c (.f (sl s.cg (aN s.cs)))∧u.g 4=vi 0∧K[b]?=W[b]?∧u.g 5=(if i=0 then vi (7*(d:Int))else vi (7*(e:Int)))) (by omega) (by decide) (by decide) (by simp) (by simp)
    ⟨by simp [l],by simp [hb],by simp [ha],by simp,by simp,by simp [x],rfl,by simp [v]⟩ ?_ ?_
   ·rintro i u K hi ⟨l,m,q,g7,E,x,z,v⟩ I a8 N;have d9:i=0:=by omega
    subst d9;simp only [if_true]at v;refine aF ?_;apply ai;simp at I;simp [E,I,b_,a_,-aA];obtain⟨B,y⟩:=aK (K++[bz.box [.f (wb n p),.f (fi mi)] 0]);have m1:B[K.length]?=aa (.box [.f (wb n p),.f (fi mi)] 0):=by rw [y];simp
    have l1:aV B (aa 1) (.c (.ptr K.length 0 0))=aa (.a [.f (wb n p)]):=by simp [aV,aG,m1,aT]
    have lb:b<K.length:=by have:=au (z.trans d1);omega
    have n1:B.length=K.length+1:=by rw [y];simp
    rw [←y];apply ai;simp [l1,a,-aA];obtain⟨K2,F⟩:=aK (B++[bz.box [.f .es,.f (fi 0),.f (fi n),.f (.fs [fi p] 1)] 0]);have m2:K2[B.length]?=aa (.box [.f .es,.f (fi 0),.f (fi n),.f (.fs [fi p] 1)] 0):=by rw [F];simp
    have l2:aV K2 ab (.c (.ptr B.length 2 0))=aa (vi n):=by simp [aV,aG,m2]
    have l3:aV K2 ab (.c (.ptr B.length 1 0))=aa (vi 0):=by simp [aV,aG,m2]
    rw [←F];apply al;apply ai;simp;refine bw (by simp) ?_;refine al (ai ?_);simp [v,l2,c,-aA];apply ai;have a7:=ud he;simp;refine aD (by simp;omega) (aO ?_);refine an (.inl rfl) ?_;simp [x,l3,-aA];refine az (N _ _ ⟨by simp [l],by simp [m],by simp [q],by simp [g7],by simp [E],by simp,?_,by simp⟩ (by simp [I]) (by simp [a8]));rw [F,anc (by omega),y,anc lb];exact z
   ·rintro u K ⟨l,m,q,g7,E,x,z,v⟩ - -;simp only [Nat.one_ne_zero,if_false]at v;apply ai;simp [g7,x2 K z,e_,-aA];refine bR 0 (fun _ w _=>w.g 16=.c (.f (sl g (bK L)))∧w.g 17=vi (L.length:Nat)∧w.g 18=vi j∧w.g 4=vi 0∧w.g 5=vi (7*(e:Int))) (by omega) (by decide) (by decide) (by simp) (by simp)
     ⟨by simp [l],by simp [m],by simp [q],by simp [x],by simp [v]⟩ (fun j t H o=>by omega) ?_
    rintro w M ⟨l,m,q,x,v⟩ - -;exact az (next _ _ ⟨by simp [l],by simp [x],e,he,O,by simp [v]⟩ (by simp [q]) (by simp [m]))
  ·rintro t J ⟨l,x,d,S,O,v⟩ - -;rw [au8,xE]at O;rw [O]at hQ;have a7:=ud S;apply ai;simp [x,v,aW (n:=(15:Int)),aW (n:=(15:Int)+7*(d:Int))];refine aC (hQ _ _ _ ⟨S,rfl⟩ ?_);simp [Km.results,bj];omega
 exact⟨S,hp.eq⟩
theorem Cb:∀ {L:List aJ} {d:Nat},(∀ s ∈ L,0≤Cz s)→(d:Int) ∣ (xE d L:Int)∧∀ s ∈ L,Cz s ∣ (xE d L:Int)
 | [],d,_=>⟨Int.dvd_refl _,fun s h=>by simp at h⟩
 | s::r,d,h=>by
  obtain⟨g,l⟩:=Cb (L:=r) (d:=av7 d (Cz s).toNat) fun x b=>h x (at5 _ b);have h0:=h s at4;refine⟨avg (Int.natCast_dvd_natCast.2 (Nat.dvd_lcm_left _ _)) g,fun x b=>?_⟩;rcases auc.1 b with rfl | b
  ·have j:((Cz x).toNat:Int) ∣ ((av7 d (Cz x).toNat:Nat):Int):=Int.natCast_dvd_natCast.2 (Nat.dvd_lcm_right _ _);rw [avI h0]at j;exact avg j g
  ·exact l x b
end Go.Proofs.YtnaofdffomdmhaaGreat
namespace Go.Proofs.YtnaofdffomdmhaaGreat
open Go Km
theorem anq{f:Nat}{args:List V}{H:aj}{S:V→aj→Prop}{ps:List P}{g:List gG}{body:aE}(A:tab f=aa ⟨ps,g,body⟩)(z:args.length=ps.length)
  (h:∀ Q:Option aE→St→Prop,(∀ j s r,(∃ b,s.defs=b.map .gX∧fD b s.heap∧Km.results s.aB (nb b s.heap) g=aa r∧S r (nb b s.heap))→Q j s)→WP tab f ab [.code body] ⟨cK ps args .e,[],H⟩ Q):∃ r H',Ev tab (.fn f) args H r H'∧S r H':=by
 have q:=h (fun _ s=>∃ r,∃ b,s.defs=b.map .gX∧fD b s.heap∧Km.results s.aB (nb b s.heap) g=aa r∧S r (nb b s.heap)) fun _ _ r l=>⟨r,l⟩
 obtain⟨n,m,d,j,s,l,r,b,y,x,u,v⟩:=q;exact⟨r,nb b s.heap,sM A z ⟨n,m,d,j,s,l,0,0,_,by rw [y];exact kG x,u,rfl⟩,v⟩
theorem Cn:∀ {d:List Nat} {H:aj},(nb d H).length=H.length
 | [],_=>rfl| b::d,H=>by rw [nb,Cn,aul]
end Go.Proofs.YtnaofdffomdmhaaGreat
namespace Go.Proofs.YtnaofdffomdmhaaGreat
open Go Km
theorem Bu{q:Type}{r:q→q→Bool}(b:∀ x y,r x y=r y x):∀ {l:List q},l.Pairwise (fun x y=>r x y=ag)→∀ x ∈ l,∀ y ∈ l,r x y=ae→x=y
 | [],_,x,j,_,_,_=>by cases j
 | a::l,h,x,j,y,u,d=>by
  rcases auc.1 j with s | v
  ·rcases auc.1 u with g | m
   ·rw [s,g]
   ·rw [s,au9 h m]at d;cases d
  ·rcases auc.1 u with g | m
   ·rw [g,b,au9 h v]at d;cases d
   ·exact Bu b (avP h) x v y m d
def mu(a b:av):Bool:=decide (a.meet<b.meet)||(decide (a.meet=b.meet)&&decide (a.room<b.room))
def lj(s:av):List av→List av
 | []=>[s]| x::r=>if mu s x then s::x::r else x::lj s r
theorem jt(s:av):∀ l:List av,(lj s l).Perm (l++[s])
 | []=>.refl _
 | x::r=>by
  simp only [lj];split
  ·exact(List.perm_append_comm (l₁:=[s]) (l₂:=x::r))
  ·exact(jt s r).cons x
theorem yV{a b:av}:mu a b=ae↔a.meet<b.meet∨a.meet=b.meet∧a.room<b.room:=by simp [mu]
theorem uz(s:av):∀ {l:List av},l.Pairwise i'→(lj s l).Pairwise i'
 | [],_=>avw _ _
 | x::r,h=>by
  simp only [lj];split
  ·rename_i d;rw [yV]at d;refine auN.2 ⟨fun y b=>?_,h⟩;rcases auc.1 b with rfl | b
   ·unfold i';omega
   ·have:=au9 h b;unfold i' at *;omega
  ·rename_i d;have g:¬ (s.meet<x.meet∨s.meet=x.meet∧s.room<x.room):=fun e=>d (yV.2 e);refine auN.2 ⟨fun y b=>?_,uz s (avP h)⟩;have:y ∈ r++[s]:=(jt s r).mem_iff.1 b;rcases auh.1 this with b | b
   ·exact au9 h b
   ·obtain rfl:=aua.1 b;exact g
def srt:List av→List av
 | []=>[]| s::r=>lj s (srt r)
theorem jM:∀ l:List av,(srt l).Perm l
 | []=>.refl _| s::r=>(jt s _).trans (List.perm_append_comm.trans ((jM r).cons s))
theorem E6:∀ l:List av,(srt l).Pairwise i'
 | []=>.nil| s::r=>uz s (E6 r)
def gH(l:List av):Prop:=l.Pairwise fun x y=>bY x y=ag
theorem oR(x y:av):bY x y=bY y x:=by simp only [bY,eq_comm]
theorem gH.perm{l l':List av}(h:gH l)(b:l'.Perm l):gH l':=(b.pairwise_iff (fun {x y} e=>by rw [oR];exact e)).2 h
theorem zw{l A:List av}(h:gH l)(b:A.Perm l)(j:A.Pairwise i'):A=srt l:=
 vu (b.trans (jM l).symm) j (E6 l) fun x m y q d g=>Bu (r:=bY) oR h x (b.mem_iff.1 m) y (b.mem_iff.1 q) (sf.2 (by unfold i' at d g;omega))
def eL(x y:av):Prop:=x.meet<y.meet∨x.meet=y.meet∧x.room<y.room
theorem adA{l:List av}(h:gH l):(srt l).Pairwise eL:=by
 refine List.Pairwise.imp (fun {x y} e=>?_) ((E6 l).and (h.perm (jM l)));have b:=e.1;have d:=e.2;unfold i' at b;have g:¬ (x.meet=y.meet∧x.room=y.room):=by simpa [bY]using d
 unfold eL;omega
theorem pe{l0:List av}:∀ {l acc:List av},gH acc→(∀ x ∈ l0,∀ y ∈ acc,bY x y=ag)→gH (uniq l0 acc l)∧∀ x ∈ l0,∀ y ∈ uniq l0 acc l,bY x y=ag
 | [],acc,h,g=>⟨h,g⟩
 | s::l,acc,h,g=>by
  simp only [uniq];split
  ·exact pe h g
  ·rename_i j;simp only [Bool.or_eq_true,au3,not_or,not_exists,not_and,Bool.not_eq_true]at j;refine pe (au1.2 ⟨h,avw _ _,fun a q b u=>?_⟩) fun x m y d=>?_
   ·rw [aua.1 u];exact j.2 a q
   ·rcases auh.1 d with d | d
    ·exact g x m y d
    ·rw [aua.1 d];exact j.1 x m
def jy(l0:List av)(h:dj):List av:=srt (l0++uniq l0 [] (bh h.l))
theorem nE{l0:List av}(h0:gH l0)(h:dj):gH (l0++uniq l0 [] (bh h.l)):=by
 obtain⟨b,d⟩:=pe (l0:=l0) (l:=bh h.l) (acc:=[]) .nil (by simp);exact au1.2 ⟨h0,b,d⟩
theorem vT(h:dj):(bh h.l).length≤h.l.length:=by simp only [bh,at9];exact List.length_filter_le _ _
theorem FH{l0:List av}(h:dj):(jy l0 h).length≤l0.length+h.l.length:=by
 have b:=nw (l0:=l0) (l:=bh h.l) (acc:=[]);have g:=vT h;have d:=(jM (l0++uniq l0 [] (bh h.l))).length_eq;unfold jy;simp at b d;omega
theorem qa{h:dj}{s:av}(b:s ∈ bh h.l):∃ x ∈ h.l,s=x.aR:=by
 simp only [bh,auq,auS]at b;obtain⟨y,⟨d,_⟩,rfl⟩:=b;exact⟨y,d,rfl⟩
theorem FI{l0:List av}{h:dj}{s:av}(b:s ∈ jy l0 h):s ∈ l0∨∃ x ∈ h.l,s=x.aR:=by
 have:=(jM _).mem_iff.1 b;rcases auh.1 this with e | e
 ·exact .inl e
 ·rcases qH e with e | e
  ·cases e
  ·exact .inr (qa e)
end Go.Proofs.YtnaofdffomdmhaaGreat
