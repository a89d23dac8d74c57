/-
  ali the nb km and the mC answer, for all arguments of their kind, in the small machine: part 2.
-/
import Derived.Test.YtnaofdffomdmhaaGreatS1
import Derived.Test.YtnaofdffomdmhaaGreatK4
import Derived.Test.YtnaofdffomdmhaaGreatK3
import Derived.Test.YtnaofdffomdmhaaGreatK5
open Option renaming some → aa,none → ab
open Bool renaming true → ae,false → ag
open List renaming getElem?_append_left → AT, drop_zero → atf, getElem?_append_right → IS, getElem?_drop → asu, getElem_mem → anc, take_add_one → asQ, getElem?_eq_getElem → By, mem_append → asw, mem_singleton → asj, take_length → asK, mem_append_left → atj, mem_append_right → atY, mem_cons_self → asn, mem_cons_of_mem → asm, map_inj_left → atm, mem_flatMap → atE, mem_map → asH, mem_range → atN, getElem?_set_ne → AI, getElem?_eq_some_iff → BY, drop_eq_getElem_cons → arM, getElem?_set_self → IN, map_cons → asq, map_nil → asA, length_append → api, length_set → ass, set_getElem_self → att, length_map → asi, take_of_length_le → arf, mem_cons → asv, not_mem_nil → atc, getElem_of_mem → asZ, take_append_of_le_length → asG, cons_append → ati, pairwise_append → atb, nil_append → as9, pairwise_cons → ata, pairwise_iff_getElem → as0, pairwise_singleton → atB, map_append → as5, rel_of_pairwise_cons → atd
open Int renaming toNat_natCast → asy, lt_or_le → atq
open Prod.mk renaming inj → asF
open Bool renaming and_eq_true → If
open Option.some renaming inj → at8
open Nat renaming le_refl → aft, add_mul → asL, one_mul → aud, zero_add → asN
open List.Pairwise renaming of_cons → atZ
set_option linter.unusedVariables false
set_option linter.constructorNameAsVariable false
set_option linter.unusedSimpArgs false
set_option linter.unusedSectionVars false
set_option linter.unnecessarySimpa false
set_option maxRecDepth 100000
namespace Go.Proofs.YtnaofdffomdmhaaGreat
open Go Km
theorem FI{n b:Nat}(g:n≤1100000)(d:b≤4096):bY n b=ae:=by
 have h:(2*n+768)*b≤2200768*4096:=Nat.mul_le_mul (by omega) d;simp [bY];omega
theorem Pj(g:Tg)(ps:List bT)(B:∀ p ∈ ps,Mod p)(I:1≤ps.length)(F:ps.length≤64):∃ b,(b=ae↔tN [] ps)∧Kf tab 177 [.c (.f (sl g (aY ps)))] (vb b):=by
 obtain⟨b,z⟩:∃ b:Bool,b=ae↔tN [] ps:=⟨open Classical in decide (tN [] ps),by simp⟩
 refine⟨b,z,cT rfl rfl fun H Q E=>?_⟩;have u:RH H (H++[.box [.f (sl g (aY ps))] 0,.box (List.replicate ps.length (C.f (fi 0))) 0,.box [.sl (H.length+1) 0 ps.length ps.length 0 1] 0,.box [.cl 255 [.ptr H.length 0 0,.ptr (H.length+2) 0 0,.ptr (H.length+3) 0 0]] 0]) g ps (List.replicate ps.length 0):=by
  refine⟨⟨0,by simp⟩,by simp,by simp,by simp,fun i hi=>AT hi⟩
 obtain⟨v,H',d,A,rfl,q,K,m,-⟩:=aro H rfl g ps B F ps.length 0 (by omega) _ _ [] u (by simp) rfl (fun j h=>absurd h (Nat.not_lt_zero j));rw [atf,←z]at q;have x:A=b:=by rw [Bool.eq_iff_iff];exact q
 subst x;have d:=d.eq;simp only [show((0:Nat):Int)=0 from rfl]at d;apply ai;simp;have l:bY ps.length 8=ae:=FI (by omega) (by decide);have y:∀(t:T) (H:aj),t.g 6=vi ps.length→bo t H (.dZ 1 8 [.int .i64 0] (R 6) (R 6))=aa (.c (.sl H.length 0 ps.length ps.length 0 1),H++[.box (List.replicate ps.length (C.f (fi 0))) 0]):=by
  intro t H h;have e:(cG ps.length [fi 0]).map C.f=List.replicate ps.length (C.f (fi 0)):=by simp [cG]
  simp only [bo,CV,h,hZ];rw [ba ⟨by omega,Int.le_refl _,by simpa using l,rfl⟩];rw [aX (by omega),asy,e]
 apply ai;simp [y];apply ai;simp;apply ai;simp;apply ai;simp [b5,d];have s:H'=H++H'.drop H.length:=by
  refine List.ext_getElem? fun i=>?_;have J:=an m.2.2.2.1;rcases Nat.lt_or_ge i H.length with h | h
  ·exact(m.2.2.2.2 i h).trans (AT h).symm
  ·refine Eq.trans ?_ (IS h).symm;rw [asu,Nat.add_sub_cancel' h]
 refine aB (E _ _ ?_);simp;exact⟨_,s⟩
theorem Pk(g:Tg)(ps:List bT)(j:∀ p ∈ ps,Mod p)(d:1≤ps.length)(m:ps.length≤64):∃ b,(b=ae↔tN [] ps)∧bh tab 177 [.c (.f (sl g (aY ps)))]=Eq (vb b):=by
 obtain⟨b,l,h⟩:=Pj g ps j d m;exact⟨b,l,h.eq⟩
def iT(S:Int→Prop)(l:Int)(f:Bool):Prop:=(f=ag∧l=0∧∀ d,¬ S d)∨(f=ae∧S l∧∀ d,S d→l≤d)
theorem iT.iff{S S':Int→Prop}{l:Int}{f:Bool}(h:iT S l f)(g:∀ d,S' d↔S d):iT S' l f:=by
 rcases h with⟨a,b,c⟩ | ⟨a,b,c⟩
 ·exact .inl ⟨a,b,fun d j=>c d ((g d).1 j)⟩
 ·exact .inr ⟨a,(g _).2 b,fun d j=>c d ((g d).1 j)⟩
theorem iT.step{S S':Int→Prop}{l x:Int}{f:Bool}(h:iT S l f)(g:∀ d,S' d↔S d∨d=x):iT S' (if f=ag∨x<l then x else l) ae:=by
 right;rcases h with⟨rfl,rfl,c⟩ | ⟨rfl,b,c⟩
 ·refine⟨rfl,by simpa using (g x).2 (.inr rfl),fun d j=>?_⟩;rcases(g d).1 j with h | rfl
  ·exact absurd h (c d)
  ·simp
 ·refine⟨rfl,?_,fun d j=>?_⟩
  ·by_cases k:x<l
   ·simpa [k]using (g x).2 (.inr rfl)
   ·simpa [k]using (g l).2 (.inl b)
  ·rcases(g d).1 j with h | rfl
   ·have:=c d h;by_cases k:x<l<;>simp [k]<;>omega
   ·by_cases k:d<l<;>simp [k];omega
def kJ(ps:List bT)(n:Int)(l:List bT)(d:Int):Prop:=n≤d∧va ps d=ae∧∃ p ∈ l,d ∈ p.head
theorem aan(g:Tg)(ps:List bT)(hP:∀ p ∈ ps,gv p=ae)(hl:ps.length≤64)(n:Int):∃ e f,iT (kJ ps n ps) e f∧bh tab 176 [.c (.f (sl g (aY ps))),vi n]=Eq (.t [vi e,vb f]):=by
 have key:∃ r,(∃ e f,iT (kJ ps n ps) e f∧r=.t [vi e,vb f])∧bh tab 176 [.c (.f (sl g (aY ps))),vi n] r:=by
  refine fg rfl rfl fun Q hQ=>?_;apply ai;simp;apply ai;simp;apply ak;apply ai;simp;refine bW ps.length (fun j t H'=>t.g 0=.c (.f (sl g (aY ps)))∧t.g 1=vi n∧t.g 12=.c (.f (sl g (aY ps)))∧∃ e f,t.g 6=vi e∧t.g 7=vb f∧iT (kJ ps n (ps.take j)) e f) (by omega) (by decide) (by decide) (by simp) (by simp)
   ⟨by simp,by simp,by simp,0,ag,by simp,by simp,.inl ⟨rfl,rfl,fun d hd=>by obtain⟨_,_,p,hp,_⟩:=hd;simp at hp⟩⟩ ?_ ?_
  ·rintro j t H hj ⟨g0,s,b,e,f,A,B,M⟩ ha hb next
   obtain⟨p,hp⟩:=aI (ps[j]);have b_:p ∈ ps:=hp▸anc hj;obtain⟨f0,f1,p0,p1,BW,-,a_,-⟩:=fD (hP p b_);have N:=fun H:aj=>cf (H:=H) (cu ps) (dY (l:=ps) (j:=j) hj);have U:=fun H:aj=>bC (H:=H) (g:=g) (rows:=aY ps) (sz:=4) (k:=.i64) (i:=j) (by omega) (by simpa using hj);rw [←hp]at N;simp [bT.row]at N U;have c_:ps.take (j+1)=ps.take j++[p]:=by rw [asQ,By hj,hp];rfl
   refine aG ?_;apply ai;simp [b,ha,U,N];apply ai;simp;refine bW p.head.length (fun i t H'=>t.g 0=.c (.f (sl g (aY ps)))∧t.g 1=vi n∧t.g 12=.c (.f (sl g (aY ps)))∧t.g 14=vi j∧t.g 13=vi ps.length∧t.g 19=.c (.f (sl p.hg (ints p.head))) ∧
    ∃ e f,t.g 6=vi e∧t.g 7=vb f∧iT (fun d=>kJ ps n (ps.take j) d∨(n≤d∧va ps d=ae∧d ∈ p.head.take i)) e f) (by omega) (by decide) (by decide) (by simp) (by simp)
    ⟨by simp [g0],by simp [s],by simp [b],by simp [ha],by simp [hb],by simp,e,f,by simp [A],by simp [B],M.iff fun d=>by simp⟩ ?_ ?_
   ·rintro i t H hi ⟨g0,s,b,v,u,y,e,f,A,B,M⟩ J L nx;obtain⟨x,hx⟩:=aI (p.head[i]);have d9:x ∈ p.head:=hx▸anc hi;have h_:=a_ x d9;have a8:=fun H:aj=>jw (H:=H) hi;rw [←hx]at a8;have z:=(ajq g ps (by omega) hP x (by unfold Day;omega)).eq;have W:p.head.take (i+1)=p.head.take i++[x]:=by rw [asQ,By hi,hx];rfl
    refine aG ?_;apply ai;simp [J,y,bC,hi,a8];have cO:¬ (n≤x∧va ps x=ae)→iT (fun d=>kJ ps n (ps.take j) d∨(n≤d∧va ps d=ae∧d ∈ p.head.take (i+1))) e f:=fun b9=>M.iff fun d=>by
     rw [W,asw,asj];constructor
     ·rintro(h | ⟨E,F,I | rfl⟩)
      ·exact .inl h
      ·exact .inr ⟨E,F,I⟩
      ·exact absurd ⟨E,F⟩ b9
     ·rintro(h | ⟨E,F,I⟩)
      ·exact .inl h
      ·exact .inr ⟨E,F,.inl I⟩
    have O:(n≤x∧va ps x=ae)→iT (fun d=>kJ ps n (ps.take j) d∨(n≤d∧va ps d=ae∧d ∈ p.head.take (i+1))) (if f=ag∨x<e then x else e) ae:=fun X=>M.step fun d=>by
     rw [W,asw,asj];constructor
     ·rintro(h | ⟨E,F,I | rfl⟩)
      ·exact .inl (.inl h)
      ·exact .inl (.inr ⟨E,F,I⟩)
      ·exact .inr rfl
     ·rintro((h | ⟨E,F,I⟩) | rfl)
      ·exact .inl h
      ·exact .inr ⟨E,F,.inl I⟩
      ·exact .inr ⟨X.1,X.2,.inr rfl⟩
    have K:∀(t:T) (H:aj) (e':Int) (f':Bool),t.g 0=.c (.f (sl g (aY ps)))→t.g 1=vi n→t.g 12=.c (.f (sl g (aY ps)))→t.g 14=vi j→t.g 13=vi ps.length→t.g 19=.c (.f (sl p.hg (ints p.head)))→t.g 21=vi i→t.g 20=vi p.head.length→t.g 6=vi e'→t.g 7=vb f'→iT (fun d=>kJ ps n (ps.take j) d∨(n≤d∧va ps d=ae∧d ∈ p.head.take (i+1))) e' f' →
      WP tab 176 ab [.code Ax,.inLoop Aw,.inBlock 2,.inBlock 1,.code Ay,.inLoop Ew,.inBlock 0,.code Az] ⟨t,[],H⟩ Q:=by
     intro t H e' f' q0 q1 d_ f7 e_ f8 g_ f_ q6 q7 qm;refine nx _ _ ?_ g_ f_;exact⟨by simp [q0],by simp [q1],by simp [d_],by simp [f7],by simp [e_],by simp [f8],e',f',by simp [q6],by simp [q7],qm⟩
    by_cases S:n≤x
    ·cases f with
     | false=>
      cases m:va ps x with
      | false=>
       rw [m]at z;apply ai;simp [g0,s,A,B,S,z];refine aD (by simp) (aO (aw ?_));exact K _ _ e ag (by simp [g0]) (by simp [s]) (by simp [b]) (by simp [v]) (by simp [u]) (by simp [y]) (by simp [J]) (by simp [L]) (by simp [A]) (by simp [B]) (cO (by simp [m]))
      | true=>
       rw [m]at z;apply ai;simp [g0,s,A,B,S,z];refine aq (by simp) (al (.inl rfl) ?_);simp;refine aw ?_;exact K _ _ x ae (by simp [g0]) (by simp [s]) (by simp [b]) (by simp [v]) (by simp [u]) (by simp [y]) (by simp [J]) (by simp [L]) (by simp) (by simp) (by have:=O ⟨S,m⟩;simpa using this)
     | true=>
      by_cases Z:x<e
      ·cases m:va ps x with
       | false=>
        rw [m]at z;apply ai;simp [g0,s,A,B,S,Z,z];refine aD (by simp) (aO (aw ?_));exact K _ _ e ae (by simp [g0]) (by simp [s]) (by simp [b]) (by simp [v]) (by simp [u]) (by simp [y]) (by simp [J]) (by simp [L]) (by simp [A]) (by simp [B]) (cO (by simp [m]))
       | true=>
        rw [m]at z;apply ai;simp [g0,s,A,B,S,Z,z];refine aq (by simp) (al (.inl rfl) ?_);simp;refine aw ?_;exact K _ _ x ae (by simp [g0]) (by simp [s]) (by simp [b]) (by simp [v]) (by simp [u]) (by simp [y]) (by simp [J]) (by simp [L]) (by simp) (by simp) (by have:=O ⟨S,m⟩;simpa [Z]using this)
      ·apply ai;simp [g0,s,A,B,S,Z];refine aD (by simp) (aO (aw ?_));refine K _ _ e ae (by simp [g0]) (by simp [s]) (by simp [b]) (by simp [v]) (by simp [u]) (by simp [y]) (by simp [J]) (by simp [L]) (by simp [A]) (by simp [B]) ?_;cases m:va ps x with
       | false=>exact cO (by simp [m])
       | true=>have:=O ⟨S,m⟩;simpa [Z]using this
    ·apply ai;simp [g0,s,A,B,S];refine aD (by simp) (aO (aw ?_));exact K _ _ e f (by simp [g0]) (by simp [s]) (by simp [b]) (by simp [v]) (by simp [u]) (by simp [y]) (by simp [J]) (by simp [L]) (by simp [A]) (by simp [B]) (cO fun h=>S h.1)
   ·rintro t H ⟨g0,s,b,v,u,y,e,f,A,B,M⟩ - -;rw [asK]at M;refine aw (next _ _ ?_ (by simp [v]) (by simp [u]));refine⟨by simp [g0],by simp [s],by simp [b],e,f,by simp [A],by simp [B],M.iff fun d=>?_⟩;unfold kJ;rw [c_];constructor
    ·rintro⟨E,F,q,Y,I⟩;rcases asw.1 Y with Y | Y
     ·exact .inl ⟨E,F,q,Y,I⟩
     ·rw [asj.1 Y]at I;exact .inr ⟨E,F,I⟩
    ·rintro(⟨E,F,q,Y,I⟩ | ⟨E,F,I⟩)
     ·exact⟨E,F,q,atj _ Y,I⟩
     ·exact⟨E,F,p,atY _ (asj.2 rfl),I⟩
  ·rintro t H ⟨g0,s,b,e,f,A,B,M⟩ ha hb;rw [asK]at M;apply ai;simp [A,B];refine aB (hQ _ _ _ ⟨e,f,M,rfl⟩ ?_);simp
 obtain⟨r,⟨e,f,M,rfl⟩,h⟩:=key;exact⟨e,f,M,h.eq⟩
end Go.Proofs.YtnaofdffomdmhaaGreat
namespace Go.Proofs.YtnaofdffomdmhaaGreat
open Go Km
structure xn(ps:List bT):Prop where
 l1:1≤ps.length
 l2:ps.length≤64
 mod:∀ p ∈ ps,Mod p
 prod:fR ps≤1000000
 st:dp ps≤1000000000000
theorem xn.fq{ps:List bT}(h:xn ps):∀ p ∈ ps,gv p=ae:=fun p b=>(h.mod p b).ok
def InN(ps:List bT)(n x:Int):Prop:=n≤x∧va ps x=ae
theorem Fg{ps:List bT}{x:Int}(b:0≤x):va ps x=ae↔∀ p ∈ ps,wQ p x=ae:=by
 simp [va,hasB,b]
theorem yB{x:Int}:∀ {l:List bT},0≤x→x<dp l→∃ p ∈ l,x<p.fr
 | [],h0,h=>by simp only [dp]at h;omega
 | q::l,h0,h=>by
  simp only [dp]at h;by_cases k:x<q.fr
  ·exact⟨q,asn,k⟩
  ·obtain⟨p,b,e⟩:=yB (x:=x) (l:=l) h0 (by omega);exact⟨p,asm _ b,e⟩
theorem Bo{ps:List bT}(h:xn ps){n x:Int}(j:0≤n)(l:dp ps≤x):InN ps n x↔max n (dp ps)≤x∧∀ p ∈ ps,jL p x:=by
 have h0:=nj ps;unfold InN;rw [Fg (by omega)];constructor
 ·rintro⟨g,d⟩;exact⟨by omega,fun p b=>(BD (h.mod p b) (by have:=ni b;omega)).1 (d p b)⟩
 ·rintro⟨g,d⟩;exact⟨by omega,fun p b=>(BD (h.mod p b) (by have:=ni b;omega)).2 (d p b)⟩
theorem ai1(g:Tg)(ps:List bT)(h:xn ps)(n:Int)(J:0≤n)(W:n≤1000000000000):∃ d f q z,iT (InN ps n) d f∧(0≤d∧d≤1000001000000) ∧
  bh tab 176 [.c (.f (sl g (aY ps))),vi n]=Eq (.t [vi q,vb z]) ∧
  ((z=ae∧d=q∧f=ae)∨(z=ag∧q=0∧∃ b,bh tab 177 [.c (.f (sl g (aY ps)))]=Eq (vb b)∧((b=ag∧d=0∧f=ag)∨(b=ae∧bh tab 178 [.c (.f (sl g (aY ps))),vi n]=Eq (.t [vi d,vb f]))))):=by
 obtain⟨q,z,U,A⟩:=aan g ps h.fq h.l2 n;have Y:=nj ps;have Z:=h.st;have X:=h.prod;have u:∀ x,InN ps n x→x<dp ps→kJ ps n ps x:=by
  rintro x ⟨N,H⟩ l;obtain⟨p,y,S⟩:=yB (by omega) l;refine⟨N,H,p,y,?_⟩;have:=(Fg (by omega)).1 H p y;unfold wQ at this;rw [aX (by omega),decide_eq_true_eq]at this;exact this
 rcases U with⟨rfl,rfl,F⟩ | ⟨rfl,O,v⟩
 ·have B:∀ x,InN ps n x→dp ps≤x:=fun x l=>by
   rcases atq x (dp ps)with k | k
   ·exact absurd (u x l k) (F x)
   ·exact k
  have j:∀ x,InN ps n x↔max n (dp ps)≤x∧∀ p ∈ ps,jL p x:=fun x=>by
   constructor
   ·intro l;exact(Bo h J (B x l)).1 l
   ·intro l;exact(Bo h J (by omega)).2 l
  obtain⟨b,I,m⟩:=Pk g ps h.mod h.l1 h.l2;cases b with
  | false=>
   refine⟨0,ag,0,ag,.inl ⟨rfl,rfl,fun x l=>?_⟩,⟨by omega,by omega⟩,A,.inr ⟨rfl,rfl,ag,m,.inl ⟨rfl,rfl,rfl⟩⟩⟩;have:=I.2 (FH (d:=x) ps [] (by simp) ((j x).1 l).2);cases this
  | true=>
   rcases ahJ g ps h.mod h.l2 h.prod n _ rfl (by omega)with⟨d,⟨K,L,d3,M⟩,E⟩ | ⟨s,E⟩
   ·exact⟨d,ae,0,ag,.inr ⟨rfl,(j d).2 ⟨K,L⟩,fun x l=>M x ((j x).1 l).1 ((j x).1 l).2⟩,⟨by omega,by omega⟩,A,.inr ⟨rfl,rfl,ae,m,.inr ⟨rfl,E⟩⟩⟩
   ·exact⟨0,ag,0,ag,.inl ⟨rfl,rfl,fun x l=>s x ((j x).1 l).1 ((j x).1 l).2⟩,⟨by omega,by omega⟩,A,.inr ⟨rfl,rfl,ae,m,.inr ⟨rfl,E⟩⟩⟩
 ·obtain⟨s1,s2,p,y,Q⟩:=O;have I:=(fD (h.fq p y)).2.2.2.2.2.2.1 q Q;have:=ni y;refine⟨q,ae,q,ae,.inr ⟨rfl,⟨s1,s2⟩,fun x l=>?_⟩,⟨by omega,by omega⟩,A,.inl ⟨rfl,rfl,rfl⟩⟩;rcases atq x (dp ps)with k | k
  ·exact v x (u x l k)
  ·omega
theorem iT.join{S S1 q:Int→Prop}{l x:Int}{f m:Bool}(h1:iT S1 l f)(h2:iT q x m)(g:∀ d,S d↔S1 d∨q d):iT S (if m=ae∧(f=ag∨x<l)then x else l) (f||m):=by
 rcases h1 with⟨rfl,rfl,a⟩ | ⟨rfl,a,b⟩<;>rcases h2 with⟨rfl,rfl,c⟩ | ⟨rfl,c,e⟩
 ·refine .inl ⟨rfl,by simp,fun d j=>?_⟩;rcases(g d).1 j with h | h
  ·exact a d h
  ·exact c d h
 ·refine .inr ⟨rfl,by simpa using (g x).2 (.inr c),fun d j=>?_⟩;rcases(g d).1 j with h | h
  ·exact absurd h (a d)
  ·simpa using e d h
 ·refine .inr ⟨rfl,by simpa using (g l).2 (.inl a),fun d j=>?_⟩;rcases(g d).1 j with h | h
  ·simpa using b d h
  ·exact absurd h (c d)
 ·refine .inr ⟨rfl,?_,fun d j=>?_⟩
  ·by_cases k:x<l
   ·simpa [k]using (g x).2 (.inr c)
   ·simpa [k]using (g l).2 (.inl a)
  ·rcases(g d).1 j with h | h
   ·have:=b d h;by_cases k:x<l<;>simp [k]<;>omega
   ·have:=e d h;by_cases k:x<l<;>simp [k]<;>omega
def QH(H:aj)(n b:Int)(found:Bool):Prop:=H[0]?=aa (.box [.f (fi n)] 0)∧H[1]?=aa (.box [.f (fi b)] 0)∧H[2]?=aa (.box [.f (.bool found)] 0)∧H[3]?=aa (.fj ae) ∧
 ∃ s:T,H[4]?=aa (.lp 107 s [P.nat 12] du cW .ready ab 3)∧s.g 3=.c (.ptr 0 0 0)∧s.g 6=.c (.ptr 1 0 0)∧s.g 7=.c (.ptr 2 0 0)
end Go.Proofs.YtnaofdffomdmhaaGreat
namespace Go.Proofs.YtnaofdffomdmhaaGreat
open Go Km
theorem iR{k:IntKind}{a b:Int}(h:0≤a)(d:b≠0):dq .rem (.c (.f (.int k a))) (.c (.f (.int k b)))=aa (.c (.f (.int k (a % b)))):=by
 rw [ik d,Int.tmod_eq_emod_of_nonneg h]
def mj:FC:=.fs [.fs [.fs [.au,fi 0,fi 1,.fs [fi 0] 1] 1] 1,fi 0,fi 1440] 1
def pP(af:Int)(d:Tg)(q:List (Int × Int))(b:Tg)(p:List Int):cF:=⟨10,0,af,fi 0,.fs [fi 3] 1,fi (-1),.au,fi 0,.au,fi 0,.au,mj,.au,d,q,b,p⟩
def cR(af b:Int):List cF:=[pP af .fs [(1,b)] .nil [],pP af .nil [] .nil [],pP af .nil [] .fs [0,1]]
def abD(af b:Int):V:=.c (.f (sl .fs (rows (cR af b))))
set_option maxRecDepth 10000
theorem abE(a q:Int)(j:0≤a)(a1:a≤255)(s:0≤q)(u:q≤65535):bh tab 31 [.c (.f (.int .u8 a)),.c (.f (.int .u16 q))]=Eq (abD (a % 40) (q % 3000)):=bh.eq (by
 refine bV rfl rfl fun Q l=>?_;have g:=iR (k:=.u8) (b:=40) j (by decide);have d:=iR (k:=.i64) (b:=3000) s (by decide);apply ai;simp;apply ai;simp;apply ai;simp;apply ai;simp [g,aU (n:=a % 40)];refine ak (gb (.inl rfl) ?_ ?_)
 case _=>
  simp;apply ai;simp [aU (n:=q),d];apply ai;simp;apply ai;simp;refine aB (l _ _ ?_);simp [iV,cK,deep,lJ,bg,abD,cR,rows,cF.row,pP,mj,sl,Tg.fc,gm,ints]
 ·intro c m;rw [asj.1 m];refine⟨by decide,_,rfl,.inl ⟨by decide,?_⟩⟩;simp [gQ,V.beq,jl,C.beq,FC.beq])
def u8s(l:List Int):List C:=l.map fun x=>.f (.int .u8 x)
theorem acb(l s u m d g q j:Int)(h:∀ x ∈ [l,s,u,m,d,g,q,j],0≤x∧x≤255) :
  bh tab 37 [.a (u8s [l,s,u,m,d,g,q,j])]=Eq (.a ((sV (1+l % 7) (s % 3) (u % 3) (1+m % 12) (1+d % 6) (g % (1+d % 6)) (20*(q % 60)) (10+10*(j % 30))).row.map .f)):=bh.eq (by
 have b0:=h l (by simp);have b1:=h s (by simp);have v:=h u (by simp);have y:=h m (by simp);have z:=h d (by simp);have A:=h g (by simp);have B:=h q (by simp);have E:=h j (by simp);refine bV rfl rfl fun Q O=>?_;have F:=iR (k:=.u8) (b:=7) b0.1 (by decide);have H:=iR (k:=.u8) (b:=3) b1.1 (by decide);have I:=iR (k:=.u8) (b:=3) v.1 (by decide);have J:=iR (k:=.u8) (b:=12) y.1 (by decide);have K:=iR (k:=.u8) (b:=6) z.1 (by decide);have L:=iR (k:=.i64) (b:=1+d % 6) A.1 (by omega);have M:=iR (k:=.u8) (b:=60) B.1 (by decide);have N:=iR (k:=.u8) (b:=30) E.1 (by decide);have S:=Int.emod_nonneg g (show 1+d % 6≠0 by omega);have U:=Int.emod_lt_of_pos g (show 0<1+d % 6 by omega);apply ai;simp [u8s];apply ai;simp [K,aU (n:=d % 6),aU (n:=1+d % 6)];apply ai;simp [aU (n:=g),L];apply ai;simp [N,M,aU (n:=j % 30),aU (n:=10*(j % 30)),aU (n:=10+10*(j % 30)),aU (n:=q % 60),aU (n:=20*(q % 60))];apply ai;simp [F,H,I,J,aU (n:=l % 7),aU (n:=1+l % 7),aU (n:=s % 3),aU (n:=u % 3),aU (n:=m % 12),aU (n:=1+m % 12)];refine aB (O _ _ ?_);simp [iV,cK,deep,lJ,bg,sV,aA.row,aH,aL,cN.row,aJ,dP.row,aY,bT.row,ints,sl,Tg.fc])
end Go.Proofs.YtnaofdffomdmhaaGreat
namespace Go.Proofs.YtnaofdffomdmhaaGreat
open Go Km
theorem aq8(args:List V)(H:aj)(h:tab.get fA=ab):tab.rD fA args H=Km.rD fA args H:=by
 show(match tab.get fA with | some _=>ab | none=>Km.rD fA args H)=_;rw [h]
abbrev RK(f:Nat)(args:List V)(r:V):Prop:=bu tab 400 60 (.fn f) args .e 0 (isR r)
theorem kG{f:Nat}{args:List V}{r:V}(h:RK f args r=(r=r)):bh tab f args=Eq r:=(abA aq8 h).eq
theorem rh{b:Type}{L:List b}{f:Nat}{args:b→List V}{res:b→V}(h:L.map (fun x=>RK f (args x) (res x))=L.map fun x=>(res x=res x)){x:b}(d:x ∈ L):bh tab f (args x)=Eq (res x):=
 kG (atm.1 h x d)
def mx(n p:Int):V:=.a [.f (.fs [.fs [.au,fi 0,fi n,.fs [fi p] 1] 1] 1)]
def om:V:=.a [.f .au]
def oF:V:=.a [.f (.fs [.fs [.es,fi 0,fi 1,.fs [fi 0] 1] 1] 1)]
def fam:List (Int × Int):=[(1,0),(2,0),(2,1),(3,0),(3,1),(3,2),(4,0),(4,1),(4,2),(4,3),(5,0),(5,1),(5,2),(5,3),(5,4),(6,0),(6,1),(6,2),(6,3),(6,4),(6,5)]
def zW(n p:Int):Prop:=1≤n∧n≤6∧0≤p∧p<n
theorem iX{n p:Int}(h:zW n p):(n,p) ∈ fam:=by
 obtain⟨b,d,g,j⟩:=h;obtain rfl | rfl | rfl | rfl | rfl | rfl:n=1∨n=2∨n=3∨n=4∨n=5∨n=6:=by omega
 all_goals obtain rfl | rfl | rfl | rfl | rfl | rfl:p=0∨p=1∨p=2∨p=3∨p=4∨p=5:=by omega
 all_goals first | omega | simp [fam]
def Pp(n p:Int):Int:=if p=0 then n-1 else p-1
theorem kU:fam.map (fun x=>(RK 106 [mx x.1 x.2,vi (-1)] (.t [mx x.1 (Pp x.1 x.2),vi 0]),RK 214 [mx x.1 x.2] (.t [.a [.f .es,.f (fi 0),.f (fi x.1),.f (.fs [fi x.2] 1)],vi 0]),RK 210 [mx x.1 x.2,oF] (.t [om,vi 0]),RK 210 [mx x.1 x.2,om] (.t [mx x.1 x.2,vi 0]),RK 58 [mx x.1 x.2] (vb ag),RK 211 [mx x.1 x.2,vi 0] (.t [vi x.2,vb ae]))) =
  fam.map fun x=>((.t [mx x.1 (Pp x.1 x.2),vi 0]:V)=.t [mx x.1 (Pp x.1 x.2),vi 0],(.t [.a [.f .es,.f (fi 0),.f (fi x.1),.f (.fs [fi x.2] 1)],vi 0]:V)=.t [.a [.f .es,.f (fi 0),.f (fi x.1),.f (.fs [fi x.2] 1)],vi 0],(.t [om,vi 0]:V)=.t [om,vi 0],(.t [mx x.1 x.2,vi 0]:V)=.t [mx x.1 x.2,vi 0],vb ag=vb ag,(.t [vi x.2,vb ae]:V)=.t [vi x.2,vb ae]):=by kernel_rfl
end Go.Proofs.YtnaofdffomdmhaaGreat
namespace Go.Proofs.YtnaofdffomdmhaaGreat
open Go Km
def pE:V:=.a [.f .es,.f (fi 0),.f (fi 1),.f (.fs [fi 0] 1)]
def FA:V:=.a [.f (fi 0),.f (.fs [fi 3] 1),.f (fi (-1)),.f .au,.f (fi 0),.f .au,.f (fi 0),.f .au,.f mj,.f .au]
def aaU:List (Nat × Nat):=([1,2,3,4,5,6,10,12,15,20,30,60]:List Nat).flatMap fun d=>[(d,1),(d,2),(d,3),(d,4),(d,5),(d,6)]
theorem vh:([RK 290 [pE] oF,RK 57 [oF,mx 1 0] (.t [oF,vi 0]),RK 106 [mx 1 0,vi 0] (.t [mx 1 0,vi 0]),RK 106 [oF,vi 0] (.t [oF,vi 0]),RK 284 [om,oF] (.t [oF,vi 0]),RK 284 [oF,om] (.t [oF,vi 0]),RK 284 [om,om] (.t [om,vi 0]),RK 287 [.c (.f .au)] om,RK 190 [FA] (vi 0)],
  (List.range 60).map (fun k=>RK 276 [vi (20*k:Nat)] (.t [vi 0,vi (20*k:Nat)])),aaU.map fun x=>RK 215 [vi (7*x.1:Nat),vi (x.2:Nat)] (.t [vi (7*Nat.lcm x.1 x.2:Nat),vi 0])) =
 ([oF=oF,(.t [oF,vi 0]:V)=.t [oF,vi 0],(.t [mx 1 0,vi 0]:V)=.t [mx 1 0,vi 0],(.t [oF,vi 0]:V)=.t [oF,vi 0],(.t [oF,vi 0]:V)=.t [oF,vi 0],(.t [oF,vi 0]:V)=.t [oF,vi 0],(.t [om,vi 0]:V)=.t [om,vi 0],om=om,vi 0=vi 0],
  (List.range 60).map (fun k=>((.t [vi 0,vi (20*k:Nat)]:V)=.t [vi 0,vi (20*k:Nat)])),aaU.map fun x=>((.t [vi (7*Nat.lcm x.1 x.2:Nat),vi 0]:V)=.t [vi (7*Nat.lcm x.1 x.2:Nat),vi 0])):=by kernel_rfl
end Go.Proofs.YtnaofdffomdmhaaGreat
namespace Go.Proofs.YtnaofdffomdmhaaGreat
open Go Km
def com(x y:Int × Int):Bool:=(List.range 60).any fun d=>decide ((d:Int) % x.1=x.2)&&decide ((d:Int) % y.1=y.2)
def inc:List ((Int × Int) × Int × Int):=fam.flatMap fun x=>(fam.filter fun y=>!com x y).map fun y=>(x,y)
theorem ag1:inc.map (fun z=>RK 57 [mx z.1.1 z.1.2,mx z.2.1 z.2.2] (.t [om,vi 0]))=inc.map fun _=>((.t [om,vi 0]:V)=.t [om,vi 0]):=by kernel_rfl
theorem acs:(List.range 60).map (fun k=>RK 282 [.a [.f (fi 0),.f (.fs [fi 3] 1),.f (fi (-1)),.f .au,.f (fi 0),.f .au,.f (fi 0),.f .au],vi (20*k:Nat)] (.t [.c (.f (.fs [fi 0,.es,fi 0,fi 1,.fs [fi 0] 1] 1)),vi 0]))=(List.range 60).map fun _=>((.t [.c (.f (.fs [fi 0,.es,fi 0,fi 1,.fs [fi 0] 1] 1)),vi 0]:V)=.t [.c (.f (.fs [fi 0,.es,fi 0,fi 1,.fs [fi 0] 1] 1)),vi 0]):=by kernel_rfl
theorem xD:bh tab 58 [om]=Eq (vb ae):=kG (by kernel_rfl)
theorem abf:bh tab 211 [om,vi 0]=Eq (.t [vi 0,vb ag]):=kG (by kernel_rfl)
end Go.Proofs.YtnaofdffomdmhaaGreat
namespace Go.Proofs.YtnaofdffomdmhaaGreat
open Go Km
section
variable{n p:Int}(h:zW n p)
include h
theorem abS:bh tab 106 [mx n p,vi (-1)]=Eq (.t [mx n (Pp n p),vi 0]):=kG (asF (atm.1 kU _ (iX h))).1
theorem ahF:bh tab 214 [mx n p]=Eq (.t [.a [.f .es,.f (fi 0),.f (fi n),.f (.fs [fi p] 1)],vi 0]):=kG (asF (asF (atm.1 kU _ (iX h))).2).1
theorem O2:bh tab 210 [mx n p,oF]=Eq (.t [om,vi 0]):=kG (asF (asF (asF (atm.1 kU _ (iX h))).2).2).1
theorem O3:bh tab 210 [mx n p,om]=Eq (.t [mx n p,vi 0]):=kG (asF (asF (asF (asF (atm.1 kU _ (iX h))).2).2).2).1
theorem aap:bh tab 58 [mx n p]=Eq (vb ag):=kG (asF (asF (asF (asF (asF (atm.1 kU _ (iX h))).2).2).2).2).1
theorem ah0:bh tab 211 [mx n p,vi 0]=Eq (.t [vi p,vb ae]):=kG (asF (asF (asF (asF (asF (atm.1 kU _ (iX h))).2).2).2).2).2
end
theorem alq{n p m q:Int}(h:zW n p)(b:zW m q)(d:com (n,p) (m,q)=ag):bh tab 57 [mx n p,mx m q]=Eq (.t [om,vi 0]):=
 rh (x:=((n,p),(m,q))) ag1 (by
  unfold inc;exact atE.2 ⟨(n,p),iX h,asH.2 ⟨(m,q),List.mem_filter.2 ⟨iX b,by rw [d];rfl⟩,rfl⟩⟩)
theorem aha{n p m q:Int}(h:com (n,p) (m,q)=ae):∃ d:Int,0≤d∧d<60∧d % n=p∧d % m=q:=by
 obtain⟨d,b,h⟩:=List.any_eq_true.1 h;simp only [If,decide_eq_true_eq]at h;exact⟨d,by omega,by have:=atN.1 b;omega,h⟩
theorem ai2{k:Nat}(b:k<60):bh tab 282 [.a [.f (fi 0),.f (.fs [fi 3] 1),.f (fi (-1)),.f .au,.f (fi 0),.f .au,.f (fi 0),.f .au],vi (20*k:Nat)]=Eq (.t [.c (.f (.fs [fi 0,.es,fi 0,fi 1,.fs [fi 0] 1] 1)),vi 0]):=rh acs (atN.2 b)
theorem ahq(m r t z n p mi le:Int):Fix (sV m r t z n p mi le):=by
 unfold Fix;exact(pJ (m:=400) (d:=60) (by kernel_rfl)).eq
end Go.Proofs.YtnaofdffomdmhaaGreat
namespace Km
open Go
theorem Kp.tr{H K L:aj}(h:Kp H K)(d:Kp K L):Kp H L:=⟨Nat.le_trans h.1 d.1,fun b l=>(d.2 b (Nat.lt_of_lt_of_le l h.1)).trans (h.2 b l)⟩
theorem Kp.get{H K:aj}(h:Kp H K){i:Nat}{y:bq}(hi:H[i]?=aa y):K[i]?=aa y:=by rw [h.2 i (an hi)];exact hi
theorem Kp.lP{H K:aj}(h:Kp H K){i:Nat}(hi:H.length≤i)(x:bq):Kp H (K.set i x):=⟨by simpa using h.1,fun b l=>by rw [AI (by omega)];exact h.2 b l⟩
end Km
namespace Go.Proofs.YtnaofdffomdmhaaGreat
open Go Km
def E1:FC:=.fs [.fs [.es,fi 0,fi 1,.fs [fi 0] 1] 1] 1
def S1:FC:=.fs [.fs [.au,fi 0,fi 1,.fs [fi 0] 1] 1] 1
def ei:List FC:=[fi 0,.fs [fi 3] 1,fi (-1),.au,fi 0,.au,fi 0,.au,mj,.au]
theorem fX:bh tab 290 [pE]=Eq oF∧bh tab 57 [oF,mx 1 0]=Eq (.t [oF,vi 0])∧bh tab 106 [mx 1 0,vi 0]=Eq (.t [mx 1 0,vi 0])∧bh tab 106 [oF,vi 0]=Eq (.t [oF,vi 0])∧bh tab 284 [om,oF]=Eq (.t [oF,vi 0])∧bh tab 284 [oF,om]=Eq (.t [oF,vi 0])∧bh tab 284 [om,om]=Eq (.t [om,vi 0])∧bh tab 287 [.c (.f .au)]=Eq om∧bh tab 190 [FA]=Eq (vi 0):=by
 have h:=(asF vh).1;simp only [List.cons.injEq,and_true]at h;obtain⟨b,d,g,j,l,m,q,s,u⟩:=h;have t:=fun {f:Nat} {a:List V} {r:V} (h:RK f a r=True)=>kG (h.trans (eq_true rfl).symm);exact⟨t b,t d,t g,t j,t l,t m,t q,t s,t u⟩
theorem ab8{k:Nat}(b:k<60):bh tab 276 [vi (20*k:Nat)]=Eq (.t [vi 0,vi (20*k:Nat)]):=rh (asF (asF vh).2).1 (atN.2 b)
theorem al7{x:Nat × Nat}(h:x ∈ aaU):bh tab 215 [vi (7*x.1:Nat),vi (x.2:Nat)]=Eq (.t [vi (7*Nat.lcm x.1 x.2:Nat),vi 0]):=rh (asF (asF vh).2).2 h
theorem ama:bh tab 210 [mx 1 0,om]=Eq (.t [mx 1 0,vi 0]):=kG (asF (asF (asF (asF (atm.1 kU (1,0) (by simp [fam]))).2).2).2).1
theorem aoN{H:aj}(s:H[0]?=aa (.box (ei.map .f) 0)):∃ r H',Ev tab (.fn 286) [.a [.f S1],.c (.ptr 0 0 0)] H r H'∧(r=.t [.a [.f S1],vi 0]∧Kp H H'):=by
 refine cJ rfl rfl fun Q q=>?_;have d:=fX.2.2.2.2.2.2.2.1;have j:=ama;have u:∀ K:aj,Kp H K→aS K ab (.c (.ptr 0 9 0))=aa (.c (.f .au)):=fun K b=>by simp [aS,aE,b.get s,ei]
 apply ai;simp;have b:=Kp.push H [bq.box [C.f S1] 0,bq.box [C.f FC.au] 0];have l:(H++[bq.box [C.f S1] 0,bq.box [C.f FC.au] 0])[H.length]?=aa (.box [.f S1] 0):=by simp
 have g:(H++[bq.box [C.f S1] 0,bq.box [C.f FC.au] 0])[H.length+1]?=aa (.box [.f .au] 0):=by simp
 generalize H++[bq.box [C.f S1] 0,bq.box [C.f FC.au] 0]=K at b l g ⊢;have v:de K (.ptr (H.length+1) 0 0) [.f S1]=aa (K.set (H.length+1) (.box [.f S1] 0)):=by simp [de,g,over]
 have m:aS K (aa 1) (.c (.ptr H.length 0 0))=aa (.a [.f S1]):=by simp [aS,aE,l,aQ]
 apply ai;simp only [om]at d;change bh tab 287 _=_ at d;change bh tab 210 [.a [.f S1],.a [.f .au]]=Eq (.t [.a [.f S1],vi 0])at j;simp [m,u K b,d,j,v,-av,-bf];refine aB (q _ _ _ rfl ?_ ⟨rfl,b.lP (by omega) _⟩);simp [Km.results,bg,an g,aQ]
theorem aoE:bh tab 288 [vi 0]=Eq (.c (.f (.fn 354 [.fp [fi 0] 0]))):=bh.eq (by
 refine bV rfl rfl fun Q b=>?_;apply ai;simp;apply ai;simp;refine aB (b _ _ ?_);simp [deep])
theorem aji{H:aj}{s:FC}(h:bh tab 106 [.a [.f s],vi 0]=Eq (.t [.a [.f s],vi 0])):∃ r H',Ev tab (.fn 354) [.a [.f s],.c (.f (.fp [fi 0] 0))] H r H'∧(r=.t [.a [.f s],vi 0]∧Kp H H'):=by
 refine cJ rfl rfl fun Q l=>?_;apply ai;simp;have d:=Kp.push H [bq.box [C.f s] 0,bq.box [C.f FC.au] 0];have g:(H++[bq.box [C.f s] 0,bq.box [C.f FC.au] 0])[H.length]?=aa (.box [.f s] 0):=by simp
 have b:(H++[bq.box [C.f s] 0,bq.box [C.f FC.au] 0])[H.length+1]?=aa (.box [.f .au] 0):=by simp
 generalize H++[bq.box [C.f s] 0,bq.box [C.f FC.au] 0]=K at d g b ⊢;have m:de K (.ptr (H.length+1) 0 0) [.f s]=aa (K.set (H.length+1) (.box [.f s] 0)):=by simp [de,b,over]
 have j:aS K (aa 1) (.c (.ptr H.length 0 0))=aa (.a [.f s]):=by simp [aS,aE,g,aQ]
 change bh tab 106 _=_ at h;apply ai;simp [j,nQ,h,m,-av,-bf];refine aB (l _ _ _ rfl ?_ ⟨rfl,d.lP (by omega) _⟩);simp [Km.results,bg,an b,aQ]
theorem aoO{H:aj}{b:Nat}(u:H[b]?=aa (.box [.f (fi 0),.f .es,.f (fi 0),.f (fi 1),.f (.fs [fi 0] 1)] 0)):∃ r H',Ev tab (.fn 289) [.a [.f S1],.c (.ptr b 0 0)] H r H'∧(r=.t [.a [.f E1],vi 0]∧Kp H H'):=by
 refine cJ rfl rfl fun Q s=>?_;have j:=fX.1;have l:=fX.2.1;have v:∀ K:aj,Kp H K→aS K (aa 4) (.c (.ptr b 1 0))=aa (.a [.f .es,.f (fi 0),.f (fi 1),.f (.fs [fi 0] 1)]):=fun K d=>by simp [aS,aE,d.get u,aQ]
 apply ai;simp;have d:=Kp.push H [bq.box [C.f S1] 0,bq.box [C.f FC.au] 0];have m:(H++[bq.box [C.f S1] 0,bq.box [C.f FC.au] 0])[H.length]?=aa (.box [.f S1] 0):=by simp
 have g:(H++[bq.box [C.f S1] 0,bq.box [C.f FC.au] 0])[H.length+1]?=aa (.box [.f .au] 0):=by simp
 generalize H++[bq.box [C.f S1] 0,bq.box [C.f FC.au] 0]=K at d m g ⊢;have x:de K (.ptr (H.length+1) 0 0) [.f E1]=aa (K.set (H.length+1) (.box [.f E1] 0)):=by simp [de,g,over]
 have q:aS K (aa 1) (.c (.ptr H.length 0 0))=aa (.a [.f S1]):=by simp [aS,aE,m,aQ]
 change bh tab 290 [.a [.f .es,.f (fi 0),.f (fi 1),.f (.fs [fi 0] 1)]]=Eq (.a [.f E1])at j;change bh tab 57 [.a [.f E1],.a [.f S1]]=Eq (.t [.a [.f E1],vi 0])at l;apply ai;simp [q,v K d,j,l,x,-av,-bf];refine aB (s _ _ _ rfl ?_ ⟨rfl,d.lP (by omega) _⟩);simp [Km.results,bg,an g,aQ]
theorem ajk{H:aj}{b:Nat}{u v w:FC}(q:H[b]?=aa (.box [.f u] 0))(h:bh tab 284 [.a [.f u],.a [.f v]]=Eq (.t [.a [.f w],vi 0])):∃ r H',Ev tab (.fn 283) [.a [.f v],.c (.ptr b 0 0)] H r H'∧(r=.t [.a [.f w],vi 0]∧Kp H H'):=by
 refine cJ rfl rfl fun Q m=>?_;have s:∀ K:aj,Kp H K→aS K (aa 1) (.c (.ptr b 0 0))=aa (.a [.f u]):=fun K d=>by simp [aS,aE,d.get q,aQ]
 apply ai;simp;have d:=Kp.push H [bq.box [C.f v] 0,bq.box [C.f FC.au] 0];have j:(H++[bq.box [C.f v] 0,bq.box [C.f FC.au] 0])[H.length]?=aa (.box [.f v] 0):=by simp
 have g:(H++[bq.box [C.f v] 0,bq.box [C.f FC.au] 0])[H.length+1]?=aa (.box [.f .au] 0):=by simp
 generalize H++[bq.box [C.f v] 0,bq.box [C.f FC.au] 0]=K at d j g ⊢;have x:de K (.ptr (H.length+1) 0 0) [.f w]=aa (K.set (H.length+1) (.box [.f w] 0)):=by simp [de,g,over]
 have l:aS K (aa 1) (.c (.ptr H.length 0 0))=aa (.a [.f v]):=by simp [aS,aE,j,aQ]
 change bh tab 284 _=_ at h;apply ai;simp [l,s K d,h,x,-av,-bf];refine aB (m _ _ _ rfl ?_ ⟨rfl,d.lP (by omega) _⟩);simp [Km.results,bg,an g,aQ]
theorem wj{cs:List C}{k:Nat}{x:C}(h:cs[k]?=aa x):aQ ab (cs.drop k)=aa (.c x):=by
 have b:=(BY.1 h).1;have e:=By b;rw [h]at e;rw [arM b,←at8 e];rfl
theorem A6{H:aj}{b:Nat}(cs:List C)(d:List FC)(e:d.length=cs.length+1)(c:cs.length≤100)(F:H[b]?=aa (.box cs 0))
  (step:∀(j:Nat) (J:j<cs.length) (K:aj),Kp H K→∃ f M r q,b5 (.c cs[j]) [.a [.f (d[j]'(by omega))]]=aa (f,M)∧Ev tab f M K r q∧(r=.t [.a [.f (d[j+1]'(by omega))],vi 0]∧Kp K q)) :
  ∃ r H',Ev tab (.fn 285) [.a [.f (d[0]'(by omega))],.c (.sl b 0 cs.length cs.length 0 1)] H r H'∧(r=.t [.a [.f (d[cs.length]'(by omega))],vi 0]∧Kp H H'):=by
 refine cJ rfl rfl fun Q Y=>?_;have Z:=an F;have k:∀ K:aj,Kp H K→∀ j:Nat,(h:j<cs.length)→bA K 1 ab (.c (.sl b 0 cs.length cs.length 0 1)) (vi j)=aa (.c (.ptr b j 0))∧aS K ab (.c (.ptr b j 0))=aa (.c cs[j]):=fun K x j h=>by
  have g:=x.get F;refine⟨?_,?_⟩
  ·simp [bA,show hZ (vi (j:Int))=aa (j:Int) from rfl,g,h]
  ·rw [av,g];exact wj (By h)
 apply ai;simp;have x:=Kp.push H [bq.box [C.f (d[0]'(by omega))] 0,bq.box [C.f FC.au] 0];have U:(H++[bq.box [C.f (d[0]'(by omega))] 0,bq.box [C.f FC.au] 0])[H.length]?=aa (.box [.f (d[0]'(by omega))] 0):=by simp
 have W:(H++[bq.box [C.f (d[0]'(by omega))] 0,bq.box [C.f FC.au] 0])[H.length+1]?=aa (.box [.f .au] 0):=by simp
 generalize H++[bq.box [C.f (d[0]'(by omega))] 0,bq.box [C.f FC.au] 0]=X at x U W ⊢;apply ak;apply ai;have len:∀ K:aj,Kp H K→bt K (.sl b 0 cs.length cs.length 0 1)=aa cs.length:=fun K x=>by simp [bt,x.get F]
 simp [len X x];refine bW cs.length (fun j t K=>t.g 1=.c (.sl b 0 cs.length cs.length 0 1)∧t.g 10=.c (.sl b 0 cs.length cs.length 0 1)∧t.g 2=.c (.ptr H.length 0 0)∧t.g 4=.c (.ptr (H.length+1) 0 0)∧Kp H K∧(∀ h:j<d.length,K[H.length]?=aa (.box [.f d[j]] 0))∧K[H.length+1]?=aa (.box [.f .au] 0)) (by omega) (by decide) (by decide) (by simp) (by simp)
  ⟨by simp,by simp,by simp,by simp,x,fun _=>U,W⟩ ?_ ?_
 ·rintro j t K J ⟨N,s,z,B,A,m,E⟩ O g next
  obtain⟨i,n⟩:=k K A j J;have m:=m (by omega);obtain⟨f,as',r,q,a,I,rfl,u⟩:=step j J K A;have I:=I.eq;have L:aS K (aa 1) (.c (.ptr H.length 0 0))=aa (.a [.f (d[j]'(by omega))]):=by simp [aS,aE,m,aQ]
  have S:=u.get m;have p:=u.get E;refine aG ?_;apply ai;simp [s,O,i,n,-av];apply ai;simp [z,L,a,I,-av];obtain⟨y,v⟩:=aI (q++[bq.box [.f (d[j+1]'(by omega))] 0]:aj);have w:y[q.length]?=aa (.box [.f (d[j+1]'(by omega))] 0):=by rw [v];simp
  have l:Kp q y:=by rw [v];exact Kp.push _ _
  rw [←v];apply ak;apply ai;simp;refine bp (by simp) ?_;have o:aS y (aa 1) (.c (.ptr q.length 0 0))=aa (.a [.f (d[j+1]'(by omega))]):=by simp [aS,aE,w,aQ]
  have s2:de y (.ptr H.length 0 0) [.f (d[j+1]'(by omega))]=aa (y.set H.length (.box [.f (d[j+1]'(by omega))] 0)):=by simp [de,l.get S,over]
  refine al (.inl rfl) ?_;simp [z,o,s2,-av,-bf];refine aw (next _ _ ⟨by simp [N],by simp [s],by simp [z],by simp [B],((A.tr u).tr l).lP (by omega) _,fun _=>IN (an (l.get S)),?_⟩ (by simp [O]) (by simp [g]));rw [AI (by omega)];exact l.get p
 ·rintro t K ⟨N,s,z,B,A,m,E⟩ - -;have m:=m (by omega);have L:aS K (aa 1) (.c (.ptr H.length 0 0))=aa (.a [.f (d[cs.length]'(by omega))]):=by simp [aS,aE,m,aQ]
  have sn:de K (.ptr (H.length+1) 0 0) [.f (d[cs.length]'(by omega))]=aa (K.set (H.length+1) (.box [.f (d[cs.length]'(by omega))] 0)):=by simp [de,E,over]
  apply ai;simp [z,B,L,sn,-av,-bf];refine aB (Y _ _ _ rfl ?_ ⟨rfl,A.lP (by omega) _⟩);simp [Km.results,bg,B,an E,aQ]
end Go.Proofs.YtnaofdffomdmhaaGreat
namespace Go.Proofs.YtnaofdffomdmhaaGreat
open Go Km
theorem Bc(mi le:Int):bh tab 278 [.a (ei.map .f),vi mi,vi le]=Eq (.c (.f (.fn 340 [.fp ei 0,.fp [fi mi] 0,.fp [fi le] 0]))):=bh.eq (by
 refine bV rfl rfl fun Q b=>?_;apply ai;simp [ei];apply ai;simp;refine aB (b _ _ ?_);simp [deep,ei])
theorem Bb{bb:Nat}{H:aj}(mi le:Int)(S:0≤mi)(c:mi≤1440)(Y:0≤le)(Z:le≤20000)(P:aj→Prop)
  (F:¬ mi+le≤1440→∀ K,Kp H K→P K) (W:mi+le≤1440→∀ K,Kp H K→∃ A,Ev tab (.yield bb) [.a [.f S1,.f (fi 0),.f (fi 1440)]] K (vb ae) A∧P A) :
  ∃ r H',Ev tab (.fn 340) [.c (.yl bb),.c (.f (.fp ei 0)),.c (.f (.fp [fi mi] 0)),.c (.f (.fp [fi le] 0))] H r H'∧(r=.t []∧P H'):=by
 refine cJ rfl rfl fun Q U=>?_;have s:∀ K:aj,bt K (.f mj)=aa 1:=fun K=>rfl;have lo:∀ K:aj,aS K ab (.c (.f (.fp ei 8)))=aa (.c (.f mj)):=fun K=>rfl;have v:∀ K:aj,aS K ab (.c (.f (.fp [fi mi] 0)))=aa (vi mi):=fun K=>rfl;have u:∀ K:aj,aS K ab (.c (.f (.fp [fi le] 0)))=aa (vi le):=fun K=>rfl;apply ai;simp [lo,s];refine bW 1 (fun j t K=>t.g 0=.c (.yl bb)∧t.g 2=.c (.f (.fp [fi mi] 0))∧t.g 3=.c (.f (.fp [fi le] 0))∧t.g 8=.c (.f mj)∧(j=0→Kp H K)∧(j=1→P K)) (by omega) (by decide) (by decide) (by simp) (by simp) ⟨by simp,by simp,by simp,by simp,fun _=>⟨aft _,fun _ _=>rfl⟩,by omega⟩ ?_ ?_
 ·rintro j t K a ⟨g0,l,m,x,B,-⟩ y J next
  obtain rfl:j=0:=by omega
  have B:=B rfl;have L:bA K 3 ab (.c (.f mj)) (vi ((0:Nat):Int))=aa (.c (.f (.fp [S1,fi 0,fi 1440] 0))):=rfl;have X:aS K (aa 3) (.c (.f (.fp [S1,fi 0,fi 1440] 0)))=aa (.a [.f S1,.f (fi 0),.f (fi 1440)]):=rfl;refine aG ?_;apply ai;simp only [Int.ofNat_zero,Int.natCast_zero]at L y;simp [x,y,L,X];obtain⟨g,b⟩:=aI (K++[bq.box [.f S1,.f (fi 0),.f (fi 1440)] 0]:aj);have I:g[K.length]?=aa (.box [.f S1,.f (fi 0),.f (fi 1440)] 0):=by rw [b];simp
  have q:Kp H g:=B.tr (by rw [b];exact Kp.push _ _);rw [←b];have M:aS g ab (.c (.ptr K.length 1 0))=aa (vi 0):=by simp [aS,aE,I]
  have N:aS g ab (.c (.ptr K.length 2 0))=aa (vi 1440):=by simp [aS,aE,I]
  have O:aS g (aa 3) (.c (.ptr K.length 0 0))=aa (.a [.f S1,.f (fi 0),.f (fi 1440)]):=by simp [aS,aE,I,aQ]
  apply ak;refine al (.inl rfl) ?_;by_cases z:mi+le≤1440
  ·obtain⟨A,d,E⟩:=W z g q;have d:=d.eq;simp [g0,l,m,M,N,O,v,u,S,aU (n:=mi+le),z,d,-av];exact aD (by simp) (aO (aw (next _ _ ⟨by simp [g0],by simp [l],by simp [m],by simp [x],by omega,fun _=>E⟩ (by simp [y]) (by simp [J]))))
  ·simp [g0,l,m,M,N,O,v,u,S,aU (n:=mi+le),z,-av];exact aD (by simp) (aO (aw (next _ _ ⟨by simp [g0],by simp [l],by simp [m],by simp [x],by omega,fun _=>F z _ q⟩ (by simp [y]) (by simp [J]))))
 ·rintro t K ⟨g0,l,m,x,-,E⟩ - -;exact cL (U _ _ _ rfl rfl ⟨rfl,E rfl⟩)
end Go.Proofs.YtnaofdffomdmhaaGreat
namespace Go.Proofs.YtnaofdffomdmhaaGreat
open Go Km
theorem zr{tab:TB}{fn i:Nat}{u:Option Nat}{k:List dg}{ds:List dU}{Q:Option aF→St→Prop}{a b c x:Nat}{body:aF}{t:T}{H:aj}(N:Nat)(I:Nat→T→List dU→aj→Prop)(K:N≤9223372036854775807)(A:a≠b)(E:x≠b)
  (l:t.g a=vi 0) (m:t.g b=vi N) (h0:I 0 t ds H)
  (step:∀ j t ds H,j<N→I j t ds H→t.g a=vi j→t.g b=vi N →
   (∀ v d H',I (j+1) ((v.s x (vi (j+1:Nat))).s a (vi (j+1:Nat))) d H'→v.g a=vi j→v.g b=vi N →
    WP tab fn u (.code (sU a x)::.inLoop (iN i a b c x body)::.inBlock i::k) ⟨v,d,H'⟩ Q) →
   WP tab fn u (.code body::.code (sU a x)::.inLoop (iN i a b c x body)::.inBlock i::k) ⟨t.s c (vb ae),ds,H⟩ Q)
  (done:∀ t ds H,I N t ds H→t.g a=vi N→t.g b=vi N→WP tab fn u k ⟨t.s c (vb ag),ds,H⟩ Q) :
  WP tab fn u (.code (zi i a b c x body)::k) ⟨t,ds,H⟩ Q:=by
 have q:∀ ops:List aP,ops.all (·.op.ea)=ae→u=ab∨ops.all (·.op.ea)=ae:=fun _ h=>.inr h;refine aG ?_;refine cP (fun n s=>∃ j t ds H,s=⟨t,ds,H⟩∧j≤N∧n=N-j∧I j t ds H∧t.g a=vi j∧t.g b=vi N) N ⟨0,t,ds,H,rfl,by omega,by omega,h0,l,m⟩ ?_;rintro n s ⟨j,t,ds,H,rfl,L,rfl,F,l,m⟩ J;apply ak;refine al (q _ rfl) ?_;simp [l,m];by_cases g:j<N
 ·rw [decide_eq_true g];apply ak;refine aq (by simp) ?_;refine aO ?_;apply ak;refine step j t ds H g F l m fun v d H' y z B=>?_;refine al (q _ rfl) ?_;simp [z];rw [aU];refine J (N-(j+1)) _ (by omega) ⟨j+1,_,d,H',rfl,by omega,rfl,by simpa using y,by simp,?_⟩;simp [A,E,B]
 ·have:j=N:=by omega
  subst this;rw [decide_eq_false g];apply ak;refine aD (by simp) ?_;refine bR (k':=k) (by simp [Km.exitTo]) ?_;exact done t ds H F l m
def dF(mi le:Int):FC:=if mi+le≤1440 then E1 else .au
theorem ahc{k:Nat}(hk:k<60)(le:Int)(l0:1≤le)(l1:le≤10080):bh tab 209 [.a (ei.map .f),vi (20*k:Nat),vi le]=Eq (.t [.a [.f (dF (20*k:Nat) le)],vi 0]):=by
 obtain⟨v,rfl,hp⟩:∃ v,v=.t [.a [.f (dF (20*k:Nat) le)],vi 0]∧bh tab 209 [.a (ei.map .f),vi (20*k:Nat),vi le] v:=by
  refine BX aoy rfl fun Q hQ=>?_;obtain⟨m,hm⟩:=aI (20*k:Nat);have f8:=ab8 hk;have f_:=ai2 hk;rw [←hm]at f8 f_ ⊢;have z8:m≤1180:=by omega
  have i4:=fX.2.2.2.2.2.2.2.2;have a8:=fX.2.2.2.2.2.2.2.1;have l_:=fX.2.2.1;have k_:=fX.2.2.2.1;have j9:=fX.2.2.2.2.1;have j_:=fX.2.2.2.2.2.1;have i_:=fX.2.2.2.2.2.2.1;have u6:=Bc m le;change bh tab 190 [.a (ei.map .f)]=Eq (vi 0)at i4;change bh tab 276 _=_ at f8;change bh tab 282 [.a (List.map C.f [fi 0,.fs [fi 3] 1,fi (-1),.au,fi 0,.au,fi 0,.au]),vi (m:Int)]=_ at f_;simp only [asq,asA]at f_;have la:∀ K:aj,K[0]?=aa (.box (ei.map .f) 0)→aS K (aa 10) (.c (.ptr 0 0 0))=aa (.a (ei.map .f))∧aS K (aa 8) (.c (.ptr 0 0 0))=aa (.a (List.map C.f [fi 0,.fs [fi 3] 1,fi (-1),.au,fi 0,.au,fi 0,.au])):=fun K h=>by refine⟨?_,?_⟩<;>simp [aS,aE,h,ei,aQ]
  apply ai;simp;obtain⟨H0,S⟩:=aI ([.box (ei.map .f) 0,.box [.f .au] 0,.box [.f (fi 0)] 0]:aj);rw [←S];have j6:H0.length=3:=by rw [S];rfl
  have z0:H0[0]?=aa (.box (ei.map .f) 0):=by rw [S];rfl
  have z1:H0[1]?=aa (.box [.f .au] 0):=by rw [S];rfl
  have z2:H0[2]?=aa (.box [.f (fi 0)] 0):=by rw [S];rfl
  apply ak;apply ai;simp [(la _ z0).1,i4,-av,show¬ (m:Int) < -4320 by omega,show¬ (4320:Int)<m by omega,show¬ le<1 by omega,show¬ 10080<le by omega];refine bp (by simp) ?_;apply ai;simp [f8];obtain⟨H2,c_⟩:=aI (H0++[bq.box [.f (fi 0)] 0]:aj);have n2:H2.length=4:=by rw [c_];simp [j6]
  have k2:Kp H0 H2:=by rw [c_];exact Kp.push _ _
  rw [←c_];have w3:H2[3]?=aa (.box [.f (fi 0)] 0):=by rw [c_];simp [←j6]
  apply ai;simp [(la _ (k2.get z0)).2,f_,-av,j6,n2];obtain⟨H3,d9⟩:=aI (H2++[bq.box [.f (fi 0)] 0]:aj);have n3:H3.length=5:=by rw [d9];simp [n2]
  have k3:Kp H2 H3:=by rw [d9];exact Kp.push _ _
  have w4:H3[4]?=aa (.box [.f (fi 0)] 0):=by rw [d9];simp [←n2]
  rw [←d9];have m_:∀ K:aj,K[4]?=aa (.box [.f (fi 0)] 0)→aS K ab (.c (.ptr 4 0 0))=aa (vi 0):=fun K h=>by simp [aS,aE,h]
  apply ak;apply ai;simp [m_ _ w4,-av];refine bp (by simp) ?_;apply ai;simp [n3];apply ai;obtain⟨H4,U⟩:=aI (H3++[bq.box [.f .au] 0,bq.box [.cl 283 [.ptr 5 0 0]] 0]:aj);have n4:H4.length=7:=by rw [U];simp [n3]
  have k4:Kp H3 H4:=by rw [U];exact Kp.push _ _
  have w5:H4[5]?=aa (.box [.f .au] 0):=by rw [U];simp [←n3]
  have w6:H4[6]?=aa (.box [.cl 283 [.ptr 5 0 0]] 0):=by rw [U,IS (by omega),n3];rfl
  simp [n3,lY];rw [←U];have v8:∀ K:aj,bt K (.f (.fs [fi 0,.es,fi 0,fi 1,.fs [fi 0] 1] 1))=aa 1:=fun K=>rfl;apply ak;apply ai;simp [v8];have j5:Kp H0 H4:=(k2.tr k3).tr k4;have u0:=j5.get z0;have u1:=j5.get z1;have u2:=j5.get z2;have u3:=(k3.tr k4).get w3;have u4:=k4.get w4;refine zr 1 (fun j t ds K=>t.g 1=vi m∧t.g 2=vi le∧t.g 3=.c (.ptr 0 0 0)∧t.g 6=.c (.ptr 1 0 0)∧t.g 7=.c (.ptr 2 0 0)∧t.g 8=.c (.ptr 3 0 0)∧t.g 9=vi m∧t.g 11=.c (.ptr 4 0 0)∧t.g 12=.c (.ptr 5 0 0)∧t.g 13=.c (.ptr 6 0 0)∧t.g 59=.c (.f (.fs [fi 0,.es,fi 0,fi 1,.fs [fi 0] 1] 1))∧(j=0→ds=[]∧K=H4)∧(j=1→ds=[.gM 9]∧K[9]?=aa (.fj ae)∧(∀ i:Nat,i<7→i≠5→K[i]?=H4[i]?)∧K[5]?=aa (.box [.f (dF m le)] 0))) (by omega) (by decide) (by decide) (by simp) (by simp)
   ⟨by simp,by simp,by simp,by simp,by simp,by simp,by simp,by simp,by simp,by simp,by simp,fun _=>⟨rfl,rfl⟩,by omega⟩ ?_ ?_
  ·rintro j t ds K hj ⟨g1,g2,g3,g6,g7,g8,g9,s,z,x,A,I,-⟩ ha hb next
   obtain rfl:j=0:=by omega
   obtain⟨rfl,rfl⟩:=I rfl;have ix:bA K 5 ab (.c (.f (.fs [fi 0,.es,fi 0,fi 1,.fs [fi 0] 1] 1))) (vi 0)=aa (.c (.f (.fp [fi 0,.es,fi 0,fi 1,.fs [fi 0] 1] 0))):=rfl;have ld:aS K (aa 5) (.c (.f (.fp [fi 0,.es,fi 0,fi 1,.fs [fi 0] 1] 0)))=aa (.a [.f (fi 0),.f .es,.f (fi 0),.f (fi 1),.f (.fs [fi 0] 1)]):=rfl;have i7:t.g 61=vi 0:=ha;refine aG ?_;apply ai;simp [A,i7,ix,ld,n4];obtain⟨H5,d_⟩:=aI (K++[bq.box [.f (fi 0),.f .es,.f (fi 0),.f (fi 1),.f (.fs [fi 0] 1)] 0]:aj);have n5:H5.length=8:=by rw [d_];simp [n4]
   have k5:Kp K H5:=by rw [d_];exact Kp.push _ _
   have w7:H5[7]?=aa (.box [.f (fi 0),.f .es,.f (fi 0),.f (fi 1),.f (.fs [fi 0] 1)] 0):=by rw [d_];simp [←n4]
   rw [←d_];have l7:aS H5 ab (.c (.ptr 7 0 0))=aa (vi 0):=by simp [aS,aE,w7]
   apply ai;simp [g9,l7,-av,aU (n:=(m:Int)),f8,n5];obtain⟨J,e_⟩:=aI (H5++[bq.box [.f (fi 0)] 0]:aj);have n6:J.length=9:=by rw [e_];simp [n5]
   have k6:Kp H5 J:=by rw [e_];exact Kp.push _ _
   have w8:J[8]?=aa (.box [.f (fi 0)] 0):=by rw [e_];simp [←n5]
   rw [←e_];have m9:=k5.tr k6;apply ai;simp [g2,g3,(la _ (m9.get u0)).1,u6,-av];refine aG ?_
   suffices go:∀ u:T,u.g 1=vi m→u.g 2=vi le→u.g 3=.c (.ptr 0 0 0)→u.g 6=.c (.ptr 1 0 0)→u.g 7=.c (.ptr 2 0 0)→u.g 8=.c (.ptr 3 0 0)→u.g 9=vi m→u.g 11=.c (.ptr 4 0 0)→u.g 12=.c (.ptr 5 0 0)→u.g 13=.c (.ptr 6 0 0)→u.g 59=.c (.f (.fs [fi 0,.es,fi 0,fi 1,.fs [fi 0] 1] 1))→u.g 61=vi 0→u.g 60=vi 1→u.g 15=.c (.ptr 7 0 0)→u.g 16=.c (.ptr 8 0 0)→u.g 76=.c (.f (.fn 340 [.fp ei 0,.fp [fi m] 0,.fp [fi le] 0])) →
     WP tab 209 ab [.code AG,.inBlock 2,.inBlock 1,.code (sU 61 98),.inLoop (iN 0 61 60 62 98 AF),.inBlock 0,.code AH] ⟨u,[],J⟩ Q by
    exact go _ (by simp [g1]) (by simp [g2]) (by simp [g3]) (by simp [g6]) (by simp [g7]) (by simp [g8]) (by simp [g9]) (by simp [s]) (by simp [z]) (by simp [x]) (by simp [A]) (by simp [i7]) (by simpa using hb) (by simp) (by simp) (by simp)
   clear g1 g2 g3 g6 g7 g8 g9 s z x A ha hb i7 I;intro u g1 g2 g3 g6 g7 g8 g9 s z x A t7 s_ r_ s8 t8;obtain⟨LP,f7⟩:∃ LP:eL→Option aF→bq,LP=fun st pd=>.lp 209 u [P.nat 77] iv iw st pd 9:=⟨_,rfl⟩
   obtain⟨W,hW⟩:=aI (J++[.fj ae,LP .ready ab]);have nW:W.length=11:=by rw [hW,api,n6];rfl
   have kW:Kp J W:=by rw [hW];exact Kp.push _ _
   have q9:W[9]?=aa (.fj ae):=by rw [hW,IS (by omega),n6];rfl
   have j7:W[10]?=aa (LP .ready ab):=by rw [hW,IS (by omega),n6];rfl
   have F:=m9.tr kW;have p0:=F.get u0;have p3:=F.get u3;have p4:=F.get u4;have p5:=F.get w5;have p6:=F.get w6;have p7:=(k6.tr kW).get w7;have p8:=kW.get w8;obtain⟨PP,i6⟩:∃ PP:aj→Prop,PP=fun K=>11≤K.length∧(∀ i:Nat,i<11→i≠5→K[i]?=W[i]?)∧K[5]?=aa (.box [.f (dF m le)] 0):=⟨_,rfl⟩
   obtain⟨r,H7,he,rfl,hP⟩:=Bb (bb:=10) (H:=W) m le (by omega) (by omega) (by omega) (by omega) PP
    (fun v9 K I=>by
     rw [i6];refine⟨by have:=I.1;omega,fun i hi _=>I.2 i (by omega),?_⟩;rw [I.get p5,dF,aX v9])
    (fun hf K I=>by
     have g_:=I.get j7;rw [f7]at g_;obtain⟨r,K',u_,rfl,hP⟩:∃ r K',Ev tab (.yield 10) [.a [.f S1,.f (fi 0),.f (fi 1440)]] K r K'∧(r=vb ae∧PP K'):=by
      refine gj (tab:=tab) (b:=10) (args:=[.a [.f S1,.f (fi 0),.f (fi 1440)]]) (H:=K) g_ rfl fun Q' t9=>?_;obtain⟨b_,Y⟩:=aI (K.length);have y_:=I.1;refine al (.inr rfl) ?_;simp;rw [←Y];obtain⟨K1,q⟩:=aI (K++[bq.box [.f S1,.f (fi 0),.f (fi 1440)] 0]);rw [←q];have E:Kp K K1:=by rw [q];exact Kp.push _ _
      have o_:K1[b_]?=aa (.box [.f S1,.f (fi 0),.f (fi 1440)] 0):=by rw [q,Y];simp
      refine mZ (E.get g_) ?_;obtain⟨d,X⟩:=aI (K1.set 10 (.lp 209 u [P.nat 77] iv iw .busy ab 9));rw [←X];have e2:∀ i:Nat,i<W.length→i≠10→d[i]?=W[i]?:=fun i hi i9=>by rw [X,AI (Ne.symm i9),E.2 i (by omega),I.2 i hi]
      have p_:d[10]?=aa (.lp 209 u [P.nat 77] iv iw .busy ab 9):=by rw [X];exact IN (an (E.get g_))
      have q_:d[b_]?=aa (.box [.f S1,.f (fi 0),.f (fi 1440)] 0):=by rw [X,AI (by omega)];exact o_
      have z_:d.length=b_+1:=by rw [X,ass,q,Y];simp
      have v:∀ {i:Nat} {y:bq},W[i]?=aa y→i≠10→d[i]?=aa y:=fun h i9=>by rw [e2 _ (an h) i9];exact h
      have x_:aS d (aa 1) (.c (.ptr b_ 0 0))=aa (.a [.f S1]):=by simp [aS,aE,q_,aQ]
      have x9:aS d ab (.c (.ptr 8 0 0))=aa (vi 0):=by simp [aS,aE,v p8 (by omega)]
      have r8:aS d ab (.c (.ptr 3 0 0))=aa (vi 0):=by simp [aS,aE,v p3 (by omega)]
      have x8:aS d ab (.c (.ptr 6 0 0))=aa (.c (.cl 283 [.ptr 5 0 0])):=by simp [aS,aE,v p6 (by omega)]
      have b9:unV .neg (vi 0)=aa (vi 0):=rfl;have t_:=aoE;obtain⟨cs,Z⟩:=aI ([.cl 286 [.ptr 0 0 0],.f (.fn 354 [.fp [fi 0] 0]),.cl 289 [.ptr 7 0 0],.f (.fn 354 [.fp [fi 0] 0]),.cl 283 [.ptr 5 0 0]]:List C);obtain⟨K3,i5⟩:=aI (d++[bq.box cs 0]);have m4:Kp d K3:=by rw [i5];exact Kp.push _ _
      have c3:K3[d.length]?=aa (.box cs 0):=by rw [i5];simp
      obtain⟨r,K4,l,rfl,x6⟩:=A6 (H:=K3) (b:=d.length) cs [S1,S1,S1,E1,E1,E1] (by rw [Z];rfl) (by rw [Z];decide) c3 (fun j hj L hL=>by
       have kL:=m4.tr hL;subst Z
       match j,hj with
       | 0,_=>obtain⟨r,M,N,O⟩:=aoN (kL.get (v p0 (by omega)));exact⟨.fn 286,_,r,M,rfl,N,O⟩
       | 1,_=>obtain⟨r,M,N,O⟩:=aji (H:=L) l_;exact⟨.fn 354,_,r,M,rfl,N,O⟩
       | 2,_=>obtain⟨r,M,N,O⟩:=aoO (kL.get (v p7 (by omega)));exact⟨.fn 289,_,r,M,rfl,N,O⟩
       | 3,_=>obtain⟨r,M,N,O⟩:=aji (H:=L) k_;exact⟨.fn 354,_,r,M,rfl,N,O⟩
       | 4,_=>obtain⟨r,M,N,O⟩:=ajk (kL.get (v p5 (by omega))) j9;exact⟨.fn 283,_,r,M,rfl,N,O⟩)
      have l:Ev tab (.fn 285) [.a [.f S1],.c (.sl d.length 0 5 5 0 1)] K3 (.t [.a [.f E1],vi 0]) K4:=by
       subst Z;exact l
      have l:=l.eq;have a_:=m4.tr x6;have x5:=a_.get (v p5 (by omega));have x4:=a_.get (v p4 (by omega));obtain⟨K5,B⟩:=aI (K4.set 5 (.box [.f E1] 0));have y7:de K4 (.ptr 5 0 0) [.f E1]=aa K5:=by rw [B];simp [de,x5,over]
      have j8:K5[4]?=aa (.box [.f (fi 0)] 0):=by rw [B,AI (by omega)];exact x4
      have y6:de K5 (.ptr 4 0 0) [.f (fi 0)]=aa K5:=by
       simp [de,j8,over];obtain⟨i8,e⟩:=BY.1 j8;rw [←e];exact att i8
      have n8:K5[10]?=aa (.lp 209 u [P.nat 77] iv iw .busy ab 9):=by rw [B,AI (by omega)];exact a_.get p_
      refine aG ?_;refine ak (al (.inr rfl) ?_);simp [g3,r_,s8,g8,x,x_,x9,r8,x8,b9,t_,lY,-av];rw [←Z,←i5];simp [z,s,l,y7,y6,-bf];refine ak (al (.inr rfl) ?_);simp [s,m_ _ j8,-av];refine aD (by simp) (aO (aw (cL (t9 _ _ _ _ _ _ _ _ _ _ rfl n8 ⟨rfl,?_⟩))));rw [i6];have z9:=a_.1;refine⟨?_,fun i hi h5=>?_,?_⟩
      ·rw [ass,B,ass];omega
      ·by_cases e:i=10
       ·subst e;rw [IN (an n8),j7,f7];rfl
       ·rw [AI (Ne.symm e),B,AI (Ne.symm h5),a_.2 i (by omega),e2 i (by omega) e]
      ·rw [AI (by omega),B,IN (an x5),dF,ba hf]
     exact⟨K',u_,hP⟩)
   rw [i6]at hP;obtain⟨nP,eP,vP⟩:=hP;have u5:Ev tab (.fn 340) [.c (.yl (J.length+1)),.c (.f (.fp ei 0)),.c (.f (.fp [fi m] 0)),.c (.f (.fp [fi le] 0))] (J++[.fj ae,.lp 209 u [P.nat 77] iv iw .ready ab J.length]) (.t []) H7:=by
    have e:J++[.fj ae,.lp 209 u [P.nat 77] iv iw .ready ab J.length]=W:=by rw [hW,f7,n6]
    rw [e,n6];exact he
   refine ji (g:=340) (by rw [CV,t8];simp [b5]) u5 ?_;rw [n6];have y8:H7[10]?=aa (.lp 209 u [P.nat 77] iv iw .ready ab 9):=by rw [eP 10 (by omega) (by omega),j7,f7]
   refine kv y8 (by decide) ?_;refine aw (aw (next _ _ _ ⟨by simp [g1],by simp [g2],by simp [g3],by simp [g6],by simp [g7],by simp [g8],by simp [g9],by simp [s],by simp [z],by simp [x],by simp [A],by omega,fun _=>⟨rfl,?_,fun i hi h5=>?_,?_⟩⟩ (by simpa using t7) (by simpa using s_)))
   ·rw [AI (by omega),eP 9 (by omega) (by omega)];exact q9
   ·rw [AI (by omega),eP i (by omega) h5,F.2 i (by omega)]
   ·rw [AI (by omega)];exact vP
  ·rintro t ds K ⟨g1,g2,g3,g6,g7,g8,g9,s,z,x,A,-,I⟩ - -;obtain⟨rfl,q9,eK,v5⟩:=I rfl;have p1:K[1]?=aa (.box [.f .au] 0):=by rw [eK 1 (by omega) (by omega)];exact u1
   have p2:K[2]?=aa (.box [.f (fi 0)] 0):=by rw [eK 2 (by omega) (by omega)];exact u2
   have p3:K[3]?=aa (.box [.f (fi 0)] 0):=by rw [eK 3 (by omega) (by omega)];exact u3
   have p6:K[6]?=aa (.box [.cl 283 [.ptr 5 0 0]] 0):=by rw [eK 6 (by omega) (by omega)];exact w6
   have l3:aS K ab (.c (.ptr 3 0 0))=aa (vi 0):=by simp [aS,aE,p3]
   have l6:aS K ab (.c (.ptr 6 0 0))=aa (.c (.cl 283 [.ptr 5 0 0])):=by simp [aS,aE,p6]
   have b9:unV .neg (vi 0)=aa (vi 0):=rfl;apply ai;simp;apply ak;apply ai;simp [g8,l3,b9,-av];refine aG (iB ?_);apply ai;simp;refine ak (aD (by simp) ?_);refine bR (k':=[.code AJ]) rfl ?_;obtain⟨K1,q⟩:=aI (K++[bq.box [.cl 283 [.ptr 5 0 0]] 0]:aj);have E:Kp K K1:=by rw [q];exact Kp.push _ _
   have c1:K1[K.length]?=aa (.box [.cl 283 [.ptr 5 0 0]] 0):=by rw [q];simp
   have v_:bh tab 284 [.a [.f (dF m le)],.a [.f .au]]=Eq (.t [.a [.f (dF m le)],vi 0]):=by
    unfold dF;split
    ·exact j_
    ·exact i_
   obtain⟨r,d,l,rfl,w_⟩:=A6 (H:=K1) (b:=K.length) [.cl 283 [.ptr 5 0 0]] [.au,dF m le] rfl (by decide) c1 (fun j hj L hL=>by
    match j,hj with
    | 0,_=>obtain⟨r,M,N,O⟩:=ajk ((E.tr hL).get v5) v_;exact⟨.fn 283,_,r,M,rfl,N,O⟩)
   have l:Ev tab (.fn 285) [.a [.f .au],.c (.sl K.length 0 1 1 0 1)] K1 (.t [.a [.f (dF m le)],vi 0]) d:=l;have l:=l.eq;have j4:=E.tr w_;have y1:=j4.get p1;have y2:=j4.get p2;have y9:=j4.get q9;have s1:de d (.ptr 1 0 0) [.f (dF m le)]=aa (d.set 1 (.box [.f (dF m le)] 0)):=by simp [de,y1,over]
   have h_:(d.set 1 (.box [.f (dF m le)] 0))[2]?=aa (.box [.f (fi 0)] 0):=by rw [AI (by omega)];exact y2
   have s2:de (d.set 1 (.box [.f (dF m le)] 0)) (.ptr 2 0 0) [.f (fi 0)]=aa (d.set 1 (.box [.f (dF m le)] 0)):=by
    simp [de,h_,over];obtain⟨i8,e⟩:=BY.1 h_;rw [←e];exact att i8
   have n9:(d.set 1 (.box [.f (dF m le)] 0))[1]?=aa (.box [.f (dF m le)] 0):=IN (an y1);have n_:(d.set 1 (.box [.f (dF m le)] 0))[9]?=aa (.fj ae):=by rw [AI (by omega)];exact y9
   simp only [om]at a8;change bh tab 287 _=_ at a8;apply ai;simp [x,l6,a8,←q,l,g6,g7,s1,s2,-av,-bf];generalize d.set 1 (.box [.f (dF m le)] 0)=K3 at n9 h_ n_ ⊢;have a1:(K3.set 9 (.fj ag))[1]?=aa (.box [.f (dF m le)] 0):=by rw [AI (by omega)];exact n9
   have a2:(K3.set 9 (.fj ag))[2]?=aa (.box [.f (fi 0)] 0):=by rw [AI (by omega)];exact h_
   refine aB (hQ _ _ _ rfl (.inr ⟨9,rfl,n_,.t [.a [.f (dF m le)],vi 0],?_,by simp [iV,cK,bg];rw [show(m:Int)=20*(k:Int) by omega]⟩));simp [Km.results,bg,g6,g7,a1,a2,aQ]
 exact hp.eq
end Go.Proofs.YtnaofdffomdmhaaGreat
namespace Go.Proofs.YtnaofdffomdmhaaGreat
open Go Km
theorem uu{m r t z n p mi le:Int}(h:zW n p)(s:0≤mi)(u:mi≤1180)(b:1≤le)(d:le≤10080):en (sV m r t z n p mi le).st=ae:=by
 obtain⟨g,j,l,q⟩:=h;show en ⟨.fs,[⟨.fs,[⟨.fs,[⟨.nil,[],0,n,.fs,[p]⟩]⟩],mi⟩],le,.nil,[]⟩=ae;simp [en,eT,iK,nw,jQ,gv,eO,bO];omega
theorem Dg(m r t z n p mi le:Int):(sV m r t z n p mi le).st.Sm:=by
 simp [aT.Sm,sV,dP.Sm,bT.Sm]
def vm(n p:Int):FC:=.fs [.fs [.au,fi 0,fi n,.fs [fi p] 1] 1] 1
def sW(n p mi le:Int):List FC:=[.fs [vm n p,fi mi] 1,fi le,.au]
theorem aiX(m r t z n p mi le:Int):(sV m r t z n p mi le).st.row=sW n p mi le:=rfl
theorem D3{H:aj}{a b:Nat}(l:a≠b)(x:aM)(z:H[a]?=aa (.box [.f (fi 0),.f (fi 0),.f (fi 0)] 0))(A:H[b]?=aa (.box [.f (.bool ag)] 0)) :
  ∃ r H',Ev tab (.fn 208) [.a (x.row.map .f),.c (.ptr a 0 0),.c (.ptr b 0 0)] H r H'∧(r=.t []∧H.length≤H'.length∧(∀ i:Nat,i<H.length→i≠a→i≠b→H'[i]?=H[i]?)∧H'[a]?=aa (.box (x.row.map .f) 0)∧H'[b]?=aa (.box [.f (.bool ae)] 0)):=by
 refine cJ rfl rfl fun Q X=>?_;have N:=yh .fs [ef x.fr 0,ef x.day 0,ef x.to 0] (by simp);simp [ints,sl,Tg.fc]at N;have la:=an z;have lb:=an A;apply ai;simp [aM.row];obtain⟨K,y⟩:=aI (H++[bq.box [.f (fi x.day),.f (fi x.fr),.f (fi x.to)] 0]:aj);have B:Kp H K:=by rw [y];exact Kp.push _ _
 have u:K[H.length]?=aa (.box [.f (fi x.day),.f (fi x.fr),.f (fi x.to)] 0):=by rw [y];simp
 have F:=B.get z;have qb:=B.get A;rw [←y];have x0:aS K ab (.c (.ptr H.length 0 0))=aa (vi x.day):=by simp [aS,aE,u]
 have x1:aS K ab (.c (.ptr H.length 1 0))=aa (vi x.fr):=by simp [aS,aE,u]
 have x2:aS K ab (.c (.ptr H.length 2 0))=aa (vi x.to):=by simp [aS,aE,u]
 have v:∀ j:Nat,j<3→aS K ab (.c (.ptr a j 0))=aa (vi 0):=fun j Z=>by
  match j,Z with
  | 0,_=>simp [aS,aE,F]| 1,_=>simp [aS,aE,F]| 2,_=>simp [aS,aE,F]
 apply ai;simp [x0,x1,x2,v 0 (by decide),v 1 (by decide),v 2 (by decide),ga,deep,lJ,pF,N,-av];obtain⟨d,g⟩:=aI (K++[bq.box [.f (fi (ef x.fr 0)),.f (fi (ef x.day 0)),.f (fi (ef x.to 0))] 3]:aj);have m:Kp K d:=by rw [g];exact Kp.push _ _
 rw [←g];have s:=B.tr m;have ra:=s.get z;have I:=s.get A;have J:=m.get u;have b0:aS d ab (.c (.ptr b 0 0))=aa (vb ag):=by simp [aS,aE,I]
 have E:∀ L:aj,L[H.length]?=aa (.box [.f (fi x.day),.f (fi x.fr),.f (fi x.to)] 0)→aS L (aa 3) (.c (.ptr H.length 0 0))=aa (.a [.f (fi x.day),.f (fi x.fr),.f (fi x.to)]):=fun L h=>by simp [aS,aE,h,aQ]
 apply ai;simp [b0,-av];refine aq (by simp) ?_;have S:de d (.ptr b 0 0) [.f (.bool ae)]=aa (d.set b (.box [.f (.bool ae)] 0)):=by simp [de,I,over]
 have q:(d.set b (.box [.f (.bool ae)] 0))[a]?=aa (.box [.f (fi 0),.f (fi 0),.f (fi 0)] 0):=by rw [AI (Ne.symm l)];exact ra
 have O:de (d.set b (.box [.f (.bool ae)] 0)) (.ptr a 0 0) [.f (fi x.day),.f (fi x.fr),.f (fi x.to)]=aa ((d.set b (.box [.f (.bool ae)] 0)).set a (.box [.f (fi x.day),.f (fi x.fr),.f (fi x.to)] 0)):=by simp [de,q,over]
 have M:(d.set b (.box [.f (.bool ae)] 0))[H.length]?=aa (.box [.f (fi x.day),.f (fi x.fr),.f (fi x.to)] 0):=by rw [AI (by omega)];exact J
 refine gb (.inl rfl) ?_ ?_
 case _=>
  simp [E d J,S,O,-av,-bf];refine cL (X _ _ _ rfl rfl ⟨rfl,by simp;exact s.1,fun i hi U W=>?_,IN (an q),?_⟩)
  ·rw [AI (Ne.symm U),AI (Ne.symm W)];exact s.2 i hi
  ·rw [AI l];exact IN (an I)
 ·intro c Y;rw [asj.1 Y];refine⟨by decide,_,rfl,.inl ⟨by decide,?_⟩⟩;simp [E d J,E _ M,S,O,gQ,V.beq,jl,C.beq,FC.beq,-av,-bf]
def iL(n p mi le:Int):aM:=if mi+le≤1440 then⟨0,0,0⟩else⟨p,p*1440+mi,p*1440+mi+le⟩
theorem aaE{n p:Int}(W:zW n p){k:Nat}(hk:k<60)(le:Int)(e0:1≤le)(e1:le≤10080) :
  bh tab 136 [.a (ei.map .f),.a ((sW n p (20*k:Nat) le).map .f)]=Eq (.t [vb (decide ((20*k:Nat)+le≤1440)),.a ((iL n p (20*k:Nat) le).row.map .f),vi 0]):=bh.eq (by
 obtain⟨m,hm⟩:=aI (20*k:Nat);have hd:=ahc hk le e0 e1;have I:=yD _ (Dg 1 0 0 1 n p (20*k:Nat) le);rw [uu W (by omega) (by omega) e0 e1,aiX]at I;rw [←hm]at hd I ⊢;have h_:m≤1180:=by omega
 have f7:=W;obtain⟨b1,b2,b3,b4⟩:=f7;have A:=fX.2.2.2.2.2.2.2.2;change bh tab 190 [.a (ei.map .f)]=Eq (vi 0)at A;refine bV rfl rfl fun Q hQ=>?_;have b_:∀ K:aj,K[0]?=aa (.box (ei.map .f) 0)→aS K (aa 10) (.c (.ptr 0 0 0))=aa (.a (ei.map .f)):=fun K h=>by simp [aS,aE,h,ei,aQ]
 have X:∀ K:aj,K[1]?=aa (.box ((sW n p m le).map .f) 0)→aS K (aa 3) (.c (.ptr 1 0 0))=aa (.a ((sW n p m le).map .f))∧aS K ab (.c (.ptr 1 0 0))=aa (.c (.f (.fs [vm n p,fi m] 1)))∧aS K ab (.c (.ptr 1 1 0))=aa (vi le)∧aS K ab (.c (.ptr 1 2 0))=aa (.c (.f .au)):=fun K h=>by refine⟨?_,?_,?_,?_⟩<;>simp [aS,aE,h,sW,aQ]
 apply ai;simp;obtain⟨O,g⟩:=aI ([.box (ei.map .f) 0,.box ((sW n p m le).map .f) 0,.box [.f (fi 0),.f (fi 0),.f (fi 0)] 0]:aj);rw [←g];have n0:O.length=3:=by rw [g];rfl
 have z0:O[0]?=aa (.box (ei.map .f) 0):=by rw [g];rfl
 have N:O[1]?=aa (.box ((sW n p m le).map .f) 0):=by rw [g];rfl
 have z2:O[2]?=aa (.box [.f (fi 0),.f (fi 0),.f (fi 0)] 0):=by rw [g];rfl
 apply ak;apply ai;simp [b_ _ z0,A,(X _ N).1,I,-av];refine bp (by simp) ?_;obtain⟨Y,l⟩:=aI (O++[.box [.f (.bool ag)] 0,.box [.f (fi 0),.f (fi 0),.f (fi 0)] 0]:aj);have k1:Kp O Y:=by rw [l];exact Kp.push _ _
 have n1:Y.length=5:=by rw [l];simp [n0]
 have z3:Y[3]?=aa (.box [.f (.bool ag)] 0):=by rw [l];simp [←n0]
 have z4:Y[4]?=aa (.box [.f (fi 0),.f (fi 0),.f (fi 0)] 0):=by rw [l,IS (by omega),n0];rfl
 apply ai;simp [n0];apply ai;simp [n0];rw [←l];apply ai;simp [lY];apply ak;apply ai;have d_:∀ K:aj,bt K (.f (.fs [vm n p,fi m] 1))=aa 1:=fun K=>rfl;simp [(X _ (k1.get N)).2.1,d_,-av];obtain⟨ok,s⟩:=aI (decide ((m:Int)+le≤1440):Bool);refine bW 1 (fun j t K=>t.g 3=.c (.ptr 1 0 0)∧t.g 5=.c (.ptr 2 0 0)∧t.g 8=.c (.ptr 3 0 0)∧t.g 9=.c (.ptr 4 0 0)∧t.g 2=.c (.ptr 0 0 0)∧t.g 10=.c (.cl 208 [.ptr 4 0 0,.ptr 3 0 0])∧t.g 33=.c (.f (.fs [vm n p,fi m] 1))∧(j=0→K=Y∧t.g 7=vb ae)∧(j=1→t.g 7=vb ok∧K[1]?=aa (.box ((sW n p m le).map .f) 0)∧K[2]?=aa (.box [.f (fi 0),.f (fi 0),.f (fi 0)] 0)∧K[4]?=aa (.box ((iL n p m le).row.map .f) 0))) (by omega) (by decide) (by decide) (by simp) (by simp)
  ⟨by simp,by simp,by simp,by simp,by simp,by simp,by simp,fun _=>⟨rfl,by simp⟩,by omega⟩ ?_ ?_
 ·rintro j t K hj ⟨B,E,g8,U,g2,u,v,hK,-⟩ ha hb next
  obtain rfl:j=0:=by omega
  obtain⟨rfl,g7⟩:=hK rfl;have F:t.g 35=vi 0:=ha;have ix:bA K 2 ab (.c (.f (.fs [vm n p,fi m] 1))) (vi 0)=aa (.c (.f (.fp [vm n p,fi m] 0))):=rfl;have ld:aS K (aa 2) (.c (.f (.fp [vm n p,fi m] 0)))=aa (.a [.f (vm n p),.f (fi m)]):=rfl;refine aG ?_;apply ai;simp [v,F,ix,ld,n1];obtain⟨Z,x⟩:=aI (K++[.box [.f (vm n p),.f (fi m)] 0]:aj);have k2:Kp K Z:=by rw [x];exact Kp.push _ _
  have n2:Z.length=6:=by rw [x];simp [n1]
  have z5:Z[5]?=aa (.box [.f (vm n p),.f (fi m)] 0):=by rw [x];simp [←n1]
  have l5:∀ L:aj,L[5]?=aa (.box [.f (vm n p),.f (fi m)] 0)→aS L ab (.c (.ptr 5 1 0))=aa (vi m)∧aS L (aa 1) (.c (.ptr 5 0 0))=aa (.a [.f (vm n p)]):=fun L h=>by refine⟨?_,?_⟩<;>simp [aS,aE,h,aQ]
  rw [←x];have M:=k1.tr k2;apply ai;simp [g2,B,b_ _ (M.get z0),(l5 _ z5).1,(X _ (M.get N)).2.2.1,hd,n2,-av];obtain⟨S,y⟩:=aI (Z++[.box [.f (dF m le)] 0]:aj);have k3:Kp Z S:=by rw [y];exact Kp.push _ _
  have n3:S.length=7:=by rw [y];simp [n2]
  have z6:S[6]?=aa (.box [.f (dF m le)] 0):=by rw [y];simp [←n2]
  have l6:aS S (aa 1) (.c (.ptr 6 0 0))=aa (.a [.f (dF m le)]):=by simp [aS,aE,z6,aQ]
  rw [←y];apply ak;apply ai;simp;refine bp (by simp) ?_;obtain⟨bad,q⟩:=aI (if(m:Int)+le≤1440 then FC.au else vm n p:FC);have b9:bh tab 210 [.a [.f (vm n p)],.a [.f (dF m le)]]=Eq (.t [.a [.f bad],vi 0]):=by
   rw [q];unfold dF;split
   ·exact O2 W
   ·exact O3 W
  have a_:bh tab 58 [.a [.f bad]]=Eq (vb ok):=by
   rw [q,s];by_cases h:(m:Int)+le≤1440
   ·rw [ba h,decide_eq_true h];exact xD
   ·rw [aX h,decide_eq_false h];exact aap W
  have e_:bh tab 211 [.a [.f bad],vi 0]=Eq (.t [vi (if(m:Int)+le≤1440 then 0 else p),vb (!ok)]):=by
   rw [q,s];by_cases h:(m:Int)+le≤1440
   ·rw [ba h,ba h,decide_eq_true h];exact abf
   ·rw [aX h,aX h,decide_eq_false h];exact ah0 W
  apply ai;simp [(l5 _ (k3.get z5)).2,l6,b9,n3,-av];obtain⟨H4,z⟩:=aI (S++[.box [.f bad] 0]:aj);have k4:Kp S H4:=by rw [z];exact Kp.push _ _
  have n4:H4.length=8:=by rw [z];simp [n3]
  have z7:H4[7]?=aa (.box [.f bad] 0):=by rw [z];simp [←n3]
  have l7:aS H4 (aa 1) (.c (.ptr 7 0 0))=aa (.a [.f bad]):=by simp [aS,aE,z7,aQ]
  rw [←z];have d:=(M.tr k3).tr k4;have J:=(k2.tr k3).tr k4;apply ak;apply ai;simp;refine bp (by simp) ?_;apply ai;simp [g7,l7,a_,-av];have q1:=mB (a:=2251799813685248-m-le) (b:=1440) (by omega) (by decide) (by omega);apply ai;simp [B,(l5 _ ((k3.tr k4).get z5)).1,(X _ (d.get N)).2.2.1,aU (n:=2251799813685248-(m:Int)),aU (n:=2251799813685248-(m:Int)-le),q1,-av];apply ai;simp [l7,e_,-av];apply ak;refine al (.inl rfl) ?_;cases ok with
  | true=>
   have hc:(m:Int)+le≤1440:=by simpa using s.symm
   simp;refine aD (by simp) (aO (aw (next _ _ ⟨by simp [B],by simp [E],by simp [g8],by simp [U],by simp [g2],by simp [u],by simp [v],by omega,fun _=>⟨by simp,d.get N,d.get z2,?_⟩⟩ (by simpa using F) (by simpa using hb))));rw [J.get z4,iL,ba hc];rfl
  | false=>
   have hc:¬ (m:Int)+le≤1440:=by simpa using s.symm
   simp [hc,show p≤(2251799813685248-(m:Int)-le) / 1440 by omega];refine aq (by simp) ?_;apply ai;simp [(l5 _ ((k3.tr k4).get z5)).1,aU (n:=p*1440),aU (n:=p*1440+m),-av];obtain⟨r,H5,he,rfl,g_,a8,c_,f_⟩:=D3 (H:=H4) (a:=4) (b:=3) (by omega) ⟨p,p*1440+m,p*1440+m+le⟩ (J.get z4) (J.get z3);have he:=he.eq;simp [aM.row]at he;refine al (.inl rfl) ?_;simp [u,B,(X _ (d.get N)).2.2.1,aU (n:=p*1440+m+le),b5,he,-av];refine aw (next _ _ ⟨by simp [B],by simp [E],by simp [g8],by simp [U],by simp [g2],by simp [u],by simp [v],by omega,fun _=>⟨by simp,?_,?_,?_⟩⟩ (by simpa using F) (by simpa using hb))
   ·rw [a8 1 (by omega) (by omega) (by omega)];exact d.get N
   ·rw [a8 2 (by omega) (by omega) (by omega)];exact d.get z2
   ·rw [c_,iL,aX hc]
 ·rintro t K ⟨B,E,g8,U,g2,u,v,-,hK⟩ - -;obtain⟨g7,y1,y2,y4⟩:=hK rfl;apply ak;apply ai;have d9:∀ K:aj,bt K (.f .au)=aa 0:=fun K=>rfl;simp [B,(X _ y1).2.2.2,d9,-av];refine bW 0 (fun _ t K'=>K'=K∧t.g 7=vb ok∧t.g 9=.c (.ptr 4 0 0)∧t.g 5=.c (.ptr 2 0 0)) (by omega) (by decide) (by decide) (by simp) (by simp) ⟨rfl,by simp [g7],by simp [U],by simp [E]⟩ (fun j t H hj=>by omega) ?_;rintro t' K' ⟨rfl,g7,U,E⟩ - -;have l4:aS K' (aa 3) (.c (.ptr 4 0 0))=aa (.a ((iL n p m le).row.map .f)):=by simp [aS,aE,y4,aQ,aM.row]
  have s2:de K' (.ptr 2 0 0) ((iL n p m le).row.map .f)=aa (K'.set 2 (.box ((iL n p m le).row.map .f) 0)):=by simp [de,y2,over,aM.row]
  have f8:(iL n p m le).row.length=3:=rfl;apply ai;simp [g7,U,E,l4,s2,f8,-av,-bf];refine aB (hQ _ _ ?_);simp [Km.results,bg,E,an y2,aQ,aM.row,iV,cK,s])
end Go.Proofs.YtnaofdffomdmhaaGreat
namespace Go.Proofs.YtnaofdffomdmhaaGreat
open Go Km
def TV(J:aj)(c:C)(fs:List bT):Prop:=(∃ g,c=.f (sl g (aY fs)))∨LR J c 4 (aY fs)
def ajd(f:Nat)(g:List FC)(L:List (List bT)):Prop:=∀(b:Nat) (H:aj) (PP:Nat→aj→Prop),PP 0 H →
 (∀(j:Nat) (m:j<L.length) (d J:aj) (c:C),PP j d→(∀ i:Nat,i<d.length→J[i]?=d[i]?)→d.length≤J.length→TV J c L[j]→(∀ i,bB c=aa i→d.length≤i)→∃ H',Ev tab (.yield b) [.c c] J (vb ae) H'∧PP (j+1) H') →
 ∃ l,Ev tab (.fn f) (.c (.yl b)::g.map fun x=>.c (.f x)) H (.t []) l∧PP L.length l
theorem oB{ps:List bT}(h:ps≠[])(g:Tg):sl g (aY ps)=.fs (aY ps).flatten ps.length:=by
 cases ps with
 | nil=>exact absurd rfl h| cons p l=>simp [sl,aY]
def TW(J:aj)(c:C)(fs:List bT):Prop:=(∃ g,c=.f (sl g (aY fs)))∨(∃ b ep fl,c=.sl b 0 fs.length 0 ep 4∧J[b]?=aa (.cj 4 ((aY fs).flatten.map .f) fl ep .loc))
section
variable{J:aj}{c:C}{fs:List bT}
theorem TV.tw(h:TV J c fs):TW J c fs:=by
 rcases h with⟨g,rfl⟩ | ⟨h0,rfl | rfl⟩ | ⟨j,b,ep,rfl,d⟩
 ·exact .inl ⟨g,rfl⟩
 ·exact .inl ⟨.nil,by rw [h0];rfl⟩
 ·exact .inl ⟨.es,by rw [h0];rfl⟩
 ·unfold RB at d;exact .inr ⟨b,ep,0,by rw [BQ],d⟩
theorem TW.ex(h:TW J c fs)(h0:fs≠[])(n:Nat):eG (n+1) J c=aa (sl .fs (aY fs)):=by
 rcases h with⟨g,rfl⟩ | ⟨b,ep,fl,rfl,d⟩
 ·show aa (sl g (aY fs))=_;rw [oB h0,oB h0]
 ·have j:(aY fs).flatten.length=fs.length*4:=by have:=ct (cu fs);simpa using this
  simp only [lJ,d];rw [ba ⟨trivial,trivial,by rw [asi];omega⟩,atf,arf (by rw [asi];omega),qU,oB h0];rfl
theorem TW.mk(h:TW J c fs)(n:Nat):TW (gu (n+1) c J) c fs∧∀(i:Nat) (y:bq),J[i]?=aa y→bB c≠aa i→(gu (n+1) c J)[i]?=aa y:=by
 rcases h with⟨g,rfl⟩ | ⟨b,ep,fl,rfl,j⟩
 ·exact⟨.inl ⟨g,rfl⟩,fun i y hy _=>hy⟩
 ·have e:gu (n+1) (.sl b 0 fs.length 0 ep 4) J=J.set b (.cj 4 ((aY fs).flatten.map .f) (Nat.max fl (0+fs.length*4)) ep .loc):=by
   simp only [pF,j];rw [tj];intro x d;have d:=List.mem_of_mem_drop (List.mem_of_mem_take d);obtain⟨m,_,rfl⟩:=asH.1 d;exact⟨_,rfl⟩
  rw [e];exact⟨.inr ⟨b,ep,_,rfl,IN (an j)⟩,fun i y hy hi=>by rw [AI (by rintro rfl;exact hi rfl)];exact hy⟩
theorem TW.set(h:TW J c fs){i:Nat}(hi:bB c≠aa i)(x:bq):TW (J.set i x) c fs:=by
 rcases h with h | ⟨b,ep,fl,rfl,d⟩
 ·exact .inl h
 ·exact .inr ⟨b,ep,fl,rfl,by rw [AI (by rintro rfl;exact hi rfl)];exact d⟩
end
theorem zt(ps:List bT)(h:xn ps)(n:Int)(hn:0≤n)(b_:n≤1000000000000):∃ d f,iT (InN ps n) d f∧(0≤d∧d≤1000001000000)∧∀ H g found c,QH H n g found→TW H c ps→(∀ i,bB c=aa i→4<i) →
  ∃ r H',Ev tab (.yield 4) [.c c] H r H'∧(r=vb ae∧QH H' n (if f=ae∧(found=ag∨d<g)then d else g) (found||f)):=by
 obtain⟨d,f,e0,f0,hm,hd,he,hc⟩:=ai1 .fs ps h n hn b_;refine⟨d,f,hm,hd,?_⟩;rintro H g found c ⟨h0,h1,h2,h3,s,h4,u,K,L⟩ v N;refine gj (tab:=tab) (b:=4) h4 rfl fun Q' M=>?_;have b9:=an h4;have F:∀(t:T) (j:aj),j[0]?=aa (.box [.f (fi n)] 0)→j[1]?=aa (.box [.f (fi g)] 0)→j[2]?=aa (.box [.f (.bool found)] 0)→j[3]?=aa (.fj ae)→j[4]?=aa (.lp 107 s [P.nat 12] du cW .busy ab 3) →
   t.g 3=.c (.ptr 0 0 0)→t.g 6=.c (.ptr 1 0 0)→t.g 7=.c (.ptr 2 0 0)→t.g 9=vi d→t.g 10=vb f→WP tab 107 (aa 4) [.code AB,.inBlock 1] ⟨t,[],j⟩ Q':=by
  rintro t j q0 U A q3 q4 e3 I y J q;have l1:=an U;have l2:=an A;have cO:(f=ae∧(found=ag∨d<g)→False)→QH (j.set 4 (.lp 107 s [P.nat 12] du cW .ready ab 3)) n (if f=ae∧(found=ag∨d<g)then d else g) (found||f):=by
   intro x;have hf:(found||f)=found:=by
    cases f<;>cases found<;>simp at x ⊢
   rw [aX x,hf];exact⟨by rw [AI (by decide)];exact q0,by rw [AI (by decide)];exact U,by rw [AI (by decide)];exact A,by rw [AI (by decide)];exact q3,s,IN (an q4),u,K,L⟩
  have c_:(j.set 1 (.box [.f (fi d)] 0))[2]?=aa (.box [.f (.bool found)] 0):=by rw [AI (by decide)];exact A
  have Q:(f=ae∧(found=ag∨d<g))→QH (((j.set 1 (.box [.f (fi d)] 0)).set 2 (.box [.f (.bool ae)] 0)).set 4 (.lp 107 s [P.nat 12] du cW .ready ab 3)) n (if f=ae∧(found=ag∨d<g)then d else g) (found||f):=by
   intro l;have hf:(found||f)=ae:=by rw [l.1];simp
   rw [ba l,hf];refine⟨?_,?_,?_,?_,s,IN (by simp;exact an q4),u,K,L⟩
   ·rw [AI (by decide),AI (by decide),AI (by decide)];exact q0
   ·rw [AI (by decide),AI (by decide),IN l1]
   ·rw [AI (by decide),IN (by simpa using l2)]
   ·rw [AI (by decide),AI (by decide),AI (by decide)];exact q3
  have done:∀ B:T,(f=ae∧(found=ag∨d<g)→False)→WP tab 107 (aa 4) [.inBlock 1] ⟨B,[],j⟩ Q':=by
   intro B x;refine aw (cL (M _ _ _ _ _ _ _ _ _ _ rfl q4 ⟨rfl,?_⟩));have:=cO x;rw [show(j.set 4 (.lp 107 s [P.nat 12] du cW .ready ab 3))=j.set 4 (.lp 107 s [P.nat 12] du cW (if(ab:Option aF).isNone=ae then .ready else .done) ab 3) from rfl]at this;exact this
  have m:∀ B:T,B.g 6=.c (.ptr 1 0 0)→B.g 7=.c (.ptr 2 0 0)→B.g 9=vi d→(f=ae∧(found=ag∨d<g))→WP tab 107 (aa 4) [.code AD,.inBlock 1] ⟨B,[],j⟩ Q':=by
   intro B I y J l;refine al (.inr rfl) ?_;simp [I,y,J,U,A,c_];refine aw (cL (M _ _ _ _ _ _ _ _ _ _ rfl (by rw [AI (by decide),AI (by decide)];exact q4) ⟨rfl,?_⟩));exact Q l
  apply ak;cases f with
  | false=>
   refine al (.inr rfl) ?_;simp [y,q,A];refine aD (by simp) (aO (done _ (by simp)))
  | true=>
   cases found with
   | false=>
    refine al (.inr rfl) ?_;simp [y,q,A];refine aq (by simp) (m _ (by simp [I]) (by simp [y]) (by simp [J]) (by simp))
   | true=>
    by_cases k:d<g
    ·refine al (.inr rfl) ?_;simp [I,y,J,q,U,A,k];refine aq (by simp) (m _ (by simp [I]) (by simp [y]) (by simp [J]) (by simp [k]))
    ·refine al (.inr rfl) ?_;simp [I,y,J,q,U,A,k];refine aD (by simp) (aO (done _ (by simp [k])))
 refine al (.inr rfl) ?_;simp;refine mZ h4 ?_;have b0:(H.set 4 (.lp 107 s [P.nat 12] du cW .busy ab 3))[0]?=aa (.box [.f (fi n)] 0):=by rw [AI (by decide)];exact h0
 have b1:(H.set 4 (.lp 107 s [P.nat 12] du cW .busy ab 3))[1]?=aa (.box [.f (fi g)] 0):=by rw [AI (by decide)];exact h1
 have X:(H.set 4 (.lp 107 s [P.nat 12] du cW .busy ab 3))[2]?=aa (.box [.f (.bool found)] 0):=by rw [AI (by decide)];exact h2
 have Y:(H.set 4 (.lp 107 s [P.nat 12] du cW .busy ab 3))[3]?=aa (.fj ae):=by rw [AI (by decide)];exact h3
 have Z:(H.set 4 (.lp 107 s [P.nat 12] du cW .busy ab 3))[4]?=aa (.lp 107 s [P.nat 12] du cW .busy ab 3):=IN b9;have v:=v.set (i:=4) (fun e=>by have:=N 4 e;omega) (.lp 107 s [P.nat 12] du cW .busy ab 3);generalize H.set 4 (.lp 107 s [P.nat 12] du cW .busy ab 3)=j at b0 b1 X Y Z v ⊢;have S:∀ i:Nat,i≤4→bB c≠aa i:=fun i hi e=>by have:=N i e;omega
 have step:∀ j:aj,j[0]?=aa (.box [.f (fi n)] 0)→j[1]?=aa (.box [.f (fi g)] 0)→j[2]?=aa (.box [.f (.bool found)] 0)→j[3]?=aa (.fj ae)→j[4]?=aa (.lp 107 s [P.nat 12] du cW .busy ab 3)→TW j c ps →
   ∃ E:aj,E=gu 64 c j∧eG 64 j c=aa (sl .fs (aY ps))∧E[0]?=aa (.box [.f (fi n)] 0)∧E[1]?=aa (.box [.f (fi g)] 0)∧E[2]?=aa (.box [.f (.bool found)] 0)∧E[3]?=aa (.fj ae)∧E[4]?=aa (.lp 107 s [P.nat 12] du cW .busy ab 3)∧TW E c ps:=by
  intro j b0 b1 X Y Z hT;obtain⟨m1,O⟩:=hT.mk 63;exact⟨_,rfl,hT.ex (List.length_pos_iff.1 h.l1) 63,O 0 _ b0 (S 0 (by omega)),O 1 _ b1 (S 1 (by omega)),O 2 _ X (S 2 (by omega)),O 3 _ Y (S 3 (by omega)),O 4 _ Z (S 4 (by omega)),m1⟩
 obtain⟨H1,e1,x1,W,a1,a2,a3,a4,a8⟩:=step j b0 b1 X Y Z v;obtain⟨H2,e2,x2,c0,c1,c2,c3,c4,a_⟩:=step H1 W a1 a2 a3 a4 a8;obtain⟨H3,e3,x3,d0,d1,d2,d3,d4,d9⟩:=step H2 c0 c1 c2 c3 c4 a_;refine aG ?_;refine ak (al (.inr rfl) ?_);simp [u,b0,x1,deep,he,←e1];apply ak;rcases hc with⟨rfl,rfl,rfl⟩ | ⟨rfl,rfl,b,z,hc⟩
 ·refine ak (al (.inr rfl) ?_);simp;refine bp (by simp) ?_;exact F _ _ W a1 a2 a3 a4 (by simp [u]) (by simp [K]) (by simp [L]) (by simp) (by simp)
 ·rcases hc with⟨rfl,rfl,rfl⟩ | ⟨rfl,hl⟩
  ·refine ak (al (.inr rfl) ?_);simp [u,W,x2,deep,z,←e2,show n≤1152921504606846976 by omega];refine bp (by simp) ?_;exact F _ _ c0 c1 c2 c3 c4 (by simp [u]) (by simp [K]) (by simp [L]) (by simp) (by simp)
  ·refine ak (al (.inr rfl) ?_);simp [u,W,x2,deep,z,←e2,show n≤1152921504606846976 by omega];refine aq (by simp) ?_;refine al (.inr rfl) ?_;simp [u,c0,x3,deep,hl,←e3];exact F _ _ d0 d1 d2 d3 d4 (by simp [u]) (by simp [K]) (by simp [L]) (by simp) (by simp)
end Go.Proofs.YtnaofdffomdmhaaGreat
namespace Go.Proofs.YtnaofdffomdmhaaGreat
open Go Km
def P8(L:List (List bT))(n x:Int):Prop:=∃ t ∈ L,InN t n x
theorem ah6{H H':aj}{n b:Int}{found:Bool}(h:QH H n b found)(u:∀ i:Nat,i<H.length→H'[i]?=H[i]?):QH H' n b found:=by
 obtain⟨h0,g,j,l,s,m,q⟩:=h;have k:∀(i:Nat) y,H[i]?=aa y→H'[i]?=aa y:=fun i y d=>by rw [u i (an d)];exact d
 exact⟨k _ _ h0,k _ _ g,k _ _ j,k _ _ l,s,k _ _ m,q⟩
theorem OV(F:Nat)(l:List FC)(L:List (List bT))(o:ajd F l L)(k:∀ t ∈ L,xn t)(n:Int)(hn:0≤n)(K:n≤1000000000000):∃ d f,iT (P8 L n) d f∧(0≤d∧d≤1000001000000) ∧
  bh tab 107 [.c (.f (.fn F l)),vi n]=Eq (.t [vi d,vb f]):=by
 have key:∃ r,(∃ d f,iT (P8 L n) d f∧(0≤d∧d≤1000001000000)∧r=.t [vi d,vb f])∧bh tab 107 [.c (.f (.fn F l)),vi n] r:=by
  refine BX aox rfl fun Q p=>?_;have z:∀ s:T,s.g 3=.c (.ptr 0 0 0)→s.g 6=.c (.ptr 1 0 0)→s.g 7=.c (.ptr 2 0 0)→s.g 11=.c (.f (.fn F l)) →
    WP tab 107 ab [.code EB,.inBlock 0,.code AE] ⟨s,[],[.box [.f (fi n)] 0,.box [.f (fi 0)] 0,.box [.f (.bool ag)] 0]⟩ Q:=by
   intro s a O S A;obtain⟨y,Z,b,found,⟨-,w1,w2,w3,N,w4,-⟩,q,U⟩:=o 4 [.box [.f (fi n)] 0,.box [.f (fi 0)] 0,.box [.f (.bool ag)] 0,.fj ae,.lp 107 s [P.nat 12] du cW .ready ab 3]
    (fun j H=>∃ b found,QH H n b found∧iT (P8 (L.take j) n) b found∧(0≤b∧b≤1000001000000))
    ⟨0,ag,⟨rfl,rfl,rfl,rfl,s,rfl,a,O,S⟩,.inl ⟨rfl,rfl,fun d v=>by obtain⟨t,m,-⟩:=v;simp at m⟩,by omega,by omega⟩ fun j W Y J c ⟨b,found,u,q,U⟩ hk X w hc=>by
     obtain⟨d,f,I,v,hy⟩:=zt L[j] (k _ (anc W)) n hn K;have l4:4<Y.length:=by obtain⟨-,-,-,-,s',e,-⟩:=u;exact an e
     obtain⟨r,H',E,rfl,B⟩:=hy J b found c (ah6 u hk) w.tw (fun i hi=>by have:=hc i hi;omega);have M:L.take (j+1)=L.take j++[L[j]]:=by rw [asQ,By W];rfl
     refine⟨H',E,_,_,B,iT.join q I fun x=>?_,?_⟩
     ·unfold P8;rw [M];constructor
      ·rintro⟨t,m,h⟩;rcases asw.1 m with m | m
       ·exact .inl ⟨t,m,h⟩
       ·rw [asj.1 m]at h;exact .inr h
      ·rintro(⟨t,m,h⟩ | h)
       ·exact⟨t,atj _ m,h⟩
       ·exact⟨_,atY _ (asj.2 rfl),h⟩
     ·split<;>omega
   rw [asK]at q;refine ji (g:=F) (by rw [CV,A];simp [b5]) Z ?_;refine kv w4 (by decide) ?_;refine aw ?_;apply ai;have v1:(y.set 4 (.lp 107 N [P.nat 12] du cW .exhausted ab 3))[1]?=aa (.box [.f (fi b)] 0):=by rw [AI (by decide)];exact w1
   have v2:(y.set 4 (.lp 107 N [P.nat 12] du cW .exhausted ab 3))[2]?=aa (.box [.f (.bool found)] 0):=by rw [AI (by decide)];exact w2
   have v3:(y.set 4 (.lp 107 N [P.nat 12] du cW .exhausted ab 3))[3]?=aa (.fj ae):=by rw [AI (by decide)];exact w3
   simp [O,S,v1,v2];refine aB (p _ _ _ ⟨b,found,q,U,rfl⟩ (.inr ⟨3,rfl,v3,.t [vi b,vb found],?_,by simp [iV,cK,bg]⟩));simp [Km.results,cQ,bg]
  apply ai;simp;apply ai;simp;apply ak;apply ai;simp;refine aG ?_;exact z _ (by simp) (by simp) (by simp) (by simp)
 obtain⟨r,⟨d,f,q,v,rfl⟩,h⟩:=key;exact⟨d,f,q,v,h.eq⟩
def rC(ss ts:List (List bT)):List (List bT):=(ss.map fun s=>ts.map fun t=>s++t).flatten
theorem Pc(ss ts:List (List bT)):(rC ss ts).length=ss.length*ts.length:=by
 unfold rC;induction ss with
 | nil=>simp| cons s ss b=>rw [asq,List.flatten_cons,api,b,asi,List.length_cons,Nat.succ_mul,Nat.add_comm]
theorem abo{ss ts:List (List bT)}{i k:Nat}(hi:i<ss.length)(d:k<ts.length):(rC ss ts)[i*ts.length+k]?=aa (ss[i]++ts[k]):=by
 have h:=oi (rows:=ss.map fun s=>ts.map fun t=>s++t) (sz:=ts.length) (j:=i) (row:=ts.map fun t=>ss[i]++t) (fun r g=>by
  obtain⟨s,-,rfl⟩:=asH.1 g;simp) (by simp [hi])
 have b:(ts.map fun t=>ss[i]++t)[k]?=aa (ss[i]++ts[k]):=by simp [d]
 rw [←h,List.getElem?_take,ba d,asu]at b;exact b
theorem abp(x y:FC):bh tab 108 [.a [.f x],.a [.f y]]=Eq (.c (.f (.fn 179 [.fp [x] 0,.fp [y] 0]))):=by
 refine bh.eq (bV rfl rfl fun Q b=>?_);apply ai;simp;apply ai;simp;refine aB (b _ _ ?_);simp [deep]
theorem D0(g g':Tg)(ss ts:List dP)(hs:ss.length≤1000)(ht:ts.length≤1000)(b_:∀ s ∈ ss,s.fs.length≤1000)(c_:∀ t ∈ ts,t.fs.length≤1000) :
  ajd 179 [.fp [sl g (aJ ss)] 0,.fp [sl g' (aJ ts)] 0] (rC (ss.map (·.fs)) (ts.map (·.fs))):=by
 intro b H PP h0 hy;have v:(rC (ss.map (·.fs)) (ts.map (·.fs))).length=ss.length*ts.length:=by rw [Pc,asi,asi]
 have U:∀ H:aj,bt H (.f (sl g (aJ ss)))=aa ss.length:=fun H=>by simp
 have W:∀ H:aj,bt H (.f (sl g' (aJ ts)))=aa ts.length:=fun H=>by simp
 obtain⟨r,X,he,rfl,f⟩:∃ r X,Ev tab (.fn 179) [.c (.yl b),.c (.f (.fp [sl g (aJ ss)] 0)),.c (.f (.fp [sl g' (aJ ts)] 0))] H r X∧(r=.t []∧PP (ss.length*ts.length) X):=by
  refine cJ rfl rfl fun Q hQ=>?_;apply ai;simp [nQ,U];refine bW ss.length (fun i s J=>s.g 0=.c (.yl b)∧s.g 2=.c (.f (.fp [sl g' (aJ ts)] 0))∧s.g 9=.c (.f (sl g (aJ ss)))∧PP (i*ts.length) J) (by omega) (by decide) (by decide) (by simp) (by simp) ⟨by simp,by simp,by simp,by simpa using h0⟩ ?_ ?_
  ·rintro i s J hi ⟨g0,E,I,K⟩ h hb next
   have y:=fun H:aj=>m6 (H:=H) (iu ss) (jR (l:=ss) (j:=i) hi) rfl;have u:=fun H:aj=>bC (H:=H) (g:=g) (rows:=aJ ss) (sz:=1) (k:=.i64) (i:=i) (by omega) (by simpa using hi);simp at y u;refine aG ?_;apply ai;simp [I,h,u,y];apply ai;simp [E,nQ,W];refine bW ts.length (fun k s' J=>s'.g 0=.c (.yl b)∧s'.g 2=.c (.f (.fp [sl g' (aJ ts)] 0))∧s'.g 9=.c (.f (sl g (aJ ss)))∧s'.g 5=.c (.f (sl ss[i].tg (aY ss[i].fs)))∧s'.g 16=.c (.f (sl g' (aJ ts)))∧s'.g 10=s.g 10∧s'.g 11=s.g 11∧PP (i*ts.length+k) J) (by omega) (by decide) (by decide) (by simp) (by simp)
    ⟨by simp [g0],by simp [E],by simp [I],by simp,by simp,by simp,by simp,by simpa using K⟩ ?_ ?_
   ·rintro k s' J Z ⟨g0,E,I,e,B,z,A,K⟩ S n N;have m:=fun H:aj=>m6 (H:=H) (iu ts) (jR (l:=ts) (j:=k) Z) rfl;have d:=fun H:aj=>bC (H:=H) (g:=g') (rows:=aJ ts) (sz:=1) (k:=.i64) (i:=k) (by omega) (by simpa using Z);simp at m d;have a_:i*ts.length+k<(rC (ss.map (·.fs)) (ts.map (·.fs))).length:=by
     rw [v];have:(i+1)*ts.length≤ss.length*ts.length:=Nat.mul_le_mul_right _ hi;rw [asL,aud]at this;omega
    have p:(rC (ss.map (·.fs)) (ts.map (·.fs)))[i*ts.length+k]=ss[i].fs++ts[k].fs:=by
     have:=abo (ss:=ss.map (·.fs)) (ts:=ts.map (·.fs)) (i:=i) (k:=k) (by simpa using hi) (by simpa using Z);simp only [asi,List.getElem_map]at this;exact(BY.1 this).2
    have e_:=b_ _ (anc hi);have f7:=c_ _ (anc Z);obtain⟨Y,q⟩:=aI (J++[bq.box [.f (sl ss[i].tg (aY ss[i].fs)),.f (sl ts[k].tg (aY ts[k].fs))] 0]);have b1:Y[J.length]?=aa (.box [.f (sl ss[i].tg (aY ss[i].fs)),.f (sl ts[k].tg (aY ts[k].fs))] 0):=by rw [q];simp
    have b9:aY (ss[i].fs++ts[k].fs)=aY ss[i].fs++aY ts[k].fs:=by simp [aY]
    obtain⟨r,a,M,c,rfl,L,a8,d_,o⟩:=xA (tab:=tab) (H:=Y) (F:=180) (G:=261) (sz:=4) (bytes:=64) (zs:=[.au,fi 0,fi 0,.au]) ak1 ak8 (by decide) rfl (b:=J.length) [(.f (sl ss[i].tg (aY ss[i].fs)),aY ss[i].fs),(.f (sl ts[k].tg (aY ts[k].fs)),aY ts[k].fs)] b1 (by simp)
     (fun x O=>by
      simp only [asv,atc,or_false]at O;rcases O with rfl | rfl
      ·exact⟨cu _,fun H' _=>⟨by simp,lT (cu _)⟩⟩
      ·exact⟨cu _,fun H' _=>⟨by simp,lT (cu _)⟩⟩)
     (by simp;omega) (FI (by simp;omega) (by decide))
    have L:LR a c 4 (aY (ss[i].fs++ts[k].fs)):=by
     rw [b9];simpa using L
    have d9:Y.length=J.length+1:=by rw [q];simp
    obtain⟨J3,w,f⟩:=hy (i*ts.length+k) a_ J a c K (fun x O=>by rw [a8 x (by omega),q,AT O]) (by omega) (by rw [p];exact .inr L) (fun x O=>by have:=o x O;omega);have M:Ev tab (.fn 180) [.c (.sl J.length 0 2 2 0 1)] Y (.c c) a:=M;refine aG ?_;apply ai;simp [S,B,d,m];apply ak;refine al (.inl rfl) ?_;simp [g0,e,←q,M.eq,w.eq];refine bp (by simp) ?_;refine aw (N _ _ ?_ (by simp [S]) (by simp [n]));exact⟨by simp [g0],by simp [E],by simp [I],by simp [e],by simp [B],by simp [z],by simp [A],f⟩
   ·rintro s' J ⟨g0,E,I,e,B,z,A,K⟩ - -;refine aw (next _ _ ⟨by simp [g0],by simp [E],by simp [I],?_⟩ (by simp [A,h]) (by simp [z,hb]));rw [asL,aud];exact K
  ·rintro s J ⟨g0,E,I,K⟩ h hb;exact cL (hQ _ _ _ rfl rfl ⟨rfl,K⟩)
 exact⟨X,he,by rw [v];exact f⟩
end Go.Proofs.YtnaofdffomdmhaaGreat
namespace Go.Proofs.YtnaofdffomdmhaaGreat
open Go Km
def pd(n p:Int):bT:=⟨.nil,[],0,n,.fs,[p]⟩
def td(n p:Int):dP:=⟨.fs,[pd n p]⟩
def yM(ts:List dP):Prop:=∃ n p,zW n p∧ts=[td n p]
def gU(ts:List dP)(d:Int):Prop:=∃ n p,ts=[td n p]∧d % n=p
theorem mT{n p d:Int}:gU [td n p] d↔d % n=p:=by
 constructor
 ·rintro⟨b,g,h,e⟩;simp [td,pd]at h;rw [h.1,h.2];exact e
 ·exact fun e=>⟨n,p,rfl,e⟩
theorem F3(g:Tg)(n p:Int):sl g (aJ [td n p])=vm n p:=by cases g<;>rfl
theorem abP{n p:Int}(h:zW n p):zW n (Pp n p)∧∀ x:Int,x % n=Pp n p↔(x+1) % n=p:=by
 obtain⟨b,d,g,j⟩:=h;unfold Pp zW;obtain rfl | rfl | rfl | rfl | rfl | rfl:n=1∨n=2∨n=3∨n=4∨n=5∨n=6:=by omega
 all_goals split<;>refine⟨⟨by omega,by omega,by omega,by omega⟩,fun x=>by omega⟩
theorem yg(g:Tg)(ts:List dP)(h:yM ts):∃ us,yM us∧(∀ x,gU us x↔gU ts (x+1))∧bh tab 106 [.a [.f (sl g (aJ ts))],vi (-1)]=Eq (.t [.a [.f (sl .fs (aJ us))],vi 0]):=by
 obtain⟨n,p,b,rfl⟩:=h;obtain⟨d,j⟩:=abP b;refine⟨[td n (Pp n p)],⟨_,_,d,rfl⟩,fun x=>by rw [mT,mT];exact j x,?_⟩;rw [F3,F3];exact abS b
theorem D2{n p:Int}(h:zW n p):Mod (pd n p):=by
 obtain⟨b,d,g,j⟩:=h;refine⟨?_,by show n≤1000;omega⟩;show gv ⟨.nil,[],0,n,.fs,[p]⟩=ae;simp [gv,eO];omega
theorem vD{n p d:Int}(h0:0≤d):hasB (pd n p) d=ae↔d % n=p:=by
 simp [hasB,wQ,pd,h0]
theorem Ei{n p:Int}(h:zW n p):nw [td n p]=ae:=by
 have:=(D2 h).ok;simp [nw,jQ,td,this]
theorem ajC(n p:Int):∀ t ∈ [td n p],t.Sm:=by simp [dP.Sm,td,pd,bT.Sm]
theorem yd(g g':Tg)(ss ts:List dP)(S:yM ss)(U:yM ts)(n:Int)(Y:-1000000000000≤n)(O:n≤1000000000000) :
  ∃ d f,iT (fun x=>max n 0≤x∧gU ss x∧gU ts x) d f∧(0≤d∧d≤1000001000000)∧bh tab 56 [.a [.f (sl g (aJ ss))],.a [.f (sl g' (aJ ts))],vi n]=Eq (.t [vi d,vb f]):=by
 obtain⟨j,m,b,rfl⟩:=S;obtain⟨l,q,z,rfl⟩:=U;have u:=(DL g [td j m] (by simp) (ajC j m)).eq;rw [Ei b]at u;have v:=(DL g' [td l q] (by simp) (ajC l q)).eq;rw [Ei z]at v;have B:=abp (sl g (aJ [td j m])) (sl g' (aJ [td l q]));have s:=D0 g g' [td j m] [td l q] (by simp) (by simp) (by simp [td]) (by simp [td]);have K:rC ([td j m].map (·.fs)) ([td l q].map (·.fs))=[[pd j m,pd l q]]:=rfl;rw [K]at s;obtain⟨d,f,N,M,A⟩:=OV _ _ _ s (fun x W=>by
  rw [asj.1 W];refine⟨by simp,by simp,fun p E=>?_,?_,?_⟩
  ·simp only [asv,atc,or_false]at E;rcases E with rfl | rfl
   ·exact D2 b
   ·exact D2 z
  ·obtain⟨a1,F,_,_⟩:=b;obtain⟨b1,H,_,_⟩:=z;have:=Int.mul_le_mul F H (by omega) (by omega);simp only [fR,pd,Int.mul_one];omega
  ·simp [dp,pd]) (max n 0) (by omega) (by omega)
 refine⟨d,f,N.iff fun x=>?_,M,bh.eq (bV rfl rfl fun Q L=>?_)⟩
 ·rw [mT,mT];unfold P8 InN;constructor
  ·rintro⟨h0,I,J⟩;refine⟨_,asj.2 rfl,h0,?_⟩;simp only [va,List.all_cons,List.all_nil,Bool.and_true,If];exact⟨(vD (by omega)).2 I,(vD (by omega)).2 J⟩
  ·rintro⟨y,X,h0,b⟩;rw [asj.1 X]at b;simp only [va,List.all_cons,List.all_nil,Bool.and_true,If]at b;exact⟨h0,(vD (by omega)).1 b.1,(vD (by omega)).1 b.2⟩
 ·apply ai;simp;apply ak;apply ai;simp [u,v];refine bp (by simp) ?_;apply ai;simp [B,A];refine aB (L _ _ ?_);simp
theorem ahS(g g':Tg)(ss ts:List dP)(v:yM ss)(y:yM ts)(b:∀ x,0≤x→¬ (gU ss x∧gU ts x)):bh tab 57 [.a [.f (sl g (aJ ss))],.a [.f (sl g' (aJ ts))]]=Eq (.t [.a [.f .au],vi 0]):=by
 obtain⟨z,B,q,rfl⟩:=v;obtain⟨A,E,s,rfl⟩:=y;rw [F3,F3];refine alq q s ?_;cases u:com (z,B) (A,E)with
 | false=>rfl
 | true=>
  obtain⟨d,j,_,l,m⟩:=aha u;exact absurd ⟨mT.2 l,mT.2 m⟩ (b d j)
structure rK(s:aT):Prop where
 len:1≤s.len∧s.len≤400
 cn:s.cs.length≤3
 min:∀ {c},c ∈ s.cs→0≤c.min∧c.min≤1180
 sm:s.Sm
 v:en s=ae
 few:∀ c ∈ s.cs,yM c.ts
 xs:s.xs=[]
end Go.Proofs.YtnaofdffomdmhaaGreat
namespace Go.Proofs.YtnaofdffomdmhaaGreat
open Go Km
structure Pr where
 c:cN
 d:cN
 k:Int
 gx:Tg
 xs:List dP
 gy:Tg
 ys:List dP
def Pr.row(p:Pr):List C:=[.f (sl p.c.mg (aJ p.c.ts)),.f (fi p.c.min),.f (sl p.d.mg (aJ p.d.ts)),.f (fi p.d.min),.f (fi p.k),.f (sl p.gx (aJ p.xs)),.f (sl p.gy (aJ p.ys)),.f (fi (max 0 (-p.k)))]
def Bw(la b:Int)(c d:cN):Int:=(c.min-d.min-b) / 1440+1
def Bj(la b:Int)(c d:cN):Int:=(c.min-d.min+la-1) / 1440
structure qo(a b:aT)(p:Pr):Prop where
 ca:p.c ∈ a.cs
 db:p.d ∈ b.cs
 lo:Bw a.len b.len p.c p.d≤p.k
 hi:p.k≤Bj a.len b.len p.c p.d
 xo:yM p.xs
 yo:yM p.ys
 xm:∀ e,0≤e→(gU p.xs e↔gU p.c.ts (e+max 0 (-p.k)))
 ym:∀ e,0≤e→(gU p.ys e↔gU p.d.ts (e+max 0 p.k))
theorem xE(a b:aT):bh tab 55 [.a (a.row.map .f),.a (b.row.map .f)]=Eq (.c (.f (.fn 104 [.fp a.row 0,.fp b.row 0]))):=by
 refine bh.eq (bV rfl rfl fun Q d=>?_);apply ai;simp [aT.row];apply ai;simp;refine aB (d _ _ ?_);simp [deep,aT.row]
theorem oh{bb:Nat}{H:aj}(a b:aT)(ha:rK a)(hb:rK b)(PP:List Pr→aj→Prop)(RR:Pr→aj→Prop)(h0:PP [] H)
  (hk:∀ ps J J',PP ps J→(∀ i:Nat,i<H.length→J'[i]?=J[i]?)→J.length≤J'.length→PP ps J')
  (hy:∀ ps p J,PP ps J→H.length≤J.length→qo a b p→∃(r:Bool) (J':aj),Ev tab (.yield bb) [.a p.row] J (vb r) J'∧(if r then PP (ps++[p]) J'∧J.length≤J'.length∧∀ i:Nat,H.length≤i→i<J.length→J'[i]?=J[i]? else RR p J')) :
  ∃ H2,Ev tab (.fn 104) [.c (.yl bb),.c (.f (.fp a.row 0)),.c (.f (.fp b.row 0))] H (.t []) H2∧((∃ ps,PP ps H2∧(∀ p ∈ ps,qo a b p)∧∀ c ∈ a.cs,∀ d ∈ b.cs,∀ k,Bw a.len b.len c d≤k→k≤Bj a.len b.len c d→∃ p ∈ ps,p.c=c∧p.d=d∧p.k=k)∨∃ p,qo a b p∧RR p H2):=by
 obtain⟨la0,la1⟩:=ha.len;obtain⟨lb0,lb1⟩:=hb.len;have y_:=ha.cn;have z8:=hb.cn;have nv:∀ H:aj,bt H (.f (sl a.cg (aL a.cs)))=aa a.cs.length:=fun H=>by simp
 have s8:∀ H:aj,bt H (.f (sl b.cg (aL b.cs)))=aa b.cs.length:=fun H=>by simp
 have q_:∀(J:aj),aS J ab (.c (.f (.fp a.row 0)))=aa (.c (.f (sl a.cg (aL a.cs))))∧aS J ab (.c (.f (.fp a.row 1)))=aa (vi a.len):=fun J=>⟨rfl,rfl⟩
 have r_:∀(J:aj),aS J ab (.c (.f (.fp b.row 0)))=aa (.c (.f (sl b.cg (aL b.cs))))∧aS J ab (.c (.f (.fp b.row 1)))=aa (vi b.len):=fun J=>⟨rfl,rfl⟩
 obtain⟨r,H2,he,rfl,hP⟩:∃ r H2,Ev tab (.fn 104) [.c (.yl bb),.c (.f (.fp a.row 0)),.c (.f (.fp b.row 0))] H r H2∧(r=.t []∧((∃ ps,PP ps H2∧(∀ p ∈ ps,qo a b p)∧∀ c ∈ a.cs,∀ d ∈ b.cs,∀ k,Bw a.len b.len c d≤k→k≤Bj a.len b.len c d→∃ p ∈ ps,p.c=c∧p.d=d∧p.k=k)∨∃ p,qo a b p∧RR p H2)):=by
  refine cJ rfl rfl fun Q hQ=>?_;apply ai;simp [q_,nv];refine bW a.cs.length (fun i t J=>t.g 0=.c (.yl bb)∧t.g 1=.c (.f (.fp a.row 0))∧t.g 2=.c (.f (.fp b.row 0))∧t.g 13=.c (.f (sl a.cg (aL a.cs)))∧H.length≤J.length∧∃ ps,PP ps J∧(∀ p ∈ ps,qo a b p)∧∀(B:Nat) (hi:B<a.cs.length),B<i→∀ d ∈ b.cs,∀ k,Bw a.len b.len a.cs[B] d≤k→k≤Bj a.len b.len a.cs[B] d→∃ p ∈ ps,p.c=a.cs[B]∧p.d=d∧p.k=k) (by omega) (by decide) (by decide) (by simp) (by simp)
   ⟨by simp,by simp,by simp,by simp,aft _,[],h0,by simp,fun B _ h=>by omega⟩ ?_ ?_
  ·rintro i t J hi ⟨g0,Y,X,v,t7,ps,hP,A,l⟩ hc t_ next
   have n_:=fun H:aj=>bC (H:=H) (g:=a.cg) (rows:=aL a.cs) (sz:=2) (k:=.i64) (i:=(i:Int)) (by omega) (by simp;omega);have j5:=fun H:aj=>cf (H:=H) (cY a.cs) (eg hi);simp only [asy]at n_;have u5:=ha.min (anc hi);have f7:=ha.few _ (anc hi);have M:=anc hi;obtain⟨c,j_⟩:=aI (a.cs[i]);rw [←j_]at j5 u5 f7 M;simp only [cN.row,asq,asA]at j5;refine aG ?_;apply ai;simp [hc,v,n_,j5,-av];obtain⟨S,i6⟩:=aI (J.length);obtain⟨J1,y⟩:=aI (J++[bq.box [.f (sl c.mg (aJ c.ts)),.f (fi c.min)] 0]);have c5:J1[S]?=aa (.box [.f (sl c.mg (aJ c.ts)),.f (fi c.min)] 0):=by rw [y,i6];simp
   have b_:PP ps J1:=hk ps J J1 hP (fun i hi=>by rw [y,AT (by omega)]) (by rw [y,api];omega);have p_:J1.length=S+1:=by rw [y,api,i6];rfl
   rw [←y,←i6];apply ai;simp [X,r_,s8];refine bW b.cs.length (fun j t' J=>t'.g 0=.c (.yl bb)∧t'.g 1=.c (.f (.fp a.row 0))∧t'.g 2=.c (.f (.fp b.row 0))∧t'.g 13=.c (.f (sl a.cg (aL a.cs)))∧t'.g 14=t.g 14∧t'.g 15=t.g 15∧t'.g 5=.c (.ptr S 0 0)∧t'.g 20=.c (.f (sl b.cg (aL b.cs)))∧S<J.length∧J[S]?=aa (.box [.f (sl c.mg (aJ c.ts)),.f (fi c.min)] 0)∧∃ ps,PP ps J∧(∀ p ∈ ps,qo a b p)∧(∀(B:Nat) (hi:B<a.cs.length),B<i→∀ d ∈ b.cs,∀ k,Bw a.len b.len a.cs[B] d≤k→k≤Bj a.len b.len a.cs[B] d→∃ p ∈ ps,p.c=a.cs[B]∧p.d=d∧p.k=k) ∧
     ∀(O:Nat) (hj:O<b.cs.length),O<j→∀ k,Bw a.len b.len c b.cs[O]≤k→k≤Bj a.len b.len c b.cs[O]→∃ p ∈ ps,p.c=c∧p.d=b.cs[O]∧p.k=k) (by omega) (by decide) (by decide) (by simp) (by simp)
    ⟨by simp [g0],by simp [Y],by simp [X],by simp [v],by simp,by simp,by simp,by simp,by omega,c5,ps,b_,A,l,fun O _ h=>by omega⟩ ?_ ?_
   ·clear hP A l b_ c5 p_ y;rintro j t' J hj ⟨g0,Y,X,v,F,I,g5,K,n8,c5,ps,hP,A,l,q⟩ j9 j8 j7;have o_:=fun H:aj=>bC (H:=H) (g:=b.cg) (rows:=aL b.cs) (sz:=2) (k:=.i64) (i:=(j:Int)) (by omega) (by simp;omega);have j6:=fun H:aj=>cf (H:=H) (cY b.cs) (eg hj);simp only [asy]at o_;have u_:=hb.min (anc hj);have f8:=hb.few _ (anc hj);have N:=anc hj;obtain⟨d,k_⟩:=aI (b.cs[j]);rw [←k_]at j6 u_ f8 N;simp only [cN.row,asq,asA]at j6;obtain⟨W,i7⟩:=aI (J.length);obtain⟨J1,y⟩:=aI (J++[bq.box [.f (sl d.mg (aJ d.ts)),.f (fi d.min)] 0]);have c7:J1[W]?=aa (.box [.f (sl d.mg (aJ d.ts)),.f (fi d.min)] 0):=by rw [y,i7];simp
    have h_:J1[S]?=aa (.box [.f (sl c.mg (aJ c.ts)),.f (fi c.min)] 0):=by rw [y,AT n8];exact c5
    have b_:PP ps J1:=hk ps J J1 hP (fun i hi=>by rw [y,AT (by omega)]) (by rw [y,api];omega);have p_:J1.length=W+1:=by rw [y,api,i7];rfl
    obtain⟨lo,w_⟩:=aI (Bw a.len b.len c d);obtain⟨u,v9⟩:=aI (Bj a.len b.len c d);have n9:(c.min-d.min-b.len) / 1440+1=lo:=w_.symm;have l_:(c.min-d.min+a.len-1) / 1440=u:=v9.symm;have f1:=uB (c.min-d.min-b.len) (by omega) (by omega);have f2:=uB (c.min-d.min+a.len-1) (by omega) (by omega);rw [l_]at f2;have lob:-1≤lo∧lo≤1:=by omega
    have z9:-1≤u∧u≤1:=by omega
    have m5:∀ J:aj,J[S]?=aa (.box [.f (sl c.mg (aJ c.ts)),.f (fi c.min)] 0)→aS J ab (.c (.ptr S 1 0))=aa (vi c.min)∧aS J (aa 2) (.c (.ptr S 0 0))=aa (.a [.f (sl c.mg (aJ c.ts)),.f (fi c.min)])∧aS J (aa 1) (.c (.ptr S 0 0))=aa (.a [.f (sl c.mg (aJ c.ts))]):=fun J h=>by refine⟨?_,?_,?_⟩<;>simp [aS,aE,h,aQ]
    have m7:∀ J:aj,J[W]?=aa (.box [.f (sl d.mg (aJ d.ts)),.f (fi d.min)] 0)→aS J ab (.c (.ptr W 1 0))=aa (vi d.min)∧aS J (aa 2) (.c (.ptr W 0 0))=aa (.a [.f (sl d.mg (aJ d.ts)),.f (fi d.min)])∧aS J (aa 1) (.c (.ptr W 0 0))=aa (.a [.f (sl d.mg (aJ d.ts))]):=fun J h=>by refine⟨?_,?_,?_⟩<;>simp [aS,aE,h,aQ]
    obtain⟨v5,-,-⟩:=m5 J1 h_;obtain⟨v7,-,-⟩:=m7 J1 c7;refine aG ?_;apply ai;simp [j9,K,o_,j6,-av];rw [←y,←i7];apply ai;simp [X,g5,v5,v7,r_,-av,aU (n:=c.min-d.min),aU (n:=c.min-d.min-b.len),f1,n9,aU (n:=lo)];apply ai;simp [Y,g5,v5,v7,q_,-av,aU (n:=c.min-d.min),aU (n:=c.min-d.min+a.len),aU (n:=c.min-d.min+a.len-1),f2];apply ai;simp;refine aG ?_;refine cP (fun n s=>∃(k:Int) (m:T) (J:aj),s=⟨m,[],J⟩∧n=(u+1-k).toNat∧lo≤k∧(k=lo∨k≤u+1)∧m.g 0=.c (.yl bb)∧m.g 1=.c (.f (.fp a.row 0))∧m.g 2=.c (.f (.fp b.row 0))∧m.g 13=.c (.f (sl a.cg (aL a.cs)))∧m.g 14=t.g 14∧m.g 15=t.g 15∧m.g 5=.c (.ptr S 0 0)∧m.g 7=.c (.ptr W 0 0)∧m.g 9=vi u∧m.g 10=vi k∧m.g 20=.c (.f (sl b.cg (aL b.cs)))∧m.g 21=t'.g 21∧m.g 22=t'.g 22∧W<J.length∧J[S]?=aa (.box [.f (sl c.mg (aJ c.ts)),.f (fi c.min)] 0)∧J[W]?=aa (.box [.f (sl d.mg (aJ d.ts)),.f (fi d.min)] 0)∧∃ ps,PP ps J∧(∀ p ∈ ps,qo a b p)∧(∀(B:Nat) (hi:B<a.cs.length),B<i→∀ d ∈ b.cs,∀ k,Bw a.len b.len a.cs[B] d≤k→k≤Bj a.len b.len a.cs[B] d→∃ p ∈ ps,p.c=a.cs[B]∧p.d=d∧p.k=k) ∧
     (∀(O:Nat) (hj:O<b.cs.length),O<j→∀ k,Bw a.len b.len c b.cs[O]≤k→k≤Bj a.len b.len c b.cs[O]→∃ p ∈ ps,p.c=c∧p.d=b.cs[O]∧p.k=k)∧∀ k',lo≤k'→k'<k→∃ p ∈ ps,p.c=c∧p.d=d∧p.k=k') (u+1-lo).toNat
     ⟨lo,_,J1,rfl,rfl,by omega,.inl rfl,by simp [g0],by simp [Y],by simp [X],by simp [v],by simp [F],by simp [I],by simp [g5],by simp,by simp,by simp,by simp [K],by simp,by simp,by omega,h_,c7,ps,b_,A,l,q,fun k' _ _=>by omega⟩ ?_
    clear hP A l q b_ c5 h_ c7 v5 v7;rintro n s ⟨k,m,J2,rfl,rfl,k0,k1,g0,Y,X,v,F,I,g5,g7,g9,z,K,a8,a_,hl7,c5,c7,ps,hP,A,l,q,c_⟩ ih;apply ak;apply ai;simp [g9,z];by_cases v_:k≤u
    ·refine aq (by simp [v_]) (aO ?_);obtain⟨v5,w5,x5⟩:=m5 J2 c5;obtain⟨v7,w7,x7⟩:=m7 J2 c7;have g_:unV .neg (vi k)=aa (vi (-k)):=by
      show aa (vi (IntKind.i64.wrap (0-k)))=_;rw [Int.zero_sub,aU]
     obtain⟨U,f_⟩:=aI (J2.length);have i5:∀(m:T) (E:aj) (p:Pr),qo a b p→p.c=c→p.d=d→p.k=k→m.g 0=.c (.yl bb)→m.g 1=.c (.f (.fp a.row 0))→m.g 2=.c (.f (.fp b.row 0))→m.g 13=.c (.f (sl a.cg (aL a.cs)))→m.g 14=t.g 14→m.g 15=t.g 15→m.g 5=.c (.ptr S 0 0)→m.g 7=.c (.ptr W 0 0)→m.g 9=vi u→m.g 10=vi k→m.g 11=.c (.ptr U 0 0)→m.g 20=.c (.f (sl b.cg (aL b.cs)))→m.g 21=t'.g 21→m.g 22=t'.g 22 →
       E[U]?=aa (.box p.row 0)→(∀ i:Nat,i<J2.length→E[i]?=J2[i]?)→E.length=J2.length+1 →
       WP tab 104 ab [.code Ag,.inBlock 5,.code Ah,.inLoop Af,.inBlock 4,.inBlock 3,.code (sU 22 88),.inLoop (iN 2 22 21 23 88 Ae),.inBlock 2,.inBlock 1,.code (sU 15 89),.inLoop (iN 0 15 14 16 89 Eo),.inBlock 0] ⟨m,[],E⟩ Q:=by
      intro m E p i9 x8 x9 x_ g0 Y X v F I g5 g7 g9 z s_ K a8 a_ x6 i8 hl3;have t8:PP ps E:=hk ps J2 E hP (fun i hi=>i8 i (by omega)) (by omega);obtain⟨r,J4,v8,hr⟩:=hy ps p E t8 (by omega) i9;have y6:p.row.length=8:=rfl;have tk:List.take 8 p.row=p.row:=rfl;have l8:aS E (aa 8) (.c (.ptr U 0 0))=aa (.a p.row):=by simp [aS,aE,x6,aQ,y6,tk]
      apply ak;refine al (.inl rfl) ?_;simp [g0,s_,l8,-av,v8.eq];cases r with
      | false=>exact aq (by simp) (aB (hQ _ _ (.t []) rfl rfl ⟨rfl,.inr ⟨p,i9,by simpa using hr⟩⟩))
      | true=>
      obtain⟨t9,hl4,m_⟩:PP (ps++[p]) J4∧E.length≤J4.length∧∀ i:Nat,H.length≤i→i<E.length→J4[i]?=E[i]?:=by simpa using hr
      refine aD (by simp) (aO (aw ?_));refine al (.inl rfl) ?_;simp [z,aU (n:=k+1)];have n5:J4[S]?=J2[S]?:=by rw [m_ S (by omega) (by omega),i8 S (by omega)]
      have n7:J4[W]?=J2[W]?:=by rw [m_ W (by omega) (by omega),i8 W (by omega)]
      refine ih (u+1-(k+1)).toNat _ (by omega) ⟨k+1,_,J4,rfl,rfl,by omega,.inr (by omega),by simp [g0],by simp [Y],by simp [X],by simp [v],by simp [F],by simp [I],by simp [g5],by simp [g7],by simp [g9],by simp,by simp [K],by simp [a8],by simp [a_],by omega,by rw [n5];exact c5,by rw [n7];exact c7,ps++[p],t9,fun x hx=>?_,fun B m4 d9 d' u6 k' Z h2=>?_,fun O b9 d9 k' Z h2=>?_,fun k' Z h2=>?_⟩
      ·rcases asw.1 hx with h | h
       ·exact A x h
       ·rw [asj]at h;rw [h];exact i9
      ·obtain⟨x,hx,h⟩:=l B m4 d9 d' u6 k' Z h2;exact⟨x,atj _ hx,h⟩
      ·obtain⟨x,hx,h⟩:=q O b9 d9 k' Z h2;exact⟨x,atj _ hx,h⟩
      ·by_cases e:k'=k
       ·exact⟨p,by simp,x8,x9,by rw [x_,e]⟩
       ·obtain⟨x,hx,h⟩:=c_ k' Z (by omega);exact⟨x,atj _ hx,h⟩
     obtain⟨E,e_⟩:=aI (J2++[bq.box [.f (sl c.mg (aJ c.ts)),.f (fi c.min),.f (sl d.mg (aJ d.ts)),.f (fi d.min),.f (fi k),.f (sl c.mg (aJ c.ts)),.f (sl d.mg (aJ d.ts)),.f (fi (max 0 (-k)))] 0]);have i4:E[U]?=aa (.box [.f (sl c.mg (aJ c.ts)),.f (fi c.min),.f (sl d.mg (aJ d.ts)),.f (fi d.min),.f (fi k),.f (sl c.mg (aJ c.ts)),.f (sl d.mg (aJ d.ts)),.f (fi (max 0 (-k)))] 0):=by rw [e_,f_];simp
     have k3:∀ i:Nat,i<J2.length→E[i]?=J2[i]?:=fun i hi=>by rw [e_,AT hi]
     have l3:E.length=J2.length+1:=by rw [e_,api];rfl
     obtain⟨-,-,y7⟩:=m5 E (by rw [k3 S (by omega)];exact c5);obtain⟨-,-,y8⟩:=m7 E (by rw [k3 W (by omega)];exact c7);apply ak;refine aG ?_;apply ai;simp [g5,g7,z,w5,x5,w7,x7,-av,g_];rw [←e_,←f_];apply ak;apply ai;simp [z];by_cases kp:0<k
     ·have m9:k=1:=by omega
      obtain⟨us,j4,i_,d_⟩:=yg d.mg d.ts f8;rw [show(-1:Int) = -k by omega]at d_;obtain⟨J4,L⟩:=aI (E.set U (.box [.f (sl c.mg (aJ c.ts)),.f (fi c.min),.f (sl d.mg (aJ d.ts)),.f (fi d.min),.f (fi k),.f (sl c.mg (aJ c.ts)),.f (sl .fs (aJ us)),.f (fi (max 0 (-k)))] 0));have s6:de E (.ptr U 6 0) [.f (sl .fs (aJ us))]=aa J4:=by rw [L];simp [de,i4,over]
      refine aq (by simp [kp]) ?_;refine al (.inl rfl) ?_;simp [g7,z,y8,-av,g_,d_,s6,-bf];apply ak;apply ai;simp [z,show¬ k<0 by omega];refine bp (by simp) ?_;refine i5 _ J4 ⟨c,d,k,c.mg,c.ts,Tg.fs,us⟩ ⟨M,N,by show Bw a.len b.len c d≤k;omega,by show k≤Bj a.len b.len c d;omega,f7,j4,fun x hx=>?_,fun x hx=>?_⟩ rfl rfl rfl (by simp [g0]) (by simp [Y]) (by simp [X]) (by simp [v]) (by simp [F]) (by simp [I]) (by simp [g5]) (by simp [g7]) (by simp [g9]) (by simp [z]) (by simp) (by simp [K]) (by simp [a8]) (by simp [a_]) ?_ (fun i hi=>by rw [L,AI (by omega)];exact k3 i hi) (by rw [L,ass];exact l3)
      ·show gU c.ts x↔gU c.ts (x+max 0 (-k));rw [show x+max 0 (-k)=x by omega]
      ·show gU us x↔gU d.ts (x+max 0 k);rw [i_ x,show x+1=x+max 0 k by omega]
      ·rw [L,IN (by omega)];simp [Pr.row]
     ·refine bp (by simp [kp]) ?_;apply ak;apply ai;simp [z];by_cases kn:k<0
      ·have m9:k = -1:=by omega
       obtain⟨us,j4,i_,d_⟩:=yg c.mg c.ts f7;rw [←m9]at d_;obtain⟨J4,L⟩:=aI (E.set U (.box [.f (sl c.mg (aJ c.ts)),.f (fi c.min),.f (sl d.mg (aJ d.ts)),.f (fi d.min),.f (fi k),.f (sl .fs (aJ us)),.f (sl d.mg (aJ d.ts)),.f (fi (max 0 (-k)))] 0));have s5:de E (.ptr U 5 0) [.f (sl .fs (aJ us))]=aa J4:=by rw [L];simp [de,i4,over]
       refine aq (by simp [kn]) ?_;refine al (.inl rfl) ?_;simp [g5,z,y7,-av,d_,s5,-bf];refine i5 _ J4 ⟨c,d,k,Tg.fs,us,d.mg,d.ts⟩ ⟨M,N,by show Bw a.len b.len c d≤k;omega,by show k≤Bj a.len b.len c d;omega,j4,f8,fun x hx=>?_,fun x hx=>?_⟩ rfl rfl rfl (by simp [g0]) (by simp [Y]) (by simp [X]) (by simp [v]) (by simp [F]) (by simp [I]) (by simp [g5]) (by simp [g7]) (by simp [g9]) (by simp [z]) (by simp) (by simp [K]) (by simp [a8]) (by simp [a_]) ?_ (fun i hi=>by rw [L,AI (by omega)];exact k3 i hi) (by rw [L,ass];exact l3)
       ·show gU us x↔gU c.ts (x+max 0 (-k));rw [i_ x,show x+1=x+max 0 (-k) by omega]
       ·show gU d.ts x↔gU d.ts (x+max 0 k);rw [show x+max 0 k=x by omega]
       ·rw [L,IN (by omega)];simp [Pr.row]
      ·refine bp (by simp [kn]) ?_;have z_:k=0:=by omega
       refine i5 _ E ⟨c,d,k,c.mg,c.ts,d.mg,d.ts⟩ ⟨M,N,by show Bw a.len b.len c d≤k;omega,by show k≤Bj a.len b.len c d;omega,f7,f8,fun x hx=>?_,fun x hx=>?_⟩ rfl rfl rfl (by simp [g0]) (by simp [Y]) (by simp [X]) (by simp [v]) (by simp [F]) (by simp [I]) (by simp [g5]) (by simp [g7]) (by simp [g9]) (by simp [z]) (by simp) (by simp [K]) (by simp [a8]) (by simp [a_]) i4 k3 l3
       ·show gU c.ts x↔gU c.ts (x+max 0 (-k));rw [show x+max 0 (-k)=x by omega]
       ·show gU d.ts x↔gU d.ts (x+max 0 k);rw [show x+max 0 k=x by omega]
    ·refine aD (by simp;omega) ?_;refine bR rfl ?_;refine aw (j7 _ _ ⟨by simp [g0],by simp [Y],by simp [X],by simp [v],by simp [F],by simp [I],by simp [g5],by simp [K],by omega,c5,ps,hP,A,l,fun O b9 d9 k' Z h2=>?_⟩ (by simp [a_,j9]) (by simp [a8,j8]));by_cases e:O=j
     ·subst e;rw [←k_]at Z h2 ⊢;exact c_ k' (by omega) (by omega)
     ·exact q O b9 (by omega) k' Z h2
   ·rintro t' J ⟨g0,Y,X,v,F,I,g5,K,n8,c5,ps,hP,A,l,q⟩ - -;refine aw (next _ _ ⟨by simp [g0],by simp [Y],by simp [X],by simp [v],by omega,ps,hP,A,fun B u d9 d hd k Z h2=>?_⟩ (by simp [I,hc]) (by simp [F,t_]));by_cases e:B=i
    ·subst e;rw [←j_]at Z h2 ⊢;obtain⟨O,b9,rfl⟩:=asZ hd;exact q O b9 b9 k Z h2
    ·exact l B u (by omega) d hd k Z h2
  ·rintro t J ⟨g0,Y,X,v,t7,ps,hP,A,l⟩ - -;exact cL (hQ _ _ _ rfl rfl ⟨rfl,.inl ⟨ps,hP,A,fun c hc d hd k Z h2=>by
    obtain⟨B,u,rfl⟩:=asZ hc;exact l B u u d hd k Z h2⟩⟩)
 exact⟨H2,he,hP⟩
theorem Ov{bb:Nat}{H:aj}(a b:aT)(u:rK a)(v:rK b)(PP:List Pr→aj→Prop)(h0:PP [] H)
  (y:∀ ps J J',PP ps J→(∀ i:Nat,i<H.length→J'[i]?=J[i]?)→J.length≤J'.length→PP ps J')
  (z:∀ ps p J,PP ps J→H.length≤J.length→qo a b p→∃ J',Ev tab (.yield bb) [.a p.row] J (vb ae) J'∧PP (ps++[p]) J'∧J.length≤J'.length∧∀ i:Nat,H.length≤i→i<J.length→J'[i]?=J[i]?) :
  ∃ g,Ev tab (.fn 104) [.c (.yl bb),.c (.f (.fp a.row 0)),.c (.f (.fp b.row 0))] H (.t []) g∧∃ ps,PP ps g∧(∀ p ∈ ps,qo a b p)∧∀ c ∈ a.cs,∀ d ∈ b.cs,∀ k,Bw a.len b.len c d≤k→k≤Bj a.len b.len c d→∃ p ∈ ps,p.c=c∧p.d=d∧p.k=k:=by
 obtain⟨g,x,h | ⟨_,_,h⟩⟩:=oh a b u v PP (fun _ _=>False) h0 y fun ps p J j l m=>by
  obtain⟨J',q,s⟩:=z ps p J j l m;exact⟨ae,J',q,by simpa using s⟩
 ·exact⟨g,x,h⟩
 ·exact h.elim
end Go.Proofs.YtnaofdffomdmhaaGreat
namespace Go.Proofs.YtnaofdffomdmhaaGreat
open Go Km
def amh:bq→Bool
 | .cj _ _ _ _ _=>ag| _=>ae
def mw:List Nat→aj→aj
 | [],H=>H| b::d,H=>mw d (H.set b (.fj ag))
structure fH(bs:List Nat)(H:aj):Prop where
 nd:bs.Nodup
 on:∀ b ∈ bs,H[b]?=aa (.fj ae)
theorem j3{call:cU}:∀ {d:List Nat} {H:aj},fH d H→dO call (d.map .gM) H=aa (mw d H)
 | [],H,_=>rfl
 | b::d,H,h=>by
  have l:=h.on b asn;have g:=List.nodup_cons.1 h.nd;simp only [asq,dO,l,mw];exact j3 ⟨g.2,fun x j=>by rw [AI (by rintro rfl;exact g.1 j)];exact h.on x (asm _ j)⟩
theorem iC:∀ {d:List Nat} {H:aj} {i:Nat},i ∉ d→(mw d H)[i]?=H[i]?
 | [],_,_,_=>rfl
 | b::d,H,i,h=>by
  simp only [asv,not_or]at h;rw [mw,iC h.2,AI (Ne.symm h.1)]
def ajc(res:List gw)(r:V)(s:St):Prop:=∃ b,s.defs=b.map .gM∧fH b s.heap∧∃ d,Km.results s.az (mw b s.heap) res=aa d∧iV deep (mw b s.heap) d=aa r
theorem yu{f:Nat}{args:List V}{S:V→Prop}{ps:List P}{res:List gw}{body:aF}(A:tab f=aa ⟨ps,res,body⟩)(y:args.length=ps.length)
  (h:∀ Q:Option aF→St→Prop,(∀ j s r,S r→ajc res r s→Q j s)→WP tab f ab [.code body] ⟨cM ps args .e,[],[]⟩ Q):∃ r,S r∧bh tab f args r:=by
 have q:=h (fun _ s=>∃ r,S r∧ajc res r s) fun _ _ r b g=>⟨r,b,g⟩
 obtain⟨n,m,d,j,s,b,r,z,l,x,v,B,g,u⟩:=q;exact⟨r,z,B,mw l s.heap,rq A y ⟨n,m,d,j,s,b,0,0,_,by rw [x];exact j3 v,g,rfl⟩,u⟩
theorem fH.set{d:List Nat}{H:aj}(h:fH d H){i:Nat}{y z:bq}(hi:H[i]?=aa y)(hy:y≠.fj ae):fH d (H.set i z):=⟨h.nd,fun b g=>by
 have:=h.on b g;rw [AI (by rintro rfl;rw [this]at hi;cases hi;exact hy rfl)];exact this⟩
theorem fH.not{b:List Nat}{H:aj}(h:fH b H){i:Nat}{y:bq}(hi:H[i]?=aa y)(hy:y≠.fj ae):i ∉ b:=fun d=>by
 have:=h.on i d;rw [hi]at this;cases this;exact hy rfl
theorem AQ(a b:aT)(s:a.xs=[]):∃ v,v=ag∧bh tab 54 [.a (a.row.map .f),.a (b.row.map .f)]=Eq (vb v):=by
 refine⟨ag,rfl,bh.eq (bV rfl rfl fun Q q=>?_)⟩;apply ai;simp [aT.row,s];apply ak;apply ai;have d:∀(K:aj) (g:Tg),bt K (.f (sl g (aH [])))=aa 0:=fun K g=>by cases g<;>rfl
 simp [d];refine bW 0 (fun _ t K=>t.g 4=.c (.ptr 2 0 0)∧K[2]?=aa (.box [.f (.bool ag)] 0)) (by omega) (by decide) (by decide) (by simp) (by simp) ⟨by simp,rfl⟩ (fun j t H x=>by omega) ?_;rintro t K ⟨l,m⟩ - -;have u:de K (.ptr 2 0 0) [.f (.bool ag)]=aa (K.set 2 (.box [.f (.bool ag)] 0)):=by simp [de,m,over]
 apply ai;simp [l,u,-bf];refine aB (q _ _ ?_);simp [Km.results,bg,l,an m]
end Go.Proofs.YtnaofdffomdmhaaGreat
namespace Go.Proofs.YtnaofdffomdmhaaGreat
open Go Km
def aM.lt(x y:aM):Prop:=x.fr<y.fr∨x.fr=y.fr∧(x.day<y.day∨x.day=y.day∧x.to<y.to)
theorem BJ(x y:aM):gJ x y<0↔x.lt y:=by
 unfold gJ aM.lt;simp only [BI,ef]
 repeat' split
 all_goals omega
theorem aM.lt_trans{x y z:aM}(h:x.lt y)(b:y.lt z):x.lt z:=by unfold aM.lt at *;omega
theorem aM.al_{x y:aM}(h:¬ x.lt y)(d:x≠y):y.lt x:=by
 obtain⟨a,b,c⟩:=x;obtain⟨a',g,j⟩:=y;unfold aM.lt at *;simp only [ne_eq,aM.mk.injEq]at d;simp only at h ⊢;omega
def aM.le(x y:aM):Prop:=¬ y.lt x
theorem aM.le_trans{x y z:aM}(h:x.le y)(b:y.le z):x.le z:=by unfold aM.le aM.lt at *;omega
theorem aM.ao7{x y:aM}(h:x.lt y):x.le y:=by unfold aM.le aM.lt at *;omega
@[simp] theorem aM.aqi (x:aM):x.row.length=3:=rfl
theorem DB{b:Type}(A:List b)(x:b)(B:List b):(A++x::B)[A.length]?=aa x:=by simp
theorem FO{b:Type}(A:List b)(x y:b)(B:List b):(A++x::B).set A.length y=A++y::B:=by simp
theorem lf(l:List aM)(j:Nat)(x:aM):(aH l).set j x.row=aH (l.set j x):=by simp [aH,List.map_set]
theorem fB{l:List aM}{j:Nat}{x:aM}(h:l[j]?=aa x):(aH l)[j]?=aa x.row:=by simp [aH,h]
theorem zq{H:aj}{b ep F:Nat}{l:List aM}(hF:∀ x y:aM,Kf tab F [.a (x.row.map .f),.a (y.row.map .f)] (vi (gJ x y)))(hl:l.length≤1000000)(hb:RB H b 3 ep (aH l)) :
  ∃ r H',Ev tab (.fn 341) [.c (.sl b 0 l.length 0 ep 3),vi 0,vi l.length,.c (.f (.fn F []))] H r H' ∧
   (r=.t []∧Fm b H H'∧∃ l':List aM,RB H' b 3 ep (aH l')∧l'.Perm l∧l'.Pairwise aM.le):=by
 refine cJ rfl rfl fun Q hQ=>?_;apply ai;simp [aU (n:=(1:Int))];refine aG ?_;refine cP (fun n s=>∃(i:Nat) (t:T) (Y:aj) (rows:List aM),s=⟨t,[],Y⟩∧n=l.length+1-i∧1≤i∧(i≤l.length∨i=1)∧t.g 0=.c (.sl b 0 l.length 0 ep 3)∧t.g 1=vi 0∧t.g 2=vi l.length∧t.g 3=.c (.f (.fn F []))∧t.g 8=vi i ∧
  Fm b H Y∧RB Y b 3 ep (aH rows)∧rows.Perm l∧(rows.take i).Pairwise aM.le) l.length
  ⟨1,_,H,l,rfl,by omega,by omega,.inr rfl,by simp,by simp,by simp,by simp,by simp,Fm.refl H,hb,.refl _,?_⟩ ?_
 ·cases l with
  | nil=>simp| cons x r=>simp
 rintro n s ⟨i,t,Y,rows,rfl,rfl,f_,hi,g0,L,N,O,M,u,d,v,E⟩ ih;have a_:=v.length_eq;apply ak;apply ai;simp [M,N];by_cases b9:i<l.length
 case neg=>
  refine aD (by simp [b9]) ?_;refine bR (k':=[]) rfl ?_;refine cL (hQ _ _ _ rfl rfl ⟨rfl,u,rows,d,v,?_⟩);rwa [arf (by omega)]at E
 refine aq (by simp [b9]) (aO ?_);apply ak;refine aG ?_;apply ai;simp [M];refine aG ?_;obtain⟨S,x,C,q,hS⟩:∃ S x C,rows=S++x::C∧S.length=i:=by
  refine⟨rows.take i,rows[i]'(by omega),rows.drop (i+1),?_,by simp;omega⟩;rw [←arM (by omega),List.take_append_drop]
 have e_:S.Pairwise aM.le:=by
  rw [q,asG (by omega),arf (by omega)]at E;exact E
 refine cP (fun n s=>∃(t:T) (I:aj) (A B:List aM),s=⟨t,[],I⟩∧n=A.length∧S=A++B∧t.g 0=.c (.sl b 0 l.length 0 ep 3)∧t.g 1=vi 0∧t.g 2=vi l.length∧t.g 3=.c (.f (.fn F []))∧t.g 8=vi i∧t.g 9=vi A.length ∧
  Fm b H I∧RB I b 3 ep (aH (A++x::B++C))∧(∀ y ∈ B,x.le y)) i
  ⟨_,Y,S,[],rfl,hS.symm,by simp,by simp [g0],by simp [L],by simp [N],by simp [O],by simp [M],by simp [hS],u,by rw [q]at d;simpa using d,by simp⟩ ?_
 rintro n s ⟨t,I,A,B,rfl,rfl,K,g0,L,N,O,M,g9,u,d,hB⟩ f8;have stop:(A++x::B).Pairwise aM.le→∀ t:T,t.g 0=.c (.sl b 0 l.length 0 ep 3)→t.g 1=vi 0→t.g 2=vi l.length→t.g 3=.c (.f (.fn F []))→t.g 8=vi i→∀ I,Fm b H I→RB I b 3 ep (aH (A++x::B++C)) →
   WP tab 341 ab [.inBlock 1,.code mR,.inLoop oH,.inBlock 0] ⟨t,[],I⟩ Q:=by
  intro hp t g0 L N O M I u d;refine aw (al (.inl rfl) ?_);simp [M,aU (n:=(i:Int)+1)];have g_:(A++x::B).length=i+1:=by rw [←hS,K];simp;omega
  refine ih (l.length+1-(i+1)) _ (by omega) ⟨i+1,_,I,A++x::B++C,rfl,rfl,by omega,.inl (by omega),by simp [g0],by simp [L],by simp [N],by simp [O],by simp,u,d,?_,?_⟩
  ·refine List.Perm.trans ?_ v;rw [q,K];simp only [List.append_assoc,ati];exact List.Perm.append_left A (List.perm_middle.symm)
  ·rw [asG (by omega),arf (by omega)];exact hp
 have h_:l.length=A.length+1+B.length+C.length:=by rw [←a_,q,K];simp;omega
 have b_:(A++B).Pairwise aM.le:=K▸e_;rw [atb]at b_;obtain⟨p1,p2,p3⟩:=b_;rcases List.eq_nil_or_concat A with rfl | ⟨J,y,rfl⟩
 ·
  apply ak;apply ai;simp [g9,L];refine aD (by simp) ?_;refine bR (k':=[.inBlock 1,.code mR,.inLoop oH,.inBlock 0]) rfl ?_;refine stop ?_ _ (by simp [g0]) (by simp [L]) (by simp [N]) (by simp [O]) (by simp [M]) _ u d;rw [as9,ata];exact⟨hB,p2⟩
 ·obtain⟨m,X⟩:=aI (J.length);have c_:=d;have e0:J++[y]++x::B++C=J++y::x ::(B++C):=by simp
  rw [List.concat_eq_append]at *;rw [e0]at d;have gx:(J++y::x ::(B++C))[m+1]?=aa x:=by rw [X,IS (by omega)];simp
  have gy:(J++y::x ::(B++C))[m]?=aa y:=by rw [X];exact DB _ _ _
  have U:t.g 9=vi ((m:Int)+1):=by rw [g9,X];simp
  have hA:(J++[y]).length=m+1:=by rw [X];simp
  have i1:=d.idx (n:=l.length) (c:=0) (k:=.i64) (o:=0) (i:=(m:Int)+1) (by omega) (by omega);have i0:=d.idx (n:=l.length) (c:=0) (k:=.i64) (o:=0) (i:=(m:Int)) (by omega) (by omega);have t1:((m:Int)+1).toNat=m+1:=by omega
  rw [t1,asN]at i1;rw [asy,asN]at i0;have l1:=d.ldr (bz _) (fB gx);have l0:=d.ldr (bz _) (fB gy);have he:=(hF x y).ev I;apply ak;apply ai;simp [U,g0,L,O,show(0:Int)<(m:Int)+1 by omega,i1,i0,l1,l0,he,-av,aU (n:=(m:Int))];by_cases hc:gJ x y<0
  case neg=>
   refine aD (by simp [hc]) ?_;refine bR (k':=[.inBlock 1,.code mR,.inLoop oH,.inBlock 0]) rfl ?_;refine stop ?_ _ (by simp [g0]) (by simp [L]) (by simp [N]) (by simp [O]) (by simp [M]) _ (u.trans (Fm.push _ _)) (c_.push _);have d9:y.le x:=fun h=>hc ((BJ _ _).2 h);rw [atb];refine⟨p1,ata.2 ⟨hB,p2⟩,fun a ha z W=>?_⟩;rcases asv.1 W with rfl | W
   ·rcases asw.1 ha with h | h
    ·exact aM.le_trans ((atb.1 p1).2.2 a h y (by simp)) d9
    ·obtain rfl:=asj.1 h;exact d9
   ·exact p3 a ha z W
  have f7:x.lt y:=(BJ _ _).1 hc;have g:=d.push (ahG tab F [.a (x.row.map .f),.a (y.row.map .f)] I);obtain⟨HJ,Z⟩:=aI (I++ahG tab F [.a (x.row.map .f),.a (y.row.map .f)] I);rw [←Z]at g ⊢;have a8:Fm b H HJ:=by rw [Z];exact u.trans (Fm.push _ _)
  have lx:m+1<(aH (J++y::x ::(B++C))).length:=by simp;omega
  have i1:=g.idx (n:=l.length) (c:=0) (k:=.i64) (o:=0) (i:=(m:Int)+1) (by omega) (by omega);have i0:=g.idx (n:=l.length) (c:=0) (k:=.i64) (o:=0) (i:=(m:Int)) (by omega) (by omega);rw [t1,asN]at i1;rw [asy,asN]at i0;have l1:=g.ldr (bz _) (fB gx);have l0:=g.ldr (bz _) (fB gy);obtain⟨H3,s1,r1,f1,-⟩:=g.str (bz _) lx (row:=y.row) rfl;rw [lf]at r1;have d_:=r1.idx (n:=l.length) (c:=0) (k:=.i64) (o:=0) (i:=(m:Int)) (by omega) (by omega);rw [asy,asN]at d_;obtain⟨H4,s2,r2,f2,-⟩:=r1.str (bz _) (j:=m) (by simp;omega) (row:=x.row) rfl;rw [lf]at r2;have e4:((J++y::x ::(B++C)).set (m+1) y).set m x=J++x ::(y::B)++C:=by
   rw [X,List.set_append_right _ _ (by omega)];simp
  rw [e4]at r2;refine aq (by simp [hc]) (aO ?_);apply ak;refine aG ?_;refine al (.inl rfl) ?_;simp [U,g0,i1,i0,d_,l1,l0,s1,s2,-av,-bf,aU (n:=(m:Int))];refine aw ?_;refine al (.inl rfl) ?_;simp [U,aU (n:=(m:Int))];refine f8 J.length _ (by simp) ⟨_,H4,J,y::B,rfl,rfl,by rw [K];simp,by simp [g0],by simp [L],by simp [N],by simp [O],by simp [M],by simp [X],a8.trans (f1.trans f2),r2,fun z W=>?_⟩;rcases asv.1 W with rfl | W
  ·exact aM.ao7 f7
  ·exact hB z W
def al'(n:Nat):Int:=if n=0 then 0 else if n=1 then 1 else if n≤3 then 2 else if n≤7 then 3 else 4
theorem ahP:(List.range 13).map (fun n:Nat=>RK 280 [.c (.f (.int .u64 n))] (vi (al' n)))=(List.range 13).map fun n:Nat=>(vi (al' n)=vi (al' n)):=by kernel_rfl
theorem aaY{n:Nat}(h:n≤12):∃ k:Int,bh tab 280 [.c (.f (.int .u64 n))]=Eq (vi k):=
 ⟨_,rh ahP (atN.2 (show n<13 by omega))⟩
theorem ams{H:aj}{b ep F:Nat}{l:List aM}{k:Int}(q:∀ x y:aM,Kf tab F [.a (x.row.map .f),.a (y.row.map .f)] (vi (gJ x y)))(A:l.length≤12)(v:RB H b 3 ep (aH l)) :
  ∃ r H',Ev tab (.fn 279) [.c (.sl b 0 l.length 0 ep 3),vi 0,vi l.length,vi k,.c (.f (.fn F []))] H r H' ∧
   (r=.t []∧Fm b H H'∧∃ l':List aM,RB H' b 3 ep (aH l')∧l'.Perm l∧l'.Pairwise aM.le):=by
 obtain⟨r,H',z,rfl,d,l',g,j,m⟩:=zq q (by omega) v;refine cJ rfl rfl fun Q u=>?_;apply ai;simp;apply ai;simp;refine aG ?_;refine cP (fun _ s=>s=⟨_,[],H⟩) 0 rfl ?_;rintro _ s rfl -;refine aG ?_;apply ai;simp [aU (n:=(l.length:Int))];apply ak;apply ai;simp;refine aq (by simp;omega) ?_;apply ai;simp [z.eq];exact aB (u _ _ _ rfl rfl ⟨rfl,d,l',g,j,m⟩)
theorem aaO{H:aj}{b ep F:Nat}{l:List aM}(u:∀ x y:aM,Kf tab F [.a (x.row.map .f),.a (y.row.map .f)] (vi (gJ x y)))(g:l.length≤12)(d:RB H b 3 ep (aH l)) :
  ∃ r H',Ev tab (.fn 203) [.c (.sl b 0 l.length 0 ep 3),.c (.f (.fn F []))] H r H' ∧
   (r=.t []∧Fm b H H'∧∃ l':List aM,RB H' b 3 ep (aH l')∧l'.Perm l∧l'.Pairwise aM.le):=by
 obtain⟨k,A⟩:=aaY g;obtain⟨r,H',z,rfl,j,l',m,q,s⟩:=ams (k:=k) u g d;refine cJ rfl rfl fun Q v=>?_;apply ai;simp [d.len];refine al (.inl rfl) ?_;have B:IntKind.wrap .u64 (l.length:Int)=l.length:=by
  show(l.length:Int) % 18446744073709551616=l.length;omega
 simp [B,A,z.eq];exact cL (v _ _ _ rfl rfl ⟨rfl,j,l',m,q,s⟩)
theorem wM{H:aj}{F:Nat}:∃ r H',Ev tab (.fn 341) [.c (.f .au),vi 0,vi 0,.c (.f (.fn F []))] H r H'∧(r=.t []∧H'=H):=by
 refine cJ rfl rfl fun Q b=>?_;apply ai;simp [aU (n:=(1:Int))];refine aG ?_;refine cP (fun _ s=>s=⟨_,[],H⟩) 0 rfl ?_;rintro _ s rfl -;apply ak;apply ai;simp;refine aD (by simp) ?_;refine bR (k':=[]) rfl ?_;exact cL (b _ _ _ rfl rfl ⟨rfl,rfl⟩)
theorem ah3{H:aj}{F:Nat}{k:Int}:∃ r H',Ev tab (.fn 279) [.c (.f .au),vi 0,vi 0,vi k,.c (.f (.fn F []))] H r H'∧(r=.t []∧H'=H):=by
 obtain⟨r,H',d,rfl,rfl⟩:=wM (H:=H) (F:=F);refine cJ rfl rfl fun Q b=>?_;apply ai;simp;apply ai;simp;refine aG ?_;refine cP (fun _ s=>s=⟨_,[],_⟩) 0 rfl ?_;rintro _ s rfl -;refine aG ?_;apply ai;simp [aU (n:=(0:Int))];apply ak;apply ai;simp;refine aq (by simp) ?_;apply ai;simp [d.eq];exact aB (b _ _ _ rfl rfl ⟨rfl,rfl⟩)
theorem OQ{H:aj}{F:Nat}:∃ r H',Ev tab (.fn 203) [.c (.f .au),.c (.f (.fn F []))] H r H'∧(r=.t []∧H'=H):=by
 obtain⟨k,b⟩:=aaY (n:=0) (by omega);obtain⟨r,H',g,rfl,rfl⟩:=ah3 (H:=H) (F:=F) (k:=k);refine cJ rfl rfl fun Q d=>?_;apply ai;simp [bt];refine al (.inl rfl) ?_;have j:IntKind.wrap .u64 0=0:=rfl;simp at b;simp [j,b,g.eq];exact cL (d _ _ _ rfl rfl ⟨rfl,rfl⟩)
theorem aaW{x y:aM}(h:x.le y)(b:x≠y):x.lt y:=aM.al_ h (Ne.symm b)
def eqB(x y:aM):Bool:=x.day == y.day&&(x.fr == y.fr&&x.to == y.to)
theorem tc{x y:aM}:eqB x y=ae↔x=y:=by
 obtain⟨a,b,c⟩:=x;obtain⟨a',d,g⟩:=y;simp [eqB]
theorem Fu{l:List aM}(g:l.Pairwise aM.le){i j:Nat}(b:i<j)(d:j<l.length):(l[i]'(by omega)).le l[j]:=as0.1 g i j (by omega) d b
theorem C8{H:aj}{b ep:Nat}{l:List aM}(hl:l.length≤1000000)(hs:l.Pairwise aM.le)(B:RB H b 3 ep (aH l)) :
  ∃ r H',Ev tab (.fn 205) [.c (.sl b 0 l.length 0 ep 3)] H r H' ∧
   (∃ l' R:List aM,r=.c (.sl b 0 l'.length 0 ep 3)∧Fm b H H'∧RB H' b 3 ep (aH (l'++R))∧l'.length≤l.length∧l'.Pairwise aM.lt∧∀ x,x ∈ l'↔x ∈ l):=by
 refine cJ rfl rfl fun Q hQ=>?_;apply ai;simp;apply ak;apply ai;simp [B.len];by_cases h2:l.length<2
 ·refine aq (by simp;omega) ?_;apply ai;simp;refine aB (hQ _ _ _ rfl (jO (by simp)) ⟨l,[],rfl,Fm.refl _,by simpa using B,aft _,?_,fun _=>Iff.rfl⟩)
  match l,h2 with
  | [],_=>exact List.Pairwise.nil| [x],_=>exact atB _ _| x::y::r,h=>simp at h;omega
 refine aD (by simp;omega) (aO ?_);apply ak;apply ai;simp;refine aG ?_;refine cP (fun n s=>∃(k:Nat) (t:T),s=⟨t,[],H⟩∧n=l.length-k∧1≤k∧k≤l.length∧t.g 0=.c (.sl b 0 l.length 0 ep 3)∧t.g 3=vi k∧(l.take k).Pairwise aM.lt) (l.length-1)
  ⟨1,_,rfl,rfl,by omega,by omega,by simp,by simp,?_⟩ ?_
 ·cases l with
  | nil=>simp| cons x r=>simp
 rintro n s ⟨k,t,rfl,rfl,i6,i7,g0,A,hp⟩ ih;apply ak;apply ai;simp [g0,A,B.len];by_cases u:k<l.length
 case neg=>
  refine aD (by simp [u]) ?_;refine bR (k':=[.code mQ]) rfl ?_;apply ai;simp [g0];refine aB (hQ _ _ _ rfl (jO (by simp)) ⟨l,[],rfl,Fm.refl _,by simpa using B,aft _,?_,fun _=>Iff.rfl⟩);rwa [arf (by omega)]at hp
 refine aq (by simp [u]) (aO ?_);obtain⟨m,rfl⟩:∃ m,k=m+1:=⟨k-1,by omega⟩
 have ix:∀ {H:aj} {rows:List (List FC)} (B:RB H b 3 ep rows) (o n i:Nat) (hi:i<n),bA H 3 ab (.c (.sl b o n 0 ep 3)) (vi i)=aa (.c (.ptr b (o+i*3) ep)):=by
  intro H rows B o n i hi;have:=B.idx (n:=n) (c:=0) (k:=.i64) (o:=o) (i:=(i:Int)) (by omega) (by omega);rwa [asy]at this
 have i1:=ix B 0 l.length (m+1) u;have i0:=ix B 0 l.length m (by omega);have l1:=B.ldr (bz _) (gl (l:=l) (j:=m+1) u);have l0:=B.ldr (bz _) (gl (l:=l) (j:=m) (by omega));rw [asN]at i1 i0;have c1:((m+1:Nat):Int)-1=m:=by omega
 rw [show((m+1:Nat):Int)=(m:Int)+1 by omega]at i1;have c_:l.take (m+1+1)=l.take (m+1)++[l[m+1]]:=by rw [asQ,By u];rfl
 apply ak;refine aG ?_;apply ai;simp [g0,A,i1,i0,l1,l0,-av,aU (n:=(m:Int)),aM.row];cases hc:(l[m+1].day == l[m].day&&(l[m+1].fr == l[m].fr&&l[m+1].to == l[m].to))
 ·
  refine aD (by simp) (aO (aw ?_));refine al (.inl rfl) ?_;simp [A,aU (n:=(m:Int)+1+1)];refine ih (l.length-(m+2)) _ (by omega) ⟨m+2,_,rfl,rfl,by omega,by omega,by simp [g0],by simp;omega,?_⟩;show(l.take (m+1+1)).Pairwise aM.lt;have L:l[m]≠l[m+1]:=fun e=>by
   have:eqB l[m+1] l[m]=ae:=tc.2 e.symm;rw [eqB,hc]at this;cases this
  rw [c_,atb];refine⟨hp,atB _ _,fun y hy z hz=>?_⟩;obtain rfl:=asj.1 hz;obtain⟨i,hi,rfl⟩:=asZ hy;have i5:i<m+1:=by simp at hi;omega
  rw [List.getElem_take];by_cases e:i=m
  ·subst e;exact aaW (Fu hs (by omega) u) L
  ·exact aM.lt_trans (y:=l[m]) (by
    have h1:=as0.1 hp i m (by simp;omega) (by simp;omega) (by omega);simpa using h1) (aaW (Fu hs (by omega) u) L)
 ·
  have f7:l[m+1]=l[m]:=tc.1 hc;have c2:((m+1:Nat):Int)=(m:Int)+1:=by omega
  have M:=B.vX (k:=m+1) u;rw [c2]at M;refine aq (by simp) ?_;apply ai;simp [g0,A,M];apply ak;apply ai;simp;refine aG ?_;refine cP (fun n s=>∃(i:Nat) (t:T) (E:aj) (P R:List aM),s=⟨t,[],E⟩∧n=l.length-(m+2+i)∧m+2+i≤l.length∧t.g 0=.c (.sl b 0 l.length 0 ep 3)∧t.g 3=vi P.length∧t.g 4=.c (.sl b ((m+1)*3) (l.length-(m+1)) 0 ep 3)∧t.g 5=vi ((i:Int)+1) ∧
   Fm b H E∧RB E b 3 ep (aH (P++R))∧(P++R).length=l.length∧1≤P.length∧P.length≤m+1+i∧(∀ q,m+1+i≤q→(P++R)[q]?=l[q]?)∧P.Pairwise aM.lt∧∀ x,x ∈ P↔x ∈ l.take (m+2+i)) (l.length-(m+2))
   ⟨0,_,H,l.take (m+1),l.drop (m+1),rfl,rfl,by omega,by simp [g0],by simp [A];omega,by simp,by simp,Fm.refl _,by simpa using B,by simp,by simp;omega,by simp;omega,by simp,hp,fun x=>?_⟩ ?_
  ·show x ∈ l.take (m+1)↔x ∈ l.take (m+1+1);rw [c_,asw,asj];refine⟨.inl,fun h=>h.elim id fun e=>?_⟩;rw [e,f7];exact List.mem_take_iff_getElem.2 ⟨m,by omega,rfl⟩
  rintro n s ⟨i,t,E,P,R,rfl,rfl,hi,g0,A,O,S,F,d,v,U,d9,hq,J,g⟩ i4;have W:=d.len (o:=(m+1)*3) (l:=l.length-(m+1)) (c:=0);apply ak;apply ai;simp [O,S,W];by_cases I:m+2+i<l.length
  case neg=>
   have a_:m+2+i=l.length:=by omega
   refine aD (by simp;omega) ?_;refine bR (k':=[.code qj,.inBlock 1,.code qn,.inLoop qi,.inBlock 0,.code mQ]) rfl ?_;have a8:P.length<l.length:=by omega
   obtain⟨H3,e_,Y,f8⟩:=d.clr (bz _) (zs:=[fi 0,fi 0,fi 0]) (by simpa using v) a8 rfl;have M:=d.vX a8;apply ai;simp [g0,A,M,e_];have h_:=Y.abW (n:=l.length) (k:=P.length) (by omega) (by omega);apply ai;simp [g0,A,h_];have e3:(aH (P++R)).take P.length++List.replicate (l.length-P.length) [fi 0,fi 0,fi 0]=aH (P++List.replicate (l.length-P.length) ⟨0,0,0⟩):=by
    simp [aH,aM.row]
   rw [e3]at Y;refine aB (hQ _ _ _ rfl (jO (by simp)) ⟨P,_,rfl,F.trans f8,Y,by omega,J,fun x=>?_⟩);rw [g,a_,asK]
  have ha:(P++R)[m+2+i]?=aa l[m+2+i]:=by rw [hq _ (by omega),By I]
  have d_:(P++R)[m+1+i]?=aa (l[m+1+i]'(by omega)):=by rw [hq _ (by omega),By]
  have j1:=ix d ((m+1)*3) (l.length-(m+1)) (i+1) (by omega);have j0:=ix d ((m+1)*3) (l.length-(m+1)) i (by omega);rw [show(m+1)*3+(i+1)*3=(m+2+i)*3 by omega,show((i+1:Nat):Int)=(i:Int)+1 by omega]at j1;rw [show(m+1)*3+i*3=(m+1+i)*3 by omega]at j0;have d1:=d.ldr (bz _) (fB ha);have d0:=d.ldr (bz _) (fB d_);refine aq (by simp;omega) (aO ?_);apply ak;refine aG ?_;apply ai;simp [O,S,j1,j0,d1,d0,-av,aU (n:=(i:Int)),aM.row];have N:l.take (m+2+(i+1))=l.take (m+2+i)++[l[m+2+i]]:=by
   rw [show m+2+(i+1)=m+2+i+1 by omega,asQ,By I];rfl
  have next:∀(t:T) (E:aj) (P R:List aM),t.g 0=.c (.sl b 0 l.length 0 ep 3)→t.g 3=vi P.length→t.g 4=.c (.sl b ((m+1)*3) (l.length-(m+1)) 0 ep 3)→t.g 5=vi ((i:Int)+1) →
    Fm b H E→RB E b 3 ep (aH (P++R))→(P++R).length=l.length→1≤P.length→P.length≤m+2+i→(∀ q,m+2+i≤q→(P++R)[q]?=l[q]?)→P.Pairwise aM.lt→(∀ x,x ∈ P↔x ∈ l.take (m+2+(i+1))) →
    WP tab 205 ab [.inBlock 3,.code xk,.inLoop xj,.inBlock 2,.code qj,.inBlock 1,.code qn,.inLoop qi,.inBlock 0,.code mQ] ⟨t,[],E⟩ Q:=by
   intro t E P R g0 A O S F d v U d9 hq J g;refine aw (al (.inl rfl) ?_);simp [S,aU (n:=(i:Int)+1+1)];exact i4 (l.length-(m+2+(i+1))) _ (by omega) ⟨i+1,_,E,P,R,rfl,rfl,by omega,by simp [g0],by simp [A],by simp [O],by simp,F,d,v,U,by omega,fun q h=>hq q (by omega),J,g⟩
  have f_:(l[m+1+i]'(by omega)).le l[m+2+i]:=Fu hs (by omega) I;cases K:(l[m+2+i].day == l[m+1+i].day&&(l[m+2+i].fr == l[m+1+i].fr&&l[m+2+i].to == l[m+1+i].to))
  ·have L:l[m+1+i]≠l[m+2+i]:=fun e=>by
    have:eqB l[m+2+i] l[m+1+i]=ae:=tc.2 e.symm;rw [eqB,K]at this;cases this
   have b_:=aaW f_ L;have kx:=ix d 0 l.length P.length (by omega);rw [asN]at kx;obtain⟨H3,s3,r3,f3,-⟩:=d.str (bz _) (j:=P.length) (by rw [iZ,v];omega) (row:=(l[m+2+i]).row) rfl;rw [lf]at r3;obtain⟨x0,Z,rfl⟩:∃ x0 Z,R=x0::Z:=by
    cases R with
    | nil=>simp at v;omega| cons x0 Z=>exact⟨_,_,rfl⟩
   rw [FO]at r3;have X:¬l[m+2+i].day=l[m+1+i].day∨¬l[m+2+i].fr=l[m+1+i].fr∨¬l[m+2+i].to=l[m+1+i].to:=by
    simp at K;omega
   refine aq (by simpa using X) ?_;apply ai;simp only [aM.row,asq,asA]at s3;simp [g0,A,O,S,j1,d1,kx,s3,-av,-bf,aM.row];refine al (.inl rfl) ?_;simp [A,aU (n:=(P.length:Int)+1)];have e5:P++l[m+2+i]::Z=(P++[l[m+2+i]])++Z:=by simp
   rw [e5]at r3;refine next _ H3 (P++[l[m+2+i]]) Z (by simp [g0]) (by simp) (by simp [O]) (by simp [S]) (F.trans f3) r3 (by simpa using v) (by simp) (by simp;omega) (fun q h=>?_) ?_ fun x=>?_
   ·rw [←e5,←FO P x0,AI (by omega)];exact hq q (by omega)
   ·rw [atb];refine⟨J,atB _ _,fun y hy z hz=>?_⟩;obtain rfl:=asj.1 hz;obtain⟨q,g_,rfl⟩:=asZ ((g y).1 hy);have i8:q<m+2+i:=by simp at g_;omega
    rw [List.getElem_take];by_cases e:q=m+1+i
    ·subst e;exact b_
    ·have h1:=Fu hs (i:=q) (j:=m+1+i) (by omega) (by omega);unfold aM.le aM.lt at *;omega
   ·rw [N,asw,asw,g]
  ·have b9:l[m+2+i]=l[m+1+i]:=tc.1 K;have X:l[m+2+i].day=l[m+1+i].day∧l[m+2+i].fr=l[m+1+i].fr∧l[m+2+i].to=l[m+1+i].to:=by simpa using K
   refine aD (by simpa using X) (aO ?_);refine next _ E P R (by simp [g0]) (by simp [A]) (by simp [O]) (by simp [S]) F d v U (by omega) (fun q h=>hq q (by omega)) J fun x=>?_
   rw [N,asw,asj,g];refine⟨.inl,fun h=>h.elim id fun e=>?_⟩;rw [e,b9];exact List.mem_take_iff_getElem.2 ⟨m+1+i,by omega,rfl⟩
def LI(H:aj)(c:C)(o:List aM):Prop:=(o=[]∧c=.f .au)∨(o≠[]∧∃ b ep,c=.sl b 0 o.length 0 ep 3∧RB H b 3 ep (aH o))
theorem LI.push{H:aj}{c:C}{o:List aM}(h:LI H c o)(J:aj):LI (H++J) c o:=by
 rcases h with h | ⟨h,b,ep,h1,h2⟩
 ·exact .inl h
 ·exact .inr ⟨h,b,ep,h1,h2.push J⟩
theorem wN(o:List aM)(x:aM):(aH (o++[x])).flatten=(aH o).flatten++x.row:=by simp [aH]
theorem LI.app{H:aj}{c:C}{o:List aM}(h:LI H c o)(v:o.length≤1000000){b1 fl:Nat}{x:aM}(m:H[b1]?=aa (.box (x.row.map .f) fl)) :
  ∃ q H',cI H 3 24 (.c c) (.c (.sl b1 0 1 1 0 3))=aa (.c q,H')∧LI H' q (o++[x])∧H.length≤H'.length∧∀(i:Nat) y,H[i]?=aa y→amh y=ae→H'[i]?=aa y:=by
 have g:cX H 3 (.c (.sl b1 0 1 1 0 3))=aa (1,x.row.map .f):=qp m (by rfl);rcases h with⟨rfl,rfl⟩ | ⟨u,b,ep,rfl,h2⟩
 ·have d:bY 1 24=ae:=by simp [bY]
  refine⟨.sl H.length 0 1 0 0 3,H++[.cj 3 (x.row.map .f) 0 0 .loc],?_,.inr ⟨by simp,H.length,0,by simp,?_⟩,by simp,fun i y hy _=>by rw [AT (an hy)];exact hy⟩
  ·simp [cI,g,d]
  ·unfold RB;simp [aH]
 ·have d:bY (o.length+1) 24=ae:=by simp [bY];omega
  have j:o.length*3=(aH o).flatten.length:=by rw [ct (bz o),iZ]
  unfold RB at h2;refine⟨.sl b 0 (o.length+1) 0 (ep+1) 3,H.set b (.cj 3 ((aH o).flatten.map .f++x.row.map .f) 0 (ep+1) .loc),?_,.inr ⟨by simp,b,ep+1,by simp,?_⟩,by simp,fun i y hy s=>?_⟩
  ·have l:(3:Nat)≠0:=by decide
   simp only [cI,g,l,if_false,h2,and_self,if_true];simp only [Nat.add_one_ne_zero,if_false];rw [ba ⟨trivial,by rw [asi];exact j,by omega⟩,d];simp
  ·unfold RB;rw [IN (an h2),wN,as5]
  ·have:b≠i:=by rintro rfl;rw [h2]at hy;cases hy;cases s
   rw [AI this];exact hy
theorem aop{H:aj}{b ep n:Nat}{l R:List aM}(h:RB H b 3 ep (aH (l++R))):eG (n+1) H (.sl b 0 l.length 0 ep 3)=aa (sl .fs (aH l)):=by
 unfold RB at h;have d:l.length*3=(aH l).flatten.length:=by rw [ct (bz l),iZ]
 have e:(aH (l++R)).flatten=(aH l).flatten++(aH R).flatten:=by simp [aH]
 simp only [lJ,h];rw [ba ⟨trivial,trivial,by rw [asi,e,api];omega⟩,e,atf,as5,asG (by rw [asi];omega),arf (by rw [asi];omega)];rw [qU];cases l with
 | nil=>simp [sl,aH,Tg.fc]| cons x l=>simp [sl,aH]
theorem A_{H:aj}:∃ r H',Ev tab (.fn 205) [.c (.f .au)] H r H'∧(r=.c (.f .au)∧H'=H):=by
 refine cJ rfl rfl fun Q b=>?_;apply ai;simp;apply ak;apply ai;simp [bt];refine aq (by simp) ?_;apply ai;simp;exact aB (b _ _ _ rfl (jO (by simp)) ⟨rfl,rfl⟩)
theorem abC(b g j:FC)(len mi d:Int)(m:lN len)(q:lN mi)(s:lN d) :
  bh tab 198 [.a [.f b,.f (fi len),.f g],.a [.f j,.f (fi mi)],vi d]=Eq (.a ((fM len mi d).row.map .f)):=bh.eq (Kf.D4 (by
 unfold lN at *;refine cT rfl rfl fun H Q l=>?_;apply ai;simp;apply ai;simp [aU (n:=d*1440),aU (n:=d*1440+mi)];apply ai;simp [aU (n:=d*1440+mi+len)];refine aB (l _ _ ?_);simp [fM,aM.row]))
theorem Po(x y:aM):Kf tab 204 [.a (x.row.map .f),.a (y.row.map .f)] (vi (gJ x y)):=by
 refine cT rfl rfl fun H Q d=>?_;have b:=yh .fs [ef x.fr y.fr,ef x.day y.day,ef x.to y.to] (by simp);simp [ints,sl,Tg.fc]at b;apply ai;simp [aM.row];apply ai;simp [ga,deep,lJ,pF,b];refine aB (d _ _ ?_);simp [gJ]
end Go.Proofs.YtnaofdffomdmhaaGreat
namespace Go.Proofs.YtnaofdffomdmhaaGreat
open Go Km
def ahr(q mi:Int):Int:=(q*10080-mi+1440-1) / 1440
def DI(n p d:Int):Bool:=decide (d % n=p)
structure yN(s:aT)(n p mi:Int):Prop where
 cs:s.cs=[⟨.fs,[td n p],mi⟩]
 sm:zW n p
 m0:0≤mi
 m1:mi≤1180
 l0:1≤s.len
 l1:s.len≤400
 xs:s.xs=[]
theorem abi{m r t z n p mi le:Int}(h:zW n p)(g:0≤mi)(j:mi≤1180)(b:1≤le)(d:le≤400):yN (sV m r t z n p mi le).st n p mi:=⟨rfl,h,g,j,b,d,rfl⟩
def P9(s:aT)(n p mi q:Int)(x:aM):Prop:=∃ d,x=fM s.len mi d∧max (ahr q mi) 0≤d∧d<ahr q mi+7∧DI n p d=ae
theorem xw(s:aT){n p mi:Int}(hs:yN s n p mi)(q:Int)(j7:-1≤q)(j8:q≤100) :
  ∃ g L,(L.Pairwise aM.lt∧∀ x,x ∈ L↔P9 s n p mi q x)∧L.length≤10∧bh tab 128 [.a (s.row.map .f),vi q]=Eq (.c (.f (sl g (aH L)))):=by
 have key:∃ r,(∃ g L,(L.Pairwise aM.lt∧∀ x,x ∈ L↔P9 s n p mi q x)∧L.length≤10∧r=.c (.f (sl g (aH L))))∧bh tab 128 [.a (s.row.map .f),vi q] r:=by
  refine fg rfl rfl fun Q hQ=>?_;have hF:∀ x y:aM,Kf tab 204 [.a (x.row.map .f),.a (y.row.map .f)] (vi (gJ x y)):=Po;obtain⟨e,hsm,m0,m1,i7,i8,f7⟩:=hs;have e_:s.xs.length=0:=by rw [f7];rfl
  have j5:=hsm.1;have f8:∀(t:T) (H:aj) (c:C) (o:List aM),t.g 5=.c c→LI H c o→o.length≤10→(∀ x,x ∈ o↔P9 s n p mi q x)→WP tab 128 ab [.code xc] ⟨t,[],H⟩ Q:=by
   intro t H c o B z N v;rcases z with⟨rfl,rfl⟩ | ⟨j6,b,ep,rfl,f_⟩
   ·obtain⟨r1,H1,e1,rfl,rfl⟩:=OQ (H:=H) (F:=204);obtain⟨r2,H2,e2,rfl,rfl⟩:=A_ (H:=H1);apply ai;simp [B,e1.eq];apply ai;simp [B,e2.eq];refine aB (hQ _ _ _ ⟨.nil,[],⟨by simp,v⟩,by simp,rfl⟩ ?_);simp [sl,aH,Tg.fc]
   ·obtain⟨r1,H1,e1,rfl,f1,l1,q1,q2,q3⟩:=aaO hF (by omega) f_;have ll:=q2.length_eq;rw [←ll]at e1 B;obtain⟨r2,H2,e2,l2,R2,rfl,f2,w1,w2,w3,w4⟩:=C8 (by omega) q3 q1;apply ai;simp [B,e1.eq];apply ai;simp [B,e2.eq];refine aB (hQ _ _ _ ⟨.fs,l2,⟨w3,fun x=>by rw [w4,q2.mem_iff,v]⟩,by omega,rfl⟩ ?_);have:=aop (n:=63) w1;simp [deep,this]
  have Z:∀(t:T) (H:aj) (c:C) (o:List aM),t.g 1=vi q→t.g 2=.c (.ptr 0 0 0)→t.g 5=.c c→H[0]?=aa (.box [C.f (sl s.cg (aL s.cs)),C.f (fi s.len),C.f (sl s.xg (aH s.xs))] 0)→LI H c o→o.length≤7→(∀ x,x ∈ o↔P9 s n p mi q x) →
    WP tab 128 ab [.code mP] ⟨t,[],H⟩ Q:=by
   intro t H c o S O B h0 z N v;apply ak;apply ai;simp [O,h0];have j4:∀ K:aj,bt K (.f (sl s.xg (aH s.xs)))=aa 0:=fun K=>by rw [f7];cases s.xg<;>rfl
   rw [e_];refine bW 0 (fun j t H'=>LI H' c o∧t.g 5=.c c) (by omega) (by decide) (by decide) (by simp) (by simp) ⟨z,by simp [B]⟩ (fun j t H hj=>by omega) ?_;rintro t H' ⟨z,B⟩ - -;exact f8 _ H' c o (by simp [B]) z (by omega) v
  apply ai;simp [aT.row];apply ai;simp;apply ak;apply ai;simp;have i_:s.cs.length≤1:=by rw [e];simp
  refine bW s.cs.length (fun j t H'=>t.g 1=vi q∧t.g 2=.c (.ptr 0 0 0)∧t.g 14=.c (.f (sl s.cg (aL s.cs)))∧H'[0]?=aa (.box [C.f (sl s.cg (aL s.cs)),C.f (fi s.len),C.f (sl s.xg (aH s.xs))] 0)∧∃ c o,t.g 5=.c c∧LI H' c o∧o.length≤7∧(j=0→o=[]∧c=.f .au)∧(j=1→∀ x,x ∈ o↔P9 s n p mi q x)) (by omega) (by decide) (by decide) (by simp) (by simp)
   ⟨by simp,by simp,by simp,by simp,.f .au,[],by simp,.inl ⟨rfl,rfl⟩,by simp,by simp,by omega⟩ ?_ ?_
  ·rintro j t H' hj ⟨S,O,A,h0,c,o,B,z,N,d_,-⟩ ha hb next
   have i5:j=0:=by omega
   subst i5;obtain⟨rfl,rfl⟩:=d_ rfl;simp at ha;have Y:=fun H:aj=>cf (H:=H) (cY s.cs) (eg (l:=s.cs) (j:=0) (by rw [e];simp));have a8:=fun H:aj=>bC (H:=H) (g:=s.cg) (rows:=aL s.cs) (sz:=2) (k:=.i64) (i:=0) (by omega) (by rw [e];simp);have h_:s.cs[0]'(by rw [e];simp)=⟨.fs,[td n p],mi⟩:=by simp [e]
   rw [h_]at Y;simp [cN.row]at Y a8;have i4:=rr (q*10080-mi+1440-1) 1440 (by omega) (by omega) (by omega);obtain⟨fst,X⟩:=aI (ahr q mi);have a_:(q*10080-mi+1440-1) / 1440=fst:=by rw [X];rfl
   have b_:nw [td n p]=ae:=Ei hsm;have c_:∀ d,0≤d→d≤1000→bh tab 170 [.a [.f (sl .fs (aJ [td n p]))],vi d]=Eq (vb (DI n p d)):=fun d h0 I=>by
    have:=ahV .fs [td n p] b_ d (by unfold Day;omega);rw [this];have J:=vD (n:=n) (p:=p) h0;have h3:hasB (pd n p) d=DI n p d:=by
     unfold DI;by_cases k:d % n=p
     ·rw [decide_eq_true k,J.2 k]
     ·rw [decide_eq_false k];cases hb:hasB (pd n p) d with
      | false=>rfl| true=>exact absurd (J.1 hb) k
    rw [td]at b_;simp [aa9,va,td,b_,h3]
   have b9:=fun d (h:lN d)=>abC (sl s.cg (aL s.cs)) (sl s.xg (aH s.xs)) (sl .fs (aJ [td n p])) s.len mi d (by unfold lN;omega) (by unfold lN;omega) h;refine aG ?_;apply ai;simp [A,ha,a8,Y];have kN:(H'++[bq.box [.f (sl .fs (aJ [td n p])),.f (fi mi)] 0])[H'.length]?=aa (.box [.f (sl .fs (aJ [td n p])),.f (fi mi)] 0):=by simp
   have k0:(H'++[bq.box [.f (sl .fs (aJ [td n p])),.f (fi mi)] 0])[0]?=aa (.box [C.f (sl s.cg (aL s.cs)),C.f (fi s.len),C.f (sl s.xg (aH s.xs))] 0):=by rw [AT (an h0)];exact h0
   generalize H'++[bq.box [.f (sl .fs (aJ [td n p])),.f (fi mi)] 0]=HA at kN k0 ⊢;obtain⟨bN,g_⟩:=aI (H'.length);rw [←g_]at kN ⊢;apply ai;simp [S,kN,aU (n:=q*10080),aU (n:=q*10080-mi),aU (n:=q*10080-mi+1440),aU (n:=q*10080-mi+1440-1),i4,a_];apply ai;simp;have fb:-9≤fst∧fst≤701:=by omega
   refine aG ?_;refine cP (fun m st=>∃(u:Int) (t:T) (H:aj) (c:C) (o:List aM),st=⟨t,[],H⟩∧(m:Int)=fst+7-u∧max fst 0≤u∧u≤fst+7∧t.g 1=vi q∧t.g 2=.c (.ptr 0 0 0)∧t.g 7=.c (.ptr bN 0 0)∧t.g 8=vi fst∧t.g 10=vi u∧t.g 14=.c (.f (sl s.cg (aL s.cs)))∧t.g 15=vi (s.cs.length:Nat)∧t.g 16=vi 0∧t.g 5=.c c ∧
    H[0]?=aa (.box [C.f (sl s.cg (aL s.cs)),C.f (fi s.len),C.f (sl s.xg (aH s.xs))] 0)∧H[bN]?=aa (.box [.f (sl .fs (aJ [td n p])),.f (fi mi)] 0)∧LI H c o∧(o.length:Int)≤u-max fst 0∧∀ x,x ∈ o↔∃ d,x=fM s.len mi d∧max fst 0≤d∧d<u∧DI n p d=ae) (fst+7-max fst 0).toNat
    ⟨max fst 0,_,HA,.f .au,[],rfl,by omega,by omega,by omega,by simp [S],by simp [O],by simp,by simp,by simp,by simp [A],by simpa using hb,by simp [ha],by simp [B],k0,kN,.inl ⟨rfl,rfl⟩,by simp,fun x=>by simp;intros;omega⟩ ?_
   rintro m st ⟨u,t,H,c,o,rfl,hm,c0,c1,S,O,g7,g8,E,A,U,W,B,h0,hN,z,N,v⟩ ih;apply ak;apply ai;simp [g8,E,aU (n:=fst+7)];by_cases i9:u<fst+7
   ·refine aq (by simp [i9]) (aO ?_);apply ak;refine aG ?_;have go:∀(t:T) (H:aj) (c:C) (o:List aM),t.g 1=vi q→t.g 2=.c (.ptr 0 0 0)→t.g 7=.c (.ptr bN 0 0)→t.g 8=vi fst→t.g 10=vi u→t.g 14=.c (.f (sl s.cg (aL s.cs)))→t.g 15=vi (s.cs.length:Nat)→t.g 16=vi 0→t.g 5=.c c →
      H[0]?=aa (.box [C.f (sl s.cg (aL s.cs)),C.f (fi s.len),C.f (sl s.xg (aH s.xs))] 0)→H[bN]?=aa (.box [.f (sl .fs (aJ [td n p])),.f (fi mi)] 0)→LI H c o→(o.length:Int)≤u+1-max fst 0→(∀ x,x ∈ o↔∃ d,x=fM s.len mi d∧max fst 0≤d∧d<u+1∧DI n p d=ae) →
      WP tab 128 ab [.inBlock 3,.code xb,.inLoop xa,.inBlock 2,.inBlock 1,.code (sU 16 50),.inLoop (iN 0 16 15 17 50 qc),.inBlock 0,.code mP] ⟨t,[],H⟩ Q:=by
     intro t H c o S O g7 g8 E A U W B h0 hN z N v;refine aw (al (.inl rfl) ?_);simp [E,aU (n:=u+1)];exact ih (fst+7-(u+1)).toNat _ (by omega) ⟨u+1,_,H,c,o,rfl,by omega,by omega,by omega,by simp [S],by simp [O],by simp [g7],by simp [g8],by simp,by simp [A],by simp [U],by simp [W],by simp [B],h0,hN,z,by omega,v⟩
    apply ai;simp [g7,E,hN,c_ u (by omega) (by omega)];cases hc:DI n p u
    ·refine bp (by simp) ?_;refine go _ H c o (by simp [S]) (by simp [O]) (by simp [g7]) (by simp [g8]) (by simp [E]) (by simp [A]) (by simp [U]) (by simp [W]) (by simp [B]) h0 hN z (by omega) fun x=>?_;rw [v];constructor
     ·rintro⟨d,I,J,h3,M⟩;exact⟨d,I,J,by omega,M⟩
     ·rintro⟨d,I,J,h3,M⟩;by_cases hd:d=u
      ·subst hd;rw [hc]at M;cases M
      ·exact⟨d,I,J,by omega,M⟩
    ·have d9:=b9 u (by unfold lN;omega);simp [fM,aM.row]at d9;obtain⟨c',H2,e1,e2,e3,e4⟩:=(z.push [.box [.f (fi u),.f (fi (u*1440+mi)),.f (fi (u*1440+mi+s.len))] 0]).app (by omega) (b1:=H.length) (fl:=0) (x:=fM s.len mi u) (by simp [aM.row,fM]);have p0:=e4 _ _ (show(H++[bq.box [.f (fi u),.f (fi (u*1440+mi)),.f (fi (u*1440+mi+s.len))] 0])[0]?=_ by rw [AT (an h0)];exact h0) rfl;have pN:=e4 _ _ (show(H++[bq.box [.f (fi u),.f (fi (u*1440+mi)),.f (fi (u*1440+mi+s.len))] 0])[bN]?=_ by rw [AT (an hN)];exact hN) rfl;refine aq (by simp) ?_;refine al (.inl rfl) ?_;simp [O,B,g7,E,h0,hN,d9,e1];refine go _ H2 c' (o++[fM s.len mi u]) (by simp [S]) (by simp [O]) (by simp [g7]) (by simp [g8]) (by simp [E]) (by simp [A]) (by simp [U]) (by simp [W]) (by simp) p0 pN e2 (by simp;omega) fun x=>?_;rw [asw,asj,v];constructor
     ·rintro(⟨d,I,J,h3,M⟩ | rfl)
      ·exact⟨d,I,J,by omega,M⟩
      ·exact⟨u,rfl,by omega,by omega,hc⟩
     ·rintro⟨d,I,J,h3,M⟩;by_cases hd:d=u
      ·subst hd;exact .inr I
      ·exact .inl ⟨d,I,J,by omega,M⟩
   ·have:u=fst+7:=by omega
    subst this;refine aD (by simp) ?_;refine bR (k':=[.inBlock 1,.code (sU 16 50),.inLoop (iN 0 16 15 17 50 qc),.inBlock 0,.code mP]) rfl ?_;refine aw (next _ _ ?_ (by simp [W]) (by simp [U]));refine⟨by simp [S],by simp [O],by simp [A],h0,c,o,by simp [B],z,by omega,by omega,fun _ x=>?_⟩;rw [v];constructor
    ·rintro⟨d,I,J,h3,M⟩;exact⟨d,I,by rw [←X];omega,by rw [←X];omega,M⟩
    ·rintro⟨d,I,J,h3,M⟩;exact⟨d,I,by omega,by omega,M⟩
  ·rintro t H' ⟨S,O,A,h0,c,o,B,z,N,d_,i6⟩ - -;refine Z _ H' c o (by simp [S]) (by simp [O]) (by simp [B]) h0 z N fun x=>?_;exact i6 (by rw [e];rfl) x
 obtain⟨r,⟨g,L,I,J,rfl⟩,h⟩:=key;exact⟨g,L,I,J,bh.eq h⟩
end Go.Proofs.YtnaofdffomdmhaaGreat
namespace Go.Proofs.YtnaofdffomdmhaaGreat
open Go Km
def ez(b d:FC)(x:aA):FC:=.fp ([b,d]++x.row) 0
def gd(af b:Int):FC:=sl .fs (rows (cR af b))
def cz(af b r:Int):cF:=if r=0 then pP af .fs [(1,b)] .nil []else if r=1 then pP af .nil [] .nil []else pP af .nil [] .fs [0,1]
theorem mE(af b:Int){r:Int}(h0:0≤r)(d:r≤2):(cR af b)[r.toNat]?=aa (cz af b r):=by
 obtain rfl | rfl | rfl:r=0∨r=1∨r=2:=by omega
 all_goals rfl
theorem tx(af b:Int)(u:FC)(x:aA)(h0:0≤x.room)(m:x.room≤2):bh tab 120 [.c (.f (ez (gd af b) u x))]=Eq (.a ((cz af b x.room).row.map .f)):=bh.eq (by
 refine bV rfl rfl fun Q q=>?_;have s:=mE af b h0 m;have d:=fun H:aj=>bC (H:=H) (g:=.fs) (rows:=rows (cR af b)) (sz:=15) (k:=.i64) (i:=x.room) h0 (by simp [cR];omega);have l:=fun H:aj=>cf (H:=H) (gn (cR af b)) (j:=x.room.toNat) (row:=(cz af b x.room).row) (by rw [rows,List.getElem?_map,s];rfl);apply ai;simp;apply ai;simp [ez,gd,nQ,aQ,aA.row,d,l,cF.row];refine aB (q _ _ ?_);simp [iV,cK,deep,bg,cF.row])
theorem A1(af g:Int)(m:FC)(x:aA)(h0:0≤x.room)(s:x.room≤2):∃ l:List Int,l.length=8∧l=(if 10<x.size then [14,0,0,0,0,0,0,0]else [0,0,0,0,0,0,0,0])∧∀ H,∃ J,Ev tab (.fn 77) [.c (.f (ez (gd af g) m x))] H (.t [.a (l.map fun n=>.f (fi n)),vi 0]) (H++J):=by
 refine⟨_,?_,rfl,fun H=>?_⟩
 ·split<;>rfl
 obtain⟨r,H',u,rfl,J,rfl⟩:∃ r H',Ev tab (.fn 77) [.c (.f (ez (gd af g) m x))] H r H'∧r=.t [.a ((if 10<x.size then [14,0,0,0,0,0,0,0]else [0,0,0,0,0,0,0,0]:List Int).map fun n=>.f (fi n)),vi 0]∧∃ J,H'=H++J:=by
  refine cJ (C:=fun r H'=>r=.t [.a ((if 10<x.size then [14,0,0,0,0,0,0,0]else [0,0,0,0,0,0,0,0]:List Int).map fun n=>.f (fi n)),vi 0]∧∃ J,H'=H++J) akU rfl fun Q q=>?_;have j:=tx af g m x h0 s;have b:(cz af g x.room).cap=10:=by unfold cz;split<;>(try split)<;>rfl
  apply ai;simp;apply ak;apply ai;simp only [ez,aA.row,cF.row,ati,as9,asq,asA]at j;by_cases d:10<x.size
  ·simp [ez,nQ,aQ,aA.row,j,jT,b,d];refine aq (by simp) (ai ?_);simp;refine aB (q _ _ _ rfl ?_ ⟨rfl,_,rfl⟩);simp [Km.results,bg,d,aQ]
  ·simp [ez,nQ,aQ,aA.row,j,jT,b,d];refine bp (by simp) ?_;apply ai;simp;refine aB (q _ _ _ rfl ?_ ⟨rfl,_,rfl⟩);simp [Km.results,bg,d,aQ]
 exact⟨J,u⟩
end Go.Proofs.YtnaofdffomdmhaaGreat
namespace Go.Proofs.YtnaofdffomdmhaaGreat
open Go Km
def qM(n p mi le:Int):List Int:=if mi+le≤1440 then [0,0,0,0,0,0,0,0]else [16,0,p,p*1440+mi,p*1440+mi+le,0,0,0]
def rE(b:List Int):V:=.a (b.map fun n=>.f (fi n))
theorem aaF(af j:Int)(x:FC){m r t z n p:Int}(i:zW n p){k:Nat}(h:k<60)(le:Int)(W:1≤le)(X:le≤10080)(h0:0≤r)(Y:r≤2)(H:aj) :
  ∃ H',Ev tab (.fn 78) [.c (.f (ez (gd af j) x (sV m r t z n p (20*k:Nat) le)))] H (.t [rE (qM n p (20*k:Nat) le),vi 0]) H'∧Kp H H':=by
 obtain⟨mi,J⟩:=aI (20*k:Nat);have S:=aaE i h le W X;rw [←J]at S ⊢;obtain⟨r',H',f,rfl,Z⟩:∃ r' H',Ev tab (.fn 78) [.c (.f (ez (gd af j) x (sV m r t z n p mi le)))] H r' H'∧(r'=.t [rE (qM n p mi le),vi 0]∧Kp H H'):=by
  refine cJ rfl rfl fun Q O=>?_;have v:=tx af j x (sV m r t z n p mi le) h0 Y;have L:∃ a b c d e,(cz af j r).row=a::b::c ::(ei++[d,e]):=by
   unfold cz;split<;>(try split)<;>exact⟨_,_,_,_,_,rfl⟩
  obtain⟨a,b,c,d,e,L⟩:=L;change bh tab 120 [.c (.f (ez (gd af j) x (sV m r t z n p mi le)))]=Eq (.a ((cz af j r).row.map .f))at v;rw [L]at v;have E:jT 3 (aa 10) (.a (.f a::.f b::.f c ::(List.map C.f ei++[.f d,.f e])))=aa (.a (ei.map .f)):=rfl;have B:∀ K:aj,aS K (aa 3) (.c (.f (.fp ([gd af j,x]++(sV m r t z n p mi le).row) 6)))=aa (.a ((sW n p mi le).map .f)):=fun K=>rfl;obtain⟨cd,F⟩:=aI ([gd af j,x]++(sV m r t z n p mi le).row);simp only [ez]at v ⊢;rw [←F]at v B ⊢;have I:(iL n p mi le).row.length=3:=rfl;apply ai;simp;obtain⟨u,q⟩:=aI (H++[bq.box [.f (fi 0),.f (fi 0),.f (fi 0),.f (fi 0),.f (fi 0),.f (fi 0),.f (fi 0),.f (fi 0)] 0]:aj);have M:Kp H u:=by rw [q];exact Kp.push _ _
  have w:u[H.length]?=aa (.box [.f (fi 0),.f (fi 0),.f (fi 0),.f (fi 0),.f (fi 0),.f (fi 0),.f (fi 0),.f (fi 0)] 0):=by rw [q];simp
  rw [←q];apply ai;simp only [asq,as5,asA]at v;simp [v,E,B,S,I];obtain⟨l,s⟩:=aI (u++[bq.box ((iL n p mi le).row.map .f) 0]:aj);have A:Kp u l:=by rw [s];exact Kp.push _ _
  have q1:l[u.length]?=aa (.box ((iL n p mi le).row.map .f) 0):=by rw [s];simp
  have g:=A.get w;rw [←s];have U:=M.tr A;apply ak;apply ai;by_cases y:(mi:Int)+le≤1440
  ·simp [y];refine aq (by simp) ?_;have N:de l (.ptr H.length 0 0) [.f (fi 0),.f (fi 0),.f (fi 0),.f (fi 0),.f (fi 0),.f (fi 0),.f (fi 0),.f (fi 0)]=aa (l.set H.length (.box [.f (fi 0),.f (fi 0),.f (fi 0),.f (fi 0),.f (fi 0),.f (fi 0),.f (fi 0),.f (fi 0)] 0)):=by simp [de,g,over]
   apply ai;simp [N,-bf];refine aB (O _ _ _ rfl ?_ ⟨rfl,U.lP (aft _) _⟩);simp [Km.results,bg,an g,aQ,rE,qM,y]
  ·simp [y];refine bp (by simp) ?_;have o:aS l (aa 3) (.c (.ptr u.length 0 0))=aa (.a [.f (fi p),.f (fi (p*1440+mi)),.f (fi (p*1440+mi+le))]):=by simp [aS,aE,q1,aQ,iL,y,aM.row]
   have N:de l (.ptr H.length 0 0) [.f (fi 16),.f (fi 0),.f (fi p),.f (fi (p*1440+mi)),.f (fi (p*1440+mi+le)),.f (fi 0),.f (fi 0),.f (fi 0)]=aa (l.set H.length (.box [.f (fi 16),.f (fi 0),.f (fi p),.f (fi (p*1440+mi)),.f (fi (p*1440+mi+le)),.f (fi 0),.f (fi 0),.f (fi 0)] 0)):=by simp [de,g,over]
   apply ai;simp [o,N,-av,-bf];refine aB (O _ _ _ rfl ?_ ⟨rfl,U.lP (aft _) _⟩);simp [Km.results,bg,an g,aQ,rE,qM,y]
 exact⟨H',f,Z⟩
end Go.Proofs.YtnaofdffomdmhaaGreat
namespace Go.Proofs.YtnaofdffomdmhaaGreat
open Go Km
def mJ:List aM→Int
 | []=>0| x::r=>x.to-x.fr+mJ r
theorem aci(a b:List aM):mJ (a++b)=mJ a+mJ b:=by
 induction a with
 | nil=>simp [mJ]| cons x a d=>simp only [ati,mJ,d];omega
theorem DK(g:Tg)(L:List aM)(I:L.length≤1000)(z:∀ x ∈ L,0≤x.fr∧x.fr≤x.to∧x.to≤2000000):bh tab 202 [.c (.f (sl g (aH L)))]=Eq (vi (mJ L)):=Kf.eq (by
 refine cT rfl rfl fun H Q y=>?_;apply ai;simp;apply ai;simp;apply ak;apply ai;simp;refine bW L.length (fun j t H'=>(∃ J,H'=H++J)∧t.g 6=.c (.f (sl g (aH L)))∧t.g 3=vi (mJ (L.take j))∧0≤mJ (L.take j)∧mJ (L.take j)≤j*2000000) (by omega) (by decide) (by decide) (by simp) (by simp) ⟨⟨[],by simp⟩,by simp,by simp [mJ],by simp [mJ],by simp [mJ]⟩ ?_ ?_
 ·rintro j t _ l ⟨⟨J,rfl⟩,m,d,A,B⟩ u q next
  have b:=fun H:aj=>cf (H:=H) (bz L) (gl l);have s:L.take (j+1)=L.take j++[L[j]]:=by rw [asQ,By l];rfl
  have v:mJ (L.take (j+1))=mJ (L.take j)+(L[j].to-L[j].fr):=by rw [s,aci];simp [mJ]
  obtain⟨b1,E,F⟩:=z L[j] (anc l);simp [aM.row]at b;refine aG ?_;apply ai;simp [m,u,bC,l,b];refine al (.inl rfl) ?_;simp [d,aU (n:=L[j].to-L[j].fr),aU (n:=mJ (L.take j)+(L[j].to-L[j].fr))];refine aw (next _ _ ?_ (by simp [u]) (by simp [q]));exact⟨⟨_,rfl⟩,by simp [m],by simp [v],by omega,by rw [v];omega⟩
 ·rintro t _ ⟨⟨J,rfl⟩,m,d,A,B⟩ - -;rw [asK]at d;apply ai;simp [d];refine aB (y _ _ ?_);simp)
def bQ(l:List aT):List (List FC):=l.map aT.row
@[simp] theorem wh (l:List aT):(bQ l).length=l.length:=by simp [bQ]
theorem eU(l:List aT):cC 3 (bQ l):=cC.map fun _=>rfl
theorem wW{l:List aT}{j:Nat}(b:j<l.length):(bQ l)[j]?=aa l[j].row:=by simp [bQ,b]
def dd(k b:Int)(l:List aA):List aT:=(l.filter fun s=>decide (s.room=k)&&decide (s.eH=b)).map aA.st
theorem vt(k d:Int)(a b:List aA):dd k d (a++b)=dd k d a++dd k d b:=by simp [dd]
theorem F4(g:Tg)(l:List aA)(k m:Int)(hl:l.length≤1000)(H:aj):∃ c H',Ev tab (.fn 141) [.c (.f (sl g (aC l))),vi k,vi m] H (.c c) H'∧LR H' c 3 (bQ (dd k m l))∧(∀ i,bB c=aa i→H.length≤i)∧Kp H H':=by
 obtain⟨r,H',he,c,rfl,h⟩:∃ r H',Ev tab (.fn 141) [.c (.f (sl g (aC l))),vi k,vi m] H r H'∧∃ c,r=.c c∧LR H' c 3 (bQ (dd k m l))∧(∀ i,bB c=aa i→H.length≤i)∧Kp H H':=by
  refine cJ (C:=fun r H'=>∃ c,r=.c c∧LR H' c 3 (bQ (dd k m l))∧(∀ i,bB c=aa i→H.length≤i)∧Kp H H') akX rfl fun Q hQ=>?_;apply ai;simp;apply ai;simp;apply ak;apply ai;simp;refine bW l.length (fun j t J=>t.g 10=.c (.f (sl g (aC l)))∧t.g 1=vi k∧t.g 2=vi m∧(dd k m (l.take j)).length≤j∧∃ c,t.g 7=.c c∧LR J c 3 (bQ (dd k m (l.take j)))∧(∀ i,bB c=aa i→H.length≤i)∧Kp H J) (by omega) (by decide) (by decide) (by simp) (by simp)
   ⟨by simp,by simp,by simp,by simp [dd],.f .au,by simp,by simpa [dd,bQ]using LR.nil H 3,by simp [bB],⟨aft _,fun _ _=>rfl⟩⟩ ?_ ?_
  ·rintro j t J w ⟨u,F,L,e,c,N,W,q,Y⟩ X a next
   have B:=fun H:aj=>cf (H:=H) (bw l) (eR w);have A:=fun H:aj=>bC (H:=H) (g:=g) (rows:=aC l) (sz:=7) (k:=.i64) (i:=(j:Int)) (by omega) (by simp;omega);simp only [asy]at A;have K:l.take (j+1)=l.take j++[l[j]]:=by rw [asQ,By w];rfl
   obtain⟨s,hs⟩:=aI (l[j]);rw [←hs]at B K;have f:s.row.length=7:=rfl;obtain⟨b,O⟩:=aI (J.length);obtain⟨v,x⟩:=aI (J++[bq.box (s.row.map .f) 0]);have z:=W.push [bq.box (s.row.map .f) 0];rw [←x]at z;have y:Kp H v:=by rw [x];exact Y.tr (Kp.push _ _)
   have d:v[b]?=aa (.box (s.row.map .f) 0):=by rw [x,O];simp
   have o:aS v ab (.c (.ptr b 1 0))=aa (vi s.room):=by simp [aS,aE,d,aA.row]
   have l2:aS v ab (.c (.ptr b 2 0))=aa (vi s.eH):=by simp [aS,aE,d,aA.row]
   have l4:aS v (aa 3) (.c (.ptr b 4 0))=aa (.a (s.st.row.map .f)):=by simp [aS,aE,d,aA.row,aT.row,aQ]
   refine aG ?_;apply ai;simp [u,X,A,B,f,-av];rw [←x,←O];have skip:(decide (s.room=k)&&decide (s.eH=m))=ag→dd k m (l.take (j+1))=dd k m (l.take j):=fun h=>by
    rw [K,vt];simp [dd,h]
   apply ai;by_cases M:s.room=k
   ·by_cases U:s.eH=m
    ·have E:dd k m (l.take (j+1))=dd k m (l.take j)++[s.st]:=by rw [K,vt];simp [dd,M,U]
     simp [F,L,o,l2,M,U,-av];refine aq (by simp) ?_;have Z:=z.push [bq.box (s.st.row.map .f) 0];have d2:(v++[bq.box (s.st.row.map .f) 0])[v.length]?=aa (.box (s.st.row.map .f) 0):=by simp
     obtain⟨c',J2,e1,e2,p,e4⟩:=Z.app (eU _) (by decide) (row:=s.st.row) rfl (bytes:=56) (by simp [bY];omega) d2;have n:s.st.row.length=3:=rfl;refine al (.inl rfl) ?_;simp [N,l4,n,e1,-av];refine aw (next _ _ ⟨by simp [u],by simp [F],by simp [L],by rw [E];simp;omega,c',by simp,by rw [E];simpa [bQ]using e2,fun i hi=>?_,?_⟩ (by simp [X]) (by simp [a]))
     ·rcases e4 with h | h
      ·exact q i (by rw [←h];exact hi)
      ·rw [h]at hi;cases hi;have:=y.1;simp;omega
     ·have I:=y.tr (Kp.push v [bq.box (s.st.row.map .f) 0]);refine⟨by have:=p.1;have:=I.1;omega,fun i hi=>?_⟩;rw [←I.2 i hi];have S:i<(v++[bq.box (s.st.row.map .f) 0]).length:=by have:=I.1;omega
      rw [By S];exact p.2 i _ (By S) fun h=>by have:=q i h;omega
    ·simp [F,L,o,l2,M,U,-av];refine aD (by simp) (aO (aw (next _ _ ?_ (by simp [X]) (by simp [a]))));exact⟨by simp [u],by simp [F],by simp [L],by rw [skip (by simp [U])];omega,c,by simp [N],by rw [skip (by simp [U])];exact z,q,y⟩
   ·simp [F,o,M,-av];refine aD (by simp) (aO (aw (next _ _ ?_ (by simp [X]) (by simp [a]))));exact⟨by simp [u],by simp [F],by simp [L],by rw [skip (by simp [M])];omega,c,by simp [N],by rw [skip (by simp [M])];exact z,q,y⟩
  ·rintro t J ⟨u,F,L,e,c,N,W,q,Y⟩ - -;rw [asK]at W;apply ai;simp [N];exact aB (hQ _ _ (.c c) rfl (jO (by simp)) ⟨c,rfl,W,q,Y⟩)
 exact⟨c,H',he,h⟩
end Go.Proofs.YtnaofdffomdmhaaGreat
namespace Go.Proofs.YtnaofdffomdmhaaGreat
open Go Km
def qR(b:Int):List (Int × Int)→Int × Bool
 | []=>(0,ag)| q::r=>if q.1=b then(q.2,ae)else qR b r
theorem aa0(af v:Int)(N:FC)(x:aA)(h0:0≤x.room)(W:x.room≤2):bh tab 125 [.c (.f (ez (gd af v) N x))]=Eq (.t [vi (qR x.eH (cz af v x.room).q).1,vb (qR x.eH (cz af v x.room).q).2]):=bh.eq (by
 refine bV rfl rfl fun Q M=>?_;have l:=tx af v N x h0 W;have Z:(cz af v x.room).q.length≤1:=by unfold cz pP;split<;>(try split)<;>simp
 generalize cz af v x.room=r at *;obtain⟨O,A⟩:=aI ([gd af v,N]++x.row);have a:∀ K:aj,aS K ab (.c (.f (.fp O 4)))=aa (vi x.eH):=fun K=>by rw [A];rfl
 simp only [ez]at l ⊢;rw [←A]at l ⊢;have Y:jT 13 ab (.a (r.row.map .f))=aa (.c (.f (sl r.qg (gm r.q)))):=rfl;have B:∀ K:aj,bt K (.f (sl r.qg (gm r.q)))=aa r.q.length:=fun K=>by simp [gm]
 obtain⟨res,u⟩:=aI (qR x.eH r.q);rw [←u]at M;apply ai;simp;apply ak;apply ai;simp [l,Y,B];refine bW r.q.length (fun j t J=>t.g 0=.c (.f (.fp O 0))∧t.g 8=.c (.f (sl r.qg (gm r.q)))∧res=qR x.eH (r.q.drop j)) (by omega) (by decide) (by decide) (by simp) (by simp) ⟨by simp,by simp,by simpa using u⟩ ?_ ?_
 ·rintro j t J U ⟨g0,L,s⟩ S X next
  have m:=fun H:aj=>bC (H:=H) (g:=r.qg) (rows:=gm r.q) (sz:=2) (k:=.i64) (i:=(j:Int)) (by omega) (by simp [gm];omega);have E:=fun H:aj=>cf (H:=H) (vC r.q) (BO U);simp only [asy]at m;rw [arM U,qR]at s;generalize r.q[j]=q at *;obtain⟨b,z⟩:=aI (J.length);refine aG ?_;apply ai;simp [L,S,m,E,-av];obtain⟨I,y⟩:=aI (J++[bq.box [.f (fi q.1),.f (fi q.2)] 0]);have d:I[b]?=aa (.box [.f (fi q.1),.f (fi q.2)] 0):=by rw [y,z];simp
  have c:aS I ab (.c (.ptr b 0 0))=aa (vi q.1):=by simp [aS,aE,d]
  have e:aS I ab (.c (.ptr b 1 0))=aa (vi q.2):=by simp [aS,aE,d]
  rw [←y,←z];apply ai;simp [g0,c,a,-av];by_cases F:q.1=x.eH
  ·rw [ba F]at s;refine aq (by simp [F]) ?_;apply ai;simp [e,-av];refine aB (M _ _ ?_);simp [s]
  ·rw [aX F]at s;refine aD (by simp [F]) (aO (aw (next _ _ ⟨by simp [g0],by simp [L],s⟩ (by simp [S]) (by simp [X]))))
 ·rintro t J ⟨g0,L,s⟩ - -;rw [List.drop_length,qR]at s;apply ai;simp;refine aB (M _ _ ?_);simp [s])
def uf:List Nat:=[1,2,3,4,5,6,10,12,15,20,30,60]
theorem zb{d:Nat}(h:d ∈ uf):d≤60:=by
 simp only [uf,asv,atc,or_false]at h;omega
theorem aaT{d:Nat}{n p:Int}(b:d ∈ uf)(h:zW n p):∃ e ∈ uf,bh tab 215 [vi (7*(d:Int)),vi n]=Eq (.t [vi (7*(e:Int)),vi 0]):=by
 obtain⟨j,l,m,q⟩:=h;have g:(d,n.toNat) ∈ aaU:=by
  obtain rfl | rfl | rfl | rfl | rfl | rfl:n=1∨n=2∨n=3∨n=4∨n=5∨n=6:=by omega
  all_goals
   unfold aaU;rw [atE];exact⟨d,b,by simp⟩
 refine⟨Nat.lcm d n.toNat,?_,?_⟩
 ·have:n.toNat ∈ [1,2,3,4,5,6]:=by
   obtain rfl | rfl | rfl | rfl | rfl | rfl:n=1∨n=2∨n=3∨n=4∨n=5∨n=6:=by omega
   all_goals simp
  have key:∀ d ∈ uf,∀ k ∈ [1,2,3,4,5,6],Nat.lcm d k ∈ uf:=by decide
  exact key d b _ this
 ·have:=al7 g;simp only at this;rw [Int.toNat_of_nonneg (by omega)]at this;simp only [Int.natCast_mul]at this;exact this
theorem Dr(g:Tg)(L:List aT)(hl:L.length≤2000)(h:∀ s ∈ L,∃ n p mi,yN s n p mi):∃ d ∈ uf,bh tab 140 [.c (.f (sl g (bQ L)))]=Eq (.t [vi (15+7*(d:Int)),vb ae]):=by
 obtain⟨r,⟨d,O,rfl⟩,hp⟩:∃ r,(∃ d ∈ uf,r=.t [vi (15+7*(d:Int)),vb ae])∧bh tab 140 [.c (.f (sl g (bQ L)))] r:=by
  refine fg rfl rfl fun Q hQ=>?_;apply ai;simp;apply ai;simp;apply ak;apply ai;simp;refine bW L.length (fun j t J=>t.g 16=.c (.f (sl g (bQ L)))∧t.g 4=vi 0∧∃ d ∈ uf,t.g 5=vi (7*(d:Int))) (by omega) (by decide) (by decide) (by simp) (by simp) ⟨by simp,by simp,1,by simp [uf],by simp⟩ ?_ ?_
  ·rintro j t J hj ⟨l,x,d,O,v⟩ ha hb next
   obtain⟨n,p,mi,a⟩:=h L[j] (anc hj);have A:=fun H:aj=>bC (H:=H) (g:=g) (rows:=bQ L) (sz:=3) (k:=.i64) (i:=(j:Int)) (by omega) (by simp;omega);have Z:=fun H:aj=>cf (H:=H) (eU L) (wW hj);simp only [asy]at A;generalize L[j]=s at *;have d_:s.row.length=3:=rfl;obtain⟨b,W⟩:=aI (J.length);obtain⟨S,U⟩:=aI (J++[bq.box (s.row.map .f) 0]);have f:S[b]?=aa (.box (s.row.map .f) 0):=by rw [U,W];simp
   have x0:∀ K:aj,K[b]?=S[b]?→aS K ab (.c (.ptr b 0 0))=aa (.c (.f (sl s.cg (aL s.cs)))):=fun K z=>by simp [aS,aE,z.trans f,aT.row]
   have x2:∀ K:aj,K[b]?=S[b]?→aS K ab (.c (.ptr b 2 0))=aa (.c (.f (sl s.xg (aH s.xs)))):=fun K z=>by simp [aS,aE,z.trans f,aT.row]
   have b_:∀ K:aj,bt K (.f (sl s.cg (aL s.cs)))=aa 1:=fun K=>by rw [a.cs];simp [aL]
   have e_:∀ K:aj,bt K (.f (sl s.xg (aH s.xs)))=aa 0:=fun K=>by rw [a.xs];cases s.xg<;>rfl
   have c_:∀ K:aj,bA K 2 ab (.c (.f (sl s.cg (aL s.cs)))) (vi 0)=aa (.c (.f (.fp [vm n p,fi mi] 0))):=fun K=>by rw [a.cs];rfl
   have b9:∀ K:aj,aS K (aa 2) (.c (.f (.fp [vm n p,fi mi] 0)))=aa (.a [.f (vm n p),.f (fi mi)]):=fun K=>rfl;have X:=ahF (n:=n) (p:=p) a.sm;change bh tab 214 [.a [.f (vm n p)]]=_ at X;obtain⟨e,he,Y⟩:=aaT O a.sm;refine aG ?_;apply ai;simp [l,ha,A,Z,d_,-av];rw [←U,←W];apply ak;apply ai;simp [x0 S rfl,b_,-av];refine bW 1 (fun i u K=>u.g 16=.c (.f (sl g (bQ L)))∧u.g 17=vi (L.length:Nat)∧u.g 18=vi j∧u.g 7=.c (.ptr b 0 0)∧u.g 23=.c (.f (sl s.cg (aL s.cs)))∧u.g 4=vi 0∧K[b]?=S[b]?∧u.g 5=(if i=0 then vi (7*(d:Int))else vi (7*(e:Int)))) (by omega) (by decide) (by decide) (by simp) (by simp)
    ⟨by simp [l],by simp [hb],by simp [ha],by simp,by simp,by simp [x],rfl,by simp [v]⟩ ?_ ?_
   ·rintro i u K hi ⟨l,m,q,o,E,x,z,v⟩ I a_ N;have d9:i=0:=by omega
    subst d9;simp only [if_true]at v;refine aG ?_;apply ai;simp at I;simp [E,I,c_,b9,-av];obtain⟨B,y⟩:=aI (K++[bq.box [.f (vm n p),.f (fi mi)] 0]);have m1:B[K.length]?=aa (.box [.f (vm n p),.f (fi mi)] 0):=by rw [y];simp
    have l1:aS B (aa 1) (.c (.ptr K.length 0 0))=aa (.a [.f (vm n p)]):=by simp [aS,aE,m1,aQ]
    have lb:b<K.length:=by have:=an (z.trans f);omega
    have n1:B.length=K.length+1:=by rw [y];simp
    rw [←y];apply ai;simp [l1,X,-av];obtain⟨c,F⟩:=aI (B++[bq.box [.f .es,.f (fi 0),.f (fi n),.f (.fs [fi p] 1)] 0]);have m2:c[B.length]?=aa (.box [.f .es,.f (fi 0),.f (fi n),.f (.fs [fi p] 1)] 0):=by rw [F];simp
    have l2:aS c ab (.c (.ptr B.length 2 0))=aa (vi n):=by simp [aS,aE,m2]
    have l3:aS c ab (.c (.ptr B.length 1 0))=aa (vi 0):=by simp [aS,aE,m2]
    rw [←F];apply ak;apply ai;simp;refine bp (by simp) ?_;refine ak (ai ?_);simp [v,l2,Y,-av];apply ai;have a8:=zb he;simp;refine aD (by simp;omega) (aO ?_);refine al (.inl rfl) ?_;simp [x,l3,-av];refine aw (N _ _ ⟨by simp [l],by simp [m],by simp [q],by simp [o],by simp [E],by simp,?_,by simp⟩ (by simp [I]) (by simp [a_]));rw [F,AT (by omega),y,AT lb];exact z
   ·rintro u K ⟨l,m,q,o,E,x,z,v⟩ - -;simp only [Nat.one_ne_zero,if_false]at v;apply ai;simp [o,x2 K z,e_,-av];refine bW 0 (fun _ w _=>w.g 16=.c (.f (sl g (bQ L)))∧w.g 17=vi (L.length:Nat)∧w.g 18=vi j∧w.g 4=vi 0∧w.g 5=vi (7*(e:Int))) (by omega) (by decide) (by decide) (by simp) (by simp)
     ⟨by simp [l],by simp [m],by simp [q],by simp [x],by simp [v]⟩ (fun j t H hj=>by omega) ?_
    rintro w M ⟨l,m,q,x,v⟩ - -;exact aw (next _ _ ⟨by simp [l],by simp [x],e,he,by simp [v]⟩ (by simp [q]) (by simp [m]))
  ·rintro t J ⟨l,x,d,O,v⟩ - -;have a8:=zb O;apply ai;simp [x,v,aU (n:=(15:Int)),aU (n:=(15:Int)+7*(d:Int))];refine aB (hQ _ _ _ ⟨d,O,rfl⟩ ?_);simp [Km.results,bg];omega
 exact⟨d,O,hp.eq⟩
end Go.Proofs.YtnaofdffomdmhaaGreat
namespace Go.Proofs.YtnaofdffomdmhaaGreat
open Go Km
theorem alL{f:Nat}{args:List V}{H:aj}{S:V→aj→Prop}{ps:List P}{res:List gw}{body:aF}(z:tab f=aa ⟨ps,res,body⟩)(y:args.length=ps.length)
  (h:∀ Q:Option aF→St→Prop,(∀ j s r,(∃ b,s.defs=b.map .gM∧fH b s.heap∧Km.results s.az (mw b s.heap) res=aa r∧S r (mw b s.heap))→Q j s)→WP tab f ab [.code body] ⟨cM ps args .e,[],H⟩ Q):∃ r H',Ev tab (.fn f) args H r H'∧S r H':=by
 have l:=h (fun _ s=>∃ r,∃ b,s.defs=b.map .gM∧fH b s.heap∧Km.results s.az (mw b s.heap) res=aa r∧S r (mw b s.heap)) fun _ _ r g=>⟨r,g⟩
 obtain⟨n,m,d,j,s,g,r,b,x,v,q,u⟩:=l;exact⟨r,mw b s.heap,rq z y ⟨n,m,d,j,s,g,0,0,_,by rw [x];exact j3 v,q,rfl⟩,u⟩
theorem BH:∀ {d:List Nat} {H:aj},(mw d H).length=H.length
 | [],_=>rfl| b::d,H=>by rw [mw,BH,ass]
end Go.Proofs.YtnaofdffomdmhaaGreat
namespace Go.Proofs.YtnaofdffomdmhaaGreat
open Go Km
theorem AR{q:Type}{r:q→q→Bool}(b:∀ x y,r x y=r y x):∀ {l:List q},l.Pairwise (fun x y=>r x y=ag)→∀ x ∈ l,∀ y ∈ l,r x y=ae→x=y
 | [],_,x,j,_,_,_=>by cases j
 | a::l,h,x,j,y,u,d=>by
  rcases asv.1 j with s | v
  ·rcases asv.1 u with g | m
   ·rw [s,g]
   ·rw [s,atd h m]at d;cases d
  ·rcases asv.1 u with g | m
   ·rw [g,b,atd h v]at d;cases d
   ·exact AR b (atZ h) x v y m d
def aaZ(a b:aA):Bool:=decide (a.meet<b.meet)||(decide (a.meet=b.meet)&&decide (a.room<b.room))
def OK(s:aA):List aA→List aA
 | []=>[s]| x::r=>if aaZ s x then s::x::r else x::OK s r
theorem qO(s:aA):∀ l:List aA,(OK s l).Perm (l++[s])
 | []=>.refl _
 | x::r=>by
  simp only [OK];split
  ·exact(List.perm_append_comm (l₁:=[s]) (l₂:=x::r))
  ·exact(qO s r).cons x
theorem xT{a b:aA}:aaZ a b=ae↔a.meet<b.meet∨a.meet=b.meet∧a.room<b.room:=by simp [aaZ]
theorem Fi(s:aA):∀ {l:List aA},l.Pairwise lK→(OK s l).Pairwise lK
 | [],_=>atB _ _
 | x::r,h=>by
  simp only [OK];split
  ·rename_i d;rw [xT]at d;refine ata.2 ⟨fun y b=>?_,h⟩;rcases asv.1 b with rfl | b
   ·unfold lK;omega
   ·have:=atd h b;unfold lK at *;omega
  ·rename_i d;have g:¬ (s.meet<x.meet∨s.meet=x.meet∧s.room<x.room):=fun e=>d (xT.2 e);refine ata.2 ⟨fun y b=>?_,Fi s (atZ h)⟩;have:y ∈ r++[s]:=(qO s r).mem_iff.1 b;rcases asw.1 this with b | b
   ·exact atd h b
   ·obtain rfl:=asj.1 b;exact g
def srt:List aA→List aA
 | []=>[]| s::r=>OK s (srt r)
theorem mG:∀ l:List aA,(srt l).Perm l
 | []=>.refl _| s::r=>(qO s _).trans (List.perm_append_comm.trans ((mG r).cons s))
theorem Ef:∀ l:List aA,(srt l).Pairwise lK
 | []=>.nil| s::r=>Fi s (Ef r)
def kd(l:List aA):Prop:=l.Pairwise fun x y=>dC x y=ag
theorem vf(x y:aA):dC x y=dC y x:=by simp only [dC,eq_comm]
theorem kd.perm{l l':List aA}(h:kd l)(b:l'.Perm l):kd l':=(b.pairwise_iff (fun {x y} e=>by rw [vf];exact e)).2 h
theorem Py{l A:List aA}(h:kd l)(b:A.Perm l)(j:A.Pairwise lK):A=srt l:=
 ur (b.trans (mG l).symm) j (Ef l) fun x m y q d g=>AR (r:=dC) vf h x (b.mem_iff.1 m) y (b.mem_iff.1 q) (OS.2 (by unfold lK at d g;omega))
def ku(x y:aA):Prop:=x.meet<y.meet∨x.meet=y.meet∧x.room<y.room
theorem ab9{l:List aA}(h:kd l):(srt l).Pairwise ku:=by
 refine List.Pairwise.imp (fun {x y} e=>?_) ((Ef l).and (h.perm (mG l)));have b:=e.1;have d:=e.2;unfold lK at b;have g:¬ (x.meet=y.meet∧x.room=y.room):=by simpa [dC]using d
 unfold ku;omega
theorem oC{l0:List aA}:∀ {l acc:List aA},kd acc→(∀ x ∈ l0,∀ y ∈ acc,dC x y=ag)→kd (uniq l0 acc l)∧∀ x ∈ l0,∀ y ∈ uniq l0 acc l,dC x y=ag
 | [],acc,h,g=>⟨h,g⟩
 | s::l,acc,h,g=>by
  simp only [uniq];split
  ·exact oC h g
  ·rename_i j;simp only [Bool.or_eq_true,List.any_eq_true,not_or,not_exists,not_and,Bool.not_eq_true]at j;refine oC (atb.2 ⟨h,atB _ _,fun a q b u=>?_⟩) fun x m y d=>?_
   ·rw [asj.1 u];exact j.2 a q
   ·rcases asw.1 d with d | d
    ·exact g x m y d
    ·rw [asj.1 d];exact j.1 x m
def nZ(l0:List aA)(h:dv):List aA:=srt (l0++uniq l0 [] (cZ h.l))
theorem qt{l0:List aA}(h0:kd l0)(h:dv):kd (l0++uniq l0 [] (cZ h.l)):=by
 obtain⟨b,d⟩:=oC (l0:=l0) (l:=cZ h.l) (acc:=[]) .nil (by simp);exact atb.2 ⟨h0,b,d⟩
theorem Bv(h:dv):(cZ h.l).length≤h.l.length:=by simp only [cZ,asi];exact List.length_filter_le _ _
theorem EK{l0:List aA}(h:dv):(nZ l0 h).length≤l0.length+h.l.length:=by
 have b:=pW (l0:=l0) (l:=cZ h.l) (acc:=[]);have g:=Bv h;have d:=(mG (l0++uniq l0 [] (cZ h.l))).length_eq;unfold nZ;simp at b d;omega
theorem aa1{h:dv}{s:aA}(b:s ∈ cZ h.l):∃ x ∈ h.l,s=x.bc:=by
 simp only [cZ,asH,List.mem_filter]at b;obtain⟨y,⟨d,_⟩,rfl⟩:=b;exact⟨y,d,rfl⟩
theorem EL{l0:List aA}{h:dv}{s:aA}(b:s ∈ nZ l0 h):s ∈ l0∨∃ x ∈ h.l,s=x.bc:=by
 have:=(mG _).mem_iff.1 b;rcases asw.1 this with e | e
 ·exact .inl e
 ·rcases wq e with e | e
  ·cases e
  ·exact .inr (aa1 e)
end Go.Proofs.YtnaofdffomdmhaaGreat
