/-
  ali the nb km and the mC answer, for all arguments of their kind, in the small machine: part 4.
-/
import Derived.Test.YtnaofdffomdmhaaGreatS3
import Derived.Test.YtnaofdffomdmhaaGreatS2
import Derived.Test.YtnaofdffomdmhaaGreatProg
import Derived.Test.YtnaofdffomdmhaaGreatK4
import Derived.Test.YtnaofdffomdmhaaGreatS1
open Option renaming some → aa,none → ab
open Bool renaming true → ae,false → ag
open List renaming take_of_length_le → arf, getElem?_set_self → IN, getElem?_set_ne → AI, getElem?_append_left → AT, getElem?_append_right → IS, getElem_mem → anc, getElem?_eq_getElem → By, length_set → ass, length_take → ast, getElem_append_right → atL, take_append_drop → asP, map_cons → asq, map_nil → asA
open Int renaming emod_nonneg → asV, emod_lt_of_pos → asO, toNat_natCast → asy
open Nat renaming min_eq_left → as8, sub_self → at2
set_option linter.unusedVariables false
set_option linter.constructorNameAsVariable false
set_option linter.unusedSimpArgs false
set_option linter.unusedSectionVars false
set_option linter.unnecessarySimpa false
set_option maxRecDepth 100000
namespace Go.Proofs.YtnaofdffomdmhaaGreat
open Go Km
def AL(l0:List aA)(h b:dv)(k:Int):Prop:=
 b=h∨(k % 6≤1∧∃ id d g,(d=2∨d=3)∧eo h id=0∧b = { gT h id d with lg:=g }) ∨
 (k % 6=2∧∃ c g,h.clock≤c∧c≤h.clock+29∧b=⟨c,h.bZ,g,h.l.map (fI c)⟩) ∨
 (3≤k % 6∧∃ g,b = { h with lg:=g }) ∨
 (3≤k % 6∧∃ x i g,okX h.clock x∧x.state=1∧(1≤x.id∧x.id≤8)∧nL x.bc∧x.bc.meet≤7∧i≤h.l.length∧(∀ j (l:j<h.l.length),j<i→h.l[j].id<x.id)∧(∀ j (l:j<h.l.length),i≤j→x.id<h.l[j].id) ∧
  b=⟨h.clock,h.bZ,g,h.l.take i++x::h.l.drop i⟩∧lD (nZ l0 h) x.bc=ag∧∀ s ∈ nZ l0 h,s.room=x.bc.room→s.meet≠x.bc.meet→¬ oL x.bc.st s.st)
theorem ir{s:aA}(h:nL s):Fix s:=by
 obtain⟨m,r,t,z,n,p,mi,le,rfl,b⟩:=h;exact ahq ..
structure sY(l0:List aA):Prop where
 ap:kd l0
 len:l0.length≤3
 f:∀ s ∈ l0,nL s∧20≤s.meet
theorem xN(h:dv)(u:nq h)(af A:Int)(F:0≤af)(a1:af≤39)(g0:Tg)(l0:List aA)(m:sY l0)(x:bl)(E:nL x.bc) :
  ∃(j:List Int) (b:Int) (res:dv) (d:List Int) (c:Int),j.length=8∧nX h x j b res d c ∧
   (b=0→lD (nZ l0 h) x.bc=ag∧(j.headD 0=0→∀ s ∈ nZ l0 h,s.room=x.bc.room→s.meet≠x.bc.meet→¬ oL x.bc.st s.st)) ∧
   bh tab 16 [.a (h.row.map .f),.c (.f (gd af A)),.c (.f (sl g0 (aC l0))),.a (x.row.map .f)]=Eq (.t [.a (res.row.map .f),.a (B7 d),vi c]):=by
 have L:=u.len;have J:=EK (l0:=l0) h;have K:=m.len;obtain⟨j,b,B,q,l⟩:=AO af A F a1 (nZ l0 h) (by omega) (ab9 (qt m.ap h)) (fun s v=>by
  rcases EL v with v | ⟨y,z,rfl⟩
  ·exact(m.f s v).1
  ·exact(u.f y z).2) x.bc E
 obtain⟨res,d,c,H,I⟩:=uD h u (gd af A) g0 l0 m.ap m.len x (ir E) (fun y z=>ir (u.f y z).2) j b B (fun _ g=>l g);exact⟨j,b,res,d,c,B,H,q,I⟩
theorem abI(h:dv)(F:nq h)(hc:h.clock≤99000)(af qu:Int)(a0:0≤af)(a1:af≤39)(g0:Tg)(l0:List aA)(hp:sY l0)(k i t:Int)(c:List Int)(d9:gN 8 c)(j_:0≤k∧k≤255)(hi:0≤i∧i≤255)(ht:0≤t∧t≤255) :
  ∃ A,nq A∧A.clock≤h.clock+29∧AL l0 h A k∧bh tab 20 [.a (h.row.map .f),.a [.f (gd af qu),.f (sl g0 (aC l0))],.a ((nC (k::i::t::c)).map .f)]=Eq (.a (A.row.map .f)):=by
 obtain⟨r,⟨A,h1,h2,h3,rfl⟩,L⟩:∃ r,(∃ A,nq A∧A.clock≤h.clock+29∧AL l0 h A k∧r=.a (A.row.map .f))∧bh tab 20 [.a (h.row.map .f),.a [.f (gd af qu),.f (sl g0 (aC l0))],.a ((nC (k::i::t::c)).map .f)] r:=by
  refine fg rfl rfl fun Q hQ=>?_;have n_:=F.len;have n9:=F.c0;have d_:∀ x ∈ h.l,Fix x.bc:=fun x hx=>ir (F.f x hx).2;have e_:h.row.length=3:=rfl;have e6:=iR (k:=.u8) (b:=6) j_.1 (by decide);have e8:=iR (k:=.u8) (b:=8) hi.1 (by decide);have j6:=iR (k:=.u8) (b:=30) ht.1 (by decide);have f7:=vO k i t h.clock c d9 hi ht (by omega) (by omega);obtain⟨rm,i8⟩:=aI (gd af qu);obtain⟨sd,i9⟩:=aI (sl g0 (aC l0));obtain⟨E,N⟩:=aI (nC (k::i::t::c));have i7:E.length=11:=by rw [N];simp [nC,d9.1]
  have o0:∀ K:aj,K[2]?=aa (.box (E.map .f) 0)→aS K ab (.c (.ptr 2 0 0))=aa (.c (.f (.int .u8 k)))∧aS K ab (.c (.ptr 2 1 0))=aa (.c (.f (.int .u8 i)))∧aS K ab (.c (.ptr 2 2 0))=aa (.c (.f (.int .u8 t)))∧aS K (aa 11) (.c (.ptr 2 0 0))=aa (.a (E.map .f)):=fun K J=>by
   have e:E.map C.f=.f (.int .u8 k)::.f (.int .u8 i)::.f (.int .u8 t) ::(nC c).map .f:=by rw [N];rfl
   refine⟨?_,?_,?_,?_⟩
   ·rw [e]at J;simp [aS,aE,J]
   ·rw [e]at J;simp [aS,aE,J]
   ·rw [e]at J;simp [aS,aE,J]
   ·simp [aS,aE,J,aQ,i7,arf]
  rw [←N]at f7 ⊢;rw [←i8,←i9];obtain⟨l,B⟩:=aI ([.box (h.row.map .f) 0,.box [.f rm,.f sd] 0,.box (E.map .f) 0,.box [.f (fi 0),.f (fi 0),.f .au] 0,.box (h.row.map .f) 0]:aj);have z0:l[0]?=aa (.box (h.row.map .f) 0):=by rw [B];rfl
  have z1:l[1]?=aa (.box [.f rm,.f sd] 0):=by rw [B];rfl
  have z2:l[2]?=aa (.box (E.map .f) 0):=by rw [B];rfl
  have z3:l[3]?=aa (.box [.f (fi 0),.f (fi 0),.f .au] 0):=by rw [B];rfl
  have z4:l[4]?=aa (.box (h.row.map .f) 0):=by rw [B];rfl
  have lh:∀(K:aj) (b:Nat) (x:dv),K[b]?=aa (.box (x.row.map .f) 0)→aS K (aa 3) (.c (.ptr b 0 0))=aa (.a (x.row.map .f))∧aS K ab (.c (.ptr b 0 0))=aa (vi x.clock):=fun K b x J=>by
   refine⟨?_,?_⟩<;>simp [aS,aE,J,aQ,dv.row]
  have sh:∀(K:aj) (b:Nat) (cs:List C) (x:dv),K[b]?=aa (.box cs 0)→cs.length=3→de K (.ptr b 0 0) (x.row.map .f)=aa (K.set b (.box (x.row.map .f) 0)):=fun K b cs x J hl=>by
   match cs,hl with
   | [p,q,r],_=>simp [de,J,over,dv.row]
  have H:∀(u:T) (K:aj) (e:Int) (x:dv),u.g 3=.c (.ptr 0 0 0)→u.g 6=.c (.ptr 3 0 0)→u.g 7=.c (.ptr 4 0 0)→u.g 8=vi e→K[0]?=aa (.box (h.row.map .f) 0)→K[3]?=aa (.box [.f (fi 0),.f (fi 0),.f .au] 0)→K[4]?=aa (.box (x.row.map .f) 0) →
    (∀ y,y=(if e=0 then x else h)→nq y∧y.clock≤h.clock+29∧AL l0 h y k)→WP tab 20 ab [.code Av] ⟨u,[],K⟩ Q:=by
   intro u K e x O I S g8 k0 k3 k4 s;have g_:∀(u:T) (y:dv) (j:Option aF),u.g 6=.c (.ptr 3 0 0)→(nq y∧y.clock≤h.clock+29∧AL l0 h y k)→Q j ⟨u,[],K.set 3 (.box (y.row.map .f) 0)⟩:=by
    intro u y j I s;have d:(K.set 3 (.box (y.row.map .f) 0))[3]?=aa (.box (y.row.map .f) 0):=IN (an k3);refine hQ _ _ _ ⟨y,s.1,s.2.1,s.2.2,rfl⟩ ⟨rfl,V.a (y.row.map .f),?_,by simp [iV,cK,bg,deep]⟩;simp [Km.results,cQ,bg,I,(lh _ 3 y d).1,-av]
   apply ak;apply ai;simp [g8];by_cases M:e=0
   ·have:=s x (by rw [ba M]);refine bp (by simp [M]) ?_;apply ai;have l_:x.row.length=3:=rfl;simp [I,S,(lh K 4 x k4).1,l_,sh K 3 _ x k3 rfl,-av,-bf];exact aB (g_ _ x _ (by simp [I]) this)
   ·have:=s h (by rw [aX M]);refine aq (by simp [M]) ?_;apply ai;simp [O,I,(lh K 0 h k0).1,e_,sh K 3 _ h k3 rfl,-av,-bf];exact aB (g_ _ h _ (by simp [I]) this)
  have b9:nq h∧h.clock≤h.clock+29∧AL l0 h h k:=⟨F,by omega,.inl rfl⟩
  have b_:∀(id st:Int) (g:Tg) (z:dv),k % 6≤1→(st=2∨st=3)→z=(if eo h id=0 then { gT h id st with lg:=g }else gq)→∀ y,y=(if eo h id=0 then z else h)→nq y∧y.clock≤h.clock+29∧AL l0 h y k:=by
   intro id st g z j9 Y m y s;by_cases M:eo h id=0
   ·rw [ba M]at m s;subst s;rw [m];exact⟨F6 F Y g,by show h.clock≤_;omega,.inr (.inl ⟨j9,id,st,g,Y,M,rfl⟩)⟩
   ·rw [aX M]at s;rw [s];exact b9
  have start:∀ u:T,u.g 3=.c (.ptr 0 0 0)→u.g 4=.c (.ptr 1 0 0)→u.g 5=.c (.ptr 2 0 0)→u.g 6=.c (.ptr 3 0 0)→u.g 7=.c (.ptr 4 0 0)→WP tab 20 ab [.code Eu] ⟨u,[],l⟩ Q:=by
   intro u O g4 g5 I S;obtain⟨p1,p2,p3,p4⟩:=o0 l z2;obtain⟨h3,a8⟩:=lh l 0 h z0;have n8:eG deep l (.f .au)=aa .au:=rfl;refine ak (ai ?_);simp [g5,p1,e6,-av];refine aG (ai ?_);simp;by_cases c0:k % 6=0
   ·refine aq (by simp [c0]) ?_;obtain⟨g,z,m,L⟩:=C' h (by omega) d_ (1+i % 8);have v:z.row.length=3:=rfl;refine al (.inl rfl) ?_;simp [O,g5,S,p2,h3,e8,aU (n:=i % 8),aU (n:=1+i % 8),L,v,sh l 4 _ z z4 rfl,-av,-bf];refine aw (H _ _ (eo h (1+i % 8)) z (by simp [O]) (by simp [I]) (by simp [S]) (by simp) ?_ ?_ (IN (an z4)) (b_ _ 2 g z (by omega) (.inl rfl) m))
    ·rw [AI (by decide)];exact z0
    ·rw [AI (by decide)];exact z3
   refine aD (by simp [c0]) ?_;apply ai;simp;by_cases c1:k % 6=1
   ·refine aq (by simp [c1]) ?_;obtain⟨g,z,m,L⟩:=vL h (by omega) d_ (1+i % 8);have v:z.row.length=3:=rfl;refine al (.inl rfl) ?_;simp [O,g5,S,p2,h3,e8,aU (n:=i % 8),aU (n:=1+i % 8),L,v,sh l 4 _ z z4 rfl,-av,-bf];refine aw (H _ _ (eo h (1+i % 8)) z (by simp [O]) (by simp [I]) (by simp [S]) (by simp) ?_ ?_ (IN (an z4)) (b_ _ 3 g z (by omega) (.inr rfl) m))
    ·rw [AI (by decide)];exact z0
    ·rw [AI (by decide)];exact z3
   refine aD (by simp [c1]) ?_;apply ai;simp;by_cases c2:k % 6=2
   ·refine aq (by simp [c2]) ?_;obtain⟨g,z,m,L⟩:=zQ h (by omega) d_ (h.clock+t % 30);have v:z.row.length=3:=rfl;have k_:jA h (h.clock+t % 30)=0:=by
     unfold jA;rw [aX];rintro(A | A | A)
     ·rw [F.v]at A;cases A
     ·omega
     ·omega
    rw [k_]at m L;refine al (.inl rfl) ?_;simp [O,g5,S,p3,h3,a8,j6,aU (n:=t % 30),aU (n:=h.clock+t % 30),L,v,sh l 4 _ z z4 rfl,-av,-bf];refine aw (H _ _ 0 z (by simp [O]) (by simp [I]) (by simp [S]) (by simp) ?_ ?_ (IN (an z4)) fun y s=>?_)
    ·rw [AI (by decide)];exact z0
    ·rw [AI (by decide)];exact z3
    ·rw [ba rfl]at s m;rw [s,m];refine⟨zR F (by omega) (by omega) g,by show h.clock+t % 30≤_;omega,.inr (.inr (.inl ⟨c2,_,g,?_,?_,rfl⟩))⟩<;>omega
   refine aD (by simp [c2]) ?_;have c3:3≤k % 6:=by omega
   obtain⟨x,hx⟩:=aI (Bk i t h.clock c);rw [←hx]at f7;obtain⟨j7,m9,j8⟩:=mU d9;have f8:nL x.bc:=by rw [hx];exact j7
   obtain⟨rf,m4,res,Z,cc,h8,hG,i_,L⟩:=xN h F af qu a0 a1 g0 l0 hp x f8;rw [←i8,←i9]at L;have v:res.row.length=3:=rfl;have a_:Z.length=8:=by
    rcases hG with⟨-,-,e,-⟩ | ⟨-,-,-,e,-⟩ | ⟨-,-,-,e,-⟩
    ·rw [e];rfl
    ·rw [e];rfl
    ·rw [e];exact h8
   have q0:aS l ab (.c (.ptr 1 0 0))=aa (.c (.f rm))∧aS l ab (.c (.ptr 1 1 0))=aa (.c (.f sd)):=by
    refine⟨?_,?_⟩<;>simp [aS,aE,z1]
   have n0:l.length=5:=by rw [B];rfl
   obtain⟨K1,U⟩:=aI (l++[bq.box [.f (fi 0),.f (fi 0),.f .au] 0,bq.box [.f (fi 0),.f (fi 0),.f (fi 0),.f (fi 0),.f (fi 0),.f (fi 0),.f (fi 0),.f (fi 0)] 0]);have k1:∀ i:Nat,i<5→K1[i]?=l[i]?:=fun i hi=>by rw [U,AT (by omega)]
   have d5:K1[l.length]?=aa (.box [.f (fi 0),.f (fi 0),.f .au] 0):=by rw [U];simp
   have d6:K1[l.length+1]?=aa (.box [.f (fi 0),.f (fi 0),.f (fi 0),.f (fi 0),.f (fi 0),.f (fi 0),.f (fi 0),.f (fi 0)] 0):=by rw [U,IS (by omega)];simp
   have s1:=sh K1 l.length _ res d5 rfl;obtain⟨K2,W⟩:=aI (K1.set l.length (.box (res.row.map .f) 0));rw [←W]at s1;have j5:K2[l.length+1]?=_:=(by rw [W,AI (by omega)]:K2[l.length+1]?=K1[l.length+1]?).trans d6;have j4:K2[l.length]?=aa (.box (res.row.map .f) 0):=by rw [W];exact IN (an d5)
   obtain⟨K3,c_⟩:=aI (K2.set (l.length+1) (.box (Z.map fun n=>.f (fi n)) 0));have s2:de K2 (.ptr (l.length+1) 0 0) (Z.map fun n=>.f (fi n))=aa K3:=by
    rw [c_]
    match Z,a_ with
    | [p0,p1,p2,p3,p4,p5,p6,p7],_=>simp [de,j5,over]
   have f_:K3[l.length]?=aa (.box (res.row.map .f) 0):=by rw [c_,AI (by omega)];exact j4
   have k3:∀ i:Nat,i<5→K3[i]?=l[i]?:=fun i hi=>by rw [c_,AI (by omega),W,AI (by omega),k1 i hi]
   rw [U]at s1;apply ai;simp [O,g4,g5,p4,h3,a8,q0.1,q0.2,f7,L,v,B7,a_,s1,s2,-av,-bf];have w4:=(k3 4 (by omega)).trans z4;have w3:=(k3 3 (by omega)).trans z3;have w0:=(k3 0 (by omega)).trans z0;have l5:=(lh K3 l.length res f_).1;apply ai;simp [S,l5,v,sh K3 4 _ res w4 rfl,-av,-bf];refine al (.inl rfl) ?_;simp;refine aw (H _ _ cc res (by simp [O]) (by simp [I]) (by simp [S]) (by simp) ?_ ?_ (IN (an w4)) fun y s=>?_)
   ·rw [AI (by decide)];exact w0
   ·rw [AI (by decide)];exact w3
   by_cases M:cc=0
   case neg=>rw [aX M]at s;rw [s];exact b9
   rw [ba M]at s;subst s;rcases hG with⟨e1,-,-,e2⟩ | ⟨-,e1,-,-,e2⟩ | ⟨e1,e2,-,-,g,⟨-,e3⟩ | ⟨e3,j,hj,i5,h_,e4⟩⟩
   ·omega
   ·omega
   ·rw [e3];refine⟨⟨F.v,F.c0,F.c1,F.d,F.f⟩,by show h.clock≤_;omega,.inr (.inr (.inr (.inl ⟨c3,g,rfl⟩)))⟩
   ·have i4:1≤x.id∧x.id≤8:=by rw [hx];show 1≤1+i % 8∧1+i % 8≤8;omega
    have Y:x.state=1:=by rw [hx];rfl
    have m_:x.dl=h.clock+t % 50-2:=by rw [hx];rfl
    have i6:okX h.clock x:=by
     unfold cE at e1;split at e1
     ·omega
     ·split at e1
      ·omega
      ·split at e1
       ·omega
       ·rename_i hn;unfold okX;omega
    obtain⟨t1,t2⟩:=i_ e2;have h0:rf.headD 0=0:=by
     match rf,h8 with
     | p0::_,_=>simpa using e3
    rw [e4];refine⟨aaN F i6 (by omega) ⟨.inl i4,f8⟩ i5 h_ g,by show h.clock≤_;omega,.inr (.inr (.inr (.inr ⟨c3,x,j,g,i6,Y,i4,f8,by rw [hx];exact j8,hj,i5,h_,rfl,t1,t2 h0⟩)))⟩
  apply ai;simp [e_,i7];apply ai;obtain⟨KK,X⟩:=aI ([.box (h.row.map .f) 0,.box [.f rm,.f sd] 0,.box (E.map .f) 0,.box [.f (fi 0),.f (fi 0),.f .au] 0]:aj);have w0:KK[0]?=aa (.box (h.row.map .f) 0):=by rw [X];rfl
  have nK:KK.length=4:=by rw [X];rfl
  have eK:KK++[bq.box (h.row.map .f) 0]=l:=by rw [X,B];rfl
  rw [←X];simp [(lh KK 0 h w0).1,e_,nK,-av];rw [eK];exact start _ (by simp) (by simp) (by simp) (by simp) (by simp)
 exact⟨A,h1,h2,h3,L.eq⟩
def h00:dv:=⟨100,5,.nil,[]⟩
theorem alT:nq h00:=⟨by decide,by decide,by decide,rfl,fun x b=>by simp [h00]at b⟩
theorem vG(p:iy)(h:lS p):sY p.l0:=by
 obtain⟨a,b,c⟩:=ao4 p h;exact⟨a,b,c⟩
theorem yp(p:iy)(W:lS p)(Inv:dv→Prop)(a_:Inv h00)(step:∀ h F k,nq h→Inv h→AL p.l0 h F k→Inv F) :
  ∃ h,nq h∧h.clock≤1000∧Inv h∧bh tab 11 [.a (p.row.map .f)]=Eq (.a (h.row.map .f)):=by
 obtain⟨r,⟨h,Z,h2,h3,rfl⟩,hP⟩:∃ r,(∃ h,nq h∧h.clock≤1000∧Inv h∧r=.a (h.row.map .f))∧bh tab 11 [.a (p.row.map .f)] r:=by
  refine fg rfl rfl fun Q hQ=>?_;obtain⟨g,X⟩:=vF p W;have d9:=W.Ol;have c_:=vG p W;have z:p.row.length=4:=rfl;have a0:0≤p.af % 40:=asV _ (by omega);have a1:p.af % 40≤39:=by have:=asO p.af (show 0<40 by omega);omega
  obtain⟨row,l⟩:=aI (p.row);have lp:∀ K:aj,K[0]?=aa (.box (row.map .f) 0)→aS K (aa 4) (.c (.ptr 0 0 0))=aa (.a (row.map .f))∧aS K ab (.c (.ptr 0 3 0))=aa (.c (.f (sl p.og (CE p.O)))):=fun K O=>by
   rw [l]at O ⊢;refine⟨?_,?_⟩<;>simp [aS,aE,O,aQ,iy.row]
  have lh:∀(K:aj) (b:Nat) (x:dv),K[b]?=aa (.box (x.row.map .f) 0)→aS K (aa 3) (.c (.ptr b 0 0))=aa (.a (x.row.map .f)):=fun K b x O=>by
   simp [aS,aE,O,aQ,dv.row]
  have sh:∀(K:aj) (b:Nat) (cs:List C) (x:dv),K[b]?=aa (.box cs 0)→cs.length=3→de K (.ptr b 0 0) (x.row.map .f)=aa (K.set b (.box (x.row.map .f) 0)):=fun K b cs x O hl=>by
   match cs,hl with
   | [p,q,r],_=>simp [de,O,over,dv.row]
  have y:∀ J:aj,bt J (.f (sl p.og (CE p.O)))=aa p.O.length:=fun J=>by simp
  rw [←l]at X ⊢;rw [←l]at z;apply ai;simp [z];apply ai;simp;obtain⟨Y,m⟩:=aI ([.box (row.map .f) 0,.box [.f (fi 0),.f (fi 0),.f .au] 0,.box (h00.row.map .f) 0]:aj);have z0:Y[0]?=aa (.box (row.map .f) 0):=by rw [m];rfl
  have z1:Y[1]?=aa (.box [.f (fi 0),.f (fi 0),.f .au] 0):=by rw [m];rfl
  have z2:Y[2]?=aa (.box (h00.row.map .f) 0):=by rw [m];rfl
  have eK:Y=[.box (row.map .f) 0,.box [.f (fi 0),.f (fi 0),.f .au] 0,.box [.f (fi 100),.f (fi 5),.f .au] 0]:=m;rw [←eK];apply ak;apply ai;simp;obtain⟨n,hn⟩:=aI (min p.O.length 12);refine py n (fun j t J=>t.g 1=.c (.ptr 0 0 0)∧t.g 2=.c (.ptr 1 0 0)∧t.g 3=.c (.ptr 2 0 0)∧J[0]?=aa (.box (row.map .f) 0)∧J[1]?=aa (.box [.f (fi 0),.f (fi 0),.f .au] 0)∧∃ h:dv,J[2]?=aa (.box (h.row.map .f) 0)∧nq h∧h.clock≤100+29*(j:Int)∧Inv h) (by omega) rfl (by simp)
   ⟨by simp,by simp,by simp,z0,z1,h00,z2,alT,by decide,a_⟩ ?_ ?_ ?_
  ·rintro j t J K hj ⟨s,B,E,k0,M,h,A,I,hc,N⟩ u hL;by_cases Z:j<p.O.length
   ·simp [u,s,(lp J k0).2,y,Z,-av];exact hL _ ⟨by simp [s],by simp [B],by simp [E],k0,M,h,A,I,hc,N⟩ (by simp [u]) (by simp;omega)
   ·simp [u,s,(lp J k0).2,y,Z,-av];exact hL _ ⟨by simp [s],by simp [B],by simp [E],k0,M,h,A,I,hc,N⟩ (by simp [u]) (by simp;omega)
  ·rintro j t J hj ⟨s,B,E,k0,M,h,A,I,hc,N⟩ u next
   have S:j<p.O.length:=by omega
   have v:=fun H:aj=>bC (H:=H) (g:=p.og) (rows:=CE p.O) (sz:=11) (k:=.i64) (i:=(j:Int)) (by omega) (by simp;omega);have U:=fun H:aj=>cf (H:=H) (Cs W.O) (acq S);simp only [asy]at v;obtain⟨k,i,t',c,ho,a8,b_,hi,ht⟩:=zu (W.O _ (anc S));rw [ho]at U;obtain⟨F,b9,d_,hR,hP⟩:=abI h I (by omega) (p.af % 40) (p.qu % 3000) a0 a1 g p.l0 c_ k i t' c a8 b_ hi ht;have L:F.row.length=3:=rfl;refine aG ?_;refine al (.inl rfl) ?_;simp [s,E,u,(lp J k0).1,(lp J k0).2,lh J 2 h A,X,v,U,hP,L,sh J 2 _ F A rfl,-av,-bf];refine aw (next _ _ ⟨by simp [s],by simp [B],by simp [E],?_,?_,F,IN (an A),b9,by omega,step h F k I N hR⟩ (by simp [u]))
   ·rw [AI (by decide)];exact k0
   ·rw [AI (by decide)];exact M
  ·rintro t J ⟨s,B,E,k0,M,h,A,I,hc,N⟩ u;have L:h.row.length=3:=rfl;have d:(J.set 1 (.box (h.row.map .f) 0))[1]?=aa (.box (h.row.map .f) 0):=IN (an M);apply ai;simp [B,E,lh J 2 h A,L,sh J 1 _ h M rfl,-av,-bf];refine aB (hQ _ _ _ ⟨h,I,by omega,N,rfl⟩ ⟨rfl,V.a (h.row.map .f),?_,by simp [iV,cK,bg,deep]⟩);simp [Km.results,cQ,bg,B,lh _ 1 h d,-av]
 exact⟨h,Z,h2,h3,hP.eq⟩
theorem apz:bh tab 10 []=Eq (vb ae):=kG (by kernel_rfl)
theorem jv(K:aj)(b:Nat)(x:dv)(d:K[b]?=aa (.box (x.row.map .f) 0)):aS K (aa 3) (.c (.ptr b 0 0))=aa (.a (x.row.map .f))∧aS K ab (.c (.ptr b 0 0))=aa (vi x.clock)∧aS K ab (.c (.ptr b 2 0))=aa (.c (.f (sl x.lg (aN x.l)))):=by
 refine⟨?_,?_,?_⟩<;>simp [aS,aE,d,aQ,dv.row]
theorem ze{n:dv}(d:nq n){i:Nat}(hi:i<n.l.length):mc n.l[i].id n.l=aa i:=
 zf hi rfl fun q g b=>by
  have:=List.pairwise_iff_getElem.1 (ew.1 d.v).2.2.2 q i g hi b;omega
structure aqD(h n:dv)(k:Int):Prop where
 at':∃ i0:Nat,∀(j:Nat) (hj:j<h.l.length),∃(i:Nat) (hi:i<n.l.length) (s:Int),n.l[i] = { h.l[j]with state:=s }∧(s=h.l[j].state∨(h.l[j].state=1∧(k % 6=2∨(k % 6≤1∧j=i0))))
 le:k % 6≤2→n.l.length=h.l.length
 gt:2<k % 6→(n.l.length=h.l.length∨n.l.length=h.l.length+1)∧n.clock=h.clock
theorem aqS{l0:List aA}{h n:dv}{k:Int}(A:AL l0 h n k):aqD h n k:=by
 have self:∀(j:Nat) (d:j<h.l.length),h.l[j] = { h.l[j]with state:=h.l[j].state }:=fun _ _=>rfl;rcases A with rfl | ⟨l,id,u,g,B,b,rfl⟩ | ⟨l,c,g,h0,E,rfl⟩ | ⟨l,g,rfl⟩ | ⟨l,x,i,g,-,-,-,-,-,hi,-,-,rfl,-,-⟩
 ·exact⟨⟨0,fun j d=>⟨j,d,_,rfl,.inl rfl⟩⟩,fun _=>rfl,fun _=>⟨.inl rfl,rfl⟩⟩
 ·unfold eo at b;split at b
  ·omega
  cases v:mc id h.l with
  | none=>rw [v]at b;simp at b
  | some i=>
   rw [v]at b;obtain⟨hi,-⟩:=qA v;simp only [By hi]at b;split at b
   case isFalse=>omega
   rename_i y;have m:(gT h id u).l=h.l.set i { h.l[i]with state:=u }:=by
    unfold gT;simp only [v,abN,By hi]
   have q:({ gT h id u with lg:=g }:dv).l=h.l.set i { h.l[i]with state:=u }:=m;refine⟨⟨i,fun j d=>⟨j,by rw [q,ass];exact d,?_⟩⟩,fun _=>by rw [q,ass],fun z=>by omega⟩;by_cases e:j=i
   ·subst e;exact⟨u,(List.getElem_of_eq m (by rw [m,ass];exact d)).trans (List.getElem_set_self (by rw [ass];exact d)),.inr ⟨y,.inr ⟨l,rfl⟩⟩⟩
   ·exact⟨h.l[j].state,(List.getElem_of_eq m (by rw [m,ass];exact d)).trans (List.getElem_set_ne (Ne.symm e) (by rw [ass];exact d)),.inl rfl⟩
 ·refine⟨⟨0,fun j d=>⟨j,by simpa using d,(fI c h.l[j]).state,?_,?_⟩⟩,fun _=>by simp,fun z=>by omega⟩
  ·simp only [List.getElem_map];unfold fI;split<;>rfl
  ·unfold fI;split
   ·rename_i e;exact .inr ⟨e.1,.inl l⟩
   ·exact .inl rfl
 ·exact⟨⟨0,fun j d=>⟨j,d,_,rfl,.inl rfl⟩⟩,fun _=>rfl,fun _=>⟨.inl rfl,rfl⟩⟩
 ·have s:(h.l.take i++x::h.l.drop i).length=h.l.length+1:=by simp;omega
  refine⟨⟨0,fun j d=>?_⟩,fun z=>by omega,fun _=>⟨.inr s,rfl⟩⟩;by_cases e:j<i
  ·refine⟨j,by show j<(h.l.take i++x::h.l.drop i).length;omega,h.l[j].state,?_,.inl rfl⟩;show(h.l.take i++x::h.l.drop i)[j]'_=h.l[j];rw [List.getElem_append_left (by rw [ast];omega),List.getElem_take]
  ·refine⟨j+1,by show j+1<(h.l.take i++x::h.l.drop i).length;omega,h.l[j].state,?_,.inl rfl⟩;show(h.l.take i++x::h.l.drop i)[j+1]'_=h.l[j];rw [atL (by rw [ast];omega)];have:j+1-(h.l.take i).length=(j-i)+1:=by rw [ast];omega
   simp only [this,List.getElem_cons_succ,List.getElem_drop]
   congr 1
   omega
theorem lI{x:List FC}(h:∃ m,x=[FC.int .u8 m]∧Lit.wf (.int .u8 m)):∃ m:Int,x=[FC.int .u8 m]∧(0≤m∧m≤255):=by
 obtain⟨m,rfl,b⟩:=h;simp [Lit.wf,IntKind.min,IntKind.max,IntKind.signed,IntKind.bits]at b;exact⟨m,rfl,by omega⟩
theorem apH{x:List FC}(h:∃ m,x=[FC.int .u16 m]∧Lit.wf (.int .u16 m)):∃ m:Int,x=[FC.int .u16 m]∧(0≤m∧m≤65535):=by
 obtain⟨m,rfl,b⟩:=h;simp [Lit.wf,IntKind.min,IntKind.max,IntKind.signed,IntKind.bits]at b;exact⟨m,rfl,by omega⟩
theorem aaX{n:Nat}(h:n≤maxLen):n≤9223372036854775807:=Nat.le_trans h (by decide)
theorem A7{n:Nat}{ys:List FC}(h:pZ Tryz.prog (n+2) 28 ys):∃ c:List Int,ys=nC c∧gN 8 c:=by
 obtain⟨_,S,rfl,u,H⟩:=dD (oA (ts:=[5,5,5,5,5,5,5,5]) Tryz.underlying28 rfl h);obtain⟨b1,rfl,e⟩:=lI (fE Tryz.underlying5 u);obtain⟨_,U,rfl,v,I⟩:=dD H;obtain⟨d,rfl,f⟩:=lI (fE Tryz.underlying5 v);obtain⟨_,W,rfl,y,J⟩:=dD I;obtain⟨g,rfl,i⟩:=lI (fE Tryz.underlying5 y);obtain⟨_,X,rfl,z,K⟩:=dD J;obtain⟨j,rfl,k⟩:=lI (fE Tryz.underlying5 z);obtain⟨_,Y,rfl,A,L⟩:=dD K;obtain⟨l,rfl,o⟩:=lI (fE Tryz.underlying5 A);obtain⟨_,Z,rfl,B,M⟩:=dD L;obtain⟨m,rfl,p⟩:=lI (fE Tryz.underlying5 B);obtain⟨_,a,rfl,E,N⟩:=dD M;obtain⟨q,rfl,r⟩:=lI (fE Tryz.underlying5 E);obtain⟨_,Q,rfl,F,O⟩:=dD N;obtain⟨s,rfl,t⟩:=lI (fE Tryz.underlying5 F);obtain rfl:Q=[]:=O;refine⟨[b1,d,g,j,l,m,q,s],rfl,rfl,fun x b=>?_⟩;simp at b;rcases b with rfl | rfl | rfl | rfl | rfl | rfl | rfl | rfl<;>assumption
theorem abk{n:Nat}{ys:List FC}(h:pZ Tryz.prog (n+3) 30 ys):∃ c:List Int,ys=nC c∧gN 11 c:=by
 obtain⟨_,H,rfl,l,u⟩:=dD (oA (ts:=[5,5,5,28]) Tryz.underlying30 rfl h);obtain⟨b1,rfl,B⟩:=lI (fE Tryz.underlying5 l);obtain⟨_,I,rfl,m,v⟩:=dD u;obtain⟨g,rfl,E⟩:=lI (fE Tryz.underlying5 m);obtain⟨_,J,rfl,q,y⟩:=dD v;obtain⟨j,rfl,F⟩:=lI (fE Tryz.underlying5 q);obtain⟨_,A,rfl,s,z⟩:=dD y;obtain⟨c,rfl,d⟩:=A7 s;obtain rfl:A=[]:=z;refine⟨b1::g::j::c,by simp [nC],by simp [d.1],fun x b=>?_⟩;simp at b;rcases b with rfl | rfl | rfl | b
 ·exact B
 ·exact E
 ·exact F
 ·exact d.2 x b
theorem FF{n:Nat}{ys:List FC}(h:pZ Tryz.prog (n+5) 26 ys):∃ p:iy,ys=p.row∧lS p:=by
 obtain⟨_,J,rfl,l,z⟩:=dD (oA (ts:=[5,22,23,24]) Tryz.underlying26 rfl h);obtain⟨a,rfl,g⟩:=lI (fE Tryz.underlying5 l);obtain⟨_,K,rfl,m,A⟩:=dD z;obtain⟨q,rfl,j⟩:=apH (fE Tryz.underlying22 m);obtain⟨_,M,rfl,s,B⟩:=dD A;obtain⟨lg,rows,rfl,_,y,d⟩:=yw Tryz.underlying23 s;obtain⟨L,rfl,v⟩:=zH (enc:=nC) (p:=gN 8) fun r b=>A7 (d r b);obtain⟨_,I,rfl,u,E⟩:=dD B;obtain⟨F,rows,rfl,_,H,d⟩:=yw Tryz.underlying24 u;obtain⟨O,rfl,x⟩:=zH (enc:=nC) (p:=gN 11) fun r b=>abk (d r b);obtain rfl:I=[]:=E;exact⟨⟨a,q,lg,L,F,O⟩,rfl,g.1,g.2,j.1,j.2,v,x,aaX (by simpa using y),aaX (by simpa using H)⟩
theorem BV{a:V}(h:tG Tryz.prog 26 a):∃ p:iy,a=.a (p.row.map .f)∧lS p:=by
 rcases h with⟨xs,rfl,b,_⟩ | ⟨x,rfl,b⟩
 ·obtain⟨x,rfl,d⟩:=FF (n:=35) b;exact⟨x,rfl,d⟩
 ·exfalso;obtain⟨x,e,_⟩:=FF (n:=35) b;simp [iy.row]at e
theorem DV{a:V}(h:tG Tryz.prog 30 a):∃ o:List Int,a=.a ((nC o).map .f)∧gN 11 o:=by
 rcases h with⟨xs,rfl,b,_⟩ | ⟨x,rfl,b⟩
 ·obtain⟨x,rfl,d⟩:=abk (n:=37) b;exact⟨x,rfl,d⟩
 ·exfalso;obtain⟨x,e,d⟩:=abk (n:=37) b;have:=congrArg List.length e;simp [nC,d.1]at this
theorem B8(h:dv)(B:h.l.length≤30)(id:Int):bh tab 21 [.a (h.row.map .f),vi id]=Eq (vi (match mc id h.l with | none=>-1 | some i=>(i:Int))):=bh.eq (by
 refine bV rfl rfl fun Q z=>?_;apply ai;simp [dv.row];apply ak;apply ai;simp;refine py h.l.length (fun j t H=>t.g 1=vi id∧t.g 2=.c (.ptr 0 0 0)∧H[0]?=aa (.box [.f (fi h.clock),.f (fi h.bZ),.f (sl h.lg (aN h.l))] 0)∧∀ q (v:q<h.l.length),q<j→h.l[q].id≠id) (by omega) rfl (by simp)
  ⟨by simp,by simp,rfl,by simp⟩ ?_ ?_ ?_
 ·rintro j t H L x ⟨s,m,h0,b⟩ l u;simp [l,m,h0];exact u _ ⟨by simp [s],by simp [m],h0,b⟩ (by simp [l]) (by simp)
 ·rintro j t H x ⟨s,m,h0,b⟩ l next
  have y:aS H ab (.c (.ptr 0 2 0))=aa (.c (.f (sl h.lg (aN h.l)))):=by simp [h0,aQ]
  have d:=bC (H:=H) (g:=h.lg) (rows:=aN h.l) (sz:=10) (k:=.i64) (i:=(j:Int)) (by omega) (by simp;omega);rw [asy]at d;have l0:=m6 (H:=H) (bS h.l) (dQ x) rfl;refine aG ?_;apply ai;by_cases u:h.l[j].id=id
  ·simp [l,s,m,y,d,l0,u,-av];refine aq (by simp) (ai ?_);simp [l];refine aB (z _ _ ?_);rw [zf x u b];simp
  ·simp [l,s,m,y,d,l0,u,-av];refine aD (by simp) (aO (aw (next _ _ ⟨by simp [s],by simp [m],h0,fun q v A=>?_⟩ (by simp [l]))));by_cases e:q=j
   ·subst e;exact u
   ·exact b q v (by omega)
 ·rintro t H ⟨s,m,h0,b⟩ l;apply ai;simp;refine aB (z _ _ ?_);rw [qz fun q v=>b q v v];simp)
theorem aav(p:iy)(hp:lS p)(o:List Int)(ho:gN 11 o):bh tab 5 [.a (p.row.map .f),.a ((nC o).map .f)]=Eq (vb ae):=bh.eq (by
 refine bV rfl rfl fun Q hQ=>?_;obtain⟨h,hk,hc,-,hP⟩:=yp p hp (fun _=>True) trivial fun _ _ _ _ _ _=>trivial;obtain⟨gp,j4⟩:=vF p hp;have a0:0≤p.af % 40:=asV _ (by omega);have a1:p.af % 40≤39:=by have:=asO p.af (show 0<40 by omega);omega
 obtain⟨k,i,t',c,i_,n8,i6,hi,ht⟩:=zu ho;obtain⟨n,f7,w_,hR,d9⟩:=abI h hk (by omega) (p.af % 40) (p.qu % 3000) a0 a1 gp p.l0 (vG p hp) k i t' c n8 i6 hi ht;have hF:=aqS hR;obtain⟨⟨i0,m9⟩,q_,n_⟩:=hF;have g_:=apz;have v_:=hk.len;have x6:=f7.len;have e6:=iR (k:=.u8) (b:=6) i6.1 (by decide);have e_:=fun id=>B8 n (by omega) id;have N:p.row.length=4:=rfl;have f8:(nC o).length=11:=by simp [nC,ho.1]
 have i9:(nC o).map C.f=.f (.int .u8 k) ::((nC (i::t'::c)).map C.f):=by rw [i_];rfl
 rw [←i_]at d9;have o_:h.row.length=3:=rfl;have s8:n.row.length=3:=rfl;obtain⟨row,j5⟩:=aI (p.row);obtain⟨s,f_⟩:=aI (nC o);rw [←j5]at hP N j4 ⊢;rw [←f_]at d9 f8 i9 ⊢;clear hR;obtain⟨K0,Y⟩:=aI ([.box (row.map .f) 0,.box (s.map .f) 0]:aj);obtain⟨K1,E⟩:=aI ([.box (row.map .f) 0,.box (s.map .f) 0,.box (h.row.map .f) 0]:aj);obtain⟨f,F⟩:=aI ([.box (row.map .f) 0,.box (s.map .f) 0,.box (h.row.map .f) 0,.box (n.row.map .f) 0]:aj);have lp:∀ K:aj,K[0]?=aa (.box (row.map .f) 0)→aS K (aa 4) (.c (.ptr 0 0 0))=aa (.a (row.map .f)):=fun K X=>by simp [aS,aE,X,aQ,N,arf]
 have lo:∀ K:aj,K[1]?=aa (.box (s.map .f) 0)→aS K (aa 11) (.c (.ptr 1 0 0))=aa (.a (s.map .f))∧aS K ab (.c (.ptr 1 0 0))=aa (.c (.f (.int .u8 k))):=fun K X=>by
  refine⟨by simp [aS,aE,X,aQ,f8,arf],?_⟩;rw [i9]at X;simp [aS,aE,X]
 have l0:=lp K0 (by rw [Y];rfl);have l1:=lp K1 (by rw [E];rfl);obtain⟨o1,-⟩:=lo K1 (by rw [E];rfl);obtain⟨b1,b2,b3⟩:=jv K1 2 h (by rw [E];rfl);apply ai;simp [N,f8];rw [←Y];apply ai;simp [g_];apply ai;simp [l0,hP,o_,-av];have e1:K0++[bq.box (h.row.map .f) 0]=K1:=by rw [Y,E];rfl
 have n0:K0.length=2:=by rw [Y];rfl
 rw [e1,n0];apply ai;simp [l1,o1,b1,j4,d9,s8,-av];have e2:K1++[bq.box (n.row.map .f) 0]=f:=by rw [E,F];rfl
 have n1:K1.length=3:=by rw [E];rfl
 rw [e2,n1];apply ai;simp;have n2:f.length=4:=by rw [F];rfl
 have hd:∀ K:aj,(∀ i:Nat,i<4→K[i]?=f[i]?)→aS K ab (.c (.ptr 1 0 0))=aa (.c (.f (.int .u8 k)))∧(aS K ab (.c (.ptr 2 0 0))=aa (vi h.clock)∧aS K ab (.c (.ptr 2 2 0))=aa (.c (.f (sl h.lg (aN h.l)))))∧(aS K (aa 3) (.c (.ptr 3 0 0))=aa (.a (n.row.map .f))∧aS K ab (.c (.ptr 3 0 0))=aa (vi n.clock)∧aS K ab (.c (.ptr 3 2 0))=aa (.c (.f (sl n.lg (aN n.l))))):=fun K X=>by
  obtain⟨-,o2⟩:=lo K (by rw [X 1 (by omega),F];rfl);obtain⟨p1,p2,p3⟩:=jv K 2 h (by rw [X 2 (by omega),F];rfl);obtain⟨p4,p5,p6⟩:=jv K 3 n (by rw [X 3 (by omega),F];rfl);exact⟨o2,⟨p2,p3⟩,p4,p5,p6⟩
 suffices go:∀ u:T,u.g 5=vb ae→u.g 3=.c (.ptr 1 0 0)→u.g 6=.c (.ptr 2 0 0)→u.g 7=.c (.ptr 3 0 0)→u.g 8=vi 0→WP tab 5 ab [.code An] ⟨u,[],f⟩ Q by
  exact go _ (by simp) (by simp) (by simp) (by simp) (by simp)
 clear l0 l1 o1 b1 b2 b3;intro u I L v z S;have i7:∀ K:aj,bt K (.f (sl h.lg (aN h.l)))=aa h.l.length:=fun K=>by simp
 have r_:∀ K:aj,bt K (.f (sl n.lg (aN n.l)))=aa n.l.length:=fun K=>by simp
 have i4:∀ x ∈ n.l,nL x.bc:=fun x hx=>(f7.f x hx).2;apply ak;apply ai;simp;refine py h.l.length (fun j t J=>t.g 5=vb ae∧t.g 3=.c (.ptr 1 0 0)∧t.g 6=.c (.ptr 2 0 0)∧t.g 7=.c (.ptr 3 0 0)∧(∀ i:Nat,i<4→J[i]?=f[i]?)∧∃ cn:Nat,t.g 8=vi cn∧cn≤j∧(2<k % 6→cn=0)∧(k % 6≤1→cn≤1∧(j≤i0→cn=0))) (by omega) rfl (by simp)
  ⟨by simp [I],by simp [L],by simp [v],by simp [z],fun _ _=>rfl,0,by simp [S],by omega,fun _=>rfl,fun _=>⟨by omega,fun _=>rfl⟩⟩ ?_ ?_ ?_
 ·rintro j t J K hj ⟨I,L,v,z,U,n9⟩ l hL;obtain⟨-,⟨p2,p3⟩,-⟩:=hd J U;simp [l,v,p3,i7,-av];obtain⟨cn,q1,q2,q3,Z⟩:=n9;exact hL _ ⟨by simp [I],by simp [L],by simp [v],by simp [z],U,cn,by simp [q1],q2,q3,Z⟩ (by simp [l]) (by simp)
 ·rintro j t J hj ⟨I,L,v,z,U,cn,S,q2,q3,Z⟩ l next
  obtain⟨m,hm,st,O,hs⟩:=m9 j hj;have i5:=ze f7 hm;have p_:n.l[m].id=h.l[j].id:=by rw [O]
  rw [p_]at i5;have d_:=e_ h.l[j].id;rw [i5]at d_;simp only at d_;have t8:=i4 _ (anc hm);obtain⟨-,⟨p2,p3⟩,-⟩:=hd J U;have a8:=fun H:aj=>bC (H:=H) (g:=h.lg) (rows:=aN h.l) (sz:=10) (k:=.i64) (i:=(j:Int)) (by omega) (by simp;omega);have s_:=fun H:aj=>cf (H:=H) (bS h.l) (dQ hj);have b_:=fun H:aj=>bC (H:=H) (g:=n.lg) (rows:=aN n.l) (sz:=10) (k:=.i64) (i:=(m:Int)) (by omega) (by simp;omega);have u6:=fun H:aj=>cf (H:=H) (bS n.l) (dQ hm);simp only [asy]at a8 b_;have t7:=abT n.l[m] t8;generalize n.l[m]=y at *;generalize h.l[j]=w at *;have t9:w.row.length=10:=rfl;have t_:y.row.length=10:=rfl;have nJ:4≤J.length:=by
   have h4:f[3]?=aa (.box (n.row.map .f) 0):=by rw [F];rfl
   have:=an ((U 3 (by omega)).trans h4);omega
  obtain⟨B,W⟩:=aI (J++[bq.box (w.row.map .f) 0]);have k1:∀ i:Nat,i<J.length→B[i]?=J[i]?:=fun i hi=>by rw [W,AT hi]
  have j7:B[J.length]?=aa (.box (w.row.map .f) 0):=by rw [W];simp
  have w0:aS B ab (.c (.ptr J.length 0 0))=aa (vi w.id):=by simp [aS,aE,j7,bl.row]
  obtain⟨-,-,v4,v5,v6⟩:=hd B fun i hi=>(k1 i (by omega)).trans (U i hi);have x8:B.length=J.length+1:=by rw [W];simp
  obtain⟨a,c_⟩:=aI (B++[bq.box (y.row.map .f) 0]);have k2:∀ i:Nat,i<B.length→a[i]?=B[i]?:=fun i hi=>by rw [c_,AT hi]
  have h_:a[B.length]?=aa (.box (y.row.map .f) 0):=by rw [c_];simp
  have A:a[J.length]?=aa (.box (w.row.map .f) 0):=by rw [k2 _ (by omega)];exact j7
  have j8:aS a ab (.c (.ptr J.length 2 0))=aa (vi w.state):=by simp [aS,aE,A,bl.row]
  have j9:aS a ab (.c (.ptr B.length 2 0))=aa (vi y.state):=by simp [aS,aE,h_,bl.row]
  refine aG ?_;apply ai;simp [v,l,p3,a8,s_,t9,-av];rw [←W];apply ai;simp [z,v4,w0,d_,-av];apply ak;apply ai;simp;refine bp (by simp) ?_;apply ai;simp [z,v6,b_,u6,t_,-av];rw [←c_];have b9:∀(t:T) (M:aj) (cn:Nat),t.g 5=vb ae→t.g 3=.c (.ptr 1 0 0)→t.g 6=.c (.ptr 2 0 0)→t.g 7=.c (.ptr 3 0 0)→t.g 8=vi cn→t.g 9=vi j→t.g 10=.c (.ptr J.length 0 0)→t.g 12=.c (.ptr B.length 0 0)→(∀ i:Nat,i<4→M[i]?=f[i]?)→M[J.length]?=aa (.box (y.row.map .f) 0)→M[B.length]?=aa (.box (y.row.map .f) 0) →
    cn≤j+1→(2<k % 6→cn=0)→(k % 6≤1→cn≤1∧(j+1≤i0→cn=0)) →
    WP tab 5 ab [.code Ap,.inBlock 1,.code (Fh 9 27 28),.inLoop (tz 0 9 26 27 28 [mm 22 9,nn 23 (.aR 2 (R 6)),nn 24 (.load ab (R 23)),nn 25 (.len (R 24)),nn 26 (.bin .lss (R 22) (R 25))] Ao),.inBlock 0,.code Aq] ⟨t,[],M⟩ Q:=by
   intro t M cn I L v z S l u_ v8 hM l_ m4 q2 q3 Z;have j_:aS M (aa 10) (.c (.ptr J.length 0 0))=aa (.a (y.row.map .f)):=by simp [aS,aE,l_,aQ,bl.row]
   have k_:aS M (aa 10) (.c (.ptr B.length 0 0))=aa (.a (y.row.map .f)):=by simp [aS,aE,m4,aQ,bl.row]
   apply ak;refine al (.inl rfl) ?_;simp [u_,v8,j_,k_,t7,-av];exact aD (by simp) (aO (aw (next _ _ ⟨by simp [I],by simp [L],by simp [v],by simp [z],hM,cn,by simp [S],q2,q3,Z⟩ (by simp [l]))))
  have kk:∀ i:Nat,i<4→a[i]?=f[i]?:=fun i hi=>(k2 i (by omega)).trans ((k1 i (by omega)).trans (U i hi));apply ak;apply ai;simp [j8,j9,-av];by_cases d:y.state=w.state
  ·have u5:y=w:=by
    rw [O];have:st=w.state:=by rw [O]at d;exact d
    rw [this]
   refine bp (by simp [d]) ?_;exact b9 _ _ cn (by simp [I]) (by simp [L]) (by simp [v]) (by simp [z]) (by simp [S]) (by simp [l]) (by simp) (by simp) kk (by rw [u5];exact A) h_ (by omega) q3 (fun q=>⟨(Z q).1,fun h'=>(Z q).2 (by omega)⟩)
  ·have a_:y.state=st:=by rw [O]
   have j6:w.state=1∧(k % 6=2∨(k % 6≤1∧j=i0)):=by
    rcases hs with hs | hs
    ·exact absurd (a_.trans hs) d
    ·exact hs
   refine aq (by simp [d]) ?_;apply ai;simp [S,aU (n:=(cn:Int)+1)];apply ak;apply ai;simp [j8,j6.1,-av];refine bp (by simp) ?_;have v9:de a (.ptr J.length 2 0) [.f (fi y.state)]=aa (a.set J.length (.box (y.row.map .f) 0)):=by
    have:y = { w with state:=y.state }:=by rw [a_];exact O
    rw [this];simp [de,A,over,bl.row]
   refine al (.inl rfl) ?_;simp [j9,v9,-av,-bf];refine b9 _ _ (cn+1) (by simp [I]) (by simp [L]) (by simp [v]) (by simp [z]) (by simp) (by simp [l]) (by simp) (by simp) (fun i hi=>?_) (IN (an A)) ?_ (by omega) (fun h'=>by omega) (fun q=>?_)
   ·rw [AI (by omega)];exact kk i hi
   ·rw [AI (by omega)];exact h_
   ·have:=Z q;have h2:=j6.2;omega
 ·rintro t J ⟨I,L,v,z,U,cn,S,q2,q3,Z⟩ l;obtain⟨o2,⟨p2,p3⟩,p4,p5,p6⟩:=hd J U;apply ai;simp [v,z,p3,p6,i7,r_,aU (n:=(n.l.length:Int)-h.l.length),-av];apply ak;apply ai;simp [L,o2,e6,-av];by_cases q:2<k % 6
  ·obtain⟨i8,r⟩:=n_ q;have m_:=q3 q;subst m_;refine aq (by simp [q]) ?_;apply ai;rcases i8 with e | e
   ·simp [I,v,z,S,p2,p5,e,r,-av];refine aB (hQ _ _ ?_);simp
   ·have e':(h.l.length:Int)+1-(h.l.length:Int)=1:=by omega
    simp [I,v,z,S,p2,p5,e,e',r,-av];refine aB (hQ _ _ ?_);simp
  ·have e:=q_ (by omega);refine aD (by simp;omega) (aO ?_);apply ai;by_cases h2:k % 6=2
   ·simp [L,I,v,z,S,o2,e6,e,h2,-av];refine aB (hQ _ _ ?_);simp
   ·have c1:(cn:Int)≤1:=by have:=(Z (by omega)).1;omega
    simp [L,I,v,z,S,o2,e6,e,h2,c1,-av];refine aB (hQ _ _ ?_);simp)
theorem Di(b:List V)(h:oG Tryz.prog [26,30] b):bh tab 5 b (vb ae):=by
 obtain⟨l,_,rfl,h0,a1,_,rfl,d,rfl⟩:=h;obtain⟨p,rfl,j⟩:=BV h0;obtain⟨o,rfl,g⟩:=DV d;rw [aav p j o g]
theorem qS(a b:List bl):cZ (a++b)=cZ a++cZ b:=by simp [cZ]
theorem Dz{x:bl}(h:pA x=ag):cZ [x]=[]:=by simp [cZ,h]
theorem xV{l:List bl}{i:Nat}{x:bl}(h:pA x=ag):cZ (l.take i++x::l.drop i)=cZ l:=by
 have:l.take i++x::l.drop i=l.take i++([x]++l.drop i):=rfl;rw [this,qS,qS,Dz h,List.nil_append,←qS,asP]
theorem ZW(l:List bl)(id:Int):(mc id l).isSome=l.any fun x=>decide (x.id=id):=by
 unfold mc;rw [List.findIdx?_isSome]
theorem pK{h n:dv}(d:nq h)(g:nq n)(b:n.clock=h.clock){y:bl}(hi:(n.l.any fun x=>decide (x.id=y.id))=h.l.any fun x=>decide (x.id=y.id)):cE n y=cE h y:=by
 unfold cE;rw [d.v,g.v,ZW,ZW,hi,b]
theorem EN{l:List bl}{i:Nat}{x:bl}{id:Int}(h:x.id≠id):((l.take i++x::l.drop i).any fun y=>decide (y.id=id))=l.any fun y=>decide (y.id=id):=by
 conv=>rhs;rw [←asP i l]
 rw [List.any_append,List.any_cons,List.any_append,decide_eq_false h,Bool.false_or]
theorem OD{h n:dv}{y:bl}{K:List Int}{m:Int}{a b:dv}{s t:List Int}{g e:Int}(N:cE n y=cE h y)(M:n.l.length=h.l.length+1)
  (L:nX h y K m a s g) (E:nX n y K m b t e):t=s∧e=g∧(0<a.l.length→b.l.length=a.l.length+1):=by
 rcases L with⟨H,F,A,z⟩ | ⟨H,F,A,z,v⟩ | ⟨H,F,A,z,gg,v⟩
 ·rcases E with⟨q,u,l,j⟩ | ⟨q,u,l,j,d⟩ | ⟨q,u,l,j,x,d⟩
  ·exact⟨by rw [A,l],by rw [z,j,N],fun h=>by rw [F]at h;simp [gq]at h⟩
  ·omega
  ·omega
 ·rcases E with⟨q,u,l,j⟩ | ⟨q,u,l,j,d⟩ | ⟨q,u,l,j,x,d⟩
  ·omega
  ·exact⟨by rw [z,j],by rw [v,d],fun h=>by rw [A]at h;simp [gq]at h⟩
  ·omega
 ·rcases E with⟨q,u,l,j⟩ | ⟨q,u,l,j,d⟩ | ⟨q,u,l,j,x,d⟩
  ·omega
  ·omega
  ·refine⟨by rw [z,j],by omega,fun _=>?_⟩;rcases v with⟨v,I⟩ | ⟨v,i,I,-,-,Q⟩
   ·rcases d with⟨d,B⟩ | ⟨d,O,B,-,-,J⟩
    ·rw [I,B];exact M
    ·exact absurd d v
   ·rcases d with⟨d,B⟩ | ⟨d,O,B,-,-,J⟩
    ·exact absurd v d
    ·rw [Q,J];simp only [List.length_append,List.length_cons,ast,List.length_drop];omega
theorem NR{l0:List aA}{h n:dv}(b:cZ n.l=cZ h.l):nZ l0 n=nZ l0 h:=by unfold nZ;rw [b]
theorem uE{h n:dv}(x:nq h)(J:nq n)(af v:Int)(L:0≤af)(a1:af≤39)(g0:Tg)(l0:List aA)(m:sY l0)(y:bl)(u:nL y.bc)(l:cZ n.l=cZ h.l)
  (U:cE n y=cE h y) (O:n.l.length=h.l.length+1) :
  ∃(a b:dv) (s:List Int) (g:Int),s.length=8∧(a.l.length≤h.l.length+1∧(0<a.l.length→b.l.length=a.l.length+1)) ∧
   bh tab 16 [.a (h.row.map .f),.c (.f (gd af v)),.c (.f (sl g0 (aC l0))),.a (y.row.map .f)]=Eq (.t [.a (a.row.map .f),.a (B7 s),vi g]) ∧
   bh tab 16 [.a (n.row.map .f),.c (.f (gd af v)),.c (.f (sl g0 (aC l0))),.a (y.row.map .f)]=Eq (.t [.a (b.row.map .f),.a (B7 s),vi g]):=by
 have N:=EK (l0:=l0) h;have S:=x.len;have Q:=m.len;obtain⟨K,d,A,-,j⟩:=AO af v L a1 (nZ l0 h) (by omega) (ab9 (qt m.ap h)) (fun s H=>by
  rcases EL H with H | ⟨y,u,rfl⟩
  ·exact(m.f s H).1
  ·exact(x.f y u).2) y.bc u
 obtain⟨a,s,g,B,M⟩:=uD h x (gd af v) g0 l0 m.ap m.len y (ir u) (fun z I=>ir (x.f z I).2) K d A (fun _ g=>j g);obtain⟨b,t,e,E,F⟩:=uD n J (gd af v) g0 l0 m.ap m.len y (ir u) (fun z I=>ir (J.f z I).2) K d A (fun _ g=>by rw [NR l];exact j g);obtain⟨rfl,rfl,q⟩:=OD U O B E;refine⟨a,b,t,e,?_,⟨?_,q⟩,M,F⟩
 rotate_left
 ·rcases B with⟨-,e,-,-⟩ | ⟨-,-,e,-,-⟩ | ⟨-,-,-,-,gg,⟨-,e⟩ | ⟨-,i,hi,-,-,e⟩⟩
  ·rw [e];simp [gq]
  ·rw [e];simp [gq]
  ·rw [e];simp
  ·rw [e];simp;omega
 rcases B with⟨-,-,e,-⟩ | ⟨-,-,-,e,-⟩ | ⟨-,-,-,e,-⟩
 ·rw [e];rfl
 ·rw [e];rfl
 ·rw [e];exact A
theorem acf(h:dv)(q:nq h){i:Nat}(hi:i<h.l.length):bh tab 23 [.a (h.row.map .f),vi h.l[i].id]=Eq (vi h.l[i].state):=bh.eq (by
 refine bV rfl rfl fun Q u=>?_;have x:=q.len;have d:=B8 h (by omega) h.l[i].id;rw [ze q hi]at d;simp only at d;have b:=fun H:aj=>bC (H:=H) (g:=h.lg) (rows:=aN h.l) (sz:=10) (k:=.i64) (i:=(i:Int)) (by omega) (by simp;omega);simp only [asy]at b;have l:=fun H:aj=>ib (H:=H) (k:=2) (bS h.l) (dQ hi) rfl;generalize h.l[i]=w at *;have j:h.row.length=3:=rfl;obtain⟨K,m⟩:=aI ([.box (h.row.map .f) 0]:aj);obtain⟨a1,v,s⟩:=jv K 0 h (by rw [m];rfl);apply ai;simp [j];rw [←m];apply ai;simp [a1,d,-av];apply ak;apply ai;simp;refine bp (by simp) ?_;apply ai;simp [s,b,l,-av];refine aB (u _ _ ?_);simp)
theorem aaD(K:aj)(b:Nat)(x:bl)(d:K[b]?=aa (.box (x.row.map .f) 0)):aS K (aa 10) (.c (.ptr b 0 0))=aa (.a (x.row.map .f)):=by
 simp [aS,aE,d,aQ,bl.row]
theorem eq8(K:aj)(b a1 d g j l m q:Int):CC K (.st [.int,.int,.int,.int,.int,.int,.int,.int]) (.a [.f (fi b),.f (fi a1),.f (fi d),.f (fi g),.f (fi j),.f (fi l),.f (fi m),.f (fi q)]) (.a [.f (fi b),.f (fi a1),.f (fi d),.f (fi g),.f (fi j),.f (fi l),.f (fi m),.f (fi q)])=aa ae:=by simp [E4]
theorem aaw(p:iy)(hp:lS p)(o:List Int)(ho:gN 11 o)(o2:List Int)(ho2:gN 11 o2):bh tab 6 [.a (p.row.map .f),.a ((nC o).map .f),.a ((nC o2).map .f)]=Eq (vb ae):=bh.eq (by
 refine bV rfl rfl fun Q hQ=>?_;obtain⟨h,hk,hc,-,hP⟩:=yp p hp (fun _=>True) trivial fun _ _ _ _ _ _=>trivial;obtain⟨gp,hpl⟩:=vF p hp;have a0:0≤p.af % 40:=asV _ (by omega);have a1:p.af % 40≤39:=by have:=asO p.af (show 0<40 by omega);omega
 have s_:=vG p hp;have t_:=apz;have hll:=hk.len;have hc0:=hk.c0;obtain⟨k,i,t,c,hoo,hcl,-,hi,ht⟩:=zu ho;obtain⟨k2,i2,t2,c2,aq6,k_,-,hi2,ht2⟩:=zu ho2;have j7:=vO k i t h.clock c hcl hi ht (by omega) (by omega);have j8:=vO k2 i2 t2 h.clock c2 k_ hi2 ht2 (by omega) (by omega);rw [←hoo]at j7;rw [←aq6]at j8;obtain⟨x0,f_⟩:=aI (Bk i t h.clock c);obtain⟨y,u6⟩:=aI (Bk i2 t2 h.clock c2);rw [←f_]at j7;rw [←u6]at j8;obtain⟨x,g_⟩:=aI (⟨100,h.clock,1,x0.bc⟩:bl);have hx1:({ x0 with id:=100 }:bl)=⟨100,x0.dl,1,x0.bc⟩:=by rw [f_];rfl
 have hxf:nL x.bc:=by rw [g_,f_];exact(mU hcl).1
 have hyf:nL y.bc:=by rw [u6];exact(mU k_).1
 have asb:1≤y.id∧y.id≤8:=by rw [u6];show 1≤1+i2 % 8∧1+i2 % 8≤8;omega
 obtain⟨rf,code,n,ref,cc,h8,hG,-,hPn⟩:=xN h hk (p.af % 40) (p.qu % 3000) a0 a1 gp p.l0 s_ x hxf;obtain⟨rm,j5⟩:=aI (gd (p.af % 40) (p.qu % 3000));obtain⟨sd,j6⟩:=aI (sl gp (aC p.l0));have aq9:ref.length=8:=by
  rcases hG with⟨-,-,e,-⟩ | ⟨-,-,-,e,-⟩ | ⟨-,-,-,e,-⟩
  ·rw [e];rfl
  ·rw [e];rfl
  ·rw [e];exact h8
 have f7:p.row.length=4:=rfl;have s8:(nC o).length=11:=by simp [nC,ho.1]
 have d9:(nC o2).length=11:=by simp [nC,ho2.1]
 obtain⟨row,aq'⟩:=aI (p.row);obtain⟨ow,how⟩:=aI (nC o);obtain⟨X,aq7⟩:=aI (nC o2);rw [←aq']at hP f7 hpl ⊢;rw [←how]at j7 s8 ⊢;rw [←aq7]at j8 d9 ⊢;have l_:=hpl;rw [←j5,←j6]at l_;have S:=hPn;rw [←j5,←j6]at S;have hhl:h.row.length=3:=rfl;have hnl:n.row.length=3:=rfl;have arb:x0.row.length=10:=rfl;have hyl:y.row.length=10:=rfl;have u_:∀(K:aj) (b m:Nat) (r:List FC),K[b]?=aa (.box (r.map .f) 0)→r.length=m→aS K (aa m) (.c (.ptr b 0 0))=aa (.a (r.map .f)):=fun K b m r Z hm=>by
  simp [aS,aE,Z,aQ,hm,arf]
 have v8:∀ K:aj,K[4]?=aa (.box [.f rm,.f sd] 0)→aS K ab (.c (.ptr 4 0 0))=aa (.c (.f rm))∧aS K ab (.c (.ptr 4 1 0))=aa (.c (.f sd)):=fun K Z=>by
  refine⟨?_,?_⟩<;>simp [aS,aE,Z]
 obtain⟨K2,i4⟩:=aI ([.box (row.map .f) 0,.box (ow.map .f) 0,.box (X.map .f) 0]:aj);obtain⟨K5,W⟩:=aI ([.box (row.map .f) 0,.box (ow.map .f) 0,.box (X.map .f) 0,.box (h.row.map .f) 0,.box [.f rm,.f sd] 0]:aj);obtain⟨K7,z9⟩:=aI ([.box (row.map .f) 0,.box (ow.map .f) 0,.box (X.map .f) 0,.box (h.row.map .f) 0,.box [.f rm,.f sd] 0,.box (x0.row.map .f) 0,.box (y.row.map .f) 0]:aj);obtain⟨K9,n8⟩:=aI ([.box (row.map .f) 0,.box (ow.map .f) 0,.box (X.map .f) 0,.box (h.row.map .f) 0,.box [.f rm,.f sd] 0,.box (({ x0 with id:=100 }:bl).row.map .f) 0,.box (y.row.map .f) 0]:aj);obtain⟨Y,A⟩:=aI ([.box (row.map .f) 0,.box (ow.map .f) 0,.box (X.map .f) 0,.box (h.row.map .f) 0,.box [.f rm,.f sd] 0,.box (x.row.map .f) 0,.box (y.row.map .f) 0]:aj);apply ai;simp [f7,s8,d9];rw [←i4];apply ai;simp [t_];have n2:K2.length=3:=by rw [i4];rfl
 have e5:K2++[.box (h.row.map .f) 0,.box [.f rm,.f sd] 0]=K5:=by rw [i4,W];rfl
 apply ai;simp [u_ K2 0 4 row (by rw [i4];rfl) f7,hP,l_,hhl,n2,-av];rw [e5];obtain⟨b1,b2,-⟩:=jv K5 3 h (by rw [W];rfl);have n5:K5.length=5:=by rw [W];rfl
 have e7:K5++[.box (x0.row.map .f) 0,.box (y.row.map .f) 0]=K7:=by rw [W,z9];rfl
 apply ai;simp [u_ K5 1 11 ow (by rw [W];rfl) s8,u_ K5 2 11 X (by rw [W];rfl) d9,b2,j7,j8,arb,hyl,n5,-av];rw [e7];have s9:de K7 (.ptr 5 0 0) [.f (fi 100)]=aa K9:=by rw [z9,n8];rfl
 apply ai;simp [s9,-bf];obtain⟨d1,d2,-⟩:=jv K9 3 h (by rw [n8];rfl);have sB:de K9 (.ptr 5 1 0) [.f (fi h.clock)]=aa Y:=by rw [n8,A,g_,hx1];rfl
 apply ai;simp [d2,sB,-av,-bf];obtain⟨f1,f2,-⟩:=jv Y 3 h (by rw [A];rfl);obtain⟨f3,f4⟩:=v8 Y (by rw [A];rfl);have f5:=aaD Y 5 x (by rw [A];rfl);have nB:Y.length=7:=by rw [A];rfl
 obtain⟨r0,r1,r2,r3,r4,r5,r6,r7,hr⟩:=xU aq9;obtain⟨KD,a8⟩:=aI (Y++[.box (n.row.map .f) 0,.box [.f (fi r0),.f (fi r1),.f (fi r2),.f (fi r3),.f (fi r4),.f (fi r5),.f (fi r6),.f (fi r7)] 0]:aj);apply ai;rw [hr]at S;simp only [B7,asq,asA]at S;simp [f1,f3,f4,f5,S,hnl,nB,-av];rw [←a8];have nD:KD.length=9:=by rw [a8];simp [nB]
 have bD:∀ i:Nat,i<7→KD[i]?=Y[i]?:=fun i hi=>by rw [a8,AT (by omega)]
 have dn:KD[7]?=aa (.box (n.row.map .f) 0):=by rw [a8,←nB];simp
 have dr:KD[8]?=aa (.box [.f (fi r0),.f (fi r1),.f (fi r2),.f (fi r3),.f (fi r4),.f (fi r5),.f (fi r6),.f (fi r7)] 0):=by rw [a8,IS (by omega),nB];rfl
 suffices go:∀ u:T,u.g 7=vb ae→u.g 8=.c (.ptr 3 0 0)→u.g 9=.c (.ptr 4 0 0)→u.g 10=.c (.ptr 5 0 0)→u.g 11=.c (.ptr 6 0 0)→u.g 12=.c (.ptr 7 0 0)→u.g 13=.c (.ptr 8 0 0)→u.g 14=vi cc→WP tab 6 ab [.code Ar] ⟨u,[],KD⟩ Q by
  exact go _ (by simp) (by simp) (by simp) (by simp) (by simp) (by simp) (by simp) (by simp)
 intro u u7 u8 u9 u10 d E j9 j_;have v9:aS KD ab (.c (.ptr 8 0 0))=aa (vi r0):=by simp [aS,aE,dr]
 apply ak;apply ai;by_cases n_:cc=0
 case neg=>
  simp [j9,j_,n_,v9,-av];refine aq (by simp) ?_;apply ai;simp [u7];refine aB (hQ _ _ ?_);simp
 by_cases t7:r0=0
 case neg=>
  simp [j9,j_,n_,v9,t7,-av];refine aq (by simp) ?_;apply ai;simp [u7];refine aB (hQ _ _ ?_);simp
 simp [j9,j_,n_,v9,t7,-av];refine bp (by simp) ?_;obtain⟨g,j,hj,q_,o_,hn⟩:∃ g j,j≤h.l.length∧(∀ q (hq:q<h.l.length),q<j→h.l[q].id<x.id)∧(∀ q (hq:q<h.l.length),j≤q→x.id<h.l[q].id)∧n=⟨h.clock,h.bZ,g,h.l.take j++x::h.l.drop j⟩:=by
  rcases hG with⟨e1,-,-,e2⟩ | ⟨-,e1,-,-,e2⟩ | ⟨e1,e2,-,e4,g,⟨e3,-⟩ | ⟨e3,j,hj,q_,o_,e5⟩⟩
  ·omega
  ·omega
  ·rw [hr]at e4;rw [←e4]at e3;simp [t7]at e3
  ·exact⟨g,j,hj,q_,o_,e5⟩
 have h_:x.id=100:=by rw [g_]
 have m4:x.state=1:=by rw [g_]
 have asa:x.dl=h.clock:=by rw [g_]
 have H:nq n:=by
  rw [hn];exact aaN hk (by unfold okX;omega) (by omega) ⟨.inr h_,hxf⟩ q_ o_ g
 have U:n.l=h.l.take j++x::h.l.drop j:=by rw [hn]
 have arS:n.l.length=h.l.length+1:=by rw [U];simp;omega
 have p_:j<n.l.length:=by omega
 have r_:n.l[j]=x:=by
  simp only [U];rw [atL (by rw [ast];omega)];simp only [ast,as8 hj,at2,List.getElem_cons_zero]
 have hfi:mc 100 n.l=aa j:=by
  have:=ze H p_;rwa [r_,h_]at this
 have ar':=H.len;obtain⟨g',M,J,hPr⟩:=vL n (by omega) (fun z hz=>ir (H.f z hz).2) 100;have htE:eo n 100=0:=by
  unfold eo;rw [aX (by rw [H.v];simp),hfi];simp only [By p_,r_,m4,if_true]
 rw [htE]at J hPr;rw [ba rfl]at J;have t9:M.l=h.l.take j++{ x with state:=3 }::h.l.drop j:=by
  rw [J];show(gT n 100 3).l=_;unfold gT;simp only [hfi,abN,By p_,r_];rw [U,List.set_append_right _ _ (by rw [ast];omega)];simp only [ast,as8 hj,at2,List.set_cons_zero]
 have f8:nq M:=by rw [J];exact F6 H (.inr rfl) g'
 have t8:M.clock=h.clock:=by rw [J,hn];rfl
 have hne:(100:Int)≠y.id:=by omega
 obtain⟨a,b,s,gg,hs8,⟨ar8,hab⟩,i_,j4⟩:=uE hk f8 (p.af % 40) (p.qu % 3000) a0 a1 gp p.l0 s_ y hyf (by rw [t9];exact xV (by simp [pA]))
  (pK hk f8 t8 (by rw [t9];exact EN (by show x.id≠y.id;omega))) (by rw [t9];simp;omega)
 rw [←j5,←j6]at i_ j4;obtain⟨s0,s1,s2,s3,s4,s5,s6,s7,hs⟩:=xU hs8;rw [hs]at i_ j4;simp only [B7,asq,asA]at i_ j4;have hrr:M.row.length=3:=rfl;have har:a.row.length=3:=rfl;have hbr:b.row.length=3:=rfl;have tE:∀ z:dv,nq z→z.clock=h.clock→jA z (h.clock+1)=0:=fun z hz h0=>by
  unfold jA;rw [aX];rintro(h' | h' | h')
  ·rw [hz.v]at h';cases h'
  ·omega
  ·omega
 have hnc:n.clock=h.clock:=by rw [hn]
 obtain⟨g3,l,I,hPo⟩:=zQ h (by omega) (fun z hz=>ir (hk.f z hz).2) (h.clock+1);rw [tE h hk rfl]at I hPo;rw [ba rfl]at I;obtain⟨g4,ex,b_,z_⟩:=zQ n (by omega) (fun z hz=>ir (H.f z hz).2) (h.clock+1);rw [tE n H hnc]at b_ z_;rw [ba rfl]at b_;have d_:nq l:=by rw [I];exact zR hk (by omega) (by omega) g3
 have c_:nq ex:=by rw [b_];exact zR H (by omega) (by omega) g4
 have hxt:fI (h.clock+1) x = { x with state:=4 }:=by unfold fI;rw [ba ⟨m4,by omega⟩]
 have e_:l.l=h.l.map (fI (h.clock+1)):=by rw [I]
 have F:ex.l=l.l.take j++{ x with state:=4 }::l.l.drop j:=by
  rw [b_];show n.l.map _=_;rw [U,List.map_append,asq,hxt,e_,List.map_take,List.map_drop]
 have arT:l.l.length=h.l.length:=by rw [e_];simp
 have hje:j<ex.l.length:=by rw [F];simp;omega
 have aq2:ex.l[j] = { x with state:=4 }:=by
  simp only [F];rw [atL (by rw [ast];omega)];simp only [ast,as8 (show j≤l.l.length by omega),at2,List.getElem_cons_zero]
 have B:=acf ex c_ hje;rw [aq2]at B;simp only [h_]at B;obtain⟨y2,u5⟩:=aI ({ y with dl:=h.clock+9 }:bl);obtain⟨a',b',v,g6,hv8,-,N,O⟩:=uE d_ c_ (p.af % 40) (p.qu % 3000) a0 a1 gp p.l0 s_ y2 (by rw [u5];exact hyf) (by rw [F];exact xV (by simp [pA]))
  (pK d_ c_ (by rw [I,b_]) (by rw [F];exact EN (by rw [u5];show x.id≠y.id;omega))) (by rw [F];simp;omega)
 rw [←j5,←j6]at N O;obtain⟨v0,v1,v2,v3,v4,v5,v6,v7,hv⟩:=xU hv8;rw [hv]at N O;simp only [B7,asq,asA]at N O;have hor:l.row.length=3:=rfl;have her:ex.row.length=3:=rfl;have aqW:a'.row.length=3:=rfl;have aqY:b'.row.length=3:=rfl;have w1:=aU (n:=h.clock+1);have w9:=aU (n:=h.clock+9);have low:∀ K:aj,(∀ i:Nat,i<7→K[i]?=Y[i]?)→(aS K (aa 3) (.c (.ptr 3 0 0))=aa (.a (h.row.map .f))∧aS K ab (.c (.ptr 3 0 0))=aa (vi h.clock))∧(aS K ab (.c (.ptr 4 0 0))=aa (.c (.f rm))∧aS K ab (.c (.ptr 4 1 0))=aa (.c (.f sd)))∧aS K (aa 10) (.c (.ptr 6 0 0))=aa (.a (y.row.map .f)):=fun K Z=>by
  obtain⟨q1,q2,-⟩:=jv K 3 h (by rw [Z 3 (by omega),A];rfl);exact⟨⟨q1,q2⟩,v8 K (by rw [Z 4 (by omega),A];rfl),aaD K 6 y (by rw [Z 6 (by omega),A];rfl)⟩
 obtain⟨KE,i5⟩:=aI (KD++[.box (M.row.map .f) 0]:aj);have nE:KE.length=10:=by rw [i5];simp [nD]
 have bE:∀ i:Nat,i<9→KE[i]?=KD[i]?:=fun i hi=>by rw [i5,AT (by omega)]
 have dE:KE[9]?=aa (.box (M.row.map .f) 0):=by rw [i5,←nD];simp
 obtain⟨KF,a_⟩:=aI (KE++[.box (a.row.map .f) 0,.box [.f (fi s0),.f (fi s1),.f (fi s2),.f (fi s3),.f (fi s4),.f (fi s5),.f (fi s6),.f (fi s7)] 0]:aj);have nF:KF.length=12:=by rw [a_];simp [nE]
 have bF:∀ i:Nat,i<10→KF[i]?=KE[i]?:=fun i hi=>by rw [a_,AT (by omega)]
 have dF:KF[10]?=aa (.box (a.row.map .f) 0):=by rw [a_,←nE];simp
 have dF':KF[11]?=aa (.box [.f (fi s0),.f (fi s1),.f (fi s2),.f (fi s3),.f (fi s4),.f (fi s5),.f (fi s6),.f (fi s7)] 0):=by rw [a_,IS (by omega),nE];rfl
 obtain⟨L,b9⟩:=aI (KF++[.box (b.row.map .f) 0,.box [.f (fi s0),.f (fi s1),.f (fi s2),.f (fi s3),.f (fi s4),.f (fi s5),.f (fi s6),.f (fi s7)] 0]:aj);have nG:L.length=14:=by rw [b9];simp [nF]
 have bG:∀ i:Nat,i<12→L[i]?=KF[i]?:=fun i hi=>by rw [b9,AT (by omega)]
 have dG:L[12]?=aa (.box (b.row.map .f) 0):=by rw [b9,←nF];simp
 have dG':L[13]?=aa (.box [.f (fi s0),.f (fi s1),.f (fi s2),.f (fi s3),.f (fi s4),.f (fi s5),.f (fi s6),.f (fi s7)] 0):=by rw [b9,IS (by omega),nF];rfl
 obtain⟨⟨q1,q2⟩,⟨q3,q4⟩,q5⟩:=low KD bD;obtain⟨m_,dn2,-⟩:=jv KD 7 n dn;apply ai;simp [E,m_,hPr,hrr,nD,-av];rw [←i5];obtain⟨⟨q1,q2⟩,⟨q3,q4⟩,q5⟩:=low KE fun i hi=>(bE i (by omega)).trans (bD i hi);apply ai;simp [u8,u9,d,q1,q3,q4,q5,i_,har,nE,-av];rw [←a_];have y7:∀ i:Nat,i<7→KF[i]?=Y[i]?:=fun i hi=>(bF i (by omega)).trans ((bE i (by omega)).trans (bD i hi));obtain⟨⟨q1,q2⟩,⟨q3,q4⟩,q5⟩:=low KF y7;obtain⟨rl1,-,-⟩:=jv KF 9 M ((bF 9 (by omega)).trans dE);apply ai;simp [u9,d,rl1,q3,q4,q5,j4,hbr,nF,-av];rw [←b9]
 suffices go2:∀ u:T,u.g 7=vb ae→u.g 8=.c (.ptr 3 0 0)→u.g 9=.c (.ptr 4 0 0)→u.g 11=.c (.ptr 6 0 0)→u.g 12=.c (.ptr 7 0 0)→u.g 16=vi 0→u.g 17=.c (.ptr 10 0 0)→u.g 18=.c (.ptr 11 0 0)→u.g 19=vi gg→u.g 20=.c (.ptr 12 0 0)→u.g 21=.c (.ptr 13 0 0)→u.g 22=vi gg→WP tab 6 ab [.code As] ⟨u,[],L⟩ Q by
  exact go2 _ (by simp [u7]) (by simp [u8]) (by simp [u9]) (by simp [d]) (by simp [E]) (by simp) (by simp) (by simp) (by simp) (by simp) (by simp) (by simp)
 clear u7 u8 u9 u10 d E j9 j_ u;intro u u7 u8 u9 d E v_ w_ x6 x8 x9 x_ y6;have y8:∀ i:Nat,i<7→L[i]?=Y[i]?:=fun i hi=>(bG i (by omega)).trans (y7 i hi);have l18:aS L (aa 8) (.c (.ptr 11 0 0))=aa (.a [.f (fi s0),.f (fi s1),.f (fi s2),.f (fi s3),.f (fi s4),.f (fi s5),.f (fi s6),.f (fi s7)]):=by simp [aS,aE,(bG 11 (by omega)).trans dF',aQ]
 have l21:aS L (aa 8) (.c (.ptr 13 0 0))=aa (.a [.f (fi s0),.f (fi s1),.f (fi s2),.f (fi s3),.f (fi s4),.f (fi s5),.f (fi s6),.f (fi s7)]):=by simp [aS,aE,dG',aQ]
 obtain⟨-,-,la⟩:=jv L 10 a ((bG 10 (by omega)).trans dF);obtain⟨-,-,lb⟩:=jv L 12 b dG;have hla:∀ K:aj,bt K (.f (sl a.lg (aN a.l)))=aa a.l.length:=fun K=>by simp
 have hlb:∀ K:aj,bt K (.f (sl b.lg (aN b.l)))=aa b.l.length:=fun K=>by simp
 have he8:=eq8 L s0 s1 s2 s3 s4 s5 s6 s7;have z8:∀ u:T,u.g 7=vb ae→u.g 8=.c (.ptr 3 0 0)→u.g 9=.c (.ptr 4 0 0)→u.g 11=.c (.ptr 6 0 0)→u.g 12=.c (.ptr 7 0 0)→WP tab 6 ab [.code Au] ⟨u,[],L⟩ Q:=by
  clear u7 u8 u9 d E v_ w_ x6 x8 x9 x_ y6 u;intro u u7 u8 u9 d E;obtain⟨KH,i6⟩:=aI (L++[.box (l.row.map .f) 0]:aj);have nH:KH.length=15:=by rw [i6];simp [nG]
  have bH:∀ i:Nat,i<14→KH[i]?=L[i]?:=fun i hi=>by rw [i6,AT (by omega)]
  have dH:KH[14]?=aa (.box (l.row.map .f) 0):=by rw [i6,←nG];simp
  obtain⟨KI,i7⟩:=aI (KH++[.box (ex.row.map .f) 0]:aj);have nI:KI.length=16:=by rw [i7];simp [nH]
  have bI:∀ i:Nat,i<15→KI[i]?=KH[i]?:=fun i hi=>by rw [i7,AT (by omega)]
  have dI:KI[15]?=aa (.box (ex.row.map .f) 0):=by rw [i7,←nH];simp
  obtain⟨KJ,i8⟩:=aI (KI.set 6 (.box (y2.row.map .f) 0):aj);have nJ:KJ.length=16:=by rw [i8,ass,nI]
  have bJ:∀ i:Nat,i≠6→KJ[i]?=KI[i]?:=fun i hi=>by rw [i8,AI (Ne.symm hi)]
  have dJ:KJ[6]?=aa (.box (y2.row.map .f) 0):=by rw [i8];exact IN (by omega)
  have y_:∀ i:Nat,i<7→KH[i]?=Y[i]?:=fun i hi=>(bH i (by omega)).trans (y8 i hi);have m9:∀ i:Nat,i<7→KI[i]?=Y[i]?:=fun i hi=>(bI i (by omega)).trans (y_ i hi);obtain⟨⟨q1,q2⟩,⟨q3,q4⟩,q5⟩:=low L y8;apply ai;simp [u8,q1,q2,w1,hPo,hor,nG,-av];rw [←i6];obtain⟨⟨q1,q2⟩,⟨q3,q4⟩,q5⟩:=low KH y_;obtain⟨m_,-,-⟩:=jv KH 7 n ((bH 7 (by omega)).trans ((bG 7 (by omega)).trans ((bF 7 (by omega)).trans ((bE 7 (by omega)).trans dn))));apply ai;simp [u8,E,m_,q2,w1,z_,her,nH,-av];rw [←i7];obtain⟨⟨q1,q2⟩,⟨q3,q4⟩,q5⟩:=low KI m9;have sJ:de KI (.ptr 6 1 0) [.f (fi (h.clock+9))]=aa KJ:=by
   have h6:KI[6]?=aa (.box (y.row.map .f) 0):=by rw [m9 6 (by omega),A];rfl
   rw [i8,u5];simp [de,h6,over,bl.row]
  apply ai;simp [u8,d,q2,w9,sJ,-av,-bf];have jq:∀ K:aj,(∀ i:Nat,i<16→K[i]?=KJ[i]?)→(aS K (aa 3) (.c (.ptr 14 0 0))=aa (.a (l.row.map .f))∧aS K (aa 3) (.c (.ptr 15 0 0))=aa (.a (ex.row.map .f)))∧(aS K ab (.c (.ptr 4 0 0))=aa (.c (.f rm))∧aS K ab (.c (.ptr 4 1 0))=aa (.c (.f sd)))∧aS K (aa 10) (.c (.ptr 6 0 0))=aa (.a (y2.row.map .f)):=fun K Z=>by
   refine⟨⟨?_,?_⟩,v8 K (by rw [Z 4 (by omega),bJ 4 (by omega),m9 4 (by omega),A];rfl),aaD K 6 y2 (by rw [Z 6 (by omega)];exact dJ)⟩
   ·exact(jv K 14 l (by rw [Z 14 (by omega),bJ 14 (by omega),bI 14 (by omega)];exact dH)).1
   ·exact(jv K 15 ex (by rw [Z 15 (by omega),bJ 15 (by omega)];exact dI)).1
  obtain⟨KK,i9⟩:=aI (KJ++[.box (a'.row.map .f) 0,.box [.f (fi v0),.f (fi v1),.f (fi v2),.f (fi v3),.f (fi v4),.f (fi v5),.f (fi v6),.f (fi v7)] 0]:aj);have nK:KK.length=18:=by rw [i9];simp [nJ]
  have bK:∀ i:Nat,i<16→KK[i]?=KJ[i]?:=fun i hi=>by rw [i9,AT (by omega)]
  have dK:KK[17]?=aa (.box [.f (fi v0),.f (fi v1),.f (fi v2),.f (fi v3),.f (fi v4),.f (fi v5),.f (fi v6),.f (fi v7)] 0):=by rw [i9,IS (by omega),nJ];rfl
  obtain⟨KL,n9⟩:=aI (KK++[.box (b'.row.map .f) 0,.box [.f (fi v0),.f (fi v1),.f (fi v2),.f (fi v3),.f (fi v4),.f (fi v5),.f (fi v6),.f (fi v7)] 0]:aj);have bL:∀ i:Nat,i<18→KL[i]?=KK[i]?:=fun i hi=>by rw [n9,AT (by omega)]
  have dL:KL[19]?=aa (.box [.f (fi v0),.f (fi v1),.f (fi v2),.f (fi v3),.f (fi v4),.f (fi v5),.f (fi v6),.f (fi v7)] 0):=by rw [n9,IS (by omega),nK];rfl
  obtain⟨⟨p1,p2⟩,⟨p3,p4⟩,p5⟩:=jq KJ fun _ _=>rfl;apply ai;simp [u9,d,p1,p3,p4,p5,N,aqW,nJ,-av];rw [←i9];obtain⟨⟨p1,p2⟩,⟨p3,p4⟩,p5⟩:=jq KK bK;apply ai;simp [u9,d,p2,p3,p4,p5,O,aqY,nK,-av];rw [←n9];obtain⟨⟨p1,p2⟩,-,-⟩:=jq KL fun i hi=>(bL i (by omega)).trans (bK i hi);have l28:aS KL (aa 8) (.c (.ptr 17 0 0))=aa (.a [.f (fi v0),.f (fi v1),.f (fi v2),.f (fi v3),.f (fi v4),.f (fi v5),.f (fi v6),.f (fi v7)]):=by simp [aS,aE,(bL 17 (by omega)).trans dK,aQ]
  have l31:aS KL (aa 8) (.c (.ptr 19 0 0))=aa (.a [.f (fi v0),.f (fi v1),.f (fi v2),.f (fi v3),.f (fi v4),.f (fi v5),.f (fi v6),.f (fi v7)]):=by simp [aS,aE,dL,aQ]
  have he9:=eq8 KL v0 v1 v2 v3 v4 v5 v6 v7;apply ai;simp [u7,p2,B,l28,l31,he9,-av,-De];refine aB (hQ _ _ ?_);simp
 apply ak;apply ai;by_cases hal:0<a.l.length
 ·have hbl:=hab hal;have ar7:(0:Int)<(a.l.length:Int):=by omega
  have wl:=aU (n:=(a.l.length:Int)+1);simp [v_,w_,x6,x8,x9,x_,y6,l18,l21,he8,la,lb,hla,hlb,hal,hbl,wl,-av,-De];refine bp (by simp) ?_;exact z8 _ (by simp [u7]) (by simp [u8]) (by simp [u9]) (by simp [d]) (by simp [E])
 ·have aqV:a.l.length=0:=by omega
  simp [v_,w_,x6,x8,x9,x_,y6,l18,l21,he8,la,lb,hla,hlb,aqV,-av,-De];refine bp (by simp) ?_;exact z8 _ (by simp [u7]) (by simp [u8]) (by simp [u9]) (by simp [d]) (by simp [E]))
theorem Dl(d:List V)(h:oG Tryz.prog [26,30,30] d):bh tab 6 d (vb ae):=by
 obtain⟨s,_,rfl,h0,a1,_,rfl,g,u,_,rfl,j,rfl⟩:=h;obtain⟨p,rfl,m⟩:=BV h0;obtain⟨o,rfl,l⟩:=DV g;obtain⟨q,rfl,b⟩:=DV j;rw [aaw p m o l q b]
end Go.Proofs.YtnaofdffomdmhaaGreat
