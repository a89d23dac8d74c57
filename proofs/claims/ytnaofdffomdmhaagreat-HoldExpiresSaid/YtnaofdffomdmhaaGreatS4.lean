/-
  ajE the mz jK and the lS answer, for all arguments of their kind, in the small machine: part 4.
-/
import Derived.Test.YtnaofdffomdmhaaGreatS3
import Derived.Test.YtnaofdffomdmhaaGreatProg
import Derived.Test.YtnaofdffomdmhaaGreatK4
import Derived.Test.YtnaofdffomdmhaaGreatS2
open Option renaming some → aa,none → ab
open Bool renaming true → ae,false → ag
open List renaming take_of_length_le → ap1, getElem?_set_self → IN, getElem?_set_ne → AI, getElem?_append_left → AT, getElem?_append_right → IS, getElem_mem → anc, mem_map → aqJ
open Int renaming toNat_natCast → aqI
set_option linter.unusedVariables false
set_option linter.constructorNameAsVariable false
set_option linter.unusedSimpArgs false
set_option linter.unusedSectionVars false
set_option linter.unnecessarySimpa false
set_option maxRecDepth 100000
namespace Go.Proofs.YtnaofdffomdmhaaGreat
open Go Km
def Bv(l0:List aA)(h b:dv)(k:Int):Prop:=
 b=h∨(k % 6≤1∧∃ id d g,(d=2∨d=3)∧ei h id=0∧b = { jW h id d with lg:=g }) ∨
 (k % 6=2∧∃ c g,h.clock≤c∧c≤h.clock+29∧b=⟨c,h.bJ,g,h.l.map (cS c)⟩) ∨
 (3≤k % 6∧∃ g,b = { h with lg:=g }) ∨
 (3≤k % 6∧∃ x i g,okX h.clock x∧x.state=1∧(1≤x.id∧x.id≤8)∧kQ x.bc∧x.bc.meet≤7∧i≤h.l.length∧(∀ j (l:j<h.l.length),j<i→h.l[j].id<x.id)∧(∀ j (l:j<h.l.length),i≤j→x.id<h.l[j].id) ∧
  b=⟨h.clock,h.bJ,g,h.l.take i++x::h.l.drop i⟩∧kz (sG l0 h) x.bc=ag∧∀ s ∈ sG l0 h,s.room=x.bc.room→s.meet≠x.bc.meet→¬ nQ x.bc.st s.st)
theorem rN{s:aA}(h:kQ s):Fix s:=by
 obtain⟨m,r,t,z,n,p,mi,le,rfl,b⟩:=h;exact afL ..
structure xd(l0:List aA):Prop where
 ap:jE l0
 len:l0.length≤3
 f:∀ s ∈ l0,kQ s∧20≤s.meet
theorem M7(h:dv)(u:rz h)(af A:Int)(F:0≤af)(a1:af≤39)(g0:Tg)(l0:List aA)(m:xd l0)(x:bz)(E:kQ x.bc) :
  ∃(j:List Int) (b:Int) (res:dv) (d:List Int) (c:Int),j.length=8∧sw h x j b res d c ∧
   (b=0→kz (sG l0 h) x.bc=ag∧(j.headD 0=0→∀ s ∈ sG l0 h,s.room=x.bc.room→s.meet≠x.bc.meet→¬ nQ x.bc.st s.st)) ∧
   bh tab 16 [.a (h.row.map .f),.c (.f (gl af A)),.c (.f (sl g0 (aD l0))),.a (x.row.map .f)]=Eq (.t [.a (res.row.map .f),.a (N9 d),vi c]):=by
 have L:=u.len;have J:=aff (l0:=l0) h;have K:=m.len;obtain⟨j,b,B,q,l⟩:=Yb af A F a1 (sG l0 h) (by omega) (ak8 (vG m.ap h)) (fun s v=>by
  rcases afg v with v | ⟨y,z,rfl⟩
  ·exact(m.f s v).1
  ·exact(u.f y z).2) x.bc E
 obtain⟨res,d,c,H,I⟩:=YX h u (gl af A) g0 l0 m.ap m.len x (rN E) (fun y z=>rN (u.f y z).2) j b B (fun _ g=>l g);exact⟨j,b,res,d,c,B,H,q,I⟩
theorem ak2(h:dv)(F:rz h)(hc:h.clock≤99000)(af qu:Int)(a0:0≤af)(a1:af≤39)(g0:Tg)(l0:List aA)(hp:xd l0)(k i t:Int)(c:List Int)(c_:jg 8 c)(j9:0≤k∧k≤255)(hi:0≤i∧i≤255)(ht:0≤t∧t≤255) :
  ∃ A,rz A∧A.clock≤h.clock+29∧Bv l0 h A k∧bh tab 20 [.a (h.row.map .f),.a [.f (gl af qu),.f (sl g0 (aD l0))],.a ((A7 (k::i::t::c)).map .f)]=Eq (.a (A.row.map .f)):=by
 obtain⟨r,⟨A,h1,h2,h3,rfl⟩,L⟩:∃ r,(∃ A,rz A∧A.clock≤h.clock+29∧Bv l0 h A k∧r=.a (A.row.map .f))∧bh tab 20 [.a (h.row.map .f),.a [.f (gl af qu),.f (sl g0 (aD l0))],.a ((A7 (k::i::t::c)).map .f)] r:=by
  refine eI rfl rfl fun Q hQ=>?_;have n9:=F.len;have n8:=F.c0;have d9:∀ x ∈ h.l,Fix x.bc:=fun x hx=>rN (F.f x hx).2;have d_:h.row.length=3:=rfl;have e6:=jb (k:=.u8) (b:=6) j9.1 (by decide);have e8:=jb (k:=.u8) (b:=8) hi.1 (by decide);have j5:=jb (k:=.u8) (b:=30) ht.1 (by decide);have e_:=Z3 k i t h.clock c c_ hi ht (by omega) (by omega);obtain⟨rm,i7⟩:=aK (gl af qu);obtain⟨sd,i8⟩:=aK (sl g0 (aD l0));obtain⟨E,N⟩:=aK (A7 (k::i::t::c));have i6:E.length=11:=by rw [N];simp [A7,c_.1]
  have o0:∀ K:aj,K[2]?=aa (.box (E.map .f) 0)→aU K ab (.c (.ptr 2 0 0))=aa (.c (.f (.int .u8 k)))∧aU K ab (.c (.ptr 2 1 0))=aa (.c (.f (.int .u8 i)))∧aU K ab (.c (.ptr 2 2 0))=aa (.c (.f (.int .u8 t)))∧aU K (aa 11) (.c (.ptr 2 0 0))=aa (.a (E.map .f)):=fun K J=>by
   have e:E.map C.f=.f (.int .u8 k)::.f (.int .u8 i)::.f (.int .u8 t) ::(A7 c).map .f:=by rw [N];rfl
   refine⟨?_,?_,?_,?_⟩
   ·rw [e]at J;simp [aU,aF,J]
   ·rw [e]at J;simp [aU,aF,J]
   ·rw [e]at J;simp [aU,aF,J]
   ·simp [aU,aF,J,aT,i6,ap1]
  rw [←N]at e_ ⊢;rw [←i7,←i8];obtain⟨l,B⟩:=aK ([.box (h.row.map .f) 0,.box [.f rm,.f sd] 0,.box (E.map .f) 0,.box [.f (fi 0),.f (fi 0),.f .au] 0,.box (h.row.map .f) 0]:aj);have z0:l[0]?=aa (.box (h.row.map .f) 0):=by rw [B];rfl
  have z1:l[1]?=aa (.box [.f rm,.f sd] 0):=by rw [B];rfl
  have z2:l[2]?=aa (.box (E.map .f) 0):=by rw [B];rfl
  have z3:l[3]?=aa (.box [.f (fi 0),.f (fi 0),.f .au] 0):=by rw [B];rfl
  have z4:l[4]?=aa (.box (h.row.map .f) 0):=by rw [B];rfl
  have lh:∀(K:aj) (b:Nat) (x:dv),K[b]?=aa (.box (x.row.map .f) 0)→aU K (aa 3) (.c (.ptr b 0 0))=aa (.a (x.row.map .f))∧aU K ab (.c (.ptr b 0 0))=aa (vi x.clock):=fun K b x J=>by
   refine⟨?_,?_⟩<;>simp [aU,aF,J,aT,dv.row]
  have sh:∀(K:aj) (b:Nat) (cs:List C) (x:dv),K[b]?=aa (.box cs 0)→cs.length=3→cZ K (.ptr b 0 0) (x.row.map .f)=aa (K.set b (.box (x.row.map .f) 0)):=fun K b cs x J hl=>by
   match cs,hl with
   | [p,q,r],_=>simp [cZ,J,over,dv.row]
  have H:∀(u:T) (K:aj) (e:Int) (x:dv),u.g 3=.c (.ptr 0 0 0)→u.g 6=.c (.ptr 3 0 0)→u.g 7=.c (.ptr 4 0 0)→u.g 8=vi e→K[0]?=aa (.box (h.row.map .f) 0)→K[3]?=aa (.box [.f (fi 0),.f (fi 0),.f .au] 0)→K[4]?=aa (.box (x.row.map .f) 0) →
    (∀ y,y=(if e=0 then x else h)→rz y∧y.clock≤h.clock+29∧Bv l0 h y k)→WP tab 20 ab [.code yT] ⟨u,[],K⟩ Q:=by
   intro u K e x O I S g8 k0 k3 k4 s;have f_:∀(u:T) (y:dv) (j:Option aE),u.g 6=.c (.ptr 3 0 0)→(rz y∧y.clock≤h.clock+29∧Bv l0 h y k)→Q j ⟨u,[],K.set 3 (.box (y.row.map .f) 0)⟩:=by
    intro u y j I s;have d:(K.set 3 (.box (y.row.map .f) 0))[3]?=aa (.box (y.row.map .f) 0):=IN (an k3);refine hQ _ _ _ ⟨y,s.1,s.2.1,s.2.2,rfl⟩ ⟨rfl,V.a (y.row.map .f),?_,by simp [iA,cC,bg,deep]⟩;simp [Km.results,cI,bg,I,(lh _ 3 y d).1,-az]
   apply ak;apply ai;simp [g8];by_cases M:e=0
   ·have:=s x (by rw [ba M]);refine bp (by simp [M]) ?_;apply ai;have k_:x.row.length=3:=rfl;simp [I,S,(lh K 4 x k4).1,k_,sh K 3 _ x k3 rfl,-az,-bf];exact aB (f_ _ x _ (by simp [I]) this)
   ·have:=s h (by rw [aW M]);refine aq (by simp [M]) ?_;apply ai;simp [O,I,(lh K 0 h k0).1,d_,sh K 3 _ h k3 rfl,-az,-bf];exact aB (f_ _ h _ (by simp [I]) this)
  have a_:rz h∧h.clock≤h.clock+29∧Bv l0 h h k:=⟨F,by omega,.inl rfl⟩
  have b9:∀(id st:Int) (g:Tg) (z:dv),k % 6≤1→(st=2∨st=3)→z=(if ei h id=0 then { jW h id st with lg:=g }else iw)→∀ y,y=(if ei h id=0 then z else h)→rz y∧y.clock≤h.clock+29∧Bv l0 h y k:=by
   intro id st g z j8 Y m y s;by_cases M:ei h id=0
   ·rw [ba M]at m s;subst s;rw [m];exact⟨ahl F Y g,by show h.clock≤_;omega,.inr (.inl ⟨j8,id,st,g,Y,M,rfl⟩)⟩
   ·rw [aW M]at s;rw [s];exact a_
  have start:∀ u:T,u.g 3=.c (.ptr 0 0 0)→u.g 4=.c (.ptr 1 0 0)→u.g 5=.c (.ptr 2 0 0)→u.g 6=.c (.ptr 3 0 0)→u.g 7=.c (.ptr 4 0 0)→WP tab 20 ab [.code Da] ⟨u,[],l⟩ Q:=by
   intro u O g4 g5 I S;obtain⟨p1,p2,p3,p4⟩:=o0 l z2;obtain⟨h3,a7⟩:=lh l 0 h z0;have m_:ef deep l (.f .au)=aa .au:=rfl;refine ak (ai ?_);simp [g5,p1,e6,-az];refine aG (ai ?_);simp;by_cases c0:k % 6=0
   ·refine aq (by simp [c0]) ?_;obtain⟨g,z,m,L⟩:=BL h (by omega) d9 (1+i % 8);have v:z.row.length=3:=rfl;refine al (.inl rfl) ?_;simp [O,g5,S,p2,h3,e8,aV (n:=i % 8),aV (n:=1+i % 8),L,v,sh l 4 _ z z4 rfl,-az,-bf];refine av (H _ _ (ei h (1+i % 8)) z (by simp [O]) (by simp [I]) (by simp [S]) (by simp) ?_ ?_ (IN (an z4)) (b9 _ 2 g z (by omega) (.inl rfl) m))
    ·rw [AI (by decide)];exact z0
    ·rw [AI (by decide)];exact z3
   refine aC (by simp [c0]) ?_;apply ai;simp;by_cases c1:k % 6=1
   ·refine aq (by simp [c1]) ?_;obtain⟨g,z,m,L⟩:=CN h (by omega) d9 (1+i % 8);have v:z.row.length=3:=rfl;refine al (.inl rfl) ?_;simp [O,g5,S,p2,h3,e8,aV (n:=i % 8),aV (n:=1+i % 8),L,v,sh l 4 _ z z4 rfl,-az,-bf];refine av (H _ _ (ei h (1+i % 8)) z (by simp [O]) (by simp [I]) (by simp [S]) (by simp) ?_ ?_ (IN (an z4)) (b9 _ 3 g z (by omega) (.inr rfl) m))
    ·rw [AI (by decide)];exact z0
    ·rw [AI (by decide)];exact z3
   refine aC (by simp [c1]) ?_;apply ai;simp;by_cases c2:k % 6=2
   ·refine aq (by simp [c2]) ?_;obtain⟨g,z,m,L⟩:=pC h (by omega) d9 (h.clock+t % 30);have v:z.row.length=3:=rfl;have j_:gY h (h.clock+t % 30)=0:=by
     unfold gY;rw [aW];rintro(A | A | A)
     ·rw [F.v]at A;cases A
     ·omega
     ·omega
    rw [j_]at m L;refine al (.inl rfl) ?_;simp [O,g5,S,p3,h3,a7,j5,aV (n:=t % 30),aV (n:=h.clock+t % 30),L,v,sh l 4 _ z z4 rfl,-az,-bf];refine av (H _ _ 0 z (by simp [O]) (by simp [I]) (by simp [S]) (by simp) ?_ ?_ (IN (an z4)) fun y s=>?_)
    ·rw [AI (by decide)];exact z0
    ·rw [AI (by decide)];exact z3
    ·rw [ba rfl]at s m;rw [s,m];refine⟨Eu F (by omega) (by omega) g,by show h.clock+t % 30≤_;omega,.inr (.inr (.inl ⟨c2,_,g,?_,?_,rfl⟩))⟩<;>omega
   refine aC (by simp [c2]) ?_;have c3:3≤k % 6:=by omega
   obtain⟨x,hx⟩:=aK (Y1 i t h.clock c);rw [←hx]at e_;obtain⟨j6,m4,j7⟩:=vM c_;have f7:kQ x.bc:=by rw [hx];exact j6
   obtain⟨rf,l_,res,Z,cc,h8,hG,i9,L⟩:=M7 h F af qu a0 a1 g0 l0 hp x f7;rw [←i7,←i8]at L;have v:res.row.length=3:=rfl;have a8:Z.length=8:=by
    rcases hG with⟨-,-,e,-⟩ | ⟨-,-,-,e,-⟩ | ⟨-,-,-,e,-⟩
    ·rw [e];rfl
    ·rw [e];rfl
    ·rw [e];exact h8
   have q0:aU l ab (.c (.ptr 1 0 0))=aa (.c (.f rm))∧aU l ab (.c (.ptr 1 1 0))=aa (.c (.f sd)):=by
    refine⟨?_,?_⟩<;>simp [aU,aF,z1]
   have n0:l.length=5:=by rw [B];rfl
   obtain⟨K1,U⟩:=aK (l++[bo.box [.f (fi 0),.f (fi 0),.f .au] 0,bo.box [.f (fi 0),.f (fi 0),.f (fi 0),.f (fi 0),.f (fi 0),.f (fi 0),.f (fi 0),.f (fi 0)] 0]);have k1:∀ i:Nat,i<5→K1[i]?=l[i]?:=fun i hi=>by rw [U,AT (by omega)]
   have d5:K1[l.length]?=aa (.box [.f (fi 0),.f (fi 0),.f .au] 0):=by rw [U];simp
   have d6:K1[l.length+1]?=aa (.box [.f (fi 0),.f (fi 0),.f (fi 0),.f (fi 0),.f (fi 0),.f (fi 0),.f (fi 0),.f (fi 0)] 0):=by rw [U,IS (by omega)];simp
   have s1:=sh K1 l.length _ res d5 rfl;obtain⟨K2,W⟩:=aK (K1.set l.length (.box (res.row.map .f) 0));rw [←W]at s1;have j4:K2[l.length+1]?=_:=(by rw [W,AI (by omega)]:K2[l.length+1]?=K1[l.length+1]?).trans d6;have i_:K2[l.length]?=aa (.box (res.row.map .f) 0):=by rw [W];exact IN (an d5)
   obtain⟨K3,b_⟩:=aK (K2.set (l.length+1) (.box (Z.map fun n=>.f (fi n)) 0));have s2:cZ K2 (.ptr (l.length+1) 0 0) (Z.map fun n=>.f (fi n))=aa K3:=by
    rw [b_]
    match Z,a8 with
    | [p0,p1,p2,p3,p4,p5,p6,p7],_=>simp [cZ,j4,over]
   have f8:K3[l.length]?=aa (.box (res.row.map .f) 0):=by rw [b_,AI (by omega)];exact i_
   have k3:∀ i:Nat,i<5→K3[i]?=l[i]?:=fun i hi=>by rw [b_,AI (by omega),W,AI (by omega),k1 i hi]
   rw [U]at s1;apply ai;simp [O,g4,g5,p4,h3,a7,q0.1,q0.2,e_,L,v,N9,a8,s1,s2,-az,-bf];have w4:=(k3 4 (by omega)).trans z4;have w3:=(k3 3 (by omega)).trans z3;have w0:=(k3 0 (by omega)).trans z0;have l5:=(lh K3 l.length res f8).1;apply ai;simp [S,l5,v,sh K3 4 _ res w4 rfl,-az,-bf];refine al (.inl rfl) ?_;simp;refine av (H _ _ cc res (by simp [O]) (by simp [I]) (by simp [S]) (by simp) ?_ ?_ (IN (an w4)) fun y s=>?_)
   ·rw [AI (by decide)];exact w0
   ·rw [AI (by decide)];exact w3
   by_cases M:cc=0
   case neg=>rw [aW M]at s;rw [s];exact a_
   rw [ba M]at s;subst s;rcases hG with⟨e1,-,-,e2⟩ | ⟨-,e1,-,-,e2⟩ | ⟨e1,e2,-,-,g,⟨-,e3⟩ | ⟨e3,j,hj,i4,g_,e4⟩⟩
   ·omega
   ·omega
   ·rw [e3];refine⟨⟨F.v,F.c0,F.c1,F.d,F.f⟩,by show h.clock≤_;omega,.inr (.inr (.inr (.inl ⟨c3,g,rfl⟩)))⟩
   ·have h_:1≤x.id∧x.id≤8:=by rw [hx];show 1≤1+i % 8∧1+i % 8≤8;omega
    have Y:x.state=1:=by rw [hx];rfl
    have m9:x.dl=h.clock+t % 50-2:=by rw [hx];rfl
    have i5:okX h.clock x:=by
     unfold dj at e1;split at e1
     ·omega
     ·split at e1
      ·omega
      ·split at e1
       ·omega
       ·rename_i hn;unfold okX;omega
    obtain⟨t1,t2⟩:=i9 e2;have h0:rf.headD 0=0:=by
     match rf,h8 with
     | p0::_,_=>simpa using e3
    rw [e4];refine⟨ako F i5 (by omega) ⟨.inl h_,f7⟩ i4 g_ g,by show h.clock≤_;omega,.inr (.inr (.inr (.inr ⟨c3,x,j,g,i5,Y,h_,f7,by rw [hx];exact j7,hj,i4,g_,rfl,t1,t2 h0⟩)))⟩
  apply ai;simp [d_,i6];apply ai;obtain⟨KK,X⟩:=aK ([.box (h.row.map .f) 0,.box [.f rm,.f sd] 0,.box (E.map .f) 0,.box [.f (fi 0),.f (fi 0),.f .au] 0]:aj);have w0:KK[0]?=aa (.box (h.row.map .f) 0):=by rw [X];rfl
  have nK:KK.length=4:=by rw [X];rfl
  have eK:KK++[bo.box (h.row.map .f) 0]=l:=by rw [X,B];rfl
  rw [←X];simp [(lh KK 0 h w0).1,d_,nK,-az];rw [eK];exact start _ (by simp) (by simp) (by simp) (by simp) (by simp)
 exact⟨A,h1,h2,h3,L.eq⟩
def h00:dv:=⟨100,5,.nil,[]⟩
theorem akb:rz h00:=⟨by decide,by decide,by decide,rfl,fun x b=>by simp [h00]at b⟩
theorem ZT(p:iq)(h:na p):xd p.l0:=by
 obtain⟨a,b,c⟩:=anr p h;exact⟨a,b,c⟩
theorem NK(p:iq)(W:na p)(Inv:dv→Prop)(a8:Inv h00)(step:∀ h F k,rz h→Inv h→Bv p.l0 h F k→Inv F) :
  ∃ h,rz h∧h.clock≤1000∧Inv h∧bh tab 11 [.a (p.row.map .f)]=Eq (.a (h.row.map .f)):=by
 obtain⟨r,⟨h,Z,h2,h3,rfl⟩,hP⟩:∃ r,(∃ h,rz h∧h.clock≤1000∧Inv h∧r=.a (h.row.map .f))∧bh tab 11 [.a (p.row.map .f)] r:=by
  refine eI rfl rfl fun Q hQ=>?_;obtain⟨g,X⟩:=ZS p W;have c_:=W.Ol;have b_:=ZT p W;have z:p.row.length=4:=rfl;have a0:0≤p.af % 40:=Int.emod_nonneg _ (by omega);have a1:p.af % 40≤39:=by have:=Int.emod_lt_of_pos p.af (show 0<40 by omega);omega
  obtain⟨row,l⟩:=aK (p.row);have lp:∀ K:aj,K[0]?=aa (.box (row.map .f) 0)→aU K (aa 4) (.c (.ptr 0 0 0))=aa (.a (row.map .f))∧aU K ab (.c (.ptr 0 3 0))=aa (.c (.f (sl p.og (Bg p.O)))):=fun K O=>by
   rw [l]at O ⊢;refine⟨?_,?_⟩<;>simp [aU,aF,O,aT,iq.row]
  have lh:∀(K:aj) (b:Nat) (x:dv),K[b]?=aa (.box (x.row.map .f) 0)→aU K (aa 3) (.c (.ptr b 0 0))=aa (.a (x.row.map .f)):=fun K b x O=>by
   simp [aU,aF,O,aT,dv.row]
  have sh:∀(K:aj) (b:Nat) (cs:List C) (x:dv),K[b]?=aa (.box cs 0)→cs.length=3→cZ K (.ptr b 0 0) (x.row.map .f)=aa (K.set b (.box (x.row.map .f) 0)):=fun K b cs x O hl=>by
   match cs,hl with
   | [p,q,r],_=>simp [cZ,O,over,dv.row]
  have y:∀ J:aj,bu J (.f (sl p.og (Bg p.O)))=aa p.O.length:=fun J=>by simp
  rw [←l]at X ⊢;rw [←l]at z;apply ai;simp [z];apply ai;simp;obtain⟨Y,m⟩:=aK ([.box (row.map .f) 0,.box [.f (fi 0),.f (fi 0),.f .au] 0,.box (h00.row.map .f) 0]:aj);have z0:Y[0]?=aa (.box (row.map .f) 0):=by rw [m];rfl
  have z1:Y[1]?=aa (.box [.f (fi 0),.f (fi 0),.f .au] 0):=by rw [m];rfl
  have z2:Y[2]?=aa (.box (h00.row.map .f) 0):=by rw [m];rfl
  have eK:Y=[.box (row.map .f) 0,.box [.f (fi 0),.f (fi 0),.f .au] 0,.box [.f (fi 100),.f (fi 5),.f .au] 0]:=m;rw [←eK];apply ak;apply ai;simp;obtain⟨n,hn⟩:=aK (min p.O.length 12);refine oS n (fun j t J=>t.g 1=.c (.ptr 0 0 0)∧t.g 2=.c (.ptr 1 0 0)∧t.g 3=.c (.ptr 2 0 0)∧J[0]?=aa (.box (row.map .f) 0)∧J[1]?=aa (.box [.f (fi 0),.f (fi 0),.f .au] 0)∧∃ h:dv,J[2]?=aa (.box (h.row.map .f) 0)∧rz h∧h.clock≤100+29*(j:Int)∧Inv h) (by omega) rfl (by simp)
   ⟨by simp,by simp,by simp,z0,z1,h00,z2,akb,by decide,a8⟩ ?_ ?_ ?_
  ·rintro j t J K hj ⟨s,B,E,k0,M,h,A,I,hc,N⟩ u hL;by_cases Z:j<p.O.length
   ·simp [u,s,(lp J k0).2,y,Z,-az];exact hL _ ⟨by simp [s],by simp [B],by simp [E],k0,M,h,A,I,hc,N⟩ (by simp [u]) (by simp;omega)
   ·simp [u,s,(lp J k0).2,y,Z,-az];exact hL _ ⟨by simp [s],by simp [B],by simp [E],k0,M,h,A,I,hc,N⟩ (by simp [u]) (by simp;omega)
  ·rintro j t J hj ⟨s,B,E,k0,M,h,A,I,hc,N⟩ u next
   have S:j<p.O.length:=by omega
   have v:=fun H:aj=>bF (H:=H) (g:=p.og) (rows:=Bg p.O) (sz:=11) (k:=.i64) (i:=(j:Int)) (by omega) (by simp;omega);have U:=fun H:aj=>bR (H:=H) (A8 W.O) (aaL S);simp only [aqI]at v;obtain⟨k,i,t',c,ho,a7,b9,hi,ht⟩:=aku (W.O _ (anc S));rw [ho]at U;obtain⟨F,a_,d9,hR,hP⟩:=ak2 h I (by omega) (p.af % 40) (p.qu % 3000) a0 a1 g p.l0 b_ k i t' c a7 b9 hi ht;have L:F.row.length=3:=rfl;refine aG ?_;refine al (.inl rfl) ?_;simp [s,E,u,(lp J k0).1,(lp J k0).2,lh J 2 h A,X,v,U,hP,L,sh J 2 _ F A rfl,-az,-bf];refine av (next _ _ ⟨by simp [s],by simp [B],by simp [E],?_,?_,F,IN (an A),a_,by omega,step h F k I N hR⟩ (by simp [u]))
   ·rw [AI (by decide)];exact k0
   ·rw [AI (by decide)];exact M
  ·rintro t J ⟨s,B,E,k0,M,h,A,I,hc,N⟩ u;have L:h.row.length=3:=rfl;have d:(J.set 1 (.box (h.row.map .f) 0))[1]?=aa (.box (h.row.map .f) 0):=IN (an M);apply ai;simp [B,E,lh J 2 h A,L,sh J 1 _ h M rfl,-az,-bf];refine aB (hQ _ _ _ ⟨h,I,by omega,N,rfl⟩ ⟨rfl,V.a (h.row.map .f),?_,by simp [iA,cC,bg,deep]⟩);simp [Km.results,cI,bg,B,lh _ 1 h d,-az]
 exact⟨h,Z,h2,h3,hP.eq⟩
theorem jG{x:List FC}(h:∃ m,x=[FC.int .u8 m]∧Lit.wf (.int .u8 m)):∃ m:Int,x=[FC.int .u8 m]∧(0≤m∧m≤255):=by
 obtain⟨m,rfl,b⟩:=h;simp [Lit.wf,IntKind.min,IntKind.max,IntKind.signed,IntKind.bits]at b;exact⟨m,rfl,by omega⟩
theorem an7{x:List FC}(h:∃ m,x=[FC.int .u16 m]∧Lit.wf (.int .u16 m)):∃ m:Int,x=[FC.int .u16 m]∧(0≤m∧m≤65535):=by
 obtain⟨m,rfl,b⟩:=h;simp [Lit.wf,IntKind.min,IntKind.max,IntKind.signed,IntKind.bits]at b;exact⟨m,rfl,by omega⟩
theorem Zk{n:Nat}(h:n≤maxLen):n≤9223372036854775807:=Nat.le_trans h (by decide)
theorem zB{n:Nat}{ys:List FC}(h:pI Tryz.prog (n+2) 28 ys):∃ c:List Int,ys=A7 c∧jg 8 c:=by
 obtain⟨_,S,rfl,u,H⟩:=du (nD (ts:=[5,5,5,5,5,5,5,5]) Tryz.underlying28 rfl h);obtain⟨b1,rfl,e⟩:=jG (eL Tryz.underlying5 u);obtain⟨_,U,rfl,v,I⟩:=du H;obtain⟨d,rfl,f⟩:=jG (eL Tryz.underlying5 v);obtain⟨_,W,rfl,y,J⟩:=du I;obtain⟨g,rfl,i⟩:=jG (eL Tryz.underlying5 y);obtain⟨_,X,rfl,z,K⟩:=du J;obtain⟨j,rfl,k⟩:=jG (eL Tryz.underlying5 z);obtain⟨_,Y,rfl,A,L⟩:=du K;obtain⟨l,rfl,o⟩:=jG (eL Tryz.underlying5 A);obtain⟨_,Z,rfl,B,M⟩:=du L;obtain⟨m,rfl,p⟩:=jG (eL Tryz.underlying5 B);obtain⟨_,a,rfl,E,N⟩:=du M;obtain⟨q,rfl,r⟩:=jG (eL Tryz.underlying5 E);obtain⟨_,Q,rfl,F,O⟩:=du N;obtain⟨s,rfl,t⟩:=jG (eL Tryz.underlying5 F);obtain rfl:Q=[]:=O;refine⟨[b1,d,g,j,l,m,q,s],rfl,rfl,fun x b=>?_⟩;simp at b;rcases b with rfl | rfl | rfl | rfl | rfl | rfl | rfl | rfl<;>assumption
theorem anL{n:Nat}{ys:List FC}(h:pI Tryz.prog (n+3) 30 ys):∃ c:List Int,ys=A7 c∧jg 11 c:=by
 obtain⟨_,H,rfl,l,u⟩:=du (nD (ts:=[5,5,5,28]) Tryz.underlying30 rfl h);obtain⟨b1,rfl,B⟩:=jG (eL Tryz.underlying5 l);obtain⟨_,I,rfl,m,v⟩:=du u;obtain⟨g,rfl,E⟩:=jG (eL Tryz.underlying5 m);obtain⟨_,J,rfl,q,y⟩:=du v;obtain⟨j,rfl,F⟩:=jG (eL Tryz.underlying5 q);obtain⟨_,A,rfl,s,z⟩:=du y;obtain⟨c,rfl,d⟩:=zB s;obtain rfl:A=[]:=z;refine⟨b1::g::j::c,by simp [A7],by simp [d.1],fun x b=>?_⟩;simp at b;rcases b with rfl | rfl | rfl | b
 ·exact B
 ·exact E
 ·exact F
 ·exact d.2 x b
theorem D_{n:Nat}{ys:List FC}(h:pI Tryz.prog (n+5) 26 ys):∃ p:iq,ys=p.row∧na p:=by
 obtain⟨_,J,rfl,l,z⟩:=du (nD (ts:=[5,22,23,24]) Tryz.underlying26 rfl h);obtain⟨a,rfl,g⟩:=jG (eL Tryz.underlying5 l);obtain⟨_,K,rfl,m,A⟩:=du z;obtain⟨q,rfl,j⟩:=an7 (eL Tryz.underlying22 m);obtain⟨_,M,rfl,s,B⟩:=du A;obtain⟨lg,rows,rfl,_,y,d⟩:=wM Tryz.underlying23 s;obtain⟨L,rfl,v⟩:=yc (enc:=A7) (p:=jg 8) fun r b=>zB (d r b);obtain⟨_,I,rfl,u,E⟩:=du B;obtain⟨F,rows,rfl,_,H,d⟩:=wM Tryz.underlying24 u;obtain⟨O,rfl,x⟩:=yc (enc:=A7) (p:=jg 11) fun r b=>anL (d r b);obtain rfl:I=[]:=E;exact⟨⟨a,q,lg,L,F,O⟩,rfl,g.1,g.2,j.1,j.2,v,x,Zk (by simpa using y),Zk (by simpa using H)⟩
theorem ZU{a:V}(h:se Tryz.prog 26 a):∃ p:iq,a=.a (p.row.map .f)∧na p:=by
 rcases h with⟨xs,rfl,b,_⟩ | ⟨x,rfl,b⟩
 ·obtain⟨x,rfl,d⟩:=D_ (n:=35) b;exact⟨x,rfl,d⟩
 ·exfalso;obtain⟨x,e,_⟩:=D_ (n:=35) b;simp [iq.row]at e
theorem aaM{a:V}(h:se Tryz.prog 5 a):∃ n:Int,a=.c (.f (.int .u8 n))∧(0≤n∧n≤255):=by
 rcases h with⟨xs,_,_,d,g,b⟩ | ⟨z,rfl,j⟩
 ·rw [Tryz.underlying5]at g;cases g;rcases b with⟨_,e⟩ | ⟨_,_,e⟩<;>cases e
 ·obtain⟨m,e,l⟩:=jG (eL Tryz.underlying5 j);cases e;exact⟨m,rfl,l⟩
theorem apF:bh tab 10 []=Eq (vb ae):=jT (by kernel_rfl)
theorem nf{b:Type}{f:b→b→Bool}:∀ {xs:List b},(∀ x ∈ xs,f x x=ae)→gQ f xs xs=ae
 | [],_=>rfl| x::xs,h=>by simp only [gQ,h x List.mem_cons_self,nf fun y d=>h y (List.mem_cons_of_mem _ d),Bool.and_self]
def Rf(n:Nat)(x:FC):Prop:=FC.beq n x x=ae
theorem tX(n:Nat)(k:IntKind)(m:Int):Rf n (.int k m):=by unfold Rf;cases n<;>simp [FC.beq]
theorem anS{n:Nat}{xs:List FC}{l:Nat}(h:∀ x ∈ xs,Rf n x):Rf (n+1) (.fs xs l):=by unfold Rf;simp [FC.beq,nf h]
theorem anR{n:Nat}{xs:List FC}{l:Nat}(h:∀ x ∈ xs,Rf n x):Rf (n+1) (.fp xs l):=by unfold Rf;simp [FC.beq,nf h]
theorem tY{n:Nat}{rows:List (List FC)}(g:Tg)(h:∀ r ∈ rows,∀ x ∈ r,Rf n x):Rf (n+1) (sl g rows):=by
 unfold sl;split
 ·unfold Rf;cases g<;>rfl
 ·exact anS fun x b=>by
   obtain⟨r,d,b⟩:=List.mem_flatten.1 b;exact h r d x b
theorem afk:∀ {xs:List FC},(∀ x ∈ xs,Rf 64 x)→V.beq (.a (xs.map .f)) (.a (xs.map .f))=ae:=by
 intro xs h;simp only [V.beq,Bool.and_eq_true,beq_self_eq_true,true_and,List.all_eq_true];intro q b;obtain⟨i,hi,rfl⟩:=List.getElem_of_mem b;rw [List.getElem_zip];simp only [List.getElem_map,C.beq];exact h _ (anc _)
theorem xI(n:Nat){x:bz}(h:kQ x.bc):∀ c ∈ x.row,Rf (n+6) c:=by
 obtain⟨id,q,v,s⟩:=x;obtain⟨m,r,t,z,u,p,mi,le,l,b⟩:=h;simp only at l;subst l;intro c j;simp only [bz.row,List.mem_cons,List.not_mem_nil,or_false]at j;rcases j with rfl | rfl | rfl | rfl | rfl | rfl | rfl | rfl | rfl | rfl
 all_goals first | exact tX _ _ _ | skip
 ·refine tY _ fun r d y g=>?_;simp [qJ,aL,cA.row]at d;subst d;simp at g;rcases g with rfl | rfl
  ·refine tY _ fun r d y g=>?_;simp [aI,dr.row]at d;subst d;simp at g;subst g;refine tY _ fun r d y g=>?_;simp [aX,bI.row]at d;subst d;simp at g;rcases g with rfl | rfl | rfl | rfl
   ·exact tY _ fun r d=>by simp [ints]at d
   ·exact tX _ _ _
   ·exact tX _ _ _
   ·refine tY _ fun r d y g=>?_;simp [ints]at d;subst d;simp at g;subst g;exact tX _ _ _
  ·exact tX _ _ _
 ·exact tY _ fun r d=>by simp [qJ,aH]at d
theorem Y2{l:List bz}(h:∀ x ∈ l,kQ x.bc)(g:Tg):V.beq (.c (.f (sl g (aM l)))) (.c (.f (sl g (aM l))))=ae:=by
 show Rf 64 _;refine tY g fun r d c b=>?_;obtain⟨x,j,rfl⟩:=aqJ.1 d;exact xI 57 (h x j) c b
theorem Na{l:List bz}(h:∀ x ∈ l,kQ x.bc)(k:Nat):V.beq (.c (.f (.fp (aM l).flatten k))) (.c (.f (.fp (aM l).flatten k)))=ae:=by
 show Rf 64 _;refine anR fun c b=>?_;obtain⟨r,d,b⟩:=List.mem_flatten.1 b;obtain⟨x,g,rfl⟩:=aqJ.1 d;exact xI 57 (h x g) c b
theorem M_{x:bz}(h:kQ x.bc):V.beq (.a (x.row.map .f)) (.a (x.row.map .f))=ae:=afk fun c b=>xI 58 h c b
theorem N5{c d:Int}(h:c≤d)(x:bz):cS d (cS c x)=cS d x:=by
 unfold cS;by_cases b:x.state=1∧x.dl<c
 ·rw [ba b];have g:x.state=1∧x.dl<d:=⟨b.1,by omega⟩
  rw [ba g,aW];simp
 ·rw [aW b]
theorem q8(K:aj)(b:Nat)(x:dv)(d:K[b]?=aa (.box (x.row.map .f) 0)):aU K (aa 3) (.c (.ptr b 0 0))=aa (.a (x.row.map .f))∧aU K ab (.c (.ptr b 0 0))=aa (vi x.clock)∧aU K ab (.c (.ptr b 2 0))=aa (.c (.f (sl x.lg (aM x.l)))):=by
 refine⟨?_,?_,?_⟩<;>simp [aU,aF,d,aT,dv.row]
theorem jV{c:Int}{x:bz}(h:kQ x.bc):kQ (cS c x).bc:=by unfold cS;split<;>exact h
theorem BU(p:iq)(hp:na p)(a b:Int)(ha:0≤a∧a≤255)(hb:0≤b∧b≤255):bh tab 4 [.a (p.row.map .f),.c (.f (.int .u8 a)),.c (.f (.int .u8 b))]=Eq (vb ae):=bh.eq (by
 refine bS rfl rfl fun Q hQ=>?_;obtain⟨h,hk,hc,-,hP⟩:=NK p hp (fun _=>True) trivial fun _ _ _ _ _ _=>trivial;have f_:=apF;have v8:=hk.len;have u_:=hk.c0;have U:∀ x ∈ h.l,kQ x.bc:=fun x N=>(hk.f x N).2;obtain⟨l,i6⟩:=aK (h.clock+a);obtain⟨c2,l_⟩:=aK (h.clock+a+b);have wa:=aV (n:=a);have wb:=aV (n:=b);have w1:IntKind.i64.wrap (h.clock+a)=l:=by rw [aV,i6]
 have w2:IntKind.i64.wrap (l+b)=c2:=by rw [aV,l_,i6]
 have w3:=aV (n:=h.clock-1);have tE:∀(y:dv) (c:Int),rz y→y.clock≤c→c≤100000→gY y c=0:=fun y c I h0 h1=>by
  unfold gY;rw [aW];rintro(h' | h' | h')
  ·rw [I.v]at h';cases h'
  ·omega
  ·omega
 have fx:∀ y:dv,rz y→∀ x ∈ y.l,Fix x.bc:=fun y I x N=>rN (I.f x N).2;obtain⟨g1,x,N,d_⟩:=pC h (by omega) (fx h hk) l;rw [tE h l hk (by omega) (by omega)]at N d_;rw [ba rfl]at N;have c_:rz x:=by rw [N];exact Eu hk (by omega) (by omega) g1
 have v9:=c_.len;have g_:x.clock=l:=by rw [N]
 obtain⟨g2,y,I,e_⟩:=pC x (by omega) (fx x c_) c2;rw [tE x c2 c_ (by omega) (by omega)]at I e_;rw [ba rfl]at I;obtain⟨g3,z,hz,f7⟩:=pC h (by omega) (fx h hk) c2;rw [tE h c2 hk (by omega) (by omega)]at hz f7;rw [ba rfl]at hz;obtain⟨g4,v,-,i5⟩:=pC x (by omega) (fx x c_) (h.clock-1);have u7:gY x (h.clock-1)=1:=by
  unfold gY;rw [ba (.inr (.inl (by omega)))]
 rw [u7]at i5;have Y:x.l=h.l.map (cS l):=by rw [N]
 have s8:y.l=z.l:=by
  rw [I,hz,N];simp only [List.map_map];exact List.map_congr_left fun w _=>N5 (by omega) w
 have f8:=CP y z (by rw [I];simp;omega) (fun w hw=>by
  rw [I,N]at hw;simp only [List.map_map,aqJ,Function.comp]at hw;obtain⟨w',p_,rfl⟩:=hw;exact jV (jV (U w' p_))) (by rw [I,hz]) (by rw [I,hz,N]) s8
 have i7:x.l.length=h.l.length:=by rw [Y];simp
 have W:p.row.length=4:=rfl;obtain⟨row,i9⟩:=aK (p.row);rw [←i9]at hP W ⊢;clear N I hz;have m_:h.row.length=3:=rfl;have r5:x.row.length=3:=rfl;have s7:y.row.length=3:=rfl;have s9:z.row.length=3:=rfl;have o_:v.row.length=3:=rfl;obtain⟨K1,a7⟩:=aK ([.box (row.map .f) 0,.box (h.row.map .f) 0]:aj);obtain⟨K2,S⟩:=aK ([.box (row.map .f) 0,.box (h.row.map .f) 0,.box (x.row.map .f) 0]:aj);obtain⟨K3,a8⟩:=aK ([.box (row.map .f) 0,.box (h.row.map .f) 0,.box (x.row.map .f) 0,.box (y.row.map .f) 0]:aj);obtain⟨K4,s⟩:=aK ([.box (row.map .f) 0,.box (h.row.map .f) 0,.box (x.row.map .f) 0,.box (y.row.map .f) 0,.box (z.row.map .f) 0]:aj);have lp:aU [bo.box (row.map .f) 0] (aa 4) (.c (.ptr 0 0 0))=aa (.a (row.map .f)):=by simp [aU,aF,aT,W,ap1]
 obtain⟨a1,a2,a3⟩:=q8 K1 1 h (by rw [a7];rfl);obtain⟨b1,b2,b3⟩:=q8 K2 1 h (by rw [S];rfl);obtain⟨b4,b5,b6⟩:=q8 K2 2 x (by rw [S];rfl);obtain⟨d1,d2,d3⟩:=q8 K3 1 h (by rw [a8];rfl);apply ai;simp [W];apply ai;simp [f_];apply ai;simp [lp,hP,m_,-az];rw [←a7];apply ai;simp [a1,a2,wa,w1,d_,r5,-az];have e2:K1++[bo.box (x.row.map .f) 0]=K2:=by rw [a7,S];rfl
 have n1:K1.length=2:=by rw [a7];rfl
 rw [e2,n1];apply ai;simp [b1,b2,b4,wa,wb,w1,w2,e_,s7,-az];have e3:K2++[bo.box (y.row.map .f) 0]=K3:=by rw [S,a8];rfl
 have n2:K2.length=3:=by rw [S];rfl
 rw [e3,n2];apply ai;simp [d1,d2,wa,wb,w1,w2,f7,s9,-az];have e4:K3++[bo.box (z.row.map .f) 0]=K4:=by rw [a8,s];rfl
 have n3:K3.length=4:=by rw [a8];rfl
 rw [e4,n3];have F:∀ K:aj,(∀ i:Nat,i<5→K[i]?=K4[i]?)→(aU K ab (.c (.ptr 1 0 0))=aa (vi h.clock)∧aU K ab (.c (.ptr 1 2 0))=aa (.c (.f (sl h.lg (aM h.l)))))∧(aU K (aa 3) (.c (.ptr 2 0 0))=aa (.a (x.row.map .f))∧aU K ab (.c (.ptr 2 0 0))=aa (vi x.clock)∧aU K ab (.c (.ptr 2 2 0))=aa (.c (.f (sl x.lg (aM x.l)))))∧aU K (aa 3) (.c (.ptr 3 0 0))=aa (.a (y.row.map .f))∧aU K (aa 3) (.c (.ptr 4 0 0))=aa (.a (z.row.map .f)):=fun K hK=>by
  obtain⟨p1,p2,p3⟩:=q8 K 1 h (by rw [hK 1 (by omega),s];rfl);obtain⟨p4,p5,p6⟩:=q8 K 2 x (by rw [hK 2 (by omega),s];rfl);obtain⟨p7,-,-⟩:=q8 K 3 y (by rw [hK 3 (by omega),s];rfl);obtain⟨p8,-,-⟩:=q8 K 4 z (by rw [hK 4 (by omega),s];rfl);exact⟨⟨p2,p3⟩,⟨p4,p5,p6⟩,p7,p8⟩
 have n4:K4.length=5:=by rw [s];rfl
 suffices go:∀ u:T,u.g 1=.c (.f (.int .u8 a))→u.g 7=vb ae→u.g 8=.c (.ptr 1 0 0)→u.g 9=.c (.ptr 2 0 0)→u.g 10=vi 0→u.g 11=.c (.ptr 3 0 0)→u.g 12=vi 0→u.g 13=.c (.ptr 4 0 0)→u.g 14=vi 0→WP tab 4 ab [.code yP] ⟨u,[],K4⟩ Q by
  exact go _ (by simp) (by simp) (by simp) (by simp) (by simp) (by simp) (by simp) (by simp) (by simp)
 clear a1 a2 a3 b1 b2 b3 b4 b5 b6 d1 d2 d3 lp d_ e_ f7;intro u r1 r7 q m s_ t7 t8 t9 t_;obtain⟨⟨p2,p3⟩,⟨p4,p5,p6⟩,p7,p8⟩:=F K4 fun _ _=>rfl;have i8:∀ K:aj,bu K (.f (sl h.lg (aM h.l)))=aa h.l.length:=fun K=>by simp
 have n9:∀ K:aj,bu K (.f (sl x.lg (aM x.l)))=aa h.l.length:=fun K=>by simp [i7]
 apply ak;apply ai;simp [q,m,s_,t7,t8,t9,t_,p3,p6,p7,p8,i8,n9,f8,-az];refine bp (by simp) ?_;apply ak;apply ai;simp;refine oS h.l.length (fun j t J=>t.g 1=.c (.f (.int .u8 a))∧t.g 7=vb ae∧t.g 8=.c (.ptr 1 0 0)∧t.g 9=.c (.ptr 2 0 0)∧∀ i:Nat,i<5→J[i]?=K4[i]?) (by omega) rfl (by simp) ⟨by simp [r1],by simp [r7],by simp [q],by simp [m],fun _ _=>rfl⟩ ?_ ?_ ?_
 ·rintro j t J K hj ⟨r1,r7,q,m,O⟩ d hL;obtain⟨⟨p2,p3⟩,-⟩:=F J O;simp [d,q,p3,i8,-az];exact hL _ ⟨by simp [r1],by simp [r7],by simp [q],by simp [m],O⟩ (by simp [d]) (by simp)
 ·rintro j t J hj ⟨r1,r7,q,m,O⟩ d next
  have n8:j<x.l.length:=by omega
  obtain⟨⟨p2,p3⟩,⟨p4,p5,p6⟩,-,-⟩:=F J O;have A:=fun H:aj=>bF (H:=H) (g:=h.lg) (rows:=aM h.l) (sz:=10) (k:=.i64) (i:=(j:Int)) (by omega) (by simp;omega);have a_:=fun H:aj=>bR (H:=H) (bK h.l) (dR hj);have B:=fun H:aj=>bF (H:=H) (g:=x.lg) (rows:=aM x.l) (sz:=10) (k:=.i64) (i:=(j:Int)) (by omega) (by simp;omega);have xor:=fun H:aj=>bR (H:=H) (bK x.l) (dR n8);simp only [aqI]at A B;have q_:x.l[j]=cS l h.l[j]:=by simp [Y]
  have i_:=U _ (anc hj);rw [q_]at xor;generalize h.l[j]=w at *;have b_:w.row.length=10:=rfl;have b9:(cS l w).row.length=10:=rfl;have n_:=AP (cS l w) (jV i_);have j4:∀ y ∈ x.l,kQ y.bc:=fun y I=>by
   rw [Y]at I;obtain⟨y',r_,rfl⟩:=aqJ.1 I;exact jV (U y' r_)
  have j5:=Y2 j4 x.lg;have j6:=Na j4 (j*10);have j7:=M_ (x:=cS l w) (jV i_);have nJ:5≤J.length:=by
   have:=O 4 (by omega);have h4:K4[4]?=aa (.box (z.row.map .f) 0):=by rw [s];rfl
   have:=an (this.trans h4);omega
  obtain⟨J1,E⟩:=aK (J++[bo.box (w.row.map .f) 0,.box ((cS l w).row.map .f) 0]);have d9:∀ i:Nat,i<5→J1[i]?=K4[i]?:=fun i hi=>by rw [E,AT (by omega)];exact O i hi
  have L:J1[J.length]?=aa (.box (w.row.map .f) 0):=by rw [E];simp
  have h_:J1[J.length+1]?=aa (.box ((cS l w).row.map .f) 0):=by rw [E,IS (by omega)];simp
  have i4:∀(M:aj),aU (J++M) ab (.c (.ptr 2 2 0))=aa (.c (.f (sl x.lg (aM x.l)))):=fun M=>(F (J++M) fun i hi=>by rw [AT (by omega)];exact O i hi).2.1.2.2;refine aG ?_;refine ak (eT (.inl rfl) ?_ ?_)
  case refine_2=>
   intro cc m9;have m4:cc=(6,13)∨cc=(8,13)∨cc=(9,13):=by simpa using m9
   rcases m4 with rfl | rfl | rfl
   ·refine⟨by decide,_,rfl,.inl ⟨by decide,?_⟩⟩;simp [q,m,d,p3,p6,A,a_,B,xor,b_,b9,i4,fA,j5,-az]
   ·refine⟨by decide,_,rfl,.inl ⟨by decide,?_⟩⟩;simp [q,m,d,p3,p6,A,a_,B,xor,b_,b9,i4,fA,j6,-az]
   ·refine⟨by decide,_,rfl,.inl ⟨by decide,?_⟩⟩;simp [q,m,d,p3,p6,A,a_,B,xor,b_,b9,i4,fA,j7,-az]
  simp [q,m,d,p3,p6,A,a_,B,xor,b_,b9,-az];rw [←E];obtain⟨⟨v2,v3⟩,⟨v4,v5,v6⟩,-,-⟩:=F J1 d9;have Z:∀(t:T) (M:aj),t.g 1=.c (.f (.int .u8 a))→t.g 7=vb ae→t.g 8=.c (.ptr 1 0 0)→t.g 9=.c (.ptr 2 0 0)→t.g 15=vi j→t.g 16=.c (.ptr J.length 0 0)→t.g 17=.c (.ptr (J.length+1) 0 0)→(∀ i:Nat,i<5→M[i]?=K4[i]?)→M[J.length]?=aa (.box ((cS l w).row.map .f) 0)→M[J.length+1]?=aa (.box ((cS l w).row.map .f) 0) →
    WP tab 4 ab [.code yR,.inBlock 1,.code (DQ 15 89 90),.inLoop (rY 0 15 88 89 90 [mm 84 15,nn 85 (cQ.aQ 2 (R 8)),nn 86 (cQ.load ab (R 85)),nn 87 (cQ.len (R 86)),nn 88 (cQ.bin BinOp.lss (R 84) (R 87))] yQ),.inBlock 0,.code yS] ⟨t,[],M⟩ Q:=by
   intro t M r1 r7 q m d u5 u6 hM j_ k_;have j8:aU M (aa 10) (.c (.ptr J.length 0 0))=aa (.a ((cS l w).row.map .f)):=by simp [aU,aF,j_,aT,bz.row]
   have j9:aU M (aa 10) (.c (.ptr (J.length+1) 0 0))=aa (.a ((cS l w).row.map .f)):=by simp [aU,aF,k_,aT,bz.row]
   apply ak;refine al (.inl rfl) ?_;simp [u5,u6,j8,j9,n_,-az];exact aC (by simp) (aO (av (next _ _ ⟨by simp [r1],by simp [r7],by simp [q],by simp [m],hM⟩ (by simp [d]))))
  have s2:aU J1 ab (.c (.ptr J.length 2 0))=aa (vi w.state):=by simp [aU,aF,L,bz.row]
  have s1:aU J1 ab (.c (.ptr J.length 1 0))=aa (vi w.dl):=by simp [aU,aF,L,bz.row]
  apply ak;apply ai;by_cases q1:w.state=1
  ·by_cases q2:w.dl<l
   ·have X:cS l w = { w with state:=4 }:=by unfold cS;rw [ba ⟨q1,q2⟩]
    have u9:=L;have st:cZ J1 (.ptr J.length 2 0) [.f (fi 4)]=aa (J1.set J.length (.box ((cS l w).row.map .f) 0)):=by
     rw [X];simp [cZ,L,over,bz.row]
    simp [m,s2,s1,v5,g_,q1,q2,-az];refine aq (by simp) ?_;refine al (.inl rfl) ?_;simp [st,-bf];refine Z _ _ (by simp [r1]) (by simp [r7]) (by simp [q]) (by simp [m]) (by simp [d]) (by simp) (by simp) (fun i hi=>?_) (IN (an L)) ?_
    ·rw [AI (by omega)];exact d9 i hi
    ·rw [AI (by omega)];exact h_
   ·have X:cS l w=w:=by unfold cS;rw [aW (fun h=>q2 h.2)]
    simp [m,s2,s1,v5,g_,q1,q2,-az];refine bp (by simp) ?_;exact Z _ _ (by simp [r1]) (by simp [r7]) (by simp [q]) (by simp [m]) (by simp [d]) (by simp) (by simp) d9 (by rw [X];exact L) h_
  ·have X:cS l w=w:=by unfold cS;rw [aW (fun h=>q1 h.1)]
   simp [m,s2,q1,-az];refine bp (by simp) ?_;exact Z _ _ (by simp [r1]) (by simp [r7]) (by simp [q]) (by simp [m]) (by simp [d]) (by simp) (by simp) d9 (by rw [X];exact L) h_
 ·rintro t J ⟨r1,r7,q,m,O⟩ d;obtain⟨⟨p2,p3⟩,⟨p4,p5,p6⟩,-,-⟩:=F J O;have nJ:5≤J.length:=by
   have:=O 4 (by omega);have h4:K4[4]?=aa (.box (z.row.map .f) 0):=by rw [s];rfl
   have:=an (this.trans h4);omega
  obtain⟨J1,E⟩:=aK (J++[bo.box (v.row.map .f) 0]);obtain⟨⟨q2,q3⟩,⟨q4,q5,q6⟩,-,-⟩:=F J1 fun i hi=>by rw [E,AT (by omega)];exact O i hi
  apply ai;simp [q,m,p2,p4,w3,i5,o_,-az];rw [←E];apply ai;simp [r1,r7,q,m,q2,q5,wa,w1,g_,-az];refine aB (hQ _ _ ?_);simp)
theorem xA(d:List V)(h:rG Tryz.prog [26,5,5] d):bh tab 4 d (vb ae):=by
 obtain⟨s,_,rfl,h0,a1,_,rfl,g,u,_,rfl,j,rfl⟩:=h;obtain⟨p,rfl,q⟩:=ZU h0;obtain⟨a,rfl,l⟩:=aaM g;obtain⟨b,rfl,m⟩:=aaM j;rw [BU p q a b l m]
end Go.Proofs.YtnaofdffomdmhaaGreat
