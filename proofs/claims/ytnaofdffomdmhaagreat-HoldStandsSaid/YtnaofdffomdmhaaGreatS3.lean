/-
  am1 ta nM kS and ta ni answer, for all arguments of adM kind, in ta small machine: part 3.
-/
import Derived.Test.YtnaofdffomdmhaaGreatS2
import Derived.Test.YtnaofdffomdmhaaGreatK4
import Derived.Test.YtnaofdffomdmhaaGreatS1
import Derived.Test.YtnaofdffomdmhaaGreatK5
import Derived.KernelRfl
open Option renaming some → aa,none → ab
open Bool renaming true → ae,false → ag
open Go.IntKind renaming wrap → ah
open List renaming mem_cons_self → at4, mem_cons_of_mem → at5, mem_map → auq, mem_cons → auc, not_mem_nil → auT, take_add_one → auz, getElem?_eq_getElem → asZ, drop_eq_getElem_cons → at7, map_cons → aug, getElem?_append_right → atZ, getElem?_map → auM, map_nil → aus, mem_append → auh, getElem_mem → at2, length_append → at6, length_map → at9, length_take → aur, length_drop → auf, take_length → auv, drop_length → au8, append_nil → auR, getElem?_set_self → atY, append_assoc → auL, filter_append → avZ, take_of_length_le → at8, getElem?_set_ne → aft, getElem?_append_left → anc, length_set → aul, mem_singleton → aua, cons_append → auX, length_filter_le → avf, pairwise_iff_getElem → auQ, map_drop → av2, length_cons → auo, mem_filter → auS, mem_range → avb, pairwise_cons → auN
open Option.some renaming inj → avY
open Int renaming toNat_of_nonneg → avI, toNat_natCast → aui, emod_nonneg → auB, emod_lt_of_pos → auy
open Nat renaming le_refl → at3, le_trans → aum, lt_or_ge → auK, lt_of_lt_of_le → auE
open Bool renaming not_eq_true' → auZ
set_option linter.unusedVariables false
set_option linter.constructorNameAsVariable false
set_option linter.unusedSimpArgs false
set_option linter.unusedSectionVars false
set_option linter.unnecessarySimpa false
set_option maxRecDepth 100000
namespace Go.Proofs.YtnaofdffomdmhaaGreat
open Go Km
theorem Bz:∀ cs:List FC,(∀ c ∈ cs,∃ k m,c=FC.int k m)→iG (FC.beq 63) cs cs=ae
 | [],_=>rfl
 | c::cs,h=>by
  obtain⟨k,m,rfl⟩:=h c at4;simp only [iG,Bz cs fun x b=>h x (at5 _ b),Bool.and_true];simp [FC.beq]
theorem Pb(g:Tg)(xs:List aI):(V.c (C.f (sl g (aH xs)))).beq (V.c (C.f (sl g (aH xs))))=ae:=by
 show FC.beq 64 (sl g (aH xs)) (sl g (aH xs))=ae;cases xs with
 | nil=>cases g<;>rfl
 | cons x xs=>
  have:sl g (aH (x::xs))=.fs (aH (x::xs)).flatten (aH (x::xs)).length:=by simp [sl,aH]
  rw [this];show((_ == _)&&iG (FC.beq 63) _ _)=ae;rw [Bz]
  ·simp
  ·intro c b;obtain⟨r,d,b⟩:=List.mem_flatten.1 b;obtain⟨y,-,rfl⟩:=auq.1 d;simp only [aI.row,auc,auT,or_false]at b;rcases b with rfl | rfl | rfl<;>exact⟨_,_,rfl⟩
theorem aqo(k:IntKind)(n:Int):(V.c (C.f (.int k n))).beq (V.c (C.f (.int k n)))=ae:=by simp [V.beq,C.beq,FC.beq]
def kD(B:Int)(c:cL):cL:={ c with min:=c.min-B }
def EC(B A:Int)(x:aI):aI:=⟨x.day,x.fr-B,x.to+A⟩
theorem Pg(g:Tg)(l:List cL)(m:l.length≤64):∃ f:aj→C × aj,∀ H,Ev tab (.fn 83) [.c (.f (sl g (aN l)))] H=E2 (.c (f H).1) (H++(f H).2)∧LR (H++(f H).2) (f H).1 2 (aN l)∧∀ i,bE (f H).1=aa i→H.length≤i:=by
 have h:∀ H:aj,∃ p:C × aj,Ev tab (.fn 83) [.c (.f (sl g (aN l)))] H=E2 (.c p.1) (H++p.2)∧LR (H++p.2) p.1 2 (aN l)∧∀ i,bE p.1=aa i→H.length≤i:=fun H=>by
  obtain⟨r,H',j,c,J,rfl,rfl,b,d⟩:=vj (g:=g) (H:=H) (rows:=aN l) amF (by decide) (dO l) (by simp [bU];omega);exact⟨(c,J),j.eq,b,d⟩
 exact⟨fun H=>Classical.choose (h H),fun H=>Classical.choose_spec (h H)⟩
theorem abx(g:Tg)(l:List aI)(m:l.length≤64):∃ f:aj→C × aj,∀ H,Ev tab (.fn 82) [.c (.f (sl g (aH l)))] H=E2 (.c (f H).1) (H++(f H).2)∧LR (H++(f H).2) (f H).1 3 (aH l)∧∀ i,bE (f H).1=aa i→H.length≤i:=by
 have h:∀ H:aj,∃ p:C × aj,Ev tab (.fn 82) [.c (.f (sl g (aH l)))] H=E2 (.c p.1) (H++p.2)∧LR (H++p.2) p.1 3 (aH l)∧∀ i,bE p.1=aa i→H.length≤i:=fun H=>by
  obtain⟨r,H',j,c,J,rfl,rfl,b,d⟩:=vj (g:=g) (H:=H) (rows:=aH l) amH (by decide) (bD l) (by simp [bU];omega);exact⟨(c,J),j.eq,b,d⟩
 exact⟨fun H=>Classical.choose (h H),fun H=>Classical.choose_spec (h H)⟩
theorem ade{b s:Type}(row:b→s)(f:b→b)(l:List b)(j:Nat)(d:j<l.length):((l.take j).map (row ∘ f)++(l.drop j).map row).set j (row (f l[j]))=(l.take (j+1)).map (row ∘ f)++(l.drop (j+1)).map row:=by
 have g:l.take (j+1)=l.take j++[l[j]]:=by rw [auz,asZ d];rfl
 have m:l.drop j=l[j]::l.drop (j+1):=at7 d;have q:((l.take j).map (row ∘ f)).length=j:=by simp;omega
 rw [g,m,List.map_append,aug,List.set_append_right _ _ (by omega),q,Nat.sub_self,List.set_cons_zero];simp
theorem abU{b m:Type}(row:b→m)(f:b→b)(l:List b)(j:Nat)(d:j<l.length):((l.take j).map (row ∘ f)++(l.drop j).map row)[j]?=aa (row l[j]):=by
 have g:((l.take j).map (row ∘ f)).length=j:=by simp;omega
 rw [atZ (by omega),g,Nat.sub_self,at7 d];rfl
structure OY(s:av):Prop where
 r0:0≤s.room
 r1:s.room≤2
 cn:s.st.cs.length≤1
 min:∀ c ∈ s.st.cs,0≤c.min∧c.min≤1180
 l0:1≤s.st.len
 l1:s.st.len≤300
 xs:s.st.xs=[]
def gE(af:Int)(s:av)(b d:Tg):aJ:=⟨b,s.st.cs.map (kD 0),s.st.len+0+af,d,[]⟩
theorem Cm(af W:Int)(a0:0≤af)(a1:af≤39)(s:av)(hs:OY s)(A:∀ E F,bo tab 53 [.a ((gE af s E F).row.map .f)]=Eq (vb ae)) :
  ∃ E F,bo tab 137 [.c (.f (fR af W)),.a (s.row.map .f)]=Eq (.t [.a ((gE af s E F).row.map .f),vb ae]):=by
 obtain⟨r,⟨E,F,rfl⟩,hp⟩:∃ r,(∃ E F,r=.t [.a ((gE af s E F).row.map .f),vb ae])∧bo tab 137 [.c (.f (fR af W)),.a (s.row.map .f)] r:=by
  refine dG rfl rfl fun Q hQ=>?_;obtain⟨f3,i5,i_,b9,k_,l_,U⟩:=hs;have j_:s.st.xs.length=0:=by rw [U];rfl
  have hr:=nk af W f3 i5;have f_:=fun H:aj=>bt (H:=H) (g:=.fs) (rows:=rows (ct af W)) (sz:=15) (k:=.i64) (i:=s.room) f3 (by simp [ct];omega);have a_:=fun H:aj=>bL (H:=H) (gA (ct af W)) (j:=s.room.toNat) (row:=(cf af W s.room).row) (by rw [rows,auM,hr];rfl);have Z:(cf af W s.room).jA=0:=by unfold cf;split<;>(try split)<;>rfl
  have Y:(cf af W s.room).pD=af:=by unfold cf;split<;>(try split)<;>rfl
  simp only [cC.row,aug,aus]at a_;obtain⟨fc,d_⟩:=Pg s.st.cg s.st.cs (by omega);obtain⟨fx,e_⟩:=abx s.st.xg s.st.xs (by rw [U];simp);have ec:=fun H=>(d_ H).1;have ex:=fun H=>(e_ H).1;generalize cf af W s.room=r at hr a_ Z Y;have i6:∀(t:T) (H:aj) (d m:C) (n:Nat),t.g 3=.c (.ptr 0 0 0)→t.g 4=.c (.ptr 1 0 0)→t.g 6=.c (.ptr 2 0 0)→t.g 7=.c (.ptr n 0 0)→2<n →
    H[1]?=aa (.box [.f .aw,.f (fi 0),.f .aw] 0)→H[2]?=aa (.box [.f (fi r.cap),.f (fi r.jA),.f (fi r.pD),.f r.o0,.f r.o1,.f r.o2,.f r.o3,.f r.o4,.f r.o5,.f r.o6,.f r.o7,.f r.o8,.f r.o9,.f (sl r.qg (gz r.q)),.f (sl r.pg (ints r.p))] 0) →
    H[n]?=aa (.box [d,.f (fi (s.st.len+r.jA+r.pD)),m] 0)→LR H d 2 (aN s.st.cs)→LR H m 3 (aH s.st.xs)→(∀ i,bE d=aa i→bE m≠aa i) →
    WP tab 137 ab [.code A5] ⟨t,[],H⟩ Q:=by
   intro t H d m n g3 X g6 O hn k1 k2 M u v hD;apply al;apply ai;have L:=u.len;rw [xv]at L;simp [O,M,L];refine bR s.st.cs.length (fun j t H=>t.g 3=.c (.ptr 0 0 0)∧t.g 4=.c (.ptr 1 0 0)∧t.g 6=.c (.ptr 2 0 0)∧t.g 7=.c (.ptr n 0 0)∧H[1]?=aa (.box [.f .aw,.f (fi 0),.f .aw] 0)∧H[2]?=aa (.box [.f (fi r.cap),.f (fi r.jA),.f (fi r.pD),.f r.o0,.f r.o1,.f r.o2,.f r.o3,.f r.o4,.f r.o5,.f r.o6,.f r.o7,.f r.o8,.f r.o9,.f (sl r.qg (gz r.q)),.f (sl r.pg (ints r.p))] 0) ∧
     H[n]?=aa (.box [d,.f (fi (s.st.len+r.jA+r.pD)),m] 0)∧LR H d 2 ((s.st.cs.take j).map (cL.row ∘ kD r.jA)++(s.st.cs.drop j).map cL.row)∧LR H m 3 (aH s.st.xs)) (by omega) (by decide) (by decide) (by simp) (by simp)
    ⟨by simp [g3],by simp [X],by simp [g6],by simp [O],k1,k2,M,by simpa [aN]using u,v⟩ ?_ ?_
   ·rintro j t H hj ⟨g3,X,g6,O,k1,k2,M,u,v⟩ ha hb nx;have a8:cr 2 ((s.st.cs.take j).map (cL.row ∘ kD r.jA)++(s.st.cs.drop j).map cL.row):=by
     intro x hx;rcases auh.1 hx with hx | hx<;>obtain⟨y,-,rfl⟩:=auq.1 hx<;>rfl
    have z:((s.st.cs.take j).map (cL.row ∘ kD r.jA)++(s.st.cs.drop j).map cL.row).length=s.st.cs.length:=by simp;omega
    have a7:=abU cL.row (kD r.jA) s.st.cs j hj;have g_:=ade cL.row (kD r.jA) s.st.cs j hj;have j9:=b9 _ (at2 hj);rcases u with⟨e,_⟩ | ⟨m9,b,ep,I,l⟩
    ·have:=congrArg List.length e;rw [z,List.length_nil]at this;omega
    rw [z]at I;have hi:=l.at (i:=j) (by rw [z];exact hj);rw [z,←I]at hi;have hl:=l.ldc a8 a7 (k:=1) (x:=fi s.st.cs[j].min) rfl;obtain⟨H',e',d9,S,-⟩:=l.stp a8 a7 (k:=1) (xs:=[fi (s.st.cs[j].min-r.jA)]) (by simp);have j6:bp s.st.cs[j].row 1 [fi (s.st.cs[j].min-r.jA)]=(kD r.jA s.st.cs[j]).row:=rfl;rw [j6,g_]at d9;have b1:(1:Nat)≠b:=by rintro rfl;unfold RB at l;rw [k1]at l;cases l
    have b2:(2:Nat)≠b:=by rintro rfl;unfold RB at l;rw [k2]at l;cases l
    have bn:n≠b:=by rintro rfl;unfold RB at l;rw [M]at l;cases l
    refine aF ?_;apply ai;simp [ha];refine an (.inl rfl) ?_;simp only [aug,aus]at e';have ln:aV H ab (.c (.ptr n 0 0))=aa (.c d):=by simp [M]
    have l2:aV H ab (.c (.ptr 2 1 0))=aa (vi r.jA):=by simp [k2]
    simp [g6,O,ln,l2,hi,hl,-aA,-bl,aW (n:=s.st.cs[j].min-r.jA),e'];refine az (nx _ _ ⟨by simp [g3],by simp [X],by simp [g6],by simp [O],?_,?_,?_,.inr ⟨?_,b,ep,?_,d9⟩,?_⟩ (by simp [ha]) (by simp [hb]))
    ·exact S.get k1 b1
    ·exact S.get k2 b2
    ·exact S.get M bn
    ·intro e;have q:=congrArg List.length e;rw [at6,at9,at9,aur,auf,List.length_nil]at q;omega
    ·rw [I]
     congr 1
     simp;omega
    ·exact v.cM fun i y hy hi=>S.get hy (fun e=>hD b (by rw [I];rfl) (by rw [←e];exact hi))
   ·rintro t H ⟨g3,X,g6,O,k1,k2,M,u,v⟩ ha hb;rw [auv,au8,aus,auR]at u;apply al;apply ai;have L:=v.len;rw [jg]at L;simp [O,M,L];refine bR s.st.xs.length (fun j t H=>t.g 3=.c (.ptr 0 0 0)∧t.g 4=.c (.ptr 1 0 0)∧t.g 6=.c (.ptr 2 0 0)∧t.g 7=.c (.ptr n 0 0)∧H[1]?=aa (.box [.f .aw,.f (fi 0),.f .aw] 0)∧H[2]?=aa (.box [.f (fi r.cap),.f (fi r.jA),.f (fi r.pD),.f r.o0,.f r.o1,.f r.o2,.f r.o3,.f r.o4,.f r.o5,.f r.o6,.f r.o7,.f r.o8,.f r.o9,.f (sl r.qg (gz r.q)),.f (sl r.pg (ints r.p))] 0) ∧
      H[n]?=aa (.box [d,.f (fi (s.st.len+r.jA+r.pD)),m] 0)∧LR H d 2 (s.st.cs.map (cL.row ∘ kD r.jA))∧LR H m 3 ((s.st.xs.take j).map (aI.row ∘ EC r.jA r.pD)++(s.st.xs.drop j).map aI.row)) (by omega) (by decide) (by decide) (by simp) (by simp)
     ⟨by simp [g3],by simp [X],by simp [g6],by simp [O],k1,k2,M,u,by simpa [aH]using v⟩ ?_ ?_
    ·intro j t H hj;rw [U]at hj;simp at hj
    ·rintro t H ⟨g3,X,g6,O,k1,k2,M,u,v⟩ ha hb;rw [auv,au8,aus,auR]at v;have r1:s.st.cs.map (cL.row ∘ kD r.jA)=aN (s.st.cs.map (kD r.jA)):=by simp [aN]
     have r2:s.st.xs.map (aI.row ∘ EC r.jA r.pD)=aH (s.st.xs.map (EC r.jA r.pD)):=by simp [aH]
     rw [r1]at u;rw [r2]at v;have x1:=u.x;have x2:=v.x;obtain⟨E,b_⟩:=x1.ex (dO _);obtain⟨F,c_⟩:=x2.ex (bD _);have y1:LX (gD deep d H) d 2 (aN (s.st.cs.map (kD r.jA))):=x1.mk x1 63;have y2:LX (gD deep d H) m 3 (aH (s.st.xs.map (EC r.jA r.pD))):=x2.mk x1 63;have z1:LX (gD deep m (gD deep d H)) d 2 (aN (s.st.cs.map (kD r.jA))):=y1.mk y2 63;have z2:LX (gD deep m (gD deep d H)) m 3 (aH (s.st.xs.map (EC r.jA r.pD))):=y2.mk y2 63;have j8:(gD deep d H)[1]?=aa (.box [.f .aw,.f (fi 0),.f .aw] 0):=x1.ak7 63 k1;have N:(gD deep m (gD deep d H))[1]?=aa (.box [.f .aw,.f (fi 0),.f .aw] 0):=y2.ak7 63 j8;have h1:ek deep H d=aa (sl E (aN (s.st.cs.map (kD r.jA)))):=b_ H 63 x1;have h2:ek deep H m=aa (sl F (aH (s.st.xs.map (EC r.jA r.pD)))):=c_ H 63 x2;have ho:gE af s E F=⟨E,s.st.cs.map (kD r.jA),s.st.len+r.jA+r.pD,F,s.st.xs.map (EC r.jA r.pD)⟩:=by rw [Z,Y,U];rfl
     have A:=A E F;rw [ho]at A;simp only [aJ.row,aug,aus]at A;apply ai;simp [X,O,M,h1,h2,A,N];generalize gD deep m (gD deep d H)=HM at z1 z2 N ⊢;have h_:=b_ (HM.set 1 (.box [d,.f (fi (s.st.len+r.jA+r.pD)),m] 0)) 63 (z1.set (z1.oU N) _);have i4:=c_ (HM.set 1 (.box [d,.f (fi (s.st.len+r.jA+r.pD)),m] 0)) 63 (z2.set (z2.oU N) _);have j7:(HM.set 1 (.box [d,.f (fi (s.st.len+r.jA+r.pD)),m] 0))[1]?=aa (.box [d,.f (fi (s.st.len+r.jA+r.pD)),m] 0):=atY (au N);refine aC (hQ _ _ _ ⟨E,F,rfl⟩ ?_);have hd:deep=63+1:=rfl;rw [ho];simp [X,j7,aJ.row,iZ,cD,bj,hd,h_,i4]
  apply ai;simp [av.row];apply ai;simp [fR,f_,a_];have w1:=aW (n:=s.st.len+r.jA);have w2:=aW (n:=s.st.len+r.jA+r.pD);obtain⟨B,K⟩:=aK ([bz.box [.f (fi s.meet),.f (fi s.room),.f (fi s.dB),.f (fi s.size),.f (sl s.st.cg (aN s.st.cs)),.f (fi s.st.len),.f (sl s.st.xg (aH s.st.xs))] 0,bz.box [.f .aw,.f (fi 0),.f .aw] 0,bz.box [.f (fi r.cap),.f (fi r.jA),.f (fi r.pD),.f r.o0,.f r.o1,.f r.o2,.f r.o3,.f r.o4,.f r.o5,.f r.o6,.f r.o7,.f r.o8,.f r.o9,.f (sl r.qg (gz r.q)),.f (sl r.pg (ints r.p))] 0]);rw [←K];have m4:B.length=3:=by rw [K];rfl
  have q0:∀ J,(B++J)[0]?=aa (bz.box [.f (fi s.meet),.f (fi s.room),.f (fi s.dB),.f (fi s.size),.f (sl s.st.cg (aN s.st.cs)),.f (fi s.st.len),.f (sl s.st.xg (aH s.st.xs))] 0):=fun J=>by rw [K];rfl
  have q1:∀ J,(B++J)[1]?=aa (bz.box [.f .aw,.f (fi 0),.f .aw] 0):=fun J=>by rw [K];rfl
  have q2:∀ J,(B++J)[2]?=aa (bz.box [.f (fi r.cap),.f (fi r.jA),.f (fi r.pD),.f r.o0,.f r.o1,.f r.o2,.f r.o3,.f r.o4,.f r.o5,.f r.o6,.f r.o7,.f r.o8,.f r.o9,.f (sl r.qg (gz r.q)),.f (sl r.pg (ints r.p))] 0):=fun J=>by rw [K];rfl
  have p0:=q0 [];have p2:=q2 [];rw [auR]at p0 p2;obtain⟨d,I⟩:=aK ((fc B).1);obtain⟨J1,i7⟩:=aK ((fc B).2);have e1:=ec B;have m1:=(d_ B).2;rw [←I,←i7]at e1 m1;obtain⟨m,i9⟩:=aK ((fx (B++J1)).1);obtain⟨J2,i8⟩:=aK ((fx (B++J1)).2);have e2:=ex (B++J1);have m2:=(e_ (B++J1)).2;rw [←i9,←i8,auL]at e2 m2;refine al (fe (.inl rfl) ?_ ?_)
  case _=>
   simp [p0,p2,q0,q2,e1,e2,w1,w2];refine i6 _ _ d m _ (by simp) (by simp) (by simp) (by simp;rfl) (by omega) ?_ ?_ ?_ ?_ ?_ ?_
   ·exact q1 _
   ·exact q2 _
   ·rw [←auL,←auL,atZ (by simp)];have:B.length+(J1.length+J2.length)-(B++J1++J2).length=0:=by simp
    rw [this];rfl
   ·have:=(m1.1.push J2).push [bz.box [d,C.f (FC.int IntKind.i64 (s.st.len+r.jA+r.pD)),m] 0];simpa [auL]using this
   ·have:=m2.1.push [bz.box [d,C.f (FC.int IntKind.i64 (s.st.len+r.jA+r.pD)),m] 0];simpa [auL]using this
   ·intro i j4 j5;have a1:=m1.1.lt j4;have a2:=m2.2 i j5;omega
  ·intro c hc;simp only [auc,auT,or_false]at hc;rcases hc with rfl | rfl | rfl | rfl | rfl | rfl | rfl
   iterate 6
    ·refine⟨by decide,_,rfl,.inl ⟨by decide,?_⟩⟩;simp [p0,p2,q0,q2,e1,e2,gl,aqo]
   ·refine⟨by decide,_,rfl,.inr ⟨by decide,?_⟩⟩;simp [p0,p2,q0,q2,e1,e2,gl,Pb]
 exact⟨E,F,bo.eq hp⟩
def GI(af b:Int)(i k:Int):Bool:=ke i.toNat k.toNat (cf af b i) (cf af b k)
theorem adg(af b i:Int):GI af b i i=ae:=by simp [GI,ke]
theorem CO(af b i:Int):(cf af b i).p.length≤64:=by unfold cf mw;split<;>(try split)<;>simp
theorem ajG(af b i k:Int)(h0:0≤i)(m:i≤2)(j:0≤k)(q:k≤2):bo tab 200 [.c (.f (fR af b)),vi i,vi k]=Eq (vb (GI af b i k)):=by
 have s:(ct af b).length=3:=rfl;have hi:i.toNat<(ct af b).length:=by omega
 have l:k.toNat<(ct af b).length:=by omega
 have d:(ct af b)[i.toNat]=cf af b i:=avY ((asZ hi).symm.trans (nk af b h0 m));have g:(ct af b)[k.toNat]=cf af b k:=avY ((asZ l).symm.trans (nk af b j q));have:=(QI .fs (ct af b) i.toNat k.toNat hi l (by rw [d];exact CO ..) (by rw [g];exact CO ..)).eq;rw [d,g,avI h0,avI j]at this;exact this
theorem EX(a b:FC)(r:Int):bo tab 122 [.c (.f a),.c (.f b),vi r]=Eq (.c (.f (.fn 199 [.fp [b] 0,.fp [a] 0,.fp [fi r] 0]))):=by
 refine bo.eq (bV rfl rfl fun Q d=>?_);apply ai;simp;apply ai;simp;refine aC (d _ _ ?_);simp [deep]
theorem PN{b:Type}{l:List b}{j:Nat}(d:j<l.length)(p:b→Bool):(l.take (j+1)).filter p=(l.take j).filter p++(if p l[j]then [l[j]]else []):=by
 rw [auz,asZ d,avZ];simp [List.filter_cons]
theorem CT{b:Nat}{H:aj}{PP:List av→aj→Prop}{RR:List av→av→aj→Prop}(Z:FC)(g':Tg)(ss:List av)(hl:ss.length≤1000)(k:Int)(l:av→Bool)
  (a8:∀ s ∈ ss,bo tab 200 [.c (.f Z),vi s.room,vi k]=Eq (vb (l s)))
  (h0:PP [] H) (hp:∀ d H J,PP d H→PP d (H++J))
  (hy:∀(d:List av) (s:av) (H:aj),PP d H→s ∈ ss→∃(r:Bool) (H':aj),Ev tab (.yield b) [.a (s.row.map .f)] H (vb r) H'∧(if r then PP (d++[s]) H' else RR d s H')) :
  ∃ H',Ev tab (.fn 199) [.c (.yl b),.c (.f (.fp [sl g' (ak ss)] 0)),.c (.f (.fp [Z] 0)),.c (.f (.fp [fi k] 0))] H (.t []) H'∧(PP (ss.filter l) H'∨∃ d s rest,ss.filter l=d++s::rest∧RR d s H'):=by
 obtain⟨r,H',K,rfl,h⟩:∃ r H',Ev tab (.fn 199) [.c (.yl b),.c (.f (.fp [sl g' (ak ss)] 0)),.c (.f (.fp [Z] 0)),.c (.f (.fp [fi k] 0))] H r H'∧(r=.t []∧(PP (ss.filter l) H'∨∃ d s rest,ss.filter l=d++s::rest∧RR d s H')):=by
  refine cI rfl rfl fun Q hQ=>?_;apply ai;simp [ou];refine bR ss.length (fun j t H'=>t.g 0=.c (.yl b)∧t.g 1=.c (.f (.fp [sl g' (ak ss)] 0))∧t.g 2=.c (.f (.fp [Z] 0))∧t.g 3=.c (.f (.fp [fi k] 0))∧t.g 7=.c (.f (sl g' (ak ss)))∧PP ((ss.take j).filter l) H') (by omega) (by decide) (by decide) (by simp) (by simp)
   ⟨by simp,by simp,by simp,by simp,by simp,by simpa using h0⟩ ?_ ?_
  ·rintro j t H' S ⟨g0,g1,L,M,X,y⟩ Y hb next
   have q:=fun H:aj=>bL (H:=H) (aS ss) (cA S);have z:=fun H:aj=>bt (H:=H) (g:=g') (rows:=ak ss) (sz:=7) (k:=.i64) (i:=(j:Int)) (by omega) (by simp;omega);simp only [aui]at z;have v:=a8 ss[j] (at2 S);have I:=PN S l;have A:=at2 S;have m:ss.filter l=(ss.take j).filter l++((ss[j]::ss.drop (j+1)).filter l):=by
    rw [←avZ,←at7 S,List.take_append_drop]
   obtain⟨s,a_⟩:=aK (ss[j]);rw [←a_]at q v I A m;obtain⟨row,u⟩:=aK (s.row.map C.f);have F:row.length=7:=by rw [u];rfl
   have a7:∃ x,row[1]?=aa x∧x=.f (fi s.room):=⟨_,by rw [u];rfl,rfl⟩
   rw [←u]at q;obtain⟨b6,O⟩:=aK (H'.length);obtain⟨W,B⟩:=aK (H'++[bz.box row 0]);have E:=hp _ _ [bz.box row 0] y;rw [←B]at E;have k1:W[b6]?=aa (.box row 0):=by rw [B,O];simp
   have l7:aV W (aa 7) (.c (.ptr b6 0 0))=aa (.a row):=by simp [aV,aG,k1,aT,F,at8 (Nat.le_of_eq F)]
   have l1:aV W ab (.c (.ptr b6 1 0))=aa (vi s.room):=by
    obtain⟨x,hx,rfl⟩:=a7;rw [u]at k1;simp [aV,aG,k1,av.row,aT]
   refine aF ?_;apply ai;simp [X,Y,z,q,F,-aA];rw [←B,←O];apply al;cases U:l s
   ·rw [U]at v;refine an (.inl rfl) ?_;simp [L,M,ou,l1,v,-aA];refine aD (by simp) (aO (az (next _ _ ⟨by simp [g0],by simp [g1],by simp [L],by simp [M],by simp [X],?_⟩ (by simp [Y]) (by simp [hb]))));rw [I];simpa [U]using E
   ·rw [U]at v;obtain⟨r,H2,K,N⟩:=hy _ s W E A;have K:=K.eq;rw [←u]at K;refine an (.inl rfl) ?_;simp [g0,L,M,ou,l1,l7,v,K,-aA];cases r with
    | true=>
     refine aD (by simp) (aO (az (next _ _ ⟨by simp [g0],by simp [g1],by simp [L],by simp [M],by simp [X],?_⟩ (by simp [Y]) (by simp [hb]))));rw [I];simpa [U]using N
    | false=>
     refine aq (by simp) (aC (hQ _ _ (.t []) rfl rfl ⟨rfl,.inr ⟨_,s,(ss.drop (j+1)).filter l,?_,by simpa using N⟩⟩));rw [m,List.filter_cons,U];rfl
  ·rintro t H' ⟨g0,g1,L,M,X,y⟩ Y hb;rw [auv]at y;exact cJ (hQ _ _ (.t []) rfl rfl ⟨rfl,.inl y⟩)
 exact⟨H',K,h⟩
theorem zt(af g i:Int)(x:aI):bo tab 139 [.a ((cf af g i).row.map .f),.a (x.row.map .f)]=Eq (.a [.f (fi x.day),.f (fi (ah .i64 x.fr)),.f (fi (ah .i64 (x.to-af)))]):=by
 have d:(cf af g i).jA=0:=by unfold cf;split<;>(try split)<;>rfl
 have b:(cf af g i).pD=af:=by unfold cf;split<;>(try split)<;>rfl
 refine bo.eq (bV rfl rfl fun Q j=>?_);generalize cf af g i=r at *;apply ai;simp [cC.row,aI.row];apply ai;simp [d,b];refine aC (j _ _ ?_);simp [iZ,cD,bj]
def ns(s:aJ):List C:=[.f (sl s.cg (aN s.cs)),.f (fi s.len),.f (sl s.xg (aH s.xs))]
def Com(c d:cL)(k:Int):Prop:=∃ x,0≤x∧ew c.ts (x+max 0 (-k))∧ew d.ts (x+max 0 k)
theorem FZ{a b:aJ}{p:Pr}(d:oE a b p):(∃ x,0≤x∧ew p.xs x∧ew p.ys x)↔Com p.c p.d p.k:=by
 constructor
 ·rintro⟨x,h0,g,j⟩;exact⟨x,h0,(d.xm x h0).1 g,(d.ym x h0).1 j⟩
 ·rintro⟨x,h0,g,j⟩;exact⟨x,h0,(d.xm x h0).2 g,(d.ym x h0).2 j⟩
def gZ(a b:aJ):Prop:=∃ c ∈ a.cs,∃ d ∈ b.cs,∃ k,uA a.len b.len c d≤k∧k≤uu a.len b.len c d∧Com c d k
structure Dl(a b:aJ)(bs:List Nat)(J:aj):Prop where
 h0:J[0]?=aa (.box (ns a) 0)
 h1:J[1]?=aa (.box (ns b) 0)
 h2:∃ v:Bool,J[2]?=aa (.box [.f (.bool v)] 0)
 h3:∃ n:Int,J[3]?=aa (.box [.f (fi n)] 0)
 cl:fD bs J
theorem Dl.cM{a b:aJ}{g:List Nat}{J J':aj}(h:Dl a b g J)(d:∀ i:Nat,i<J.length→J'[i]?=J[i]?):Dl a b g J':=by
 obtain⟨v,h2⟩:=h.h2;obtain⟨n,h3⟩:=h.h3;exact⟨by rw [d 0 (au h.h0)];exact h.h0,by rw [d 1 (au h.h1)];exact h.h1,⟨v,by rw [d 2 (au h2)];exact h2⟩,⟨n,by rw [d 3 (au h3)];exact h3⟩,⟨h.cl.nd,fun i hi=>by rw [d i (au (h.cl.on i hi))];exact h.cl.on i hi⟩⟩
theorem Dl.set{a b:aJ}{d:List Nat}{J:aj}(h:Dl a b d J){i:Nat}{y:bz}(hi:J[i]?=aa y)(h3:4≤i)(hy:y≠.eZ ae)(z:bz):Dl a b d (J.set i z):=by
 obtain⟨v,g⟩:=h.h2;obtain⟨n,j⟩:=h.h3;exact⟨by rw [aft (by omega)];exact h.h0,by rw [aft (by omega)];exact h.h1,⟨v,by rw [aft (by omega)];exact g⟩,⟨n,by rw [aft (by omega)];exact j⟩,h.cl.set hi hy⟩
theorem Dl.tell{a b:aJ}{j:List Nat}{J:aj}(h:Dl a b j J)(v:Bool)(n:Int) :
  dh J (.ptr 2 0 0) [.f (.bool v)]=aa (J.set 2 (.box [.f (.bool v)] 0))∧dh (J.set 2 (.box [.f (.bool v)] 0)) (.ptr 3 0 0) [.f (fi n)]=aa ((J.set 2 (.box [.f (.bool v)] 0)).set 3 (.box [.f (fi n)] 0)) ∧
   fD j ((J.set 2 (.box [.f (.bool v)] 0)).set 3 (.box [.f (fi n)] 0))∧((J.set 2 (.box [.f (.bool v)] 0)).set 3 (.box [.f (fi n)] 0))[2]?=aa (.box [.f (.bool v)] 0)∧((J.set 2 (.box [.f (.bool v)] 0)).set 3 (.box [.f (fi n)] 0))[3]?=aa (.box [.f (fi n)] 0):=by
 obtain⟨w,g⟩:=h.h2;obtain⟨m,l⟩:=h.h3;have d:(J.set 2 (.box [.f (.bool v)] 0))[3]?=aa (.box [.f (fi m)] 0):=by rw [aft (by omega)];exact l
 refine⟨by simp [dh,g,bp],by simp [dh,d,bp],(h.cl.set g (by simp)).set d (by simp),?_,atY (au d)⟩;rw [aft (by omega)];exact atY (au g)
theorem BQ(a b:aJ)(ha:jQ a)(hb:jQ b):∃ r:Bool,(r=ae↔gZ a b)∧bo tab 25 [.a (a.row.map .f),.a (b.row.map .f)]=Eq (.t [vb r,vi 0]):=by
 have key:∃ v,(∃ r:Bool,(r=ae↔gZ a b)∧v=.t [vb r,vi 0])∧bo tab 25 [.a (a.row.map .f),.a (b.row.map .f)] v:=by
  refine zo asA rfl fun Q hQ=>?_;have i8:=(jw a ha.sm).eq;rw [ha.v]at i8;simp [aJ.row]at i8;have i9:=(jw b hb.sm).eq;rw [hb.v]at i9;simp [aJ.row]at i9;obtain⟨p_,rfl,i_⟩:=Bt a b ha.xs;obtain⟨q_,rfl,j4⟩:=Bt b a hb.xs;simp only [aJ.row,aug,aus]at i_ j4;have i7:=yG a b;simp only [aJ.row,aug,aus]at i7;have la:∀(N:List Nat) (J:aj),Dl a b N J→aV J (aa 3) (.c (.ptr 0 0 0))=aa (.a [.f (sl a.cg (aN a.cs)),.f (fi a.len),.f (sl a.xg (aH a.xs))])∧aV J (aa 3) (.c (.ptr 1 0 0))=aa (.a [.f (sl b.cg (aN b.cs)),.f (fi b.len),.f (sl b.xg (aH b.xs))]):=fun N J h=>by refine⟨?_,?_⟩<;>simp [aV,aG,h.h0,h.h1,ns,aT]
  have j5:∀(t:T) (J:aj) (N:List Nat) (v:Bool),t.g 4=.c (.ptr 2 0 0)→t.g 5=.c (.ptr 3 0 0)→(v=ae↔gZ a b)→fD N J→J[2]?=aa (.box [.f (.bool v)] 0)→J[3]?=aa (.box [.f (fi 0)] 0)→∀ j,Q j ⟨t,N.map .gX,J⟩:=by
   intro t J N v Z g5 hv g_ F h3 j;refine hQ _ _ _ ⟨v,hv,rfl⟩ ⟨N,rfl,g_,.t [vb v,vi 0],?_,by simp [iZ,cD,bj]⟩;have d2:=(iM (g_.not F (by simp))).trans F;have d3:=(iM (g_.not h3 (by simp))).trans h3;simp [Km.results,cN,bj,Z,g5,d2,d3]
  apply ai;simp [aJ.row];obtain⟨J0,b9⟩:=aK ([.box (ns a) 0,.box (ns b) 0,.box [.f (.bool ag)] 0,.box [.f (fi 0)] 0]:aj);have X:Dl a b [] J0:=by rw [b9];exact⟨rfl,rfl,⟨_,rfl⟩,⟨_,rfl⟩,⟨by simp,by simp⟩⟩
  have l0:J0.length=4:=by rw [b9];rfl
  unfold ns at b9;rw [←b9];apply al;apply ai;simp [(la _ _ X).1,(la _ _ X).2,-aA,i8,i9];refine bw (by simp) ?_;apply al;apply ai;have m4:∀(t:T) (J:aj) (N:List Nat),t.g 2=.c (.ptr 0 0 0)→t.g 3=.c (.ptr 1 0 0)→t.g 4=.c (.ptr 2 0 0)→t.g 5=.c (.ptr 3 0 0)→Dl a b N J→(∀ c ∈ a.cs,∀ d ∈ b.cs,∀ k,uA a.len b.len c d≤k→k≤uu a.len b.len c d→¬ Com c d k) →
    WP tab 25 ab [.code zG] ⟨t,N.map .gX,J⟩ Q:=by
   intro t J N g2 g3 Z g5 hq i5;obtain⟨n3,k3⟩:=hq.h3;have o_:4≤J.length:=by have:=au k3;omega
   obtain⟨l,f_⟩:=aK (J.length);apply ai;simp;rw [←f_];obtain⟨HA,a_⟩:=aK (J++[bz.box [.f (.bool ag)] 0]);rw [←a_];have kq:Dl a b N HA:=hq.cM fun i hi=>by rw [a_,anc hi]
   have kl:HA[l]?=aa (.box [.f (.bool ag)] 0):=by rw [a_,f_];simp
   have kn:HA.length=l+1:=by rw [a_,f_];simp
   apply al;apply ai;simp [g2,g3,(la _ _ kq).1,(la _ _ kq).2,-aA,i7];refine aF ?_
   suffices go:∀ u:T,u.g 4=.c (.ptr 2 0 0)→u.g 5=.c (.ptr 3 0 0)→u.g 9=.c (.ptr l 0 0)→u.g 44=.c (.f (.fn 104 [.fp a.row 0,.fp b.row 0])) →
     WP tab 25 ab [.code FA,.inBlock 2,.code FB] ⟨u,N.map .gX,HA⟩ Q by exact go _ (by simp [Z]) (by simp [g5]) (by simp) (by simp [aJ.row])
   clear g2 g3 Z g5 t;intro u Z g5 g9 m_;obtain⟨S,B⟩:∃ S:ez→Option aE→bz,S=fun st pd=>.lp 25 u [P.nat 45] fU fV st pd (l+1):=⟨_,rfl⟩
   obtain⟨m,y⟩:=aK (HA++[.eZ ae,S .ready ab]);have q4:m[l+1]?=aa (.eZ ae):=by rw [y,atZ (by omega),kn];simp
   have q5:m[l+1+1]?=aa (S .ready ab):=by rw [y,atZ (by omega),kn];simp
   have qk:∀ i:Nat,i<HA.length→m[i]?=HA[i]?:=fun i hi=>by rw [y,anc hi]
   have j_:l+1 ∉ N:=fun hb=>by have:=au (kq.cl.on _ hb);omega
   have qq:=kq.cM qk;have z:Dl a b ((l+1)::N) m:=⟨qq.h0,qq.h1,qq.h2,qq.h3,⟨List.nodup_cons.2 ⟨j_,qq.cl.nd⟩,fun b hb=>by
    rcases auc.1 hb with rfl | hb
    ·exact q4
    ·exact qq.cl.on b hb⟩⟩
   have ql:m[l]?=aa (.box [.f (.bool ag)] 0):=by rw [qk l (by omega)];exact kl
   have n9:m.length=l+3:=by rw [y,at6,kn];rfl
   obtain⟨H2,he,W⟩:=oM (bb:=l+1+1) (H:=m) a b ha hb (fun ps J=>m.length≤J.length∧(∀ i:Nat,i<m.length→i≠l→J[i]?=m[i]?)∧∃ v:Bool,J[l]?=aa (.box [.f (.bool v)] 0)∧(v=ae↔∃ p ∈ ps,Com p.c p.d p.k))
    (fun _ _=>False) ⟨at3 _,fun _ _ _=>rfl,ag,ql,by simp⟩
    (fun ps J J' ⟨h1,F,v,h3,h4⟩ hk hl=>⟨by omega,fun i hi O=>by rw [hk i hi];exact F i hi O,v,by rw [hk l (by omega)];exact h3,h4⟩)
    (fun ps p J ⟨h1,F,v,h3,h4⟩ hl A=>by
     have K:J[l+1+1]?=aa (S .ready ab):=by rw [F _ (au q5) (by omega)];exact q5
     rw [B]at K;have k_:=i5 p.c A.ca p.d A.db p.k A.lo A.hi;have j6:=ajl p.gx p.gy p.xs p.ys A.xo A.yo fun x h0 hx=>k_ ((FZ A).1 ⟨x,h0,hx⟩);have a8:=yF;change bo tab 58 [.a [.f .aw]]=Eq (vb ae)at a8;obtain⟨em,e_⟩:=aK (ae:Bool);rw [←e_]at a8;have I:em=ag↔Com p.c p.d p.k:=by rw [e_];exact⟨fun h=>(by cases h),fun h=>absurd h k_⟩
     refine⟨ae,?_⟩;obtain⟨r,J',i4,rfl,hr⟩:∃ r J',Ev tab (.yield (l+1+1)) [.a p.row] J r J'∧(r=vb ae∧(m.length≤J'.length∧(∀ i:Nat,i<m.length→i≠l→J'[i]?=m[i]?)∧J'[l]?=aa (.box [.f (.bool (v||!em))] 0))∧J.length≤J'.length∧∀ i:Nat,m.length≤i→i<J.length→J'[i]?=J[i]?):=by
      refine gu (tab:=tab) (b:=l+1+1) (args:=[.a p.row]) (H:=J) K rfl fun Q' c_=>?_;obtain⟨Y,U⟩:=aK (J.length);have i6:p.row.length=8:=rfl;refine an (.inr rfl) ?_;simp [i6];rw [←U];obtain⟨J1,L⟩:=aK (J++[bz.box p.row 0]);rw [←L];have k1:∀ i:Nat,i<J.length→J1[i]?=J[i]?:=fun i hi=>by rw [L,anc hi]
      have d1:J1[Y]?=aa (.box p.row 0):=by rw [L,U];simp
      have n1:J1.length=Y+1:=by rw [L,U];simp
      have e5:J1[l+1+1]?=aa (.lp 25 u [P.nat 45] fU fV .ready ab (l+1)):=by rw [k1 _ (au K)];exact K
      refine nJ e5 ?_;obtain⟨E,s⟩:=aK (J1.set (l+1+1) (.lp 25 u [P.nat 45] fU fV .busy ab (l+1)));rw [←s];have k2:∀ i:Nat,i<J.length→i≠l+1+1→E[i]?=J[i]?:=fun i hi O=>by rw [s,aft (Ne.symm O),k1 i hi]
      have d2:E[Y]?=aa (.box p.row 0):=by rw [s,aft (by have:=au K;omega)];exact d1
      have f5:E[l+1+1]?=aa (.lp 25 u [P.nat 45] fU fV .busy ab (l+1)):=by rw [s];exact atY (au e5)
      have n2:E.length=Y+1:=by rw [s,aul];exact n1
      have v2:E[l]?=aa (.box [.f (.bool v)] 0):=by rw [k2 l (by omega) (by omega)];exact h3
      unfold Pr.row at d2;have c5:aV E (aa 1) (.c (.ptr Y 5 0))=aa (.a [.f (sl p.gx (aM p.xs))]):=by simp [aV,aG,d2,aT]
      have c6:aV E (aa 1) (.c (.ptr Y 6 0))=aa (.a [.f (sl p.gy (aM p.ys))]):=by simp [aV,aG,d2,aT]
      obtain⟨bm,j7⟩:=aK (E.length);refine aF ?_;refine al (an (.inr rfl) ?_);simp [c5,c6,-aA,j6];rw [←j7];obtain⟨J3,b_⟩:=aK (E++[bz.box [.f (FC.aw)] 0]);rw [←b_];have k3:∀ i:Nat,i<E.length→J3[i]?=E[i]?:=fun i hi=>by rw [b_,anc hi]
      have m3:J3[bm]?=aa (.box [.f (FC.aw)] 0):=by rw [b_,j7];simp
      have v3:J3[l]?=aa (.box [.f (.bool v)] 0):=by rw [k3 l (by omega)];exact v2
      have n8:J3[l+1+1]?=aa (.lp 25 u [P.nat 45] fU fV .busy ab (l+1)):=by rw [k3 _ (au f5)];exact f5
      have lv:aV J3 ab (.c (.ptr l 0 0))=aa (vb v):=by simp [aV,aG,v3]
      have lm:aV J3 (aa 1) (.c (.ptr bm 0 0))=aa (.a [.f (FC.aw)]):=by simp [aV,aG,m3,aT]
      have sv:∀ w:Bool,dh J3 (.ptr l 0 0) [.f (.bool w)]=aa (J3.set l (.box [.f (.bool w)] 0)):=fun w=>by simp [dh,v3,bp]
      apply al;refine al (an (.inr rfl) ?_);simp;refine bw (by simp) ?_;refine an (.inr rfl) ?_;have d_:∀ t':T,WP tab 25 (aa (l+1+1)) [.inBlock 3] ⟨t',[],J3.set l (.box [.f (.bool (v||!em))] 0)⟩ Q':=fun t'=>by
       have s5:(J3.set l (.box [.f (.bool (v||!em))] 0))[l+1+1]?=aa (.lp 25 u [P.nat 45] fU fV .busy ab (l+1)):=by rw [aft (by omega)];exact n8
       have n3:J3.length=Y+2:=by rw [b_,at6,n2];rfl
       refine az (cJ (c_ _ _ _ _ _ _ _ _ _ _ rfl s5 ⟨rfl,⟨?_,fun i hi O=>?_,?_⟩,?_,fun i h1 F=>?_⟩))
       ·rw [aul,aul,n3];omega
       ·by_cases e:i=l+1+1
        ·subst e;rw [atY (au s5)];rw [q5,B];rfl
        ·rw [aft (Ne.symm e),aft (Ne.symm O),k3 i (by omega),k2 i (by omega) e];exact F i hi O
       ·rw [aft (by omega)];exact atY (au v3)
       ·rw [aul,aul,n3];omega
       ·rw [aft (by omega),aft (by omega),k3 i (by omega),k2 i (by omega) (by omega)]
      cases v with
      | true=>
       simp [g9,lv,sv,-aA,-bl];exact d_ _
      | false=>
       simp [g9,lv,lm,sv,-aA,-bl,a8];exact d_ _
     refine⟨J',i4,?_⟩;simp only [if_true];refine⟨⟨hr.1.1,hr.1.2.1,_,hr.1.2.2,?_⟩,hr.2⟩;simp only [Bool.or_eq_true,auZ,I,h4,auh,aua];constructor
     ·rintro(⟨q,hq,h⟩ | h)
      ·exact⟨q,.inl hq,h⟩
      ·exact⟨p,.inr rfl,h⟩
     ·rintro⟨q,hq | rfl,h⟩
      ·exact .inl ⟨q,hq,h⟩
      ·exact .inr h)
   have h_:Ev tab (.fn 104) [.c (.yl (HA.length+1)),.c (.f (.fp a.row 0)),.c (.f (.fp b.row 0))] (HA++[.eZ ae,.lp 25 u [P.nat 45] fU fV .ready ab HA.length]) (.t []) H2:=by
    have e:HA++[.eZ ae,.lp 25 u [P.nat 45] fU fV .ready ab HA.length]=m:=by rw [y,B,kn]
    rw [e,kn];exact he
   refine ju (g:=104) (by rw [DF,m_];simp [bZ]) h_ ?_;rw [kn];rcases W with⟨ps,⟨j9,M,v,hv,j8⟩,l_,a7⟩ | ⟨_,_,h⟩
   case inr=>exact h.elim
   have K:H2[l+1+1]?=aa (S .ready ab):=by rw [M _ (au q5) (by omega)];exact q5
   obtain⟨w2,z2⟩:=z.h2;obtain⟨w3,z3⟩:=z.h3;have n_:l ∉ (l+1)::N:=fun h=>by
    have:=z.cl.on _ h;rw [ql]at this;cases this
   have pq:Dl a b ((l+1)::N) H2:=⟨by rw [M 0 (by omega) (by omega)];exact z.h0,by rw [M 1 (by omega) (by omega)];exact z.h1,⟨w2,by rw [M 2 (by omega) (by omega)];exact z2⟩,⟨w3,by rw [M 3 (by omega) (by omega)];exact z3⟩,
    ⟨z.cl.nd,fun i hi=>by rw [M i (au (z.cl.on i hi)) (fun e=>n_ (e▸hi))];exact z.cl.on i hi⟩⟩
   rw [B]at K;refine lk K (by decide) ?_;have eq:=pq.set K (by omega) (by simp) (.lp 25 u [P.nat 45] fU fV .exhausted ab (l+1));have ev:(H2.set (l+1+1) (.lp 25 u [P.nat 45] fU fV .exhausted ab (l+1)))[l]?=aa (.box [.f (.bool v)] 0):=by rw [aft (by omega)];exact hv
   generalize H2.set (l+1+1) (.lp 25 u [P.nat 45] fU fV .exhausted ab (l+1))=H3 at eq ev ⊢;obtain⟨s1,s2,s3,s4,s6⟩:=eq.tell v 0;have lv:aV H3 ab (.c (.ptr l 0 0))=aa (vb v):=by simp [aV,aG,ev]
   refine az ?_;apply ai;simp [Z,g5,g9,lv,s1,s2,-aA,-bl];refine aC (j5 _ _ _ v (by simp [Z]) (by simp [g5]) ?_ s3 s4 s6 _);rw [j8];constructor
   ·rintro⟨p,A,h⟩;have:=l_ p A;exact⟨p.c,this.ca,p.d,this.db,p.k,this.lo,this.hi,h⟩
   ·rintro⟨c,hc,d,hd,k,h1,F,h⟩;obtain⟨p,A,rfl,rfl,rfl⟩:=a7 c hc d hd k h1 F;exact⟨p,A,h⟩
  have early:∀ t:T,t.g 2=.c (.ptr 0 0 0)→t.g 3=.c (.ptr 1 0 0)→t.g 4=.c (.ptr 2 0 0)→t.g 5=.c (.ptr 3 0 0)→WP tab 25 ab [.code Fy] ⟨t,[],J0⟩ Q:=by
   intro t g2 g3 Z g5;apply al;apply ai;simp [g2,g3,(la _ _ X).1,(la _ _ X).2,-aA,i7];refine aF ?_
   suffices go:∀ u:T,u.g 2=.c (.ptr 0 0 0)→u.g 3=.c (.ptr 1 0 0)→u.g 4=.c (.ptr 2 0 0)→u.g 5=.c (.ptr 3 0 0)→u.g 31=.c (.f (.fn 104 [.fp a.row 0,.fp b.row 0])) →
     WP tab 25 ab [.code Fz,.inBlock 0,.code zG] ⟨u,([]:List Nat).map .gX,J0⟩ Q by exact go _ (by simp [g2]) (by simp [g3]) (by simp [Z]) (by simp [g5]) (by simp [aJ.row])
   clear g2 g3 Z g5 t;intro u g2 g3 Z g5 m9;obtain⟨S,B⟩:∃ S:ez→Option aE→bz,S=fun st pd=>.lp 25 u [P.nat 32] jT jU st pd 4:=⟨_,rfl⟩
   obtain⟨m,y⟩:=aK (J0++[.eZ ae,S .ready ab]);have q4:m[4]?=aa (.eZ ae):=by rw [y,atZ (by omega),l0];simp
   have q5:m[5]?=aa (S .ready ab):=by rw [y,atZ (by omega),l0];simp
   have qq:=X.cM (J':=m) fun i hi=>by rw [y,anc hi]
   have z:Dl a b [4] m:=⟨qq.h0,qq.h1,qq.h2,qq.h3,⟨by simp,fun b hb=>by rw [aua.1 hb];exact q4⟩⟩
   have n9:m.length=6:=by rw [y,at6,l0];rfl
   obtain⟨H2,he,W⟩:=oM (bb:=5) (H:=m) a b ha hb (fun ps J=>m.length≤J.length∧(∀ i:Nat,i<m.length→J[i]?=m[i]?)∧∀ p ∈ ps,¬ Com p.c p.d p.k)
    (fun p J=>Com p.c p.d p.k∧fD [4] J∧J[2]?=aa (.box [.f (.bool ae)] 0)∧J[3]?=aa (.box [.f (fi 0)] 0)∧J[5]?=aa (S .done (aa .ret))) ⟨at3 _,fun _ _=>rfl,by simp⟩
    (fun ps J J' ⟨h1,F,h3⟩ hk hl=>⟨by omega,fun i hi=>by rw [hk i hi];exact F i hi,h3⟩)
    (fun ps p J ⟨h1,F,h3⟩ hl A=>by
     have K:J[5]?=aa (S .ready ab):=by rw [F _ (au q5)];exact q5
     have pq:=z.cM F;rw [B]at K;obtain⟨e,f,hm,-,d9⟩:=zb p.gx p.gy p.xs p.ys A.xo A.yo 0 (by omega) (by omega);have I:f=ae↔Com p.c p.d p.k:=by
      rw [←FZ A];rcases hm with⟨rfl,-,k⟩ | ⟨rfl,k,-⟩
      ·exact⟨fun h=>(by cases h),fun⟨x,h0,h1,F⟩=>absurd ⟨by omega,h1,F⟩ (k x)⟩
      ·exact⟨fun _=>⟨e,by have:=k.1;omega,k.2⟩,fun _=>rfl⟩
     refine⟨!f,?_⟩;obtain⟨r,J',i4,rfl,hr⟩:∃ r J',Ev tab (.yield 5) [.a p.row] J r J'∧(r=vb (!f)∧(if f=ae then fD [4] J'∧J'[2]?=aa (.box [.f (.bool ae)] 0)∧J'[3]?=aa (.box [.f (fi 0)] 0)∧J'[5]?=aa (S .done (aa .ret))else J.length≤J'.length∧∀ i:Nat,i<J.length→J'[i]?=J[i]?)):=by
      refine gu (tab:=tab) (b:=5) (args:=[.a p.row]) (H:=J) K rfl fun Q' c_=>?_;obtain⟨Y,U⟩:=aK (J.length);have i6:p.row.length=8:=rfl;refine an (.inr rfl) ?_;simp [i6];rw [←U];obtain⟨J1,L⟩:=aK (J++[bz.box p.row 0]);rw [←L];have k1:∀ i:Nat,i<J.length→J1[i]?=J[i]?:=fun i hi=>by rw [L,anc hi]
      have d1:J1[Y]?=aa (.box p.row 0):=by rw [L,U];simp
      have n1:J1.length=Y+1:=by rw [L,U];simp
      have e5:J1[5]?=aa (.lp 25 u [P.nat 32] jT jU .ready ab 4):=by rw [k1 _ (au K)];exact K
      refine nJ e5 ?_;obtain⟨E,s⟩:=aK (J1.set 5 (.lp 25 u [P.nat 32] jT jU .busy ab 4));rw [←s];have k2:∀ i:Nat,i<J.length→i≠5→E[i]?=J[i]?:=fun i hi O=>by rw [s,aft (Ne.symm O),k1 i hi]
      have d2:E[Y]?=aa (.box p.row 0):=by rw [s,aft (by have:=au K;omega)];exact d1
      have f5:E[5]?=aa (.lp 25 u [P.nat 32] jT jU .busy ab 4):=by rw [s];exact atY (au e5)
      have n2:E.length=Y+1:=by rw [s,aul];exact n1
      have q2:Dl a b [4] E:=by rw [s];exact(pq.cM k1).set e5 (by omega) (by simp) _
      unfold Pr.row at d2;have c5:aV E (aa 1) (.c (.ptr Y 5 0))=aa (.a [.f (sl p.gx (aM p.xs))]):=by simp [aV,aG,d2,aT]
      have c6:aV E (aa 1) (.c (.ptr Y 6 0))=aa (.a [.f (sl p.gy (aM p.ys))]):=by simp [aV,aG,d2,aT]
      refine aF ?_;refine al (an (.inr rfl) ?_);simp [c5,c6,-aA,d9];apply al;refine an (.inr rfl) ?_;simp;cases f with
      | true=>
       refine aq (by simp) ?_;obtain⟨s1,s2,s3,s4,s6⟩:=q2.tell ae 0;have s5:((E.set 2 (.box [.f (.bool ae)] 0)).set 3 (.box [.f (fi 0)] 0))[5]?=aa (.lp 25 u [P.nat 32] jT jU .busy ab 4):=by rw [aft (by omega),aft (by omega)];exact f5
       refine al (an (.inr rfl) ?_);simp [Z,g5,s1,s2,-bl];refine aC (c_ _ _ _ _ _ _ _ _ _ _ rfl s5 ⟨rfl,?_⟩);rw [bg rfl];refine⟨s3.set s5 (by simp),?_,?_,?_⟩
       ·rw [aft (by omega)];exact s4
       ·rw [aft (by omega)];exact s6
       ·rw [B];exact atY (au s5)
      | false=>
       refine aD (by simp) (aO (az (cJ (c_ _ _ _ _ _ _ _ _ _ _ rfl f5 ⟨rfl,?_⟩))));rw [aY (by simp)];refine⟨by rw [aul,n2];omega,fun i hi=>?_⟩;by_cases e:i=5
       ·subst e;rw [atY (au f5),K];rfl
       ·rw [aft (Ne.symm e),k2 i hi e]
     refine⟨J',i4,?_⟩;cases f with
     | true=>simpa using ⟨I.1 rfl,by simpa using hr⟩
     | false=>
      have hr:J.length≤J'.length∧∀ i:Nat,i<J.length→J'[i]?=J[i]?:=by simpa using hr
      simp only [Bool.not_false,if_true];refine⟨⟨by omega,fun i hi=>by rw [hr.2 i (by omega)];exact F i hi,fun q hq=>?_⟩,hr.1,fun i _ hi=>hr.2 i hi⟩;rcases auh.1 hq with h | h
      ·exact h3 q h
      ·rw [aua.1 h];intro h;have:=I.2 h;cases this)
   have h_:Ev tab (.fn 104) [.c (.yl (J0.length+1)),.c (.f (.fp a.row 0)),.c (.f (.fp b.row 0))] (J0++[.eZ ae,.lp 25 u [P.nat 32] jT jU .ready ab J0.length]) (.t []) H2:=by
    have e:J0++[.eZ ae,.lp 25 u [P.nat 32] jT jU .ready ab J0.length]=m:=by rw [y,B,l0]
    rw [e,l0];exact he
   refine ju (g:=104) (by rw [DF,m9];simp [bZ]) h_ ?_;rw [l0];rcases W with⟨ps,⟨j9,M,i5⟩,l_,a7⟩ | ⟨p,A,I,c1,c2,c3,c5⟩
   ·have K:H2[5]?=aa (S .ready ab):=by rw [M _ (au q5)];exact q5
    rw [B]at K;refine lk K (by decide) (az ?_);exact m4 u _ [4] g2 g3 Z g5 ((z.cM M).set K (by omega) (by simp) _) fun c hc d hd k h1 F=>by
     obtain⟨p,A,rfl,rfl,rfl⟩:=a7 c hc d hd k h1 F;exact i5 p A
   ·rw [B]at c5;refine pY c5 (by decide) ?_;refine aC (j5 _ _ [4] ae Z g5 ⟨fun _=>⟨p.c,A.ca,p.d,A.db,p.k,A.lo,A.hi,I⟩,fun _=>rfl⟩ (c1.set c5 (by simp)) ?_ ?_ _)
    ·rw [aft (by omega)];exact c2
    ·rw [aft (by omega)];exact c3
  simp [(la _ _ X).1,(la _ _ X).2,-aA,i_,j4];refine bw (by simp) ?_;exact early _ (by simp) (by simp) (by simp) (by simp)
 obtain⟨v,⟨r,hr,rfl⟩,h⟩:=key;exact⟨r,hr,h.eq⟩
section
structure TK(fr lL:Int)(found:Bool)(X Y:aI)(H:aj):Prop where
 h2:H[2]?=aa (.box [.f (fi fr)] 0)
 h5:H[5]?=aa (.box [.f (fi X.day),.f (fi X.fr),.f (fi X.to)] 0)
 h6:H[6]?=aa (.box [.f (fi Y.day),.f (fi Y.fr),.f (fi Y.to)] 0)
 h7:H[7]?=aa (.box [.f (fi lL)] 0)
 h8:H[8]?=aa (.box [.f (.bool found)] 0)
theorem TK.cM{fr lL:Int}{found:Bool}{X Y:aI}{H H':aj}(h:TK fr lL found X Y H)(b:∀ i:Nat,i<9→H'[i]?=H[i]?):TK fr lL found X Y H':=
 ⟨by rw [b 2 (by omega)];exact h.h2,by rw [b 5 (by omega)];exact h.h5,by rw [b 6 (by omega)];exact h.h6,by rw [b 7 (by omega)];exact h.h7,by rw [b 8 (by omega)];exact h.h8⟩
def om(b:Int)(x y:aI):Int:=max (max x.fr y.fr) b
theorem Qe{a b c:Int}:xG ag [vi a,vi b,vi c]=aa (vi (max (max a b) c)):=by
 have d:(if a<b then b else a)=max a b:=by split<;>omega
 have g:(if max a b<c then c else max a b)=max (max a b) c:=by split<;>omega
 simp only [xG,sS,y0];simp [d,g,V.int]
def okB(b:Int)(x y:aI):Prop:=x.to≤2251799813685248∧y.to≤2251799813685248∧om b x y<min x.to y.to
def Eh(d b:Int)(x y X Y:aI):Prop:=wm [de (om d x y) b,eU x X,eU y Y]<0
open Classical in
noncomputable def iw (d b:Int) (found:Bool) (x y X Y:aI):Bool:=decide (okB d x y∧(found=ag∨Eh d b x y X Y))
theorem adK(g b:Int)(found:Bool)(X Y x y:aI)(H:aj)(h:TK g b found X Y H) :
  ∃ H',Ev tab (.fn 212) [.a (x.row.map .f),.a (y.row.map .f),.c (.ptr 2 0 0),.c (.ptr 8 0 0),.c (.ptr 7 0 0),.c (.ptr 5 0 0),.c (.ptr 6 0 0)] H (.t []) H' ∧
   TK g (if iw g b found x y X Y then om g x y else b) (found||iw g b found x y X Y) (if iw g b found x y X Y then x else X) (if iw g b found x y X Y then y else Y) H'∧H.length≤H'.length∧∀ i:Nat,i<H.length→i<5∨8<i→H'[i]?=H[i]?:=by
 have l8:=au h.h8;have c_:max (max x.fr y.fr) g=om g x y:=rfl;obtain⟨r,H',he,rfl,hP⟩:∃ r H',Ev tab (.fn 212) [.a (x.row.map .f),.a (y.row.map .f),.c (.ptr 2 0 0),.c (.ptr 8 0 0),.c (.ptr 7 0 0),.c (.ptr 5 0 0),.c (.ptr 6 0 0)] H r H'∧(r=.t [] ∧
   TK g (if iw g b found x y X Y then om g x y else b) (found||iw g b found x y X Y) (if iw g b found x y X Y then x else X) (if iw g b found x y X Y then y else Y) H'∧H.length≤H'.length∧∀ i:Nat,i<H.length→i<5∨8<i→H'[i]?=H[i]?):=by
  have o1:=wo x X;have o2:=wo y Y;simp only [aI.row,aug,aus]at o1 o2;have ho:=ze .fs [de (om g x y) b,eU x X,eU y Y] (by simp);simp [ints,sl,Tg.fc]at ho;have W:=gj (om g x y) b;refine cI rfl rfl fun Q hQ=>?_;apply ai;simp [aI.row];obtain⟨d,q⟩:=aK (H++[bz.box [.f (fi x.day),.f (fi x.fr),.f (fi x.to)] 0,.box [.f (fi y.day),.f (fi y.fr),.f (fi y.to)] 0]);obtain⟨m,M⟩:=aK (H.length);have hT:TK g b found X Y d:=h.cM fun i hi=>by rw [q,anc (by omega)]
  have c7:d[m]?=aa (.box [.f (fi x.day),.f (fi x.fr),.f (fi x.to)] 0):=by rw [q,M];simp
  have c8:d[m+1]?=aa (.box [.f (fi y.day),.f (fi y.fr),.f (fi y.to)] 0):=by rw [q,M,atZ (by omega)];simp
  have kA:∀ i:Nat,i<H.length→d[i]?=H[i]?:=fun i hi=>by rw [q,anc hi]
  have lA:d.length=m+2:=by rw [q,at6,M];rfl
  rw [←q,←M];have m7:∀ J:aj,J[m]?=aa (.box [.f (fi x.day),.f (fi x.fr),.f (fi x.to)] 0)→aV J ab (.c (.ptr m 1 0))=aa (vi x.fr)∧aV J ab (.c (.ptr m 2 0))=aa (vi x.to)∧aV J (aa 3) (.c (.ptr m 0 0))=aa (.a [.f (fi x.day),.f (fi x.fr),.f (fi x.to)]):=fun J h=>by refine⟨?_,?_,?_⟩<;>simp [aV,aG,h,aT]
  have m8:∀ J:aj,J[m+1]?=aa (.box [.f (fi y.day),.f (fi y.fr),.f (fi y.to)] 0)→aV J ab (.c (.ptr (m+1) 1 0))=aa (vi y.fr)∧aV J ab (.c (.ptr (m+1) 2 0))=aa (vi y.to)∧aV J (aa 3) (.c (.ptr (m+1) 0 0))=aa (.a [.f (fi y.day),.f (fi y.fr),.f (fi y.to)]):=fun J h=>by refine⟨?_,?_,?_⟩<;>simp [aV,aG,h,aT]
  obtain⟨x1,x2,x3⟩:=m7 d c7;obtain⟨y1,y2,y3⟩:=m8 d c8;have i4:aV d ab (.c (.ptr 2 0 0))=aa (vi g):=by simp [aV,aG,hT.h2]
  have h_:aV d ab (.c (.ptr 7 0 0))=aa (vi b):=by simp [aV,aG,hT.h7]
  have i5:aV d (aa 3) (.c (.ptr 5 0 0))=aa (.a [.f (fi X.day),.f (fi X.fr),.f (fi X.to)]):=by simp [aV,aG,hT.h5,aT]
  have i6:aV d (aa 3) (.c (.ptr 6 0 0))=aa (.a [.f (fi Y.day),.f (fi Y.fr),.f (fi Y.to)]):=by simp [aV,aG,hT.h6,aT]
  have d9:aV d ab (.c (.ptr 8 0 0))=aa (vb found):=by simp [aV,aG,hT.h8]
  obtain⟨l,L⟩:=aK (om g x y);rw [←L]at c_ ho W;have no:∀(t:T) (J:aj),iw g b found x y X Y=ag→(∀ i:Nat,i<d.length→J[i]?=d[i]?)→d.length≤J.length→(∀ j:Option aE,Q j ⟨t,[],J⟩):=by
   intro t J hu hJ hl j;refine hQ _ _ _ rfl rfl ⟨rfl,?_,by show H.length≤J.length;omega,fun i hi _=>by show J[i]?=_;rw [hJ i (by omega),kA i hi]⟩;rw [hu];simpa using hT.cM fun i hi=>hJ i (by omega)
  apply ai;simp [x1,y1,i4,-aA,Qe,c_]
  suffices a8:∀ t:T,t.g 3=.c (.ptr 8 0 0)→t.g 4=.c (.ptr 7 0 0)→t.g 5=.c (.ptr 5 0 0)→t.g 6=.c (.ptr 6 0 0)→t.g 7=.c (.ptr m 0 0)→t.g 8=.c (.ptr (m+1) 0 0)→t.g 9=vi l→WP tab 212 ab [.code ZG] ⟨t,[],d⟩ Q by exact a8 _ (by simp) (by simp) (by simp) (by simp) (by simp) (by simp) (by simp)
  intro t g3 S g5 g6 u v A;have N:okB g x y↔(x.to≤2251799813685248∧y.to≤2251799813685248∧l<min x.to y.to):=by rw [L];rfl
  have z:¬ okB g x y→iw g b found x y X Y=ag:=fun h=>by unfold iw;simp [h]
  apply al;apply ai;by_cases c1:2251799813685248<x.to
  ·simp [u,x2,c1,-aA];refine aq (by simp) ?_;exact aC (no _ d (z fun h=>by have:=(N.1 h).1;omega) (fun _ _=>rfl) (at3 _) _)
  by_cases c2:2251799813685248<y.to
  ·simp [u,v,x2,y2,c1,c2,-aA];refine aq (by simp) ?_;exact aC (no _ d (z fun h=>by have:=(N.1 h).2.1;omega) (fun _ _=>rfl) (at3 _) _)
  by_cases c3:min x.to y.to≤l
  ·simp [u,v,A,x2,y2,c1,c2,c3,-aA];refine aq (by simp) ?_;exact aC (no _ d (z fun h=>by have:=(N.1 h).2.2;omega) (fun _ _=>rfl) (at3 _) _)
  have Z:okB g x y:=N.2 ⟨by omega,by omega,by omega⟩;simp [u,v,A,x2,y2,c1,c2,c3,-aA];refine bw (by simp) ?_;have d_:∀(t:T) (J:aj),iw g b found x y X Y=ae→t.g 3=.c (.ptr 8 0 0)→t.g 4=.c (.ptr 7 0 0)→t.g 5=.c (.ptr 5 0 0)→t.g 6=.c (.ptr 6 0 0)→t.g 7=.c (.ptr m 0 0)→t.g 8=.c (.ptr (m+1) 0 0)→t.g 9=vi l→(∀ i:Nat,i<d.length→J[i]?=d[i]?)→d.length≤J.length→WP tab 212 ab [.code Fx] ⟨t,[],J⟩ Q:=by
   intro t J hu g3 S g5 g6 u v A hJ hl;have s:=hT.cM (H':=J) fun i hi=>hJ i (by omega);have d7:J[m]?=aa (.box [.f (fi x.day),.f (fi x.fr),.f (fi x.to)] 0):=by rw [hJ m (by omega)];exact c7
   have d8:J[m+1]?=aa (.box [.f (fi y.day),.f (fi y.fr),.f (fi y.to)] 0):=by rw [hJ (m+1) (by omega)];exact c8
   obtain⟨-,-,x3⟩:=m7 J d7;obtain⟨-,-,y3⟩:=m8 J d8;obtain⟨O,E⟩:=aK (J.set 7 (.box [.f (fi l)] 0));have s1:dh J (.ptr 7 0 0) [.f (fi l)]=aa O:=by rw [E];simp [dh,s.h7,bp]
   have k1:∀ i:Nat,i≠7→O[i]?=J[i]?:=fun i hi=>by rw [E,aft (Ne.symm hi)]
   have n1:O.length=J.length:=by rw [E];simp
   obtain⟨J2,F⟩:=aK (O.set 5 (.box [.f (fi x.day),.f (fi x.fr),.f (fi x.to)] 0));have s2:dh O (.ptr 5 0 0) [.f (fi x.day),.f (fi x.fr),.f (fi x.to)]=aa J2:=by rw [F];simp [dh,k1 5 (by omega),s.h5,bp]
   have k2:∀ i:Nat,i≠5→J2[i]?=O[i]?:=fun i hi=>by rw [F,aft (Ne.symm hi)]
   have n2:J2.length=J.length:=by rw [F];simp [n1]
   obtain⟨J3,I⟩:=aK (J2.set 6 (.box [.f (fi y.day),.f (fi y.fr),.f (fi y.to)] 0));have s3:dh J2 (.ptr 6 0 0) [.f (fi y.day),.f (fi y.fr),.f (fi y.to)]=aa J3:=by rw [I];simp [dh,k2 6 (by omega),k1 6 (by omega),s.h6,bp]
   have k3:∀ i:Nat,i≠6→J3[i]?=J2[i]?:=fun i hi=>by rw [I,aft (Ne.symm hi)]
   have n3:J3.length=J.length:=by rw [I];simp [n2]
   obtain⟨J4,K⟩:=aK (J3.set 8 (.box [.f (.bool ae)] 0));have s4:dh J3 (.ptr 8 0 0) [.f (.bool ae)]=aa J4:=by rw [K];simp [dh,k3 8 (by omega),k2 8 (by omega),k1 8 (by omega),s.h8,bp]
   have k4:∀ i:Nat,i≠8→J4[i]?=J3[i]?:=fun i hi=>by rw [K,aft (Ne.symm hi)]
   have j4:=au s.h7;have j5:8<m:=by omega
   obtain⟨-,-,i7⟩:=m7 O (by rw [k1 m (by omega)];exact d7);obtain⟨-,-,i8⟩:=m8 O (by rw [k1 (m+1) (by omega)];exact d8);obtain⟨-,-,i9⟩:=m8 J2 (by rw [k2 (m+1) (by omega),k1 (m+1) (by omega)];exact d8);refine fe (.inl rfl) ?_ ?_
   case refine_2=>
    intro cc f_;have e_:cc=(1,4)∨cc=(2,4)∨cc=(2,5):=by simpa using f_
    rcases e_ with rfl | rfl | rfl
    ·refine⟨by decide,_,rfl,.inl ⟨by decide,?_⟩⟩;simp [S,u,v,A,x3,y3,i7,s1,-aA,-bl,gl,V.beq,C.beq,FC.beq]
    ·refine⟨by decide,_,rfl,.inl ⟨by decide,?_⟩⟩;simp [S,u,v,A,x3,y3,i8,s1,-aA,-bl,gl,V.beq,C.beq,FC.beq]
    ·refine⟨by decide,_,rfl,.inl ⟨by decide,?_⟩⟩;simp [S,g5,u,v,A,x3,y3,i9,s1,s2,-aA,-bl,gl,V.beq,C.beq,FC.beq]
   simp [g3,S,g5,g6,u,v,A,x3,y3,s1,s2,s3,s4,-aA,-bl];refine cJ (hQ _ _ _ rfl rfl ⟨rfl,?_,by show H.length≤J4.length;rw [K];simp;omega,fun i hi i_=>?_⟩)
   ·rw [hu];simp only [if_true,Bool.or_true];rw [←L];refine⟨?_,?_,?_,?_,?_⟩
    ·rw [k4 2 (by omega),k3 2 (by omega),k2 2 (by omega),k1 2 (by omega)];exact s.h2
    ·rw [k4 5 (by omega),k3 5 (by omega),F];exact atY (by omega)
    ·rw [k4 6 (by omega),I];exact atY (by omega)
    ·rw [k4 7 (by omega),k3 7 (by omega),k2 7 (by omega),E];exact atY (by omega)
    ·rw [K];exact atY (by omega)
   ·show J4[i]?=_;rw [k4 i (by omega),k3 i (by omega),k2 i (by omega),k1 i (by omega),hJ i (by omega),kA i hi]
  apply al;cases found with
  | false=>
   refine an (.inl rfl) ?_;simp [g3,d9,-aA];refine aq (by simp) ?_;exact d_ _ d (by unfold iw;simp [Z]) (by simp [g3]) (by simp [S]) (by simp [g5]) (by simp [g6]) (by simp [u]) (by simp [v]) (by simp [A]) (fun _ _=>rfl) (at3 _)
  | true=>
   obtain⟨HB,B⟩:=aK (d++[bz.box [.f (fi (de l b)),.f (fi (eU x X)),.f (fi (eU y Y))] 0]);have b9:HB[d.length]?=aa (.box [.f (fi (de l b)),.f (fi (eU x X)),.f (fi (eU y Y))] 0):=by rw [B];simp
   have b_:ek 64 HB (.sl d.length 0 3 3 0 1)=aa (.fs [fi (de l b),fi (eU x X),fi (eU y Y)] 3):=by
    rw [show(64:Nat)=63+1 from rfl];simp only [mr,b9];rfl
   obtain⟨HC,a_⟩:=aK (gD 64 (.sl d.length 0 3 3 0 1) HB);have U:HC=HB.set d.length (.box [.f (fi (de l b)),.f (fi (eU x X)),.f (fi (eU y Y))] 3):=by
    rw [a_,show(64:Nat)=63+1 from rfl];simp only [qf,b9];rfl
   have kC:∀ i:Nat,i<d.length→HC[i]?=d[i]?:=fun i hi=>by rw [U,aft (by omega),B,anc hi]
   have lC:d.length≤HC.length:=by rw [U,aul,B,at6];omega
   have a7:wm [de l b,eU x X,eU y Y]<0↔Eh g b x y X Y:=by unfold Eh;rw [←L]
   obtain⟨oo,g_⟩:=aK (wm [de l b,eU x X,eU y Y]);rw [←g_]at ho a7;refine an (.inl rfl) ?_;simp [g3,S,g5,g6,u,v,A,d9,h_,i5,i6,x3,y3,-aA,W,o1,o2,←B,b_,deep,ho,←a_];by_cases k:oo<0
   ·refine aq (by simp [k]) ?_;exact d_ _ HC (by unfold iw;simp [Z,a7.1 k]) (by simp [g3]) (by simp [S]) (by simp [g5]) (by simp [g6]) (by simp [u]) (by simp [v]) (by simp [A]) kC lC
   ·refine bw (by simp [k]) ?_;exact cJ (no _ HC (by unfold iw;simp [show¬ Eh g b x y X Y from fun h=>k (a7.2 h)]) kC lC ab)
 exact⟨H',he,hP⟩
end
def Cu(b:Int)(x y X Y:aI):Prop:=om b x y<om b X Y∨om b x y=om b X Y∧(x.lt X∨(x.fr=X.fr∧x.day=X.day∧x.to=X.to)∧y.lt Y)
theorem zf(x y:aI):eU x y=0↔x.fr=y.fr∧x.day=y.day∧x.to=y.to:=by
 have l:∀ a b:Int,de a b=0↔a=b:=fun a b=>by unfold de;split<;>(try split)<;>omega
 unfold eU;simp only [wm];have m:=l x.fr y.fr;have q:=l x.day y.day;have s:=l x.to y.to;by_cases d:de x.fr y.fr=0
 ·rw [bg d];by_cases g:de x.day y.day=0
  ·rw [bg g];by_cases j:de x.to y.to=0
   ·rw [bg j];exact⟨fun _=>⟨m.1 d,q.1 g,s.1 j⟩,fun _=>rfl⟩
   ·rw [aY j];exact⟨fun h=>absurd h j,fun h=>absurd (s.2 h.2.2) j⟩
  ·rw [aY g];exact⟨fun h=>absurd h g,fun h=>absurd (q.2 h.2.1) g⟩
 ·rw [aY d];exact⟨fun h=>absurd h d,fun h=>absurd (m.2 h.1) d⟩
theorem ajk(b:Int)(x y X Y:aI):Eh b (om b X Y) x y X Y↔Cu b x y X Y:=by
 unfold Eh Cu;have l:de (om b x y) (om b X Y)=0↔om b x y=om b X Y:=by unfold de;split<;>(try split)<;>omega
 have A:de (om b x y) (om b X Y)<0↔om b x y<om b X Y:=by unfold de;split<;>(try split)<;>omega
 have v:=zf x X;have B:=zf y Y;have m:=qn x X;have q:=qn y Y;simp only [wm];by_cases d:de (om b x y) (om b X Y)=0
 ·rw [bg d];have e:=l.1 d;by_cases g:eU x X=0
  ·rw [bg g];have z:=v.1 g;have u:¬ x.lt X:=fun h=>by have:=m.2 h;omega
   by_cases s:eU y Y=0
   ·rw [bg s];have j:¬ y.lt Y:=fun h=>by have:=q.2 h;omega
    constructor
    ·intro h;omega
    ·rintro(h | ⟨-,h | ⟨-,h⟩⟩)
     ·omega
     ·exact absurd h u
     ·exact absurd h j
   ·rw [aY s,q];constructor
    ·intro h;exact .inr ⟨e,.inr ⟨z,h⟩⟩
    ·rintro(h | ⟨-,h | ⟨-,h⟩⟩)
     ·omega
     ·exact absurd h u
     ·exact h
  ·rw [aY g,m];constructor
   ·intro h;exact .inr ⟨e,.inl h⟩
   ·rintro(h | ⟨-,h | ⟨h,-⟩⟩)
    ·omega
    ·exact h
    ·exact absurd (v.2 h) g
 ·rw [aY d,A];constructor
  ·intro h;exact .inl h
  ·rintro(h | ⟨h,-⟩)
   ·exact h
   ·exact absurd (l.2 h) d
theorem zi{b:Int}{x y X Y Z W:aI}(h:Cu b x y X Y)(d:Cu b X Y Z W):Cu b x y Z W:=by
 unfold Cu aI.lt at *;omega
theorem ajw{b:Int}{x y X Y:aI}(h:¬ Cu b x y X Y)(v:¬ Cu b X Y x y):x=X∧y=Y:=by
 have d:x.fr=X.fr∧x.day=X.day∧x.to=X.to:=by unfold Cu aI.lt at *;omega
 have g:y.fr=Y.fr∧y.day=Y.day∧y.to=Y.to:=by unfold Cu aI.lt at *;omega
 cases x;cases X;cases y;cases Y;simp only at d g;obtain⟨j,l,m⟩:=d;obtain⟨q,s,u⟩:=g;subst j l m q s u;exact⟨rfl,rfl⟩
structure FS where
 lL:Int
 found:Bool
 X:aI
 Y:aI
noncomputable def gB (b:Int) (s:FS) (x y:aI):FS:=⟨if iw b s.lL s.found x y s.X s.Y then om b x y else s.lL,s.found||iw b s.lL s.found x y s.X s.Y,if iw b s.lL s.found x y s.X s.Y then x else s.X,if iw b s.lL s.found x y s.X s.Y then y else s.Y⟩
def mB(b:Int)(S:aI→aI→Prop)(s:FS):Prop:=(s.found=ag∧s.X=⟨0,0,0⟩∧s.Y=⟨0,0,0⟩∧∀ x y,S x y→¬ okB b x y)∨(s.found=ae∧S s.X s.Y∧okB b s.X s.Y∧s.lL=om b s.X s.Y∧∀ x y,S x y→okB b x y→¬ Cu b x y s.X s.Y)
theorem mB.iff{fr:Int}{S S':aI→aI→Prop}{s:FS}(h:mB fr S s)(d:∀ x y,okB fr x y→(S' x y↔S x y)):mB fr S' s:=by
 rcases h with⟨h1,h2,h3,h4⟩ | ⟨h1,h2,h3,h4,h5⟩
 ·exact .inl ⟨h1,h2,h3,fun x y h b=>h4 x y ((d x y b).1 h) b⟩
 ·exact .inr ⟨h1,(d _ _ h3).2 h2,h3,h4,fun x y h b=>h5 x y ((d x y b).1 h) b⟩
theorem mB.step{fr:Int}{S T:aI→aI→Prop}{s:FS}(h:mB fr S s){x y:aI}(v:T x y)(u:∀ d g,T d g→okB fr d g→okB fr x y∧¬ Cu fr d g x y):mB fr (fun x y=>S x y∨T x y) (gB fr s x y):=by
 by_cases j:okB fr x y
 ·rcases h with⟨h1,h2,h3,h4⟩ | ⟨h1,h2,h3,h4,h5⟩
  ·have hu:iw fr s.lL s.found x y s.X s.Y=ae:=by unfold iw;simp [j,h1]
   refine .inr ⟨?_,?_,?_,?_,fun d g b l=>?_⟩
   ·simp [gB,hu]
   ·simp only [gB,hu,if_true];exact .inr v
   ·simp only [gB,hu,if_true];exact j
   ·simp only [gB,hu,if_true]
   ·simp only [gB,hu,if_true];rcases b with b | b
    ·exact absurd l (h4 d g b)
    ·exact(u d g b l).2
  ·have m:Eh fr s.lL x y s.X s.Y↔Cu fr x y s.X s.Y:=by rw [h4];exact ajk fr x y s.X s.Y
   by_cases k:Cu fr x y s.X s.Y
   ·have hu:iw fr s.lL s.found x y s.X s.Y=ae:=by unfold iw;simp [j,m.2 k]
    refine .inr ⟨?_,?_,?_,?_,fun d g b l=>?_⟩
    ·simp [gB,hu]
    ·simp only [gB,hu,if_true];exact .inr v
    ·simp only [gB,hu,if_true];exact j
    ·simp only [gB,hu,if_true]
    ·simp only [gB,hu,if_true];rcases b with b | b
     ·exact fun q=>h5 d g b l (zi q k)
     ·exact(u d g b l).2
   ·have hu:iw fr s.lL s.found x y s.X s.Y=ag:=by unfold iw;simp [h1,show¬ Eh fr s.lL x y s.X s.Y from fun h=>k (m.1 h)]
    refine .inr ⟨?_,?_,?_,?_,fun d g b l=>?_⟩
    ·simp [gB,hu,h1]
    ·simp only [gB,hu];exact .inl h2
    ·simp only [gB,hu];exact h3
    ·simp only [gB,hu];exact h4
    ·simp only [gB,hu];rcases b with b | b
     ·exact h5 d g b l
     ·intro q;have h6:=(u d g b l).2;by_cases e:Cu fr x y d g
      ·exact k (zi e q)
      ·obtain⟨rfl,rfl⟩:=ajw h6 e;exact k q
 ·have hu:iw fr s.lL s.found x y s.X s.Y=ag:=by unfold iw;simp [j]
  have z:gB fr s x y=s:=by simp [gB,hu]
  rw [z];refine h.iff fun d g l=>⟨fun h=>h.elim id fun h=>absurd (u d g h l).1 j,.inl⟩
theorem mB.none{fr:Int}{S T:aI→aI→Prop}{s:FS}(h:mB fr S s)(j:∀ b d,T b d→¬ okB fr b d):mB fr (fun x y=>S x y∨T x y) s:=
 h.iff fun b d g=>⟨fun h=>h.elim id fun h=>absurd g (j b d h),.inl⟩
theorem xf(g j l:FC)(len mi d:Int)(u:0≤len)(m:len≤10080)(v:-4320≤mi)(q:mi≤4320) :
  bo tab 213 [.a [.f g,.f (fi len),.f j],.a [.f l,.f (fi mi)],vi d]=Eq (vb (decide (d≤(2251799813685248-mi-len) / 1440))):=Kf.eq (by
 refine cP rfl rfl fun H Q s=>?_;apply ai;simp;apply ai;simp [aW (n:=2251799813685248-mi),aW (n:=2251799813685248-mi-len),nh (a:=2251799813685248-mi-len) (b:=1440) (by omega) (by omega) (by omega)];refine aC (s _ _ ?_);simp)
def C_:C:=.cl 212 [.ptr 2 0 0,.ptr 8 0 0,.ptr 7 0 0,.ptr 5 0 0,.ptr 6 0 0]
structure FQ(a b:aJ)(fr:Int)(s:FS)(J:aj):Prop where
 h0:J[0]?=aa (.box (ns a) 0)
 h1:J[1]?=aa (.box (ns b) 0)
 h3:J[3]?=aa (.box [.f (fi 0),.f (fi 0),.f (fi 0)] 0)
 h4:J[4]?=aa (.box [.f (fi 0),.f (fi 0),.f (fi 0)] 0)
 h9:J[9]?=aa (.box [C_] 0)
 tk:TK fr s.lL s.found s.X s.Y J
theorem FQ.cM{a b:aJ}{fr:Int}{s:FS}{J J':aj}(h:FQ a b fr s J)(d:∀ i:Nat,i<10→J'[i]?=J[i]?):FQ a b fr s J':=
 ⟨by rw [d 0 (by omega)];exact h.h0,by rw [d 1 (by omega)];exact h.h1,by rw [d 3 (by omega)];exact h.h3,by rw [d 4 (by omega)];exact h.h4,by rw [d 9 (by omega)];exact h.h9,h.tk.cM fun i hi=>d i (by omega)⟩
structure FT(t:T):Prop where
 g3:t.g 3=.c (.ptr 0 0 0)
 g4:t.g 4=.c (.ptr 1 0 0)
 g5:t.g 5=.c (.ptr 2 0 0)
 g6:t.g 6=.c (.ptr 3 0 0)
 g7:t.g 7=.c (.ptr 4 0 0)
 g9:t.g 9=.c (.ptr 5 0 0)
 g10:t.g 10=.c (.ptr 6 0 0)
 g12:t.g 12=.c (.ptr 8 0 0)
 g13:t.g 13=.c (.ptr 9 0 0)
theorem adL{a b:aJ}{g:Int}{s:FS}{J:aj}(h:FQ a b g s J)(x y:aI):∃ J',Ev tab (.fn 212) [.a (x.row.map .f),.a (y.row.map .f),.c (.ptr 2 0 0),.c (.ptr 8 0 0),.c (.ptr 7 0 0),.c (.ptr 5 0 0),.c (.ptr 6 0 0)] J (.t []) J'∧FQ a b g (gB g s x y) J'∧J.length≤J'.length∧∀ i:Nat,8<i→i<J.length→J'[i]?=J[i]?:=by
 obtain⟨J',m,l,q,d⟩:=adK g s.lL s.found s.X s.Y x y J h.tk;have v:=au h.h9;exact⟨J',m,⟨by rw [d 0 (by omega) (by omega)];exact h.h0,by rw [d 1 (by omega) (by omega)];exact h.h1,by rw [d 3 (by omega) (by omega)];exact h.h3,by rw [d 4 (by omega) (by omega)];exact h.h4,by rw [d 9 (by omega) (by omega)];exact h.h9,l⟩,q,fun i u j=>d i j (by omega)⟩
def abL(a b:aJ)(p:Pr):Int:=min (p.c.min+a.len) (p.k*1440+p.d.min+b.len)
def n0P(a b:aJ)(d:Int)(p:Pr):Int:=max 0 ((d-abL a b p) / 1440+1-max 0 (-p.k))
def fE(a:aJ)(p:Pr)(e:Int):aI:=cQ a.len p.c.min (e+max 0 (-p.k))
def fF(b:aJ)(p:Pr)(e:Int):aI:=cQ b.len p.d.min (e+max 0 (-p.k)+p.k)
noncomputable def E9 (a b:aJ) (d:Int) (p:Pr) (e:Int) (f:Bool) (s:FS):FS:=if f then gB d s (fE a p e) (fF b p e)else s
theorem EK(a b:aJ)(ha:jQ a)(hb:jQ b){q:Int}(f0:-2251799813685248≤q)(f1:q≤100000000000000){O:T}(E:FT O){p:Pr}(Q:oE a b p){s:FS}{J:aj}(hq:FQ a b q s J)(a_:J[10]?=aa (.eZ ae))(L:J[11]?=aa (.lp 138 O [P.nat 47] gI gJ .ready ab 10)) :
  ∃ e f,ie (fun e=>n0P a b q p≤e∧ew p.xs e∧ew p.ys e) e f∧(f=ae→e≤1000001000000)∧∃ r J',Ev tab (.yield 11) [.a p.row] J r J'∧(r=vb ae∧FQ a b q (E9 a b q p e f s) J'∧J'[10]?=aa (.eZ ae)∧J'[11]?=aa (.lp 138 O [P.nat 47] gI gJ .ready ab 10)∧J.length≤J'.length∧∀ i:Nat,12≤i→i<J.length→J'[i]?=J[i]?):=by
 obtain⟨j6,j7⟩:=ha.len;obtain⟨j8,j9⟩:=hb.len;have i9:=ha.min Q.ca;have i_:=hb.min Q.db;have d9:=Q.lo;have c_:=Q.hi;unfold uA at d9;unfold uu at c_;have kb:-20≤p.k∧p.k≤20:=by omega
 obtain⟨B,M⟩:=aK (abL a b p);have i8:-100000≤B∧B≤100000:=by rw [M];unfold abL;omega
 have X:min (p.c.min+a.len) (p.k*1440+p.d.min+b.len)=B:=M.symm;obtain⟨l,z⟩:=aK (max 0 (-p.k));have i7:0≤l∧l≤20:=by omega
 obtain⟨n,hn⟩:=aK (n0P a b q p);have e_:max 0 ((q-B) / 1440+1-l)=n:=by rw [hn,M,z];rfl
 have j5:0≤n∧n≤1000000000000:=by omega
 obtain⟨e,f,hm,b9,A⟩:=zb p.gx p.gy p.xs p.ys Q.xo Q.yo n (by omega) (by omega);have d_:ie (fun e=>n0P a b q p≤e∧ew p.xs e∧ew p.ys e) e f:=hm.iff fun x=>by rw [←hn,show max n 0=n by omega]
 refine⟨e,f,d_,fun _=>b9.2,?_⟩;refine gu (tab:=tab) (b:=11) (args:=[.a p.row]) (H:=J) L rfl fun Q' W=>?_;obtain⟨d,v⟩:=aK (J.length);obtain⟨S,y⟩:=aK (J++[bz.box p.row 0]);have i4:=au L;have a8:S[d]?=aa (.box p.row 0):=by rw [y,v];simp
 have k1:∀ i:Nat,i<J.length→S[i]?=J[i]?:=fun i hi=>by rw [y,anc hi]
 have l1:S.length=d+1:=by rw [y,at6,v];rfl
 have g_:p.row.length=8:=rfl;refine an (.inr rfl) ?_;simp [g_];rw [←y,←v];have i6:S[11]?=aa (.lp 138 O [P.nat 47] gI gJ .ready ab 10):=by rw [k1 11 i4];exact L
 refine nJ i6 ?_;obtain⟨g,u⟩:=aK (S.set 11 (.lp 138 O [P.nat 47] gI gJ .busy ab 10));have k2:∀ i:Nat,i<J.length→i≠11→g[i]?=J[i]?:=fun i hi f_=>by rw [u,aft (Ne.symm f_),k1 i hi]
 have j:g[d]?=aa (.box p.row 0):=by rw [u,aft (by omega)];exact a8
 have K:g[11]?=aa (.lp 138 O [P.nat 47] gI gJ .busy ab 10):=by rw [u];exact atY (by omega)
 have U:g[10]?=aa (.eZ ae):=by rw [k2 10 (by omega) (by omega)];exact a_
 have m:FQ a b q s g:=hq.cM fun i hi=>k2 i (by omega) (by omega);have l2:g.length=d+1:=by rw [u,aul];exact l1
 rw [←u];unfold Pr.row at j;rw [←z]at j;have c0:aV g ab (.c (.ptr d 1 0))=aa (vi p.c.min):=by simp [aV,aG,j]
 have c1:aV g ab (.c (.ptr d 4 0))=aa (vi p.k):=by simp [aV,aG,j]
 have c2:aV g ab (.c (.ptr d 3 0))=aa (vi p.d.min):=by simp [aV,aG,j]
 have c3:aV g ab (.c (.ptr d 7 0))=aa (vi l):=by simp [aV,aG,j]
 have c4:aV g (aa 1) (.c (.ptr d 5 0))=aa (.a [.f (sl p.gx (aM p.xs))]):=by simp [aV,aG,j,aT]
 have c5:aV g (aa 1) (.c (.ptr d 6 0))=aa (.a [.f (sl p.gy (aM p.ys))]):=by simp [aV,aG,j,aT]
 have c6:aV g (aa 2) (.c (.ptr d 0 0))=aa (.a [.f (sl p.c.mg (aM p.c.ts)),.f (fi p.c.min)]):=by simp [aV,aG,j,aT]
 have c7:aV g (aa 2) (.c (.ptr d 2 0))=aa (.a [.f (sl p.d.mg (aM p.d.ts)),.f (fi p.d.min)]):=by simp [aV,aG,j,aT]
 have a1:aV g ab (.c (.ptr 0 1 0))=aa (vi a.len):=by simp [aV,aG,m.h0,ns]
 have a3:aV g (aa 3) (.c (.ptr 0 0 0))=aa (.a [.f (sl a.cg (aN a.cs)),.f (fi a.len),.f (sl a.xg (aH a.xs))]):=by simp [aV,aG,m.h0,ns,aT]
 have b1:aV g ab (.c (.ptr 1 1 0))=aa (vi b.len):=by simp [aV,aG,m.h1,ns]
 have b3:aV g (aa 3) (.c (.ptr 1 0 0))=aa (.a [.f (sl b.cg (aN b.cs)),.f (fi b.len),.f (sl b.xg (aH b.xs))]):=by simp [aV,aG,m.h1,ns,aT]
 have f2:aV g ab (.c (.ptr 2 0 0))=aa (vi q):=by simp [aV,aG,m.tk.h2]
 have f9:aV g ab (.c (.ptr 9 0 0))=aa (.c C_):=by simp [aV,aG,m.h9]
 have fl:=vA (q-B) (by omega) (by omega);have F:=xf (sl a.cg (aN a.cs)) (sl a.xg (aH a.xs)) (sl p.c.mg (aM p.c.ts)) a.len p.c.min (e+l) (by omega) (by omega) (by omega) (by omega);have I:=xf (sl b.cg (aN b.cs)) (sl b.xg (aH b.xs)) (sl p.d.mg (aM p.d.ts)) b.len p.d.min (e+l+p.k) (by omega) (by omega) (by omega) (by omega);rw [decide_eq_true (show e+l≤(2251799813685248-p.c.min-a.len) / 1440 by omega)]at F;rw [decide_eq_true (show e+l+p.k≤(2251799813685248-p.d.min-b.len) / 1440 by omega)]at I;have Y:=BN (sl a.cg (aN a.cs)) (sl a.xg (aH a.xs)) (sl p.c.mg (aM p.c.ts)) a.len p.c.min (e+l) (by unfold mC;omega) (by unfold mC;omega) (by unfold mC;omega);have Z:=BN (sl b.cg (aN b.cs)) (sl b.xg (aH b.xs)) (sl p.d.mg (aM p.d.ts)) b.len p.d.min (e+l+p.k) (by unfold mC;omega) (by unfold mC;omega) (by unfold mC;omega);have hX:cQ a.len p.c.min (e+l)=fE a p e:=by unfold fE;rw [←z]
 have hY:cQ b.len p.d.min (e+l+p.k)=fF b p e:=by unfold fF;rw [←z]
 rw [hX]at Y;rw [hY]at Z;refine aF ?_;refine al (an (.inr rfl) ?_);simp [E.g3,E.g4,c0,c1,c2,a1,b1,-aA,aW (n:=p.c.min+a.len),aW (n:=p.k*1440),aW (n:=p.k*1440+p.d.min),aW (n:=p.k*1440+p.d.min+b.len),X];refine al (an (.inr rfl) ?_);simp [E.g5,f2,c3,-aA,aW (n:=q-B),fl,aW (n:=(q-B) / 1440+1),aW (n:=(q-B) / 1440+1-l),e_];refine al (an (.inr rfl) ?_);simp [c4,c5,-aA,A];apply al;cases f with
 | false=>
  refine an (.inr rfl) ?_;simp;refine bw (by simp) ?_;refine az (cJ (W _ _ _ _ _ _ _ _ _ _ rfl K ⟨rfl,?_,?_,atY (au K),by show J.length≤(g.set 11 _).length;rw [aul];omega,fun i h1 h2=>?_⟩))
  ·exact m.cM fun i hi=>by rw [aft (by omega)]
  ·rw [aft (by omega)];exact U
  ·rw [aft (by omega),k2 i h2 (by omega)]
 | true=>
  obtain⟨J3,b_,h_,j4,N⟩:=adL m (fE a p e) (fF b p e);refine an (.inr rfl) ?_;simp [E.g3,E.g4,a3,b3,c1,c3,c6,c7,-aA,aW (n:=e+l),aW (n:=e+l+p.k),F,I];refine aq (by simp) ?_;refine an (.inr rfl) ?_;simp [E.g3,E.g4,E.g13,f9,a3,b3,c1,c3,c6,c7,-aA,aW (n:=e+l),aW (n:=e+l+p.k),Y,Z,C_,b_.eq];have a7:J3[11]?=aa (.lp 138 O [P.nat 47] gI gJ .busy ab 10):=by rw [N 11 (by omega) (by omega)];exact K
  have i5:J3[10]?=aa (.eZ ae):=by rw [N 10 (by omega) (by omega)];exact U
  refine az (cJ (W _ _ _ _ _ _ _ _ _ _ rfl a7 ⟨rfl,?_,?_,atY (au a7),by show J.length≤(J3.set 11 _).length;rw [aul];omega,fun i h1 h2=>?_⟩))
  ·exact h_.cM fun i hi=>by rw [aft (by omega)]
  ·rw [aft (by omega)];exact i5
  ·rw [aft (by omega),N i (by omega) (by omega),k2 i h2 (by omega)]
def PM(a b:aJ)(p:Pr)(x y:aI):Prop:=∃ e,0≤e∧ew p.xs e∧ew p.ys e∧x=fE a p e∧y=fF b p e
def fM(s:aJ)(x:aI):Prop:=∃ c ∈ s.cs,∃ d,0≤d∧ew c.ts d∧x=cQ s.len c.min d
theorem ajA{a b:aJ}(i:jQ a)(k:jQ b){g:Int}(f0:-2251799813685248≤g)(f1:g≤100000000000000){p:Pr}(I:oE a b p){e:Int}{f:Bool}(F:ie (fun e=>n0P a b g p≤e∧ew p.xs e∧ew p.ys e) e f)(B:f=ae→e≤1000001000000){S:aI→aI→Prop}{s:FS}(n:mB g S s) :
  mB g (fun x y=>S x y∨PM a b p x y) (E9 a b g p e f s):=by
 obtain⟨b9,b_⟩:=i.len;obtain⟨c_,d9⟩:=k.len;have r:=i.min I.ca;have w:=k.min I.db;have O:=I.lo;have N:=I.hi;unfold uA at O;unfold uu at N;have kb:-20≤p.k∧p.k≤20:=by omega
 have key:∀ m q,PM a b p m q→okB g m q→∃ d,n0P a b g p≤d∧0≤d∧ew p.xs d∧ew p.ys d∧m=fE a p d∧q=fF b p d:=by
  rintro m q ⟨d,h0,J,K,rfl,rfl⟩ ⟨-,-,L⟩;refine⟨d,?_,h0,J,K,rfl,rfl⟩;simp only [om,fE,fF,cQ]at L;unfold n0P abL;omega
 unfold E9;rcases F with⟨rfl,-,Q⟩ | ⟨rfl,⟨h0,J,K⟩,l⟩
 ·simp only [Bool.false_eq_true,if_false];refine n.none fun m q M H=>?_;obtain⟨d,U,-,W,Z,-⟩:=key m q M H;exact Q d ⟨U,W,Z⟩
 ·simp only [if_true];have a_:0≤n0P a b g p:=by unfold n0P;omega
  have B:=B rfl;refine n.step ⟨e,by omega,J,K,rfl,rfl⟩ fun m q M H=>?_;obtain⟨d,U,k0,W,Z,rfl,rfl⟩:=key m q M H;have a8:=l d ⟨U,W,Z⟩;obtain⟨-,-,L⟩:=H;obtain⟨v,j⟩:=aK (max 0 (-p.k));have o:0≤v∧v≤20:=by omega
  obtain⟨z,t⟩:=aK ((d-e)*1440);have A:0≤z∧(d≠e→0<z):=⟨by omega,fun h=>by omega⟩
  have c:(fE a p e).fr=(e+v)*1440+p.c.min∧(fE a p e).to=(e+v)*1440+p.c.min+a.len:=by unfold fE cQ;rw [←j];exact⟨rfl,rfl⟩
  have ya:(fF b p e).fr=(e+v+p.k)*1440+p.d.min∧(fF b p e).to=(e+v+p.k)*1440+p.d.min+b.len:=by unfold fF cQ;rw [←j];exact⟨rfl,rfl⟩
  have xb:(fE a p d).fr=(fE a p e).fr+z∧(fE a p d).to=(fE a p e).to+z:=by unfold fE cQ;simp only;rw [←j];omega
  have yb:(fF b p d).fr=(fF b p e).fr+z∧(fF b p d).to=(fF b p e).to+z:=by unfold fF cQ;simp only;rw [←j];omega
  have a7:g<(fE a p e).to∧g<(fF b p e).to:=by
   rw [c.2,ya.2];unfold n0P abL at h0;rw [←j]at h0;omega
  have E:(fE a p e).to≤2251799813685248∧(fF b p e).to≤2251799813685248:=by rw [c.2,ya.2];omega
  have u:d=e→fE a p d=fE a p e∧fF b p d=fF b p e:=fun h=>by subst h;exact⟨rfl,rfl⟩
  generalize fE a p e=X at *;generalize fF b p e=Y at *;generalize fE a p d=X' at *;generalize fF b p d=Y' at *;clear c ya h0 l;unfold om at L;refine⟨⟨E.1,E.2,?_⟩,?_⟩
  ·unfold om;omega
  ·by_cases F:d=e
   ·obtain⟨rfl,rfl⟩:=u F;unfold Cu aI.lt;omega
   ·have:=A.2 F;unfold Cu aI.lt om;omega
theorem aoc{a b:aJ}(L:jQ a)(M:jQ b){A:Int}{ps:List Pr}(m:∀ p ∈ ps,oE a b p)(l:∀ c ∈ a.cs,∀ d ∈ b.cs,∀ k,uA a.len b.len c d≤k→k≤uu a.len b.len c d→∃ p ∈ ps,p.c=c∧p.d=d∧p.k=k)(x y:aI)(H:okB A x y):(fM a x∧fM b y)↔∃ p ∈ ps,PM a b p x y:=by
 constructor
 ·rintro⟨⟨c,E,g,N,J,rfl⟩,⟨d,F,s,O,K,rfl⟩⟩;obtain⟨-,-,B⟩:=H;simp only [om,cQ]at B;obtain⟨p,q,rfl,rfl,I⟩:=l c E d F (s-g) (by unfold uA;omega) (by unfold uu;omega);have j:=m p q;refine⟨p,q,g-max 0 (-p.k),by omega,(j.xm _ (by omega)).2 (by rw [show g-max 0 (-p.k)+max 0 (-p.k)=g by omega];exact J),(j.ym _ (by omega)).2 (by rw [show g-max 0 (-p.k)+max 0 p.k=s by omega];exact K),?_,?_⟩
  ·unfold fE;rw [show g-max 0 (-p.k)+max 0 (-p.k)=g by omega]
  ·unfold fF;rw [show g-max 0 (-p.k)+max 0 (-p.k)+p.k=s by omega]
 ·rintro⟨p,q,e,u,v,z,rfl,rfl⟩;have j:=m p q;refine⟨⟨p.c,j.ca,e+max 0 (-p.k),by omega,(j.xm e u).1 v,rfl⟩,⟨p.d,j.db,e+max 0 (-p.k)+p.k,by omega,?_,rfl⟩⟩;have:=(j.ym e u).1 z;rw [show e+max 0 (-p.k)+p.k=e+max 0 p.k by omega];exact this
def FW(a b:aJ)(g:Int)(S:aI→aI→Prop)(d:List Nat)(J:aj):Prop:=(∃ s,FQ a b g s J∧mB g S s)∧fD d J∧∀ i ∈ d,10≤i∧i<J.length
theorem abR{t:T}{n:Nat}{v:V}(A:n ∉ [3,4,5,6,7,9,10,12,13]):FT (t.s n v)↔FT t:=by
 simp only [auc,auT,or_false,not_or]at A;obtain⟨q,s,u,x,y,z,j,l,m⟩:=A;constructor
 ·rintro⟨a,b,c,d,e,f,g,h,i⟩;refine⟨?_,?_,?_,?_,?_,?_,?_,?_,?_⟩
  ·simpa [q]using a
  ·simpa [s]using b
  ·simpa [u]using c
  ·simpa [x]using d
  ·simpa [y]using e
  ·simpa [z]using f
  ·simpa [j]using g
  ·simpa [l]using h
  ·simpa [m]using i
 ·rintro⟨a,b,c,d,e,f,g,h,i⟩;refine⟨?_,?_,?_,?_,?_,?_,?_,?_,?_⟩
  ·simpa [q]using a
  ·simpa [s]using b
  ·simpa [u]using c
  ·simpa [x]using d
  ·simpa [y]using e
  ·simpa [z]using f
  ·simpa [j]using g
  ·simpa [l]using h
  ·simpa [m]using i
theorem PH(a b:aJ)(S:jQ a)(U:jQ b)(m:Int)(f0:-2251799813685248≤m)(f1:m≤100000000000000) :
  ∃ s:FS,mB m (fun x y=>fM a x∧fM b y) s∧bo tab 138 [.a (a.row.map .f),.a (b.row.map .f),vi m]=Eq (.t [.a (s.X.row.map .f),.a (s.Y.row.map .f),vb s.found]):=by
 obtain⟨r,⟨s,M,rfl⟩,h⟩:∃ r,(∃ s:FS,mB m (fun x y=>fM a x∧fM b y) s∧r=.t [.a (s.X.row.map .f),.a (s.Y.row.map .f),vb s.found])∧bo tab 138 [.a (a.row.map .f),.a (b.row.map .f),vi m] r:=by
  refine zo asz rfl fun Q hQ=>?_;have Z:=(jw a S.sm).eq;rw [S.v]at Z;simp [aJ.row]at Z;have a7:=(jw b U.sm).eq;rw [U.v]at a7;simp [aJ.row]at a7;have i7:max m (-2251799813685248)=m:=by omega
  apply ai;simp [aJ.row];apply al;apply ai;simp [Z,a7,show¬ 2251799813685248<m by omega];refine bw (by simp) ?_;apply ai;simp [i7];apply ai;simp;apply ai;simp;apply ai;simp;obtain⟨v,F⟩:=aK ([.box (ns a) 0,.box (ns b) 0,.box [.f (fi m)] 0,.box [.f (fi 0),.f (fi 0),.f (fi 0)] 0,.box [.f (fi 0),.f (fi 0),.f (fi 0)] 0,.box [.f (fi 0),.f (fi 0),.f (fi 0)] 0,.box [.f (fi 0),.f (fi 0),.f (fi 0)] 0,.box [.f (fi 0)] 0,.box [.f (.bool ag)] 0,.box [C_] 0]:aj);have Y:FQ a b m ⟨0,ag,⟨0,0,0⟩,⟨0,0,0⟩⟩ v:=by rw [F];exact⟨rfl,rfl,rfl,rfl,rfl,⟨rfl,rfl,rfl,rfl,rfl⟩⟩
  have l0:v.length=10:=by rw [F];rfl
  unfold ns C_ at F;rw [←F];have la:∀(J:aj) (s:FS),FQ a b m s J→aV J (aa 3) (.c (.ptr 0 0 0))=aa (.a [.f (sl a.cg (aN a.cs)),.f (fi a.len),.f (sl a.xg (aH a.xs))])∧aV J ab (.c (.ptr 0 2 0))=aa (.c (.f (sl a.xg (aH a.xs)))):=fun J s h=>by refine⟨?_,?_⟩<;>simp [aV,aG,h.h0,ns,aT]
  have lb:∀(J:aj) (s:FS),FQ a b m s J→aV J (aa 3) (.c (.ptr 1 0 0))=aa (.a [.f (sl b.cg (aN b.cs)),.f (fi b.len),.f (sl b.xg (aH b.xs))])∧aV J ab (.c (.ptr 1 2 0))=aa (.c (.f (sl b.xg (aH b.xs)))):=fun J s h=>by refine⟨?_,?_⟩<;>simp [aV,aG,h.h1,ns,aT]
  have nZ:∀ H:aj,bA H (.f (sl a.xg (aH a.xs)))=aa a.xs.length:=fun H=>by simp
  have d_:∀ H:aj,bA H (.f (sl b.xg (aH b.xs)))=aa b.xs.length:=fun H=>by simp
  have e_:∀(t:T) (J:aj) (l:List Nat),FT t→FW a b m (fun x y=>fM a x∧fM b y) l J→WP tab 138 ab [.code Fv] ⟨t,l.map .gX,J⟩ Q:=by
   rintro t J l d ⟨⟨s,u,M⟩,b_,W⟩;have l9:=au u.h9;have lx:∀ J':aj,J'[5]?=J[5]?→aV J' (aa 3) (.c (.ptr 5 0 0))=aa (.a [.f (fi s.X.day),.f (fi s.X.fr),.f (fi s.X.to)]):=fun J' h=>by simp [aV,aG,h,u.tk.h5,aT]
   have ly:∀ J':aj,J'[6]?=J[6]?→aV J' (aa 3) (.c (.ptr 6 0 0))=aa (.a [.f (fi s.Y.day),.f (fi s.Y.fr),.f (fi s.Y.to)]):=fun J' h=>by simp [aV,aG,h,u.tk.h6,aT]
   have lf:∀ J':aj,J'[8]?=J[8]?→aV J' ab (.c (.ptr 8 0 0))=aa (vb s.found):=fun J' h=>by simp [aV,aG,h,u.tk.h8]
   obtain⟨B,I⟩:=aK (J.set 3 (.box [.f (fi s.X.day),.f (fi s.X.fr),.f (fi s.X.to)] 0));have s1:dh J (.ptr 3 0 0) [.f (fi s.X.day),.f (fi s.X.fr),.f (fi s.X.to)]=aa B:=by rw [I];simp [dh,u.h3,bp]
   have k1:∀ i:Nat,i≠3→B[i]?=J[i]?:=fun i hi=>by rw [I,aft (Ne.symm hi)]
   have n1:B.length=J.length:=by rw [I];simp
   obtain⟨E,K⟩:=aK (B.set 4 (.box [.f (fi s.Y.day),.f (fi s.Y.fr),.f (fi s.Y.to)] 0));have s2:dh B (.ptr 4 0 0) [.f (fi s.Y.day),.f (fi s.Y.fr),.f (fi s.Y.to)]=aa E:=by rw [K];simp [dh,k1 4 (by omega),u.h4,bp]
   have k2:∀ i:Nat,i≠4→E[i]?=B[i]?:=fun i hi=>by rw [K,aft (Ne.symm hi)]
   have n2:E.length=J.length:=by rw [K];simp [n1]
   refine al (fe (.inl rfl) ?_ ?_)
   case refine_2=>
    intro cc h_;have g_:cc=(1,4)∨cc=(2,4)∨cc=(2,6):=by simpa using h_
    rcases g_ with rfl | rfl | rfl
    ·refine⟨by decide,_,rfl,.inl ⟨by decide,?_⟩⟩;simp [d.g6,d.g7,d.g9,d.g10,d.g12,lx J rfl,ly J rfl,lf J rfl,ly B (k1 6 (by omega)),s1,-aA,-bl,gl,V.beq,C.beq,FC.beq]
    ·refine⟨by decide,_,rfl,.inl ⟨by decide,?_⟩⟩;simp [d.g6,d.g7,d.g9,d.g10,d.g12,lx J rfl,ly J rfl,lf J rfl,lf B (k1 8 (by omega)),s1,-aA,-bl,gl,V.beq,C.beq,FC.beq]
    ·refine⟨by decide,_,rfl,.inl ⟨by decide,?_⟩⟩;simp [d.g6,d.g7,d.g9,d.g10,d.g12,lx J rfl,ly J rfl,lf J rfl,lf E ((k2 8 (by omega)).trans (k1 8 (by omega))),s1,s2,-aA,-bl,gl,V.beq,C.beq,FC.beq]
   simp [d.g6,d.g7,d.g9,d.g10,d.g12,lx J rfl,ly J rfl,lf J rfl,s1,s2,-aA,-bl];have j4:(3:Nat) ∉ l:=fun h=>by have:=(W 3 h).1;omega
   have j5:(4:Nat) ∉ l:=fun h=>by have:=(W 4 h).1;omega
   have e3:(nb l E)[3]?=aa (.box [.f (fi s.X.day),.f (fi s.X.fr),.f (fi s.X.to)] 0):=by rw [iM j4,k2 3 (by omega),I];exact atY (by omega)
   have e4:(nb l E)[4]?=aa (.box [.f (fi s.Y.day),.f (fi s.Y.fr),.f (fi s.Y.to)] 0):=by rw [iM j5,K];exact atY (by omega)
   refine aC (hQ _ _ _ ⟨s,M,rfl⟩ ⟨l,rfl,⟨b_.nd,fun z hz=>?_⟩,.t [.a (s.X.row.map .f),.a (s.Y.row.map .f),vb s.found],?_,by simp [iZ,cD,bj,deep,ek,aI.row]⟩)
   ·have:=(W z hz).1;show E[z]?=_;rw [k2 z (by omega),k1 z (by omega)];exact b_.on z hz
   ·simp [Km.results,cN,bj,d.g6,d.g7,aV,aG,e3,e4,aT,aI.row]
  have a_:∀(t:T) (J:aj) (l:List Nat),FT t→FW a b m (fun x y=>fM a x∧fM b y) l J→WP tab 138 ab [.code Fu] ⟨t,l.map .gX,J⟩ Q:=by
   intro t J l d L;have O:=L;obtain⟨⟨s,u,-⟩,-⟩:=O;apply al;apply ai;simp [d.g4,(lb J s u).2,d_,U.xs,-aA];refine Al 0 (fun _ t ds J=>FT t∧∃ l,ds=l.map .gX∧FW a b m (fun x y=>fM a x∧fM b y) l J) (by omega) (by decide) (by decide) (by simp) (by simp)
    ⟨by simp [abR,d],l,rfl,L⟩ (fun j _ _ _ hj=>by omega) ?_
   rintro t ds J ⟨d,l,rfl,L⟩ - -;exact e_ _ J l (by simp [abR,d]) L
  have a8:∀(t:T) (J:aj) (l:List Nat),FT t→FW a b m (fun x y=>fM a x∧fM b y) l J→WP tab 138 ab [.code zF] ⟨t,l.map .gX,J⟩ Q:=by
   intro t J l d L;have O:=L;obtain⟨⟨s,u,-⟩,-⟩:=O;apply al;apply ai;simp [d.g3,(la J s u).2,nZ,S.xs,-aA];refine Al 0 (fun _ t ds J=>FT t∧∃ l,ds=l.map .gX∧FW a b m (fun x y=>fM a x∧fM b y) l J) (by omega) (by decide) (by decide) (by simp) (by simp)
    ⟨by simp [abR,d],l,rfl,L⟩ (fun j _ _ _ hj=>by omega) ?_
   rintro t ds J ⟨d,l,rfl,L⟩ - -;exact a_ _ J l (by simp [abR,d]) L
  suffices start:∀ t:T,FT t→WP tab 138 ab [.code Fs] ⟨t,[],v⟩ Q by exact start _ ⟨by simp,by simp,by simp,by simp,by simp,by simp,by simp,by simp,by simp⟩
  intro t d;have d9:=yG a b;simp only [aJ.row,aug,aus]at d9;apply al;apply ai;simp [d.g3,d.g4,(la v _ Y).1,(lb v _ Y).1,-aA,d9];refine aF ?_
  suffices go:∀ N:T,FT N→N.g 46=.c (.f (.fn 104 [.fp a.row 0,.fp b.row 0]))→WP tab 138 ab [.code Ft,.inBlock 0,.code zF] ⟨N,[],v⟩ Q by exact go _ (by simp [abR,d]) (by simp [aJ.row])
  clear d t;intro N d f_;obtain⟨HR,A⟩:=aK (v++[.eZ ae,.lp 138 N [P.nat 47] gI gJ .ready ab 10]:aj);have lR:HR.length=12:=by rw [A,at6,l0];rfl
  have kR:∀ i:Nat,i<10→HR[i]?=v[i]?:=fun i hi=>by rw [A,anc (by omega)]
  have rd:HR[10]?=aa (.eZ ae):=by rw [A,atZ (by omega),l0];rfl
  have rl:HR[11]?=aa (.lp 138 N [P.nat 47] gI gJ .ready ab 10):=by rw [A,atZ (by omega),l0];rfl
  obtain⟨H2,he,ps,⟨s,u,M,e1,e2,e3⟩,i8,b9⟩:=PJ (bb:=11) (H:=HR) a b S U
   (fun ps J'=>∃ s,FQ a b m s J'∧mB m (fun x y=>∃ p ∈ ps,PM a b p x y) s∧J'[10]?=aa (.eZ ae)∧J'[11]?=aa (.lp 138 N [P.nat 47] gI gJ .ready ab 10)∧12≤J'.length)
   ⟨_,Y.cM kR,.inl ⟨rfl,rfl,rfl,fun x y ⟨p,hp,_⟩=>by simp at hp⟩,rd,rl,by omega⟩
   (fun ps B E ⟨s,u,M,e1,e2,e3⟩ X hl=>⟨s,u.cM fun i hi=>X i (by omega),M,by rw [X 10 (by omega)];exact e1,by rw [X 11 (by omega)];exact e2,by omega⟩)
   (fun ps p B ⟨s,u,M,e1,e2,e3⟩ hl hp=>by
    obtain⟨e,f,c_,i5,r,E,i6,rfl,i_,k1,k2,k3,k4⟩:=EK a b S U f0 f1 d hp u e1 e2;refine⟨E,i6,⟨_,i_,(ajA S U f0 f1 hp c_ i5 M).iff fun x y _=>?_,k1,k2,by omega⟩,k3,fun i h1 h2=>k4 i (by omega) h2⟩;constructor
    ·rintro⟨q,i9,h⟩;rcases auh.1 i9 with h' | h'
     ·exact .inl ⟨q,h',h⟩
     ·rw [aua]at h';rw [h']at h;exact .inr h
    ·rintro(⟨q,h',h⟩ | h)
     ·exact⟨q,List.mem_append_left _ h',h⟩
     ·exact⟨p,by simp,h⟩)
  rw [A]at he;have i4:Ev tab (.fn 104) [.c (.yl (v.length+1)),.c (.f (.fp a.row 0)),.c (.f (.fp b.row 0))] (v++[.eZ ae,.lp 138 N [P.nat 47] gI gJ .ready ab v.length]) (.t []) H2:=by rw [l0];exact he
  refine ju (g:=104) (by rw [DF,f_];simp [bZ]) i4 ?_;rw [l0];refine lk e2 (by decide) (az ?_);refine a8 N _ [10] d ⟨⟨s,u.cM fun i hi=>by rw [aft (by omega)],M.iff fun x y hk=>aoc S U i8 b9 x y hk⟩,⟨by simp,fun i hi=>?_⟩,fun i hi=>?_⟩
  ·rw [aua]at hi;rw [hi,aft (by omega)];exact e1
  ·rw [aua]at hi;rw [hi,aul];omega
 exact⟨s,M,h.eq⟩
def sH(n:Int):Int:=ah .i64 n
def Pf(af:Int)(s:av)(X Y:aI)(f:Bool):List Int:=if f then [15,s.meet,X.day,sH X.fr,sH (X.to-af),Y.day,sH Y.fr,sH (Y.to-af)]else [15,s.meet,0,0,0,0,0,0]
def fI(af:Int)(x:av)(mt:av→Bool)(fx fy:av→aI)(fd:av→Bool):List av→List Int
 | []=>[0,0,0,0,0,0,0,0]| s::r=>if s.meet=x.meet∨mt s=ag then fI af x mt fx fy fd r else Pf af s (fx s) (fy s) (fd s)
theorem FU(af:Int)(s:av)(X Y:aI)(f:Bool):(Pf af s X Y f).length=8:=by unfold Pf;split<;>rfl
theorem oK(af:Int)(x:av)(mt:av→Bool)(fx fy:av→aI)(fd:av→Bool):∀ l,(fI af x mt fx fy fd l).length=8
 | []=>rfl| s::r=>by unfold fI;split;exact oK af x mt fx fy fd r;exact FU ..
theorem oJ{af:Int}{x:av}{mt:av→Bool}{fx fy:av→aI}{fd:av→Bool}:∀ {d l:List av},(∀ s ∈ d,s.meet=x.meet∨mt s=ag)→fI af x mt fx fy fd (d++l)=fI af x mt fx fy fd l
 | [],_,_=>rfl
 | s::r,l,h=>by
  rw [auX,fI,bg (h s at4)];exact oJ fun y b=>h y (at5 _ b)
structure ClQ(H:aj)(cd:List FC)(own:aJ)(J:aj):Prop where
 k:Kp H J
 h1:J[H.length]?=aa (.box [.f (.fp cd 0)] 0)
 h2:J[H.length+1]?=aa (.box (([0,0,0,0,0,0,0,0]:List Int).map fun n=>.f (fi n)) 0)
 h3:J[H.length+2]?=aa (.box [.f (fi 0)] 0)
 h4:J[H.length+3]?=aa (.box (own.row.map .f) 0)
 h5:J[H.length+4]?=aa (.box [.f (.bool ae)] 0)
 cl:fD [H.length+5] J
theorem ClQ.cM{H:aj}{j:List FC}{g:aJ}{J J':aj}(h:ClQ H j g J)(m:J.length≤J'.length)(d:∀ i:Nat,i<J.length→i≠H.length+6→J'[i]?=J[i]?):ClQ H j g J':=by
 have q:=au (h.cl.on _ at4);have s:=h.k.1;refine⟨⟨by omega,fun b l=>by rw [d b (by omega) (by omega)];exact h.k.2 b l⟩,?_,?_,?_,?_,?_,⟨h.cl.nd,fun i hi=>?_⟩⟩
 ·rw [d _ (by omega) (by omega)];exact h.h1
 ·rw [d _ (by omega) (by omega)];exact h.h2
 ·rw [d _ (by omega) (by omega)];exact h.h3
 ·rw [d _ (by omega) (by omega)];exact h.h4
 ·rw [d _ (by omega) (by omega)];exact h.h5
 ·rw [aua.1 hi,d _ (by omega) (by omega)];exact h.cl.on _ at4
structure ClT(N:Nat)(t:T):Prop where
 g1:t.g 1=.c (.ptr N 0 0)
 g2:t.g 2=.c (.ptr (N+1) 0 0)
 g3:t.g 3=.c (.ptr (N+2) 0 0)
 g4:t.g 4=.c (.ptr (N+3) 0 0)
 g5:t.g 5=.c (.ptr (N+4) 0 0)
theorem sF{J:aj}{b:Nat}{o:aJ}(h:J[b]?=aa (.box (o.row.map .f) 0)):aV J (aa 3) (.c (.ptr b 0 0))=aa (.a (o.row.map .f)):=by
 have:(o.row.map C.f).length=3:=rfl;simp [aV,aG,h,aT,this,aJ.row]
theorem BK(af z:Int)(sd:FC)(x:av)(hx:OY x)(s:av)(hs:OY s)(A o:aJ)
  (ho:bo tab 137 [.c (.f (fR af z)),.a (s.row.map .f)]=Eq (.t [.a (o.row.map .f),vb ae]))
  (m:Bool) (hm:bo tab 25 [.a (A.row.map .f),.a (o.row.map .f)]=Eq (.t [vb m,vi 0]))
  (X Y:aI) (fd:Bool) (hf:bo tab 138 [.a (A.row.map .f),.a (o.row.map .f),vi (-2251799813685248)]=Eq (.t [.a (X.row.map .f),.a (Y.row.map .f),vb fd]))
  {H J:aj} {tm:T} (l:ClT H.length tm) (hq:ClQ H ([fR af z,sd]++x.row) A J)
  (h6:J[H.length+6]?=aa (.lp 79 tm [P.nat 41] e7 ej .ready ab (H.length+5))) :
  ∃(r:Bool) (J':aj),Ev tab (.yield (H.length+6)) [.a (s.row.map .f)] J (vb r) J'∧(if r then(s.meet=x.meet∨m=ag)∧ClQ H ([fR af z,sd]++x.row) A J'∧J'[H.length+6]?=J[H.length+6]? else
   ¬ (s.meet=x.meet∨m=ag)∧Kp H J'∧J'[H.length+1]?=aa (.box ((Pf af s X Y fd).map fun n=>.f (fi n)) 0)∧J'[H.length+2]?=aa (.box [.f (fi 0)] 0)∧fD [H.length+5] J' ∧
    J'[H.length+6]?=aa (.lp 79 tm [P.nat 41] e7 ej .done (aa .ret) (H.length+5))):=by
 obtain⟨N,hN⟩:=aK (H.length);have y:=uF af z sd x hx.r0 hx.r1;have p_:=nk af z hs.r0 hs.r1;have Z:=fun H:aj=>bt (H:=H) (g:=.fs) (rows:=rows (ct af z)) (sz:=15) (k:=.i64) (i:=s.room) hs.r0 (by simp [ct];have:=hs.r1;omega);have i5:=fun H:aj=>bL (H:=H) (gA (ct af z)) (j:=s.room.toNat) (row:=(cf af z s.room).row) (by rw [rows,auM,p_];rfl);have QG:=zt af z x.room X;have e_:=zt af z s.room Y;obtain⟨cd,i4⟩:=aK ([fR af z,sd]++x.row);have l0:∀ K:aj,aV K ab (.c (.f (.fp cd 0)))=aa (.c (.f (fR af z))):=fun K=>by rw [i4];rfl
 have l2:∀ K:aj,aV K ab (.c (.f (.fp cd 2)))=aa (vi x.meet):=fun K=>by rw [i4];rfl
 simp only [eg]at y;rw [←i4]at y hq ⊢;obtain⟨rm,s9⟩:=aK (fR af z);change ∀ H:aj,bG H 15 ab (.c (.f (fR af z))) (vi s.room)=_ at Z;change ∀ H:aj,aV H (aa 15) (.c (.f (.fp (rows (ct af z)).flatten _)))=_ at i5;rw [←s9]at l0 Z ho;obtain⟨rx,t7⟩:=aK ((cf af z x.room).row);obtain⟨rs,s_⟩:=aK ((cf af z s.room).row);rw [←t7]at y QG;rw [←s_]at i5 e_;obtain⟨row,a8⟩:=aK (s.row);have s8:row.length=7:=by rw [a8];rfl
 rw [←a8]at ho ⊢;obtain⟨ow,j5⟩:=aK (A.row);obtain⟨oo,i7⟩:=aK (o.row);have s7:oo.length=3:=by rw [i7];rfl
 obtain⟨xx,j9⟩:=aK (X.row);obtain⟨yy,k_⟩:=aK (Y.row);have j8:xx.length=3:=by rw [j9];rfl
 have j_:yy.length=3:=by rw [k_];rfl
 rw [←i7]at ho hm hf;rw [←j5]at hm hf;rw [←j9]at hf QG;rw [←k_]at hf e_;obtain⟨LP,o_⟩:∃ LP:ez→Option aE→bz,LP=fun st pd=>.lp 79 tm [P.nat 41] e7 ej st pd (N+5):=⟨_,rfl⟩
 rw [←hN]at h6 l ⊢;have cond:∃ q:Bool,(q=ae↔(s.meet=x.meet∨m=ag)):=⟨decide (s.meet=x.meet∨m=ag),by simp⟩
 obtain⟨q,a7⟩:=cond;refine⟨q,?_⟩;obtain⟨r,J',r_,rfl,h⟩:∃ r J',Ev tab (.yield (N+6)) [.a (row.map .f)] J r J'∧(r=vb q∧(if q then ClQ H cd A J'∧J'[N+6]?=J[N+6]? else
   Kp H J'∧J'[N+1]?=aa (.box ((Pf af s X Y fd).map fun n=>.f (fi n)) 0)∧J'[N+2]?=aa (.box [.f (fi 0)] 0)∧fD [N+5] J' ∧
    J'[N+6]?=aa (.lp 79 tm [P.nat 41] e7 ej .done (aa .ret) (N+5)))):=by
  have n_:=h6;refine gu (tab:=tab) (b:=N+6) (args:=[.a (row.map .f)]) (H:=J) h6 rfl fun Q' j4=>?_;obtain⟨b6,h_⟩:=aK (J.length);have l6:=au h6;refine an (.inr rfl) ?_;simp [s8];rw [←h_];obtain⟨J1,a_⟩:=aK (J++[bz.box (row.map .f) 0]);rw [←a_];have k1:∀ i:Nat,i<J.length→J1[i]?=J[i]?:=fun i hi=>by rw [a_,anc hi]
  have d1:J1[b6]?=aa (.box (row.map .f) 0):=by rw [a_,h_];simp
  have n1:J1.length=b6+1:=by rw [a_,h_];simp
  have e6:=(k1 _ l6).trans h6;refine nJ e6 ?_;obtain⟨v,F⟩:=aK (J1.set (N+6) (LP .busy ab));have n2:v.length=b6+1:=by rw [F,aul];exact n1
  have k2:∀ i:Nat,i<J.length→i≠N+6→v[i]?=J[i]?:=fun i hi i6=>by rw [F,aft (Ne.symm i6),k1 i hi]
  have q2:ClQ H cd A v:=hq.cM (by omega) fun i hi i6=>k2 i hi (by omega);have d2:v[b6]?=aa (.box (row.map .f) 0):=by rw [F,aft (by omega)];exact d1
  have f6:v[N+6]?=aa (LP .busy ab):=by rw [F];exact atY (au e6)
  rw [o_]at F f6;rw [←F];have f_:∀(t:T) (K:aj),q=ae→v.length≤K.length→(∀ i:Nat,i<v.length→K[i]?=v[i]?)→Q' ab ⟨t,[],K⟩:=by
   intro t K j7 hl I;have p6:K[N+6]?=aa (.lp 79 tm [P.nat 41] e7 ej .busy ab (N+5)):=by rw [I _ (by omega)];exact f6
   refine j4 _ _ _ _ _ _ _ _ _ _ rfl p6 ⟨by rw [j7];rfl,?_⟩;rw [bg j7];have n:K.length≥b6+1:=by omega
   refine⟨hq.cM (by show J.length≤(K.set _ _).length;rw [aul];omega) fun i hi i6=>?_,?_⟩
   ·rw [aft (by omega),I i (by omega),k2 i hi (by omega)]
   ·rw [atY (au p6),n_];rfl
  have lc:∀ K:aj,v.length≤K.length→(∀ i:Nat,i<v.length→K[i]?=v[i]?)→aV K ab (.c (.ptr N 0 0))=aa (.c (.f (.fp cd 0)))∧aV K ab (.c (.ptr (N+4) 0 0))=aa (vb ae)∧aV K (aa 3) (.c (.ptr (N+3) 0 0))=aa (.a (ow.map .f))∧aV K (aa 7) (.c (.ptr b6 0 0))=aa (.a (row.map .f))∧aV K ab (.c (.ptr b6 0 0))=aa (vi s.meet)∧aV K ab (.c (.ptr b6 1 0))=aa (vi s.room):=by
   intro K hl I;have y1:=q2.h1;have y4:=q2.h4;have y5:=q2.h5;rw [←hN]at y1 y4 y5;have z1:=(I _ (au y1)).trans y1;have z4:=(I _ (au y4)).trans y4;have z5:=(I _ (au y5)).trans y5;have z6:=(I _ (au d2)).trans d2;rw [j5];rw [a8]at z6 ⊢;exact⟨by simp [aV,aG,z1],by simp [aV,aG,z5],sF z4,by simp [aV,aG,z6,aT,av.row],by simp [aV,aG,z6,av.row],by simp [aV,aG,z6,av.row]⟩
  obtain⟨a1,a2,a3,a4,a5,a6⟩:=lc v (at3 _) fun _ _=>rfl;refine aF ?_;apply al;refine al (an (.inr rfl) ?_);simp [l.g1,a1,a5,l2,-aA];by_cases d9:s.meet=x.meet
  ·rw [decide_eq_true d9];refine aq (by simp) (bJ (k':=[]) (by simp [Km.exitTo]) ?_);exact cJ (f_ _ _ (a7.2 (.inl d9)) (at3 _) (fun _ _=>rfl))
  rw [decide_eq_false d9];refine bw (by simp) ?_;apply al;refine an (.inr rfl) ?_;simp [l.g1,a1,a4,l0,ho,s7,-aA];obtain⟨L,b9⟩:=aK (v++[bz.box (oo.map .f) 0]);rw [←b9];have k3:∀ i:Nat,i<v.length→L[i]?=v[i]?:=fun i hi=>by rw [b9,anc hi]
  have n3:L.length=v.length+1:=by rw [b9];simp
  have d7:L[v.length]?=aa (.box (oo.map .f) 0):=by rw [b9];simp
  obtain⟨b7,r5⟩:=aK (v.length);rw [←r5]at d7 n3 ⊢;have m7:∀ K:aj,K[b7]?=L[b7]?→aV K (aa 3) (.c (.ptr b7 0 0))=aa (.a (oo.map .f)):=fun K h=>by
   rw [i7]at d7 ⊢;exact sF (h.trans d7)
  obtain⟨a1,a2,a3,a4,a5,a6⟩:=lc L (by omega) k3;apply al;refine al (an (.inr rfl) ?_);simp [l.g5,a2,-aA];refine bw (by simp) ?_;refine al (an (.inr rfl) ?_);simp [l.g4,a3,m7 L rfl,hm,-aA];apply al;refine al (an (.inr rfl) ?_);simp;refine bw (by simp) ?_;apply al;refine al (an (.inr rfl) ?_);simp;cases m with
  | false=>
   refine aq (by simp) (bJ (k':=[]) (by simp [Km.exitTo]) ?_);exact cJ (f_ _ _ (a7.2 (.inr rfl)) (by omega) k3)
  | true=>
   have j6:q=ag:=by
    cases q with
    | false=>rfl
    | true=>
     rcases a7.1 rfl with h | h
     ·exact absurd h d9
     ·cases h
   refine bw (by simp) ?_;obtain⟨J4,O⟩:=aK (L++[bz.box (([15,s.meet,0,0,0,0,0,0]:List Int).map fun n=>.f (fi n)) 0]);have k4:∀ i:Nat,i<L.length→J4[i]?=L[i]?:=fun i hi=>by rw [O,anc hi]
   have n4:J4.length=L.length+1:=by rw [O];simp
   have i9:J4[L.length]?=aa (.box (([15,s.meet,0,0,0,0,0,0]:List Int).map fun n=>.f (fi n)) 0):=by rw [O];simp
   obtain⟨d,g_⟩:=aK (L.length);simp only [aug,aus]at O;apply al;refine an (.inr rfl) ?_;simp [a5,-aA];rw [←O,←g_];rw [←g_]at i9 n4;obtain⟨c1,c2,c3,c4,c5,c6⟩:=lc J4 (by omega) fun i hi=>(k4 i (by omega)).trans (k3 i hi);obtain⟨B,Q⟩:=aK (J4++[bz.box (xx.map .f) 0,bz.box (yy.map .f) 0]);have k5:∀ i:Nat,i<J4.length→B[i]?=J4[i]?:=fun i hi=>by rw [Q,anc hi]
   have n5:B.length=d+3:=by rw [Q,at6,n4];rfl
   have m4:B[d+1]?=aa (.box (xx.map .f) 0):=by rw [Q,atZ (by omega),n4];simp
   have m9:B[d+2]?=aa (.box (yy.map .f) 0):=by rw [Q,atZ (by omega),n4];simp
   refine al (al ?_);refine an (.inr rfl) ?_;simp [l.g4,c3,m7 J4 (k4 _ (by omega)),hf,j8,j_,-aA];rw [n4,←Q];clear hm ho hf c1 c2 c3 c4 c5 c6 a1 a2 a3 a4 a5 a6
   suffices go:∀ u:T,ClT N u→u.g 6=.c (.ptr b6 0 0)→u.g 11=.c (.ptr d 0 0)→u.g 12=.c (.ptr (d+1) 0 0)→u.g 13=.c (.ptr (d+1+1) 0 0)→u.g 14=vb fd →
     WP tab 79 (aa (N+6)) [.code xY,.code qW,.inBlock 1] ⟨u,[],B⟩ Q' by
    exact go _ ⟨by simp [l.g1],by simp [l.g2],by simp [l.g3],by simp [l.g4],by simp [l.g5]⟩ (by simp) (by simp) (by simp) (by simp) (by simp)
   clear l;intro u l g6 M m_ n8 n9;have i8:∀ i:Nat,i<v.length→B[i]?=v[i]?:=fun i hi=>(k5 i (by omega)).trans ((k4 i (by omega)).trans (k3 i hi));have E:=(k5 d (by omega)).trans i9;have y2:=q2.h2;have y3:=q2.h3;rw [←hN]at y2 y3;have i_:∀(u:T) (K:aj) (zs:List Int),ClT N u→u.g 11=.c (.ptr d 0 0)→zs.length=8→zs=Pf af s X Y fd→B.length≤K.length→(∀ i:Nat,i<v.length→K[i]?=v[i]?)→K[d]?=aa (.box (zs.map fun n=>.f (fi n)) 0) →
     WP tab 79 (aa (N+6)) [.code qW,.inBlock 1] ⟨u,[],K⟩ Q':=by
    intro u K zs l M hz t8 hl I hb;have l8:aV K (aa 8) (.c (.ptr d 0 0))=aa (.a (zs.map fun n=>.f (fi n))):=by
     have:(zs.map fun n=>C.f (fi n)).length=8:=by simpa using hz
     simp [aV,aG,hb,aT,hz,at8]
    have z2:=(I _ (au y2)).trans y2;have z3:=(I _ (au y3)).trans y3;obtain⟨K1,S⟩:=aK (K.set (N+1) (.box (zs.map fun n=>.f (fi n)) 0));have s1:dh K (.ptr (N+1) 0 0) (zs.map fun n=>.f (fi n))=aa K1:=by
     rw [S]
     match zs,hz with
     | [p0,p1,p2,p3,p4,p5,p6,p7],_=>simp [dh,z2,bp]
    have l_:K1[N+2]?=aa (.box [.f (fi 0)] 0):=by rw [S,aft (by omega)];exact z3
    obtain⟨K2,U⟩:=aK (K1.set (N+2) (.box [.f (fi 0)] 0));have s2:dh K1 (.ptr (N+2) 0 0) [.f (fi 0)]=aa K2:=by rw [U];simp [dh,l_,bp]
    have kK:∀ i:Nat,i≠N+1→i≠N+2→K2[i]?=K[i]?:=fun i h1 h2=>by rw [U,aft (Ne.symm h2),S,aft (Ne.symm h1)]
    have kl:K2.length=K.length:=by rw [U,S];simp
    have p6:K2[N+6]?=aa (.lp 79 tm [P.nat 41] e7 ej .busy ab (N+5)):=by rw [kK _ (by omega) (by omega),I _ (by omega)];exact f6
    refine al (an (.inr rfl) ?_);simp [M,l.g2,l.g3,l8,hz,s1,s2,-aA,-bl];refine aC (j4 _ _ _ _ _ _ _ _ _ _ rfl p6 ⟨by rw [j6];rfl,?_⟩);rw [j6,aY (by simp)];have W:=q2.cl.on _ at4;rw [←hN]at W;refine⟨⟨?_,fun b q_=>?_⟩,?_,?_,⟨by simp,fun i hi=>?_⟩,atY (au p6)⟩
    ·show H.length≤(K2.set _ _).length;rw [aul,kl];have:=q2.k.1;omega
    ·show(K2.set _ _)[b]?=_;rw [aft (by omega),kK _ (by omega) (by omega),I _ (by have:=q2.k.1;omega)];exact q2.k.2 b q_
    ·show(K2.set _ _)[N+1]?=_;rw [aft (by omega),U,aft (by omega),S,←t8];exact atY (au z2)
    ·show(K2.set _ _)[N+2]?=_;rw [aft (by omega),U];exact atY (au l_)
    ·show(K2.set _ _)[i]?=_;rw [aua.1 hi,aft (by omega),kK _ (by omega) (by omega),I _ (au W)];exact W
   refine al (an (.inr rfl) ?_);simp [n9];cases fd with
   | false=>
    refine bw (by simp) ?_;exact i_ _ B [15,s.meet,0,0,0,0,0,0] ⟨by simp [l.g1],by simp [l.g2],by simp [l.g3],by simp [l.g4],by simp [l.g5]⟩ (by simp [M]) rfl rfl (at3 _) i8 E
   | true=>
    refine aq (by simp) ?_;obtain⟨c1,c2,c3,c4,c5,c6⟩:=lc B (by omega) i8;have t9:aV B (aa 3) (.c (.ptr (d+1) 0 0))=aa (.a (xx.map .f)):=by simp [aV,aG,m4,aT,j8,at8]
    have t_:aV B (aa 3) (.c (.ptr (d+1+1) 0 0))=aa (.a (yy.map .f)):=by simp [aV,aG,m9,aT,j_,at8]
    simp only [aug,aus]at E;obtain⟨J6,b_⟩:=aK (B.set d (.box [.f (fi 15),.f (fi s.meet),.f (fi X.day),.f (fi (sH X.fr)),.f (fi (sH (X.to-af))),.f (fi 0),.f (fi 0),.f (fi 0)] 0));have s1:dh B (.ptr d 2 0) [.f (fi X.day),.f (fi (sH X.fr)),.f (fi (sH (X.to-af)))]=aa J6:=by rw [b_];simp [dh,E,bp]
    have d6:J6[d]?=aa (.box [.f (fi 15),.f (fi s.meet),.f (fi X.day),.f (fi (sH X.fr)),.f (fi (sH (X.to-af))),.f (fi 0),.f (fi 0),.f (fi 0)] 0):=by rw [b_];exact atY (au E)
    obtain⟨J7,c_⟩:=aK (J6.set d (.box ((Pf af s X Y ae).map fun n=>.f (fi n)) 0));have s2:dh J6 (.ptr d 5 0) [.f (fi Y.day),.f (fi (sH Y.fr)),.f (fi (sH (Y.to-af)))]=aa J7:=by rw [c_];simp [dh,d6,bp,Pf]
    have k7:∀ i:Nat,i≠d→J7[i]?=B[i]?:=fun i h=>by rw [c_,aft (Ne.symm h),b_,aft (Ne.symm h)]
    have u5:∀ K:aj,K[N]?=v[N]?→aV K ab (.c (.ptr N 0 0))=aa (.c (.f (.fp cd 0))):=fun K hK=>by
     have y1:=q2.h1;rw [←hN]at y1;simp [aV,aG,hK.trans y1]
    have hw:IntKind.i64.wrap=sH:=rfl;rw [hw]at QG e_;refine an (.inr rfl) ?_;simp [l.g1,g6,M,m_,n8,c1,c4,c6,l0,y,t9,t_,QG,e_,Z,i5,s1,s2,-aA,-bl];refine i_ _ J7 _ ⟨by simp [l.g1],by simp [l.g2],by simp [l.g3],by simp [l.g4],by simp [l.g5]⟩ (by simp [M]) (FU ..) rfl (by rw [c_,b_];simp) (fun i hi=>by rw [k7 i (by omega)];exact i8 i hi) (by rw [c_];exact atY (au d6))
 refine⟨J',r_,?_⟩;by_cases d_:q=ae
 ·rw [bg d_]at h ⊢;exact⟨a7.1 d_,h⟩
 ·rw [aY d_]at h ⊢;exact⟨fun h'=>d_ (a7.2 h'),h⟩
theorem abv(af I:Int)(g:Tg)(ss:List av)(hl:ss.length≤1000)(x:av)(hx:OY x)(a7:∀ s ∈ ss,OY s)(Y:av→aJ)
  (ho:∀ s,s=x∨s ∈ ss→bo tab 137 [.c (.f (fR af I)),.a (s.row.map .f)]=Eq (.t [.a ((Y s).row.map .f),vb ae]))
  (mt:av→Bool) (hm:∀ s ∈ ss,bo tab 25 [.a ((Y x).row.map .f),.a ((Y s).row.map .f)]=Eq (.t [vb (mt s),vi 0]))
  (fx fy:av→aI) (fd:av→Bool) (hf:∀ s ∈ ss,bo tab 138 [.a ((Y x).row.map .f),.a ((Y s).row.map .f),vi (-2251799813685248)]=Eq (.t [.a ((fx s).row.map .f),.a ((fy s).row.map .f),vb (fd s)])) (H:aj) :
  ∃ H',Ev tab (.fn 79) [.c (.f (eg (fR af I) (sl g (ak ss)) x))] H (.t [qN (fI af x mt fx fy fd (ss.filter fun s=>GI af I s.room x.room)),vi 0]) H'∧Kp H H':=by
 obtain⟨sd,e_⟩:=aK (sl g (ak ss));have f_:=EX (fR af I) sd x.room;obtain⟨O,z⟩:=aK ([fR af I,sd]++x.row);obtain⟨N,m⟩:=aK (H.length);have l0:∀ K:aj,aV K ab (.c (.f (.fp O 0)))=aa (.c (.f (fR af I))):=fun K=>by rw [z];rfl
 have l1:∀ K:aj,aV K ab (.c (.f (.fp O 1)))=aa (.c (.f sd)):=fun K=>by rw [z];rfl
 have l3:∀ K:aj,aV K ab (.c (.f (.fp O 3)))=aa (vi x.room):=fun K=>by rw [z];rfl
 have l7:∀ K:aj,aV K (aa 7) (.c (.f (.fp O 2)))=aa (.a (x.row.map .f)):=fun K=>by rw [z];rfl
 have b_:=ho x (.inl rfl);have b9:(Y x).row.length=3:=rfl;obtain⟨q,B⟩:=aK (fI af x mt fx fy fd (ss.filter fun s=>GI af I s.room x.room));have d_:q.length=8:=by rw [B];exact oK ..
 simp only [eg];rw [←e_,←z,←B];obtain⟨r,H',he,rfl,hK⟩:∃ r H',Ev tab (.fn 79) [.c (.f (.fp O 0))] H r H'∧(r=.t [qN q,vi 0]∧Kp H H'):=by
  refine anq (S:=fun r H'=>r=.t [qN q,vi 0]∧Kp H H') amC rfl fun Q hQ=>?_;have a8:∀(t:T) (K:aj) (j:Option aE),ClT N t→Kp H K→fD [N+5] K→K[N+1]?=aa (.box (q.map fun n=>.f (fi n)) 0)→K[N+2]?=aa (.box [.f (fi 0)] 0)→Q j ⟨t,[N+5].map .gX,K⟩:=by
   intro t K j F hk hc L M;have d1:=(iM (hc.not L (by simp))).trans L;have d2:=(iM (hc.not M (by simp))).trans M;refine hQ _ _ (.t [qN q,vi 0]) ⟨[N+5],rfl,hc,?_,rfl,?_⟩
   ·have i6:(q.map fun n=>C.f (fi n)).length=8:=by simpa using d_
    simp [Km.results,cN,bj,F.g2,F.g3,aV,aG,d1,d2,aT,d_,at8,qN]
   ·refine⟨by rw [Cn];exact hk.1,fun b hb=>?_⟩;rw [iM (by simp;omega)];exact hk.2 b hb
  apply ai;simp;obtain⟨Z,v⟩:=aK (H++[bz.box [.f (.fp O 0)] 0,.box (([0,0,0,0,0,0,0,0]:List Int).map fun n=>.f (fi n)) 0,.box [.f (fi 0)] 0]:aj);have n0:Z.length=N+3:=by rw [v,at6,m];rfl
  have k0:∀ i:Nat,i<H.length→Z[i]?=H[i]?:=fun i hi=>by rw [v,anc hi]
  have c0:Z[N]?=aa (.box [.f (.fp O 0)] 0):=by rw [v,m];simp
  have c1:Z[N+1]?=aa (.box (([0,0,0,0,0,0,0,0]:List Int).map fun n=>.f (fi n)) 0):=by rw [v,m,atZ (by omega)];simp
  have c2:Z[N+2]?=aa (.box [.f (fi 0)] 0):=by rw [v,m,atZ (by omega)];simp
  simp only [aug,aus]at v;rw [←v,←m];have a0:aV Z ab (.c (.ptr N 0 0))=aa (.c (.f (.fp O 0))):=by simp [aV,aG,c0]
  obtain⟨A,E⟩:=aK (Z++[bz.box ((Y x).row.map .f) 0,.box [.f (.bool ae)] 0]:aj);have n1:A.length=N+5:=by rw [E,at6,n0];rfl
  have k1:∀ i:Nat,i<Z.length→A[i]?=Z[i]?:=fun i hi=>by rw [E,anc hi]
  have c3:A[N+3]?=aa (.box ((Y x).row.map .f) 0):=by rw [E,atZ (by omega),n0];simp
  have c4:A[N+4]?=aa (.box [.f (.bool ae)] 0):=by rw [E,atZ (by omega),n0];simp
  obtain⟨ox,c_⟩:=aK (Y x);rw [←c_]at b_ b9 E c3 hm hf;apply ai;simp [a0,l0,l7,b_,b9,-aA];rw [n0,←E];have a1:aV A ab (.c (.ptr N 0 0))=aa (.c (.f (.fp O 0))):=by simp [aV,aG,k1 N (by omega),c0]
  refine al (ai ?_);simp [a1,l0,l1,l3,f_,-aA];refine aF ?_
  suffices go:∀ u:T,ClT N u→u.g 40=.c (.f (.fn 199 [.fp [sd] 0,.fp [fR af I] 0,.fp [fi x.room] 0]))→WP tab 79 ab [.code AZ,.inBlock 0,.code xZ] ⟨u,[],A⟩ Q by
   exact go _ ⟨by simp,by simp,by simp,by simp,by simp⟩ (by simp)
  intro u F g_;obtain⟨LP,X⟩:∃ LP:ez→Option aE→bz,LP=fun st pd=>.lp 79 u [P.nat 41] e7 ej st pd (N+5):=⟨_,rfl⟩
  obtain⟨k,W⟩:=aK (A++[.eZ ae,LP .ready ab]);have kR:∀ i:Nat,i<A.length→k[i]?=A[i]?:=fun i hi=>by rw [W,anc hi]
  have q5:k[N+5]?=aa (.eZ ae):=by rw [W,atZ (by omega),n1];simp
  have q6:k[N+6]?=aa (LP .ready ab):=by rw [W,atZ (by omega),n1];simp
  have i7:k.length=N+7:=by rw [W,at6,n1];rfl
  have hq:ClQ H O ox k:=⟨⟨by omega,fun b hb=>by rw [kR b (by omega),k1 b (by omega),k0 b hb]⟩,by rw [←m,kR _ (by omega),k1 _ (by omega)];exact c0,by rw [←m,kR _ (by omega),k1 _ (by omega)];exact c1,
   by rw [←m,kR _ (by omega),k1 _ (by omega)];exact c2,by rw [←m,kR _ (by omega)];exact c3,by rw [←m,kR _ (by omega)];exact c4,⟨by simp,fun i hi=>by rw [aua.1 hi,←m];exact q5⟩⟩
  obtain⟨H2,he,o⟩:=CT (b:=N+6) (H:=k) (PP:=fun d J=>ClQ H O ox J∧J[N+6]?=aa (LP .ready ab)∧∀ s ∈ d,s.meet=x.meet∨mt s=ag)
   (RR:=fun d s J=>(∀ s ∈ d,s.meet=x.meet∨mt s=ag)∧¬ (s.meet=x.meet∨mt s=ag)∧Kp H J∧J[N+1]?=aa (.box ((Pf af s (fx s) (fy s) (fd s)).map fun n=>.f (fi n)) 0)∧J[N+2]?=aa (.box [.f (fi 0)] 0)∧fD [N+5] J∧J[N+6]?=aa (LP .done (aa .ret)))
   (fR af I) g ss hl x.room (fun s=>GI af I s.room x.room) (fun s hs=>ajG af I _ _ (a7 s hs).r0 (a7 s hs).r1 hx.r0 hx.r1) ⟨hq,q6,by simp⟩
   (fun d J K ⟨L,M,c⟩=>⟨L.cM (by simp) fun i hi _=>by rw [anc hi],by rw [anc (au M)];exact M,c⟩)
   (fun d s J ⟨L,M,c⟩ hs=>by
    have a_:=M;rw [X,m]at a_;rw [m]at F;rw [z]at L;obtain⟨r,J',i5,hr⟩:=BK af I sd x hx s (a7 s hs) ox (Y s) (ho s (.inr hs)) (mt s) (hm s hs) (fx s) (fy s) (fd s) (hf s hs) F L a_;refine⟨r,J',by rw [m];exact i5,?_⟩;by_cases d9:r=ae
    ·rw [bg d9]at hr ⊢;refine⟨by rw [z];exact hr.2.1,by rw [m,hr.2.2,←m];exact M,fun y hy=>?_⟩;rcases auh.1 hy with h | h
     ·exact c y h
     ·rw [aua.1 h];exact hr.1
    ·rw [aY d9]at hr ⊢;obtain⟨e1,e2,e3,e4,e5,e6⟩:=hr;exact⟨c,e1,e2,by rw [m];exact e3,by rw [m];exact e4,by rw [m];exact e5,by rw [X,m];exact e6⟩)
  rw [←e_]at he;have i4:Ev tab (.fn 199) [.c (.yl (A.length+1)),.c (.f (.fp [sd] 0)),.c (.f (.fp [fR af I] 0)),.c (.f (.fp [fi x.room] 0))] (A++[.eZ ae,.lp 79 u [P.nat 41] e7 ej .ready ab A.length]) (.t []) H2:=by
   have e:A++[.eZ ae,.lp 79 u [P.nat 41] e7 ej .ready ab A.length]=k:=by rw [W,X,n1]
   rw [e,n1];exact he
  refine ju (g:=199) (by rw [DF,g_];simp [bZ]) i4 ?_;rw [n1];rcases o with⟨L,M,c⟩ | ⟨d,s,rest,h_,c,h4,h5,h6,h7,h8,h9⟩
  ·rw [X]at M;refine lk M (by decide) (az ?_);have p:q=[0,0,0,0,0,0,0,0]:=by
    rw [B];have:=oJ (af:=af) (x:=x) (mt:=mt) (fx:=fx) (fy:=fy) (fd:=fd) (l:=[]) c;rw [auR]at this;rw [this];rfl
   have z1:=L.h2;have z2:=L.h3;have z3:=L.cl;have z4:=L.k;rw [←m]at z1 z2 z3;obtain⟨H3,a⟩:=aK (H2.set (N+6) (.lp 79 u [P.nat 41] e7 ej .exhausted ab (N+5)));have k3:∀ i:Nat,i≠N+6→H3[i]?=H2[i]?:=fun i hi=>by rw [a,aft (Ne.symm hi)]
   have y1:=(k3 (N+1) (by omega)).trans z1;have y2:=(k3 (N+2) (by omega)).trans z2;have y3:fD [N+5] H3:=by rw [a];exact z3.set M (by simp)
   have y4:Kp H H3:=by rw [a];exact z4.mG (by omega) _
   rw [←a];obtain⟨f,U⟩:=aK (H3.set (N+1) (.box (([0,0,0,0,0,0,0,0]:List Int).map fun n=>.f (fi n)) 0));have w1:f[N+1]?=aa (.box (([0,0,0,0,0,0,0,0]:List Int).map fun n=>.f (fi n)) 0):=by rw [U];exact atY (au y1)
   have w2:f[N+2]?=aa (.box [.f (fi 0)] 0):=by rw [U,aft (by omega)];exact y2
   have w3:fD [N+5] f:=by rw [U];exact y3.set y1 (by simp)
   have w4:Kp H f:=by rw [U];exact y4.mG (by omega) _
   have s1:dh H3 (.ptr (N+1) 0 0) [.f (fi 0),.f (fi 0),.f (fi 0),.f (fi 0),.f (fi 0),.f (fi 0),.f (fi 0),.f (fi 0)]=aa f:=by rw [U];simp [dh,y1,bp]
   have s2:dh f (.ptr (N+2) 0 0) [.f (fi 0)]=aa (f.set (N+2) (.box [.f (fi 0)] 0)):=by simp [dh,w2,bp]
   apply ai;simp [F.g2,F.g3,s1,s2,-bl];refine aC (a8 _ _ _ ⟨by simp [F.g1],by simp [F.g2],by simp [F.g3],by simp [F.g4],by simp [F.g5]⟩ (w4.mG (by omega) _) (w3.set w2 (by simp)) ?_ (atY (au w2)));rw [aft (by omega),p];exact w1
  ·rw [X]at h9;refine pY h9 (by decide) ?_;have w:q=Pf af s (fx s) (fy s) (fd s):=by
    rw [B,h_,oJ c,fI,aY h4]
   refine aC (a8 _ _ _ F (h5.mG (by omega) _) (h8.set h9 (by simp)) ?_ ?_)
   ·rw [aft (by omega),w];exact h6
   ·rw [aft (by omega)];exact h7
 exact⟨H',he,hK⟩
def ny(b:aJ→Int):Int→List aJ→Int
 | tot,[]=>tot| tot,s::r=>ny b (ah .i64 (tot+b s)) r
theorem akD(af r:Int)(g:Tg)(ss:List av)(n:ss.length≤1000)(x:av)(q:Int)(M:aJ→Int)
  (o:∀ s ∈ bX x.room x.dB ss,∃ v,bo tab 128 [.a (s.row.map .f),vi q]=Eq (.c (.f v))∧bo tab 202 [.c (.f v)]=Eq (vi (M s))) :
  bo tab 127 [.c (.f (eg (fR af r) (sl g (ak ss)) x)),vi q]=Eq (vi (ny M 0 (bX x.room x.dB ss))):=bo.eq (by
 refine bV rfl rfl fun Q X=>?_;obtain⟨w,Y⟩:=aK (sl g (ak ss));obtain⟨N,l⟩:=aK ([fR af r,w]++x.row);have l1:∀ K:aj,aV K ab (.c (.f (.fp N 1)))=aa (.c (.f w)):=fun K=>by rw [l];rfl
 have h:∀ K:aj,aV K ab (.c (.f (.fp N 3)))=aa (vi x.room):=fun K=>by rw [l];rfl
 have l4:∀ K:aj,aV K ab (.c (.f (.fp N 4)))=aa (vi x.dB):=fun K=>by rw [l];rfl
 obtain⟨c,H1,F,B,-,-⟩:=GY g ss x.room x.dB n [];have W:(bX x.room x.dB ss).length≤1000:=by
  unfold bX;rw [at9];exact aum (avf _ _) n
 obtain⟨L,U⟩:=aK (bX x.room x.dB ss);obtain⟨i,y⟩:=aK (ny M 0 L);rw [←U]at B o X W;rw [←y]at X;simp only [eg];rw [←Y]at F ⊢;rw [←l];have u:=B.len;rw [wY]at u;apply ai;simp;apply ai;simp;apply al;apply ai;simp [l1,h,l4,F.eq,u];refine bR L.length (fun j t J=>t.g 1=vi q∧t.g 22=.c c∧LR J c 3 (bK L)∧∃ m,t.g 5=vi m∧i=ny M m (L.drop j)) (by omega) (by decide) (by decide) (by simp) (by simp) ⟨by simp,by simp,B,0,by simp,by simpa using y⟩ ?_ ?_
 ·rintro j t J I ⟨O,z,B,m,S,H⟩ k hb next
  obtain⟨v,a,f⟩:=o L[j] (at2 I);obtain⟨b,ep,i1,p⟩:=B.at (eM L) (j:=j) (by simpa using I);have e:(bK L)[j]'(by simpa using I)=L[j].row:=by simp [bK]
  rw [e]at p;rw [at7 I,ny]at H;generalize L[j]=s at *;have Z:s.row.length=3:=rfl;have E:=B.push [bz.box (s.row.map .f) 0];obtain⟨J1,A⟩:=aK (J++[bz.box (s.row.map .f) 0]);have d:J1[J.length]?=aa (.box (s.row.map .f) 0):=by rw [A];simp
  have h:=sF d;rw [←A]at E;refine aF ?_;apply ai;simp [z,k,i1,p,Z,-aA];rw [←A];refine an (.inl rfl) ?_;simp [O,S,h,a,f,-aA];exact az (next _ _ ⟨by simp [O],by simp [z],E,_,by simp,H⟩ (by simp [k]) (by simp [hb]))
 ·rintro t J ⟨O,z,B,m,S,H⟩ - -;rw [au8,ny]at H;apply ai;simp [S];refine aC (X _ _ ?_);simp [H])
def AV(l:List (Int × C)):List (FC × C):=l.map fun e=>(fi e.1,e.2)
def lkL(k:Int):List (Int × C)→Option C
 | []=>ab| e::b=>if k=e.1 then aa e.2 else lkL k b
def wC(k:Int)(c:C):List (Int × C)→List (Int × C)
 | []=>[(k,c)]| e::b=>if k=e.1 then(k,c)::b else e::wC k c b
theorem F3(a b:Int):eqK .int (fi a) (fi b)=aa (decide (a=b)):=by
 simp only [eqK,if_true];by_cases h:a=b
 ·simp [h]
 ·simp [h]
theorem F9(k:Int):∀ l,m6 .int (fi k) (AV l)=aa (lkL k l)
 | []=>rfl
 | e::d=>by
  have b:=F9 k d;simp only [AV,aug,m6,F3,lkL]at b ⊢;by_cases h:k=e.1
  ·rw [bg h,decide_eq_true h]
  ·rw [aY h,decide_eq_false h];exact b
theorem acS(k:Int)(c:C):∀ l,qh .int (fi k) c (AV l)=aa (AV (wC k c l))
 | []=>rfl
 | e::d=>by
  have b:=acS k c d;simp only [AV,aug,qh,F3,wC]at b ⊢;by_cases h:k=e.1
  ·rw [bg h,decide_eq_true h];rfl
  ·rw [aY h,decide_eq_false h];simp only [b];rfl
theorem An(k:Int)(c:C):∀ l,lkL k (wC k c l)=aa c
 | []=>by simp [wC,lkL]
 | e::b=>by
  have d:=An k c b;unfold wC;by_cases h:k=e.1
  ·rw [bg h];simp [lkL]
  ·rw [aY h];simp [lkL,h,d]
theorem Gq{J:aj}{m:Nat}{l:List (Int × C)}(b:J[m]?=aa (.map (AV l))){k v:Int}(h:lkL k l=aa (.f (fi v))):fX J .int (fi 0) (.c (.mp m)) (vi k)=aa (vi v):=by
 unfold fX;simp only [b,isKey,if_true,F9,Option.map_some,lkR,sk,h];rfl
def Ar(H:aj)(g:CK):V→V→V→Option (V × aj)
 | .c (.mp b),.c (.f k),v=>match pG v,H[b]? with
  | some v,aa (.map d)=>if isKey g k then(qh g k v d).map fun d=>(.top,H.set b (.map d))else ab
  | _,_=>ab
 | _,_,_=>ab
theorem G7(t:T)(H:aj)(b:CK)(m k v:Arg):bu t H (.ja b m k v)=Ar H b (m.ev t) (k.ev t) (v.ev t):=by
 simp only [bu];unfold Ar;split<;>split<;>simp_all
 all_goals (split<;>simp_all)
theorem acC{J:aj}{m:Nat}{l:List (Int × C)}(b:J[m]?=aa (.map (AV l)))(k v:Int):Ar J .int (.c (.mp m)) (vi k) (vi v)=aa (.top,J.set m (.map (AV (wC k (.f (fi v)) l)))):=by
 simp [Ar,pG,b,isKey,acS]
theorem akH(t:T)(H:aj):bu t H .jH=aa (.c (.mp H.length),H++[.map []]):=rfl
theorem Dk(t:T)(H:aj)(b:CK)(z:FC)(m k:Arg):bu t H (.lookup b z m k)=(fX H b z (m.ev t) (k.ev t)).map (·,H):=rfl
def iN(b:Int):Int→List aI→Option aI
 | _,[]=>ab| tot,x::r=>if b<ah .i64 (tot+ah .i64 (x.to-x.fr))then aa x else iN b (ah .i64 (tot+ah .i64 (x.to-x.fr))) r
def od(b e:Int)(d:Int→List aI)(us:Int→Int):Nat→Int→Option aI
 | 0,_=>ab| k+1,n=>if 7*n<e then(match iN b (us n) (d n)with | some x=>aa x | none=>od b e d us k (n+1))else ab
def ES:Option aI→List Int
 | none=>[0,0,0,0,0,0,0,0]| some x=>[14,0,x.day,x.fr,x.to,0,0,0]
theorem CG(o:Option aI):(ES o).length=8:=by cases o<;>rfl
theorem acU(af qu:Int)(g:Tg)(ss:List av)(hl:ss.length≤1000)(x:av)(h0:0≤x.room)(h1:x.room≤2)(t8:V.beq (.a (x.st.row.map .f)) (.a (x.st.row.map .f))=ae)(d:Nat)(hd:d ∈ tn)
  (h_:bo tab 140 [.c (.f (sl .fs (bK (bX x.room x.dB ss++[x.st]))))]=Eq (.t [vi (15+7*(d:Int)),vb ae]))
  (I:Int→List aI) (us:Int→Int) (ho:∀ n,-1≤n→n≤100→(I n).length≤10∧∃ g,bo tab 128 [.a (x.st.row.map .f),vi n]=Eq (.c (.f (sl g (aH (I n))))))
  (hu:∀ n,-1≤n→n≤100→bo tab 127 [.c (.f (eg (fR af qu) (sl g (ak ss)) x)),vi n]=Eq (vi (us n))) (H:aj) :
  ∃ H',Ev tab (.fn 80) [.c (.f (eg (fR af qu) (sl g (ak ss)) x))] H (.t [qN (ES (if(mE x.dB (cf af qu x.room).q).2 then od (mE x.dB (cf af qu x.room).q).1 (15+7*(d:Int)) I us 200 (-1)else ab)),vi 0]) H'∧Kp H H':=by
 have B:=acj af qu (sl g (ak ss)) x h0 h1;obtain⟨v,j7⟩:=aK ((mE x.dB (cf af qu x.room).q).1);obtain⟨s7,n_⟩:=aK ((mE x.dB (cf af qu x.room).q).2);rw [←j7,←n_]at B ⊢;obtain⟨sd,v_⟩:=aK (sl g (ak ss));obtain⟨cd,b9⟩:=aK ([fR af qu,sd]++x.row);have l1:∀ K:aj,aV K ab (.c (.f (.fp cd 1)))=aa (.c (.f sd)):=fun K=>by rw [b9];rfl
 have l3:∀ K:aj,aV K ab (.c (.f (.fp cd 3)))=aa (vi x.room):=fun K=>by rw [b9];rfl
 have l4:∀ K:aj,aV K ab (.c (.f (.fp cd 4)))=aa (vi x.dB):=fun K=>by rw [b9];rfl
 have l6:∀ K:aj,aV K (aa 3) (.c (.f (.fp cd 6)))=aa (.a (x.st.row.map .f)):=fun K=>by rw [b9];rfl
 obtain⟨F,q⟩:=aK (ES (if s7 then od v (15+7*(d:Int)) I us 200 (-1)else ab));have j9:=fun K=>GY g ss x.room x.dB hl K;simp only [eg]at B hu ⊢;rw [←v_]at B hu j9 ⊢;rw [←b9]at B hu ⊢;rw [←q];have y8:=ud hd;have w9:x.st.row.length=3:=rfl;obtain⟨L,m4⟩:=aK (bX x.room x.dB ss);have y_:L.length≤1000:=by
  rw [m4];unfold bX;rw [at9];exact aum (avf _ _) hl
 rw [←m4]at j9 h_;obtain⟨N,hN⟩:=aK (H.length);obtain⟨r,H',he,rfl,hK⟩:∃ r H',Ev tab (.fn 80) [.c (.f (.fp cd 0))] H r H'∧(r=.t [qN F,vi 0]∧Kp H H'):=by
  refine cI (C:=fun r H'=>r=.t [qN F,vi 0]∧Kp H H') amD rfl fun Q hQ=>?_;have i6:∀(t:T) (K:aj) (j:Option aE),t.g 2=.c (.ptr N 0 0)→t.g 3=vi 0→Kp H K→K[N]?=aa (.box (F.map fun n=>.f (fi n)) 0)→Q j ⟨t,[],K⟩:=by
   intro t K j z g3 hk hb;have v9:F.length=8:=by rw [q];exact CG _
   refine hQ _ _ (.t [qN F,vi 0]) rfl ?_ ⟨rfl,hk⟩;simp [Km.results,cN,bj,z,g3,aV,aG,hb,aT,v9,at8,qN]
  have zero:∀(t:T) (K:aj) (k:List cZ),F=[0,0,0,0,0,0,0,0]→t.g 2=.c (.ptr N 0 0)→Kp H K→K[N]?=aa (.box (([0,0,0,0,0,0,0,0]:List Int).map fun n=>.f (fi n)) 0) →
    WP tab 80 ab (.code (.seq yd .ret)::k) ⟨t,[],K⟩ Q:=by
   intro t K k hr z hk hb;simp only [aug,aus]at hb;have s1:dh K (.ptr N 0 0) [.f (fi 0),.f (fi 0),.f (fi 0),.f (fi 0),.f (fi 0),.f (fi 0),.f (fi 0),.f (fi 0)]=aa (K.set N (.box [.f (fi 0),.f (fi 0),.f (fi 0),.f (fi 0),.f (fi 0),.f (fi 0),.f (fi 0),.f (fi 0)] 0)):=by simp [dh,hb,bp]
   apply ai;simp [z,s1,-bl];refine aC ?_;refine i6 _ _ _ ?_ ?_ (hk.mG (by omega) _) ?_
   ·simp [z]
   ·simp
   rw [atY (au hb),hr];rfl
  apply ai;simp;obtain⟨K0,a_⟩:=aK (H++[bz.box (([0,0,0,0,0,0,0,0]:List Int).map fun n=>.f (fi n)) 0]:aj);have k0:Kp H K0:=by rw [a_];exact Kp.push _ _
  have c0:K0[N]?=aa (.box (([0,0,0,0,0,0,0,0]:List Int).map fun n=>.f (fi n)) 0):=by rw [a_,hN];simp
  have n0:K0.length=N+1:=by rw [a_,hN];simp
  simp only [aug,aus]at a_;rw [←a_,←hN];apply ai;simp [B];apply al;apply ai;simp;cases s7 with
  | false=>
   refine aq (by simp) ?_;have j_:=c0;simp only [aug,aus]at j_;have s1:dh K0 (.ptr N 0 0) [.f (fi 0),.f (fi 0),.f (fi 0),.f (fi 0),.f (fi 0),.f (fi 0),.f (fi 0),.f (fi 0)]=aa (K0.set N (.box [.f (fi 0),.f (fi 0),.f (fi 0),.f (fi 0),.f (fi 0),.f (fi 0),.f (fi 0),.f (fi 0)] 0)):=by simp [dh,j_,bp]
   apply ai;simp [s1,-bl];refine aC ?_;refine i6 _ _ _ ?_ ?_ (k0.mG (by omega) _) ?_
   ·simp
   ·simp
   ·rw [atY (au c0),q];rfl
  | true=>
   simp only [if_true]at q;refine bw (by simp) ?_;obtain⟨c,K1,m_,t7,i5,u_⟩:=j9 K0;have k2:=u_;obtain⟨c',K3,e1,i8,e3,e4⟩:=t7.aqm (eM _) (by decide) (rows':=[x.st.row]) (fun r hr=>by rw [aua.1 hr];rfl) (bytes:=56) (by simp [bU];omega) .fs;have s8:sl .fs [x.st.row]=.fs x.st.row 1:=rfl;rw [s8]at e1;have u9:fcL (x.st.row.map .f)=aa x.st.row:=rfl;have n9:∀ i,bE c'=aa i→K0.length≤i:=fun i hi=>by
    rcases e4 with h | h
    ·exact i5 i (by rw [←h];exact hi)
    ·rw [h]at hi;cases hi;have:=k2.1;omega
   have k3:Kp K0 K3:=by
    refine⟨by have:=e3.1;have:=k2.1;omega,fun i hi=>?_⟩;rw [←k2.2 i hi];have X:i<K1.length:=by have:=k2.1;omega
    rw [asZ X];exact e3.2 i _ (asZ X) fun h=>by have:=i5 i h;omega
   have er:bK L++[x.st.row]=bK (L++[x.st]):=by simp [bK]
   rw [er]at i8;obtain⟨y7,j4⟩:=i8.ex (eM _) 63;have j8:bK (L++[x.st])≠[]:=by simp [bK]
   rw [adm (g':=.fs) j8]at j4;change ek deep K3 c'=_ at j4;obtain⟨K4,l_⟩:=aK (gD deep c' K3);have k4:Kp K0 K4:=by
    rw [l_];rcases i8.x.mkH 63 with e | ⟨b,ep,fl,y6,h1,h2,h3⟩
    ·change gD deep c' K3=K3 at e;rw [e];exact k3
    ·change gD deep c' K3=_ at h3;rw [h3];exact k3.mG (n9 b h1) _
   refine al (fe (.inl rfl) ?_ ?_)
   case refine_2=>
    intro cc u6;have u5:cc=(19,14):=by simpa using u6
    subst u5;refine⟨by decide,_,rfl,.inr ⟨by decide,?_⟩⟩;simp [l1,l3,l4,l6,m_.eq,gl,t8,-aA]
   simp [l1,l3,l4,l6,m_.eq,w9,u9,e1,j4,h_,←l_,-aA]
   suffices go:∀ u:T,u.g 0=.c (.f (.fp cd 0))→u.g 2=.c (.ptr N 0 0)→u.g 4=vi v→u.g 5=vb ae→u.g 6=vi (15+7*(d:Int))→WP tab 80 ab [.code yc] ⟨u,[],K4⟩ Q by
    exact go _ (by simp) (by simp) (by simp) (by simp) (by simp)
   intro u g0 z Y g5 W;have k5:Kp H K4:=k0.tr k4;have c4:K4[N]?=aa (.box (([0,0,0,0,0,0,0,0]:List Int).map fun n=>.f (fi n)) 0):=k4.get c0;have x6:N<K4.length:=au c4;apply al;apply ai;simp [g5];refine bw (by simp) ?_;obtain⟨m,hm⟩:=aK (K4.length);obtain⟨K5,d_⟩:=aK (K4++[bz.map []]);have m5:K5[m]?=aa (.map (AV [])):=by rw [d_,hm];simp [AV]
   have c5:K5[N]?=aa (.box (([0,0,0,0,0,0,0,0]:List Int).map fun n=>.f (fi n)) 0):=by rw [d_,anc x6];exact c4
   have k6:Kp H K5:=by rw [d_];exact k5.tr (Kp.push _ _)
   apply ai;simp [akH];rw [←hm,←d_];apply al;apply ai;simp;refine aF ?_;obtain⟨e,u7⟩:=aK (15+7*(d:Int));rw [←u7]at W q;have z8:e≤435:=by omega
   refine cH (fun k s=>∃(n:Int) (u:T) (K:aj) (l:List (Int × C)),s=⟨u,[],K⟩∧-1≤n∧n+k=199∧u.g 0=.c (.f (.fp cd 0))∧u.g 2=.c (.ptr N 0 0)∧u.g 4=vi v∧u.g 6=vi e∧u.g 7=.c (.mp m)∧u.g 8=vi n∧Kp H K∧m<K.length ∧
    K[N]?=aa (.box (([0,0,0,0,0,0,0,0]:List Int).map fun n=>.f (fi n)) 0)∧K[m]?=aa (.map (AV l))∧F=ES (od v e I us k n)) 200
    ⟨-1,_,K5,[],rfl,by omega,by omega,by simp [g0],by simp [z],by simp [Y],by simp [W],by simp,by simp,k6,au m5,c5,m5,q⟩ ?_
   clear q;rintro k s ⟨n,u,K,l,rfl,z9,z_,g0,z,Y,W,Z,M,hK,v6,hc,e_,q⟩ ih;have q_:m≠N:=by rintro rfl;rw [e_]at hc;cases hc
   apply al;apply ai;simp [W,M,aW (n:=7*n)];by_cases X:7*n<e
   case neg=>
    refine aD (by simp;omega) (bJ rfl ?_);refine zero _ K _ ?_ (by simp [z]) hK hc;rw [q];cases k with
    | zero=>rfl| succ k=>rw [od,aY X];rfl
   obtain⟨k,rfl⟩:∃ k',k=k'+1:=⟨k-1,by omega⟩
   rw [od,bg X]at q;refine aq (by simp [X]) (aO ?_);apply al;refine aF ?_;obtain⟨v8,gO,f_⟩:=ho n (by omega) (by omega);have r_:=hu n (by omega) (by omega);obtain⟨O,hO⟩:=aK (I n);obtain⟨U,hU⟩:=aK (us n);rw [←hO]at v8 f_ q;rw [←hU]at r_ q;have b_:∀(w:T) (K':aj) (l':List (Int × C)),F=ES (od v e I us k (n+1))→w.g 0=.c (.f (.fp cd 0))→w.g 2=.c (.ptr N 0 0)→w.g 4=vi v→w.g 6=vi e→w.g 7=.c (.mp m)→w.g 8=vi n→Kp H K'→K'[m]?=aa (.map (AV l'))→K'[N]?=aa (.box (([0,0,0,0,0,0,0,0]:List Int).map fun n=>.f (fi n)) 0) →
     WP tab 80 ab [.code qY,.inLoop qX,.inBlock 0,.code qZ] ⟨w,[],K'⟩ Q:=by
    intro w K' l' hr g0 z Y W Z M s9 E t9;refine an (.inl rfl) ?_;simp [M,aW (n:=n+1)];exact ih k _ (by omega) ⟨n+1,_,K',l',rfl,by omega,by omega,by simp [g0],by simp [z],by simp [Y],by simp [W],by simp [Z],by simp,s9,au E,t9,E,hr⟩
   apply ai;simp [g0,M,l6,f_,-aA];apply al;apply ai;have i4:∀ J:aj,bA J (.f (sl gO (aH O)))=aa O.length:=fun J=>by simp
   simp [i4];by_cases i9:O=[]
   ·refine aq (by simp [i9]) (bJ (k':=[.code qY,.inLoop qX,.inBlock 0,.code qZ]) (by simp [Km.exitTo]) ?_);rw [i9]at q;exact b_ _ K l q (by simp [g0]) (by simp [z]) (by simp [Y]) (by simp [W]) (by simp [Z]) (by simp [M]) hK e_ hc
   refine bw (by simp [i9]) ?_;apply ai;simp [g0,Z,M,r_,G7,acC e_];obtain⟨K1,d9⟩:=aK (K.set m (.map (AV (wC n (.f (fi U)) l))));have w1:K1[m]?=aa (.map (AV (wC n (.f (fi U)) l))):=by rw [d9];exact atY v6
   have w2:K1[N]?=aa (.box (([0,0,0,0,0,0,0,0]:List Int).map fun n=>.f (fi n)) 0):=by rw [d9,aft q_];exact hc
   have p_:H.length≤m:=by rw [hm];exact k5.1
   have w3:Kp H K1:=by rw [d9];exact hK.mG p_ _
   rw [←d9];apply ai;simp [i4];have S:=fun(j:Nat) (hj:j<O.length) (H:aj)=>bt (H:=H) (g:=gO) (rows:=aH O) (sz:=3) (k:=.i64) (i:=(j:Int)) (by omega) (by simp;omega);refine bR O.length (fun j t J=>t.g 0=.c (.f (.fp cd 0))∧t.g 2=.c (.ptr N 0 0)∧t.g 4=vi v∧t.g 6=vi e∧t.g 7=.c (.mp m)∧t.g 8=vi n∧t.g 71=.c (.f (sl gO (aH O)))∧Kp H J∧J[N]?=aa (.box (([0,0,0,0,0,0,0,0]:List Int).map fun n=>.f (fi n)) 0) ∧
    ∃ l' c_,J[m]?=aa (.map (AV l'))∧lkL n l'=aa (.f (fi c_))∧iN v U O=iN v c_ (O.drop j)) (by omega) (by decide) (by decide) (by simp) (by simp)
    ⟨by simp [g0],by simp [z],by simp [Y],by simp [W],by simp [Z],by simp [M],by simp,w3,w2,_,U,w1,An _ _ _,by simp⟩ ?_ ?_
   ·clear g0 z Y W Z M w1 w2 w3 hc hK e_;rintro j t J hj ⟨g0,z,Y,W,Z,M,i7,hK,hc,l',c_,E,n8,A⟩ ha hb next
    have r5:=fun H:aj=>bL (H:=H) (bD O) (gw hj);have S:=S j hj;simp only [aui]at S;rw [at7 hj,iN]at A;generalize O[j]=y at *;have w_:y.row.length=3:=rfl;obtain⟨J1,a7⟩:=aK (J++[bz.box (y.row.map .f) 0]);have d1:J1[J.length]?=aa (.box (y.row.map .f) 0):=by rw [a7];simp
    have y1:∀ K:aj,K[J.length]?=J1[J.length]?→aV K ab (.c (.ptr J.length 1 0))=aa (vi y.fr)∧aV K ab (.c (.ptr J.length 2 0))=aa (vi y.to)∧aV K (aa 3) (.c (.ptr J.length 0 0))=aa (.a [.f (fi y.day),.f (fi y.fr),.f (fi y.to)]):=fun K hK=>by
     refine⟨?_,?_,?_⟩<;>simp [aV,aG,hK.trans d1,aT,aI.row]
    have j6:J1[m]?=aa (.map (AV l')):=by rw [a7,anc (au E)];exact E
    have t_:J1[N]?=aa (.box (([0,0,0,0,0,0,0,0]:List Int).map fun n=>.f (fi n)) 0):=by rw [a7,anc (au hc)];exact hc
    have s_:Kp H J1:=by rw [a7];exact hK.tr (Kp.push _ _)
    refine aF ?_;apply ai;simp [i7,ha,S,r5,w_,-aA];rw [←a7];obtain⟨x8,x9,-⟩:=y1 J1 rfl;obtain⟨T1,m9⟩:=aK (ah .i64 (c_+ah .i64 (y.to-y.fr)));rw [←m9]at A;obtain⟨J2,a8⟩:=aK (J1.set m (.map (AV (wC n (.f (fi T1)) l'))));have o_:J2[m]?=aa (.map (AV (wC n (.f (fi T1)) l'))):=by rw [a8];exact atY (au j6)
    have i_:J2[N]?=aa (.box (([0,0,0,0,0,0,0,0]:List Int).map fun n=>.f (fi n)) 0):=by rw [a8,aft q_];exact t_
    have k_:Kp H J2:=by rw [a8];exact s_.mG p_ _
    have j8:m≠J.length:=by have:=au E;omega
    apply ai;simp [Z,M,Dk,Gq j6 n8,x8,x9,←m9,G7,acC j6,←a8,-aA];apply ai;simp [Y,Z,M,Dk,Gq o_ (An _ _ _)];by_cases j5:v<T1
    ·rw [bg j5]at A;rw [A]at q;refine aq (by simp [j5]) ?_;have g_:=i_;simp only [aug,aus]at g_;have s1:dh J2 (.ptr N 0 0) [.f (fi 14),.f (fi 0),.f (fi y.day),.f (fi y.fr),.f (fi y.to),.f (fi 0),.f (fi 0),.f (fi 0)]=aa (J2.set N (.box [.f (fi 14),.f (fi 0),.f (fi y.day),.f (fi y.fr),.f (fi y.to),.f (fi 0),.f (fi 0),.f (fi 0)] 0)):=by simp [dh,g_,bp]
     obtain⟨-,-,x_⟩:=y1 J2 (by rw [a8,aft j8]);apply ai;simp [z,x_,s1,-aA,-bl];refine aC ?_;refine i6 _ _ _ ?_ ?_ (k_.mG (by omega) _) ?_
     ·simp [z]
     ·simp
     ·rw [atY (au i_),q];rfl
    ·rw [aY j5]at A;refine aD (by simp;omega) (aO ?_);exact az (next _ _ ⟨by simp [g0],by simp [z],by simp [Y],by simp [W],by simp [Z],by simp [M],by simp [i7],k_,i_,_,T1,o_,An _ _ _,A⟩ (by simp [ha]) (by simp [hb]))
   ·rintro t J ⟨g0,z,Y,W,Z,M,i7,hK,hc,l',c_,E,n8,A⟩ - -;rw [au8,iN]at A;rw [A]at q;exact az (b_ _ J l' q (by simp [g0]) (by simp [z]) (by simp [Y]) (by simp [W]) (by simp [Z]) (by simp [M]) hK E hc)
 exact⟨H',he,hK⟩
theorem anf(g:Tg)(ss:List av)(x:av)(hl:ss.length≤1000)(hs:ss.Pairwise eL) :
  ∃(i:Nat) (w:Bool),(w=ae↔∃ y ∈ ss,bY y x=ae)∧bo tab 119 [.c (.f (sl g (ak ss))),.a (x.row.map .f),.c (.f (.fn 115 []))]=Eq (.t [vi i,vb w]):=by
 obtain⟨rows,d⟩:=aK (ak ss);obtain⟨s,L⟩:∃ s:List FC→Int,∀ y:av,s y.row=mM y x:=⟨fun r=>match r with | .int _ a::.int _ b::_=>wm [de a x.meet,de b x.room] | _=>0,fun y=>by simp [av.row,mM]⟩
 have b_:rows.length=ss.length:=by rw [d];simp [ak]
 have W:∀ r ∈ rows,∃ y ∈ ss,r=y.row:=fun r hr=>by
  rw [d]at hr;obtain⟨y,hy,rfl⟩:=auq.1 hr;exact⟨y,hy,rfl⟩
 have hg:cr 7 rows:=by rw [d];exact aS ss
 have Y:∀ y:av,(mM y x<0↔eL y x)∧(0<mM y x↔eL x y):=fun y=>by
  unfold mM eL;simp only [wm,de];refine⟨?_,?_⟩
  ·repeat' split
   all_goals omega
  ·repeat' split
   all_goals omega
 have B:∀(i:Nat) (h:i<rows.length),rows[i]=(ss[i]'(by omega)).row:=fun i h=>by
  subst d;simp [ak]
 have hp:∀(i j:Nat) (hi:i<j) (v:j<rows.length),0≤s rows[i]→0<s rows[j]:=fun i j hi v h=>by
  rw [B,L]at h ⊢;rw [(Y _).2];have h1:¬ eL (ss[i]'(by omega)) x:=fun h'=>by have:=(Y _).1.2 h';omega
  have h2:eL (ss[i]'(by omega)) (ss[j]'(by omega)):=auQ.1 hs i j (by omega) (by omega) hi;unfold eL at *;omega
 have z:∀ y:av,s y.row=0↔bY y x=ae:=fun y=>by
  rw [L];unfold mM;simp only [wm,de,bY]
  repeat' split
  all_goals simp
  all_goals omega
 obtain⟨i,h1,h2,O,w,h4,h⟩:∃ i:Nat,i≤rows.length∧(∀ j (v:j<rows.length),j<i→s rows[j]<0)∧(∀ j (v:j<rows.length),i≤j→0≤s rows[j]) ∧
   ∃ w:Bool,(w=ae↔∃ h:i<rows.length,s rows[i]=0)∧bo tab 119 [.c (.f (sl g rows)),.a (x.row.map .f),.c (.f (.fn 115 []))]=Eq (.t [vi i,vb w]):=by
  obtain⟨r,⟨i,h1,h2,O,w,h4,rfl⟩,h⟩:∃ r,(∃ i:Nat,i≤rows.length∧(∀ j (v:j<rows.length),j<i→s rows[j]<0)∧(∀ j (v:j<rows.length),i≤j→0≤s rows[j])∧∃ w:Bool,(w=ae↔∃ h:i<rows.length,s rows[i]=0)∧r=.t [vi i,vb w]) ∧
    bo tab 119 [.c (.f (sl g rows)),.a (x.row.map .f),.c (.f (.fn 115 []))] r:=by
   refine dG rfl rfl fun Q hQ=>?_;have ask:∀(q:Nat) (hq:q<rows.length) (H:aj),∃ J,bG H 7 ab (.c (.f (sl g rows))) (vi q)=aa (.c (.f (.fp rows.flatten (q*7))))∧aV H (aa 7) (.c (.f (.fp rows.flatten (q*7))))=aa (.a (rows[q].map .f))∧Ev tab (.fn 115) [.a (rows[q].map .f),.a (x.row.map .f)] H=E2 (vi (s rows[q])) (H++J):=by
    intro q hq H;obtain⟨y,hy,e⟩:=W rows[q] (at2 hq);obtain⟨J,c3⟩:=FY y x H;have hi:=bt (H:=H) (g:=g) (rows:=rows) (sz:=7) (k:=.i64) (i:=(q:Int)) (by omega) (by omega);rw [aui]at hi;refine⟨J,hi,bL hg (asZ hq),?_⟩;rw [e,L];exact c3.eq
   apply ai;simp [av.row];apply ai;simp;apply ai;simp;apply al;refine aF ?_;refine cH (fun m s'=>∃(lo hi:Nat) (t:T) (H:aj),s'=⟨t,[],H⟩∧m=hi-lo∧lo≤hi∧hi≤rows.length∧t.g 0=.c (.f (sl g rows))∧t.g 4=.c (.ptr 0 0 0)∧H[0]?=aa (.box (x.row.map .f) 0)∧t.g 2=.c (.f (.fn 115 []))∧t.g 8=vi rows.length∧t.g 9=vi lo∧t.g 10=vi hi ∧
    (∀ j (v:j<rows.length),j<lo→s rows[j]<0)∧(∀ j (v:j<rows.length),hi≤j→0≤s rows[j])) rows.length
    ⟨0,rows.length,_,_,rfl,by omega,by omega,by omega,by simp,by simp,rfl,by simp,by simp,by simp,by simp,by simp,by intros;omega⟩ ?_
   rintro m s' ⟨lo,hi,t,H,rfl,rfl,b9,S,g0,g4,M,Z,g8,N,A,I,E⟩ next
   have lx:∀ K:aj,K[0]?=H[0]?→aV K (aa 7) (.c (.ptr 0 0 0))=aa (.a (x.row.map .f)):=fun K hK=>by simp [aV,aG,hK.trans M,aT,av.row]
   apply al;apply ai;simp [N,A];by_cases a8:lo<hi
   ·refine aq (by simp [a8]) (aO ?_);obtain⟨q,hq⟩:=aK ((lo+hi) / 2);have U:q<rows.length:=by omega
    have e1:dp BinOp.shr (V.c (C.f (FC.int IntKind.u64 (IntKind.u64.wrap ((lo:Int)+hi))))) (V.c (C.f (FC.int IntKind.u64 1)))=aa (.c (.f (.int .u64 (q:Int)))):=by
     have:IntKind.u64.wrap ((lo:Int)+hi)=(lo:Int)+hi:=by
      show((lo:Int)+hi) % 18446744073709551616=_;omega
     rw [this];show aa (V.c (C.f (FC.int IntKind.u64 (Int.fdiv ((lo:Int)+hi) (2 ^ (min (1:Int).toNat IntKind.u64.bits))))))=_;have O:Int.fdiv ((lo:Int)+hi) (2 ^ (min (1:Int).toNat IntKind.u64.bits))=q:=by
      show Int.fdiv ((lo:Int)+hi) 2=q;rw [Int.fdiv_eq_ediv_of_nonneg _ (by omega)];omega
     rw [O]
    have hw:=aW (n:=(lo:Int)+hi);have a_:ah .i64 (q:Int)=q:=aW;obtain⟨J,i1,l1,he⟩:=ask q U H;refine aF ?_;apply ai;simp [N,A,hw,e1,a_];apply ai;have X:(H++J)[0]?=aa (.box (x.row.map .f) 0):=by rw [anc (au M)];exact M
    simp [g0,g4,Z,i1,l1,lx H rfl,bZ,he,-aA];by_cases hc:s rows[q]<0
    ·refine aq (by simp [hc]) ?_;refine an (.inl rfl) ?_;simp [aW (n:=(q:Int)+1)];refine az (next (hi-(q+1)) _ (by omega) ⟨q+1,hi,_,_,rfl,rfl,by omega,by omega,by simp [g0],by simp [g4],X,by simp [Z],by simp [g8],by simp,by simp [A],fun j v h=>?_,E⟩);rcases Int.lt_or_le (s rows[j]) 0 with l | l
     ·exact l
     ·by_cases e:j=q
      ·subst e;exact hc
      ·have:=hp j q (by omega) U l;omega
    ·refine aD (by simp [hc]) ?_;refine an (.inl rfl) ?_;simp;refine az (next (q-lo) _ (by omega) ⟨lo,q,_,_,rfl,rfl,by omega,by omega,by simp [g0],by simp [g4],X,by simp [Z],by simp [g8],by simp [N],by simp,I,fun j v h=>?_⟩);by_cases e:j=q
     ·subst e;omega
     ·have:=hp q j (by omega) v (by omega);omega
   ·have:lo=hi:=by omega
    subst this;refine aD (by simp) ?_;refine bJ rfl ?_;apply ai;by_cases u:lo<rows.length
    ·obtain⟨J,i1,l1,he⟩:=ask lo u H;simp [g0,g4,Z,g8,N,u,i1,l1,lx H rfl,bZ,he,-aA];refine aC (hQ _ _ _ ⟨lo,S,I,E,decide (s rows[lo]=0),by simp [u],rfl⟩ ?_);simp
    ·simp [g8,N,u];refine aC (hQ _ _ _ ⟨lo,S,I,E,ag,by simp [u],rfl⟩ ?_);simp
  exact⟨i,h1,h2,O,w,h4,h.eq⟩
 subst d;refine⟨i,w,?_,h⟩;rw [h4];constructor
 ·rintro⟨hi,e⟩;rw [B i hi,z]at e;exact⟨_,at2 _,e⟩
 ·rintro⟨y,hy,e⟩;obtain⟨j,v,rfl⟩:=List.getElem_of_mem hy;have F:j<(ak ss).length:=by omega
  have e0:s (ak ss)[j]=0:=by rw [B j F,z];exact e
  have a7:i≤j:=by
   rcases auK j i with l | l
   ·have:=h2 j F l;omega
   ·exact l
  have hi:i<(ak ss).length:=by omega
  refine⟨hi,?_⟩;rcases Nat.lt_or_eq_of_le a7 with l | l
  ·have:=O i hi (at3 _);have:=hp i j l F this;omega
  ·subst l;exact e0
def eX(af b:Int)(ss:List av)(x:av):Bool:=ov (ct af b) ss&&gk 3 x
def fh(ss:List av)(x:av):Bool:=ss.any fun y=>bY y x
theorem acI(af g:Int):∀ r ∈ ct af g,lI r:=by
 have h:bo tab 190 [Gv]=Eq (vi 0):=fZ.2.2.2.2.2.2.2.2;intro r d;have b:r.op=ea.map .f:=by
  simp only [ct,auc,auT,or_false]at d;rcases d with rfl | rfl | rfl<;>rfl
 show bo tab 190 [.a r.op] (vi 0);rw [b];show bo tab 190 [Gv] (vi 0);rw [h]
theorem FP(af l:Int)(g:Tg)(ss:List av)(J:ss.length≤1000)(M:ss.Pairwise eL)(L:∀ s ∈ ss,s.st.Sm)(x:av)(O:x.st.Sm) :
  bo tab 64 [.c (.f (fR af l)),.c (.f (sl g (ak ss))),.a (x.row.map .f)] =
   Eq (.t (if eX af l ss x then [.c (.f (eg (fR af l) (sl g (ak ss)) x)),vb (!fh ss x)]else [.c (.f .ob),vb ag])):=bo.eq (by
 refine bV rfl rfl fun Q q=>?_;have b:=(Gp .fs g (ct af l) ss (show(3:Nat)≤6 by decide) (acI af l) (by omega) L).eq;have d:=(C0 .fs (ct af l) x (show(3:Nat)≤6 by decide) O).eq;obtain⟨i,w,N,y⟩:=anf g ss x J M;have I:w=fh ss x:=by
  rw [Bool.eq_iff_iff,N,fh,List.any_eq_true]
 rw [←I]at q;have A:x.row.length=7:=rfl;change bo tab 59 [.c (.f (fR af l)),_]=_ at b;change bo tab 114 [.c (.f (fR af l)),_]=_ at d;have z:(ct af l).length=3:=rfl;rw [z]at d;obtain⟨U,H⟩:=aK (sl g (ak ss));obtain⟨S,F⟩:=aK (fR af l);simp only [eg]at q;rw [←H]at b y q ⊢;rw [←F]at b d q ⊢;have E:∀ K:aj,K[0]?=aa (.box (x.row.map .f) 0)→aV K (aa 7) (.c (.ptr 0 0 0))=aa (.a (x.row.map .f)):=fun K h=>by simp [aV,aG,h,aT,av.row]
 apply ai;simp [A];obtain⟨u,v⟩:=aK ([bz.box (x.row.map .f) 0]:aj);have B:u[0]?=aa (.box (x.row.map .f) 0):=by rw [v];rfl
 rw [←v];apply al;apply ai;cases j:ov (ct af l) ss with
 | false=>
  rw [j]at b;simp [b];refine aq (by simp) ?_;apply ai;simp;refine aC (q _ _ ?_);simp [Km.results,bj,eX,j]
 | true=>
  rw [j]at b;cases m:gk 3 x with
  | false=>
   rw [m]at d;simp [b,E u B,d,-aA];refine aq (by simp) ?_;apply ai;simp;refine aC (q _ _ ?_);simp [Km.results,bj,eX,j,m]
  | true=>
   rw [m]at d;simp [b,E u B,d,-aA];refine bw (by simp) ?_;apply ai;simp [E u B,y,-aA];apply ai;simp [E u B,A,-aA];refine aC (q _ _ ?_);simp [Km.results,bj,eX,j,m,iZ,cD,deep,ek,av.row])
def dv(h:dj)(x:bC):Int:=if cW h=ag∨x.id<1∨x.state≠1∨iL x.dl=ag then 1 else if(rr x.id h.l).isSome then 5 else if x.dl<h.clock then 17 else 0
def mz:List C:=[.f (fi 0),.f (fi 0),.f (fi 0),.f (fi 0),.f (fi 0),.f (fi 0),.f (fi 0),.f (fi 0)]
def QW(b:List Int):List C:=b.map fun n=>.f (fi n)
theorem LR.added{H:aj}{c:C}{sz:Nat}{rows:List (List FC)}(h:LR H c sz rows)(hg:cr sz rows):cV H sz (.c c)=aa (rows.length,rows.flatten.map .f):=by
 rcases h with⟨rfl,rfl | rfl⟩ | ⟨j,b,ep,rfl,h2⟩
 ·simp [cV,bA,cO]
 ·simp [cV,bA,cO]
 ·have g:=h2.len (o:=0) (l:=rows.length) (c:=0);unfold RB at h2;have d:rows.length*sz=rows.flatten.length:=(bW hg).symm;have hc:cO H sz (.sl b 0 rows.length 0 ep sz)=aa (rows.flatten.map .f):=by
   simp only [cO,h2];rw [bg ⟨trivial,trivial,by rw [at9,d];omega⟩,List.drop_zero,at8 (by rw [at9,d];exact at3 _)]
  simp only [cV,g,hc]
theorem LR.mkB{H:aj}{c:C}{sz:Nat}{rows:List (List FC)}(h:LR H c sz rows)(hg:cr sz rows)(n:Nat){i:Nat}{cs:List C}{fl:Nat}(hi:H[i]?=aa (.box cs fl)):(gD (n+1) c H)[i]?=aa (.box cs fl):=by
 have g:=h.oU hi;rcases h with⟨_,rfl | rfl⟩ | ⟨j,b,ep,rfl,h2⟩
 ·exact hi
 ·exact hi
 ·unfold RB at h2;have e:∃ y,gD (n+1) (.sl b 0 rows.length 0 ep sz) H=H.set b y:=by
   refine⟨.b5 sz (rows.flatten.map .f) (Nat.max 0 (0+rows.length*sz)) ep .loc,?_⟩;simp only [qf,h2];rw [uo];intro x d;have d:=List.mem_of_mem_drop (List.mem_of_mem_take d);obtain⟨m,_,rfl⟩:=auq.1 d;exact⟨_,rfl⟩
  obtain⟨y,e⟩:=e;have:b≠i:=by rintro rfl;exact g rfl
  rw [e,aft this];exact hi
theorem akw:tab.get fo=ab:=by kernel_rfl
theorem F0{sz:Nat}:∀ {rows:List (List FC)} (i:Nat),cr sz rows→i≤rows.length→rows.flatten.take (i*sz)=(rows.take i).flatten∧rows.flatten.drop (i*sz)=(rows.drop i).flatten
 | rows,0,_,_=>by simp
 | [],i+1,_,h=>by simp at h
 | r::rows,i+1,b,h=>by
  have d:r.length=sz:=b r at4;obtain⟨g,j⟩:=F0 (rows:=rows) i (fun x l=>b x (at5 _ l)) (by simpa using h);simp only [List.flatten_cons,List.take_succ_cons,List.drop_succ_cons];rw [Nat.succ_mul,Nat.add_comm,←d,List.take_append,List.drop_append];simp only [Nat.add_sub_cancel_left,at8 (Nat.le_add_right _ _),List.drop_of_length_le (Nat.le_add_right _ _)];rw [d,g,j];simp
theorem abO{f:Nat}{args:List V}{H H':aj}{r:V}(b:f=fo)(h:P1 args H=aa (r,H')):Ev tab (.fn f) args H r H':=by
 subst b;refine⟨0,1,?_⟩;have d:tab.sX fo args H=aa (aa (r,H')):=by
  show(match tab.get fo with | some _=>ab | none=>Km.sX fo args H)=_;rw [akw];simp [sX,h]
 simp only [CF,ey,d]
theorem P4{K:aj}{c:C}{rows:List (List FC)}(v:LR K c 10 rows)(z:cr 10 rows)(S:rows.length≤1000){i:Nat}(hi:i≤rows.length){row:List FC}(d:row.length=10){vb:Nat}(F:K[vb]?=aa (.box (row.map .f) 0)) :
  ∃ m s,Ev tab (.fn 1000000000) [.c c,vi i,.c (.sl vb 0 1 1 0 10)] K (.c m) s∧LR s m 10 (rows.take i++row::rows.drop i)∧Kb K s c∧(bE m=bE c∨bE m=aa K.length):=by
 have l:cV K 10 (.c (.sl vb 0 1 1 0 10))=aa (1,row.map .f):=ri F (by simp [d]);rcases auK i rows.length with B | M
 ·rcases v with⟨rfl,_⟩ | ⟨O,b,ep,rfl,u⟩
  ·simp at B
  ·have g:=u;unfold RB at g;have x:rows.flatten.length=rows.length*10:=bW z;obtain⟨H,I⟩:=F0 i z hi;refine⟨.sl b 0 (rows.length+1) 0 (ep+1) 10,K.set b (.b5 10 (((rows.take i++row::rows.drop i).flatten).map .f) 0 (ep+1) .loc),abO rfl ?_,.inr ⟨by simp,b,ep+1,?_,?_⟩,⟨by simp,fun j y Q E=>?_⟩,.inl rfl⟩
   ·have N:bA K (.sl b 0 rows.length 0 ep 10)=aa rows.length:=by simp [bA,g]
    simp only [P1,N,l];rw [aY (by omega)];simp only [AI,g,F];rw [bg ⟨trivial,trivial,trivial,trivial,trivial,by rw [at9];exact x,trivial,by omega,by omega,by omega,by simp [d]⟩]
    congr 4
    rw [aui,←List.map_take,←av2,H,I];simp
   ·congr 1
    simp only [at6,aur,auo,auf];omega
   ·unfold RB;exact atY (au g)
   ·have:b≠j:=by rintro rfl;exact E rfl
    rw [aft this];exact Q
 ·have A:i=rows.length:=by omega
  subst A;obtain⟨m,H',q,J,u,L⟩:=v.app z (by decide) d (bytes:=112) (nj (by omega) (by decide)) F;refine⟨m,H',abO rfl ?_,by rw [auv,au8];exact J,u,L⟩;simp only [P1,v.len,l];rw [bg trivial];exact q
theorem wO{H:aj}{i:Nat}{y:bz}(h:H[i]?=aa y):H.set i y=H:=by
 obtain⟨b,e⟩:=List.getElem?_eq_some_iff.1 h;rw [←e];exact List.set_getElem_self b
def km:List Int:=[0,0,0,0,0,0,0,0]
def uP(h:dj)(x:bC)(m:List Int)(b:Int)(d:dj)(l:List Int)(c:Int):Prop:=
 (dv h x≠0∧d=jc∧l=km∧c=dv h x)∨(dv h x=0∧b≠0∧d=jc∧l=km∧c=b) ∨
  (dv h x=0∧b=0∧c=0∧l=m∧∃ g,(m[0]?≠aa 0∧d = { h with lg:=g })∨(m[0]?=aa 0∧∃ i,i≤h.l.length∧(∀ j (q:j<h.l.length),j<i→h.l[j].id<x.id)∧(∀ j (q:j<h.l.length),i≤j→x.id<h.l[j].id)∧d=⟨h.clock,h.bP,g,h.l.take i++x::h.l.drop i⟩))
theorem abV(h:dj)(hk:uQ h)(rm:FC)(g0:Tg)(l0:List av)(h0:gH l0)(hl0:l0.length≤3)(x:bC)(hx:Fix x.aR)(n9:∀ y ∈ h.l,Fix y.aR)(rf:List Int)(B:Int)(x9:rf.length=8)
  (E:dv h x=0→∀ g,bo tab 44 [.c (.f rm),.c (.f (sl g (ak (jy l0 h)))),.a (x.aR.row.map .f)]=Eq (.t [.a (QW rf),vi B])) :
  ∃ Z Y c,uP h x rf B Z Y c∧bo tab 16 [.a (h.row.map .f),.c (.f rm),.c (.f (sl g0 (ak l0))),.a (x.row.map .f)]=Eq (.t [.a (Z.row.map .f),.a (QW Y),vi c]):=by
 obtain⟨v,⟨Z,Y,c,hG,rfl⟩,hp⟩:∃ v,(∃ Z Y c,uP h x rf B Z Y c∧v=.t [.a (Z.row.map .f),.a (QW Y),vi c])∧bo tab 16 [.a (h.row.map .f),.c (.f rm),.c (.f (sl g0 (ak l0))),.a (x.row.map .f)] v:=by
  refine dG rfl rfl fun Q hQ=>?_;have hl:=hk.len;have hv:=kX h (by omega);have hhl:h.row.length=3:=rfl;have y7:x.row.length=10:=rfl;apply ai;simp;obtain⟨d,u⟩:=aK ([.box (h.row.map .f) 0,.box (x.row.map .f) 0,.box [.f (fi 0),.f (fi 0),.f .aw] 0,.box mz 0]:aj);have a0:∀ H:aj,H[0]?=aa (.box (h.row.map .f) 0)→aV H (aa 3) (.c (.ptr 0 0 0))=aa (.a (h.row.map .f)):=fun H J=>by simp [J,aT,dj.row]
  have a1:aV d ab (.c (.ptr 0 0 0))=aa (vi h.clock):=by rw [u];simp [aT,dj.row]
  have a2:aV d ab (.c (.ptr 0 2 0))=aa (.c (.f (sl h.lg (aQ h.l)))):=by rw [u];simp [aT,dj.row]
  have x0:aV d ab (.c (.ptr 1 0 0))=aa (vi x.id):=by rw [u];simp [aT,bC.row]
  have x1:aV d ab (.c (.ptr 1 1 0))=aa (vi x.dl):=by rw [u];simp [aT,bC.row]
  have x2:aV d ab (.c (.ptr 1 2 0))=aa (vi x.state):=by rw [u];simp [aT,bC.row]
  have x3:∀ H:aj,H[1]?=aa (.box (x.row.map .f) 0)→aV H (aa 7) (.c (.ptr 1 3 0))=aa (.a (x.aR.row.map .f)):=fun H J=>by simp [J,aT,bC.row,av.row]
  have x4:∀ H:aj,H[1]?=aa (.box (x.row.map .f) 0)→aV H (aa 10) (.c (.ptr 1 0 0))=aa (.a (x.row.map .f)):=fun H J=>by simp [J,aT,bC.row]
  have z0:d[0]?=aa (.box (h.row.map .f) 0):=by rw [u];rfl
  have z1:d[1]?=aa (.box (x.row.map .f) 0):=by rw [u];rfl
  have z2:d[2]?=aa (.box [.f (fi 0),.f (fi 0),.f .aw] 0):=by rw [u];rfl
  have K:d[3]?=aa (.box mz 0):=by rw [u];rfl
  have s2:∀ H:aj,H[2]?=aa (.box [.f (fi 0),.f (fi 0),.f .aw] 0)→dh H (.ptr 2 0 0) [.f (fi 0),.f (fi 0),.f .aw]=aa H:=fun H J=>by
   simp [J];exact wO J
  have s3:∀ H:aj,H[3]?=aa (.box mz 0)→dh H (.ptr 3 0 0) [.f (fi 0),.f (fi 0),.f (fi 0),.f (fi 0),.f (fi 0),.f (fi 0),.f (fi 0),.f (fi 0)]=aa H:=fun H J=>by
   simp [J,mz];exact wO J
  simp only [mz]at u;rw [←u];have g_:∀(c:Int),uP h x rf B jc km c→∀(t:T) (H:aj) (k:List cZ),H[2]?=aa (.box [.f (fi 0),.f (fi 0),.f .aw] 0)→H[3]?=aa (.box mz 0)→t.g 8=.c (.ptr 2 0 0)→t.g 9=.c (.ptr 3 0 0)→t.g 10=vi c→WP tab 16 ab (.code .ret::k) ⟨t,[],H⟩ Q:=by
   intro c hG t H k K z4 g6 g7 g8;have q3:aV H (aa 3) (.c (.ptr 2 0 0))=aa (.a [.f (fi 0),.f (fi 0),.f .aw]):=by simp [K,aT]
   have q4:aV H (aa 8) (.c (.ptr 3 0 0))=aa (.a mz):=by simp [z4,aT,mz]
   refine aC (hQ _ _ (.t [.a (jc.row.map .f),.a (QW km),vi c]) ⟨jc,km,c,hG,rfl⟩ ?_);simp [Km.results,bj,g6,g7,g8,q3,q4,iZ,cD,deep,jc,dj.row,mz,sl,Tg.fc,aQ,QW,km,-aA]
  have bad:dv h x=1→∀ t:T,t.g 8=.c (.ptr 2 0 0)→t.g 9=.c (.ptr 3 0 0)→t.g 35=vb ae→WP tab 16 ab [.code Fj,.code Fk] ⟨t,[],d⟩ Q:=by
   intro he t g8 g9 g;refine aq (by simp [g]) (ai ?_);simp [g8,g9,s2 d z2,s3 d K,-bl];exact g_ 1 (.inl ⟨by omega,rfl,rfl,he.symm⟩) _ _ _ z2 K (by simp [g8]) (by simp [g9]) (by simp)
  apply al;apply al;refine an (.inl rfl) ?_;cases hB:cW h
  case false=>
   simp [a0 d z0,hv,hB,-aA];exact bad (by simp [dv,hB]) _ (by simp) (by simp) (by simp)
  by_cases k1:x.id<1
  ·simp [a0 d z0,hv,hB,x0,k1,-aA];exact bad (by simp [dv,k1]) _ (by simp) (by simp) (by simp)
  by_cases k2:x.state=1
  case neg=>
   simp [a0 d z0,hv,hB,x0,x2,k1,k2,-aA];exact bad (by simp [dv,k2]) _ (by simp) (by simp) (by simp)
  cases m:iL x.dl
  case false=>
   simp [a0 d z0,hv,hB,x0,x1,x2,k1,k2,vZ,m,-aA];exact bad (by simp [dv,m]) _ (by simp) (by simp) (by simp)
  simp [a0 d z0,hv,hB,x0,x1,x2,k1,k2,vZ,m,-aA];refine bw (by simp) ?_;obtain⟨i,hi,q_,i8,i7⟩:=F' h (by omega) hB x.id;have z:=yJ hB q_ i8;apply ai;simp [a0 d z0,x0,i7,-aA];apply al;refine aF ?_;apply ai;simp;cases hf:uj h.l i x.id
  case true=>
   rw [hf]at z;simp at z;have he:dv h x=5:=by simp [dv,hB,k1,k2,m,z]
   refine aq (by simp) (ai ?_);simp [s2 d z2,s3 d K,-bl];exact g_ 5 (.inl ⟨by omega,rfl,rfl,he.symm⟩) _ _ _ z2 K (by simp) (by simp) (by simp)
  have n_:∀ j (hj:j<h.l.length),i≤j→x.id<h.l[j].id:=fun j hj v9=>by
   have h1:=i8 j hj v9;have hne:h.l[j].id≠x.id:=by
    intro e;by_cases v_:j=i
    ·subst v_;simp [uj,hj,e]at hf
    ·have s8:=(eH.1 hB).2.2.2;rw [auQ]at s8;have:=s8 i j (by omega) hj (by omega);have:=i8 i (by omega) (at3 _);omega
   omega
  rw [hf]at z;simp at z;refine aD (by simp) ?_;apply ai;by_cases k3:x.dl<h.clock
  ·have he:dv h x=17:=by simp [dv,hB,k1,k2,m,z,k3]
   simp [x1,a1,k3,-aA];refine aq (by simp) (ai ?_);simp [s2 d z2,s3 d K,-bl];exact g_ 17 (.inl ⟨by omega,rfl,rfl,he.symm⟩) _ _ _ z2 K (by simp) (by simp) (by simp)
  have he:dv h x=0:=by simp [dv,hB,k1,k2,m,z,k3]
  have E:=E he;simp [x1,a1,k3,-aA];refine aD (by simp) ?_;apply ai;simp [a2,show¬ (h.l.length:Int)=4096 by omega,-aA];refine aD (by simp) (aO (az ?_));obtain⟨r1,H1,h_,c1,rfl,i9,j9,hb1⟩:=yC h (by omega) n9 g0 l0 (by omega) d;have h_:=h_.eq;obtain⟨o,ho⟩:=aK (uniq l0 [] (bh h.l));rw [←ho]at j9;have hol:o.length≤9:=by
   have h2:=nw (l0:=l0) (acc:=[]) (l:=bh h.l);have h3:=vT h;rw [ho];simp at h2;omega
  obtain⟨H2,b9⟩:=aK (H1++[.box [.f (sl g0 (ak l0)),c1] 0]:aj);have q2:H2[H1.length]?=aa (.box [.f (sl g0 (ak l0)),c1] 0):=by rw [b9];simp
  have i_:Kp d H2:=by rw [b9];exact⟨by have:=i9.1;simp;omega,fun b' l=>by rw [anc (auE l i9.1)];exact i9.2 b' l⟩
  have t_:LR H2 c1 7 (ak o):=by rw [b9];exact j9.push _
  obtain⟨r3,H3,a8,c3,rfl,f_,w9,w_,hbc⟩:=yD (tab:=tab) (H:=H2) (F:=40) (G:=73) (sz:=7) (bytes:=88) (zs:=[fi 0,fi 0,fi 0,fi 0,.aw,fi 0,.aw]) amJ amQ (by decide) rfl (b:=H1.length) [(.f (sl g0 (ak l0)),ak l0),(c1,ak o)] q2 (by simp)
   (fun y s=>by
    simp only [auc,auT,or_false]at s;rcases s with rfl | rfl
    ·exact⟨aS _,fun H' _=>⟨by simp,mI (aS _)⟩⟩
    ·refine⟨aS _,fun H' t7=>?_⟩;have:LR H' c1 7 (ak o):=t_.cM fun i y s _=>by rw [t7 i (au s)];exact s
     exact⟨this.len,LR.added this (aS _)⟩)
   (by simp;omega) (nj (by simp;omega) (by decide))
  have a8:Ev tab (.fn 40) [.c (.sl H1.length 0 2 2 0 1)] H2 (.c c3) H3:=a8;have a8:=a8.eq;have y6:ak (l0++o)=ak l0++ak o:=by simp [ak]
  have f_:LR H3 c3 7 (ak (l0++o)):=by rw [y6];simpa using f_
  have o_:Kp d H3:=⟨aum i_.1 w_,fun b' l=>(w9 b' (auE l i_.1)).trans (i_.2 b' l)⟩
  obtain⟨r4,H4,i4,rfl,t8,o',k_,x8,x_⟩:=GP f_ (by simp;omega);have i4:=i4.eq;have x6:o'=jy l0 h:=by
   unfold jy;rw [←ho];exact zw (by rw [ho];exact nE h0 h) x8 x_
  subst x6;have s9:∀(i:Nat) cs fl,d[i]?=aa (.box cs fl)→H4[i]?=aa (.box cs fl):=fun i cs fl s=>by
   have h3:H3[i]?=aa (.box cs fl):=by rw [o_.2 i (au s)];exact s
   exact t8.2 i _ h3 (f_.oU h3)
  obtain⟨g,v6⟩:=k_.ex (aS _) 63;have E:=E g;obtain⟨H5,j8⟩:=aK (gD 64 c3 H4:aj);have up5:∀(i:Nat) cs fl,d[i]?=aa (.box cs fl)→H5[i]?=aa (.box cs fl):=fun i cs fl s=>by rw [j8];exact LR.mkB k_ (aS _) 63 (s9 i cs fl s)
  obtain⟨I,M,N,O,S,U,W,X,rfl⟩:∃ I M N O S U W X,rf=[I,M,N,O,S,U,W,X]:=by
   match rf,x9 with
   | [I,M,N,O,S,U,W,X],_=>exact⟨_,_,_,_,_,_,_,_,rfl⟩
  obtain⟨H6,b_⟩:=aK (H5++[.box (QW [I,M,N,O,S,U,W,X]) 0]:aj);have q:∀(i:Nat) cs fl,d[i]?=aa (.box cs fl)→H6[i]?=aa (.box cs fl):=fun i cs fl s=>by
   have:=up5 i cs fl s;rw [b_,anc (au this)];exact this
  obtain⟨p6,r5⟩:=aK (H5.length);have r6:H6[p6]?=aa (.box (QW [I,M,N,O,S,U,W,X]) 0):=by rw [b_,r5];simp
  apply ai;simp [a0 d z0,h_,-aA];rw [←b9];simp [a8];apply ai;simp [i4];apply ai;simp only [QW,aug,aus]at E b_ r6;simp [x3 H4 (s9 1 _ _ z1),iZ,cD,deep,v6,E,-aA];rw [←j8]
  try simp
  rw [←b_,←r5];apply al;apply al;refine an (.inl rfl) ?_;simp;by_cases hc:B=0
  case neg=>
   refine aq (by simp [hc]) (ai ?_);simp [s2 H6 (q 2 _ _ z2),s3 H6 (q 3 _ _ K),-bl];exact g_ B (.inr (.inl ⟨he,hc,rfl,rfl,rfl⟩)) _ _ _ (q 2 _ _ z2) (q 3 _ _ K) (by simp) (by simp) (by simp)
  subst hc;refine bw (by simp) ?_;obtain⟨r7,H7,i5,c7,rfl,p_,l_,u6⟩:=yE h (by omega) n9 H6;have i5:=i5.eq;have up7:∀(i:Nat) cs fl,H6[i]?=aa (.box cs fl)→H7[i]?=aa (.box cs fl):=fun i cs fl s=>by rw [p_.2 i (au s)];exact s
  obtain⟨p8,r_⟩:=aK (H7.length);obtain⟨L,c_⟩:=aK (H7++[.box [.f (fi h.clock),.f (fi h.bP),c7] 0]:aj);have A:∀(i:Nat) cs fl,H6[i]?=aa (.box cs fl)→L[i]?=aa (.box cs fl):=fun i cs fl s=>by
   have:=up7 i cs fl s;rw [c_,anc (au this)];exact this
  have r8:L[p8]?=aa (.box [.f (fi h.clock),.f (fi h.bP),c7] 0):=by rw [c_,r_];simp
  have m4:LR L c7 10 (aQ h.l):=by rw [c_];exact l_.push _
  have l67:=p_.1;have m_:∀ i,bE c7=aa i→4≤i∧i≠p6∧i≠p8:=fun i e=>by
   have h1:=u6 i e;have h2:=l_.lt e;have h3:=au (q 3 _ _ K);have h4:=au r6;omega
  apply ai;simp [a0 H6 (q 0 _ _ z0),i5,-aA];rw [←c_,←r_];have j5:∀(t:T) (H:aj) (l:List bC) (c:C),t.g 8=.c (.ptr 2 0 0)→t.g 9=.c (.ptr 3 0 0)→t.g 14=.c (.ptr p6 0 0)→t.g 16=.c (.ptr p8 0 0)→H[2]?=aa (.box [.f (fi 0),.f (fi 0),.f .aw] 0)→H[3]?=aa (.box mz 0)→H[p6]?=aa (.box [.f (fi I),.f (fi M),.f (fi N),.f (fi O),.f (fi S),.f (fi U),.f (fi W),.f (fi X)] 0)→H[p8]?=aa (.box [.f (fi h.clock),.f (fi h.bP),c] 0)→LR H c 10 (aQ l)→(∀ i,bE c=aa i→i≠2∧i≠3) →
    (∀ g,uP h x [I,M,N,O,S,U,W,X] 0 ⟨h.clock,h.bP,g,l⟩ [I,M,N,O,S,U,W,X] 0)→WP tab 16 ab [.code A6] ⟨t,[],H⟩ Q:=by
   intro t H l c g8 g9 j6 j7 w2 w3 w6 w8 hL u9 hG;obtain⟨g,hg⟩:=hL.exU (bQ _);have l3:aV H (aa 3) (.c (.ptr p8 0 0))=aa (.a [.f (fi h.clock),.f (fi h.bP),c]):=by simp [aV,aG,w8,aT]
   have l8:aV H (aa 8) (.c (.ptr p6 0 0))=aa (.a [.f (fi I),.f (fi M),.f (fi N),.f (fi O),.f (fi S),.f (fi U),.f (fi W),.f (fi X)]):=by simp [aV,aG,w6,aT]
   obtain⟨Ha,a7⟩:=aK (H.set 2 (.box [.f (fi h.clock),.f (fi h.bP),c] 0));have t1:dh H (.ptr 2 0 0) [.f (fi h.clock),.f (fi h.bP),c]=aa Ha:=by rw [a7];simp [dh,w2,bp]
   have s_:Ha[3]?=aa (.box mz 0):=by rw [a7,aft (by omega)];exact w3
   obtain⟨Hb,d_⟩:=aK (Ha.set 3 (.box [.f (fi I),.f (fi M),.f (fi N),.f (fi O),.f (fi S),.f (fi U),.f (fi W),.f (fi X)] 0));have t2:dh Ha (.ptr 3 0 0) [.f (fi I),.f (fi M),.f (fi N),.f (fi O),.f (fi S),.f (fi U),.f (fi W),.f (fi X)]=aa Hb:=by rw [d_];simp [dh,s_,bp,mz]
   have y2:Hb[2]?=aa (.box [.f (fi h.clock),.f (fi h.bP),c] 0):=by rw [d_,aft (by omega),a7];exact atY (au w2)
   have y3:Hb[3]?=aa (.box [.f (fi I),.f (fi M),.f (fi N),.f (fi O),.f (fi S),.f (fi U),.f (fi W),.f (fi X)] 0):=by rw [d_];exact atY (au s_)
   have v8:=hg Hb 63 (fun i y s hi=>by
    have:=u9 i hi;rw [d_,aft (by omega),a7,aft (by omega)];exact s)
   have m3:aV Hb (aa 3) (.c (.ptr 2 0 0))=aa (.a [.f (fi h.clock),.f (fi h.bP),c]):=by simp [aV,aG,y2,aT]
   have m8:aV Hb (aa 8) (.c (.ptr 3 0 0))=aa (.a [.f (fi I),.f (fi M),.f (fi N),.f (fi O),.f (fi S),.f (fi U),.f (fi W),.f (fi X)]):=by simp [aV,aG,y3,aT]
   have atJ:c.beq c=ae:=by
    rcases hL with⟨_,rfl | rfl⟩ | ⟨_,b,ep,rfl,_⟩<;>simp [C.beq,FC.beq]
   have y_:aV Ha (aa 8) (.c (.ptr p6 0 0))=aa (.a [.f (fi I),.f (fi M),.f (fi N),.f (fi O),.f (fi S),.f (fi U),.f (fi W),.f (fi X)]):=by
    have:Ha[p6]?=H[p6]?:=by rw [a7,aft (by have:=au (q 3 _ _ K);intro e;rw [←e]at w6;rw [w2]at w6;simp at w6)]
    simp [aV,aG,this,w6,aT]
   refine al (fe (.inl rfl) ?_ ?_)
   case _=>
    simp [g8,g9,j6,j7,l3,l8,t1,t2,-aA,-bl];refine aC (hQ _ _ (.t [.a ((⟨h.clock,h.bP,g,l⟩:dj).row.map .f),.a (QW [I,M,N,O,S,U,W,X]),vi 0]) ⟨_,_,_,hG g,rfl⟩ ?_);simp [Km.results,bj,g8,g9,m3,m8,iZ,cD,deep,dj.row,v8,QW,-aA]
   ·intro cc u_;rw [aua.1 u_];refine⟨by decide,_,rfl,.inl ⟨by decide,?_⟩⟩;simp [g8,j6,j7,l3,l8,y_,t1,gl,V.beq,iG,C.beq,FC.beq,-aA,-bl]
  have z8:aV L ab (.c (.ptr p6 0 0))=aa (vi I):=by simp [aV,aG,A _ _ _ r6]
  apply al;apply ai;simp [z8,-aA];by_cases J:I=0
  case neg=>
   refine bw (by simp [J]) ?_;exact j5 _ L h.l c7 (by simp) (by simp) (by simp) (by simp) (A 2 _ _ (q 2 _ _ z2)) (A 3 _ _ (q 3 _ _ K)) (A _ _ _ r6) r8 m4 (fun i e=>by have:=m_ i e;omega) fun g=>.inr (.inr ⟨he,rfl,rfl,rfl,g,.inl ⟨by simp [J],rfl⟩⟩)
  refine aq (by simp [J]) ?_;have e1:=A 1 _ _ (q 1 _ _ z1);have sx:dh L (.ptr 1 3 0) (x.aR.row.map .f)=aa L:=by
   simp [e1,av.row,bC.row,bp];exact wO e1
  unfold Fix at hx;have y8:(x.aR.row.map C.f).length=7:=rfl;apply ai;simp [x3 L e1,hx,y8,sx,-aA,-bl];obtain⟨p9,s7⟩:=aK (L.length);obtain⟨H9,d9⟩:=aK (L++[.box (x.row.map .f) 0]:aj);have r9:H9[p9]?=aa (.box (x.row.map .f) 0):=by rw [d9,s7];simp
  have a_:∀(i:Nat) cs fl,L[i]?=aa (.box cs fl)→H9[i]?=aa (.box cs fl):=fun i cs fl s=>by
   rw [d9,anc (au s)];exact s
  have m9:LR H9 c7 10 (aQ h.l):=by rw [d9];exact m4.push _
  obtain⟨c9,K9,i6,j_,t9,u7⟩:=P4 m9 (bQ _) (by simp;omega) (i:=i) (by simpa using hi) (row:=x.row) rfl r9;have i6:=i6.eq;have z9:aV L ab (.c (.ptr p8 2 0))=aa (.c c7):=by simp [aV,aG,r8]
  have k9:∀(j:Nat) cs fl,L[j]?=aa (.box cs fl)→K9[j]?=aa (.box cs fl):=fun j cs fl s=>t9.2 j _ (a_ j _ _ s) (m9.oU (a_ j _ _ s));obtain⟨Kc,e_⟩:=aK (K9.set p8 (.box [.f (fi h.clock),.f (fi h.bP),c9] 0));have z_:dh K9 (.ptr p8 2 0) [c9]=aa Kc:=by rw [e_];simp [dh,k9 _ _ _ r8,bp]
  have l48:p8<H9.length:=by have:=au (a_ _ _ _ r8);exact this
  have n8:∀ j,bE c9=aa j→4≤j∧j≠p6∧j≠p8:=fun j e=>by
   rcases u7 with e1 | e1
   ·exact m_ j (by rw [←e1];exact e)
   ·rw [e1]at e;cases e;have h3:=au (a_ _ _ _ (A 3 _ _ (q 3 _ _ K)));have h4:=au (a_ _ _ _ (A _ _ _ r6));omega
  have j4:aQ (h.l.take i++x::h.l.drop i)=(aQ h.l).take i++x.row ::(aQ h.l).drop i:=by simp [aQ,List.map_take,av2]
  have u5:LR Kc c9 10 (aQ (h.l.take i++x::h.l.drop i)):=by
   rw [e_,j4];exact j_.set (fun e=>by have:=n8 _ e;omega) _
  have kc:∀(j:Nat) cs fl,L[j]?=aa (.box cs fl)→j≠p8→Kc[j]?=aa (.box cs fl):=fun j cs fl s hj=>by rw [e_,aft (Ne.symm hj)];exact k9 j _ _ s
  have lp6:=au r6;have lp3:=au (q 3 _ _ K);refine an (.inl rfl) ?_;simp [z9,x4 L e1,y7,-aA];rw [←d9,←s7];simp [i6,z_,-bl];exact j5 _ Kc _ c9 (by simp) (by simp) (by simp) (by simp) (kc 2 _ _ (A 2 _ _ (q 2 _ _ z2)) (by omega)) (kc 3 _ _ (A 3 _ _ (q 3 _ _ K)) (by omega)) (kc _ _ _ (A _ _ _ r6) (by omega)) (by rw [e_];exact atY (au (k9 _ _ _ r8))) u5 (fun j e=>by have:=n8 j e;omega) fun g=>.inr (.inr ⟨he,rfl,rfl,rfl,g,.inr ⟨by simp [J],i,hi,q_,n_,rfl⟩⟩)
 exact⟨Z,Y,c,hG,hp.eq⟩
def mD:List (List Int)→List Int
 | []=>km| r::l=>if r.headD 0=0 then mD l else r
def wK:List Nat:=[77,78,79,80]
theorem uW:∀ {b:List (List Int)},(∀ r ∈ b,r.length=8)→(mD b).length=8
 | [],_=>rfl
 | r::l,h=>by
  unfold mD;split
  ·exact uW fun y d=>h y (at5 _ d)
  ·exact h r at4
theorem abb(af q:Int)(g:Tg)(ss:List av)(J:ss.length≤1000)(L:ss.Pairwise eL)(K:∀ s ∈ ss,s.st.Sm)(x:av)(M:x.st.Sm)(m:(eX af q ss x&&!fh ss x)=ag) :
  bo tab 44 [.c (.f (fR af q)),.c (.f (sl g (ak ss))),.a (x.row.map .f)]=Eq (.t [qN km,vi 1]):=bo.eq (by
 refine bV rfl rfl fun Q I=>?_;have l:=FP af q g ss J L K x M;have v:x.row.length=7:=rfl;obtain⟨S,z⟩:=aK (sl g (ak ss));obtain⟨O,y⟩:=aK (fR af q);rw [←z,←y]at l ⊢;apply ai;simp [v];obtain⟨j,d⟩:=aK ([bz.box (x.row.map .f) 0,.box [.f (fi 0),.f (fi 0),.f (fi 0),.f (fi 0),.f (fi 0),.f (fi 0),.f (fi 0),.f (fi 0)] 0]:aj);have F:j[0]?=aa (.box (x.row.map .f) 0):=by rw [d];rfl
 have A:j[1]?=aa (.box [.f (fi 0),.f (fi 0),.f (fi 0),.f (fi 0),.f (fi 0),.f (fi 0),.f (fi 0),.f (fi 0)] 0):=by rw [d];rfl
 have E:aV j (aa 7) (.c (.ptr 0 0 0))=aa (.a (x.row.map .f)):=by simp [aV,aG,F,aT,av.row]
 have N:dh j (.ptr 1 0 0) [.f (fi 0),.f (fi 0),.f (fi 0),.f (fi 0),.f (fi 0),.f (fi 0),.f (fi 0),.f (fi 0)]=aa (j.set 1 (.box [.f (fi 0),.f (fi 0),.f (fi 0),.f (fi 0),.f (fi 0),.f (fi 0),.f (fi 0),.f (fi 0)] 0)):=by simp [dh,A,bp]
 rw [←d];have b:∀ t:T,t.g 6=.c (.ptr 1 0 0)→t.g 9=vb ag→WP tab 44 ab [.code uJ] ⟨t,[],j⟩ Q:=by
  intro t B H;apply al;apply ai;simp [H];refine aq (by simp) ?_;apply ai;simp [B,N,-bl];refine aC (I _ _ ?_);simp [Km.results,bj,B,au A,aT,qN,km]
 apply ai;cases u:eX af q ss x with
 | false=>
  rw [u]at l;simp [E,l,-aA];exact b _ (by simp) (by simp)
 | true=>
  rw [u,Bool.true_and,Bool.not_eq_false']at m;rw [u,m]at l;simp [E,l,-aA];exact b _ (by simp) (by simp))
theorem abc(af M:Int)(g:Tg)(ss:List av)(hl:ss.length≤1000)(hs:ss.Pairwise eL)(hm:∀ s ∈ ss,s.st.Sm)(x:av)(hx:x.st.Sm)(I:(eX af M ss x&&!fh ss x)=ae)
  (y:List (List Int)) (i4:y.length=4) (h8:∀ r ∈ y,r.length=8)
  (hr:∀(i:Nat) (h:i<4) (K:aj),∃ A,Ev tab (.fn (wK[i]'h)) [.c (.f (eg (fR af M) (sl g (ak ss)) x))] K (.t [qN (y[i]'(by omega)),vi 0]) A∧Kp K A) :
  bo tab 44 [.c (.f (fR af M)),.c (.f (sl g (ak ss))),.a (x.row.map .f)]=Eq (.t [qN (mD y),vi 0]):=by
 obtain⟨r,rfl,hp⟩:∃ r,r=.t [qN (mD y),vi 0]∧bo tab 44 [.c (.f (fR af M)),.c (.f (sl g (ak ss))),.a (x.row.map .f)] r:=by
  refine dG (S:=fun r=>r=.t [qN (mD y),vi 0]) amA rfl fun Q hQ=>?_;have Z:=FP af M g ss hl hs hm x hx;rw [Bool.and_eq_true,auZ]at I;rw [I.1,I.2]at Z;have h_:x.row.length=7:=rfl;obtain⟨b,v⟩:=aK (mD y);have g_:b.length=8:=by rw [v];exact uW h8
  rw [←v]at hQ;simp only [eg]at Z hr;obtain⟨sd,b_⟩:=aK (sl g (ak ss));obtain⟨rm,b9⟩:=aK (fR af M);rw [←b_,←b9]at Z ⊢;rw [←b_,←b9]at hr;obtain⟨cd,d_⟩:=aK ([rm,sd]++x.row);rw [←d_]at Z hr;apply ai;simp [h_];obtain⟨B,z⟩:=aK ([bz.box (x.row.map .f) 0,.box [.f (fi 0),.f (fi 0),.f (fi 0),.f (fi 0),.f (fi 0),.f (fi 0),.f (fi 0),.f (fi 0)] 0]:aj);have c0:B[0]?=aa (.box (x.row.map .f) 0):=by rw [z];rfl
  have c1:B[1]?=aa (.box [.f (fi 0),.f (fi 0),.f (fi 0),.f (fi 0),.f (fi 0),.f (fi 0),.f (fi 0),.f (fi 0)] 0):=by rw [z];rfl
  have n0:B.length=2:=by rw [z];rfl
  have l7:aV B (aa 7) (.c (.ptr 0 0 0))=aa (.a (x.row.map .f)):=by simp [aV,aG,c0,aT,av.row]
  rw [←z];have O:∀(t:T) (K:aj) (j:Option aE),t.g 6=.c (.ptr 1 0 0)→t.g 7=vi 0→K[1]?=aa (.box (b.map fun n=>.f (fi n)) 0)→Q j ⟨t,[],K⟩:=by
   intro t K j l g7 L;refine hQ _ _ _ rfl ?_;refine⟨rfl,.t [qN b,vi 0],?_,?_⟩
   ·simp [Km.results,cN,bj,l,g7,aV,aG,L,aT,g_,at8,qN]
   ·have hx:(b.map fun n=>C.f (fi n))=(b.map fun n=>fi n).map C.f:=by simp
    simp only [qN,hx];generalize (b.map fun n=>fi n)=ys;simp [iZ,cD,bj,deep]
  have go:∀ t:T,t.g 6=.c (.ptr 1 0 0)→t.g 8=.c (.f (.fp cd 0))→t.g 9=vb ae→WP tab 44 ab [.code uJ] ⟨t,[],B⟩ Q:=by
   intro t l g8 g9;apply al;apply ai;simp [g9];refine bw (by simp) ?_;apply al;apply ai;obtain⟨J,u⟩:=aK (B++[bz.box (wK.map fun f=>C.bm f [.f (.fp cd 0)]) 0]:aj);have k1:Kp B J:=by rw [u];exact Kp.push _ _
   have b1:J[2]?=aa (.box (wK.map fun f=>C.bm f [.f (.fp cd 0)]) 0):=by rw [u,←n0];simp
   have n1:J.length=3:=by rw [u];simp [n0]
   simp only [wK,aug,aus]at u;have a_:bA J (.sl 2 0 4 4 0 1)=aa 4:=by simp [bA,b1]
   simp [g8,n0];rw [←u];simp [a_];refine bR 4 (fun j t K=>t.g 6=.c (.ptr 1 0 0)∧t.g 32=.c (.sl 2 0 4 4 0 1)∧Kp J K∧mD (y.drop j)=b) (by omega) (by decide) (by decide) (by simp) (by simp) ⟨by simp [l],by simp,⟨at3 _,fun _ _=>rfl⟩,by simpa using v.symm⟩ ?_ ?_
   ·rintro j t K hj ⟨l,d,hK,H⟩ Y L next
    have a7:j<y.length:=by omega
    obtain⟨A,f_,d9⟩:=hr j hj K;have N:=hK.get b1;have q:=h8 _ (at2 a7);rw [at7 a7,mD]at H;have i1:bG K 1 ab (.c (.sl 2 0 4 4 0 1)) (vi (j:Int))=aa (.c (.ptr 2 j 0)):=by
     simp [bG,show ik (vi (j:Int))=aa (j:Int) from rfl,N];omega
    have i2:aV K ab (.c (.ptr 2 j 0))=aa (.c (.bm (wK[j]'hj) [.f (.fp cd 0)])):=by
     rw [aA,N];exact xd (by rw [auM,asZ (show j<wK.length from hj)];rfl)
    generalize y[j]=r at *;generalize wK[j]=f at *;refine aF ?_;apply ai;simp [d,Y,i1,i2,-aA];obtain⟨E,F⟩:=aK (A++[bz.box (r.map fun n=>.f (fi n)) 0]);have d2:E[A.length]?=aa (.box (r.map fun n=>.f (fi n)) 0):=by rw [F];simp
    have a8:Kp J E:=(hK.tr d9).tr (by rw [F];exact Kp.push _ _);have l0:aV E ab (.c (.ptr A.length 0 0))=aa (vi (r.headD 0)):=by
     match r,q with
     | p0::_,_=>simp [aV,aG,d2]
    have l8:aV E (aa 8) (.c (.ptr A.length 0 0))=aa (.a (r.map fun n=>.f (fi n))):=by
     simp [aV,aG,d2,aT,q,at8]
    apply al;refine an (.inl rfl) ?_;simp [f_.eq,qN,q,-aA];rw [←F]
    suffices c_:∀ w:T,w.g 6=.c (.ptr 1 0 0)→w.g 12=.c (.ptr A.length 0 0)→w.g 13=vi 0→w.g 32=.c (.sl 2 0 4 4 0 1)→w.g 33=vi (4:Nat)→w.g 34=vi (j:Nat)→WP tab 44 ab [.code xQ,.inBlock 1,.code (rZ 34 52),.inLoop (iu 0 34 33 35 52 xP),.inBlock 0,.code xR] ⟨w,[],E⟩ Q by
     exact c_ _ (by simp [l]) (by simp) (by simp) (by simp [d]) (by simpa using L) (by simp [Y])
    clear l d Y L;intro w l U W d L Y;apply al;refine an (.inl rfl) ?_;simp [U,W,l0,-aA];by_cases h0:r.headD 0=0
    ·rw [bg h0]at H;refine aD (by simpa using h0) (aO ?_);exact az (next _ _ ⟨by simp [l],by simp [d],a8,H⟩ (by simp [Y]) (by simp [L]))
    ·rw [aY h0]at H;refine aq (by simpa using h0) ?_;have m:=a8.get (k1.get c1);obtain⟨K3,X⟩:=aK (E.set 1 (.box (r.map fun n=>.f (fi n)) 0));have s1:dh E (.ptr 1 0 0) (r.map fun n=>.f (fi n))=aa K3:=by
      rw [X]
      match r,q with
      | [p0,p1,p2,p3,p4,p5,p6,p7],_=>simp [dh,m,bp]
     apply ai;simp [l,U,W,l8,q,s1,-aA,-bl];refine aC (O _ _ _ (by simp [l]) (by simp) ?_);rw [X,atY (au m),H]
   ·rintro t K ⟨l,d,hK,H⟩ - -;have e_:b=km:=by
     rw [←H,List.drop_of_length_le (by omega)];rfl
    have m:=hK.get (k1.get c1);have s1:dh K (.ptr 1 0 0) [.f (fi 0),.f (fi 0),.f (fi 0),.f (fi 0),.f (fi 0),.f (fi 0),.f (fi 0),.f (fi 0)]=aa (K.set 1 (.box [.f (fi 0),.f (fi 0),.f (fi 0),.f (fi 0),.f (fi 0),.f (fi 0),.f (fi 0),.f (fi 0)] 0)):=by simp [dh,m,bp]
    apply ai;simp [l,s1,-bl];refine aC (O _ _ _ (by simp [l]) (by simp) ?_);rw [atY (au m),e_];rfl
  apply ai;simp [l7,Z,-aA];exact go _ (by simp) (by simp) (by simp)
 exact hp.eq
def oO(s:aJ)(d:Int):Bool:=s.cs.any fun c=>c.ts.any fun t=>t.fs.all fun f=>decide (d % f.eS=f.jR.headD 0)
def Er(s:aJ):Int:=match s.cs with
 | c::_=>c.min| []=>0
theorem jx.has{s:aJ}{n p mi:Int}(h:jx s n p mi)(d:Int):oO s d=vW n p d:=by
 simp [oO,h.cs,td,pd,vW];exact decide_eq_decide.2 Iff.rfl
theorem jx.min{s:aJ}{n p mi:Int}(h:jx s n p mi):Er s=mi:=by simp [Er,h.cs]
def wkJ(s:aJ)(q:Int):List Nat:=(List.range 7).filter fun j=>oO s (7*q+(j:Int))
def wkL(s:aJ)(q:Int):List aI:=(wkJ s q).map fun j:Nat=>cQ s.len (Er s) (7*q+(j:Int))
def jI(s:aJ)(q:Int):List aI:=if q<0 then []else wkL s q
def ng(s:aJ)(q:Int):Int:=if q<0 then 0 else s.len*((wkJ s q).length:Int)
theorem aoJ(s:aJ)(q:Int):(wkL s q).Pairwise aI.lt:=by
 unfold wkL wkJ;refine List.pairwise_map.2 (List.Pairwise.imp (fun {a b} h=>?_) (List.pairwise_lt_range.filter _));unfold aI.lt cQ;simp only;omega
theorem akF{s:aJ}{n p mi:Int}(h:jx s n p mi){q:Int}(z:0≤q)(x:aI):x ∈ wkL s q↔Dq s n p mi q x:=by
 have h0:=h.m0;have u:=h.m1;have l:PU q mi=7*q:=by unfold PU;omega
 unfold wkL wkJ Dq;rw [h.min,l];constructor
 ·intro m;obtain⟨j,g,rfl⟩:=auq.1 m;obtain⟨g,b⟩:=auS.1 g;have:=avb.1 g;rw [h.has]at b;exact⟨7*q+j,rfl,by omega,by omega,b⟩
 ·rintro⟨d,rfl,v,y,b⟩;refine auq.2 ⟨(d-7*q).toNat,auS.2 ⟨avb.2 (by omega),?_⟩,?_⟩
  ·rw [h.has,show 7*q+(((d-7*q).toNat:Nat):Int)=d by omega];exact b
  ·rw [show 7*q+(((d-7*q).toNat:Nat):Int)=d by omega]
theorem acn:∀ {l m:List aI},l.Pairwise aI.lt→m.Pairwise aI.lt→(∀ x,x ∈ l↔x ∈ m)→l=m
 | [],[],_,_,_=>rfl| [],y::m,_,_,h=>absurd ((h y).2 at4) (by simp)
 | x::l,[],_,_,h=>absurd ((h x).1 at4) (by simp)
 | x::l,y::m,j,q,h=>by
  have a1:=auN.1 j;have d:=auN.1 q;have e:x=y:=by
   rcases auc.1 ((h x).1 at4)with e | e
   ·exact e
   ·rcases auc.1 ((h y).2 at4)with g | g
    ·exact g.symm
    ·exact absurd (aI.lt_trans (d.1 x e) (a1.1 y g)) aI.Ei
  subst e;have:l=m:=acn a1.2 d.2 fun z=>by
   constructor
   ·intro b;rcases auc.1 ((h z).1 (at5 _ b))with e | e
    ·exact absurd (e▸a1.1 z b) aI.Ei
    ·exact e
   ·intro b;rcases auc.1 ((h z).2 (at5 _ b))with e | e
    ·exact absurd (e▸d.1 z b) aI.Ei
    ·exact e
  rw [this]
theorem yx(s:aJ){n p mi:Int}(b:jx s n p mi)(q:Int)(j:-1≤q)(l:q≤100):∃ g,bo tab 128 [.a (s.row.map .f),vi q]=Eq (.c (.f (sl g (aH (jI s q))))):=by
 obtain⟨g,L,⟨m,u⟩,-,v⟩:=O_ s b q j l;refine⟨g,?_⟩;have e:L=jI s q:=by
  unfold jI;split
  ·refine List.eq_nil_iff_forall_not_mem.2 fun x A=>?_;obtain⟨d,-,y,z,-⟩:=(u x).1 A;have h0:=b.m0;have m:=b.m1;unfold PU at y z;omega
  ·exact acn m (aoJ s q) fun x=>by rw [u,akF b (by omega)]
 rw [←e];exact v
theorem C'(len mi q:Int):∀ L:List Nat,fS (L.map fun j:Nat=>cQ len mi (7*q+(j:Int)))=len*(L.length:Int)
 | []=>by simp [fS]
 | j::r=>by
  have b:=C' len mi q r;rw [aug,fS,b,auo,show((r.length+1:Nat):Int)=(r.length:Int)+1 by omega,Int.mul_add];simp only [cQ];omega
theorem wZ(s:aJ)(q:Int):fS (jI s q)=ng s q:=by
 unfold jI ng;split
 ·rfl
 ·exact C' ..
theorem G2(s:aJ)(q:Int):(wkJ s q).length≤7:=by
 have:=avf (fun j:Nat=>oO s (7*q+(j:Int))) (List.range 7);rw [List.length_range]at this;exact this
theorem qo(s:aJ)(q:Int):(jI s q).length≤7:=by
 unfold jI;split
 ·simp
 ·unfold wkL;rw [at9];exact G2 s q
theorem Ay{s:aJ}{q:Int}{x:aI}(h:x ∈ jI s q):∃ j:Nat,j<7∧0≤q∧oO s (7*q+j)=ae∧x=cQ s.len (Er s) (7*q+j):=by
 unfold jI at h;split at h
 ·simp at h
 ·obtain⟨j,g,rfl⟩:=auq.1 h;obtain⟨b,d⟩:=auS.1 g;exact⟨j,avb.1 b,by omega,d,rfl⟩
theorem an'{s:aJ}{n p mi:Int}(h:jx s n p mi){q:Int}(l:0≤q):jI s q≠[]:=by
 obtain⟨u,v,g,j⟩:=h.sm;have d:=auB (p-7*q) (show n≠0 by omega);have m:=auy (p-7*q) (show 0<n by omega);have b:((p-7*q) % n).toNat ∈ wkJ s q:=by
  refine auS.2 ⟨avb.2 (by omega),?_⟩;rw [h.has,avI d];unfold vW;rw [decide_eq_true_eq,Int.add_emod,Int.emod_emod,←Int.add_emod,show 7*q+(p-7*q)=p by omega];exact Int.emod_eq_of_lt g j
 unfold jI;rw [aY (by omega)];unfold wkL;intro e;rw [List.map_eq_nil_iff]at e;rw [e]at b;simp at b
theorem EJ{s:aJ}{n p mi:Int}(h:jx s n p mi)(q:Int):0≤ng s q∧ng s q≤2800:=by
 have l0:=h.l0;have g:=h.l1;have j:=G2 s q;unfold ng;split
 ·omega
 ·constructor
  ·exact Int.mul_nonneg (by omega) (by omega)
  ·have:=Int.mul_le_mul (a:=s.len) (b:=((wkJ s q).length:Int)) (c:=400) (d:=7) g (by omega) (by omega) (by omega);omega
theorem Ct{s:aJ}{n p mi:Int}(h:jx s n p mi){d:Nat}(l:n ∣ (d:Int)){q:Int}(u:0≤q):ng s (q % d)=ng s q:=by
 have m:∀ j:Nat,oO s (7*(q % d)+(j:Int))=oO s (7*q+(j:Int)):=fun j=>by
  rw [h.has,h.has];unfold vW;obtain⟨c,g⟩:=l;have e:7*q+(j:Int)=7*(q % d)+j+n*(c*(7*(q / d))):=by
   have:=Int.mul_ediv_add_emod q d;rw [←Int.mul_assoc,←g,Int.mul_left_comm];omega
  rw [e,Int.add_mul_emod_self_left]
 by_cases b:d=0
 ·subst b;simp
 have v:=auB q (show(d:Int)≠0 by omega);unfold ng wkJ;rw [aY (by omega),aY (by omega)];simp only [m]
def cS:List aJ→Int→Int
 | [],_=>0| s::r,q=>ng s q+cS r q
theorem P'(a b:List aJ)(q:Int):cS (a++b) q=cS a q+cS b q:=by
 induction a with
 | nil=>simp [cS]| cons x a d=>simp only [auX,cS,d];omega
def oh(T:List aJ):Prop:=∀ s ∈ T,∃ n p mi,jx s n p mi
theorem oh.tl{s:aJ}{r:List aJ}(h:oh (s::r)):oh r:=fun x b=>h x (at5 _ b)
theorem Ao:∀ {T:List aJ} (q:Int),oh T→0≤cS T q∧cS T q≤2800*(T.length:Int)
 | [],_,_=>by simp [cS]
 | s::r,q,h=>by
  obtain⟨n,p,mi,b⟩:=h s at4;have d:=EJ b q;have g:=Ao q h.tl;simp only [cS,auo];omega
theorem vU{T U:List aJ}(h:T.Perm U)(q:Int):cS T q=cS U q:=by
 induction h with
 | nil=>rfl| cons x _ g=>simp only [cS,g]| swap x y l=>simp only [cS];omega| trans _ _ b d=>exact b.trans d
theorem P_{T U:List aJ}(h:List.Sublist T U)(b:oh U)(q:Int):cS T q≤cS U q:=by
 induction h with
 | slnil=>exact Int.le_refl _
 | cons x _ d=>
  obtain⟨n,p,mi,g⟩:=b x at4;have:=(EJ g q).1;have:=d b.tl;simp only [cS];omega
 | cons_cons x _ d=>
  have:=d b.tl;simp only [cS];omega
theorem QS(T:List aJ)(q:Int):∀ {b:Int},oh T→T.length≤2000→0≤b→b≤1000000000→ny (fun s=>ng s q) b T=b+cS T q:=by
 induction T with
 | nil=>intro b _ _ _ _;simp [ny,cS]
 | cons s r j=>
  intro b h d h0 g;have key:∀(r:List aJ) (b:Int),oh r→r.length≤2000→0≤b→b+2800*(r.length:Int)≤2000000000→ny (fun s=>ng s q) b r=b+cS r q:=by
   intro r;induction r with
   | nil=>intro b _ _ _ _;simp [ny,cS]
   | cons s r j=>
    intro b h d h0 g;obtain⟨n,p,mi,l⟩:=h s at4;have m:=EJ l q;simp only [auo]at d g;rw [ny,aW,j _ h.tl (by omega) (by omega) (by omega),cS];omega
  exact key (s::r) b h d h0 (by simp only [auo]at d ⊢;omega)
def O0(O:List aI):Prop:=∀ x ∈ O,0<x.to-x.fr∧x.to-x.fr≤10000
theorem E_:∀ {O:List aI},O0 O→0≤fS O∧fS O≤10000*(O.length:Int)
 | [],_=>by simp [fS]
 | x::r,h=>by
  have d:=h x at4;have g:=E_ (O:=r) fun y b=>h y (at5 _ b);simp only [fS,auo];omega
theorem zg{b:Int}:∀ {O:List aI} {u:Int},0≤u→u+10000*(O.length:Int)≤2000000000→O0 O→(iN b u O=ab↔O=[]∨u+fS O≤b)
 | [],u,_,_,_=>by simp [iN]
 | x::r,u,h0,j,d=>by
  have m:=d x at4;have g:O0 r:=fun y l=>d y (at5 _ l);have q:=E_ g;simp only [auo]at j;rw [iN,aW (n:=x.to-x.fr),aW (n:=u+(x.to-x.fr))];simp only [fS,List.cons_ne_nil,false_or];split
  ·rename_i h;constructor
   ·intro h;cases h
   ·intro h;omega
  ·rename_i h;rw [zg (by omega) (by omega) g];constructor
   ·rintro(rfl | h)
    ·simp [fS];omega
    ·omega
   ·intro h;right;omega
theorem zh{d:Int}:∀ {O:List aI} {u:Int} {x:aI},0≤u→u+10000*(O.length:Int)≤2000000000→O0 O→iN d u O=aa x→∃ a b,O=a++x::b∧d<u+fS (a++[x])
 | [],u,x,_,_,_,h=>by simp [iN]at h
 | y::r,u,x,h0,j,g,h=>by
  have s:=g y at4;have m:O0 r:=fun z q=>g z (at5 _ q);simp only [auo]at j;rw [iN,aW (n:=y.to-y.fr),aW (n:=u+(y.to-y.fr))]at h;split at h
  ·rename_i l;cases h;exact⟨[],r,rfl,by simp [fS];omega⟩
  ·obtain⟨a,b,rfl,l⟩:=zh (by omega) (by omega) m h;exact⟨y::a,b,rfl,by simp only [auX,fS];omega⟩
theorem CH{b e:Int}{d:Int→List aI}{us:Int→Int}:∀(k:Nat) (n:Int),e≤7*(n+k)→(od b e d us k n=ab↔∀ q,n≤q→7*q<e→iN b (us q) (d q)=ab)
 | 0,n,h=>by
  simp only [od,true_iff];intro q m g;omega
 | k+1,n,h=>by
  rw [od];split
  ·rename_i j;cases s:iN b (us n) (d n)with
   | some x=>
    simp only [reduceCtorEq,false_iff];intro l;have:=l n (by omega) j;rw [s]at this;cases this
   | none=>
    simp only;rw [CH k (n+1) (by omega)];constructor
    ·intro l q m g;by_cases e:q=n
     ·subst e;exact s
     ·exact l q (by omega) g
    ·intro l q m g;exact l q (by omega) g
  ·rename_i j;simp only [true_iff];intro q m g;omega
theorem CI{b e:Int}{d:Int→List aI}{us:Int→Int}{x:aI}:∀(k:Nat) (n:Int),od b e d us k n=aa x→∃ q,n≤q∧7*q<e∧iN b (us q) (d q)=aa x
 | 0,n,h=>by simp [od]at h
 | k+1,n,h=>by
  rw [od]at h;split at h
  ·rename_i g;cases j:iN b (us n) (d n)with
   | some y=>rw [j]at h;cases h;exact⟨n,by omega,g,j⟩
   | none=>
    rw [j]at h;obtain⟨q,s,l,m⟩:=CI k (n+1) h;exact⟨q,by omega,l,m⟩
  ·cases h
theorem EI{s:aJ}{n p mi:Int}(h:jx s n p mi)(q:Int):O0 (jI s q):=fun x b=>by
 obtain⟨j,-,-,-,rfl⟩:=Ay b;have:=h.l0;have:=h.l1;simp only [cQ];omega
theorem Qx{x:aJ}{n p mi:Int}(u:jx x n p mi){T:List aJ}(v:oh T)(L:T.length≤2000){d:Nat}(E:1≤d)(F:d≤60)(A:∀ s ∈ x::T,∀ n p mi,jx s n p mi→n ∣ (d:Int))(b:Int) :
  od b (15+7*(d:Int)) (jI x) (cS T) 200 (-1)=ab↔∀ q,0≤q→cS T q+ng x q≤b:=by
 have m:∀ q:Int,0≤q→cS T (q % d)=cS T q:=fun q g=>by
  have:∀ U:List aJ,(∀ s ∈ U,s ∈ T)→cS U (q % d)=cS U q:=by
   intro U;induction U with
   | nil=>intro _;rfl
   | cons s r I=>
    intro h;have B:=h s at4;obtain⟨N,O,K,j⟩:=v s B;rw [cS,cS,I fun y H=>h y (at5 _ H),Ct j (A s (at5 _ B) _ _ _ j) g]
  exact this T fun _ h=>h
 rw [CH 200 (-1) (by omega)];have z:=fun q=>Ao q v;have l:∀ q:Int,0≤q→(iN b (cS T q) (jI x q)=ab↔cS T q+ng x q≤b):=fun q g=>by
  have:=qo x q;rw [zg (z q).1 (by have:=(z q).2;omega) (EI u q),wZ];exact⟨fun h=>h.resolve_left (an' u g),.inr⟩
 constructor
 ·intro h q g;have J:=auB q (show(d:Int)≠0 by omega);have M:=auy q (show 0<(d:Int) by omega);have j:=h (q % d) (by omega) (by omega);rw [l _ J,m q g,Ct u (A x at4 _ _ _ u) g]at j;exact j
 ·intro h q j _;by_cases g:0≤q
  ·rw [l q g];exact h q g
  ·have:jI x q=[]:=by unfold jI;rw [bg (by omega)]
   rw [this];rfl
theorem Qt{a b:aJ}{l:Int}{x y:aI}(m:fM a x)(q:fM b y)(z:okB l x y):gZ a b:=by
 obtain⟨c,u,g,E,A,rfl⟩:=m;obtain⟨d,v,j,F,B,rfl⟩:=q;obtain⟨-,-,s⟩:=z;simp only [om,cQ]at s;refine⟨c,u,d,v,j-g,by unfold uA;omega,by unfold uu;omega,g-max 0 (-(j-g)),by omega,?_,?_⟩
 ·rw [show g-max 0 (-(j-g))+max 0 (-(j-g))=g by omega];exact A
 ·rw [show g-max 0 (-(j-g))+max 0 (j-g)=j by omega];exact B
theorem FK{ts:List dx}(h:xp ts)(d e:Int)(b:d % 60=e % 60):ew ts d↔ew ts e:=by
 obtain⟨n,p,⟨g,j,l,m⟩,rfl⟩:=h;rw [jX,jX];obtain rfl | rfl | rfl | rfl | rfl | rfl:n=1∨n=2∨n=3∨n=4∨n=5∨n=6:=by omega
 all_goals omega
theorem Qf{a b:aJ}(g:jQ a)(j:jQ b)(h:gZ a b):∃ x y,fM a x∧fM b y∧okB (-2251799813685248) x y:=by
 obtain⟨c,l,d,m,k,q,s,x,I,u,v⟩:=h;obtain⟨B,E⟩:=g.len;obtain⟨F,H⟩:=j.len;have z:=g.min l;have A:=j.min m;unfold uA at q;unfold uu at s;have J:-20≤k∧k≤20:=by omega
 refine⟨cQ a.len c.min (x % 60+max 0 (-k)),cQ b.len d.min (x % 60+max 0 k),⟨c,l,_,by omega,(FK (g.few c l) _ _ (by omega)).1 u,rfl⟩,⟨d,m,_,by omega,(FK (j.few d m) _ _ (by omega)).1 v,rfl⟩,?_⟩;unfold okB om cQ;simp only;omega
theorem BZ{a b:aJ}(m:jQ a)(q:jQ b){s:FS}(h:mB (-2251799813685248) (fun x y=>fM a x∧fM b y) s)(v:gZ a b):s.found=ae∧fM a s.X∧fM b s.Y∧okB (-2251799813685248) s.X s.Y:=by
 rcases h with⟨-,-,-,d⟩ | ⟨j,g,l,-⟩
 ·obtain⟨x,y,z,A,u⟩:=Qf m q v;exact absurd u (d x y ⟨z,A⟩)
 ·exact⟨j,g.1,g.2,l⟩
end Go.Proofs.YtnaofdffomdmhaaGreat
