/-
  aop the nX kU and the ny answer, for all arguments of their kind, in the small machine: part 3.
-/
import Derived.Test.YtnaofdffomdmhaaGreatS2
import Derived.Test.YtnaofdffomdmhaaGreatK4
import Derived.Test.YtnaofdffomdmhaaGreatS1
import Derived.Test.YtnaofdffomdmhaaGreatK5
import Derived.KernelRfl
open Option renaming some → aa,none → ab
open Bool renaming true → ae,false → ag
open Go.IntKind renaming wrap → ah
open List renaming mem_cons_self → atI, mem_cons_of_mem → aul, mem_map → avx, mem_cons → avn, not_mem_nil → av6, take_add_one → avK, getElem?_eq_getElem → By, drop_eq_getElem_cons → auR, map_cons → avl, getElem?_append_right → IS, getElem?_map → avR, map_nil → avs, mem_append → avq, getElem_mem → anc, length_append → api, length_map → avi, length_take → avA, length_drop → avp, take_length → avH, drop_length → awg, append_nil → av0, getElem?_set_self → IN, append_assoc → avU, filter_append → aw6, take_of_length_le → avj, getElem?_set_ne → AI, getElem?_append_left → AT, length_set → avw, mem_singleton → avh, cons_append → awc, length_filter_le → av5, pairwise_iff_getElem → avV, map_drop → aw9, length_cons → avB, mem_filter → avW, mem_range → av4, pairwise_cons → avZ
open Option.some renaming inj → awN
open Int renaming toNat_of_nonneg → awR, toNat_natCast → avr, emod_nonneg → avO, emod_lt_of_pos → avG
open Nat renaming le_refl → aft, le_trans → avv, lt_or_ge → avT, lt_of_lt_of_le → avJ
open Bool renaming not_eq_true' → av8
set_option linter.unusedVariables false
set_option linter.constructorNameAsVariable false
set_option linter.unusedSimpArgs false
set_option linter.unusedSectionVars false
set_option linter.unnecessarySimpa false
set_option maxRecDepth 100000
namespace Go.Proofs.YtnaofdffomdmhaaGreat
open Go Km
theorem Bj:∀ cs:List FC,(∀ c ∈ cs,∃ k m,c=FC.int k m)→jJ (FC.beq 63) cs cs=ae
 | [],_=>rfl
 | c::cs,h=>by
  obtain⟨k,m,rfl⟩:=h c atI;simp only [jJ,Bj cs fun x b=>h x (aul _ b),Bool.and_true];simp [FC.beq]
theorem PS(g:Tg)(xs:List aI):(V.c (C.f (sl g (aH xs)))).beq (V.c (C.f (sl g (aH xs))))=ae:=by
 show FC.beq 64 (sl g (aH xs)) (sl g (aH xs))=ae;cases xs with
 | nil=>cases g<;>rfl
 | cons x xs=>
  have:sl g (aH (x::xs))=.fs (aH (x::xs)).flatten (aH (x::xs)).length:=by simp [sl,aH]
  rw [this];show((_ == _)&&jJ (FC.beq 63) _ _)=ae;rw [Bj]
  ·simp
  ·intro c b;obtain⟨r,d,b⟩:=List.mem_flatten.1 b;obtain⟨y,-,rfl⟩:=avx.1 d;simp only [aI.row,avn,av6,or_false]at b;rcases b with rfl | rfl | rfl<;>exact⟨_,_,rfl⟩
theorem arR(k:IntKind)(n:Int):(V.c (C.f (.int k n))).beq (V.c (C.f (.int k n)))=ae:=by simp [V.beq,C.beq,FC.beq]
def jR(B:Int)(c:cJ):cJ:={ c with min:=c.min-B }
def El(B A:Int)(x:aI):aI:=⟨x.day,x.fr-B,x.to+A⟩
theorem PW(g:Tg)(l:List cJ)(m:l.length≤64):∃ f:aj→C × aj,∀ H,Ev tab (.fn 83) [.c (.f (sl g (aM l)))] H=E2 (.c (f H).1) (H++(f H).2)∧LR (H++(f H).2) (f H).1 2 (aM l)∧∀ i,bG (f H).1=aa i→H.length≤i:=by
 have h:∀ H:aj,∃ p:C × aj,Ev tab (.fn 83) [.c (.f (sl g (aM l)))] H=E2 (.c p.1) (H++p.2)∧LR (H++p.2) p.1 2 (aM l)∧∀ i,bG p.1=aa i→H.length≤i:=fun H=>by
  obtain⟨r,H',j,c,J,rfl,rfl,b,d⟩:=uP (g:=g) (H:=H) (rows:=aM l) an3 (by decide) (cK l) (by simp [bV];omega);exact⟨(c,J),j.eq,b,d⟩
 exact⟨fun H=>Classical.choose (h H),fun H=>Classical.choose_spec (h H)⟩
theorem acJ(g:Tg)(l:List aI)(m:l.length≤64):∃ f:aj→C × aj,∀ H,Ev tab (.fn 82) [.c (.f (sl g (aH l)))] H=E2 (.c (f H).1) (H++(f H).2)∧LR (H++(f H).2) (f H).1 3 (aH l)∧∀ i,bG (f H).1=aa i→H.length≤i:=by
 have h:∀ H:aj,∃ p:C × aj,Ev tab (.fn 82) [.c (.f (sl g (aH l)))] H=E2 (.c p.1) (H++p.2)∧LR (H++p.2) p.1 3 (aH l)∧∀ i,bG p.1=aa i→H.length≤i:=fun H=>by
  obtain⟨r,H',j,c,J,rfl,rfl,b,d⟩:=uP (g:=g) (H:=H) (rows:=aH l) an5 (by decide) (bz l) (by simp [bV];omega);exact⟨(c,J),j.eq,b,d⟩
 exact⟨fun H=>Classical.choose (h H),fun H=>Classical.choose_spec (h H)⟩
theorem aeq{b s:Type}(row:b→s)(f:b→b)(l:List b)(j:Nat)(d:j<l.length):((l.take j).map (row ∘ f)++(l.drop j).map row).set j (row (f l[j]))=(l.take (j+1)).map (row ∘ f)++(l.drop (j+1)).map row:=by
 have g:l.take (j+1)=l.take j++[l[j]]:=by rw [avK,By d];rfl
 have m:l.drop j=l[j]::l.drop (j+1):=auR d;have q:((l.take j).map (row ∘ f)).length=j:=by simp;omega
 rw [g,m,List.map_append,avl,List.set_append_right _ _ (by omega),q,Nat.sub_self,List.set_cons_zero];simp
theorem ac7{b m:Type}(row:b→m)(f:b→b)(l:List b)(j:Nat)(d:j<l.length):((l.take j).map (row ∘ f)++(l.drop j).map row)[j]?=aa (row l[j]):=by
 have g:((l.take j).map (row ∘ f)).length=j:=by simp;omega
 rw [IS (by omega),g,Nat.sub_self,auR d];rfl
structure PF(s:av):Prop where
 r0:0≤s.room
 r1:s.room≤2
 cn:s.st.cs.length≤1
 min:∀ c ∈ s.st.cs,0≤c.min∧c.min≤1180
 l0:1≤s.st.len
 l1:s.st.len≤300
 xs:s.st.xs=[]
def fU(af:Int)(s:av)(b d:Tg):aK:=⟨b,s.st.cs.map (jR 0),s.st.len+0+af,d,[]⟩
theorem B'(af W:Int)(a0:0≤af)(a1:af≤39)(s:av)(hs:PF s)(A:∀ E F,bg tab 53 [.a ((fU af s E F).row.map .f)]=Eq (vb ae)) :
  ∃ E F,bg tab 137 [.c (.f (eO af W)),.a (s.row.map .f)]=Eq (.t [.a ((fU af s E F).row.map .f),vb ae]):=by
 obtain⟨r,⟨E,F,rfl⟩,hp⟩:∃ r,(∃ E F,r=.t [.a ((fU af s E F).row.map .f),vb ae])∧bg tab 137 [.c (.f (eO af W)),.a (s.row.map .f)] r:=by
  refine dY rfl rfl fun Q hQ=>?_;obtain⟨f3,i4,i9,b_,j_,k_,U⟩:=hs;have j9:s.st.xs.length=0:=by rw [U];rfl
  have hr:=lF af W f3 i4;have f8:=fun H:aj=>bl (H:=H) (g:=.fs) (rows:=rows (b5 af W)) (sz:=15) (k:=.i64) (i:=s.room) f3 (by simp [b5];omega);have b9:=fun H:aj=>bL (H:=H) (fD (b5 af W)) (j:=s.room.toNat) (row:=(bM af W s.room).row) (by rw [rows,avR,hr];rfl);have Z:(bM af W s.room).jm=0:=by unfold bM;split<;>(try split)<;>rfl
  have Y:(bM af W s.room).oP=af:=by unfold bM;split<;>(try split)<;>rfl
  simp only [cC.row,avl,avs]at b9;obtain⟨fc,e_⟩:=PW s.st.cg s.st.cs (by omega);obtain⟨fx,f7⟩:=acJ s.st.xg s.st.xs (by rw [U];simp);have ec:=fun H=>(e_ H).1;have ex:=fun H=>(f7 H).1;generalize bM af W s.room=r at hr b9 Z Y;have i5:∀(t:T) (H:aj) (d m:C) (n:Nat),t.g 3=.c (.ptr 0 0 0)→t.g 4=.c (.ptr 1 0 0)→t.g 6=.c (.ptr 2 0 0)→t.g 7=.c (.ptr n 0 0)→2<n →
    H[1]?=aa (.box [.f .az,.f (fi 0),.f .az] 0)→H[2]?=aa (.box [.f (fi r.cap),.f (fi r.jm),.f (fi r.oP),.f r.o0,.f r.o1,.f r.o2,.f r.o3,.f r.o4,.f r.o5,.f r.o6,.f r.o7,.f r.o8,.f r.o9,.f (sl r.qg (fV r.q)),.f (sl r.pg (ints r.p))] 0) →
    H[n]?=aa (.box [d,.f (fi (s.st.len+r.jm+r.oP)),m] 0)→LR H d 2 (aM s.st.cs)→LR H m 3 (aH s.st.xs)→(∀ i,bG d=aa i→bG m≠aa i) →
    WP tab 137 ab [.code AM] ⟨t,[],H⟩ Q:=by
   intro t H d m n g3 X g6 O hn k1 k2 M u v hD;apply an;apply ai;have L:=u.len;rw [wR]at L;simp [O,M,L];refine bS s.st.cs.length (fun j t H=>t.g 3=.c (.ptr 0 0 0)∧t.g 4=.c (.ptr 1 0 0)∧t.g 6=.c (.ptr 2 0 0)∧t.g 7=.c (.ptr n 0 0)∧H[1]?=aa (.box [.f .az,.f (fi 0),.f .az] 0)∧H[2]?=aa (.box [.f (fi r.cap),.f (fi r.jm),.f (fi r.oP),.f r.o0,.f r.o1,.f r.o2,.f r.o3,.f r.o4,.f r.o5,.f r.o6,.f r.o7,.f r.o8,.f r.o9,.f (sl r.qg (fV r.q)),.f (sl r.pg (ints r.p))] 0) ∧
     H[n]?=aa (.box [d,.f (fi (s.st.len+r.jm+r.oP)),m] 0)∧LR H d 2 ((s.st.cs.take j).map (cJ.row ∘ jR r.jm)++(s.st.cs.drop j).map cJ.row)∧LR H m 3 (aH s.st.xs)) (by omega) (by decide) (by decide) (by simp) (by simp)
    ⟨by simp [g3],by simp [X],by simp [g6],by simp [O],k1,k2,M,by simpa [aM]using u,v⟩ ?_ ?_
   ·rintro j t H hj ⟨g3,X,g6,O,k1,k2,M,u,v⟩ ha hb nx;have a_:cu 2 ((s.st.cs.take j).map (cJ.row ∘ jR r.jm)++(s.st.cs.drop j).map cJ.row):=by
     intro x hx;rcases avq.1 hx with hx | hx<;>obtain⟨y,-,rfl⟩:=avx.1 hx<;>rfl
    have z:((s.st.cs.take j).map (cJ.row ∘ jR r.jm)++(s.st.cs.drop j).map cJ.row).length=s.st.cs.length:=by simp;omega
    have a8:=ac7 cJ.row (jR r.jm) s.st.cs j hj;have f_:=aeq cJ.row (jR r.jm) s.st.cs j hj;have j8:=b_ _ (anc hj);rcases u with⟨e,_⟩ | ⟨m4,b,ep,I,l⟩
    ·have:=congrArg List.length e;rw [z,List.length_nil]at this;omega
    rw [z]at I;have hi:=l.at (i:=j) (by rw [z];exact hj);rw [z,←I]at hi;have hl:=l.ldc a_ a8 (k:=1) (x:=fi s.st.cs[j].min) rfl;obtain⟨H',e',d_,S,-⟩:=l.stp a_ a8 (k:=1) (xs:=[fi (s.st.cs[j].min-r.jm)]) (by simp);have j5:over s.st.cs[j].row 1 [fi (s.st.cs[j].min-r.jm)]=(jR r.jm s.st.cs[j]).row:=rfl;rw [j5,f_]at d_;have b1:(1:Nat)≠b:=by rintro rfl;unfold RB at l;rw [k1]at l;cases l
    have b2:(2:Nat)≠b:=by rintro rfl;unfold RB at l;rw [k2]at l;cases l
    have bn:n≠b:=by rintro rfl;unfold RB at l;rw [M]at l;cases l
    refine aF ?_;apply ai;simp [ha];refine aq (.inl rfl) ?_;simp only [avl,avs]at e';have ln:aR H ab (.c (.ptr n 0 0))=aa (.c d):=by simp [M]
    have l2:aR H ab (.c (.ptr 2 1 0))=aa (vi r.jm):=by simp [k2]
    simp [g6,O,ln,l2,hi,hl,-aw,-bh,aW (n:=s.st.cs[j].min-r.jm),e'];refine aA (nx _ _ ⟨by simp [g3],by simp [X],by simp [g6],by simp [O],?_,?_,?_,.inr ⟨?_,b,ep,?_,d_⟩,?_⟩ (by simp [ha]) (by simp [hb]))
    ·exact S.get k1 b1
    ·exact S.get k2 b2
    ·exact S.get M bn
    ·intro e;have q:=congrArg List.length e;rw [api,avi,avi,avA,avp,List.length_nil]at q;omega
    ·rw [I]
     congr 1
     simp;omega
    ·exact v.cO fun i y hy hi=>S.get hy (fun e=>hD b (by rw [I];rfl) (by rw [←e];exact hi))
   ·rintro t H ⟨g3,X,g6,O,k1,k2,M,u,v⟩ ha hb;rw [avH,awg,avs,av0]at u;apply an;apply ai;have L:=v.len;rw [jr]at L;simp [O,M,L];refine bS s.st.xs.length (fun j t H=>t.g 3=.c (.ptr 0 0 0)∧t.g 4=.c (.ptr 1 0 0)∧t.g 6=.c (.ptr 2 0 0)∧t.g 7=.c (.ptr n 0 0)∧H[1]?=aa (.box [.f .az,.f (fi 0),.f .az] 0)∧H[2]?=aa (.box [.f (fi r.cap),.f (fi r.jm),.f (fi r.oP),.f r.o0,.f r.o1,.f r.o2,.f r.o3,.f r.o4,.f r.o5,.f r.o6,.f r.o7,.f r.o8,.f r.o9,.f (sl r.qg (fV r.q)),.f (sl r.pg (ints r.p))] 0) ∧
      H[n]?=aa (.box [d,.f (fi (s.st.len+r.jm+r.oP)),m] 0)∧LR H d 2 (s.st.cs.map (cJ.row ∘ jR r.jm))∧LR H m 3 ((s.st.xs.take j).map (aI.row ∘ El r.jm r.oP)++(s.st.xs.drop j).map aI.row)) (by omega) (by decide) (by decide) (by simp) (by simp)
     ⟨by simp [g3],by simp [X],by simp [g6],by simp [O],k1,k2,M,u,by simpa [aH]using v⟩ ?_ ?_
    ·intro j t H hj;rw [U]at hj;simp at hj
    ·rintro t H ⟨g3,X,g6,O,k1,k2,M,u,v⟩ ha hb;rw [avH,awg,avs,av0]at v;have r1:s.st.cs.map (cJ.row ∘ jR r.jm)=aM (s.st.cs.map (jR r.jm)):=by simp [aM]
     have r2:s.st.xs.map (aI.row ∘ El r.jm r.oP)=aH (s.st.xs.map (El r.jm r.oP)):=by simp [aH]
     rw [r1]at u;rw [r2]at v;have x1:=u.x;have x2:=v.x;obtain⟨E,c_⟩:=x1.ex (cK _);obtain⟨F,d9⟩:=x2.ex (bz _);have y1:LX (gF deep d H) d 2 (aM (s.st.cs.map (jR r.jm))):=x1.mk x1 63;have y2:LX (gF deep d H) m 3 (aH (s.st.xs.map (El r.jm r.oP))):=x2.mk x1 63;have z1:LX (gF deep m (gF deep d H)) d 2 (aM (s.st.cs.map (jR r.jm))):=y1.mk y2 63;have z2:LX (gF deep m (gF deep d H)) m 3 (aH (s.st.xs.map (El r.jm r.oP))):=y2.mk y2 63;have j7:(gF deep d H)[1]?=aa (.box [.f .az,.f (fi 0),.f .az] 0):=x1.amg 63 k1;have N:(gF deep m (gF deep d H))[1]?=aa (.box [.f .az,.f (fi 0),.f .az] 0):=y2.amg 63 j7;have h1:ey deep H d=aa (sl E (aM (s.st.cs.map (jR r.jm)))):=c_ H 63 x1;have h2:ey deep H m=aa (sl F (aH (s.st.xs.map (El r.jm r.oP)))):=d9 H 63 x2;have ho:fU af s E F=⟨E,s.st.cs.map (jR r.jm),s.st.len+r.jm+r.oP,F,s.st.xs.map (El r.jm r.oP)⟩:=by rw [Z,Y,U];rfl
     have A:=A E F;rw [ho]at A;simp only [aK.row,avl,avs]at A;apply ai;simp [X,O,M,h1,h2,A,N];generalize gF deep m (gF deep d H)=HM at z1 z2 N ⊢;have g_:=c_ (HM.set 1 (.box [d,.f (fi (s.st.len+r.jm+r.oP)),m] 0)) 63 (z1.set (z1.pP N) _);have h_:=d9 (HM.set 1 (.box [d,.f (fi (s.st.len+r.jm+r.oP)),m] 0)) 63 (z2.set (z2.pP N) _);have j6:(HM.set 1 (.box [d,.f (fi (s.st.len+r.jm+r.oP)),m] 0))[1]?=aa (.box [d,.f (fi (s.st.len+r.jm+r.oP)),m] 0):=IN (ak N);refine aC (hQ _ _ _ ⟨E,F,rfl⟩ ?_);have hd:deep=63+1:=rfl;rw [ho];simp [X,j6,aK.row,iU,cD,bj,hd,g_,h_]
  apply ai;simp [av.row];apply ai;simp [eO,f8,b9];have w1:=aW (n:=s.st.len+r.jm);have w2:=aW (n:=s.st.len+r.jm+r.oP);obtain⟨B,K⟩:=aJ ([bw.box [.f (fi s.meet),.f (fi s.room),.f (fi s.dB),.f (fi s.size),.f (sl s.st.cg (aM s.st.cs)),.f (fi s.st.len),.f (sl s.st.xg (aH s.st.xs))] 0,bw.box [.f .az,.f (fi 0),.f .az] 0,bw.box [.f (fi r.cap),.f (fi r.jm),.f (fi r.oP),.f r.o0,.f r.o1,.f r.o2,.f r.o3,.f r.o4,.f r.o5,.f r.o6,.f r.o7,.f r.o8,.f r.o9,.f (sl r.qg (fV r.q)),.f (sl r.pg (ints r.p))] 0]);rw [←K];have l_:B.length=3:=by rw [K];rfl
  have q0:∀ J,(B++J)[0]?=aa (bw.box [.f (fi s.meet),.f (fi s.room),.f (fi s.dB),.f (fi s.size),.f (sl s.st.cg (aM s.st.cs)),.f (fi s.st.len),.f (sl s.st.xg (aH s.st.xs))] 0):=fun J=>by rw [K];rfl
  have q1:∀ J,(B++J)[1]?=aa (bw.box [.f .az,.f (fi 0),.f .az] 0):=fun J=>by rw [K];rfl
  have q2:∀ J,(B++J)[2]?=aa (bw.box [.f (fi r.cap),.f (fi r.jm),.f (fi r.oP),.f r.o0,.f r.o1,.f r.o2,.f r.o3,.f r.o4,.f r.o5,.f r.o6,.f r.o7,.f r.o8,.f r.o9,.f (sl r.qg (fV r.q)),.f (sl r.pg (ints r.p))] 0):=fun J=>by rw [K];rfl
  have p0:=q0 [];have p2:=q2 [];rw [av0]at p0 p2;obtain⟨d,I⟩:=aJ ((fc B).1);obtain⟨J1,i6⟩:=aJ ((fc B).2);have e1:=ec B;have m1:=(e_ B).2;rw [←I,←i6]at e1 m1;obtain⟨m,i8⟩:=aJ ((fx (B++J1)).1);obtain⟨J2,i7⟩:=aJ ((fx (B++J1)).2);have e2:=ex (B++J1);have m2:=(f7 (B++J1)).2;rw [←i8,←i7,avU]at e2 m2;refine an (gn (.inl rfl) ?_ ?_)
  case _=>
   simp [p0,p2,q0,q2,e1,e2,w1,w2];refine i5 _ _ d m _ (by simp) (by simp) (by simp) (by simp;rfl) (by omega) ?_ ?_ ?_ ?_ ?_ ?_
   ·exact q1 _
   ·exact q2 _
   ·rw [←avU,←avU,IS (by simp)];have:B.length+(J1.length+J2.length)-(B++J1++J2).length=0:=by simp
    rw [this];rfl
   ·have:=(m1.1.push J2).push [bw.box [d,C.f (FC.int IntKind.i64 (s.st.len+r.jm+r.oP)),m] 0];simpa [avU]using this
   ·have:=m2.1.push [bw.box [d,C.f (FC.int IntKind.i64 (s.st.len+r.jm+r.oP)),m] 0];simpa [avU]using this
   ·intro i i_ j4;have a1:=m1.1.lt i_;have a2:=m2.2 i j4;omega
  ·intro c hc;simp only [avn,av6,or_false]at hc;rcases hc with rfl | rfl | rfl | rfl | rfl | rfl | rfl
   iterate 6
    ·refine⟨by decide,_,rfl,.inl ⟨by decide,?_⟩⟩;simp [p0,p2,q0,q2,e1,e2,ib,arR]
   ·refine⟨by decide,_,rfl,.inr ⟨by decide,?_⟩⟩;simp [p0,p2,q0,q2,e1,e2,ib,PS]
 exact⟨E,F,bg.eq hp⟩
def Rv(af b:Int)(i k:Int):Bool:=mr i.toNat k.toNat (bM af b i) (bM af b k)
theorem aes(af b i:Int):Rv af b i i=ae:=by simp [Rv,mr]
theorem CC(af b i:Int):(bM af b i).p.length≤64:=by unfold bM nz;split<;>(try split)<;>simp
theorem Gu(af b i k:Int)(h0:0≤i)(m:i≤2)(j:0≤k)(q:k≤2):bg tab 200 [.c (.f (eO af b)),vi i,vi k]=Eq (vb (Rv af b i k)):=by
 have s:(b5 af b).length=3:=rfl;have hi:i.toNat<(b5 af b).length:=by omega
 have l:k.toNat<(b5 af b).length:=by omega
 have d:(b5 af b)[i.toNat]=bM af b i:=awN ((By hi).symm.trans (lF af b h0 m));have g:(b5 af b)[k.toNat]=bM af b k:=awN ((By l).symm.trans (lF af b j q));have:=(Rj .fs (b5 af b) i.toNat k.toNat hi l (by rw [d];exact CC ..) (by rw [g];exact CC ..)).eq;rw [d,g,awR h0,awR j]at this;exact this
theorem we(a b:FC)(r:Int):bg tab 122 [.c (.f a),.c (.f b),vi r]=Eq (.c (.f (.fn 199 [.fp [b] 0,.fp [a] 0,.fp [fi r] 0]))):=by
 refine bg.eq (bI rfl rfl fun Q d=>?_);apply ai;simp;apply ai;simp;refine aC (d _ _ ?_);simp [deep]
theorem Qo{b:Type}{l:List b}{j:Nat}(d:j<l.length)(p:b→Bool):(l.take (j+1)).filter p=(l.take j).filter p++(if p l[j]then [l[j]]else []):=by
 rw [avK,By d,aw6];simp [List.filter_cons]
theorem tv{b:Nat}{H:aj}{PP:List av→aj→Prop}{RR:List av→av→aj→Prop}(Z:FC)(g':Tg)(ss:List av)(hl:ss.length≤1000)(k:Int)(l:av→Bool)
  (a_:∀ s ∈ ss,bg tab 200 [.c (.f Z),vi s.room,vi k]=Eq (vb (l s)))
  (h0:PP [] H) (hp:∀ d H J,PP d H→PP d (H++J))
  (hy:∀(d:List av) (s:av) (H:aj),PP d H→s ∈ ss→∃(r:Bool) (H':aj),Ev tab (.yield b) [.a (s.row.map .f)] H (vb r) H'∧(if r then PP (d++[s]) H' else RR d s H')) :
  ∃ H',Ev tab (.fn 199) [.c (.yl b),.c (.f (.fp [sl g' (al ss)] 0)),.c (.f (.fp [Z] 0)),.c (.f (.fp [fi k] 0))] H (.t []) H'∧(PP (ss.filter l) H'∨∃ d s rest,ss.filter l=d++s::rest∧RR d s H'):=by
 obtain⟨r,H',K,rfl,h⟩:∃ r H',Ev tab (.fn 199) [.c (.yl b),.c (.f (.fp [sl g' (al ss)] 0)),.c (.f (.fp [Z] 0)),.c (.f (.fp [fi k] 0))] H r H'∧(r=.t []∧(PP (ss.filter l) H'∨∃ d s rest,ss.filter l=d++s::rest∧RR d s H')):=by
  refine cL rfl rfl fun Q hQ=>?_;apply ai;simp [oG];refine bS ss.length (fun j t H'=>t.g 0=.c (.yl b)∧t.g 1=.c (.f (.fp [sl g' (al ss)] 0))∧t.g 2=.c (.f (.fp [Z] 0))∧t.g 3=.c (.f (.fp [fi k] 0))∧t.g 7=.c (.f (sl g' (al ss)))∧PP ((ss.take j).filter l) H') (by omega) (by decide) (by decide) (by simp) (by simp)
   ⟨by simp,by simp,by simp,by simp,by simp,by simpa using h0⟩ ?_ ?_
  ·rintro j t H' S ⟨g0,g1,L,M,X,y⟩ Y hb next
   have q:=fun H:aj=>bL (H:=H) (aX ss) (cQ S);have z:=fun H:aj=>bl (H:=H) (g:=g') (rows:=al ss) (sz:=7) (k:=.i64) (i:=(j:Int)) (by omega) (by simp;omega);simp only [avr]at z;have v:=a_ ss[j] (anc S);have I:=Qo S l;have A:=anc S;have m:ss.filter l=(ss.take j).filter l++((ss[j]::ss.drop (j+1)).filter l):=by
    rw [←aw6,←auR S,List.take_append_drop]
   obtain⟨s,b9⟩:=aJ (ss[j]);rw [←b9]at q v I A m;obtain⟨row,u⟩:=aJ (s.row.map C.f);have F:row.length=7:=by rw [u];rfl
   have a8:∃ x,row[1]?=aa x∧x=.f (fi s.room):=⟨_,by rw [u];rfl,rfl⟩
   rw [←u]at q;obtain⟨b6,O⟩:=aJ (H'.length);obtain⟨W,B⟩:=aJ (H'++[bw.box row 0]);have E:=hp _ _ [bw.box row 0] y;rw [←B]at E;have k1:W[b6]?=aa (.box row 0):=by rw [B,O];simp
   have l7:aR W (aa 7) (.c (.ptr b6 0 0))=aa (.a row):=by simp [aR,aE,k1,aV,F,avj (Nat.le_of_eq F)]
   have l1:aR W ab (.c (.ptr b6 1 0))=aa (vi s.room):=by
    obtain⟨x,hx,rfl⟩:=a8;rw [u]at k1;simp [aR,aE,k1,av.row,aV]
   refine aF ?_;apply ai;simp [X,Y,z,q,F,-aw];rw [←B,←O];apply an;cases U:l s
   ·rw [U]at v;refine aq (.inl rfl) ?_;simp [L,M,oG,l1,v,-aw];refine aB (by simp) (aP (aA (next _ _ ⟨by simp [g0],by simp [g1],by simp [L],by simp [M],by simp [X],?_⟩ (by simp [Y]) (by simp [hb]))));rw [I];simpa [U]using E
   ·rw [U]at v;obtain⟨r,H2,K,N⟩:=hy _ s W E A;have K:=K.eq;rw [←u]at K;refine aq (.inl rfl) ?_;simp [g0,L,M,oG,l1,l7,v,K,-aw];cases r with
    | true=>
     refine aB (by simp) (aP (aA (next _ _ ⟨by simp [g0],by simp [g1],by simp [L],by simp [M],by simp [X],?_⟩ (by simp [Y]) (by simp [hb]))));rw [I];simpa [U]using N
    | false=>
     refine au (by simp) (aC (hQ _ _ (.t []) rfl rfl ⟨rfl,.inr ⟨_,s,(ss.drop (j+1)).filter l,?_,by simpa using N⟩⟩));rw [m,List.filter_cons,U];rfl
  ·rintro t H' ⟨g0,g1,L,M,X,y⟩ Y hb;rw [avH]at y;exact cE (hQ _ _ (.t []) rfl rfl ⟨rfl,.inl y⟩)
 exact⟨H',K,h⟩
theorem yU(af g i:Int)(x:aI):bg tab 139 [.a ((bM af g i).row.map .f),.a (x.row.map .f)]=Eq (.a [.f (fi x.day),.f (fi (ah .i64 x.fr)),.f (fi (ah .i64 (x.to-af)))]):=by
 have d:(bM af g i).jm=0:=by unfold bM;split<;>(try split)<;>rfl
 have b:(bM af g i).oP=af:=by unfold bM;split<;>(try split)<;>rfl
 refine bg.eq (bI rfl rfl fun Q j=>?_);generalize bM af g i=r at *;apply ai;simp [cC.row,aI.row];apply ai;simp [d,b];refine aC (j _ _ ?_);simp [iU,cD,bj]
def nD(s:aK):List C:=[.f (sl s.cg (aM s.cs)),.f (fi s.len),.f (sl s.xg (aH s.xs))]
def Com(c d:cJ)(k:Int):Prop:=∃ x,0≤x∧eF c.ts (x+max 0 (-k))∧eF d.ts (x+max 0 k)
theorem FB{a b:aK}{p:Pr}(d:oN a b p):(∃ x,0≤x∧eF p.xs x∧eF p.ys x)↔Com p.c p.d p.k:=by
 constructor
 ·rintro⟨x,h0,g,j⟩;exact⟨x,h0,(d.xm x h0).1 g,(d.ym x h0).1 j⟩
 ·rintro⟨x,h0,g,j⟩;exact⟨x,h0,(d.xm x h0).2 g,(d.ym x h0).2 j⟩
def jc(a b:aK):Prop:=∃ c ∈ a.cs,∃ d ∈ b.cs,∃ k,vr a.len b.len c d≤k∧k≤vj a.len b.len c d∧Com c d k
structure C'(a b:aK)(bs:List Nat)(J:aj):Prop where
 h0:J[0]?=aa (.box (nD a) 0)
 h1:J[1]?=aa (.box (nD b) 0)
 h2:∃ v:Bool,J[2]?=aa (.box [.f (.bool v)] 0)
 h3:∃ n:Int,J[3]?=aa (.box [.f (fi n)] 0)
 cl:fI bs J
theorem C'.cO{a b:aK}{g:List Nat}{J J':aj}(h:C' a b g J)(d:∀ i:Nat,i<J.length→J'[i]?=J[i]?):C' a b g J':=by
 obtain⟨v,h2⟩:=h.h2;obtain⟨n,h3⟩:=h.h3;exact⟨by rw [d 0 (ak h.h0)];exact h.h0,by rw [d 1 (ak h.h1)];exact h.h1,⟨v,by rw [d 2 (ak h2)];exact h2⟩,⟨n,by rw [d 3 (ak h3)];exact h3⟩,⟨h.cl.nd,fun i hi=>by rw [d i (ak (h.cl.on i hi))];exact h.cl.on i hi⟩⟩
theorem C'.set{a b:aK}{d:List Nat}{J:aj}(h:C' a b d J){i:Nat}{y:bw}(hi:J[i]?=aa y)(h3:4≤i)(hy:y≠.eH ae)(z:bw):C' a b d (J.set i z):=by
 obtain⟨v,g⟩:=h.h2;obtain⟨n,j⟩:=h.h3;exact⟨by rw [AI (by omega)];exact h.h0,by rw [AI (by omega)];exact h.h1,⟨v,by rw [AI (by omega)];exact g⟩,⟨n,by rw [AI (by omega)];exact j⟩,h.cl.set hi hy⟩
theorem C'.tell{a b:aK}{j:List Nat}{J:aj}(h:C' a b j J)(v:Bool)(n:Int) :
  cX J (.ptr 2 0 0) [.f (.bool v)]=aa (J.set 2 (.box [.f (.bool v)] 0))∧cX (J.set 2 (.box [.f (.bool v)] 0)) (.ptr 3 0 0) [.f (fi n)]=aa ((J.set 2 (.box [.f (.bool v)] 0)).set 3 (.box [.f (fi n)] 0)) ∧
   fI j ((J.set 2 (.box [.f (.bool v)] 0)).set 3 (.box [.f (fi n)] 0))∧((J.set 2 (.box [.f (.bool v)] 0)).set 3 (.box [.f (fi n)] 0))[2]?=aa (.box [.f (.bool v)] 0)∧((J.set 2 (.box [.f (.bool v)] 0)).set 3 (.box [.f (fi n)] 0))[3]?=aa (.box [.f (fi n)] 0):=by
 obtain⟨w,g⟩:=h.h2;obtain⟨m,l⟩:=h.h3;have d:(J.set 2 (.box [.f (.bool v)] 0))[3]?=aa (.box [.f (fi m)] 0):=by rw [AI (by omega)];exact l
 refine⟨by simp [cX,g,over],by simp [cX,d,over],(h.cl.set g (by simp)).set d (by simp),?_,IN (ak d)⟩;rw [AI (by omega)];exact IN (ak g)
theorem acW(a b:aK)(ha:kJ a)(hb:kJ b):∃ r:Bool,(r=ae↔jc a b)∧bg tab 25 [.a (a.row.map .f),.a (b.row.map .f)]=Eq (.t [vb r,vi 0]):=by
 have key:∃ v,(∃ r:Bool,(r=ae↔jc a b)∧v=.t [vb r,vi 0])∧bg tab 25 [.a (a.row.map .f),.a (b.row.map .f)] v:=by
  refine sN atX rfl fun Q hQ=>?_;have i7:=(jI a ha.sm).eq;rw [ha.v]at i7;simp [aK.row]at i7;have i8:=(jI b hb.sm).eq;rw [hb.v]at i8;simp [aK.row]at i8;obtain⟨o_,rfl,i9⟩:=Bd a b ha.xs;obtain⟨p_,rfl,i_⟩:=Bd b a hb.xs;simp only [aK.row,avl,avs]at i9 i_;have i6:=xY a b;simp only [aK.row,avl,avs]at i6;have la:∀(N:List Nat) (J:aj),C' a b N J→aR J (aa 3) (.c (.ptr 0 0 0))=aa (.a [.f (sl a.cg (aM a.cs)),.f (fi a.len),.f (sl a.xg (aH a.xs))])∧aR J (aa 3) (.c (.ptr 1 0 0))=aa (.a [.f (sl b.cg (aM b.cs)),.f (fi b.len),.f (sl b.xg (aH b.xs))]):=fun N J h=>by refine⟨?_,?_⟩<;>simp [aR,aE,h.h0,h.h1,nD,aV]
  have j4:∀(t:T) (J:aj) (N:List Nat) (v:Bool),t.g 4=.c (.ptr 2 0 0)→t.g 5=.c (.ptr 3 0 0)→(v=ae↔jc a b)→fI N J→J[2]?=aa (.box [.f (.bool v)] 0)→J[3]?=aa (.box [.f (fi 0)] 0)→∀ j,Q j ⟨t,N.map .gZ,J⟩:=by
   intro t J N v Z g5 hv f_ F h3 j;refine hQ _ _ _ ⟨v,hv,rfl⟩ ⟨N,rfl,f_,.t [vb v,vi 0],?_,by simp [iU,cD,bj]⟩;have d2:=(gS (f_.not F (by simp))).trans F;have d3:=(gS (f_.not h3 (by simp))).trans h3;simp [Km.results,cA,bj,Z,g5,d2,d3]
  apply ai;simp [aK.row];obtain⟨J0,b_⟩:=aJ ([.box (nD a) 0,.box (nD b) 0,.box [.f (.bool ag)] 0,.box [.f (fi 0)] 0]:aj);have X:C' a b [] J0:=by rw [b_];exact⟨rfl,rfl,⟨_,rfl⟩,⟨_,rfl⟩,⟨by simp,by simp⟩⟩
  have l0:J0.length=4:=by rw [b_];rfl
  unfold nD at b_;rw [←b_];apply an;apply ai;simp [(la _ _ X).1,(la _ _ X).2,-aw,i7,i8];refine bo (by simp) ?_;apply an;apply ai;have l_:∀(t:T) (J:aj) (N:List Nat),t.g 2=.c (.ptr 0 0 0)→t.g 3=.c (.ptr 1 0 0)→t.g 4=.c (.ptr 2 0 0)→t.g 5=.c (.ptr 3 0 0)→C' a b N J→(∀ c ∈ a.cs,∀ d ∈ b.cs,∀ k,vr a.len b.len c d≤k→k≤vj a.len b.len c d→¬ Com c d k) →
    WP tab 25 ab [.code zm] ⟨t,N.map .gZ,J⟩ Q:=by
   intro t J N g2 g3 Z g5 hq i4;obtain⟨n3,k3⟩:=hq.h3;have n_:4≤J.length:=by have:=ak k3;omega
   obtain⟨l,f8⟩:=aJ (J.length);apply ai;simp;rw [←f8];obtain⟨HA,b9⟩:=aJ (J++[bw.box [.f (.bool ag)] 0]);rw [←b9];have kq:C' a b N HA:=hq.cO fun i hi=>by rw [b9,AT hi]
   have kl:HA[l]?=aa (.box [.f (.bool ag)] 0):=by rw [b9,f8];simp
   have kn:HA.length=l+1:=by rw [b9,f8];simp
   apply an;apply ai;simp [g2,g3,(la _ _ kq).1,(la _ _ kq).2,-aw,i6];refine aF ?_
   suffices go:∀ u:T,u.g 4=.c (.ptr 2 0 0)→u.g 5=.c (.ptr 3 0 0)→u.g 9=.c (.ptr l 0 0)→u.g 44=.c (.f (.fn 104 [.fp a.row 0,.fp b.row 0])) →
     WP tab 25 ab [.code Fg,.inBlock 2,.code Fh] ⟨u,N.map .gZ,HA⟩ Q by exact go _ (by simp [Z]) (by simp [g5]) (by simp) (by simp [aK.row])
   clear g2 g3 Z g5 t;intro u Z g5 g9 m9;obtain⟨S,B⟩:∃ S:ej→Option aG→bw,S=fun st pd=>.lp 25 u [P.nat 45] fY fZ st pd (l+1):=⟨_,rfl⟩
   obtain⟨m,y⟩:=aJ (HA++[.eH ae,S .ready ab]);have q4:m[l+1]?=aa (.eH ae):=by rw [y,IS (by omega),kn];simp
   have q5:m[l+1+1]?=aa (S .ready ab):=by rw [y,IS (by omega),kn];simp
   have qk:∀ i:Nat,i<HA.length→m[i]?=HA[i]?:=fun i hi=>by rw [y,AT hi]
   have j9:l+1 ∉ N:=fun hb=>by have:=ak (kq.cl.on _ hb);omega
   have qq:=kq.cO qk;have z:C' a b ((l+1)::N) m:=⟨qq.h0,qq.h1,qq.h2,qq.h3,⟨List.nodup_cons.2 ⟨j9,qq.cl.nd⟩,fun b hb=>by
    rcases avn.1 hb with rfl | hb
    ·exact q4
    ·exact qq.cl.on b hb⟩⟩
   have ql:m[l]?=aa (.box [.f (.bool ag)] 0):=by rw [qk l (by omega)];exact kl
   have n8:m.length=l+3:=by rw [y,api,kn];rfl
   obtain⟨H2,he,W⟩:=oV (bb:=l+1+1) (H:=m) a b ha hb (fun ps J=>m.length≤J.length∧(∀ i:Nat,i<m.length→i≠l→J[i]?=m[i]?)∧∃ v:Bool,J[l]?=aa (.box [.f (.bool v)] 0)∧(v=ae↔∃ p ∈ ps,Com p.c p.d p.k))
    (fun _ _=>False) ⟨aft _,fun _ _ _=>rfl,ag,ql,by simp⟩
    (fun ps J J' ⟨h1,F,v,h3,h4⟩ hk hl=>⟨by omega,fun i hi O=>by rw [hk i hi];exact F i hi O,v,by rw [hk l (by omega)];exact h3,h4⟩)
    (fun ps p J ⟨h1,F,v,h3,h4⟩ hl A=>by
     have K:J[l+1+1]?=aa (S .ready ab):=by rw [F _ (ak q5) (by omega)];exact q5
     rw [B]at K;have j_:=i4 p.c A.ca p.d A.db p.k A.lo A.hi;have j5:=akv p.gx p.gy p.xs p.ys A.xo A.yo fun x h0 hx=>j_ ((FB A).1 ⟨x,h0,hx⟩);have a_:=xX;change bg tab 58 [.a [.f .az]]=Eq (vb ae)at a_;obtain⟨em,f7⟩:=aJ (ae:Bool);rw [←f7]at a_;have I:em=ag↔Com p.c p.d p.k:=by rw [f7];exact⟨fun h=>(by cases h),fun h=>absurd h j_⟩
     refine⟨ae,?_⟩;obtain⟨r,J',h_,rfl,hr⟩:∃ r J',Ev tab (.yield (l+1+1)) [.a p.row] J r J'∧(r=vb ae∧(m.length≤J'.length∧(∀ i:Nat,i<m.length→i≠l→J'[i]?=m[i]?)∧J'[l]?=aa (.box [.f (.bool (v||!em))] 0))∧J.length≤J'.length∧∀ i:Nat,m.length≤i→i<J.length→J'[i]?=J[i]?):=by
      refine fj (tab:=tab) (b:=l+1+1) (args:=[.a p.row]) (H:=J) K rfl fun Q' d9=>?_;obtain⟨Y,U⟩:=aJ (J.length);have i5:p.row.length=8:=rfl;refine aq (.inr rfl) ?_;simp [i5];rw [←U];obtain⟨J1,L⟩:=aJ (J++[bw.box p.row 0]);rw [←L];have k1:∀ i:Nat,i<J.length→J1[i]?=J[i]?:=fun i hi=>by rw [L,AT hi]
      have d1:J1[Y]?=aa (.box p.row 0):=by rw [L,U];simp
      have n1:J1.length=Y+1:=by rw [L,U];simp
      have e5:J1[l+1+1]?=aa (.lp 25 u [P.nat 45] fY fZ .ready ab (l+1)):=by rw [k1 _ (ak K)];exact K
      refine ma e5 ?_;obtain⟨E,s⟩:=aJ (J1.set (l+1+1) (.lp 25 u [P.nat 45] fY fZ .busy ab (l+1)));rw [←s];have k2:∀ i:Nat,i<J.length→i≠l+1+1→E[i]?=J[i]?:=fun i hi O=>by rw [s,AI (Ne.symm O),k1 i hi]
      have d2:E[Y]?=aa (.box p.row 0):=by rw [s,AI (by have:=ak K;omega)];exact d1
      have f5:E[l+1+1]?=aa (.lp 25 u [P.nat 45] fY fZ .busy ab (l+1)):=by rw [s];exact IN (ak e5)
      have n2:E.length=Y+1:=by rw [s,avw];exact n1
      have v2:E[l]?=aa (.box [.f (.bool v)] 0):=by rw [k2 l (by omega) (by omega)];exact h3
      unfold Pr.row at d2;have c5:aR E (aa 1) (.c (.ptr Y 5 0))=aa (.a [.f (sl p.gx (aN p.xs))]):=by simp [aR,aE,d2,aV]
      have c6:aR E (aa 1) (.c (.ptr Y 6 0))=aa (.a [.f (sl p.gy (aN p.ys))]):=by simp [aR,aE,d2,aV]
      obtain⟨bm,j6⟩:=aJ (E.length);refine aF ?_;refine an (aq (.inr rfl) ?_);simp [c5,c6,-aw,j5];rw [←j6];obtain⟨J3,c_⟩:=aJ (E++[bw.box [.f (FC.az)] 0]);rw [←c_];have k3:∀ i:Nat,i<E.length→J3[i]?=E[i]?:=fun i hi=>by rw [c_,AT hi]
      have m3:J3[bm]?=aa (.box [.f (FC.az)] 0):=by rw [c_,j6];simp
      have v3:J3[l]?=aa (.box [.f (.bool v)] 0):=by rw [k3 l (by omega)];exact v2
      have m_:J3[l+1+1]?=aa (.lp 25 u [P.nat 45] fY fZ .busy ab (l+1)):=by rw [k3 _ (ak f5)];exact f5
      have lv:aR J3 ab (.c (.ptr l 0 0))=aa (vb v):=by simp [aR,aE,v3]
      have lm:aR J3 (aa 1) (.c (.ptr bm 0 0))=aa (.a [.f (FC.az)]):=by simp [aR,aE,m3,aV]
      have sv:∀ w:Bool,cX J3 (.ptr l 0 0) [.f (.bool w)]=aa (J3.set l (.box [.f (.bool w)] 0)):=fun w=>by simp [cX,v3,over]
      apply an;refine an (aq (.inr rfl) ?_);simp;refine bo (by simp) ?_;refine aq (.inr rfl) ?_;have e_:∀ t':T,WP tab 25 (aa (l+1+1)) [.inBlock 3] ⟨t',[],J3.set l (.box [.f (.bool (v||!em))] 0)⟩ Q':=fun t'=>by
       have s5:(J3.set l (.box [.f (.bool (v||!em))] 0))[l+1+1]?=aa (.lp 25 u [P.nat 45] fY fZ .busy ab (l+1)):=by rw [AI (by omega)];exact m_
       have n3:J3.length=Y+2:=by rw [c_,api,n2];rfl
       refine aA (cE (d9 _ _ _ _ _ _ _ _ _ _ rfl s5 ⟨rfl,⟨?_,fun i hi O=>?_,?_⟩,?_,fun i h1 F=>?_⟩))
       ·rw [avw,avw,n3];omega
       ·by_cases e:i=l+1+1
        ·subst e;rw [IN (ak s5)];rw [q5,B];rfl
        ·rw [AI (Ne.symm e),AI (Ne.symm O),k3 i (by omega),k2 i (by omega) e];exact F i hi O
       ·rw [AI (by omega)];exact IN (ak v3)
       ·rw [avw,avw,n3];omega
       ·rw [AI (by omega),AI (by omega),k3 i (by omega),k2 i (by omega) (by omega)]
      cases v with
      | true=>
       simp [g9,lv,sv,-aw,-bh];exact e_ _
      | false=>
       simp [g9,lv,lm,sv,-aw,-bh,a_];exact e_ _
     refine⟨J',h_,?_⟩;simp only [if_true];refine⟨⟨hr.1.1,hr.1.2.1,_,hr.1.2.2,?_⟩,hr.2⟩;simp only [Bool.or_eq_true,av8,I,h4,avq,avh];constructor
     ·rintro(⟨q,hq,h⟩ | h)
      ·exact⟨q,.inl hq,h⟩
      ·exact⟨p,.inr rfl,h⟩
     ·rintro⟨q,hq | rfl,h⟩
      ·exact .inl ⟨q,hq,h⟩
      ·exact .inr h)
   have g_:Ev tab (.fn 104) [.c (.yl (HA.length+1)),.c (.f (.fp a.row 0)),.c (.f (.fp b.row 0))] (HA++[.eH ae,.lp 25 u [P.nat 45] fY fZ .ready ab HA.length]) (.t []) H2:=by
    have e:HA++[.eH ae,.lp 25 u [P.nat 45] fY fZ .ready ab HA.length]=m:=by rw [y,B,kn]
    rw [e,kn];exact he
   refine iu (g:=104) (by rw [A9,m9];simp [bX]) g_ ?_;rw [kn];rcases W with⟨ps,⟨j8,M,v,hv,j7⟩,k_,a8⟩ | ⟨_,_,h⟩
   case inr=>exact h.elim
   have K:H2[l+1+1]?=aa (S .ready ab):=by rw [M _ (ak q5) (by omega)];exact q5
   obtain⟨w2,z2⟩:=z.h2;obtain⟨w3,z3⟩:=z.h3;have n9:l ∉ (l+1)::N:=fun h=>by
    have:=z.cl.on _ h;rw [ql]at this;cases this
   have pq:C' a b ((l+1)::N) H2:=⟨by rw [M 0 (by omega) (by omega)];exact z.h0,by rw [M 1 (by omega) (by omega)];exact z.h1,⟨w2,by rw [M 2 (by omega) (by omega)];exact z2⟩,⟨w3,by rw [M 3 (by omega) (by omega)];exact z3⟩,
    ⟨z.cl.nd,fun i hi=>by rw [M i (ak (z.cl.on i hi)) (fun e=>n9 (e▸hi))];exact z.cl.on i hi⟩⟩
   rw [B]at K;refine lj K (by decide) ?_;have eq:=pq.set K (by omega) (by simp) (.lp 25 u [P.nat 45] fY fZ .exhausted ab (l+1));have ev:(H2.set (l+1+1) (.lp 25 u [P.nat 45] fY fZ .exhausted ab (l+1)))[l]?=aa (.box [.f (.bool v)] 0):=by rw [AI (by omega)];exact hv
   generalize H2.set (l+1+1) (.lp 25 u [P.nat 45] fY fZ .exhausted ab (l+1))=H3 at eq ev ⊢;obtain⟨s1,s2,s3,s4,s6⟩:=eq.tell v 0;have lv:aR H3 ab (.c (.ptr l 0 0))=aa (vb v):=by simp [aR,aE,ev]
   refine aA ?_;apply ai;simp [Z,g5,g9,lv,s1,s2,-aw,-bh];refine aC (j4 _ _ _ v (by simp [Z]) (by simp [g5]) ?_ s3 s4 s6 _);rw [j7];constructor
   ·rintro⟨p,A,h⟩;have:=k_ p A;exact⟨p.c,this.ca,p.d,this.db,p.k,this.lo,this.hi,h⟩
   ·rintro⟨c,hc,d,hd,k,h1,F,h⟩;obtain⟨p,A,rfl,rfl,rfl⟩:=a8 c hc d hd k h1 F;exact⟨p,A,h⟩
  have early:∀ t:T,t.g 2=.c (.ptr 0 0 0)→t.g 3=.c (.ptr 1 0 0)→t.g 4=.c (.ptr 2 0 0)→t.g 5=.c (.ptr 3 0 0)→WP tab 25 ab [.code Fe] ⟨t,[],J0⟩ Q:=by
   intro t g2 g3 Z g5;apply an;apply ai;simp [g2,g3,(la _ _ X).1,(la _ _ X).2,-aw,i6];refine aF ?_
   suffices go:∀ u:T,u.g 2=.c (.ptr 0 0 0)→u.g 3=.c (.ptr 1 0 0)→u.g 4=.c (.ptr 2 0 0)→u.g 5=.c (.ptr 3 0 0)→u.g 31=.c (.f (.fn 104 [.fp a.row 0,.fp b.row 0])) →
     WP tab 25 ab [.code Ff,.inBlock 0,.code zm] ⟨u,([]:List Nat).map .gZ,J0⟩ Q by exact go _ (by simp [g2]) (by simp [g3]) (by simp [Z]) (by simp [g5]) (by simp [aK.row])
   clear g2 g3 Z g5 t;intro u g2 g3 Z g5 m4;obtain⟨S,B⟩:∃ S:ej→Option aG→bw,S=fun st pd=>.lp 25 u [P.nat 32] jZ j3 st pd 4:=⟨_,rfl⟩
   obtain⟨m,y⟩:=aJ (J0++[.eH ae,S .ready ab]);have q4:m[4]?=aa (.eH ae):=by rw [y,IS (by omega),l0];simp
   have q5:m[5]?=aa (S .ready ab):=by rw [y,IS (by omega),l0];simp
   have qq:=X.cO (J':=m) fun i hi=>by rw [y,AT hi]
   have z:C' a b [4] m:=⟨qq.h0,qq.h1,qq.h2,qq.h3,⟨by simp,fun b hb=>by rw [avh.1 hb];exact q4⟩⟩
   have n8:m.length=6:=by rw [y,api,l0];rfl
   obtain⟨H2,he,W⟩:=oV (bb:=5) (H:=m) a b ha hb (fun ps J=>m.length≤J.length∧(∀ i:Nat,i<m.length→J[i]?=m[i]?)∧∀ p ∈ ps,¬ Com p.c p.d p.k)
    (fun p J=>Com p.c p.d p.k∧fI [4] J∧J[2]?=aa (.box [.f (.bool ae)] 0)∧J[3]?=aa (.box [.f (fi 0)] 0)∧J[5]?=aa (S .done (aa .ret))) ⟨aft _,fun _ _=>rfl,by simp⟩
    (fun ps J J' ⟨h1,F,h3⟩ hk hl=>⟨by omega,fun i hi=>by rw [hk i hi];exact F i hi,h3⟩)
    (fun ps p J ⟨h1,F,h3⟩ hl A=>by
     have K:J[5]?=aa (S .ready ab):=by rw [F _ (ak q5)];exact q5
     have pq:=z.cO F;rw [B]at K;obtain⟨e,f,hm,-,d_⟩:=yI p.gx p.gy p.xs p.ys A.xo A.yo 0 (by omega) (by omega);have I:f=ae↔Com p.c p.d p.k:=by
      rw [←FB A];rcases hm with⟨rfl,-,k⟩ | ⟨rfl,k,-⟩
      ·exact⟨fun h=>(by cases h),fun⟨x,h0,h1,F⟩=>absurd ⟨by omega,h1,F⟩ (k x)⟩
      ·exact⟨fun _=>⟨e,by have:=k.1;omega,k.2⟩,fun _=>rfl⟩
     refine⟨!f,?_⟩;obtain⟨r,J',h_,rfl,hr⟩:∃ r J',Ev tab (.yield 5) [.a p.row] J r J'∧(r=vb (!f)∧(if f=ae then fI [4] J'∧J'[2]?=aa (.box [.f (.bool ae)] 0)∧J'[3]?=aa (.box [.f (fi 0)] 0)∧J'[5]?=aa (S .done (aa .ret))else J.length≤J'.length∧∀ i:Nat,i<J.length→J'[i]?=J[i]?)):=by
      refine fj (tab:=tab) (b:=5) (args:=[.a p.row]) (H:=J) K rfl fun Q' d9=>?_;obtain⟨Y,U⟩:=aJ (J.length);have i5:p.row.length=8:=rfl;refine aq (.inr rfl) ?_;simp [i5];rw [←U];obtain⟨J1,L⟩:=aJ (J++[bw.box p.row 0]);rw [←L];have k1:∀ i:Nat,i<J.length→J1[i]?=J[i]?:=fun i hi=>by rw [L,AT hi]
      have d1:J1[Y]?=aa (.box p.row 0):=by rw [L,U];simp
      have n1:J1.length=Y+1:=by rw [L,U];simp
      have e5:J1[5]?=aa (.lp 25 u [P.nat 32] jZ j3 .ready ab 4):=by rw [k1 _ (ak K)];exact K
      refine ma e5 ?_;obtain⟨E,s⟩:=aJ (J1.set 5 (.lp 25 u [P.nat 32] jZ j3 .busy ab 4));rw [←s];have k2:∀ i:Nat,i<J.length→i≠5→E[i]?=J[i]?:=fun i hi O=>by rw [s,AI (Ne.symm O),k1 i hi]
      have d2:E[Y]?=aa (.box p.row 0):=by rw [s,AI (by have:=ak K;omega)];exact d1
      have f5:E[5]?=aa (.lp 25 u [P.nat 32] jZ j3 .busy ab 4):=by rw [s];exact IN (ak e5)
      have n2:E.length=Y+1:=by rw [s,avw];exact n1
      have q2:C' a b [4] E:=by rw [s];exact(pq.cO k1).set e5 (by omega) (by simp) _
      unfold Pr.row at d2;have c5:aR E (aa 1) (.c (.ptr Y 5 0))=aa (.a [.f (sl p.gx (aN p.xs))]):=by simp [aR,aE,d2,aV]
      have c6:aR E (aa 1) (.c (.ptr Y 6 0))=aa (.a [.f (sl p.gy (aN p.ys))]):=by simp [aR,aE,d2,aV]
      refine aF ?_;refine an (aq (.inr rfl) ?_);simp [c5,c6,-aw,d_];apply an;refine aq (.inr rfl) ?_;simp;cases f with
      | true=>
       refine au (by simp) ?_;obtain⟨s1,s2,s3,s4,s6⟩:=q2.tell ae 0;have s5:((E.set 2 (.box [.f (.bool ae)] 0)).set 3 (.box [.f (fi 0)] 0))[5]?=aa (.lp 25 u [P.nat 32] jZ j3 .busy ab 4):=by rw [AI (by omega),AI (by omega)];exact f5
       refine an (aq (.inr rfl) ?_);simp [Z,g5,s1,s2,-bh];refine aC (d9 _ _ _ _ _ _ _ _ _ _ rfl s5 ⟨rfl,?_⟩);rw [bf rfl];refine⟨s3.set s5 (by simp),?_,?_,?_⟩
       ·rw [AI (by omega)];exact s4
       ·rw [AI (by omega)];exact s6
       ·rw [B];exact IN (ak s5)
      | false=>
       refine aB (by simp) (aP (aA (cE (d9 _ _ _ _ _ _ _ _ _ _ rfl f5 ⟨rfl,?_⟩))));rw [aY (by simp)];refine⟨by rw [avw,n2];omega,fun i hi=>?_⟩;by_cases e:i=5
       ·subst e;rw [IN (ak f5),K];rfl
       ·rw [AI (Ne.symm e),k2 i hi e]
     refine⟨J',h_,?_⟩;cases f with
     | true=>simpa using ⟨I.1 rfl,by simpa using hr⟩
     | false=>
      have hr:J.length≤J'.length∧∀ i:Nat,i<J.length→J'[i]?=J[i]?:=by simpa using hr
      simp only [Bool.not_false,if_true];refine⟨⟨by omega,fun i hi=>by rw [hr.2 i (by omega)];exact F i hi,fun q hq=>?_⟩,hr.1,fun i _ hi=>hr.2 i hi⟩;rcases avq.1 hq with h | h
      ·exact h3 q h
      ·rw [avh.1 h];intro h;have:=I.2 h;cases this)
   have g_:Ev tab (.fn 104) [.c (.yl (J0.length+1)),.c (.f (.fp a.row 0)),.c (.f (.fp b.row 0))] (J0++[.eH ae,.lp 25 u [P.nat 32] jZ j3 .ready ab J0.length]) (.t []) H2:=by
    have e:J0++[.eH ae,.lp 25 u [P.nat 32] jZ j3 .ready ab J0.length]=m:=by rw [y,B,l0]
    rw [e,l0];exact he
   refine iu (g:=104) (by rw [A9,m4];simp [bX]) g_ ?_;rw [l0];rcases W with⟨ps,⟨j8,M,i4⟩,k_,a8⟩ | ⟨p,A,I,c1,c2,c3,c5⟩
   ·have K:H2[5]?=aa (S .ready ab):=by rw [M _ (ak q5)];exact q5
    rw [B]at K;refine lj K (by decide) (aA ?_);exact l_ u _ [4] g2 g3 Z g5 ((z.cO M).set K (by omega) (by simp) _) fun c hc d hd k h1 F=>by
     obtain⟨p,A,rfl,rfl,rfl⟩:=a8 c hc d hd k h1 F;exact i4 p A
   ·rw [B]at c5;refine mb c5 (by decide) ?_;refine aC (j4 _ _ [4] ae Z g5 ⟨fun _=>⟨p.c,A.ca,p.d,A.db,p.k,A.lo,A.hi,I⟩,fun _=>rfl⟩ (c1.set c5 (by simp)) ?_ ?_ _)
    ·rw [AI (by omega)];exact c2
    ·rw [AI (by omega)];exact c3
  simp [(la _ _ X).1,(la _ _ X).2,-aw,i9,i_];refine bo (by simp) ?_;exact early _ (by simp) (by simp) (by simp) (by simp)
 obtain⟨v,⟨r,hr,rfl⟩,h⟩:=key;exact⟨r,hr,h.eq⟩
section
structure TK(fr lP:Int)(found:Bool)(X Y:aI)(H:aj):Prop where
 h2:H[2]?=aa (.box [.f (fi fr)] 0)
 h5:H[5]?=aa (.box [.f (fi X.day),.f (fi X.fr),.f (fi X.to)] 0)
 h6:H[6]?=aa (.box [.f (fi Y.day),.f (fi Y.fr),.f (fi Y.to)] 0)
 h7:H[7]?=aa (.box [.f (fi lP)] 0)
 h8:H[8]?=aa (.box [.f (.bool found)] 0)
theorem TK.cO{fr lP:Int}{found:Bool}{X Y:aI}{H H':aj}(h:TK fr lP found X Y H)(b:∀ i:Nat,i<9→H'[i]?=H[i]?):TK fr lP found X Y H':=
 ⟨by rw [b 2 (by omega)];exact h.h2,by rw [b 5 (by omega)];exact h.h5,by rw [b 6 (by omega)];exact h.h6,by rw [b 7 (by omega)];exact h.h7,by rw [b 8 (by omega)];exact h.h8⟩
def oD(b:Int)(x y:aI):Int:=max (max x.fr y.fr) b
theorem QP{a b c:Int}:xc ag [vi a,vi b,vi c]=aa (vi (max (max a b) c)):=by
 have d:(if a<b then b else a)=max a b:=by split<;>omega
 have g:(if max a b<c then c else max a b)=max (max a b) c:=by split<;>omega
 simp only [xc,tj,yH];simp [d,g,V.int]
def okB(b:Int)(x y:aI):Prop:=x.to≤2251799813685248∧y.to≤2251799813685248∧oD b x y<min x.to y.to
def D6(d b:Int)(x y X Y:aI):Prop:=vL [dg (oD d x y) b,eY x X,eY y Y]<0
open Classical in
noncomputable def iA (d b:Int) (found:Bool) (x y X Y:aI):Bool:=decide (okB d x y∧(found=ag∨D6 d b x y X Y))
theorem aeV(g b:Int)(found:Bool)(X Y x y:aI)(H:aj)(h:TK g b found X Y H) :
  ∃ H',Ev tab (.fn 212) [.a (x.row.map .f),.a (y.row.map .f),.c (.ptr 2 0 0),.c (.ptr 8 0 0),.c (.ptr 7 0 0),.c (.ptr 5 0 0),.c (.ptr 6 0 0)] H (.t []) H' ∧
   TK g (if iA g b found x y X Y then oD g x y else b) (found||iA g b found x y X Y) (if iA g b found x y X Y then x else X) (if iA g b found x y X Y then y else Y) H'∧H.length≤H'.length∧∀ i:Nat,i<H.length→i<5∨8<i→H'[i]?=H[i]?:=by
 have l8:=ak h.h8;have d9:max (max x.fr y.fr) g=oD g x y:=rfl;obtain⟨r,H',he,rfl,hP⟩:∃ r H',Ev tab (.fn 212) [.a (x.row.map .f),.a (y.row.map .f),.c (.ptr 2 0 0),.c (.ptr 8 0 0),.c (.ptr 7 0 0),.c (.ptr 5 0 0),.c (.ptr 6 0 0)] H r H'∧(r=.t [] ∧
   TK g (if iA g b found x y X Y then oD g x y else b) (found||iA g b found x y X Y) (if iA g b found x y X Y then x else X) (if iA g b found x y X Y then y else Y) H'∧H.length≤H'.length∧∀ i:Nat,i<H.length→i<5∨8<i→H'[i]?=H[i]?):=by
  have o1:=vM x X;have o2:=vM y Y;simp only [aI.row,avl,avs]at o1 o2;have ho:=yL .fs [dg (oD g x y) b,eY x X,eY y Y] (by simp);simp [ints,sl,Tg.fc]at ho;have W:=gm (oD g x y) b;refine cL rfl rfl fun Q hQ=>?_;apply ai;simp [aI.row];obtain⟨d,q⟩:=aJ (H++[bw.box [.f (fi x.day),.f (fi x.fr),.f (fi x.to)] 0,.box [.f (fi y.day),.f (fi y.fr),.f (fi y.to)] 0]);obtain⟨m,M⟩:=aJ (H.length);have hT:TK g b found X Y d:=h.cO fun i hi=>by rw [q,AT (by omega)]
  have c7:d[m]?=aa (.box [.f (fi x.day),.f (fi x.fr),.f (fi x.to)] 0):=by rw [q,M];simp
  have c8:d[m+1]?=aa (.box [.f (fi y.day),.f (fi y.fr),.f (fi y.to)] 0):=by rw [q,M,IS (by omega)];simp
  have kA:∀ i:Nat,i<H.length→d[i]?=H[i]?:=fun i hi=>by rw [q,AT hi]
  have lA:d.length=m+2:=by rw [q,api,M];rfl
  rw [←q,←M];have m7:∀ J:aj,J[m]?=aa (.box [.f (fi x.day),.f (fi x.fr),.f (fi x.to)] 0)→aR J ab (.c (.ptr m 1 0))=aa (vi x.fr)∧aR J ab (.c (.ptr m 2 0))=aa (vi x.to)∧aR J (aa 3) (.c (.ptr m 0 0))=aa (.a [.f (fi x.day),.f (fi x.fr),.f (fi x.to)]):=fun J h=>by refine⟨?_,?_,?_⟩<;>simp [aR,aE,h,aV]
  have m8:∀ J:aj,J[m+1]?=aa (.box [.f (fi y.day),.f (fi y.fr),.f (fi y.to)] 0)→aR J ab (.c (.ptr (m+1) 1 0))=aa (vi y.fr)∧aR J ab (.c (.ptr (m+1) 2 0))=aa (vi y.to)∧aR J (aa 3) (.c (.ptr (m+1) 0 0))=aa (.a [.f (fi y.day),.f (fi y.fr),.f (fi y.to)]):=fun J h=>by refine⟨?_,?_,?_⟩<;>simp [aR,aE,h,aV]
  obtain⟨x1,x2,x3⟩:=m7 d c7;obtain⟨y1,y2,y3⟩:=m8 d c8;have h_:aR d ab (.c (.ptr 2 0 0))=aa (vi g):=by simp [aR,aE,hT.h2]
  have g_:aR d ab (.c (.ptr 7 0 0))=aa (vi b):=by simp [aR,aE,hT.h7]
  have i4:aR d (aa 3) (.c (.ptr 5 0 0))=aa (.a [.f (fi X.day),.f (fi X.fr),.f (fi X.to)]):=by simp [aR,aE,hT.h5,aV]
  have i5:aR d (aa 3) (.c (.ptr 6 0 0))=aa (.a [.f (fi Y.day),.f (fi Y.fr),.f (fi Y.to)]):=by simp [aR,aE,hT.h6,aV]
  have d_:aR d ab (.c (.ptr 8 0 0))=aa (vb found):=by simp [aR,aE,hT.h8]
  obtain⟨l,L⟩:=aJ (oD g x y);rw [←L]at d9 ho W;have no:∀(t:T) (J:aj),iA g b found x y X Y=ag→(∀ i:Nat,i<d.length→J[i]?=d[i]?)→d.length≤J.length→(∀ j:Option aG,Q j ⟨t,[],J⟩):=by
   intro t J hu hJ hl j;refine hQ _ _ _ rfl rfl ⟨rfl,?_,by show H.length≤J.length;omega,fun i hi _=>by show J[i]?=_;rw [hJ i (by omega),kA i hi]⟩;rw [hu];simpa using hT.cO fun i hi=>hJ i (by omega)
  apply ai;simp [x1,y1,h_,-aw,QP,d9]
  suffices a_:∀ t:T,t.g 3=.c (.ptr 8 0 0)→t.g 4=.c (.ptr 7 0 0)→t.g 5=.c (.ptr 5 0 0)→t.g 6=.c (.ptr 6 0 0)→t.g 7=.c (.ptr m 0 0)→t.g 8=.c (.ptr (m+1) 0 0)→t.g 9=vi l→WP tab 212 ab [.code aa7] ⟨t,[],d⟩ Q by exact a_ _ (by simp) (by simp) (by simp) (by simp) (by simp) (by simp) (by simp)
  intro t g3 S g5 g6 u v A;have N:okB g x y↔(x.to≤2251799813685248∧y.to≤2251799813685248∧l<min x.to y.to):=by rw [L];rfl
  have z:¬ okB g x y→iA g b found x y X Y=ag:=fun h=>by unfold iA;simp [h]
  apply an;apply ai;by_cases c1:2251799813685248<x.to
  ·simp [u,x2,c1,-aw];refine au (by simp) ?_;exact aC (no _ d (z fun h=>by have:=(N.1 h).1;omega) (fun _ _=>rfl) (aft _) _)
  by_cases c2:2251799813685248<y.to
  ·simp [u,v,x2,y2,c1,c2,-aw];refine au (by simp) ?_;exact aC (no _ d (z fun h=>by have:=(N.1 h).2.1;omega) (fun _ _=>rfl) (aft _) _)
  by_cases c3:min x.to y.to≤l
  ·simp [u,v,A,x2,y2,c1,c2,c3,-aw];refine au (by simp) ?_;exact aC (no _ d (z fun h=>by have:=(N.1 h).2.2;omega) (fun _ _=>rfl) (aft _) _)
  have Z:okB g x y:=N.2 ⟨by omega,by omega,by omega⟩;simp [u,v,A,x2,y2,c1,c2,c3,-aw];refine bo (by simp) ?_;have e_:∀(t:T) (J:aj),iA g b found x y X Y=ae→t.g 3=.c (.ptr 8 0 0)→t.g 4=.c (.ptr 7 0 0)→t.g 5=.c (.ptr 5 0 0)→t.g 6=.c (.ptr 6 0 0)→t.g 7=.c (.ptr m 0 0)→t.g 8=.c (.ptr (m+1) 0 0)→t.g 9=vi l→(∀ i:Nat,i<d.length→J[i]?=d[i]?)→d.length≤J.length→WP tab 212 ab [.code Fc] ⟨t,[],J⟩ Q:=by
   intro t J hu g3 S g5 g6 u v A hJ hl;have s:=hT.cO (H':=J) fun i hi=>hJ i (by omega);have d7:J[m]?=aa (.box [.f (fi x.day),.f (fi x.fr),.f (fi x.to)] 0):=by rw [hJ m (by omega)];exact c7
   have d8:J[m+1]?=aa (.box [.f (fi y.day),.f (fi y.fr),.f (fi y.to)] 0):=by rw [hJ (m+1) (by omega)];exact c8
   obtain⟨-,-,x3⟩:=m7 J d7;obtain⟨-,-,y3⟩:=m8 J d8;obtain⟨O,E⟩:=aJ (J.set 7 (.box [.f (fi l)] 0));have s1:cX J (.ptr 7 0 0) [.f (fi l)]=aa O:=by rw [E];simp [cX,s.h7,over]
   have k1:∀ i:Nat,i≠7→O[i]?=J[i]?:=fun i hi=>by rw [E,AI (Ne.symm hi)]
   have n1:O.length=J.length:=by rw [E];simp
   obtain⟨J2,F⟩:=aJ (O.set 5 (.box [.f (fi x.day),.f (fi x.fr),.f (fi x.to)] 0));have s2:cX O (.ptr 5 0 0) [.f (fi x.day),.f (fi x.fr),.f (fi x.to)]=aa J2:=by rw [F];simp [cX,k1 5 (by omega),s.h5,over]
   have k2:∀ i:Nat,i≠5→J2[i]?=O[i]?:=fun i hi=>by rw [F,AI (Ne.symm hi)]
   have n2:J2.length=J.length:=by rw [F];simp [n1]
   obtain⟨J3,I⟩:=aJ (J2.set 6 (.box [.f (fi y.day),.f (fi y.fr),.f (fi y.to)] 0));have s3:cX J2 (.ptr 6 0 0) [.f (fi y.day),.f (fi y.fr),.f (fi y.to)]=aa J3:=by rw [I];simp [cX,k2 6 (by omega),k1 6 (by omega),s.h6,over]
   have k3:∀ i:Nat,i≠6→J3[i]?=J2[i]?:=fun i hi=>by rw [I,AI (Ne.symm hi)]
   have n3:J3.length=J.length:=by rw [I];simp [n2]
   obtain⟨J4,K⟩:=aJ (J3.set 8 (.box [.f (.bool ae)] 0));have s4:cX J3 (.ptr 8 0 0) [.f (.bool ae)]=aa J4:=by rw [K];simp [cX,k3 8 (by omega),k2 8 (by omega),k1 8 (by omega),s.h8,over]
   have k4:∀ i:Nat,i≠8→J4[i]?=J3[i]?:=fun i hi=>by rw [K,AI (Ne.symm hi)]
   have i_:=ak s.h7;have j4:8<m:=by omega
   obtain⟨-,-,i6⟩:=m7 O (by rw [k1 m (by omega)];exact d7);obtain⟨-,-,i7⟩:=m8 O (by rw [k1 (m+1) (by omega)];exact d8);obtain⟨-,-,i8⟩:=m8 J2 (by rw [k2 (m+1) (by omega),k1 (m+1) (by omega)];exact d8);refine gn (.inl rfl) ?_ ?_
   case refine_2=>
    intro cc f8;have f7:cc=(1,4)∨cc=(2,4)∨cc=(2,5):=by simpa using f8
    rcases f7 with rfl | rfl | rfl
    ·refine⟨by decide,_,rfl,.inl ⟨by decide,?_⟩⟩;simp [S,u,v,A,x3,y3,i6,s1,-aw,-bh,ib,V.beq,C.beq,FC.beq]
    ·refine⟨by decide,_,rfl,.inl ⟨by decide,?_⟩⟩;simp [S,u,v,A,x3,y3,i7,s1,-aw,-bh,ib,V.beq,C.beq,FC.beq]
    ·refine⟨by decide,_,rfl,.inl ⟨by decide,?_⟩⟩;simp [S,g5,u,v,A,x3,y3,i8,s1,s2,-aw,-bh,ib,V.beq,C.beq,FC.beq]
   simp [g3,S,g5,g6,u,v,A,x3,y3,s1,s2,s3,s4,-aw,-bh];refine cE (hQ _ _ _ rfl rfl ⟨rfl,?_,by show H.length≤J4.length;rw [K];simp;omega,fun i hi i9=>?_⟩)
   ·rw [hu];simp only [if_true,Bool.or_true];rw [←L];refine⟨?_,?_,?_,?_,?_⟩
    ·rw [k4 2 (by omega),k3 2 (by omega),k2 2 (by omega),k1 2 (by omega)];exact s.h2
    ·rw [k4 5 (by omega),k3 5 (by omega),F];exact IN (by omega)
    ·rw [k4 6 (by omega),I];exact IN (by omega)
    ·rw [k4 7 (by omega),k3 7 (by omega),k2 7 (by omega),E];exact IN (by omega)
    ·rw [K];exact IN (by omega)
   ·show J4[i]?=_;rw [k4 i (by omega),k3 i (by omega),k2 i (by omega),k1 i (by omega),hJ i (by omega),kA i hi]
  apply an;cases found with
  | false=>
   refine aq (.inl rfl) ?_;simp [g3,d_,-aw];refine au (by simp) ?_;exact e_ _ d (by unfold iA;simp [Z]) (by simp [g3]) (by simp [S]) (by simp [g5]) (by simp [g6]) (by simp [u]) (by simp [v]) (by simp [A]) (fun _ _=>rfl) (aft _)
  | true=>
   obtain⟨HB,B⟩:=aJ (d++[bw.box [.f (fi (dg l b)),.f (fi (eY x X)),.f (fi (eY y Y))] 0]);have b_:HB[d.length]?=aa (.box [.f (fi (dg l b)),.f (fi (eY x X)),.f (fi (eY y Y))] 0):=by rw [B];simp
   have c_:ey 64 HB (.sl d.length 0 3 3 0 1)=aa (.fs [fi (dg l b),fi (eY x X),fi (eY y Y)] 3):=by
    rw [show(64:Nat)=63+1 from rfl];simp only [mD,b_];rfl
   obtain⟨HC,b9⟩:=aJ (gF 64 (.sl d.length 0 3 3 0 1) HB);have U:HC=HB.set d.length (.box [.f (fi (dg l b)),.f (fi (eY x X)),.f (fi (eY y Y))] 3):=by
    rw [b9,show(64:Nat)=63+1 from rfl];simp only [qW,b_];rfl
   have kC:∀ i:Nat,i<d.length→HC[i]?=d[i]?:=fun i hi=>by rw [U,AI (by omega),B,AT hi]
   have lC:d.length≤HC.length:=by rw [U,avw,B,api];omega
   have a8:vL [dg l b,eY x X,eY y Y]<0↔D6 g b x y X Y:=by unfold D6;rw [←L]
   obtain⟨oo,f_⟩:=aJ (vL [dg l b,eY x X,eY y Y]);rw [←f_]at ho a8;refine aq (.inl rfl) ?_;simp [g3,S,g5,g6,u,v,A,d_,g_,i4,i5,x3,y3,-aw,W,o1,o2,←B,c_,deep,ho,←b9];by_cases k:oo<0
   ·refine au (by simp [k]) ?_;exact e_ _ HC (by unfold iA;simp [Z,a8.1 k]) (by simp [g3]) (by simp [S]) (by simp [g5]) (by simp [g6]) (by simp [u]) (by simp [v]) (by simp [A]) kC lC
   ·refine bo (by simp [k]) ?_;exact cE (no _ HC (by unfold iA;simp [show¬ D6 g b x y X Y from fun h=>k (a8.2 h)]) kC lC ab)
 exact⟨H',he,hP⟩
end
def Cg(b:Int)(x y X Y:aI):Prop:=oD b x y<oD b X Y∨oD b x y=oD b X Y∧(x.lt X∨(x.fr=X.fr∧x.day=X.day∧x.to=X.to)∧y.lt Y)
theorem yM(x y:aI):eY x y=0↔x.fr=y.fr∧x.day=y.day∧x.to=y.to:=by
 have l:∀ a b:Int,dg a b=0↔a=b:=fun a b=>by unfold dg;split<;>(try split)<;>omega
 unfold eY;simp only [vL];have m:=l x.fr y.fr;have q:=l x.day y.day;have s:=l x.to y.to;by_cases d:dg x.fr y.fr=0
 ·rw [bf d];by_cases g:dg x.day y.day=0
  ·rw [bf g];by_cases j:dg x.to y.to=0
   ·rw [bf j];exact⟨fun _=>⟨m.1 d,q.1 g,s.1 j⟩,fun _=>rfl⟩
   ·rw [aY j];exact⟨fun h=>absurd h j,fun h=>absurd (s.2 h.2.2) j⟩
  ·rw [aY g];exact⟨fun h=>absurd h g,fun h=>absurd (q.2 h.2.1) g⟩
 ·rw [aY d];exact⟨fun h=>absurd h d,fun h=>absurd (m.2 h.1) d⟩
theorem aku(b:Int)(x y X Y:aI):D6 b (oD b X Y) x y X Y↔Cg b x y X Y:=by
 unfold D6 Cg;have l:dg (oD b x y) (oD b X Y)=0↔oD b x y=oD b X Y:=by unfold dg;split<;>(try split)<;>omega
 have A:dg (oD b x y) (oD b X Y)<0↔oD b x y<oD b X Y:=by unfold dg;split<;>(try split)<;>omega
 have v:=yM x X;have B:=yM y Y;have m:=q8 x X;have q:=q8 y Y;simp only [vL];by_cases d:dg (oD b x y) (oD b X Y)=0
 ·rw [bf d];have e:=l.1 d;by_cases g:eY x X=0
  ·rw [bf g];have z:=v.1 g;have u:¬ x.lt X:=fun h=>by have:=m.2 h;omega
   by_cases s:eY y Y=0
   ·rw [bf s];have j:¬ y.lt Y:=fun h=>by have:=q.2 h;omega
    constructor
    ·intro h;omega
    ·rintro(h | ⟨-,h | ⟨-,h⟩⟩)
     ·omega
     ·exact absurd h u
     ·exact absurd h j
   ·rw [aY s,q];constructor
    ·intro h;exact .inr ⟨e,.inr ⟨z,h⟩⟩
    ·rintro(h | ⟨-,h | ⟨-,h⟩⟩)
     ·omega
     ·exact absurd h u
     ·exact h
  ·rw [aY g,m];constructor
   ·intro h;exact .inr ⟨e,.inl h⟩
   ·rintro(h | ⟨-,h | ⟨h,-⟩⟩)
    ·omega
    ·exact h
    ·exact absurd (v.2 h) g
 ·rw [aY d,A];constructor
  ·intro h;exact .inl h
  ·rintro(h | ⟨h,-⟩)
   ·exact h
   ·exact absurd (l.2 h) d
theorem yP{b:Int}{x y X Y Z W:aI}(h:Cg b x y X Y)(d:Cg b X Y Z W):Cg b x y Z W:=by
 unfold Cg aI.lt at *;omega
theorem akG{b:Int}{x y X Y:aI}(h:¬ Cg b x y X Y)(v:¬ Cg b X Y x y):x=X∧y=Y:=by
 have d:x.fr=X.fr∧x.day=X.day∧x.to=X.to:=by unfold Cg aI.lt at *;omega
 have g:y.fr=Y.fr∧y.day=Y.day∧y.to=Y.to:=by unfold Cg aI.lt at *;omega
 cases x;cases X;cases y;cases Y;simp only at d g;obtain⟨j,l,m⟩:=d;obtain⟨q,s,u⟩:=g;subst j l m q s u;exact⟨rfl,rfl⟩
structure FS where
 lP:Int
 found:Bool
 X:aI
 Y:aI
noncomputable def gE (b:Int) (s:FS) (x y:aI):FS:=⟨if iA b s.lP s.found x y s.X s.Y then oD b x y else s.lP,s.found||iA b s.lP s.found x y s.X s.Y,if iA b s.lP s.found x y s.X s.Y then x else s.X,if iA b s.lP s.found x y s.X s.Y then y else s.Y⟩
def mI(b:Int)(S:aI→aI→Prop)(s:FS):Prop:=(s.found=ag∧s.X=⟨0,0,0⟩∧s.Y=⟨0,0,0⟩∧∀ x y,S x y→¬ okB b x y)∨(s.found=ae∧S s.X s.Y∧okB b s.X s.Y∧s.lP=oD b s.X s.Y∧∀ x y,S x y→okB b x y→¬ Cg b x y s.X s.Y)
theorem mI.iff{fr:Int}{S S':aI→aI→Prop}{s:FS}(h:mI fr S s)(d:∀ x y,okB fr x y→(S' x y↔S x y)):mI fr S' s:=by
 rcases h with⟨h1,h2,h3,h4⟩ | ⟨h1,h2,h3,h4,h5⟩
 ·exact .inl ⟨h1,h2,h3,fun x y h b=>h4 x y ((d x y b).1 h) b⟩
 ·exact .inr ⟨h1,(d _ _ h3).2 h2,h3,h4,fun x y h b=>h5 x y ((d x y b).1 h) b⟩
theorem mI.step{fr:Int}{S T:aI→aI→Prop}{s:FS}(h:mI fr S s){x y:aI}(v:T x y)(u:∀ d g,T d g→okB fr d g→okB fr x y∧¬ Cg fr d g x y):mI fr (fun x y=>S x y∨T x y) (gE fr s x y):=by
 by_cases j:okB fr x y
 ·rcases h with⟨h1,h2,h3,h4⟩ | ⟨h1,h2,h3,h4,h5⟩
  ·have hu:iA fr s.lP s.found x y s.X s.Y=ae:=by unfold iA;simp [j,h1]
   refine .inr ⟨?_,?_,?_,?_,fun d g b l=>?_⟩
   ·simp [gE,hu]
   ·simp only [gE,hu,if_true];exact .inr v
   ·simp only [gE,hu,if_true];exact j
   ·simp only [gE,hu,if_true]
   ·simp only [gE,hu,if_true];rcases b with b | b
    ·exact absurd l (h4 d g b)
    ·exact(u d g b l).2
  ·have m:D6 fr s.lP x y s.X s.Y↔Cg fr x y s.X s.Y:=by rw [h4];exact aku fr x y s.X s.Y
   by_cases k:Cg fr x y s.X s.Y
   ·have hu:iA fr s.lP s.found x y s.X s.Y=ae:=by unfold iA;simp [j,m.2 k]
    refine .inr ⟨?_,?_,?_,?_,fun d g b l=>?_⟩
    ·simp [gE,hu]
    ·simp only [gE,hu,if_true];exact .inr v
    ·simp only [gE,hu,if_true];exact j
    ·simp only [gE,hu,if_true]
    ·simp only [gE,hu,if_true];rcases b with b | b
     ·exact fun q=>h5 d g b l (yP q k)
     ·exact(u d g b l).2
   ·have hu:iA fr s.lP s.found x y s.X s.Y=ag:=by unfold iA;simp [h1,show¬ D6 fr s.lP x y s.X s.Y from fun h=>k (m.1 h)]
    refine .inr ⟨?_,?_,?_,?_,fun d g b l=>?_⟩
    ·simp [gE,hu,h1]
    ·simp only [gE,hu];exact .inl h2
    ·simp only [gE,hu];exact h3
    ·simp only [gE,hu];exact h4
    ·simp only [gE,hu];rcases b with b | b
     ·exact h5 d g b l
     ·intro q;have h6:=(u d g b l).2;by_cases e:Cg fr x y d g
      ·exact k (yP e q)
      ·obtain⟨rfl,rfl⟩:=akG h6 e;exact k q
 ·have hu:iA fr s.lP s.found x y s.X s.Y=ag:=by unfold iA;simp [j]
  have z:gE fr s x y=s:=by simp [gE,hu]
  rw [z];refine h.iff fun d g l=>⟨fun h=>h.elim id fun h=>absurd (u d g h l).1 j,.inl⟩
theorem mI.none{fr:Int}{S T:aI→aI→Prop}{s:FS}(h:mI fr S s)(j:∀ b d,T b d→¬ okB fr b d):mI fr (fun x y=>S x y∨T x y) s:=
 h.iff fun b d g=>⟨fun h=>h.elim id fun h=>absurd g (j b d h),.inl⟩
theorem wF(g j l:FC)(len mi d:Int)(u:0≤len)(m:len≤10080)(v:-4320≤mi)(q:mi≤4320) :
  bg tab 213 [.a [.f g,.f (fi len),.f j],.a [.f l,.f (fi mi)],vi d]=Eq (vb (decide (d≤(2251799813685248-mi-len) / 1440))):=Kf.eq (by
 refine cr rfl rfl fun H Q s=>?_;apply ai;simp;apply ai;simp [aW (n:=2251799813685248-mi),aW (n:=2251799813685248-mi-len),nw (a:=2251799813685248-mi-len) (b:=1440) (by omega) (by omega) (by omega)];refine aC (s _ _ ?_);simp)
def CZ:C:=.cl 212 [.ptr 2 0 0,.ptr 8 0 0,.ptr 7 0 0,.ptr 5 0 0,.ptr 6 0 0]
structure FQ(a b:aK)(fr:Int)(s:FS)(J:aj):Prop where
 h0:J[0]?=aa (.box (nD a) 0)
 h1:J[1]?=aa (.box (nD b) 0)
 h3:J[3]?=aa (.box [.f (fi 0),.f (fi 0),.f (fi 0)] 0)
 h4:J[4]?=aa (.box [.f (fi 0),.f (fi 0),.f (fi 0)] 0)
 h9:J[9]?=aa (.box [CZ] 0)
 tk:TK fr s.lP s.found s.X s.Y J
theorem FQ.cO{a b:aK}{fr:Int}{s:FS}{J J':aj}(h:FQ a b fr s J)(d:∀ i:Nat,i<10→J'[i]?=J[i]?):FQ a b fr s J':=
 ⟨by rw [d 0 (by omega)];exact h.h0,by rw [d 1 (by omega)];exact h.h1,by rw [d 3 (by omega)];exact h.h3,by rw [d 4 (by omega)];exact h.h4,by rw [d 9 (by omega)];exact h.h9,h.tk.cO fun i hi=>d i (by omega)⟩
structure FT(t:T):Prop where
 g3:t.g 3=.c (.ptr 0 0 0)
 g4:t.g 4=.c (.ptr 1 0 0)
 g5:t.g 5=.c (.ptr 2 0 0)
 g6:t.g 6=.c (.ptr 3 0 0)
 g7:t.g 7=.c (.ptr 4 0 0)
 g9:t.g 9=.c (.ptr 5 0 0)
 g10:t.g 10=.c (.ptr 6 0 0)
 g12:t.g 12=.c (.ptr 8 0 0)
 g13:t.g 13=.c (.ptr 9 0 0)
theorem aeW{a b:aK}{g:Int}{s:FS}{J:aj}(h:FQ a b g s J)(x y:aI):∃ J',Ev tab (.fn 212) [.a (x.row.map .f),.a (y.row.map .f),.c (.ptr 2 0 0),.c (.ptr 8 0 0),.c (.ptr 7 0 0),.c (.ptr 5 0 0),.c (.ptr 6 0 0)] J (.t []) J'∧FQ a b g (gE g s x y) J'∧J.length≤J'.length∧∀ i:Nat,8<i→i<J.length→J'[i]?=J[i]?:=by
 obtain⟨J',m,l,q,d⟩:=aeV g s.lP s.found s.X s.Y x y J h.tk;have v:=ak h.h9;exact⟨J',m,⟨by rw [d 0 (by omega) (by omega)];exact h.h0,by rw [d 1 (by omega) (by omega)];exact h.h1,by rw [d 3 (by omega) (by omega)];exact h.h3,by rw [d 4 (by omega) (by omega)];exact h.h4,by rw [d 9 (by omega) (by omega)];exact h.h9,l⟩,q,fun i u j=>d i j (by omega)⟩
def acY(a b:aK)(p:Pr):Int:=min (p.c.min+a.len) (p.k*1440+p.d.min+b.len)
def n0P(a b:aK)(d:Int)(p:Pr):Int:=max 0 ((d-acY a b p) / 1440+1-max 0 (-p.k))
def fJ(a:aK)(p:Pr)(e:Int):aI:=cM a.len p.c.min (e+max 0 (-p.k))
def fK(b:aK)(p:Pr)(e:Int):aI:=cM b.len p.d.min (e+max 0 (-p.k)+p.k)
noncomputable def ER (a b:aK) (d:Int) (p:Pr) (e:Int) (f:Bool) (s:FS):FS:=if f then gE d s (fJ a p e) (fK b p e)else s
theorem Es(a b:aK)(ha:kJ a)(hb:kJ b){q:Int}(f0:-2251799813685248≤q)(f1:q≤100000000000000){O:T}(E:FT O){p:Pr}(Q:oN a b p){s:FS}{J:aj}(hq:FQ a b q s J)(b9:J[10]?=aa (.eH ae))(L:J[11]?=aa (.lp 138 O [P.nat 47] gI gJ .ready ab 10)) :
  ∃ e f,ik (fun e=>n0P a b q p≤e∧eF p.xs e∧eF p.ys e) e f∧(f=ae→e≤1000001000000)∧∃ r J',Ev tab (.yield 11) [.a p.row] J r J'∧(r=vb ae∧FQ a b q (ER a b q p e f s) J'∧J'[10]?=aa (.eH ae)∧J'[11]?=aa (.lp 138 O [P.nat 47] gI gJ .ready ab 10)∧J.length≤J'.length∧∀ i:Nat,12≤i→i<J.length→J'[i]?=J[i]?):=by
 obtain⟨j5,j6⟩:=ha.len;obtain⟨j7,j8⟩:=hb.len;have i8:=ha.min Q.ca;have i9:=hb.min Q.db;have d_:=Q.lo;have d9:=Q.hi;unfold vr at d_;unfold vj at d9;have kb:-20≤p.k∧p.k≤20:=by omega
 obtain⟨B,M⟩:=aJ (acY a b p);have i7:-100000≤B∧B≤100000:=by rw [M];unfold acY;omega
 have X:min (p.c.min+a.len) (p.k*1440+p.d.min+b.len)=B:=M.symm;obtain⟨l,z⟩:=aJ (max 0 (-p.k));have i6:0≤l∧l≤20:=by omega
 obtain⟨n,hn⟩:=aJ (n0P a b q p);have f7:max 0 ((q-B) / 1440+1-l)=n:=by rw [hn,M,z];rfl
 have j4:0≤n∧n≤1000000000000:=by omega
 obtain⟨e,f,hm,b_,A⟩:=yI p.gx p.gy p.xs p.ys Q.xo Q.yo n (by omega) (by omega);have e_:ik (fun e=>n0P a b q p≤e∧eF p.xs e∧eF p.ys e) e f:=hm.iff fun x=>by rw [←hn,show max n 0=n by omega]
 refine⟨e,f,e_,fun _=>b_.2,?_⟩;refine fj (tab:=tab) (b:=11) (args:=[.a p.row]) (H:=J) L rfl fun Q' W=>?_;obtain⟨d,v⟩:=aJ (J.length);obtain⟨S,y⟩:=aJ (J++[bw.box p.row 0]);have h_:=ak L;have a_:S[d]?=aa (.box p.row 0):=by rw [y,v];simp
 have k1:∀ i:Nat,i<J.length→S[i]?=J[i]?:=fun i hi=>by rw [y,AT hi]
 have l1:S.length=d+1:=by rw [y,api,v];rfl
 have f_:p.row.length=8:=rfl;refine aq (.inr rfl) ?_;simp [f_];rw [←y,←v];have i5:S[11]?=aa (.lp 138 O [P.nat 47] gI gJ .ready ab 10):=by rw [k1 11 h_];exact L
 refine ma i5 ?_;obtain⟨g,u⟩:=aJ (S.set 11 (.lp 138 O [P.nat 47] gI gJ .busy ab 10));have k2:∀ i:Nat,i<J.length→i≠11→g[i]?=J[i]?:=fun i hi f8=>by rw [u,AI (Ne.symm f8),k1 i hi]
 have j:g[d]?=aa (.box p.row 0):=by rw [u,AI (by omega)];exact a_
 have K:g[11]?=aa (.lp 138 O [P.nat 47] gI gJ .busy ab 10):=by rw [u];exact IN (by omega)
 have U:g[10]?=aa (.eH ae):=by rw [k2 10 (by omega) (by omega)];exact b9
 have m:FQ a b q s g:=hq.cO fun i hi=>k2 i (by omega) (by omega);have l2:g.length=d+1:=by rw [u,avw];exact l1
 rw [←u];unfold Pr.row at j;rw [←z]at j;have c0:aR g ab (.c (.ptr d 1 0))=aa (vi p.c.min):=by simp [aR,aE,j]
 have c1:aR g ab (.c (.ptr d 4 0))=aa (vi p.k):=by simp [aR,aE,j]
 have c2:aR g ab (.c (.ptr d 3 0))=aa (vi p.d.min):=by simp [aR,aE,j]
 have c3:aR g ab (.c (.ptr d 7 0))=aa (vi l):=by simp [aR,aE,j]
 have c4:aR g (aa 1) (.c (.ptr d 5 0))=aa (.a [.f (sl p.gx (aN p.xs))]):=by simp [aR,aE,j,aV]
 have c5:aR g (aa 1) (.c (.ptr d 6 0))=aa (.a [.f (sl p.gy (aN p.ys))]):=by simp [aR,aE,j,aV]
 have c6:aR g (aa 2) (.c (.ptr d 0 0))=aa (.a [.f (sl p.c.mg (aN p.c.ts)),.f (fi p.c.min)]):=by simp [aR,aE,j,aV]
 have c7:aR g (aa 2) (.c (.ptr d 2 0))=aa (.a [.f (sl p.d.mg (aN p.d.ts)),.f (fi p.d.min)]):=by simp [aR,aE,j,aV]
 have a1:aR g ab (.c (.ptr 0 1 0))=aa (vi a.len):=by simp [aR,aE,m.h0,nD]
 have a3:aR g (aa 3) (.c (.ptr 0 0 0))=aa (.a [.f (sl a.cg (aM a.cs)),.f (fi a.len),.f (sl a.xg (aH a.xs))]):=by simp [aR,aE,m.h0,nD,aV]
 have b1:aR g ab (.c (.ptr 1 1 0))=aa (vi b.len):=by simp [aR,aE,m.h1,nD]
 have b3:aR g (aa 3) (.c (.ptr 1 0 0))=aa (.a [.f (sl b.cg (aM b.cs)),.f (fi b.len),.f (sl b.xg (aH b.xs))]):=by simp [aR,aE,m.h1,nD,aV]
 have f2:aR g ab (.c (.ptr 2 0 0))=aa (vi q):=by simp [aR,aE,m.tk.h2]
 have f9:aR g ab (.c (.ptr 9 0 0))=aa (.c CZ):=by simp [aR,aE,m.h9]
 have fl:=vg (q-B) (by omega) (by omega);have F:=wF (sl a.cg (aM a.cs)) (sl a.xg (aH a.xs)) (sl p.c.mg (aN p.c.ts)) a.len p.c.min (e+l) (by omega) (by omega) (by omega) (by omega);have I:=wF (sl b.cg (aM b.cs)) (sl b.xg (aH b.xs)) (sl p.d.mg (aN p.d.ts)) b.len p.d.min (e+l+p.k) (by omega) (by omega) (by omega) (by omega);rw [decide_eq_true (show e+l≤(2251799813685248-p.c.min-a.len) / 1440 by omega)]at F;rw [decide_eq_true (show e+l+p.k≤(2251799813685248-p.d.min-b.len) / 1440 by omega)]at I;have Y:=Bz (sl a.cg (aM a.cs)) (sl a.xg (aH a.xs)) (sl p.c.mg (aN p.c.ts)) a.len p.c.min (e+l) (by unfold ky;omega) (by unfold ky;omega) (by unfold ky;omega);have Z:=Bz (sl b.cg (aM b.cs)) (sl b.xg (aH b.xs)) (sl p.d.mg (aN p.d.ts)) b.len p.d.min (e+l+p.k) (by unfold ky;omega) (by unfold ky;omega) (by unfold ky;omega);have hX:cM a.len p.c.min (e+l)=fJ a p e:=by unfold fJ;rw [←z]
 have hY:cM b.len p.d.min (e+l+p.k)=fK b p e:=by unfold fK;rw [←z]
 rw [hX]at Y;rw [hY]at Z;refine aF ?_;refine an (aq (.inr rfl) ?_);simp [E.g3,E.g4,c0,c1,c2,a1,b1,-aw,aW (n:=p.c.min+a.len),aW (n:=p.k*1440),aW (n:=p.k*1440+p.d.min),aW (n:=p.k*1440+p.d.min+b.len),X];refine an (aq (.inr rfl) ?_);simp [E.g5,f2,c3,-aw,aW (n:=q-B),fl,aW (n:=(q-B) / 1440+1),aW (n:=(q-B) / 1440+1-l),f7];refine an (aq (.inr rfl) ?_);simp [c4,c5,-aw,A];apply an;cases f with
 | false=>
  refine aq (.inr rfl) ?_;simp;refine bo (by simp) ?_;refine aA (cE (W _ _ _ _ _ _ _ _ _ _ rfl K ⟨rfl,?_,?_,IN (ak K),by show J.length≤(g.set 11 _).length;rw [avw];omega,fun i h1 h2=>?_⟩))
  ·exact m.cO fun i hi=>by rw [AI (by omega)]
  ·rw [AI (by omega)];exact U
  ·rw [AI (by omega),k2 i h2 (by omega)]
 | true=>
  obtain⟨J3,c_,g_,i_,N⟩:=aeW m (fJ a p e) (fK b p e);refine aq (.inr rfl) ?_;simp [E.g3,E.g4,a3,b3,c1,c3,c6,c7,-aw,aW (n:=e+l),aW (n:=e+l+p.k),F,I];refine au (by simp) ?_;refine aq (.inr rfl) ?_;simp [E.g3,E.g4,E.g13,f9,a3,b3,c1,c3,c6,c7,-aw,aW (n:=e+l),aW (n:=e+l+p.k),Y,Z,CZ,c_.eq];have a8:J3[11]?=aa (.lp 138 O [P.nat 47] gI gJ .busy ab 10):=by rw [N 11 (by omega) (by omega)];exact K
  have i4:J3[10]?=aa (.eH ae):=by rw [N 10 (by omega) (by omega)];exact U
  refine aA (cE (W _ _ _ _ _ _ _ _ _ _ rfl a8 ⟨rfl,?_,?_,IN (ak a8),by show J.length≤(J3.set 11 _).length;rw [avw];omega,fun i h1 h2=>?_⟩))
  ·exact g_.cO fun i hi=>by rw [AI (by omega)]
  ·rw [AI (by omega)];exact i4
  ·rw [AI (by omega),N i (by omega) (by omega),k2 i h2 (by omega)]
def PM(a b:aK)(p:Pr)(x y:aI):Prop:=∃ e,0≤e∧eF p.xs e∧eF p.ys e∧x=fJ a p e∧y=fK b p e
def fM(s:aK)(x:aI):Prop:=∃ c ∈ s.cs,∃ d,0≤d∧eF c.ts d∧x=cM s.len c.min d
theorem akK{a b:aK}(i:kJ a)(k:kJ b){g:Int}(f0:-2251799813685248≤g)(f1:g≤100000000000000){p:Pr}(I:oN a b p){e:Int}{f:Bool}(F:ik (fun e=>n0P a b g p≤e∧eF p.xs e∧eF p.ys e) e f)(B:f=ae→e≤1000001000000){S:aI→aI→Prop}{s:FS}(n:mI g S s) :
  mI g (fun x y=>S x y∨PM a b p x y) (ER a b g p e f s):=by
 obtain⟨b_,c_⟩:=i.len;obtain⟨d9,d_⟩:=k.len;have r:=i.min I.ca;have w:=k.min I.db;have O:=I.lo;have N:=I.hi;unfold vr at O;unfold vj at N;have kb:-20≤p.k∧p.k≤20:=by omega
 have key:∀ m q,PM a b p m q→okB g m q→∃ d,n0P a b g p≤d∧0≤d∧eF p.xs d∧eF p.ys d∧m=fJ a p d∧q=fK b p d:=by
  rintro m q ⟨d,h0,J,K,rfl,rfl⟩ ⟨-,-,L⟩;refine⟨d,?_,h0,J,K,rfl,rfl⟩;simp only [oD,fJ,fK,cM]at L;unfold n0P acY;omega
 unfold ER;rcases F with⟨rfl,-,Q⟩ | ⟨rfl,⟨h0,J,K⟩,l⟩
 ·simp only [Bool.false_eq_true,if_false];refine n.none fun m q M H=>?_;obtain⟨d,U,-,W,Z,-⟩:=key m q M H;exact Q d ⟨U,W,Z⟩
 ·simp only [if_true];have b9:0≤n0P a b g p:=by unfold n0P;omega
  have B:=B rfl;refine n.step ⟨e,by omega,J,K,rfl,rfl⟩ fun m q M H=>?_;obtain⟨d,U,k0,W,Z,rfl,rfl⟩:=key m q M H;have a_:=l d ⟨U,W,Z⟩;obtain⟨-,-,L⟩:=H;obtain⟨v,j⟩:=aJ (max 0 (-p.k));have o:0≤v∧v≤20:=by omega
  obtain⟨z,t⟩:=aJ ((d-e)*1440);have A:0≤z∧(d≠e→0<z):=⟨by omega,fun h=>by omega⟩
  have c:(fJ a p e).fr=(e+v)*1440+p.c.min∧(fJ a p e).to=(e+v)*1440+p.c.min+a.len:=by unfold fJ cM;rw [←j];exact⟨rfl,rfl⟩
  have ya:(fK b p e).fr=(e+v+p.k)*1440+p.d.min∧(fK b p e).to=(e+v+p.k)*1440+p.d.min+b.len:=by unfold fK cM;rw [←j];exact⟨rfl,rfl⟩
  have xb:(fJ a p d).fr=(fJ a p e).fr+z∧(fJ a p d).to=(fJ a p e).to+z:=by unfold fJ cM;simp only;rw [←j];omega
  have yb:(fK b p d).fr=(fK b p e).fr+z∧(fK b p d).to=(fK b p e).to+z:=by unfold fK cM;simp only;rw [←j];omega
  have a8:g<(fJ a p e).to∧g<(fK b p e).to:=by
   rw [c.2,ya.2];unfold n0P acY at h0;rw [←j]at h0;omega
  have E:(fJ a p e).to≤2251799813685248∧(fK b p e).to≤2251799813685248:=by rw [c.2,ya.2];omega
  have u:d=e→fJ a p d=fJ a p e∧fK b p d=fK b p e:=fun h=>by subst h;exact⟨rfl,rfl⟩
  generalize fJ a p e=X at *;generalize fK b p e=Y at *;generalize fJ a p d=X' at *;generalize fK b p d=Y' at *;clear c ya h0 l;unfold oD at L;refine⟨⟨E.1,E.2,?_⟩,?_⟩
  ·unfold oD;omega
  ·by_cases F:d=e
   ·obtain⟨rfl,rfl⟩:=u F;unfold Cg aI.lt;omega
   ·have:=A.2 F;unfold Cg aI.lt oD;omega
theorem apE{a b:aK}(L:kJ a)(M:kJ b){A:Int}{ps:List Pr}(m:∀ p ∈ ps,oN a b p)(l:∀ c ∈ a.cs,∀ d ∈ b.cs,∀ k,vr a.len b.len c d≤k→k≤vj a.len b.len c d→∃ p ∈ ps,p.c=c∧p.d=d∧p.k=k)(x y:aI)(H:okB A x y):(fM a x∧fM b y)↔∃ p ∈ ps,PM a b p x y:=by
 constructor
 ·rintro⟨⟨c,E,g,N,J,rfl⟩,⟨d,F,s,O,K,rfl⟩⟩;obtain⟨-,-,B⟩:=H;simp only [oD,cM]at B;obtain⟨p,q,rfl,rfl,I⟩:=l c E d F (s-g) (by unfold vr;omega) (by unfold vj;omega);have j:=m p q;refine⟨p,q,g-max 0 (-p.k),by omega,(j.xm _ (by omega)).2 (by rw [show g-max 0 (-p.k)+max 0 (-p.k)=g by omega];exact J),(j.ym _ (by omega)).2 (by rw [show g-max 0 (-p.k)+max 0 p.k=s by omega];exact K),?_,?_⟩
  ·unfold fJ;rw [show g-max 0 (-p.k)+max 0 (-p.k)=g by omega]
  ·unfold fK;rw [show g-max 0 (-p.k)+max 0 (-p.k)+p.k=s by omega]
 ·rintro⟨p,q,e,u,v,z,rfl,rfl⟩;have j:=m p q;refine⟨⟨p.c,j.ca,e+max 0 (-p.k),by omega,(j.xm e u).1 v,rfl⟩,⟨p.d,j.db,e+max 0 (-p.k)+p.k,by omega,?_,rfl⟩⟩;have:=(j.ym e u).1 z;rw [show e+max 0 (-p.k)+p.k=e+max 0 p.k by omega];exact this
def FW(a b:aK)(g:Int)(S:aI→aI→Prop)(d:List Nat)(J:aj):Prop:=(∃ s,FQ a b g s J∧mI g S s)∧fI d J∧∀ i ∈ d,10≤i∧i<J.length
theorem ac4{t:T}{n:Nat}{v:V}(A:n ∉ [3,4,5,6,7,9,10,12,13]):FT (t.s n v)↔FT t:=by
 simp only [avn,av6,or_false,not_or]at A;obtain⟨q,s,u,x,y,z,j,l,m⟩:=A;constructor
 ·rintro⟨a,b,c,d,e,f,g,h,i⟩;refine⟨?_,?_,?_,?_,?_,?_,?_,?_,?_⟩
  ·simpa [q]using a
  ·simpa [s]using b
  ·simpa [u]using c
  ·simpa [x]using d
  ·simpa [y]using e
  ·simpa [z]using f
  ·simpa [j]using g
  ·simpa [l]using h
  ·simpa [m]using i
 ·rintro⟨a,b,c,d,e,f,g,h,i⟩;refine⟨?_,?_,?_,?_,?_,?_,?_,?_,?_⟩
  ·simpa [q]using a
  ·simpa [s]using b
  ·simpa [u]using c
  ·simpa [x]using d
  ·simpa [y]using e
  ·simpa [z]using f
  ·simpa [j]using g
  ·simpa [l]using h
  ·simpa [m]using i
theorem Qj(a b:aK)(S:kJ a)(U:kJ b)(m:Int)(f0:-2251799813685248≤m)(f1:m≤100000000000000) :
  ∃ s:FS,mI m (fun x y=>fM a x∧fM b y) s∧bg tab 138 [.a (a.row.map .f),.a (b.row.map .f),vi m]=Eq (.t [.a (s.X.row.map .f),.a (s.Y.row.map .f),vb s.found]):=by
 obtain⟨r,⟨s,M,rfl⟩,h⟩:∃ r,(∃ s:FS,mI m (fun x y=>fM a x∧fM b y) s∧r=.t [.a (s.X.row.map .f),.a (s.Y.row.map .f),vb s.found])∧bg tab 138 [.a (a.row.map .f),.a (b.row.map .f),vi m] r:=by
  refine sN atW rfl fun Q hQ=>?_;have Z:=(jI a S.sm).eq;rw [S.v]at Z;simp [aK.row]at Z;have a8:=(jI b U.sm).eq;rw [U.v]at a8;simp [aK.row]at a8;have i6:max m (-2251799813685248)=m:=by omega
  apply ai;simp [aK.row];apply an;apply ai;simp [Z,a8,show¬ 2251799813685248<m by omega];refine bo (by simp) ?_;apply ai;simp [i6];apply ai;simp;apply ai;simp;apply ai;simp;obtain⟨v,F⟩:=aJ ([.box (nD a) 0,.box (nD b) 0,.box [.f (fi m)] 0,.box [.f (fi 0),.f (fi 0),.f (fi 0)] 0,.box [.f (fi 0),.f (fi 0),.f (fi 0)] 0,.box [.f (fi 0),.f (fi 0),.f (fi 0)] 0,.box [.f (fi 0),.f (fi 0),.f (fi 0)] 0,.box [.f (fi 0)] 0,.box [.f (.bool ag)] 0,.box [CZ] 0]:aj);have Y:FQ a b m ⟨0,ag,⟨0,0,0⟩,⟨0,0,0⟩⟩ v:=by rw [F];exact⟨rfl,rfl,rfl,rfl,rfl,⟨rfl,rfl,rfl,rfl,rfl⟩⟩
  have l0:v.length=10:=by rw [F];rfl
  unfold nD CZ at F;rw [←F];have la:∀(J:aj) (s:FS),FQ a b m s J→aR J (aa 3) (.c (.ptr 0 0 0))=aa (.a [.f (sl a.cg (aM a.cs)),.f (fi a.len),.f (sl a.xg (aH a.xs))])∧aR J ab (.c (.ptr 0 2 0))=aa (.c (.f (sl a.xg (aH a.xs)))):=fun J s h=>by refine⟨?_,?_⟩<;>simp [aR,aE,h.h0,nD,aV]
  have lb:∀(J:aj) (s:FS),FQ a b m s J→aR J (aa 3) (.c (.ptr 1 0 0))=aa (.a [.f (sl b.cg (aM b.cs)),.f (fi b.len),.f (sl b.xg (aH b.xs))])∧aR J ab (.c (.ptr 1 2 0))=aa (.c (.f (sl b.xg (aH b.xs)))):=fun J s h=>by refine⟨?_,?_⟩<;>simp [aR,aE,h.h1,nD,aV]
  have ou:∀ H:aj,bu H (.f (sl a.xg (aH a.xs)))=aa a.xs.length:=fun H=>by simp
  have e_:∀ H:aj,bu H (.f (sl b.xg (aH b.xs)))=aa b.xs.length:=fun H=>by simp
  have f7:∀(t:T) (J:aj) (l:List Nat),FT t→FW a b m (fun x y=>fM a x∧fM b y) l J→WP tab 138 ab [.code Fa] ⟨t,l.map .gZ,J⟩ Q:=by
   rintro t J l d ⟨⟨s,u,M⟩,c_,W⟩;have l9:=ak u.h9;have lx:∀ J':aj,J'[5]?=J[5]?→aR J' (aa 3) (.c (.ptr 5 0 0))=aa (.a [.f (fi s.X.day),.f (fi s.X.fr),.f (fi s.X.to)]):=fun J' h=>by simp [aR,aE,h,u.tk.h5,aV]
   have ly:∀ J':aj,J'[6]?=J[6]?→aR J' (aa 3) (.c (.ptr 6 0 0))=aa (.a [.f (fi s.Y.day),.f (fi s.Y.fr),.f (fi s.Y.to)]):=fun J' h=>by simp [aR,aE,h,u.tk.h6,aV]
   have lf:∀ J':aj,J'[8]?=J[8]?→aR J' ab (.c (.ptr 8 0 0))=aa (vb s.found):=fun J' h=>by simp [aR,aE,h,u.tk.h8]
   obtain⟨B,I⟩:=aJ (J.set 3 (.box [.f (fi s.X.day),.f (fi s.X.fr),.f (fi s.X.to)] 0));have s1:cX J (.ptr 3 0 0) [.f (fi s.X.day),.f (fi s.X.fr),.f (fi s.X.to)]=aa B:=by rw [I];simp [cX,u.h3,over]
   have k1:∀ i:Nat,i≠3→B[i]?=J[i]?:=fun i hi=>by rw [I,AI (Ne.symm hi)]
   have n1:B.length=J.length:=by rw [I];simp
   obtain⟨E,K⟩:=aJ (B.set 4 (.box [.f (fi s.Y.day),.f (fi s.Y.fr),.f (fi s.Y.to)] 0));have s2:cX B (.ptr 4 0 0) [.f (fi s.Y.day),.f (fi s.Y.fr),.f (fi s.Y.to)]=aa E:=by rw [K];simp [cX,k1 4 (by omega),u.h4,over]
   have k2:∀ i:Nat,i≠4→E[i]?=B[i]?:=fun i hi=>by rw [K,AI (Ne.symm hi)]
   have n2:E.length=J.length:=by rw [K];simp [n1]
   refine an (gn (.inl rfl) ?_ ?_)
   case refine_2=>
    intro cc g_;have f_:cc=(1,4)∨cc=(2,4)∨cc=(2,6):=by simpa using g_
    rcases f_ with rfl | rfl | rfl
    ·refine⟨by decide,_,rfl,.inl ⟨by decide,?_⟩⟩;simp [d.g6,d.g7,d.g9,d.g10,d.g12,lx J rfl,ly J rfl,lf J rfl,ly B (k1 6 (by omega)),s1,-aw,-bh,ib,V.beq,C.beq,FC.beq]
    ·refine⟨by decide,_,rfl,.inl ⟨by decide,?_⟩⟩;simp [d.g6,d.g7,d.g9,d.g10,d.g12,lx J rfl,ly J rfl,lf J rfl,lf B (k1 8 (by omega)),s1,-aw,-bh,ib,V.beq,C.beq,FC.beq]
    ·refine⟨by decide,_,rfl,.inl ⟨by decide,?_⟩⟩;simp [d.g6,d.g7,d.g9,d.g10,d.g12,lx J rfl,ly J rfl,lf J rfl,lf E ((k2 8 (by omega)).trans (k1 8 (by omega))),s1,s2,-aw,-bh,ib,V.beq,C.beq,FC.beq]
   simp [d.g6,d.g7,d.g9,d.g10,d.g12,lx J rfl,ly J rfl,lf J rfl,s1,s2,-aw,-bh];have i_:(3:Nat) ∉ l:=fun h=>by have:=(W 3 h).1;omega
   have j4:(4:Nat) ∉ l:=fun h=>by have:=(W 4 h).1;omega
   have e3:(mP l E)[3]?=aa (.box [.f (fi s.X.day),.f (fi s.X.fr),.f (fi s.X.to)] 0):=by rw [gS i_,k2 3 (by omega),I];exact IN (by omega)
   have e4:(mP l E)[4]?=aa (.box [.f (fi s.Y.day),.f (fi s.Y.fr),.f (fi s.Y.to)] 0):=by rw [gS j4,K];exact IN (by omega)
   refine aC (hQ _ _ _ ⟨s,M,rfl⟩ ⟨l,rfl,⟨c_.nd,fun z hz=>?_⟩,.t [.a (s.X.row.map .f),.a (s.Y.row.map .f),vb s.found],?_,by simp [iU,cD,bj,deep,ey,aI.row]⟩)
   ·have:=(W z hz).1;show E[z]?=_;rw [k2 z (by omega),k1 z (by omega)];exact c_.on z hz
   ·simp [Km.results,cA,bj,d.g6,d.g7,aR,aE,e3,e4,aV,aI.row]
  have b9:∀(t:T) (J:aj) (l:List Nat),FT t→FW a b m (fun x y=>fM a x∧fM b y) l J→WP tab 138 ab [.code E_] ⟨t,l.map .gZ,J⟩ Q:=by
   intro t J l d L;have O:=L;obtain⟨⟨s,u,-⟩,-⟩:=O;apply an;apply ai;simp [d.g4,(lb J s u).2,e_,U.xs,-aw];refine zS 0 (fun _ t ds J=>FT t∧∃ l,ds=l.map .gZ∧FW a b m (fun x y=>fM a x∧fM b y) l J) (by omega) (by decide) (by decide) (by simp) (by simp)
    ⟨by simp [ac4,d],l,rfl,L⟩ (fun j _ _ _ hj=>by omega) ?_
   rintro t ds J ⟨d,l,rfl,L⟩ - -;exact f7 _ J l (by simp [ac4,d]) L
  have a_:∀(t:T) (J:aj) (l:List Nat),FT t→FW a b m (fun x y=>fM a x∧fM b y) l J→WP tab 138 ab [.code zj] ⟨t,l.map .gZ,J⟩ Q:=by
   intro t J l d L;have O:=L;obtain⟨⟨s,u,-⟩,-⟩:=O;apply an;apply ai;simp [d.g3,(la J s u).2,ou,S.xs,-aw];refine zS 0 (fun _ t ds J=>FT t∧∃ l,ds=l.map .gZ∧FW a b m (fun x y=>fM a x∧fM b y) l J) (by omega) (by decide) (by decide) (by simp) (by simp)
    ⟨by simp [ac4,d],l,rfl,L⟩ (fun j _ _ _ hj=>by omega) ?_
   rintro t ds J ⟨d,l,rfl,L⟩ - -;exact b9 _ J l (by simp [ac4,d]) L
  suffices start:∀ t:T,FT t→WP tab 138 ab [.code E8] ⟨t,[],v⟩ Q by exact start _ ⟨by simp,by simp,by simp,by simp,by simp,by simp,by simp,by simp,by simp⟩
  intro t d;have d_:=xY a b;simp only [aK.row,avl,avs]at d_;apply an;apply ai;simp [d.g3,d.g4,(la v _ Y).1,(lb v _ Y).1,-aw,d_];refine aF ?_
  suffices go:∀ N:T,FT N→N.g 46=.c (.f (.fn 104 [.fp a.row 0,.fp b.row 0]))→WP tab 138 ab [.code E9,.inBlock 0,.code zj] ⟨N,[],v⟩ Q by exact go _ (by simp [ac4,d]) (by simp [aK.row])
  clear d t;intro N d f8;obtain⟨HR,A⟩:=aJ (v++[.eH ae,.lp 138 N [P.nat 47] gI gJ .ready ab 10]:aj);have lR:HR.length=12:=by rw [A,api,l0];rfl
  have kR:∀ i:Nat,i<10→HR[i]?=v[i]?:=fun i hi=>by rw [A,AT (by omega)]
  have rd:HR[10]?=aa (.eH ae):=by rw [A,IS (by omega),l0];rfl
  have rl:HR[11]?=aa (.lp 138 N [P.nat 47] gI gJ .ready ab 10):=by rw [A,IS (by omega),l0];rfl
  obtain⟨H2,he,ps,⟨s,u,M,e1,e2,e3⟩,i7,b_⟩:=Ql (bb:=11) (H:=HR) a b S U
   (fun ps J'=>∃ s,FQ a b m s J'∧mI m (fun x y=>∃ p ∈ ps,PM a b p x y) s∧J'[10]?=aa (.eH ae)∧J'[11]?=aa (.lp 138 N [P.nat 47] gI gJ .ready ab 10)∧12≤J'.length)
   ⟨_,Y.cO kR,.inl ⟨rfl,rfl,rfl,fun x y ⟨p,hp,_⟩=>by simp at hp⟩,rd,rl,by omega⟩
   (fun ps B E ⟨s,u,M,e1,e2,e3⟩ X hl=>⟨s,u.cO fun i hi=>X i (by omega),M,by rw [X 10 (by omega)];exact e1,by rw [X 11 (by omega)];exact e2,by omega⟩)
   (fun ps p B ⟨s,u,M,e1,e2,e3⟩ hl hp=>by
    obtain⟨e,f,d9,i4,r,E,i5,rfl,i9,k1,k2,k3,k4⟩:=Es a b S U f0 f1 d hp u e1 e2;refine⟨E,i5,⟨_,i9,(akK S U f0 f1 hp d9 i4 M).iff fun x y _=>?_,k1,k2,by omega⟩,k3,fun i h1 h2=>k4 i (by omega) h2⟩;constructor
    ·rintro⟨q,i8,h⟩;rcases avq.1 i8 with h' | h'
     ·exact .inl ⟨q,h',h⟩
     ·rw [avh]at h';rw [h']at h;exact .inr h
    ·rintro(⟨q,h',h⟩ | h)
     ·exact⟨q,List.mem_append_left _ h',h⟩
     ·exact⟨p,by simp,h⟩)
  rw [A]at he;have h_:Ev tab (.fn 104) [.c (.yl (v.length+1)),.c (.f (.fp a.row 0)),.c (.f (.fp b.row 0))] (v++[.eH ae,.lp 138 N [P.nat 47] gI gJ .ready ab v.length]) (.t []) H2:=by rw [l0];exact he
  refine iu (g:=104) (by rw [A9,f8];simp [bX]) h_ ?_;rw [l0];refine lj e2 (by decide) (aA ?_);refine a_ N _ [10] d ⟨⟨s,u.cO fun i hi=>by rw [AI (by omega)],M.iff fun x y hk=>apE S U i7 b_ x y hk⟩,⟨by simp,fun i hi=>?_⟩,fun i hi=>?_⟩
  ·rw [avh]at hi;rw [hi,AI (by omega)];exact e1
  ·rw [avh]at hi;rw [hi,avw];omega
 exact⟨s,M,h.eq⟩
def rB(n:Int):Int:=ah .i64 n
def Da(af:Int)(s:av)(X Y:aI)(f:Bool):List Int:=if f then [15,s.meet,X.day,rB X.fr,rB (X.to-af),Y.day,rB Y.fr,rB (Y.to-af)]else [15,s.meet,0,0,0,0,0,0]
def fO(af:Int)(x:av)(mt:av→Bool)(fx fy:av→aI)(fd:av→Bool):List av→List Int
 | []=>[0,0,0,0,0,0,0,0]| s::r=>if s.meet=x.meet∨mt s=ag then fO af x mt fx fy fd r else Da af s (fx s) (fy s) (fd s)
theorem Fy(af:Int)(s:av)(X Y:aI)(f:Bool):(Da af s X Y f).length=8:=by unfold Da;split<;>rfl
theorem oT(af:Int)(x:av)(mt:av→Bool)(fx fy:av→aI)(fd:av→Bool):∀ l,(fO af x mt fx fy fd l).length=8
 | []=>rfl| s::r=>by unfold fO;split;exact oT af x mt fx fy fd r;exact Fy ..
theorem oS{af:Int}{x:av}{mt:av→Bool}{fx fy:av→aI}{fd:av→Bool}:∀ {d l:List av},(∀ s ∈ d,s.meet=x.meet∨mt s=ag)→fO af x mt fx fy fd (d++l)=fO af x mt fx fy fd l
 | [],_,_=>rfl
 | s::r,l,h=>by
  rw [awc,fO,bf (h s atI)];exact oS fun y b=>h y (aul _ b)
structure ClQ(H:aj)(cd:List FC)(own:aK)(J:aj):Prop where
 k:Kp H J
 h1:J[H.length]?=aa (.box [.f (.fp cd 0)] 0)
 h2:J[H.length+1]?=aa (.box (([0,0,0,0,0,0,0,0]:List Int).map fun n=>.f (fi n)) 0)
 h3:J[H.length+2]?=aa (.box [.f (fi 0)] 0)
 h4:J[H.length+3]?=aa (.box (own.row.map .f) 0)
 h5:J[H.length+4]?=aa (.box [.f (.bool ae)] 0)
 cl:fI [H.length+5] J
theorem ClQ.cO{H:aj}{j:List FC}{g:aK}{J J':aj}(h:ClQ H j g J)(m:J.length≤J'.length)(d:∀ i:Nat,i<J.length→i≠H.length+6→J'[i]?=J[i]?):ClQ H j g J':=by
 have q:=ak (h.cl.on _ atI);have s:=h.k.1;refine⟨⟨by omega,fun b l=>by rw [d b (by omega) (by omega)];exact h.k.2 b l⟩,?_,?_,?_,?_,?_,⟨h.cl.nd,fun i hi=>?_⟩⟩
 ·rw [d _ (by omega) (by omega)];exact h.h1
 ·rw [d _ (by omega) (by omega)];exact h.h2
 ·rw [d _ (by omega) (by omega)];exact h.h3
 ·rw [d _ (by omega) (by omega)];exact h.h4
 ·rw [d _ (by omega) (by omega)];exact h.h5
 ·rw [avh.1 hi,d _ (by omega) (by omega)];exact h.cl.on _ atI
structure ClT(N:Nat)(t:T):Prop where
 g1:t.g 1=.c (.ptr N 0 0)
 g2:t.g 2=.c (.ptr (N+1) 0 0)
 g3:t.g 3=.c (.ptr (N+2) 0 0)
 g4:t.g 4=.c (.ptr (N+3) 0 0)
 g5:t.g 5=.c (.ptr (N+4) 0 0)
theorem sU{J:aj}{b:Nat}{o:aK}(h:J[b]?=aa (.box (o.row.map .f) 0)):aR J (aa 3) (.c (.ptr b 0 0))=aa (.a (o.row.map .f)):=by
 have:(o.row.map C.f).length=3:=rfl;simp [aR,aE,h,aV,this,aK.row]
theorem Bv(af z:Int)(sd:FC)(x:av)(hx:PF x)(s:av)(hs:PF s)(A o:aK)
  (ho:bg tab 137 [.c (.f (eO af z)),.a (s.row.map .f)]=Eq (.t [.a (o.row.map .f),vb ae]))
  (m:Bool) (hm:bg tab 25 [.a (A.row.map .f),.a (o.row.map .f)]=Eq (.t [vb m,vi 0]))
  (X Y:aI) (fd:Bool) (hf:bg tab 138 [.a (A.row.map .f),.a (o.row.map .f),vi (-2251799813685248)]=Eq (.t [.a (X.row.map .f),.a (Y.row.map .f),vb fd]))
  {H J:aj} {tm:T} (l:ClT H.length tm) (hq:ClQ H ([eO af z,sd]++x.row) A J)
  (h6:J[H.length+6]?=aa (.lp 79 tm [P.nat 41] ff ew .ready ab (H.length+5))) :
  ∃(r:Bool) (J':aj),Ev tab (.yield (H.length+6)) [.a (s.row.map .f)] J (vb r) J'∧(if r then(s.meet=x.meet∨m=ag)∧ClQ H ([eO af z,sd]++x.row) A J'∧J'[H.length+6]?=J[H.length+6]? else
   ¬ (s.meet=x.meet∨m=ag)∧Kp H J'∧J'[H.length+1]?=aa (.box ((Da af s X Y fd).map fun n=>.f (fi n)) 0)∧J'[H.length+2]?=aa (.box [.f (fi 0)] 0)∧fI [H.length+5] J' ∧
    J'[H.length+6]?=aa (.lp 79 tm [P.nat 41] ff ew .done (aa .ret) (H.length+5))):=by
 obtain⟨N,hN⟩:=aJ (H.length);have y:=mq af z sd x hx.r0 hx.r1;have o_:=lF af z hs.r0 hs.r1;have Z:=fun H:aj=>bl (H:=H) (g:=.fs) (rows:=rows (b5 af z)) (sz:=15) (k:=.i64) (i:=s.room) hs.r0 (by simp [b5];have:=hs.r1;omega);have i4:=fun H:aj=>bL (H:=H) (fD (b5 af z)) (j:=s.room.toNat) (row:=(bM af z s.room).row) (by rw [rows,avR,o_];rfl);have Ri:=yU af z x.room X;have f7:=yU af z s.room Y;obtain⟨cd,h_⟩:=aJ ([eO af z,sd]++x.row);have l0:∀ K:aj,aR K ab (.c (.f (.fp cd 0)))=aa (.c (.f (eO af z))):=fun K=>by rw [h_];rfl
 have l2:∀ K:aj,aR K ab (.c (.f (.fp cd 2)))=aa (vi x.meet):=fun K=>by rw [h_];rfl
 simp only [cY]at y;rw [←h_]at y hq ⊢;obtain⟨rm,s9⟩:=aJ (eO af z);change ∀ H:aj,bH H 15 ab (.c (.f (eO af z))) (vi s.room)=_ at Z;change ∀ H:aj,aR H (aa 15) (.c (.f (.fp (rows (b5 af z)).flatten _)))=_ at i4;rw [←s9]at l0 Z ho;obtain⟨rx,t8⟩:=aJ ((bM af z x.room).row);obtain⟨rs,s_⟩:=aJ ((bM af z s.room).row);rw [←t8]at y Ri;rw [←s_]at i4 f7;obtain⟨row,a_⟩:=aJ (s.row);have s8:row.length=7:=by rw [a_];rfl
 rw [←a_]at ho ⊢;obtain⟨ow,j4⟩:=aJ (A.row);obtain⟨oo,i6⟩:=aJ (o.row);have s7:oo.length=3:=by rw [i6];rfl
 obtain⟨xx,j8⟩:=aJ (X.row);obtain⟨yy,j_⟩:=aJ (Y.row);have j7:xx.length=3:=by rw [j8];rfl
 have j9:yy.length=3:=by rw [j_];rfl
 rw [←i6]at ho hm hf;rw [←j4]at hm hf;rw [←j8]at hf Ri;rw [←j_]at hf f7;obtain⟨LP,n_⟩:∃ LP:ej→Option aG→bw,LP=fun st pd=>.lp 79 tm [P.nat 41] ff ew st pd (N+5):=⟨_,rfl⟩
 rw [←hN]at h6 l ⊢;have cond:∃ q:Bool,(q=ae↔(s.meet=x.meet∨m=ag)):=⟨decide (s.meet=x.meet∨m=ag),by simp⟩
 obtain⟨q,a8⟩:=cond;refine⟨q,?_⟩;obtain⟨r,J',r_,rfl,h⟩:∃ r J',Ev tab (.yield (N+6)) [.a (row.map .f)] J r J'∧(r=vb q∧(if q then ClQ H cd A J'∧J'[N+6]?=J[N+6]? else
   Kp H J'∧J'[N+1]?=aa (.box ((Da af s X Y fd).map fun n=>.f (fi n)) 0)∧J'[N+2]?=aa (.box [.f (fi 0)] 0)∧fI [N+5] J' ∧
    J'[N+6]?=aa (.lp 79 tm [P.nat 41] ff ew .done (aa .ret) (N+5)))):=by
  have n9:=h6;refine fj (tab:=tab) (b:=N+6) (args:=[.a (row.map .f)]) (H:=J) h6 rfl fun Q' i_=>?_;obtain⟨b6,g_⟩:=aJ (J.length);have l6:=ak h6;refine aq (.inr rfl) ?_;simp [s8];rw [←g_];obtain⟨J1,b9⟩:=aJ (J++[bw.box (row.map .f) 0]);rw [←b9];have k1:∀ i:Nat,i<J.length→J1[i]?=J[i]?:=fun i hi=>by rw [b9,AT hi]
  have d1:J1[b6]?=aa (.box (row.map .f) 0):=by rw [b9,g_];simp
  have n1:J1.length=b6+1:=by rw [b9,g_];simp
  have e6:=(k1 _ l6).trans h6;refine ma e6 ?_;obtain⟨v,F⟩:=aJ (J1.set (N+6) (LP .busy ab));have n2:v.length=b6+1:=by rw [F,avw];exact n1
  have k2:∀ i:Nat,i<J.length→i≠N+6→v[i]?=J[i]?:=fun i hi i5=>by rw [F,AI (Ne.symm i5),k1 i hi]
  have q2:ClQ H cd A v:=hq.cO (by omega) fun i hi i5=>k2 i hi (by omega);have d2:v[b6]?=aa (.box (row.map .f) 0):=by rw [F,AI (by omega)];exact d1
  have f6:v[N+6]?=aa (LP .busy ab):=by rw [F];exact IN (ak e6)
  rw [n_]at F f6;rw [←F];have f8:∀(t:T) (K:aj),q=ae→v.length≤K.length→(∀ i:Nat,i<v.length→K[i]?=v[i]?)→Q' ab ⟨t,[],K⟩:=by
   intro t K j6 hl I;have p6:K[N+6]?=aa (.lp 79 tm [P.nat 41] ff ew .busy ab (N+5)):=by rw [I _ (by omega)];exact f6
   refine i_ _ _ _ _ _ _ _ _ _ _ rfl p6 ⟨by rw [j6];rfl,?_⟩;rw [bf j6];have n:K.length≥b6+1:=by omega
   refine⟨hq.cO (by show J.length≤(K.set _ _).length;rw [avw];omega) fun i hi i5=>?_,?_⟩
   ·rw [AI (by omega),I i (by omega),k2 i hi (by omega)]
   ·rw [IN (ak p6),n9];rfl
  have lc:∀ K:aj,v.length≤K.length→(∀ i:Nat,i<v.length→K[i]?=v[i]?)→aR K ab (.c (.ptr N 0 0))=aa (.c (.f (.fp cd 0)))∧aR K ab (.c (.ptr (N+4) 0 0))=aa (vb ae)∧aR K (aa 3) (.c (.ptr (N+3) 0 0))=aa (.a (ow.map .f))∧aR K (aa 7) (.c (.ptr b6 0 0))=aa (.a (row.map .f))∧aR K ab (.c (.ptr b6 0 0))=aa (vi s.meet)∧aR K ab (.c (.ptr b6 1 0))=aa (vi s.room):=by
   intro K hl I;have y1:=q2.h1;have y4:=q2.h4;have y5:=q2.h5;rw [←hN]at y1 y4 y5;have z1:=(I _ (ak y1)).trans y1;have z4:=(I _ (ak y4)).trans y4;have z5:=(I _ (ak y5)).trans y5;have z6:=(I _ (ak d2)).trans d2;rw [j4];rw [a_]at z6 ⊢;exact⟨by simp [aR,aE,z1],by simp [aR,aE,z5],sU z4,by simp [aR,aE,z6,aV,av.row],by simp [aR,aE,z6,av.row],by simp [aR,aE,z6,av.row]⟩
  obtain⟨a1,a2,a3,a4,a5,a6⟩:=lc v (aft _) fun _ _=>rfl;refine aF ?_;apply an;refine an (aq (.inr rfl) ?_);simp [l.g1,a1,a5,l2,-aw];by_cases d_:s.meet=x.meet
  ·rw [decide_eq_true d_];refine au (by simp) (bJ (k':=[]) (by simp [Km.exitTo]) ?_);exact cE (f8 _ _ (a8.2 (.inl d_)) (aft _) (fun _ _=>rfl))
  rw [decide_eq_false d_];refine bo (by simp) ?_;apply an;refine aq (.inr rfl) ?_;simp [l.g1,a1,a4,l0,ho,s7,-aw];obtain⟨L,b_⟩:=aJ (v++[bw.box (oo.map .f) 0]);rw [←b_];have k3:∀ i:Nat,i<v.length→L[i]?=v[i]?:=fun i hi=>by rw [b_,AT hi]
  have n3:L.length=v.length+1:=by rw [b_];simp
  have d7:L[v.length]?=aa (.box (oo.map .f) 0):=by rw [b_];simp
  obtain⟨b7,q_⟩:=aJ (v.length);rw [←q_]at d7 n3 ⊢;have m7:∀ K:aj,K[b7]?=L[b7]?→aR K (aa 3) (.c (.ptr b7 0 0))=aa (.a (oo.map .f)):=fun K h=>by
   rw [i6]at d7 ⊢;exact sU (h.trans d7)
  obtain⟨a1,a2,a3,a4,a5,a6⟩:=lc L (by omega) k3;apply an;refine an (aq (.inr rfl) ?_);simp [l.g5,a2,-aw];refine bo (by simp) ?_;refine an (aq (.inr rfl) ?_);simp [l.g4,a3,m7 L rfl,hm,-aw];apply an;refine an (aq (.inr rfl) ?_);simp;refine bo (by simp) ?_;apply an;refine an (aq (.inr rfl) ?_);simp;cases m with
  | false=>
   refine au (by simp) (bJ (k':=[]) (by simp [Km.exitTo]) ?_);exact cE (f8 _ _ (a8.2 (.inr rfl)) (by omega) k3)
  | true=>
   have j5:q=ag:=by
    cases q with
    | false=>rfl
    | true=>
     rcases a8.1 rfl with h | h
     ·exact absurd h d_
     ·cases h
   refine bo (by simp) ?_;obtain⟨J4,O⟩:=aJ (L++[bw.box (([15,s.meet,0,0,0,0,0,0]:List Int).map fun n=>.f (fi n)) 0]);have k4:∀ i:Nat,i<L.length→J4[i]?=L[i]?:=fun i hi=>by rw [O,AT hi]
   have n4:J4.length=L.length+1:=by rw [O];simp
   have i8:J4[L.length]?=aa (.box (([15,s.meet,0,0,0,0,0,0]:List Int).map fun n=>.f (fi n)) 0):=by rw [O];simp
   obtain⟨d,f_⟩:=aJ (L.length);simp only [avl,avs]at O;apply an;refine aq (.inr rfl) ?_;simp [a5,-aw];rw [←O,←f_];rw [←f_]at i8 n4;obtain⟨c1,c2,c3,c4,c5,c6⟩:=lc J4 (by omega) fun i hi=>(k4 i (by omega)).trans (k3 i hi);obtain⟨B,Q⟩:=aJ (J4++[bw.box (xx.map .f) 0,bw.box (yy.map .f) 0]);have k5:∀ i:Nat,i<J4.length→B[i]?=J4[i]?:=fun i hi=>by rw [Q,AT hi]
   have n5:B.length=d+3:=by rw [Q,api,n4];rfl
   have l_:B[d+1]?=aa (.box (xx.map .f) 0):=by rw [Q,IS (by omega),n4];simp
   have m4:B[d+2]?=aa (.box (yy.map .f) 0):=by rw [Q,IS (by omega),n4];simp
   refine an (an ?_);refine aq (.inr rfl) ?_;simp [l.g4,c3,m7 J4 (k4 _ (by omega)),hf,j7,j9,-aw];rw [n4,←Q];clear hm ho hf c1 c2 c3 c4 c5 c6 a1 a2 a3 a4 a5 a6
   suffices go:∀ u:T,ClT N u→u.g 6=.c (.ptr b6 0 0)→u.g 11=.c (.ptr d 0 0)→u.g 12=.c (.ptr (d+1) 0 0)→u.g 13=.c (.ptr (d+1+1) 0 0)→u.g 14=vb fd →
     WP tab 79 (aa (N+6)) [.code xA,.code rO,.inBlock 1] ⟨u,[],B⟩ Q' by
    exact go _ ⟨by simp [l.g1],by simp [l.g2],by simp [l.g3],by simp [l.g4],by simp [l.g5]⟩ (by simp) (by simp) (by simp) (by simp) (by simp)
   clear l;intro u l g6 M m9 m_ n8;have i7:∀ i:Nat,i<v.length→B[i]?=v[i]?:=fun i hi=>(k5 i (by omega)).trans ((k4 i (by omega)).trans (k3 i hi));have E:=(k5 d (by omega)).trans i8;have y2:=q2.h2;have y3:=q2.h3;rw [←hN]at y2 y3;have i9:∀(u:T) (K:aj) (zs:List Int),ClT N u→u.g 11=.c (.ptr d 0 0)→zs.length=8→zs=Da af s X Y fd→B.length≤K.length→(∀ i:Nat,i<v.length→K[i]?=v[i]?)→K[d]?=aa (.box (zs.map fun n=>.f (fi n)) 0) →
     WP tab 79 (aa (N+6)) [.code rO,.inBlock 1] ⟨u,[],K⟩ Q':=by
    intro u K zs l M hz t9 hl I hb;have l8:aR K (aa 8) (.c (.ptr d 0 0))=aa (.a (zs.map fun n=>.f (fi n))):=by
     have:(zs.map fun n=>C.f (fi n)).length=8:=by simpa using hz
     simp [aR,aE,hb,aV,hz,avj]
    have z2:=(I _ (ak y2)).trans y2;have z3:=(I _ (ak y3)).trans y3;obtain⟨K1,S⟩:=aJ (K.set (N+1) (.box (zs.map fun n=>.f (fi n)) 0));have s1:cX K (.ptr (N+1) 0 0) (zs.map fun n=>.f (fi n))=aa K1:=by
     rw [S]
     match zs,hz with
     | [p0,p1,p2,p3,p4,p5,p6,p7],_=>simp [cX,z2,over]
    have k_:K1[N+2]?=aa (.box [.f (fi 0)] 0):=by rw [S,AI (by omega)];exact z3
    obtain⟨K2,U⟩:=aJ (K1.set (N+2) (.box [.f (fi 0)] 0));have s2:cX K1 (.ptr (N+2) 0 0) [.f (fi 0)]=aa K2:=by rw [U];simp [cX,k_,over]
    have kK:∀ i:Nat,i≠N+1→i≠N+2→K2[i]?=K[i]?:=fun i h1 h2=>by rw [U,AI (Ne.symm h2),S,AI (Ne.symm h1)]
    have kl:K2.length=K.length:=by rw [U,S];simp
    have p6:K2[N+6]?=aa (.lp 79 tm [P.nat 41] ff ew .busy ab (N+5)):=by rw [kK _ (by omega) (by omega),I _ (by omega)];exact f6
    refine an (aq (.inr rfl) ?_);simp [M,l.g2,l.g3,l8,hz,s1,s2,-aw,-bh];refine aC (i_ _ _ _ _ _ _ _ _ _ _ rfl p6 ⟨by rw [j5];rfl,?_⟩);rw [j5,aY (by simp)];have W:=q2.cl.on _ atI;rw [←hN]at W;refine⟨⟨?_,fun b p_=>?_⟩,?_,?_,⟨by simp,fun i hi=>?_⟩,IN (ak p6)⟩
    ·show H.length≤(K2.set _ _).length;rw [avw,kl];have:=q2.k.1;omega
    ·show(K2.set _ _)[b]?=_;rw [AI (by omega),kK _ (by omega) (by omega),I _ (by have:=q2.k.1;omega)];exact q2.k.2 b p_
    ·show(K2.set _ _)[N+1]?=_;rw [AI (by omega),U,AI (by omega),S,←t9];exact IN (ak z2)
    ·show(K2.set _ _)[N+2]?=_;rw [AI (by omega),U];exact IN (ak k_)
    ·show(K2.set _ _)[i]?=_;rw [avh.1 hi,AI (by omega),kK _ (by omega) (by omega),I _ (ak W)];exact W
   refine an (aq (.inr rfl) ?_);simp [n8];cases fd with
   | false=>
    refine bo (by simp) ?_;exact i9 _ B [15,s.meet,0,0,0,0,0,0] ⟨by simp [l.g1],by simp [l.g2],by simp [l.g3],by simp [l.g4],by simp [l.g5]⟩ (by simp [M]) rfl rfl (aft _) i7 E
   | true=>
    refine au (by simp) ?_;obtain⟨c1,c2,c3,c4,c5,c6⟩:=lc B (by omega) i7;have t_:aR B (aa 3) (.c (.ptr (d+1) 0 0))=aa (.a (xx.map .f)):=by simp [aR,aE,l_,aV,j7,avj]
    have u_:aR B (aa 3) (.c (.ptr (d+1+1) 0 0))=aa (.a (yy.map .f)):=by simp [aR,aE,m4,aV,j9,avj]
    simp only [avl,avs]at E;obtain⟨J6,c_⟩:=aJ (B.set d (.box [.f (fi 15),.f (fi s.meet),.f (fi X.day),.f (fi (rB X.fr)),.f (fi (rB (X.to-af))),.f (fi 0),.f (fi 0),.f (fi 0)] 0));have s1:cX B (.ptr d 2 0) [.f (fi X.day),.f (fi (rB X.fr)),.f (fi (rB (X.to-af)))]=aa J6:=by rw [c_];simp [cX,E,over]
    have d6:J6[d]?=aa (.box [.f (fi 15),.f (fi s.meet),.f (fi X.day),.f (fi (rB X.fr)),.f (fi (rB (X.to-af))),.f (fi 0),.f (fi 0),.f (fi 0)] 0):=by rw [c_];exact IN (ak E)
    obtain⟨J7,d9⟩:=aJ (J6.set d (.box ((Da af s X Y ae).map fun n=>.f (fi n)) 0));have s2:cX J6 (.ptr d 5 0) [.f (fi Y.day),.f (fi (rB Y.fr)),.f (fi (rB (Y.to-af)))]=aa J7:=by rw [d9];simp [cX,d6,over,Da]
    have k7:∀ i:Nat,i≠d→J7[i]?=B[i]?:=fun i h=>by rw [d9,AI (Ne.symm h),c_,AI (Ne.symm h)]
    have v6:∀ K:aj,K[N]?=v[N]?→aR K ab (.c (.ptr N 0 0))=aa (.c (.f (.fp cd 0))):=fun K hK=>by
     have y1:=q2.h1;rw [←hN]at y1;simp [aR,aE,hK.trans y1]
    have hw:IntKind.i64.wrap=rB:=rfl;rw [hw]at Ri f7;refine aq (.inr rfl) ?_;simp [l.g1,g6,M,m9,m_,c1,c4,c6,l0,y,t_,u_,Ri,f7,Z,i4,s1,s2,-aw,-bh];refine i9 _ J7 _ ⟨by simp [l.g1],by simp [l.g2],by simp [l.g3],by simp [l.g4],by simp [l.g5]⟩ (by simp [M]) (Fy ..) rfl (by rw [d9,c_];simp) (fun i hi=>by rw [k7 i (by omega)];exact i7 i hi) (by rw [d9];exact IN (ak d6))
 refine⟨J',r_,?_⟩;by_cases e_:q=ae
 ·rw [bf e_]at h ⊢;exact⟨a8.1 e_,h⟩
 ·rw [aY e_]at h ⊢;exact⟨fun h'=>e_ (a8.2 h'),h⟩
theorem acH(af F:Int)(g:Tg)(ss:List av)(hl:ss.length≤1000)(x:av)(hx:PF x)(a8:∀ s ∈ ss,PF s)(X:av→aK)
  (ho:∀ s,s=x∨s ∈ ss→bg tab 137 [.c (.f (eO af F)),.a (s.row.map .f)]=Eq (.t [.a ((X s).row.map .f),vb ae]))
  (mt:av→Bool) (hm:∀ s ∈ ss,bg tab 25 [.a ((X x).row.map .f),.a ((X s).row.map .f)]=Eq (.t [vb (mt s),vi 0]))
  (fx fy:av→aI) (fd:av→Bool) (hf:∀ s ∈ ss,bg tab 138 [.a ((X x).row.map .f),.a ((X s).row.map .f),vi (-2251799813685248)]=Eq (.t [.a ((fx s).row.map .f),.a ((fy s).row.map .f),vb (fd s)])) (H:aj) :
  ∃ H',Ev tab (.fn 79) [.c (.f (cY (eO af F) (sl g (al ss)) x))] H (.t [jx (fO af x mt fx fy fd (ss.filter fun s=>Rv af F s.room x.room)),vi 0]) H'∧Kp H H':=by
 obtain⟨sd,f7⟩:=aJ (sl g (al ss));have f8:=we (eO af F) sd x.room;obtain⟨M,v⟩:=aJ ([eO af F,sd]++x.row);obtain⟨N,m⟩:=aJ (H.length);have l0:∀ K:aj,aR K ab (.c (.f (.fp M 0)))=aa (.c (.f (eO af F))):=fun K=>by rw [v];rfl
 have l1:∀ K:aj,aR K ab (.c (.f (.fp M 1)))=aa (.c (.f sd)):=fun K=>by rw [v];rfl
 have l3:∀ K:aj,aR K ab (.c (.f (.fp M 3)))=aa (vi x.room):=fun K=>by rw [v];rfl
 have l7:∀ K:aj,aR K (aa 7) (.c (.f (.fp M 2)))=aa (.a (x.row.map .f)):=fun K=>by rw [v];rfl
 have c_:=ho x (.inl rfl);have b_:(X x).row.length=3:=rfl;obtain⟨res,A⟩:=aJ (fO af x mt fx fy fd (ss.filter fun s=>Rv af F s.room x.room));have e_:res.length=8:=by rw [A];exact oT ..
 simp only [cY];rw [←f7,←v,←A];obtain⟨r,H',he,rfl,hK⟩:∃ r H',Ev tab (.fn 79) [.c (.f (.fp M 0))] H r H'∧(r=.t [jx res,vi 0]∧Kp H H'):=by
  refine aoQ (S:=fun r H'=>r=.t [jx res,vi 0]∧Kp H H') anZ rfl fun Q hQ=>?_;have a_:∀(t:T) (K:aj) (j:Option aG),ClT N t→Kp H K→fI [N+5] K→K[N+1]?=aa (.box (res.map fun n=>.f (fi n)) 0)→K[N+2]?=aa (.box [.f (fi 0)] 0)→Q j ⟨t,[N+5].map .gZ,K⟩:=by
   intro t K j E hk hc I L;have d1:=(gS (hc.not I (by simp))).trans I;have d2:=(gS (hc.not L (by simp))).trans L;refine hQ _ _ (.t [jx res,vi 0]) ⟨[N+5],rfl,hc,?_,rfl,?_⟩
   ·have i5:(res.map fun n=>C.f (fi n)).length=8:=by simpa using e_
    simp [Km.results,cA,bj,E.g2,E.g3,aR,aE,d1,d2,aV,e_,avj,jx]
   ·refine⟨by rw [B_];exact hk.1,fun b hb=>?_⟩;rw [gS (by simp;omega)];exact hk.2 b hb
  apply ai;simp;obtain⟨Y,q⟩:=aJ (H++[bw.box [.f (.fp M 0)] 0,.box (([0,0,0,0,0,0,0,0]:List Int).map fun n=>.f (fi n)) 0,.box [.f (fi 0)] 0]:aj);have n0:Y.length=N+3:=by rw [q,api,m];rfl
  have k0:∀ i:Nat,i<H.length→Y[i]?=H[i]?:=fun i hi=>by rw [q,AT hi]
  have c0:Y[N]?=aa (.box [.f (.fp M 0)] 0):=by rw [q,m];simp
  have c1:Y[N+1]?=aa (.box (([0,0,0,0,0,0,0,0]:List Int).map fun n=>.f (fi n)) 0):=by rw [q,m,IS (by omega)];simp
  have c2:Y[N+2]?=aa (.box [.f (fi 0)] 0):=by rw [q,m,IS (by omega)];simp
  simp only [avl,avs]at q;rw [←q,←m];have a0:aR Y ab (.c (.ptr N 0 0))=aa (.c (.f (.fp M 0))):=by simp [aR,aE,c0]
  obtain⟨z,B⟩:=aJ (Y++[bw.box ((X x).row.map .f) 0,.box [.f (.bool ae)] 0]:aj);have n1:z.length=N+5:=by rw [B,api,n0];rfl
  have k1:∀ i:Nat,i<Y.length→z[i]?=Y[i]?:=fun i hi=>by rw [B,AT hi]
  have c3:z[N+3]?=aa (.box ((X x).row.map .f) 0):=by rw [B,IS (by omega),n0];simp
  have c4:z[N+4]?=aa (.box [.f (.bool ae)] 0):=by rw [B,IS (by omega),n0];simp
  obtain⟨ox,d9⟩:=aJ (X x);rw [←d9]at c_ b_ B c3 hm hf;apply ai;simp [a0,l0,l7,c_,b_,-aw];rw [n0,←B];have a1:aR z ab (.c (.ptr N 0 0))=aa (.c (.f (.fp M 0))):=by simp [aR,aE,k1 N (by omega),c0]
  refine an (ai ?_);simp [a1,l0,l1,l3,f8,-aw];refine aF ?_
  suffices go:∀ u:T,ClT N u→u.g 40=.c (.f (.fn 199 [.fp [sd] 0,.fp [eO af F] 0,.fp [fi x.room] 0]))→WP tab 79 ab [.code AG,.inBlock 0,.code xB] ⟨u,[],z⟩ Q by
   exact go _ ⟨by simp,by simp,by simp,by simp,by simp⟩ (by simp)
  intro u E f_;obtain⟨LP,W⟩:∃ LP:ej→Option aG→bw,LP=fun st pd=>.lp 79 u [P.nat 41] ff ew st pd (N+5):=⟨_,rfl⟩
  obtain⟨f,U⟩:=aJ (z++[.eH ae,LP .ready ab]);have kR:∀ i:Nat,i<z.length→f[i]?=z[i]?:=fun i hi=>by rw [U,AT hi]
  have q5:f[N+5]?=aa (.eH ae):=by rw [U,IS (by omega),n1];simp
  have q6:f[N+6]?=aa (LP .ready ab):=by rw [U,IS (by omega),n1];simp
  have i6:f.length=N+7:=by rw [U,api,n1];rfl
  have hq:ClQ H M ox f:=⟨⟨by omega,fun b hb=>by rw [kR b (by omega),k1 b (by omega),k0 b hb]⟩,by rw [←m,kR _ (by omega),k1 _ (by omega)];exact c0,by rw [←m,kR _ (by omega),k1 _ (by omega)];exact c1,
   by rw [←m,kR _ (by omega),k1 _ (by omega)];exact c2,by rw [←m,kR _ (by omega)];exact c3,by rw [←m,kR _ (by omega)];exact c4,⟨by simp,fun i hi=>by rw [avh.1 hi,←m];exact q5⟩⟩
  obtain⟨H2,he,k⟩:=tv (b:=N+6) (H:=f) (PP:=fun d J=>ClQ H M ox J∧J[N+6]?=aa (LP .ready ab)∧∀ s ∈ d,s.meet=x.meet∨mt s=ag)
   (RR:=fun d s J=>(∀ s ∈ d,s.meet=x.meet∨mt s=ag)∧¬ (s.meet=x.meet∨mt s=ag)∧Kp H J∧J[N+1]?=aa (.box ((Da af s (fx s) (fy s) (fd s)).map fun n=>.f (fi n)) 0)∧J[N+2]?=aa (.box [.f (fi 0)] 0)∧fI [N+5] J∧J[N+6]?=aa (LP .done (aa .ret)))
   (eO af F) g ss hl x.room (fun s=>Rv af F s.room x.room) (fun s w=>Gu af F _ _ (a8 s w).r0 (a8 s w).r1 hx.r0 hx.r1) ⟨hq,q6,by simp⟩
   (fun d J K ⟨I,L,a⟩=>⟨I.cO (by simp) fun i hi _=>by rw [AT hi],by rw [AT (ak L)];exact L,a⟩)
   (fun d s J ⟨I,L,a⟩ w=>by
    have b9:=L;rw [W,m]at b9;rw [m]at E;rw [v]at I;obtain⟨r,J',i4,hr⟩:=Bv af F sd x hx s (a8 s w) ox (X s) (ho s (.inr w)) (mt s) (hm s w) (fx s) (fy s) (fd s) (hf s w) E I b9;refine⟨r,J',by rw [m];exact i4,?_⟩;by_cases d_:r=ae
    ·rw [bf d_]at hr ⊢;refine⟨by rw [v];exact hr.2.1,by rw [m,hr.2.2,←m];exact L,fun y hy=>?_⟩;rcases avq.1 hy with h | h
     ·exact a y h
     ·rw [avh.1 h];exact hr.1
    ·rw [aY d_]at hr ⊢;obtain⟨e1,e2,e3,e4,e5,e6⟩:=hr;exact⟨a,e1,e2,by rw [m];exact e3,by rw [m];exact e4,by rw [m];exact e5,by rw [W,m];exact e6⟩)
  rw [←f7]at he;have h_:Ev tab (.fn 199) [.c (.yl (z.length+1)),.c (.f (.fp [sd] 0)),.c (.f (.fp [eO af F] 0)),.c (.f (.fp [fi x.room] 0))] (z++[.eH ae,.lp 79 u [P.nat 41] ff ew .ready ab z.length]) (.t []) H2:=by
   have e:z++[.eH ae,.lp 79 u [P.nat 41] ff ew .ready ab z.length]=f:=by rw [U,W,n1]
   rw [e,n1];exact he
  refine iu (g:=199) (by rw [A9,f_];simp [bX]) h_ ?_;rw [n1];rcases k with⟨I,L,a⟩ | ⟨d,s,rest,g_,a,h4,h5,h6,h7,h8,h9⟩
  ·rw [W]at L;refine lj L (by decide) (aA ?_);have o:res=[0,0,0,0,0,0,0,0]:=by
    rw [A];have:=oS (af:=af) (x:=x) (mt:=mt) (fx:=fx) (fy:=fy) (fd:=fd) (l:=[]) a;rw [av0]at this;rw [this];rfl
   have z1:=I.h2;have z2:=I.h3;have z3:=I.cl;have z4:=I.k;rw [←m]at z1 z2 z3;obtain⟨H3,Z⟩:=aJ (H2.set (N+6) (.lp 79 u [P.nat 41] ff ew .exhausted ab (N+5)));have k3:∀ i:Nat,i≠N+6→H3[i]?=H2[i]?:=fun i hi=>by rw [Z,AI (Ne.symm hi)]
   have y1:=(k3 (N+1) (by omega)).trans z1;have y2:=(k3 (N+2) (by omega)).trans z2;have y3:fI [N+5] H3:=by rw [Z];exact z3.set L (by simp)
   have y4:Kp H H3:=by rw [Z];exact z4.mQ (by omega) _
   rw [←Z];obtain⟨c,O⟩:=aJ (H3.set (N+1) (.box (([0,0,0,0,0,0,0,0]:List Int).map fun n=>.f (fi n)) 0));have w1:c[N+1]?=aa (.box (([0,0,0,0,0,0,0,0]:List Int).map fun n=>.f (fi n)) 0):=by rw [O];exact IN (ak y1)
   have w2:c[N+2]?=aa (.box [.f (fi 0)] 0):=by rw [O,AI (by omega)];exact y2
   have w3:fI [N+5] c:=by rw [O];exact y3.set y1 (by simp)
   have w4:Kp H c:=by rw [O];exact y4.mQ (by omega) _
   have s1:cX H3 (.ptr (N+1) 0 0) [.f (fi 0),.f (fi 0),.f (fi 0),.f (fi 0),.f (fi 0),.f (fi 0),.f (fi 0),.f (fi 0)]=aa c:=by rw [O];simp [cX,y1,over]
   have s2:cX c (.ptr (N+2) 0 0) [.f (fi 0)]=aa (c.set (N+2) (.box [.f (fi 0)] 0)):=by simp [cX,w2,over]
   apply ai;simp [E.g2,E.g3,s1,s2,-bh];refine aC (a_ _ _ _ ⟨by simp [E.g1],by simp [E.g2],by simp [E.g3],by simp [E.g4],by simp [E.g5]⟩ (w4.mQ (by omega) _) (w3.set w2 (by simp)) ?_ (IN (ak w2)));rw [AI (by omega),o];exact w1
  ·rw [W]at h9;refine mb h9 (by decide) ?_;have p:res=Da af s (fx s) (fy s) (fd s):=by
    rw [A,g_,oS a,fO,aY h4]
   refine aC (a_ _ _ _ E (h5.mQ (by omega) _) (h8.set h9 (by simp)) ?_ ?_)
   ·rw [AI (by omega),p];exact h6
   ·rw [AI (by omega)];exact h7
 exact⟨H',he,hK⟩
def nH(b:aK→Int):Int→List aK→Int
 | tot,[]=>tot| tot,s::r=>nH b (ah .i64 (tot+b s)) r
theorem GM(af p:Int)(g:Tg)(ss:List av)(k:ss.length≤1000)(x:av)(q:Int)(M:aK→Int)
  (n:∀ s ∈ cw x.room x.dB ss,∃ v,bg tab 128 [.a (s.row.map .f),vi q]=Eq (.c (.f v))∧bg tab 202 [.c (.f v)]=Eq (vi (M s))) :
  bg tab 127 [.c (.f (cY (eO af p) (sl g (al ss)) x)),vi q]=Eq (vi (nH M 0 (cw x.room x.dB ss))):=bg.eq (by
 refine bI rfl rfl fun Q X=>?_;obtain⟨r,Y⟩:=aJ (sl g (al ss));obtain⟨N,l⟩:=aJ ([eO af p,r]++x.row);have l1:∀ K:aj,aR K ab (.c (.f (.fp N 1)))=aa (.c (.f r)):=fun K=>by rw [l];rfl
 have h:∀ K:aj,aR K ab (.c (.f (.fp N 3)))=aa (vi x.room):=fun K=>by rw [l];rfl
 have l4:∀ K:aj,aR K ab (.c (.f (.fp N 4)))=aa (vi x.dB):=fun K=>by rw [l];rfl
 obtain⟨c,H1,F,B,-,-⟩:=GI g ss x.room x.dB k [];have W:(cw x.room x.dB ss).length≤1000:=by
  unfold cw;rw [avi];exact avv (av5 _ _) k
 obtain⟨L,U⟩:=aJ (cw x.room x.dB ss);obtain⟨res,y⟩:=aJ (nH M 0 L);rw [←U]at B n X W;rw [←y]at X;simp only [cY];rw [←Y]at F ⊢;rw [←l];have u:=B.len;rw [wz]at u;apply ai;simp;apply ai;simp;apply an;apply ai;simp [l1,h,l4,F.eq,u];refine bS L.length (fun j t J=>t.g 1=vi q∧t.g 22=.c c∧LR J c 3 (bP L)∧∃ m,t.g 5=vi m∧res=nH M m (L.drop j)) (by omega) (by decide) (by decide) (by simp) (by simp) ⟨by simp,by simp,B,0,by simp,by simpa using y⟩ ?_ ?_
 ·rintro j t J I ⟨O,z,B,m,S,H⟩ i hb next
  obtain⟨v,a,f⟩:=n L[j] (anc I);obtain⟨b,ep,i1,o⟩:=B.at (eS L) (j:=j) (by simpa using I);have e:(bP L)[j]'(by simpa using I)=L[j].row:=by simp [bP]
  rw [e]at o;rw [auR I,nH]at H;generalize L[j]=s at *;have Z:s.row.length=3:=rfl;have E:=B.push [bw.box (s.row.map .f) 0];obtain⟨w,A⟩:=aJ (J++[bw.box (s.row.map .f) 0]);have d:w[J.length]?=aa (.box (s.row.map .f) 0):=by rw [A];simp
  have h:=sU d;rw [←A]at E;refine aF ?_;apply ai;simp [z,i,i1,o,Z,-aw];rw [←A];refine aq (.inl rfl) ?_;simp [O,S,h,a,f,-aw];exact aA (next _ _ ⟨by simp [O],by simp [z],E,_,by simp,H⟩ (by simp [i]) (by simp [hb]))
 ·rintro t J ⟨O,z,B,m,S,H⟩ - -;rw [awg,nH]at H;apply ai;simp [S];refine aC (X _ _ ?_);simp [H])
def AB(l:List (Int × C)):List (FC × C):=l.map fun e=>(fi e.1,e.2)
def lkL(k:Int):List (Int × C)→Option C
 | []=>ab| e::b=>if k=e.1 then aa e.2 else lkL k b
def vS(k:Int)(c:C):List (Int × C)→List (Int × C)
 | []=>[(k,c)]| e::b=>if k=e.1 then(k,c)::b else e::vS k c b
theorem FG(a b:Int):eqK .int (fi a) (fi b)=aa (decide (a=b)):=by
 simp only [eqK,if_true];by_cases h:a=b
 ·simp [h]
 ·simp [h]
theorem FN(k:Int):∀ l,ns .int (fi k) (AB l)=aa (lkL k l)
 | []=>rfl
 | e::d=>by
  have b:=FN k d;simp only [AB,avl,ns,FG,lkL]at b ⊢;by_cases h:k=e.1
  ·rw [bf h,decide_eq_true h]
  ·rw [aY h,decide_eq_false h];exact b
theorem ad7(k:Int)(c:C):∀ l,qX .int (fi k) c (AB l)=aa (AB (vS k c l))
 | []=>rfl
 | e::d=>by
  have b:=ad7 k c d;simp only [AB,avl,qX,FG,vS]at b ⊢;by_cases h:k=e.1
  ·rw [bf h,decide_eq_true h];rfl
  ·rw [aY h,decide_eq_false h];simp only [b];rfl
theorem zU(k:Int)(c:C):∀ l,lkL k (vS k c l)=aa c
 | []=>by simp [vS,lkL]
 | e::b=>by
  have d:=zU k c b;unfold vS;by_cases h:k=e.1
  ·rw [bf h];simp [lkL]
  ·rw [aY h];simp [lkL,h,d]
theorem Gb{J:aj}{m:Nat}{l:List (Int × C)}(b:J[m]?=aa (.map (AB l))){k v:Int}(h:lkL k l=aa (.f (fi v))):gb J .int (fi 0) (.c (.mp m)) (vi k)=aa (vi v):=by
 unfold gb;simp only [b,isKey,if_true,FN,Option.map_some,lkR,sH,h];rfl
def zY(H:aj)(g:CK):V→V→V→Option (V × aj)
 | .c (.mp b),.c (.f k),v=>match qo v,H[b]? with
  | some v,aa (.map d)=>if isKey g k then(qX g k v d).map fun d=>(.top,H.set b (.map d))else ab
  | _,_=>ab
 | _,_,_=>ab
theorem GU(t:T)(H:aj)(b:CK)(m k v:Arg):bq t H (.jg b m k v)=zY H b (m.ev t) (k.ev t) (v.ev t):=by
 simp only [bq];unfold zY;split<;>split<;>simp_all
 all_goals (split<;>simp_all)
theorem adP{J:aj}{m:Nat}{l:List (Int × C)}(b:J[m]?=aa (.map (AB l)))(k v:Int):zY J .int (.c (.mp m)) (vi k) (vi v)=aa (.top,J.set m (.map (AB (vS k (.f (fi v)) l)))):=by
 simp [zY,qo,b,isKey,ad7]
theorem alR(t:T)(H:aj):bq t H .jQ=aa (.c (.mp H.length),H++[.map []]):=rfl
theorem C9(t:T)(H:aj)(b:CK)(z:FC)(m k:Arg):bq t H (.lookup b z m k)=(gb H b z (m.ev t) (k.ev t)).map (·,H):=rfl
def iN(b:Int):Int→List aI→Option aI
 | _,[]=>ab| tot,x::r=>if b<ah .i64 (tot+ah .i64 (x.to-x.fr))then aa x else iN b (ah .i64 (tot+ah .i64 (x.to-x.fr))) r
def oz(b e:Int)(d:Int→List aI)(us:Int→Int):Nat→Int→Option aI
 | 0,_=>ab| k+1,n=>if 7*n<e then(match iN b (us n) (d n)with | some x=>aa x | none=>oz b e d us k (n+1))else ab
def EA:Option aI→List Int
 | none=>[0,0,0,0,0,0,0,0]| some x=>[14,0,x.day,x.fr,x.to,0,0,0]
theorem Cq(o:Option aI):(EA o).length=8:=by cases o<;>rfl
theorem ad9(af qu:Int)(g:Tg)(ss:List av)(hl:ss.length≤1000)(x:av)(h0:0≤x.room)(h1:x.room≤2)(t9:V.beq (.a (x.st.row.map .f)) (.a (x.st.row.map .f))=ae)(d:Nat)(hd:d ∈ tH)
  (g_:bg tab 140 [.c (.f (sl .fs (bP (cw x.room x.dB ss++[x.st]))))]=Eq (.t [vi (15+7*(d:Int)),vb ae]))
  (F:Int→List aI) (us:Int→Int) (ho:∀ n,-1≤n→n≤100→(F n).length≤10∧∃ g,bg tab 128 [.a (x.st.row.map .f),vi n]=Eq (.c (.f (sl g (aH (F n))))))
  (hu:∀ n,-1≤n→n≤100→bg tab 127 [.c (.f (cY (eO af qu) (sl g (al ss)) x)),vi n]=Eq (vi (us n))) (H:aj) :
  ∃ H',Ev tab (.fn 80) [.c (.f (cY (eO af qu) (sl g (al ss)) x))] H (.t [jx (EA (if(mM x.dB (bM af qu x.room).q).2 then oz (mM x.dB (bM af qu x.room).q).1 (15+7*(d:Int)) F us 200 (-1)else ab)),vi 0]) H'∧Kp H H':=by
 have B:=BV af qu (sl g (al ss)) x h0 h1;obtain⟨v,j6⟩:=aJ ((mM x.dB (bM af qu x.room).q).1);obtain⟨s7,n9⟩:=aJ ((mM x.dB (bM af qu x.room).q).2);rw [←j6,←n9]at B ⊢;obtain⟨sd,x9⟩:=aJ (sl g (al ss));obtain⟨cd,b_⟩:=aJ ([eO af qu,sd]++x.row);have l1:∀ K:aj,aR K ab (.c (.f (.fp cd 1)))=aa (.c (.f sd)):=fun K=>by rw [b_];rfl
 have l3:∀ K:aj,aR K ab (.c (.f (.fp cd 3)))=aa (vi x.room):=fun K=>by rw [b_];rfl
 have l4:∀ K:aj,aR K ab (.c (.f (.fp cd 4)))=aa (vi x.dB):=fun K=>by rw [b_];rfl
 have l6:∀ K:aj,aR K (aa 3) (.c (.f (.fp cd 6)))=aa (.a (x.st.row.map .f)):=fun K=>by rw [b_];rfl
 obtain⟨res,q⟩:=aJ (EA (if s7 then oz v (15+7*(d:Int)) F us 200 (-1)else ab));have j8:=fun K=>GI g ss x.room x.dB hl K;simp only [cY]at B hu ⊢;rw [←x9]at B hu j8 ⊢;rw [←b_]at B hu ⊢;rw [←q];have h60:=tP hd;have x_:x.st.row.length=3:=rfl;obtain⟨L,l_⟩:=aJ (cw x.room x.dB ss);have hLl:L.length≤1000:=by
  rw [l_];unfold cw;rw [avi];exact avv (av5 _ _) hl
 rw [←l_]at j8 g_;obtain⟨N,hN⟩:=aJ (H.length);obtain⟨r,H',he,rfl,Z⟩:∃ r H',Ev tab (.fn 80) [.c (.f (.fp cd 0))] H r H'∧(r=.t [jx res,vi 0]∧Kp H H'):=by
  refine cL (C:=fun r H'=>r=.t [jx res,vi 0]∧Kp H H') an0 rfl fun Q hQ=>?_;have i5:∀(t:T) (K:aj) (j:Option aG),t.g 2=.c (.ptr N 0 0)→t.g 3=vi 0→Kp H K→K[N]?=aa (.box (res.map fun n=>.f (fi n)) 0)→Q j ⟨t,[],K⟩:=by
   intro t K j z g3 hk hb;have x8:res.length=8:=by rw [q];exact Cq _
   refine hQ _ _ (.t [jx res,vi 0]) rfl ?_ ⟨rfl,hk⟩;simp [Km.results,cA,bj,z,g3,aR,aE,hb,aV,x8,avj,jx]
  have zero:∀(t:T) (K:aj) (k:List da),res=[0,0,0,0,0,0,0,0]→t.g 2=.c (.ptr N 0 0)→Kp H K→K[N]?=aa (.box (([0,0,0,0,0,0,0,0]:List Int).map fun n=>.f (fi n)) 0) →
    WP tab 80 ab (.code (.seq xD .ret)::k) ⟨t,[],K⟩ Q:=by
   intro t K k hr z hk hb;simp only [avl,avs]at hb;have s1:cX K (.ptr N 0 0) [.f (fi 0),.f (fi 0),.f (fi 0),.f (fi 0),.f (fi 0),.f (fi 0),.f (fi 0),.f (fi 0)]=aa (K.set N (.box [.f (fi 0),.f (fi 0),.f (fi 0),.f (fi 0),.f (fi 0),.f (fi 0),.f (fi 0),.f (fi 0)] 0)):=by simp [cX,hb,over]
   apply ai;simp [z,s1,-bh];refine aC ?_;refine i5 _ _ _ ?_ ?_ (hk.mQ (by omega) _) ?_
   ·simp [z]
   ·simp
   rw [IN (ak hb),hr];rfl
  apply ai;simp;obtain⟨K0,b9⟩:=aJ (H++[bw.box (([0,0,0,0,0,0,0,0]:List Int).map fun n=>.f (fi n)) 0]:aj);have k0:Kp H K0:=by rw [b9];exact Kp.push _ _
  have c0:K0[N]?=aa (.box (([0,0,0,0,0,0,0,0]:List Int).map fun n=>.f (fi n)) 0):=by rw [b9,hN];simp
  have n0:K0.length=N+1:=by rw [b9,hN];simp
  simp only [avl,avs]at b9;rw [←b9,←hN];apply ai;simp [B];apply an;apply ai;simp;cases s7 with
  | false=>
   refine au (by simp) ?_;have j9:=c0;simp only [avl,avs]at j9;have s1:cX K0 (.ptr N 0 0) [.f (fi 0),.f (fi 0),.f (fi 0),.f (fi 0),.f (fi 0),.f (fi 0),.f (fi 0),.f (fi 0)]=aa (K0.set N (.box [.f (fi 0),.f (fi 0),.f (fi 0),.f (fi 0),.f (fi 0),.f (fi 0),.f (fi 0),.f (fi 0)] 0)):=by simp [cX,j9,over]
   apply ai;simp [s1,-bh];refine aC ?_;refine i5 _ _ _ ?_ ?_ (k0.mQ (by omega) _) ?_
   ·simp
   ·simp
   ·rw [IN (ak c0),q];rfl
  | true=>
   simp only [if_true]at q;refine bo (by simp) ?_;obtain⟨c,K1,m9,t8,i4,w9⟩:=j8 K0;have k2:=w9;obtain⟨c',K3,e1,i7,e3,e4⟩:=t8.arP (eS _) (by decide) (rows':=[x.st.row]) (fun r hr=>by rw [avh.1 hr];rfl) (bytes:=56) (by simp [bV];omega) .fs;have s8:sl .fs [x.st.row]=.fs x.st.row 1:=rfl;rw [s8]at e1;have v_:fcL (x.st.row.map .f)=aa x.st.row:=rfl;have n8:∀ i,bG c'=aa i→K0.length≤i:=fun i hi=>by
    rcases e4 with h | h
    ·exact i4 i (by rw [←h];exact hi)
    ·rw [h]at hi;cases hi;have:=k2.1;omega
   have k3:Kp K0 K3:=by
    refine⟨by have:=e3.1;have:=k2.1;omega,fun i hi=>?_⟩;rw [←k2.2 i hi];have W:i<K1.length:=by have:=k2.1;omega
    rw [By W];exact e3.2 i _ (By W) fun h=>by have:=i4 i h;omega
   have er:bP L++[x.st.row]=bP (L++[x.st]):=by simp [bP]
   rw [er]at i7;obtain⟨z_,i_⟩:=i7.ex (eS _) 63;have j7:bP (L++[x.st])≠[]:=by simp [bP]
   rw [aex (g':=.fs) j7]at i_;change ey deep K3 c'=_ at i_;obtain⟨K4,k_⟩:=aJ (gF deep c' K3);have k4:Kp K0 K4:=by
    rw [k_];rcases i7.x.mkH 63 with e | ⟨b,ep,fl,z9,h1,h2,h3⟩
    ·change gF deep c' K3=K3 at e;rw [e];exact k3
    ·change gF deep c' K3=_ at h3;rw [h3];exact k3.mQ (n8 b h1) _
   refine an (gn (.inl rfl) ?_ ?_)
   case refine_2=>
    intro cc v8;have v6:cc=(19,14):=by simpa using v8
    subst v6;refine⟨by decide,_,rfl,.inr ⟨by decide,?_⟩⟩;simp [l1,l3,l4,l6,m9.eq,ib,t9,-aw]
   simp [l1,l3,l4,l6,m9.eq,x_,v_,e1,i_,g_,←k_,-aw]
   suffices go:∀ u:T,u.g 0=.c (.f (.fp cd 0))→u.g 2=.c (.ptr N 0 0)→u.g 4=vi v→u.g 5=vb ae→u.g 6=vi (15+7*(d:Int))→WP tab 80 ab [.code xC] ⟨u,[],K4⟩ Q by
    exact go _ (by simp) (by simp) (by simp) (by simp) (by simp)
   intro u g0 z X g5 S;have k5:Kp H K4:=k0.tr k4;have c4:K4[N]?=aa (.box (([0,0,0,0,0,0,0,0]:List Int).map fun n=>.f (fi n)) 0):=k4.get c0;have y7:N<K4.length:=ak c4;apply an;apply ai;simp [g5];refine bo (by simp) ?_;obtain⟨m,hm⟩:=aJ (K4.length);obtain⟨K5,e_⟩:=aJ (K4++[bw.map []]);have m5:K5[m]?=aa (.map (AB [])):=by rw [e_,hm];simp [AB]
   have c5:K5[N]?=aa (.box (([0,0,0,0,0,0,0,0]:List Int).map fun n=>.f (fi n)) 0):=by rw [e_,AT y7];exact c4
   have k6:Kp H K5:=by rw [e_];exact k5.tr (Kp.push _ _)
   apply ai;simp [alR];rw [←hm,←e_];apply an;apply ai;simp;refine aF ?_;obtain⟨e,v9⟩:=aJ (15+7*(d:Int));rw [←v9]at S q;have heb:e≤435:=by omega
   refine cI (fun k s=>∃(n:Int) (u:T) (K:aj) (l:List (Int × C)),s=⟨u,[],K⟩∧-1≤n∧n+k=199∧u.g 0=.c (.f (.fp cd 0))∧u.g 2=.c (.ptr N 0 0)∧u.g 4=vi v∧u.g 6=vi e∧u.g 7=.c (.mp m)∧u.g 8=vi n∧Kp H K∧m<K.length ∧
    K[N]?=aa (.box (([0,0,0,0,0,0,0,0]:List Int).map fun n=>.f (fi n)) 0)∧K[m]?=aa (.map (AB l))∧res=EA (oz v e F us k n)) 200
    ⟨-1,_,K5,[],rfl,by omega,by omega,by simp [g0],by simp [z],by simp [X],by simp [S],by simp,by simp,k6,ak m5,c5,m5,q⟩ ?_
   clear q;rintro k s ⟨n,u,K,l,rfl,hn1,hnk,g0,z,X,S,Y,I,Z,w_,hc,f7,q⟩ ih;have p_:m≠N:=by rintro rfl;rw [f7]at hc;cases hc
   apply an;apply ai;simp [S,I,aW (n:=7*n)];by_cases W:7*n<e
   case neg=>
    refine aB (by simp;omega) (bJ rfl ?_);refine zero _ K _ ?_ (by simp [z]) Z hc;rw [q];cases k with
    | zero=>rfl| succ k=>rw [oz,aY W];rfl
   obtain⟨k,rfl⟩:∃ k',k=k'+1:=⟨k-1,by omega⟩
   rw [oz,bf W]at q;refine au (by simp [W]) (aP ?_);apply an;refine aF ?_;obtain⟨x6,gO,f8⟩:=ho n (by omega) (by omega);have r_:=hu n (by omega) (by omega);obtain⟨O,hO⟩:=aJ (F n);obtain⟨U,hU⟩:=aJ (us n);rw [←hO]at x6 f8 q;rw [←hU]at r_ q;have c_:∀(w:T) (K':aj) (l':List (Int × C)),res=EA (oz v e F us k (n+1))→w.g 0=.c (.f (.fp cd 0))→w.g 2=.c (.ptr N 0 0)→w.g 4=vi v→w.g 6=vi e→w.g 7=.c (.mp m)→w.g 8=vi n→Kp H K'→K'[m]?=aa (.map (AB l'))→K'[N]?=aa (.box (([0,0,0,0,0,0,0,0]:List Int).map fun n=>.f (fi n)) 0) →
     WP tab 80 ab [.code rQ,.inLoop rP,.inBlock 0,.code rR] ⟨w,[],K'⟩ Q:=by
    intro w K' l' hr g0 z X S Y I s9 E t_;refine aq (.inl rfl) ?_;simp [I,aW (n:=n+1)];exact ih k _ (by omega) ⟨n+1,_,K',l',rfl,by omega,by omega,by simp [g0],by simp [z],by simp [X],by simp [S],by simp [Y],by simp,s9,ak E,t_,E,hr⟩
   apply ai;simp [g0,I,l6,f8,-aw];apply an;apply ai;have h_:∀ J:aj,bu J (.f (sl gO (aH O)))=aa O.length:=fun J=>by simp
   simp [h_];by_cases i8:O=[]
   ·refine au (by simp [i8]) (bJ (k':=[.code rQ,.inLoop rP,.inBlock 0,.code rR]) (by simp [Km.exitTo]) ?_);rw [i8]at q;exact c_ _ K l q (by simp [g0]) (by simp [z]) (by simp [X]) (by simp [S]) (by simp [Y]) (by simp [I]) Z f7 hc
   refine bo (by simp [i8]) ?_;apply ai;simp [g0,Y,I,r_,GU,adP f7];obtain⟨K1,d_⟩:=aJ (K.set m (.map (AB (vS n (.f (fi U)) l))));have w1:K1[m]?=aa (.map (AB (vS n (.f (fi U)) l))):=by rw [d_];exact IN w_
   have w2:K1[N]?=aa (.box (([0,0,0,0,0,0,0,0]:List Int).map fun n=>.f (fi n)) 0):=by rw [d_,AI p_];exact hc
   have o_:H.length≤m:=by rw [hm];exact k5.1
   have w3:Kp H K1:=by rw [d_];exact Z.mQ o_ _
   rw [←d_];apply ai;simp [h_];have M:=fun(j:Nat) (hj:j<O.length) (H:aj)=>bl (H:=H) (g:=gO) (rows:=aH O) (sz:=3) (k:=.i64) (i:=(j:Int)) (by omega) (by simp;omega);refine bS O.length (fun j t J=>t.g 0=.c (.f (.fp cd 0))∧t.g 2=.c (.ptr N 0 0)∧t.g 4=vi v∧t.g 6=vi e∧t.g 7=.c (.mp m)∧t.g 8=vi n∧t.g 71=.c (.f (sl gO (aH O)))∧Kp H J∧J[N]?=aa (.box (([0,0,0,0,0,0,0,0]:List Int).map fun n=>.f (fi n)) 0) ∧
    ∃ l' d9,J[m]?=aa (.map (AB l'))∧lkL n l'=aa (.f (fi d9))∧iN v U O=iN v d9 (O.drop j)) (by omega) (by decide) (by decide) (by simp) (by simp)
    ⟨by simp [g0],by simp [z],by simp [X],by simp [S],by simp [Y],by simp [I],by simp,w3,w2,_,U,w1,zU _ _ _,by simp⟩ ?_ ?_
   ·clear g0 z X S Y I w1 w2 w3 hc Z f7;rintro j t J hj ⟨g0,z,X,S,Y,I,i6,Z,hc,l',d9,E,m_,A⟩ ha hb next
    have q_:=fun H:aj=>bL (H:=H) (bz O) (fk hj);have M:=M j hj;simp only [avr]at M;rw [auR hj,iN]at A;generalize O[j]=y at *;have y6:y.row.length=3:=rfl;obtain⟨J1,a8⟩:=aJ (J++[bw.box (y.row.map .f) 0]);have d1:J1[J.length]?=aa (.box (y.row.map .f) 0):=by rw [a8];simp
    have y1:∀ K:aj,K[J.length]?=J1[J.length]?→aR K ab (.c (.ptr J.length 1 0))=aa (vi y.fr)∧aR K ab (.c (.ptr J.length 2 0))=aa (vi y.to)∧aR K (aa 3) (.c (.ptr J.length 0 0))=aa (.a [.f (fi y.day),.f (fi y.fr),.f (fi y.to)]):=fun K Z=>by
     refine⟨?_,?_,?_⟩<;>simp [aR,aE,Z.trans d1,aV,aI.row]
    have j5:J1[m]?=aa (.map (AB l')):=by rw [a8,AT (ak E)];exact E
    have u_:J1[N]?=aa (.box (([0,0,0,0,0,0,0,0]:List Int).map fun n=>.f (fi n)) 0):=by rw [a8,AT (ak hc)];exact hc
    have s_:Kp H J1:=by rw [a8];exact Z.tr (Kp.push _ _)
    refine aF ?_;apply ai;simp [i6,ha,M,q_,y6,-aw];rw [←a8];obtain⟨y8,y_,-⟩:=y1 J1 rfl;obtain⟨T1,m4⟩:=aJ (ah .i64 (d9+ah .i64 (y.to-y.fr)));rw [←m4]at A;obtain⟨J2,a_⟩:=aJ (J1.set m (.map (AB (vS n (.f (fi T1)) l'))));have n_:J2[m]?=aa (.map (AB (vS n (.f (fi T1)) l'))):=by rw [a_];exact IN (ak j5)
    have i9:J2[N]?=aa (.box (([0,0,0,0,0,0,0,0]:List Int).map fun n=>.f (fi n)) 0):=by rw [a_,AI p_];exact u_
    have j_:Kp H J2:=by rw [a_];exact s_.mQ o_ _
    have j7:m≠J.length:=by have:=ak E;omega
    apply ai;simp [Y,I,C9,Gb j5 m_,y8,y_,←m4,GU,adP j5,←a_,-aw];apply ai;simp [X,Y,I,C9,Gb n_ (zU _ _ _)];by_cases j4:v<T1
    ·rw [bf j4]at A;rw [A]at q;refine au (by simp [j4]) ?_;have f_:=i9;simp only [avl,avs]at f_;have s1:cX J2 (.ptr N 0 0) [.f (fi 14),.f (fi 0),.f (fi y.day),.f (fi y.fr),.f (fi y.to),.f (fi 0),.f (fi 0),.f (fi 0)]=aa (J2.set N (.box [.f (fi 14),.f (fi 0),.f (fi y.day),.f (fi y.fr),.f (fi y.to),.f (fi 0),.f (fi 0),.f (fi 0)] 0)):=by simp [cX,f_,over]
     obtain⟨-,-,z8⟩:=y1 J2 (by rw [a_,AI j7]);apply ai;simp [z,z8,s1,-aw,-bh];refine aC ?_;refine i5 _ _ _ ?_ ?_ (j_.mQ (by omega) _) ?_
     ·simp [z]
     ·simp
     ·rw [IN (ak i9),q];rfl
    ·rw [aY j4]at A;refine aB (by simp;omega) (aP ?_);exact aA (next _ _ ⟨by simp [g0],by simp [z],by simp [X],by simp [S],by simp [Y],by simp [I],by simp [i6],j_,i9,_,T1,n_,zU _ _ _,A⟩ (by simp [ha]) (by simp [hb]))
   ·rintro t J ⟨g0,z,X,S,Y,I,i6,Z,hc,l',d9,E,m_,A⟩ - -;rw [awg,iN]at A;rw [A]at q;exact aA (c_ _ J l' q (by simp [g0]) (by simp [z]) (by simp [X]) (by simp [S]) (by simp [Y]) (by simp [I]) Z E hc)
 exact⟨H',he,Z⟩
theorem aoF(g:Tg)(ss:List av)(x:av)(hl:ss.length≤1000)(hs:ss.Pairwise gC) :
  ∃(i:Nat) (w:Bool),(w=ae↔∃ y ∈ ss,bZ y x=ae)∧bg tab 119 [.c (.f (sl g (al ss))),.a (x.row.map .f),.c (.f (.fn 115 []))]=Eq (.t [vi i,vb w]):=by
 obtain⟨rows,d⟩:=aJ (al ss);obtain⟨s,L⟩:∃ s:List FC→Int,∀ y:av,s y.row=mW y x:=⟨fun r=>match r with | .int _ a::.int _ b::_=>vL [dg a x.meet,dg b x.room] | _=>0,fun y=>by simp [av.row,mW]⟩
 have c_:rows.length=ss.length:=by rw [d];simp [al]
 have W:∀ r ∈ rows,∃ y ∈ ss,r=y.row:=fun r hr=>by
  rw [d]at hr;obtain⟨y,hy,rfl⟩:=avx.1 hr;exact⟨y,hy,rfl⟩
 have hg:cu 7 rows:=by rw [d];exact aX ss
 have Y:∀ y:av,(mW y x<0↔gC y x)∧(0<mW y x↔gC x y):=fun y=>by
  unfold mW gC;simp only [vL,dg];refine⟨?_,?_⟩
  ·repeat' split
   all_goals omega
  ·repeat' split
   all_goals omega
 have B:∀(i:Nat) (h:i<rows.length),rows[i]=(ss[i]'(by omega)).row:=fun i h=>by
  subst d;simp [al]
 have hp:∀(i j:Nat) (hi:i<j) (v:j<rows.length),0≤s rows[i]→0<s rows[j]:=fun i j hi v h=>by
  rw [B,L]at h ⊢;rw [(Y _).2];have h1:¬ gC (ss[i]'(by omega)) x:=fun h'=>by have:=(Y _).1.2 h';omega
  have h2:gC (ss[i]'(by omega)) (ss[j]'(by omega)):=avV.1 hs i j (by omega) (by omega) hi;unfold gC at *;omega
 have z:∀ y:av,s y.row=0↔bZ y x=ae:=fun y=>by
  rw [L];unfold mW;simp only [vL,dg,bZ]
  repeat' split
  all_goals simp
  all_goals omega
 obtain⟨i,h1,h2,O,w,h4,h⟩:∃ i:Nat,i≤rows.length∧(∀ j (v:j<rows.length),j<i→s rows[j]<0)∧(∀ j (v:j<rows.length),i≤j→0≤s rows[j]) ∧
   ∃ w:Bool,(w=ae↔∃ h:i<rows.length,s rows[i]=0)∧bg tab 119 [.c (.f (sl g rows)),.a (x.row.map .f),.c (.f (.fn 115 []))]=Eq (.t [vi i,vb w]):=by
  obtain⟨r,⟨i,h1,h2,O,w,h4,rfl⟩,h⟩:∃ r,(∃ i:Nat,i≤rows.length∧(∀ j (v:j<rows.length),j<i→s rows[j]<0)∧(∀ j (v:j<rows.length),i≤j→0≤s rows[j])∧∃ w:Bool,(w=ae↔∃ h:i<rows.length,s rows[i]=0)∧r=.t [vi i,vb w]) ∧
    bg tab 119 [.c (.f (sl g rows)),.a (x.row.map .f),.c (.f (.fn 115 []))] r:=by
   refine dY rfl rfl fun Q hQ=>?_;have ask:∀(q:Nat) (hq:q<rows.length) (H:aj),∃ J,bH H 7 ab (.c (.f (sl g rows))) (vi q)=aa (.c (.f (.fp rows.flatten (q*7))))∧aR H (aa 7) (.c (.f (.fp rows.flatten (q*7))))=aa (.a (rows[q].map .f))∧Ev tab (.fn 115) [.a (rows[q].map .f),.a (x.row.map .f)] H=E2 (vi (s rows[q])) (H++J):=by
    intro q hq H;obtain⟨y,hy,e⟩:=W rows[q] (anc hq);obtain⟨J,c3⟩:=FA y x H;have hi:=bl (H:=H) (g:=g) (rows:=rows) (sz:=7) (k:=.i64) (i:=(q:Int)) (by omega) (by omega);rw [avr]at hi;refine⟨J,hi,bL hg (By hq),?_⟩;rw [e,L];exact c3.eq
   apply ai;simp [av.row];apply ai;simp;apply ai;simp;apply an;refine aF ?_;refine cI (fun m s'=>∃(lo hi:Nat) (t:T) (H:aj),s'=⟨t,[],H⟩∧m=hi-lo∧lo≤hi∧hi≤rows.length∧t.g 0=.c (.f (sl g rows))∧t.g 4=.c (.ptr 0 0 0)∧H[0]?=aa (.box (x.row.map .f) 0)∧t.g 2=.c (.f (.fn 115 []))∧t.g 8=vi rows.length∧t.g 9=vi lo∧t.g 10=vi hi ∧
    (∀ j (v:j<rows.length),j<lo→s rows[j]<0)∧(∀ j (v:j<rows.length),hi≤j→0≤s rows[j])) rows.length
    ⟨0,rows.length,_,_,rfl,by omega,by omega,by omega,by simp,by simp,rfl,by simp,by simp,by simp,by simp,by simp,by intros;omega⟩ ?_
   rintro m s' ⟨lo,hi,t,H,rfl,rfl,b_,S,g0,g4,M,Z,g8,N,A,I,E⟩ next
   have lx:∀ K:aj,K[0]?=H[0]?→aR K (aa 7) (.c (.ptr 0 0 0))=aa (.a (x.row.map .f)):=fun K hK=>by simp [aR,aE,hK.trans M,aV,av.row]
   apply an;apply ai;simp [N,A];by_cases a_:lo<hi
   ·refine au (by simp [a_]) (aP ?_);obtain⟨q,hq⟩:=aJ ((lo+hi) / 2);have U:q<rows.length:=by omega
    have e1:dq BinOp.shr (V.c (C.f (FC.int IntKind.u64 (IntKind.u64.wrap ((lo:Int)+hi))))) (V.c (C.f (FC.int IntKind.u64 1)))=aa (.c (.f (.int .u64 (q:Int)))):=by
     have:IntKind.u64.wrap ((lo:Int)+hi)=(lo:Int)+hi:=by
      show((lo:Int)+hi) % 18446744073709551616=_;omega
     rw [this];show aa (V.c (C.f (FC.int IntKind.u64 (Int.fdiv ((lo:Int)+hi) (2 ^ (min (1:Int).toNat IntKind.u64.bits))))))=_;have O:Int.fdiv ((lo:Int)+hi) (2 ^ (min (1:Int).toNat IntKind.u64.bits))=q:=by
      show Int.fdiv ((lo:Int)+hi) 2=q;rw [Int.fdiv_eq_ediv_of_nonneg _ (by omega)];omega
     rw [O]
    have hw:=aW (n:=(lo:Int)+hi);have b9:ah .i64 (q:Int)=q:=aW;obtain⟨J,i1,l1,he⟩:=ask q U H;refine aF ?_;apply ai;simp [N,A,hw,e1,b9];apply ai;have X:(H++J)[0]?=aa (.box (x.row.map .f) 0):=by rw [AT (ak M)];exact M
    simp [g0,g4,Z,i1,l1,lx H rfl,bX,he,-aw];by_cases hc:s rows[q]<0
    ·refine au (by simp [hc]) ?_;refine aq (.inl rfl) ?_;simp [aW (n:=(q:Int)+1)];refine aA (next (hi-(q+1)) _ (by omega) ⟨q+1,hi,_,_,rfl,rfl,by omega,by omega,by simp [g0],by simp [g4],X,by simp [Z],by simp [g8],by simp,by simp [A],fun j v h=>?_,E⟩);rcases Int.lt_or_le (s rows[j]) 0 with l | l
     ·exact l
     ·by_cases e:j=q
      ·subst e;exact hc
      ·have:=hp j q (by omega) U l;omega
    ·refine aB (by simp [hc]) ?_;refine aq (.inl rfl) ?_;simp;refine aA (next (q-lo) _ (by omega) ⟨lo,q,_,_,rfl,rfl,by omega,by omega,by simp [g0],by simp [g4],X,by simp [Z],by simp [g8],by simp [N],by simp,I,fun j v h=>?_⟩);by_cases e:j=q
     ·subst e;omega
     ·have:=hp q j (by omega) v (by omega);omega
   ·have:lo=hi:=by omega
    subst this;refine aB (by simp) ?_;refine bJ rfl ?_;apply ai;by_cases u:lo<rows.length
    ·obtain⟨J,i1,l1,he⟩:=ask lo u H;simp [g0,g4,Z,g8,N,u,i1,l1,lx H rfl,bX,he,-aw];refine aC (hQ _ _ _ ⟨lo,S,I,E,decide (s rows[lo]=0),by simp [u],rfl⟩ ?_);simp
    ·simp [g8,N,u];refine aC (hQ _ _ _ ⟨lo,S,I,E,ag,by simp [u],rfl⟩ ?_);simp
  exact⟨i,h1,h2,O,w,h4,h.eq⟩
 subst d;refine⟨i,w,?_,h⟩;rw [h4];constructor
 ·rintro⟨hi,e⟩;rw [B i hi,z]at e;exact⟨_,anc _,e⟩
 ·rintro⟨y,hy,e⟩;obtain⟨j,v,rfl⟩:=List.getElem_of_mem hy;have F:j<(al ss).length:=by omega
  have e0:s (al ss)[j]=0:=by rw [B j F,z];exact e
  have a8:i≤j:=by
   rcases avT j i with l | l
   ·have:=h2 j F l;omega
   ·exact l
  have hi:i<(al ss).length:=by omega
  refine⟨hi,?_⟩;rcases Nat.lt_or_eq_of_le a8 with l | l
  ·have:=O i hi (aft _);have:=hp i j l F this;omega
  ·subst l;exact e0
def e9(af b:Int)(ss:List av)(x:av):Bool:=oH (b5 af b) ss&&gu 3 x
def gv(ss:List av)(x:av):Bool:=ss.any fun y=>bZ y x
theorem apz(af g:Int):∀ r ∈ b5 af g,lN r:=by
 have h:bg tab 190 [mF]=Eq (vi 0):=gh.2.2.2.2.2.2.2.2;intro r d;have b:r.op=dM.map .f:=by
  simp only [b5,avn,av6,or_false]at d;rcases d with rfl | rfl | rfl<;>rfl
 show bg tab 190 [.a r.op] (vi 0);rw [b];show bg tab 190 [mF] (vi 0);rw [h]
theorem zB(af l:Int)(g:Tg)(ss:List av)(J:ss.length≤1000)(M:ss.Pairwise gC)(L:∀ s ∈ ss,s.st.Sm)(x:av)(O:x.st.Sm) :
  bg tab 64 [.c (.f (eO af l)),.c (.f (sl g (al ss))),.a (x.row.map .f)] =
   Eq (.t (if e9 af l ss x then [.c (.f (cY (eO af l) (sl g (al ss)) x)),vb (!gv ss x)]else [.c (.f .ov),vb ag])):=bg.eq (by
 refine bI rfl rfl fun Q q=>?_;have b:=(aks .fs g (b5 af l) ss (show(3:Nat)≤6 by decide) (apz af l) (by omega) L).eq;have d:=(CP .fs (b5 af l) x (show(3:Nat)≤6 by decide) O).eq;obtain⟨i,w,N,y⟩:=aoF g ss x J M;have I:w=gv ss x:=by
  rw [Bool.eq_iff_iff,N,gv,List.any_eq_true]
 rw [←I]at q;have A:x.row.length=7:=rfl;change bg tab 59 [.c (.f (eO af l)),_]=_ at b;change bg tab 114 [.c (.f (eO af l)),_]=_ at d;have z:(b5 af l).length=3:=rfl;rw [z]at d;obtain⟨U,H⟩:=aJ (sl g (al ss));obtain⟨S,F⟩:=aJ (eO af l);simp only [cY]at q;rw [←H]at b y q ⊢;rw [←F]at b d q ⊢;have E:∀ K:aj,K[0]?=aa (.box (x.row.map .f) 0)→aR K (aa 7) (.c (.ptr 0 0 0))=aa (.a (x.row.map .f)):=fun K h=>by simp [aR,aE,h,aV,av.row]
 apply ai;simp [A];obtain⟨u,v⟩:=aJ ([bw.box (x.row.map .f) 0]:aj);have B:u[0]?=aa (.box (x.row.map .f) 0):=by rw [v];rfl
 rw [←v];apply an;apply ai;cases j:oH (b5 af l) ss with
 | false=>
  rw [j]at b;simp [b];refine au (by simp) ?_;apply ai;simp;refine aC (q _ _ ?_);simp [Km.results,bj,e9,j]
 | true=>
  rw [j]at b;cases m:gu 3 x with
  | false=>
   rw [m]at d;simp [b,E u B,d,-aw];refine au (by simp) ?_;apply ai;simp;refine aC (q _ _ ?_);simp [Km.results,bj,e9,j,m]
  | true=>
   rw [m]at d;simp [b,E u B,d,-aw];refine bo (by simp) ?_;apply ai;simp [E u B,y,-aw];apply ai;simp [E u B,A,-aw];refine aC (q _ _ ?_);simp [Km.results,bj,e9,j,m,iU,cD,deep,ey,av.row])
def dt(h:dm)(x:bC):Int:=if cV h=ag∨x.id<1∨x.state≠1∨iM x.dl=ag then 1 else if(qz x.id h.l).isSome then 5 else if x.dl<h.clock then 17 else 0
def mH:List C:=[.f (fi 0),.f (fi 0),.f (fi 0),.f (fi 0),.f (fi 0),.f (fi 0),.f (fi 0),.f (fi 0)]
def Re(b:List Int):List C:=b.map fun n=>.f (fi n)
theorem LR.added{H:aj}{c:C}{sz:Nat}{rows:List (List FC)}(h:LR H c sz rows)(hg:cu sz rows):cU H sz (.c c)=aa (rows.length,rows.flatten.map .f):=by
 rcases h with⟨rfl,rfl | rfl⟩ | ⟨j,b,ep,rfl,h2⟩
 ·simp [cU,bu,cP]
 ·simp [cU,bu,cP]
 ·have g:=h2.len (o:=0) (l:=rows.length) (c:=0);unfold RB at h2;have d:rows.length*sz=rows.flatten.length:=(bY hg).symm;have hc:cP H sz (.sl b 0 rows.length 0 ep sz)=aa (rows.flatten.map .f):=by
   simp only [cP,h2];rw [bf ⟨trivial,trivial,by rw [avi,d];omega⟩,List.drop_zero,avj (by rw [avi,d];exact aft _)]
  simp only [cU,g,hc]
theorem LR.mkB{H:aj}{c:C}{sz:Nat}{rows:List (List FC)}(h:LR H c sz rows)(hg:cu sz rows)(n:Nat){i:Nat}{cs:List C}{fl:Nat}(hi:H[i]?=aa (.box cs fl)):(gF (n+1) c H)[i]?=aa (.box cs fl):=by
 have g:=h.pP hi;rcases h with⟨_,rfl | rfl⟩ | ⟨j,b,ep,rfl,h2⟩
 ·exact hi
 ·exact hi
 ·unfold RB at h2;have e:∃ y,gF (n+1) (.sl b 0 rows.length 0 ep sz) H=H.set b y:=by
   refine⟨.cf sz (rows.flatten.map .f) (Nat.max 0 (0+rows.length*sz)) ep .loc,?_⟩;simp only [qW,h2];rw [tV];intro x d;have d:=List.mem_of_mem_drop (List.mem_of_mem_take d);obtain⟨m,_,rfl⟩:=avx.1 d;exact⟨_,rfl⟩
  obtain⟨y,e⟩:=e;have:b≠i:=by rintro rfl;exact g rfl
  rw [e,AI this];exact hi
theorem alG:tab.get fv=ab:=by kernel_rfl
theorem FD{sz:Nat}:∀ {rows:List (List FC)} (i:Nat),cu sz rows→i≤rows.length→rows.flatten.take (i*sz)=(rows.take i).flatten∧rows.flatten.drop (i*sz)=(rows.drop i).flatten
 | rows,0,_,_=>by simp
 | [],i+1,_,h=>by simp at h
 | r::rows,i+1,b,h=>by
  have d:r.length=sz:=b r atI;obtain⟨g,j⟩:=FD (rows:=rows) i (fun x l=>b x (aul _ l)) (by simpa using h);simp only [List.flatten_cons,List.take_succ_cons,List.drop_succ_cons];rw [Nat.succ_mul,Nat.add_comm,←d,List.take_append,List.drop_append];simp only [Nat.add_sub_cancel_left,avj (Nat.le_add_right _ _),List.drop_of_length_le (Nat.le_add_right _ _)];rw [d,g,j];simp
theorem ac1{f:Nat}{args:List V}{H H':aj}{r:V}(b:f=fv)(h:QB args H=aa (r,H')):Ev tab (.fn f) args H r H':=by
 subst b;refine⟨0,1,?_⟩;have d:tab.tt fv args H=aa (aa (r,H')):=by
  show(match tab.get fv with | some _=>ab | none=>Km.tt fv args H)=_;rw [alG];simp [tt,h]
 simp only [CF,eG,d]
theorem QE{K:aj}{c:C}{rows:List (List FC)}(v:LR K c 10 rows)(z:cu 10 rows)(S:rows.length≤1000){i:Nat}(hi:i≤rows.length){row:List FC}(d:row.length=10){vb:Nat}(F:K[vb]?=aa (.box (row.map .f) 0)) :
  ∃ m s,Ev tab (.fn 1000000000) [.c c,vi i,.c (.sl vb 0 1 1 0 10)] K (.c m) s∧LR s m 10 (rows.take i++row::rows.drop i)∧Kb K s c∧(bG m=bG c∨bG m=aa K.length):=by
 have l:cU K 10 (.c (.sl vb 0 1 1 0 10))=aa (1,row.map .f):=rX F (by simp [d]);rcases avT i rows.length with B | M
 ·rcases v with⟨rfl,_⟩ | ⟨O,b,ep,rfl,u⟩
  ·simp at B
  ·have g:=u;unfold RB at g;have x:rows.flatten.length=rows.length*10:=bY z;obtain⟨H,I⟩:=FD i z hi;refine⟨.sl b 0 (rows.length+1) 0 (ep+1) 10,K.set b (.cf 10 (((rows.take i++row::rows.drop i).flatten).map .f) 0 (ep+1) .loc),ac1 rfl ?_,.inr ⟨by simp,b,ep+1,?_,?_⟩,⟨by simp,fun j y Q E=>?_⟩,.inl rfl⟩
   ·have N:bu K (.sl b 0 rows.length 0 ep 10)=aa rows.length:=by simp [bu,g]
    simp only [QB,N,l];rw [aY (by omega)];simp only [An,g,F];rw [bf ⟨trivial,trivial,trivial,trivial,trivial,by rw [avi];exact x,trivial,by omega,by omega,by omega,by simp [d]⟩]
    congr 4
    rw [avr,←List.map_take,←aw9,H,I];simp
   ·congr 1
    simp only [api,avA,avB,avp];omega
   ·unfold RB;exact IN (ak g)
   ·have:b≠j:=by rintro rfl;exact E rfl
    rw [AI this];exact Q
 ·have A:i=rows.length:=by omega
  subst A;obtain⟨m,H',q,J,u,L⟩:=v.app z (by decide) d (bytes:=112) (nA (by omega) (by decide)) F;refine⟨m,H',ac1 rfl ?_,by rw [avH,awg];exact J,u,L⟩;simp only [QB,v.len,l];rw [bf trivial];exact q
theorem wc{H:aj}{i:Nat}{y:bw}(h:H[i]?=aa y):H.set i y=H:=by
 obtain⟨b,e⟩:=List.getElem?_eq_some_iff.1 h;rw [←e];exact List.set_getElem_self b
def jk:List Int:=[0,0,0,0,0,0,0,0]
def uB(h:dm)(x:bC)(l:List Int)(b:Int)(res:dm)(d:List Int)(c:Int):Prop:=
 (dt h x≠0∧res=gX∧d=jk∧c=dt h x)∨(dt h x=0∧b≠0∧res=gX∧d=jk∧c=b) ∨
  (dt h x=0∧b=0∧c=0∧d=l∧∃ g,(l[0]?≠aa 0∧res = { h with lg:=g })∨(l[0]?=aa 0∧∃ i,i≤h.l.length∧(∀ j (m:j<h.l.length),j<i→h.l[j].id<x.id)∧(∀ j (m:j<h.l.length),i≤j→x.id<h.l[j].id)∧res=⟨h.clock,h.bO,g,h.l.take i++x::h.l.drop i⟩))
theorem ac8(h:dm)(hk:sX h)(rm:FC)(g0:Tg)(l0:List av)(h0:gw l0)(hl0:l0.length≤3)(x:bC)(hx:Fix x.aU)(n8:∀ y ∈ h.l,Fix y.aU)(rf:List Int)(B:Int)(y_:rf.length=8)
  (E:dt h x=0→∀ g,bg tab 44 [.c (.f rm),.c (.f (sl g (al (kM l0 h)))),.a (x.aU.row.map .f)]=Eq (.t [.a (Re rf),vi B])) :
  ∃ res Y c,uB h x rf B res Y c∧bg tab 16 [.a (h.row.map .f),.c (.f rm),.c (.f (sl g0 (al l0))),.a (x.row.map .f)]=Eq (.t [.a (res.row.map .f),.a (Re Y),vi c]):=by
 obtain⟨v,⟨res,Y,c,hG,rfl⟩,hp⟩:∃ v,(∃ res Y c,uB h x rf B res Y c∧v=.t [.a (res.row.map .f),.a (Re Y),vi c])∧bg tab 16 [.a (h.row.map .f),.c (.f rm),.c (.f (sl g0 (al l0))),.a (x.row.map .f)] v:=by
  refine dY rfl rfl fun Q hQ=>?_;have hl:=hk.len;have hv:=nT h (by omega);have hhl:h.row.length=3:=rfl;have z_:x.row.length=10:=rfl;apply ai;simp;obtain⟨d,u⟩:=aJ ([.box (h.row.map .f) 0,.box (x.row.map .f) 0,.box [.f (fi 0),.f (fi 0),.f .az] 0,.box mH 0]:aj);have a0:∀ H:aj,H[0]?=aa (.box (h.row.map .f) 0)→aR H (aa 3) (.c (.ptr 0 0 0))=aa (.a (h.row.map .f)):=fun H J=>by simp [J,aV,dm.row]
  have a1:aR d ab (.c (.ptr 0 0 0))=aa (vi h.clock):=by rw [u];simp [aV,dm.row]
  have a2:aR d ab (.c (.ptr 0 2 0))=aa (.c (.f (sl h.lg (aQ h.l)))):=by rw [u];simp [aV,dm.row]
  have x0:aR d ab (.c (.ptr 1 0 0))=aa (vi x.id):=by rw [u];simp [aV,bC.row]
  have x1:aR d ab (.c (.ptr 1 1 0))=aa (vi x.dl):=by rw [u];simp [aV,bC.row]
  have x2:aR d ab (.c (.ptr 1 2 0))=aa (vi x.state):=by rw [u];simp [aV,bC.row]
  have x3:∀ H:aj,H[1]?=aa (.box (x.row.map .f) 0)→aR H (aa 7) (.c (.ptr 1 3 0))=aa (.a (x.aU.row.map .f)):=fun H J=>by simp [J,aV,bC.row,av.row]
  have x4:∀ H:aj,H[1]?=aa (.box (x.row.map .f) 0)→aR H (aa 10) (.c (.ptr 1 0 0))=aa (.a (x.row.map .f)):=fun H J=>by simp [J,aV,bC.row]
  have z0:d[0]?=aa (.box (h.row.map .f) 0):=by rw [u];rfl
  have z1:d[1]?=aa (.box (x.row.map .f) 0):=by rw [u];rfl
  have z2:d[2]?=aa (.box [.f (fi 0),.f (fi 0),.f .az] 0):=by rw [u];rfl
  have K:d[3]?=aa (.box mH 0):=by rw [u];rfl
  have s2:∀ H:aj,H[2]?=aa (.box [.f (fi 0),.f (fi 0),.f .az] 0)→cX H (.ptr 2 0 0) [.f (fi 0),.f (fi 0),.f .az]=aa H:=fun H J=>by
   simp [J];exact wc J
  have s3:∀ H:aj,H[3]?=aa (.box mH 0)→cX H (.ptr 3 0 0) [.f (fi 0),.f (fi 0),.f (fi 0),.f (fi 0),.f (fi 0),.f (fi 0),.f (fi 0),.f (fi 0)]=aa H:=fun H J=>by
   simp [J,mH];exact wc J
  simp only [mH]at u;rw [←u];have f_:∀(c:Int),uB h x rf B gX jk c→∀(t:T) (H:aj) (k:List da),H[2]?=aa (.box [.f (fi 0),.f (fi 0),.f .az] 0)→H[3]?=aa (.box mH 0)→t.g 8=.c (.ptr 2 0 0)→t.g 9=.c (.ptr 3 0 0)→t.g 10=vi c→WP tab 16 ab (.code .ret::k) ⟨t,[],H⟩ Q:=by
   intro c hG t H k K z4 g6 g7 g8;have q3:aR H (aa 3) (.c (.ptr 2 0 0))=aa (.a [.f (fi 0),.f (fi 0),.f .az]):=by simp [K,aV]
   have q4:aR H (aa 8) (.c (.ptr 3 0 0))=aa (.a mH):=by simp [z4,aV,mH]
   refine aC (hQ _ _ (.t [.a (gX.row.map .f),.a (Re jk),vi c]) ⟨gX,jk,c,hG,rfl⟩ ?_);simp [Km.results,bj,g6,g7,g8,q3,q4,iU,cD,deep,gX,dm.row,mH,sl,Tg.fc,aQ,Re,jk,-aw]
  have bad:dt h x=1→∀ t:T,t.g 8=.c (.ptr 2 0 0)→t.g 9=.c (.ptr 3 0 0)→t.g 35=vb ae→WP tab 16 ab [.code E0,.code E3] ⟨t,[],d⟩ Q:=by
   intro he t g8 g9 g;refine au (by simp [g]) (ai ?_);simp [g8,g9,s2 d z2,s3 d K,-bh];exact f_ 1 (.inl ⟨by omega,rfl,rfl,he.symm⟩) _ _ _ z2 K (by simp [g8]) (by simp [g9]) (by simp)
  apply an;apply an;refine aq (.inl rfl) ?_;cases Z:cV h
  case false=>
   simp [a0 d z0,hv,Z,-aw];exact bad (by simp [dt,Z]) _ (by simp) (by simp) (by simp)
  by_cases k1:x.id<1
  ·simp [a0 d z0,hv,Z,x0,k1,-aw];exact bad (by simp [dt,k1]) _ (by simp) (by simp) (by simp)
  by_cases k2:x.state=1
  case neg=>
   simp [a0 d z0,hv,Z,x0,x2,k1,k2,-aw];exact bad (by simp [dt,k2]) _ (by simp) (by simp) (by simp)
  cases m:iM x.dl
  case false=>
   simp [a0 d z0,hv,Z,x0,x1,x2,k1,k2,vA,m,-aw];exact bad (by simp [dt,m]) _ (by simp) (by simp) (by simp)
  simp [a0 d z0,hv,Z,x0,x1,x2,k1,k2,vA,m,-aw];refine bo (by simp) ?_;obtain⟨i,hi,p_,i7,i6⟩:=FO h (by omega) Z x.id;have z:=yd Z p_ i7;apply ai;simp [a0 d z0,x0,i6,-aw];apply an;refine aF ?_;apply ai;simp;cases hf:tU h.l i x.id
  case true=>
   rw [hf]at z;simp at z;have he:dt h x=5:=by simp [dt,Z,k1,k2,m,z]
   refine au (by simp) (ai ?_);simp [s2 d z2,s3 d K,-bh];exact f_ 5 (.inl ⟨by omega,rfl,rfl,he.symm⟩) _ _ _ z2 K (by simp) (by simp) (by simp)
  have n9:∀ j (hj:j<h.l.length),i≤j→x.id<h.l[j].id:=fun j hj x8=>by
   have h1:=i7 j hj x8;have hne:h.l[j].id≠x.id:=by
    intro e;by_cases x9:j=i
    ·subst x9;simp [tU,hj,e]at hf
    ·have s8:=(eo.1 Z).2.2.2;rw [avV]at s8;have:=s8 i j (by omega) hj (by omega);have:=i7 i (by omega) (aft _);omega
   omega
  rw [hf]at z;simp at z;refine aB (by simp) ?_;apply ai;by_cases k3:x.dl<h.clock
  ·have he:dt h x=17:=by simp [dt,Z,k1,k2,m,z,k3]
   simp [x1,a1,k3,-aw];refine au (by simp) (ai ?_);simp [s2 d z2,s3 d K,-bh];exact f_ 17 (.inl ⟨by omega,rfl,rfl,he.symm⟩) _ _ _ z2 K (by simp) (by simp) (by simp)
  have he:dt h x=0:=by simp [dt,Z,k1,k2,m,z,k3]
  have E:=E he;simp [x1,a1,k3,-aw];refine aB (by simp) ?_;apply ai;simp [a2,show¬ (h.l.length:Int)=4096 by omega,-aw];refine aB (by simp) (aP (aA ?_));obtain⟨r1,H1,g_,c1,rfl,i8,j8,hb1⟩:=xU h (by omega) n8 g0 l0 (by omega) d;have g_:=g_.eq;obtain⟨o,ho⟩:=aJ (uniq l0 [] (bB h.l));rw [←ho]at j8;have hol:o.length≤9:=by
   have h2:=nG (l0:=l0) (acc:=[]) (l:=bB h.l);have h3:=vq h;rw [ho];simp at h2;omega
  obtain⟨H2,b_⟩:=aJ (H1++[.box [.f (sl g0 (al l0)),c1] 0]:aj);have q2:H2[H1.length]?=aa (.box [.f (sl g0 (al l0)),c1] 0):=by rw [b_];simp
  have i9:Kp d H2:=by rw [b_];exact⟨by have:=i8.1;simp;omega,fun b' l=>by rw [AT (avJ l i8.1)];exact i8.2 b' l⟩
  have u_:LR H2 c1 7 (al o):=by rw [b_];exact j8.push _
  obtain⟨r3,H3,a_,c3,rfl,f8,x_,y6,hbc⟩:=xV (tab:=tab) (H:=H2) (F:=40) (G:=73) (sz:=7) (bytes:=88) (zs:=[fi 0,fi 0,fi 0,fi 0,.az,fi 0,.az]) an7 aod (by decide) rfl (b:=H1.length) [(.f (sl g0 (al l0)),al l0),(c1,al o)] q2 (by simp)
   (fun y s=>by
    simp only [avn,av6,or_false]at s;rcases s with rfl | rfl
    ·exact⟨aX _,fun H' _=>⟨by simp,mS (aX _)⟩⟩
    ·refine⟨aX _,fun H' t8=>?_⟩;have:LR H' c1 7 (al o):=u_.cO fun i y s _=>by rw [t8 i (ak s)];exact s
     exact⟨this.len,LR.added this (aX _)⟩)
   (by simp;omega) (nA (by simp;omega) (by decide))
  have a_:Ev tab (.fn 40) [.c (.sl H1.length 0 2 2 0 1)] H2 (.c c3) H3:=a_;have a_:=a_.eq;have z9:al (l0++o)=al l0++al o:=by simp [al]
  have f8:LR H3 c3 7 (al (l0++o)):=by rw [z9];simpa using f8
  have n_:Kp d H3:=⟨avv i9.1 y6,fun b' l=>(x_ b' (avJ l i9.1)).trans (i9.2 b' l)⟩
  obtain⟨r4,H4,h_,rfl,t9,o',j_,y8,z8⟩:=GB f8 (by simp;omega);have h_:=h_.eq;have y7:o'=kM l0 h:=by
   unfold kM;rw [←ho];exact yX (by rw [ho];exact nO h0 h) y8 z8
  subst y7;have s9:∀(i:Nat) cs fl,d[i]?=aa (.box cs fl)→H4[i]?=aa (.box cs fl):=fun i cs fl s=>by
   have h3:H3[i]?=aa (.box cs fl):=by rw [n_.2 i (ak s)];exact s
   exact t9.2 i _ h3 (f8.pP h3)
  obtain⟨g,w_⟩:=j_.ex (aX _) 63;have E:=E g;obtain⟨H5,j7⟩:=aJ (gF 64 c3 H4:aj);have up5:∀(i:Nat) cs fl,d[i]?=aa (.box cs fl)→H5[i]?=aa (.box cs fl):=fun i cs fl s=>by rw [j7];exact LR.mkB j_ (aX _) 63 (s9 i cs fl s)
  obtain⟨I,M,N,O,S,U,W,X,rfl⟩:∃ I M N O S U W X,rf=[I,M,N,O,S,U,W,X]:=by
   match rf,y_ with
   | [I,M,N,O,S,U,W,X],_=>exact⟨_,_,_,_,_,_,_,_,rfl⟩
  obtain⟨H6,c_⟩:=aJ (H5++[.box (Re [I,M,N,O,S,U,W,X]) 0]:aj);have q:∀(i:Nat) cs fl,d[i]?=aa (.box cs fl)→H6[i]?=aa (.box cs fl):=fun i cs fl s=>by
   have:=up5 i cs fl s;rw [c_,AT (ak this)];exact this
  obtain⟨p6,q_⟩:=aJ (H5.length);have r6:H6[p6]?=aa (.box (Re [I,M,N,O,S,U,W,X]) 0):=by rw [c_,q_];simp
  apply ai;simp [a0 d z0,g_,-aw];rw [←b_];simp [a_];apply ai;simp [h_];apply ai;simp only [Re,avl,avs]at E c_ r6;simp [x3 H4 (s9 1 _ _ z1),iU,cD,deep,w_,E,-aw];rw [←j7]
  try simp
  rw [←c_,←q_];apply an;apply an;refine aq (.inl rfl) ?_;simp;by_cases hc:B=0
  case neg=>
   refine au (by simp [hc]) (ai ?_);simp [s2 H6 (q 2 _ _ z2),s3 H6 (q 3 _ _ K),-bh];exact f_ B (.inr (.inl ⟨he,hc,rfl,rfl,rfl⟩)) _ _ _ (q 2 _ _ z2) (q 3 _ _ K) (by simp) (by simp) (by simp)
  subst hc;refine bo (by simp) ?_;obtain⟨r7,H7,i4,c7,rfl,o_,k_,v8⟩:=xW h (by omega) n8 H6;have i4:=i4.eq;have up7:∀(i:Nat) cs fl,H6[i]?=aa (.box cs fl)→H7[i]?=aa (.box cs fl):=fun i cs fl s=>by rw [o_.2 i (ak s)];exact s
  obtain⟨p8,r_⟩:=aJ (H7.length);obtain⟨L,d9⟩:=aJ (H7++[.box [.f (fi h.clock),.f (fi h.bO),c7] 0]:aj);have A:∀(i:Nat) cs fl,H6[i]?=aa (.box cs fl)→L[i]?=aa (.box cs fl):=fun i cs fl s=>by
   have:=up7 i cs fl s;rw [d9,AT (ak this)];exact this
  have r8:L[p8]?=aa (.box [.f (fi h.clock),.f (fi h.bO),c7] 0):=by rw [d9,r_];simp
  have l_:LR L c7 10 (aQ h.l):=by rw [d9];exact k_.push _
  have l67:=o_.1;have m9:∀ i,bG c7=aa i→4≤i∧i≠p6∧i≠p8:=fun i e=>by
   have h1:=v8 i e;have h2:=k_.lt e;have h3:=ak (q 3 _ _ K);have h4:=ak r6;omega
  apply ai;simp [a0 H6 (q 0 _ _ z0),i4,-aw];rw [←d9,←r_];have j4:∀(t:T) (H:aj) (l:List bC) (c:C),t.g 8=.c (.ptr 2 0 0)→t.g 9=.c (.ptr 3 0 0)→t.g 14=.c (.ptr p6 0 0)→t.g 16=.c (.ptr p8 0 0)→H[2]?=aa (.box [.f (fi 0),.f (fi 0),.f .az] 0)→H[3]?=aa (.box mH 0)→H[p6]?=aa (.box [.f (fi I),.f (fi M),.f (fi N),.f (fi O),.f (fi S),.f (fi U),.f (fi W),.f (fi X)] 0)→H[p8]?=aa (.box [.f (fi h.clock),.f (fi h.bO),c] 0)→LR H c 10 (aQ l)→(∀ i,bG c=aa i→i≠2∧i≠3) →
    (∀ g,uB h x [I,M,N,O,S,U,W,X] 0 ⟨h.clock,h.bO,g,l⟩ [I,M,N,O,S,U,W,X] 0)→WP tab 16 ab [.code AN] ⟨t,[],H⟩ Q:=by
   intro t H l c g8 g9 j5 j6 w2 w3 w6 w8 hL v_ hG;obtain⟨g,hg⟩:=hL.exU (bF _);have l3:aR H (aa 3) (.c (.ptr p8 0 0))=aa (.a [.f (fi h.clock),.f (fi h.bO),c]):=by simp [aR,aE,w8,aV]
   have l8:aR H (aa 8) (.c (.ptr p6 0 0))=aa (.a [.f (fi I),.f (fi M),.f (fi N),.f (fi O),.f (fi S),.f (fi U),.f (fi W),.f (fi X)]):=by simp [aR,aE,w6,aV]
   obtain⟨Ha,a8⟩:=aJ (H.set 2 (.box [.f (fi h.clock),.f (fi h.bO),c] 0));have t1:cX H (.ptr 2 0 0) [.f (fi h.clock),.f (fi h.bO),c]=aa Ha:=by rw [a8];simp [cX,w2,over]
   have s_:Ha[3]?=aa (.box mH 0):=by rw [a8,AI (by omega)];exact w3
   obtain⟨Hb,e_⟩:=aJ (Ha.set 3 (.box [.f (fi I),.f (fi M),.f (fi N),.f (fi O),.f (fi S),.f (fi U),.f (fi W),.f (fi X)] 0));have t2:cX Ha (.ptr 3 0 0) [.f (fi I),.f (fi M),.f (fi N),.f (fi O),.f (fi S),.f (fi U),.f (fi W),.f (fi X)]=aa Hb:=by rw [e_];simp [cX,s_,over,mH]
   have y2:Hb[2]?=aa (.box [.f (fi h.clock),.f (fi h.bO),c] 0):=by rw [e_,AI (by omega),a8];exact IN (ak w2)
   have y3:Hb[3]?=aa (.box [.f (fi I),.f (fi M),.f (fi N),.f (fi O),.f (fi S),.f (fi U),.f (fi W),.f (fi X)] 0):=by rw [e_];exact IN (ak s_)
   have x6:=hg Hb 63 (fun i y s hi=>by
    have:=v_ i hi;rw [e_,AI (by omega),a8,AI (by omega)];exact s)
   have m3:aR Hb (aa 3) (.c (.ptr 2 0 0))=aa (.a [.f (fi h.clock),.f (fi h.bO),c]):=by simp [aR,aE,y2,aV]
   have m8:aR Hb (aa 8) (.c (.ptr 3 0 0))=aa (.a [.f (fi I),.f (fi M),.f (fi N),.f (fi O),.f (fi S),.f (fi U),.f (fi W),.f (fi X)]):=by simp [aR,aE,y3,aV]
   have au5:c.beq c=ae:=by
    rcases hL with⟨_,rfl | rfl⟩ | ⟨_,b,ep,rfl,_⟩<;>simp [C.beq,FC.beq]
   have l8':aR Ha (aa 8) (.c (.ptr p6 0 0))=aa (.a [.f (fi I),.f (fi M),.f (fi N),.f (fi O),.f (fi S),.f (fi U),.f (fi W),.f (fi X)]):=by
    have:Ha[p6]?=H[p6]?:=by rw [a8,AI (by have:=ak (q 3 _ _ K);intro e;rw [←e]at w6;rw [w2]at w6;simp at w6)]
    simp [aR,aE,this,w6,aV]
   refine an (gn (.inl rfl) ?_ ?_)
   case _=>
    simp [g8,g9,j5,j6,l3,l8,t1,t2,-aw,-bh];refine aC (hQ _ _ (.t [.a ((⟨h.clock,h.bO,g,l⟩:dm).row.map .f),.a (Re [I,M,N,O,S,U,W,X]),vi 0]) ⟨_,_,_,hG g,rfl⟩ ?_);simp [Km.results,bj,g8,g9,m3,m8,iU,cD,deep,dm.row,x6,Re,-aw]
   ·intro cc w9;rw [avh.1 w9];refine⟨by decide,_,rfl,.inl ⟨by decide,?_⟩⟩;simp [g8,j5,j6,l3,l8,l8',t1,ib,V.beq,jJ,C.beq,FC.beq,-aw,-bh]
  have ld0:aR L ab (.c (.ptr p6 0 0))=aa (vi I):=by simp [aR,aE,A _ _ _ r6]
  apply an;apply ai;simp [ld0,-aw];by_cases J:I=0
  case neg=>
   refine bo (by simp [J]) ?_;exact j4 _ L h.l c7 (by simp) (by simp) (by simp) (by simp) (A 2 _ _ (q 2 _ _ z2)) (A 3 _ _ (q 3 _ _ K)) (A _ _ _ r6) r8 l_ (fun i e=>by have:=m9 i e;omega) fun g=>.inr (.inr ⟨he,rfl,rfl,rfl,g,.inl ⟨by simp [J],rfl⟩⟩)
  refine au (by simp [J]) ?_;have e1:=A 1 _ _ (q 1 _ _ z1);have sx:cX L (.ptr 1 3 0) (x.aU.row.map .f)=aa L:=by
   simp [e1,av.row,bC.row,over];exact wc e1
  unfold Fix at hx;have hxr:(x.aU.row.map C.f).length=7:=rfl;apply ai;simp [x3 L e1,hx,hxr,sx,-aw,-bh];obtain⟨p9,s7⟩:=aJ (L.length);obtain⟨H9,d_⟩:=aJ (L++[.box (x.row.map .f) 0]:aj);have r9:H9[p9]?=aa (.box (x.row.map .f) 0):=by rw [d_,s7];simp
  have b9:∀(i:Nat) cs fl,L[i]?=aa (.box cs fl)→H9[i]?=aa (.box cs fl):=fun i cs fl s=>by
   rw [d_,AT (ak s)];exact s
  have m4:LR H9 c7 10 (aQ h.l):=by rw [d_];exact l_.push _
  obtain⟨c9,K9,i5,j9,t_,v9⟩:=QE m4 (bF _) (by simp;omega) (i:=i) (by simpa using hi) (row:=x.row) rfl r9;have i5:=i5.eq;have ld2:aR L ab (.c (.ptr p8 2 0))=aa (.c c7):=by simp [aR,aE,r8]
  have k9:∀(j:Nat) cs fl,L[j]?=aa (.box cs fl)→K9[j]?=aa (.box cs fl):=fun j cs fl s=>t_.2 j _ (b9 j _ _ s) (m4.pP (b9 j _ _ s));obtain⟨Kc,f7⟩:=aJ (K9.set p8 (.box [.f (fi h.clock),.f (fi h.bO),c9] 0));have st9:cX K9 (.ptr p8 2 0) [c9]=aa Kc:=by rw [f7];simp [cX,k9 _ _ _ r8,over]
  have l48:p8<H9.length:=by have:=ak (b9 _ _ _ r8);exact this
  have m_:∀ j,bG c9=aa j→4≤j∧j≠p6∧j≠p8:=fun j e=>by
   rcases v9 with e1 | e1
   ·exact m9 j (by rw [←e1];exact e)
   ·rw [e1]at e;cases e;have h3:=ak (b9 _ _ _ (A 3 _ _ (q 3 _ _ K)));have h4:=ak (b9 _ _ _ (A _ _ _ r6));omega
  have i_:aQ (h.l.take i++x::h.l.drop i)=(aQ h.l).take i++x.row ::(aQ h.l).drop i:=by simp [aQ,List.map_take,aw9]
  have v6:LR Kc c9 10 (aQ (h.l.take i++x::h.l.drop i)):=by
   rw [f7,i_];exact j9.set (fun e=>by have:=m_ _ e;omega) _
  have kc:∀(j:Nat) cs fl,L[j]?=aa (.box cs fl)→j≠p8→Kc[j]?=aa (.box cs fl):=fun j cs fl s hj=>by rw [f7,AI (Ne.symm hj)];exact k9 j _ _ s
  have lp6:=ak r6;have lp3:=ak (q 3 _ _ K);refine aq (.inl rfl) ?_;simp [ld2,x4 L e1,z_,-aw];rw [←d_,←s7];simp [i5,st9,-bh];exact j4 _ Kc _ c9 (by simp) (by simp) (by simp) (by simp) (kc 2 _ _ (A 2 _ _ (q 2 _ _ z2)) (by omega)) (kc 3 _ _ (A 3 _ _ (q 3 _ _ K)) (by omega)) (kc _ _ _ (A _ _ _ r6) (by omega)) (by rw [f7];exact IN (ak (k9 _ _ _ r8))) v6 (fun j e=>by have:=m_ j e;omega) fun g=>.inr (.inr ⟨he,rfl,rfl,rfl,g,.inr ⟨by simp [J],i,hi,p_,n9,rfl⟩⟩)
 exact⟨res,Y,c,hG,hp.eq⟩
def mJ:List (List Int)→List Int
 | []=>jk| r::l=>if r.headD 0=0 then mJ l else r
def vY:List Nat:=[77,78,79,80]
theorem uH:∀ {b:List (List Int)},(∀ r ∈ b,r.length=8)→(mJ b).length=8
 | [],_=>rfl
 | r::l,h=>by
  unfold mJ;split
  ·exact uH fun y d=>h y (aul _ d)
  ·exact h r atI
theorem acn(af q:Int)(g:Tg)(ss:List av)(J:ss.length≤1000)(L:ss.Pairwise gC)(K:∀ s ∈ ss,s.st.Sm)(x:av)(M:x.st.Sm)(m:(e9 af q ss x&&!gv ss x)=ag) :
  bg tab 44 [.c (.f (eO af q)),.c (.f (sl g (al ss))),.a (x.row.map .f)]=Eq (.t [jx jk,vi 1]):=bg.eq (by
 refine bI rfl rfl fun Q I=>?_;have l:=zB af q g ss J L K x M;have v:x.row.length=7:=rfl;obtain⟨S,z⟩:=aJ (sl g (al ss));obtain⟨O,y⟩:=aJ (eO af q);rw [←z,←y]at l ⊢;apply ai;simp [v];obtain⟨j,d⟩:=aJ ([bw.box (x.row.map .f) 0,.box [.f (fi 0),.f (fi 0),.f (fi 0),.f (fi 0),.f (fi 0),.f (fi 0),.f (fi 0),.f (fi 0)] 0]:aj);have F:j[0]?=aa (.box (x.row.map .f) 0):=by rw [d];rfl
 have A:j[1]?=aa (.box [.f (fi 0),.f (fi 0),.f (fi 0),.f (fi 0),.f (fi 0),.f (fi 0),.f (fi 0),.f (fi 0)] 0):=by rw [d];rfl
 have E:aR j (aa 7) (.c (.ptr 0 0 0))=aa (.a (x.row.map .f)):=by simp [aR,aE,F,aV,av.row]
 have N:cX j (.ptr 1 0 0) [.f (fi 0),.f (fi 0),.f (fi 0),.f (fi 0),.f (fi 0),.f (fi 0),.f (fi 0),.f (fi 0)]=aa (j.set 1 (.box [.f (fi 0),.f (fi 0),.f (fi 0),.f (fi 0),.f (fi 0),.f (fi 0),.f (fi 0),.f (fi 0)] 0)):=by simp [cX,A,over]
 rw [←d];have b:∀ t:T,t.g 6=.c (.ptr 1 0 0)→t.g 9=vb ag→WP tab 44 ab [.code uo] ⟨t,[],j⟩ Q:=by
  intro t B H;apply an;apply ai;simp [H];refine au (by simp) ?_;apply ai;simp [B,N,-bh];refine aC (I _ _ ?_);simp [Km.results,bj,B,ak A,aV,jx,jk]
 apply ai;cases u:e9 af q ss x with
 | false=>
  rw [u]at l;simp [E,l,-aw];exact b _ (by simp) (by simp)
 | true=>
  rw [u,Bool.true_and,Bool.not_eq_false']at m;rw [u,m]at l;simp [E,l,-aw];exact b _ (by simp) (by simp))
theorem aco(af L:Int)(g:Tg)(ss:List av)(hl:ss.length≤1000)(hs:ss.Pairwise gC)(hm:∀ s ∈ ss,s.st.Sm)(x:av)(hx:x.st.Sm)(H:(e9 af L ss x&&!gv ss x)=ae)
  (v:List (List Int)) (g_:v.length=4) (h8:∀ r ∈ v,r.length=8)
  (hr:∀(i:Nat) (h:i<4) (K:aj),∃ z,Ev tab (.fn (vY[i]'h)) [.c (.f (cY (eO af L) (sl g (al ss)) x))] K (.t [jx (v[i]'(by omega)),vi 0]) z∧Kp K z) :
  bg tab 44 [.c (.f (eO af L)),.c (.f (sl g (al ss))),.a (x.row.map .f)]=Eq (.t [jx (mJ v),vi 0]):=by
 obtain⟨r,rfl,hp⟩:∃ r,r=.t [jx (mJ v),vi 0]∧bg tab 44 [.c (.f (eO af L)),.c (.f (sl g (al ss))),.a (x.row.map .f)] r:=by
  refine dY (S:=fun r=>r=.t [jx (mJ v),vi 0]) anX rfl fun Q hQ=>?_;have Y:=zB af L g ss hl hs hm x hx;rw [Bool.and_eq_true,av8]at H;rw [H.1,H.2]at Y;have f_:x.row.length=7:=rfl;obtain⟨res,u⟩:=aJ (mJ v);have f8:res.length=8:=by rw [u];exact uH h8
  rw [←u]at hQ;simp only [cY]at Y hr;obtain⟨sd,b_⟩:=aJ (sl g (al ss));obtain⟨rm,b9⟩:=aJ (eO af L);rw [←b_,←b9]at Y ⊢;rw [←b_,←b9]at hr;obtain⟨cd,d_⟩:=aJ ([rm,sd]++x.row);rw [←d_]at Y hr;apply ai;simp [f_];obtain⟨A,y⟩:=aJ ([bw.box (x.row.map .f) 0,.box [.f (fi 0),.f (fi 0),.f (fi 0),.f (fi 0),.f (fi 0),.f (fi 0),.f (fi 0),.f (fi 0)] 0]:aj);have c0:A[0]?=aa (.box (x.row.map .f) 0):=by rw [y];rfl
  have c1:A[1]?=aa (.box [.f (fi 0),.f (fi 0),.f (fi 0),.f (fi 0),.f (fi 0),.f (fi 0),.f (fi 0),.f (fi 0)] 0):=by rw [y];rfl
  have n0:A.length=2:=by rw [y];rfl
  have l7:aR A (aa 7) (.c (.ptr 0 0 0))=aa (.a (x.row.map .f)):=by simp [aR,aE,c0,aV,av.row]
  rw [←y];have N:∀(t:T) (K:aj) (j:Option aG),t.g 6=.c (.ptr 1 0 0)→t.g 7=vi 0→K[1]?=aa (.box (res.map fun n=>.f (fi n)) 0)→Q j ⟨t,[],K⟩:=by
   intro t K j d g7 J;refine hQ _ _ _ rfl ?_;refine⟨rfl,.t [jx res,vi 0],?_,?_⟩
   ·simp [Km.results,cA,bj,d,g7,aR,aE,J,aV,f8,avj,jx]
   ·have hx:(res.map fun n=>C.f (fi n))=(res.map fun n=>fi n).map C.f:=by simp
    simp only [jx,hx];generalize (res.map fun n=>fi n)=ys;simp [iU,cD,bj,deep]
  have go:∀ t:T,t.g 6=.c (.ptr 1 0 0)→t.g 8=.c (.f (.fp cd 0))→t.g 9=vb ae→WP tab 44 ab [.code uo] ⟨t,[],A⟩ Q:=by
   intro t d g8 g9;apply an;apply ai;simp [g9];refine bo (by simp) ?_;apply an;apply ai;obtain⟨I,q⟩:=aJ (A++[bw.box (vY.map fun f=>C.bm f [.f (.fp cd 0)]) 0]:aj);have k1:Kp A I:=by rw [q];exact Kp.push _ _
   have b1:I[2]?=aa (.box (vY.map fun f=>C.bm f [.f (.fp cd 0)]) 0):=by rw [q,←n0];simp
   have n1:I.length=3:=by rw [q];simp [n0]
   simp only [vY,avl,avs]at q;have a_:bu I (.sl 2 0 4 4 0 1)=aa 4:=by simp [bu,b1]
   simp [g8,n0];rw [←q];simp [a_];refine bS 4 (fun j t K=>t.g 6=.c (.ptr 1 0 0)∧t.g 32=.c (.sl 2 0 4 4 0 1)∧Kp I K∧mJ (v.drop j)=res) (by omega) (by decide) (by decide) (by simp) (by simp) ⟨by simp [d],by simp,⟨aft _,fun _ _=>rfl⟩,by simpa using u.symm⟩ ?_ ?_
   ·rintro j t K hj ⟨d,b,hK,F⟩ X J next
    have Z:j<v.length:=by omega
    obtain⟨z,f7,d9⟩:=hr j hj K;have M:=hK.get b1;have m:=h8 _ (anc Z);rw [auR Z,mJ]at F;have i1:bH K 1 ab (.c (.sl 2 0 4 4 0 1)) (vi (j:Int))=aa (.c (.ptr 2 j 0)):=by
     simp [bH,show ir (vi (j:Int))=aa (j:Int) from rfl,M];omega
    have i2:aR K ab (.c (.ptr 2 j 0))=aa (.c (.bm (vY[j]'hj) [.f (.fp cd 0)])):=by
     rw [aw,M];exact wC (by rw [avR,By (show j<vY.length from hj)];rfl)
    generalize v[j]=r at *;generalize vY[j]=f at *;refine aF ?_;apply ai;simp [b,X,i1,i2,-aw];obtain⟨B,E⟩:=aJ (z++[bw.box (r.map fun n=>.f (fi n)) 0]);have d2:B[z.length]?=aa (.box (r.map fun n=>.f (fi n)) 0):=by rw [E];simp
    have a8:Kp I B:=(hK.tr d9).tr (by rw [E];exact Kp.push _ _);have l0:aR B ab (.c (.ptr z.length 0 0))=aa (vi (r.headD 0)):=by
     match r,m with
     | p0::_,_=>simp [aR,aE,d2]
    have l8:aR B (aa 8) (.c (.ptr z.length 0 0))=aa (.a (r.map fun n=>.f (fi n))):=by
     simp [aR,aE,d2,aV,m,avj]
    apply an;refine aq (.inl rfl) ?_;simp [f7.eq,jx,m,-aw];rw [←E]
    suffices c_:∀ w:T,w.g 6=.c (.ptr 1 0 0)→w.g 12=.c (.ptr z.length 0 0)→w.g 13=vi 0→w.g 32=.c (.sl 2 0 4 4 0 1)→w.g 33=vi (4:Nat)→w.g 34=vi (j:Nat)→WP tab 44 ab [.code xu,.inBlock 1,.code (tI 34 52),.inLoop (ja 0 34 33 35 52 xq),.inBlock 0,.code xv] ⟨w,[],B⟩ Q by
     exact c_ _ (by simp [d]) (by simp) (by simp) (by simp [b]) (by simpa using J) (by simp [X])
    clear d b X J;intro w d O U b J X;apply an;refine aq (.inl rfl) ?_;simp [O,U,l0,-aw];by_cases h0:r.headD 0=0
    ·rw [bf h0]at F;refine aB (by simpa using h0) (aP ?_);exact aA (next _ _ ⟨by simp [d],by simp [b],a8,F⟩ (by simp [X]) (by simp [J]))
    ·rw [aY h0]at F;refine au (by simpa using h0) ?_;have l:=a8.get (k1.get c1);obtain⟨K3,W⟩:=aJ (B.set 1 (.box (r.map fun n=>.f (fi n)) 0));have s1:cX B (.ptr 1 0 0) (r.map fun n=>.f (fi n))=aa K3:=by
      rw [W]
      match r,m with
      | [p0,p1,p2,p3,p4,p5,p6,p7],_=>simp [cX,l,over]
     apply ai;simp [d,O,U,l8,m,s1,-aw,-bh];refine aC (N _ _ _ (by simp [d]) (by simp) ?_);rw [W,IN (ak l),F]
   ·rintro t K ⟨d,b,hK,F⟩ - -;have e_:res=jk:=by
     rw [←F,List.drop_of_length_le (by omega)];rfl
    have l:=hK.get (k1.get c1);have s1:cX K (.ptr 1 0 0) [.f (fi 0),.f (fi 0),.f (fi 0),.f (fi 0),.f (fi 0),.f (fi 0),.f (fi 0),.f (fi 0)]=aa (K.set 1 (.box [.f (fi 0),.f (fi 0),.f (fi 0),.f (fi 0),.f (fi 0),.f (fi 0),.f (fi 0),.f (fi 0)] 0)):=by simp [cX,l,over]
    apply ai;simp [d,s1,-bh];refine aC (N _ _ _ (by simp [d]) (by simp) ?_);rw [IN (ak l),e_];rfl
  apply ai;simp [l7,Y,-aw];exact go _ (by simp) (by simp) (by simp)
 exact hp.eq
def iY(s:aK)(d:Int):Bool:=s.cs.any fun c=>c.ts.any fun t=>t.fs.all fun f=>decide (d % f.eV=f.jY.headD 0)
def tJ(s:aK):Int:=match s.cs with
 | c::_=>c.min| []=>0
theorem gY.has{s:aK}{n p mi:Int}(h:gY s n p mi)(d:Int):iY s d=pL n p d:=by
 simp [iY,h.cs,td,pd,pL];exact decide_eq_decide.2 Iff.rfl
theorem gY.min{s:aK}{n p mi:Int}(h:gY s n p mi):tJ s=mi:=by simp [tJ,h.cs]
def wkJ(s:aK)(q:Int):List Nat:=(List.range 7).filter fun j=>iY s (7*q+(j:Int))
def wkL(s:aK)(q:Int):List aI:=(wkJ s q).map fun j:Nat=>cM s.len (tJ s) (7*q+(j:Int))
def gU(s:aK)(q:Int):List aI:=if q<0 then []else wkL s q
def mh(s:aK)(q:Int):Int:=if q<0 then 0 else s.len*((wkJ s q).length:Int)
theorem ae_(s:aK)(q:Int):(wkL s q).Pairwise aI.lt:=by
 unfold wkL wkJ;refine List.pairwise_map.2 (List.Pairwise.imp (fun {a b} h=>?_) (List.pairwise_lt_range.filter _));unfold aI.lt cM;simp only;omega
theorem alP{s:aK}{n p mi:Int}(h:gY s n p mi){q:Int}(z:0≤q)(x:aI):x ∈ wkL s q↔Dd s n p mi q x:=by
 have h0:=h.m0;have u:=h.m1;have l:Qu q mi=7*q:=by unfold Qu;omega
 unfold wkL wkJ Dd;rw [h.min,l];constructor
 ·intro m;obtain⟨j,g,rfl⟩:=avx.1 m;obtain⟨g,b⟩:=avW.1 g;have:=av4.1 g;rw [h.has]at b;exact⟨7*q+j,rfl,by omega,by omega,b⟩
 ·rintro⟨d,rfl,v,y,b⟩;refine avx.2 ⟨(d-7*q).toNat,avW.2 ⟨av4.2 (by omega),?_⟩,?_⟩
  ·rw [h.has,show 7*q+(((d-7*q).toNat:Nat):Int)=d by omega];exact b
  ·rw [show 7*q+(((d-7*q).toNat:Nat):Int)=d by omega]
theorem adD:∀ {l m:List aI},l.Pairwise aI.lt→m.Pairwise aI.lt→(∀ x,x ∈ l↔x ∈ m)→l=m
 | [],[],_,_,_=>rfl| [],y::m,_,_,h=>absurd ((h y).2 atI) (by simp)
 | x::l,[],_,_,h=>absurd ((h x).1 atI) (by simp)
 | x::l,y::m,j,q,h=>by
  have a1:=avZ.1 j;have d:=avZ.1 q;have e:x=y:=by
   rcases avn.1 ((h x).1 atI)with e | e
   ·exact e
   ·rcases avn.1 ((h y).2 atI)with g | g
    ·exact g.symm
    ·exact absurd (aI.lt_trans (d.1 x e) (a1.1 y g)) aI.D7
  subst e;have:l=m:=adD a1.2 d.2 fun z=>by
   constructor
   ·intro b;rcases avn.1 ((h z).1 (aul _ b))with e | e
    ·exact absurd (e▸a1.1 z b) aI.D7
    ·exact e
   ·intro b;rcases avn.1 ((h z).2 (aul _ b))with e | e
    ·exact absurd (e▸d.1 z b) aI.D7
    ·exact e
  rw [this]
theorem nQ(s:aK){n p mi:Int}(b:gY s n p mi)(q:Int)(j:-1≤q)(l:q≤100):∃ g,bg tab 128 [.a (s.row.map .f),vi q]=Eq (.c (.f (sl g (aH (gU s q))))):=by
 obtain⟨g,L,⟨m,u⟩,-,v⟩:=PR s b q j l;refine⟨g,?_⟩;have e:L=gU s q:=by
  unfold gU;split
  ·refine List.eq_nil_iff_forall_not_mem.2 fun x A=>?_;obtain⟨d,-,y,z,-⟩:=(u x).1 A;have h0:=b.m0;have m:=b.m1;unfold Qu at y z;omega
  ·exact adD m (ae_ s q) fun x=>by rw [u,alP b (by omega)]
 rw [←e];exact v
theorem CY(len mi q:Int):∀ L:List Nat,eu (L.map fun j:Nat=>cM len mi (7*q+(j:Int)))=len*(L.length:Int)
 | []=>by simp [eu]
 | j::r=>by
  have b:=CY len mi q r;rw [avl,eu,b,avB,show((r.length+1:Nat):Int)=(r.length:Int)+1 by omega,Int.mul_add];simp only [cM];omega
theorem wA(s:aK)(q:Int):eu (gU s q)=mh s q:=by
 unfold gU mh;split
 ·rfl
 ·exact CY ..
theorem GN(s:aK)(q:Int):(wkJ s q).length≤7:=by
 have:=av5 (fun j:Nat=>iY s (7*q+(j:Int))) (List.range 7);rw [List.length_range]at this;exact this
theorem lB(s:aK)(q:Int):(gU s q).length≤7:=by
 unfold gU;split
 ·simp
 ·unfold wkL;rw [avi];exact GN s q
theorem rb{s:aK}{q:Int}{x:aI}(h:x ∈ gU s q):∃ j:Nat,j<7∧0≤q∧iY s (7*q+j)=ae∧x=cM s.len (tJ s) (7*q+j):=by
 unfold gU at h;split at h
 ·simp at h
 ·obtain⟨j,g,rfl⟩:=avx.1 h;obtain⟨b,d⟩:=avW.1 g;exact⟨j,av4.1 b,by omega,d,rfl⟩
theorem apA{s:aK}{n p mi:Int}(h:gY s n p mi){q:Int}(l:0≤q):gU s q≠[]:=by
 obtain⟨u,v,g,j⟩:=h.sm;have d:=avO (p-7*q) (show n≠0 by omega);have m:=avG (p-7*q) (show 0<n by omega);have b:((p-7*q) % n).toNat ∈ wkJ s q:=by
  refine avW.2 ⟨av4.2 (by omega),?_⟩;rw [h.has,awR d];unfold pL;rw [decide_eq_true_eq,Int.add_emod,Int.emod_emod,←Int.add_emod,show 7*q+(p-7*q)=p by omega];exact Int.emod_eq_of_lt g j
 unfold gU;rw [aY (by omega)];unfold wkL;intro e;rw [List.map_eq_nil_iff]at e;rw [e]at b;simp at b
theorem adZ{s:aK}{n p mi:Int}(h:gY s n p mi)(q:Int):0≤mh s q∧mh s q≤2800:=by
 have l0:=h.l0;have g:=h.l1;have j:=GN s q;unfold mh;split
 ·omega
 ·constructor
  ·exact Int.mul_nonneg (by omega) (by omega)
  ·have:=Int.mul_le_mul (a:=s.len) (b:=((wkJ s q).length:Int)) (c:=400) (d:=7) g (by omega) (by omega) (by omega);omega
theorem Cf{s:aK}{n p mi:Int}(h:gY s n p mi){d:Nat}(l:n ∣ (d:Int)){q:Int}(u:0≤q):mh s (q % d)=mh s q:=by
 have m:∀ j:Nat,iY s (7*(q % d)+(j:Int))=iY s (7*q+(j:Int)):=fun j=>by
  rw [h.has,h.has];unfold pL;obtain⟨c,g⟩:=l;have e:7*q+(j:Int)=7*(q % d)+j+n*(c*(7*(q / d))):=by
   have:=Int.mul_ediv_add_emod q d;rw [←Int.mul_assoc,←g,Int.mul_left_comm];omega
  rw [e,Int.add_mul_emod_self_left]
 by_cases b:d=0
 ·subst b;simp
 have v:=avO q (show(d:Int)≠0 by omega);unfold mh wkJ;rw [aY (by omega),aY (by omega)];simp only [m]
def ee:List aK→Int→Int
 | [],_=>0| s::r,q=>mh s q+ee r q
def oB(T:List aK):Prop:=∀ s ∈ T,∃ n p mi,gY s n p mi
theorem oB.tl{s:aK}{r:List aK}(h:oB (s::r)):oB r:=fun x b=>h x (aul _ b)
theorem ua:∀ {T:List aK} (q:Int),oB T→0≤ee T q∧ee T q≤2800*(T.length:Int)
 | [],_,_=>by simp [ee]
 | s::r,q,h=>by
  obtain⟨n,p,mi,b⟩:=h s atI;have d:=adZ b q;have g:=ua q h.tl;simp only [ee,avB];omega
theorem zd(T:List aK)(q:Int):∀ {b:Int},oB T→T.length≤2000→0≤b→b≤1000000000→nH (fun s=>mh s q) b T=b+ee T q:=by
 induction T with
 | nil=>intro b _ _ _ _;simp [nH,ee]
 | cons s r j=>
  intro b h d h0 g;have key:∀(r:List aK) (b:Int),oB r→r.length≤2000→0≤b→b+2800*(r.length:Int)≤2000000000→nH (fun s=>mh s q) b r=b+ee r q:=by
   intro r;induction r with
   | nil=>intro b _ _ _ _;simp [nH,ee]
   | cons s r j=>
    intro b h d h0 g;obtain⟨n,p,mi,l⟩:=h s atI;have m:=adZ l q;simp only [avB]at d g;rw [nH,aW,j _ h.tl (by omega) (by omega) (by omega),ee];omega
  exact key (s::r) b h d h0 (by simp only [avB]at d ⊢;omega)
def PG(O:List aI):Prop:=∀ x ∈ O,0<x.to-x.fr∧x.to-x.fr≤10000
theorem ES:∀ {O:List aI},PG O→0≤eu O∧eu O≤10000*(O.length:Int)
 | [],_=>by simp [eu]
 | x::r,h=>by
  have d:=h x atI;have g:=ES (O:=r) fun y b=>h y (aul _ b);simp only [eu,avB];omega
theorem yN{b:Int}:∀ {O:List aI} {u:Int},0≤u→u+10000*(O.length:Int)≤2000000000→PG O→(iN b u O=ab↔O=[]∨u+eu O≤b)
 | [],u,_,_,_=>by simp [iN]
 | x::r,u,h0,j,d=>by
  have m:=d x atI;have g:PG r:=fun y l=>d y (aul _ l);have q:=ES g;simp only [avB]at j;rw [iN,aW (n:=x.to-x.fr),aW (n:=u+(x.to-x.fr))];simp only [eu,List.cons_ne_nil,false_or];split
  ·rename_i h;constructor
   ·intro h;cases h
   ·intro h;omega
  ·rename_i h;rw [yN (by omega) (by omega) g];constructor
   ·rintro(rfl | h)
    ·simp [eu];omega
    ·omega
   ·intro h;right;omega
theorem yO{d:Int}:∀ {O:List aI} {u:Int} {x:aI},0≤u→u+10000*(O.length:Int)≤2000000000→PG O→iN d u O=aa x→∃ a b,O=a++x::b∧d<u+eu (a++[x])
 | [],u,x,_,_,_,h=>by simp [iN]at h
 | y::r,u,x,h0,j,g,h=>by
  have s:=g y atI;have m:PG r:=fun z q=>g z (aul _ q);simp only [avB]at j;rw [iN,aW (n:=y.to-y.fr),aW (n:=u+(y.to-y.fr))]at h;split at h
  ·rename_i l;cases h;exact⟨[],r,rfl,by simp [eu];omega⟩
  ·obtain⟨a,b,rfl,l⟩:=yO (by omega) (by omega) m h;exact⟨y::a,b,rfl,by simp only [awc,eu];omega⟩
theorem Cr{b e:Int}{d:Int→List aI}{us:Int→Int}:∀(k:Nat) (n:Int),e≤7*(n+k)→(oz b e d us k n=ab↔∀ q,n≤q→7*q<e→iN b (us q) (d q)=ab)
 | 0,n,h=>by
  simp only [oz,true_iff];intro q m g;omega
 | k+1,n,h=>by
  rw [oz];split
  ·rename_i j;cases s:iN b (us n) (d n)with
   | some x=>
    simp only [reduceCtorEq,false_iff];intro l;have:=l n (by omega) j;rw [s]at this;cases this
   | none=>
    simp only;rw [Cr k (n+1) (by omega)];constructor
    ·intro l q m g;by_cases e:q=n
     ·subst e;exact s
     ·exact l q (by omega) g
    ·intro l q m g;exact l q (by omega) g
  ·rename_i j;simp only [true_iff];intro q m g;omega
theorem Cs{b e:Int}{d:Int→List aI}{us:Int→Int}{x:aI}:∀(k:Nat) (n:Int),oz b e d us k n=aa x→∃ q,n≤q∧7*q<e∧iN b (us q) (d q)=aa x
 | 0,n,h=>by simp [oz]at h
 | k+1,n,h=>by
  rw [oz]at h;split at h
  ·rename_i g;cases j:iN b (us n) (d n)with
   | some y=>rw [j]at h;cases h;exact⟨n,by omega,g,j⟩
   | none=>
    rw [j]at h;obtain⟨q,s,l,m⟩:=Cs k (n+1) h;exact⟨q,by omega,l,m⟩
  ·cases h
theorem Er{s:aK}{n p mi:Int}(h:gY s n p mi)(q:Int):PG (gU s q):=fun x b=>by
 obtain⟨j,-,-,-,rfl⟩:=rb b;have:=h.l0;have:=h.l1;simp only [cM];omega
theorem Q9{x:aK}{n p mi:Int}(u:gY x n p mi){T:List aK}(v:oB T)(L:T.length≤2000){d:Nat}(E:1≤d)(F:d≤60)(A:∀ s ∈ x::T,∀ n p mi,gY s n p mi→n ∣ (d:Int))(b:Int) :
  oz b (15+7*(d:Int)) (gU x) (ee T) 200 (-1)=ab↔∀ q,0≤q→ee T q+mh x q≤b:=by
 have m:∀ q:Int,0≤q→ee T (q % d)=ee T q:=fun q g=>by
  have:∀ U:List aK,(∀ s ∈ U,s ∈ T)→ee U (q % d)=ee U q:=by
   intro U;induction U with
   | nil=>intro _;rfl
   | cons s r I=>
    intro h;have B:=h s atI;obtain⟨N,O,K,j⟩:=v s B;rw [ee,ee,I fun y H=>h y (aul _ H),Cf j (A s (aul _ B) _ _ _ j) g]
  exact this T fun _ h=>h
 rw [Cr 200 (-1) (by omega)];have z:=fun q=>ua q v;have l:∀ q:Int,0≤q→(iN b (ee T q) (gU x q)=ab↔ee T q+mh x q≤b):=fun q g=>by
  have:=lB x q;rw [yN (z q).1 (by have:=(z q).2;omega) (Er u q),wA];exact⟨fun h=>h.resolve_left (apA u g),.inr⟩
 constructor
 ·intro h q g;have J:=avO q (show(d:Int)≠0 by omega);have M:=avG q (show 0<(d:Int) by omega);have j:=h (q % d) (by omega) (by omega);rw [l _ J,m q g,Cf u (A x atI _ _ _ u) g]at j;exact j
 ·intro h q j _;by_cases g:0≤q
  ·rw [l q g];exact h q g
  ·have:gU x q=[]:=by unfold gU;rw [bf (by omega)]
   rw [this];rfl
theorem Fs{ts:List dG}(h:wO ts)(d e:Int)(b:d % 60=e % 60):eF ts d↔eF ts e:=by
 obtain⟨n,p,⟨g,j,l,m⟩,rfl⟩:=h;rw [jl,jl];obtain rfl | rfl | rfl | rfl | rfl | rfl:n=1∨n=2∨n=3∨n=4∨n=5∨n=6:=by omega
 all_goals omega
theorem QQ{a b:aK}(g:kJ a)(j:kJ b)(h:jc a b):∃ x y,fM a x∧fM b y∧okB (-2251799813685248) x y:=by
 obtain⟨c,l,d,m,k,q,s,x,I,u,v⟩:=h;obtain⟨B,E⟩:=g.len;obtain⟨F,H⟩:=j.len;have z:=g.min l;have A:=j.min m;unfold vr at q;unfold vj at s;have J:-20≤k∧k≤20:=by omega
 refine⟨cM a.len c.min (x % 60+max 0 (-k)),cM b.len d.min (x % 60+max 0 k),⟨c,l,_,by omega,(Fs (g.few c l) _ _ (by omega)).1 u,rfl⟩,⟨d,m,_,by omega,(Fs (j.few d m) _ _ (by omega)).1 v,rfl⟩,?_⟩;unfold okB oD cM;simp only;omega
theorem BF{a b:aK}(m:kJ a)(q:kJ b){s:FS}(h:mI (-2251799813685248) (fun x y=>fM a x∧fM b y) s)(v:jc a b):s.found=ae∧fM a s.X∧fM b s.Y∧okB (-2251799813685248) s.X s.Y:=by
 rcases h with⟨-,-,-,d⟩ | ⟨j,g,l,-⟩
 ·obtain⟨x,y,z,A,u⟩:=QQ m q v;exact absurd u (d x y ⟨z,A⟩)
 ·exact⟨j,g.1,g.2,l⟩
end Go.Proofs.YtnaofdffomdmhaaGreat
