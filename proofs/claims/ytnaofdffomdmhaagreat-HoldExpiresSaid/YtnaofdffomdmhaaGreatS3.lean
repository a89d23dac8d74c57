/-
  ajE the mz jK and the lS answer, for all arguments of their kind, in the small machine: part 3.
-/
import Derived.Test.YtnaofdffomdmhaaGreatS2
import Derived.Test.YtnaofdffomdmhaaGreatK4
import Derived.Test.YtnaofdffomdmhaaGreatS1
import Derived.Test.YtnaofdffomdmhaaGreatK5
import Derived.KernelRfl
open Option renaming some → aa,none → ab
open Bool renaming true → ae,false → ag
open Go.IntKind renaming wrap → ah
open List renaming mem_cons_self → aqv, mem_cons_of_mem → aqt, mem_map → aqJ, mem_cons → aqA, not_mem_nil → ard, take_add_one → aqW, getElem?_eq_getElem → By, drop_eq_getElem_cons → apw, map_cons → aqz, getElem?_append_right → IS, getElem?_map → aq0, map_nil → aqK, mem_append → aqC, getElem_mem → anc, length_append → api, length_map → aqr, length_take → aqP, length_drop → aqy, take_length → aqS, drop_length → arG, append_nil → aq6, getElem?_set_self → IN, append_assoc → aqZ, filter_append → ash, take_of_length_le → ap1, getElem?_set_ne → AI, getElem?_append_left → AT, length_set → aqE, mem_singleton → aqs, cons_append → art, length_filter_le → arF, pairwise_iff_getElem → aq9, drop_of_length_le → arz, map_drop → asn, length_cons → aq7
open Option.some renaming inj → asg
open Int renaming toNat_natCast → aqI
open Nat renaming le_refl → aft, le_trans → aqF, lt_or_ge → aqY, lt_of_lt_of_le → aqR
open Bool renaming not_eq_true' → arf, and_eq_true → If
open Prod.mk renaming inj → aqN
set_option linter.unusedVariables false
set_option linter.constructorNameAsVariable false
set_option linter.unusedSimpArgs false
set_option linter.unusedSectionVars false
set_option linter.unnecessarySimpa false
set_option maxRecDepth 100000
namespace Go.Proofs.YtnaofdffomdmhaaGreat
open Go Km
theorem zr:∀ cs:List FC,(∀ c ∈ cs,∃ k m,c=FC.int k m)→gQ (FC.beq 63) cs cs=ae
 | [],_=>rfl
 | c::cs,h=>by
  obtain⟨k,m,rfl⟩:=h c aqv;simp only [gQ,zr cs fun x b=>h x (aqt _ b),Bool.and_true];simp [FC.beq]
theorem Mr(g:Tg)(xs:List aN):(V.c (C.f (sl g (aH xs)))).beq (V.c (C.f (sl g (aH xs))))=ae:=by
 show FC.beq 64 (sl g (aH xs)) (sl g (aH xs))=ae;cases xs with
 | nil=>cases g<;>rfl
 | cons x xs=>
  have:sl g (aH (x::xs))=.fs (aH (x::xs)).flatten (aH (x::xs)).length:=by simp [sl,aH]
  rw [this];show((_ == _)&&gQ (FC.beq 63) _ _)=ae;rw [zr]
  ·simp
  ·intro c b;obtain⟨r,d,b⟩:=List.mem_flatten.1 b;obtain⟨y,-,rfl⟩:=aqJ.1 d;simp only [aN.row,aqA,ard,or_false]at b;rcases b with rfl | rfl | rfl<;>exact⟨_,_,rfl⟩
theorem amZ(k:IntKind)(n:Int):(V.c (C.f (.int k n))).beq (V.c (C.f (.int k n)))=ae:=by simp [V.beq,C.beq,FC.beq]
def jA(B:Int)(c:cA):cA:={ c with min:=c.min-B }
def Cx(B A:Int)(x:aN):aN:=⟨x.day,x.fr-B,x.to+A⟩
theorem Mw(g:Tg)(l:List cA)(m:l.length≤64):∃ f:aj→C × aj,∀ H,Ev tab (.fn 83) [.c (.f (sl g (aL l)))] H=E2 (.c (f H).1) (H++(f H).2)∧LR (H++(f H).2) (f H).1 2 (aL l)∧∀ i,bB (f H).1=aa i→H.length≤i:=by
 have h:∀ H:aj,∃ p:C × aj,Ev tab (.fn 83) [.c (.f (sl g (aL l)))] H=E2 (.c p.1) (H++p.2)∧LR (H++p.2) p.1 2 (aL l)∧∀ i,bB p.1=aa i→H.length≤i:=fun H=>by
  obtain⟨r,H',j,c,J,rfl,rfl,b,d⟩:=sO (g:=g) (H:=H) (rows:=aL l) aji (by decide) (cP l) (by simp [bP];omega);exact⟨(c,J),j.eq,b,d⟩
 exact⟨fun H=>Classical.choose (h H),fun H=>Classical.choose_spec (h H)⟩
theorem Yy(g:Tg)(l:List aN)(m:l.length≤64):∃ f:aj→C × aj,∀ H,Ev tab (.fn 82) [.c (.f (sl g (aH l)))] H=E2 (.c (f H).1) (H++(f H).2)∧LR (H++(f H).2) (f H).1 3 (aH l)∧∀ i,bB (f H).1=aa i→H.length≤i:=by
 have h:∀ H:aj,∃ p:C × aj,Ev tab (.fn 82) [.c (.f (sl g (aH l)))] H=E2 (.c p.1) (H++p.2)∧LR (H++p.2) p.1 3 (aH l)∧∀ i,bB p.1=aa i→H.length≤i:=fun H=>by
  obtain⟨r,H',j,c,J,rfl,rfl,b,d⟩:=sO (g:=g) (H:=H) (rows:=aH l) ajk (by decide) (bw l) (by simp [bP];omega);exact⟨(c,J),j.eq,b,d⟩
 exact⟨fun H=>Classical.choose (h H),fun H=>Classical.choose_spec (h H)⟩
theorem aac{b s:Type}(row:b→s)(f:b→b)(l:List b)(j:Nat)(d:j<l.length):((l.take j).map (row ∘ f)++(l.drop j).map row).set j (row (f l[j]))=(l.take (j+1)).map (row ∘ f)++(l.drop (j+1)).map row:=by
 have g:l.take (j+1)=l.take j++[l[j]]:=by rw [aqW,By d];rfl
 have m:l.drop j=l[j]::l.drop (j+1):=apw d;have q:((l.take j).map (row ∘ f)).length=j:=by simp;omega
 rw [g,m,List.map_append,aqz,List.set_append_right _ _ (by omega),q,Nat.sub_self,List.set_cons_zero];simp
theorem YW{b m:Type}(row:b→m)(f:b→b)(l:List b)(j:Nat)(d:j<l.length):((l.take j).map (row ∘ f)++(l.drop j).map row)[j]?=aa (row l[j]):=by
 have g:((l.take j).map (row ∘ f)).length=j:=by simp;omega
 rw [IS (by omega),g,Nat.sub_self,apw d];rfl
structure Mi(s:aA):Prop where
 r0:0≤s.room
 r1:s.room≤2
 cn:s.st.cs.length≤1
 min:∀ c ∈ s.st.cs,0≤c.min∧c.min≤1180
 l0:1≤s.st.len
 l1:s.st.len≤300
 xs:s.st.xs=[]
def lM(af:Int)(s:aA)(b d:Tg):aR:=⟨b,s.st.cs.map (jA 0),s.st.len+0+af,d,[]⟩
theorem Al(af W:Int)(a0:0≤af)(a1:af≤39)(s:aA)(hs:Mi s)(A:∀ E F,bh tab 53 [.a ((lM af s E F).row.map .f)]=Eq (vb ae)) :
  ∃ E F,bh tab 137 [.c (.f (gl af W)),.a (s.row.map .f)]=Eq (.t [.a ((lM af s E F).row.map .f),vb ae]):=by
 obtain⟨r,⟨E,F,rfl⟩,hp⟩:∃ r,(∃ E F,r=.t [.a ((lM af s E F).row.map .f),vb ae])∧bh tab 137 [.c (.f (gl af W)),.a (s.row.map .f)] r:=by
  refine eI rfl rfl fun Q hQ=>?_;obtain⟨f3,h_,i8,b9,j9,j_,U⟩:=hs;have j8:s.st.xs.length=0:=by rw [U];rfl
  have hr:=lW af W f3 h_;have f7:=fun H:aj=>bF (H:=H) (g:=.fs) (rows:=rows (cJ af W)) (sz:=15) (k:=.i64) (i:=s.room) f3 (by simp [cJ];omega);have a_:=fun H:aj=>bR (H:=H) (fS (cJ af W)) (j:=s.room.toNat) (row:=(cf af W s.room).row) (by rw [rows,aq0,hr];rfl);have Z:(cf af W s.room).iT=0:=by unfold cf;split<;>(try split)<;>rfl
  have Y:(cf af W s.room).nU=af:=by unfold cf;split<;>(try split)<;>rfl
  simp only [ct.row,aqz,aqK]at a_;obtain⟨fc,d_⟩:=Mw s.st.cg s.st.cs (by omega);obtain⟨fx,e_⟩:=Yy s.st.xg s.st.xs (by rw [U];simp);have ec:=fun H=>(d_ H).1;have ex:=fun H=>(e_ H).1;generalize cf af W s.room=r at hr a_ Z Y;have i4:∀(t:T) (H:aj) (d m:C) (n:Nat),t.g 3=.c (.ptr 0 0 0)→t.g 4=.c (.ptr 1 0 0)→t.g 6=.c (.ptr 2 0 0)→t.g 7=.c (.ptr n 0 0)→2<n →
    H[1]?=aa (.box [.f .au,.f (fi 0),.f .au] 0)→H[2]?=aa (.box [.f (fi r.cap),.f (fi r.iT),.f (fi r.nU),.f r.o0,.f r.o1,.f r.o2,.f r.o3,.f r.o4,.f r.o5,.f r.o6,.f r.o7,.f r.o8,.f r.o9,.f (sl r.qg (fR r.q)),.f (sl r.pg (ints r.p))] 0) →
    H[n]?=aa (.box [d,.f (fi (s.st.len+r.iT+r.nU)),m] 0)→LR H d 2 (aL s.st.cs)→LR H m 3 (aH s.st.xs)→(∀ i,bB d=aa i→bB m≠aa i) →
    WP tab 137 ab [.code yF] ⟨t,[],H⟩ Q:=by
   intro t H d m n g3 X g6 O hn k1 k2 M u v hD;apply ak;apply ai;have L:=u.len;rw [uO]at L;simp [O,M,L];refine bM s.st.cs.length (fun j t H=>t.g 3=.c (.ptr 0 0 0)∧t.g 4=.c (.ptr 1 0 0)∧t.g 6=.c (.ptr 2 0 0)∧t.g 7=.c (.ptr n 0 0)∧H[1]?=aa (.box [.f .au,.f (fi 0),.f .au] 0)∧H[2]?=aa (.box [.f (fi r.cap),.f (fi r.iT),.f (fi r.nU),.f r.o0,.f r.o1,.f r.o2,.f r.o3,.f r.o4,.f r.o5,.f r.o6,.f r.o7,.f r.o8,.f r.o9,.f (sl r.qg (fR r.q)),.f (sl r.pg (ints r.p))] 0) ∧
     H[n]?=aa (.box [d,.f (fi (s.st.len+r.iT+r.nU)),m] 0)∧LR H d 2 ((s.st.cs.take j).map (cA.row ∘ jA r.iT)++(s.st.cs.drop j).map cA.row)∧LR H m 3 (aH s.st.xs)) (by omega) (by decide) (by decide) (by simp) (by simp)
    ⟨by simp [g3],by simp [X],by simp [g6],by simp [O],k1,k2,M,by simpa [aL]using u,v⟩ ?_ ?_
   ·rintro j t H hj ⟨g3,X,g6,O,k1,k2,M,u,v⟩ ha hb nx;have a8:cq 2 ((s.st.cs.take j).map (cA.row ∘ jA r.iT)++(s.st.cs.drop j).map cA.row):=by
     intro x hx;rcases aqC.1 hx with hx | hx<;>obtain⟨y,-,rfl⟩:=aqJ.1 hx<;>rfl
    have z:((s.st.cs.take j).map (cA.row ∘ jA r.iT)++(s.st.cs.drop j).map cA.row).length=s.st.cs.length:=by simp;omega
    have a7:=YW cA.row (jA r.iT) s.st.cs j hj;have f8:=aac cA.row (jA r.iT) s.st.cs j hj;have j7:=b9 _ (anc hj);rcases u with⟨e,_⟩ | ⟨l_,b,ep,I,l⟩
    ·have:=congrArg List.length e;rw [z,List.length_nil]at this;omega
    rw [z]at I;have hi:=l.at (i:=j) (by rw [z];exact hj);rw [z,←I]at hi;have hl:=l.ldc a8 a7 (k:=1) (x:=fi s.st.cs[j].min) rfl;obtain⟨H',e',d9,S,-⟩:=l.stp a8 a7 (k:=1) (xs:=[fi (s.st.cs[j].min-r.iT)]) (by simp);have j4:over s.st.cs[j].row 1 [fi (s.st.cs[j].min-r.iT)]=(jA r.iT s.st.cs[j]).row:=rfl;rw [j4,f8]at d9;have b1:(1:Nat)≠b:=by rintro rfl;unfold RB at l;rw [k1]at l;cases l
    have b2:(2:Nat)≠b:=by rintro rfl;unfold RB at l;rw [k2]at l;cases l
    have bn:n≠b:=by rintro rfl;unfold RB at l;rw [M]at l;cases l
    refine aG ?_;apply ai;simp [ha];refine al (.inl rfl) ?_;simp only [aqz,aqK]at e';have ln:aU H ab (.c (.ptr n 0 0))=aa (.c d):=by simp [M]
    have l2:aU H ab (.c (.ptr 2 1 0))=aa (vi r.iT):=by simp [k2]
    simp [g6,O,ln,l2,hi,hl,-az,-bf,aV (n:=s.st.cs[j].min-r.iT),e'];refine av (nx _ _ ⟨by simp [g3],by simp [X],by simp [g6],by simp [O],?_,?_,?_,.inr ⟨?_,b,ep,?_,d9⟩,?_⟩ (by simp [ha]) (by simp [hb]))
    ·exact S.get k1 b1
    ·exact S.get k2 b2
    ·exact S.get M bn
    ·intro e;have q:=congrArg List.length e;rw [api,aqr,aqr,aqP,aqy,List.length_nil]at q;omega
    ·rw [I]
     congr 1
     simp;omega
    ·exact v.cG fun i y hy hi=>S.get hy (fun e=>hD b (by rw [I];rfl) (by rw [←e];exact hi))
   ·rintro t H ⟨g3,X,g6,O,k1,k2,M,u,v⟩ ha hb;rw [aqS,arG,aqK,aq6]at u;apply ak;apply ai;have L:=v.len;rw [iE]at L;simp [O,M,L];refine bM s.st.xs.length (fun j t H=>t.g 3=.c (.ptr 0 0 0)∧t.g 4=.c (.ptr 1 0 0)∧t.g 6=.c (.ptr 2 0 0)∧t.g 7=.c (.ptr n 0 0)∧H[1]?=aa (.box [.f .au,.f (fi 0),.f .au] 0)∧H[2]?=aa (.box [.f (fi r.cap),.f (fi r.iT),.f (fi r.nU),.f r.o0,.f r.o1,.f r.o2,.f r.o3,.f r.o4,.f r.o5,.f r.o6,.f r.o7,.f r.o8,.f r.o9,.f (sl r.qg (fR r.q)),.f (sl r.pg (ints r.p))] 0) ∧
      H[n]?=aa (.box [d,.f (fi (s.st.len+r.iT+r.nU)),m] 0)∧LR H d 2 (s.st.cs.map (cA.row ∘ jA r.iT))∧LR H m 3 ((s.st.xs.take j).map (aN.row ∘ Cx r.iT r.nU)++(s.st.xs.drop j).map aN.row)) (by omega) (by decide) (by decide) (by simp) (by simp)
     ⟨by simp [g3],by simp [X],by simp [g6],by simp [O],k1,k2,M,u,by simpa [aH]using v⟩ ?_ ?_
    ·intro j t H hj;rw [U]at hj;simp at hj
    ·rintro t H ⟨g3,X,g6,O,k1,k2,M,u,v⟩ ha hb;rw [aqS,arG,aqK,aq6]at v;have r1:s.st.cs.map (cA.row ∘ jA r.iT)=aL (s.st.cs.map (jA r.iT)):=by simp [aL]
     have r2:s.st.xs.map (aN.row ∘ Cx r.iT r.nU)=aH (s.st.xs.map (Cx r.iT r.nU)):=by simp [aH]
     rw [r1]at u;rw [r2]at v;have x1:=u.x;have x2:=v.x;obtain⟨E,b_⟩:=x1.ex (cP _);obtain⟨F,c_⟩:=x2.ex (bw _);have y1:LX (fT deep d H) d 2 (aL (s.st.cs.map (jA r.iT))):=x1.mk x1 63;have y2:LX (fT deep d H) m 3 (aH (s.st.xs.map (Cx r.iT r.nU))):=x2.mk x1 63;have z1:LX (fT deep m (fT deep d H)) d 2 (aL (s.st.cs.map (jA r.iT))):=y1.mk y2 63;have z2:LX (fT deep m (fT deep d H)) m 3 (aH (s.st.xs.map (Cx r.iT r.nU))):=y2.mk y2 63;have j6:(fT deep d H)[1]?=aa (.box [.f .au,.f (fi 0),.f .au] 0):=x1.ahQ 63 k1;have N:(fT deep m (fT deep d H))[1]?=aa (.box [.f .au,.f (fi 0),.f .au] 0):=y2.ahQ 63 j6;have h1:ef deep H d=aa (sl E (aL (s.st.cs.map (jA r.iT)))):=b_ H 63 x1;have h2:ef deep H m=aa (sl F (aH (s.st.xs.map (Cx r.iT r.nU)))):=c_ H 63 x2;have ho:lM af s E F=⟨E,s.st.cs.map (jA r.iT),s.st.len+r.iT+r.nU,F,s.st.xs.map (Cx r.iT r.nU)⟩:=by rw [Z,Y,U];rfl
     have A:=A E F;rw [ho]at A;simp only [aR.row,aqz,aqK]at A;apply ai;simp [X,O,M,h1,h2,A,N];generalize fT deep m (fT deep d H)=HM at z1 z2 N ⊢;have f_:=b_ (HM.set 1 (.box [d,.f (fi (s.st.len+r.iT+r.nU)),m] 0)) 63 (z1.set (z1.ny N) _);have g_:=c_ (HM.set 1 (.box [d,.f (fi (s.st.len+r.iT+r.nU)),m] 0)) 63 (z2.set (z2.ny N) _);have j5:(HM.set 1 (.box [d,.f (fi (s.st.len+r.iT+r.nU)),m] 0))[1]?=aa (.box [d,.f (fi (s.st.len+r.iT+r.nU)),m] 0):=IN (an N);refine aB (hQ _ _ _ ⟨E,F,rfl⟩ ?_);have hd:deep=63+1:=rfl;rw [ho];simp [X,j5,aR.row,iA,cC,bg,hd,f_,g_]
  apply ai;simp [aA.row];apply ai;simp [gl,f7,a_];have w1:=aV (n:=s.st.len+r.iT);have w2:=aV (n:=s.st.len+r.iT+r.nU);obtain⟨B,K⟩:=aK ([bo.box [.f (fi s.meet),.f (fi s.room),.f (fi s.eg),.f (fi s.size),.f (sl s.st.cg (aL s.st.cs)),.f (fi s.st.len),.f (sl s.st.xg (aH s.st.xs))] 0,bo.box [.f .au,.f (fi 0),.f .au] 0,bo.box [.f (fi r.cap),.f (fi r.iT),.f (fi r.nU),.f r.o0,.f r.o1,.f r.o2,.f r.o3,.f r.o4,.f r.o5,.f r.o6,.f r.o7,.f r.o8,.f r.o9,.f (sl r.qg (fR r.q)),.f (sl r.pg (ints r.p))] 0]);rw [←K];have k_:B.length=3:=by rw [K];rfl
  have q0:∀ J,(B++J)[0]?=aa (bo.box [.f (fi s.meet),.f (fi s.room),.f (fi s.eg),.f (fi s.size),.f (sl s.st.cg (aL s.st.cs)),.f (fi s.st.len),.f (sl s.st.xg (aH s.st.xs))] 0):=fun J=>by rw [K];rfl
  have q1:∀ J,(B++J)[1]?=aa (bo.box [.f .au,.f (fi 0),.f .au] 0):=fun J=>by rw [K];rfl
  have q2:∀ J,(B++J)[2]?=aa (bo.box [.f (fi r.cap),.f (fi r.iT),.f (fi r.nU),.f r.o0,.f r.o1,.f r.o2,.f r.o3,.f r.o4,.f r.o5,.f r.o6,.f r.o7,.f r.o8,.f r.o9,.f (sl r.qg (fR r.q)),.f (sl r.pg (ints r.p))] 0):=fun J=>by rw [K];rfl
  have p0:=q0 [];have p2:=q2 [];rw [aq6]at p0 p2;obtain⟨d,I⟩:=aK ((fc B).1);obtain⟨J1,i5⟩:=aK ((fc B).2);have e1:=ec B;have m1:=(d_ B).2;rw [←I,←i5]at e1 m1;obtain⟨m,i7⟩:=aK ((fx (B++J1)).1);obtain⟨J2,i6⟩:=aK ((fx (B++J1)).2);have e2:=ex (B++J1);have m2:=(e_ (B++J1)).2;rw [←i7,←i6,aqZ]at e2 m2;refine ak (eT (.inl rfl) ?_ ?_)
  case _=>
   simp [p0,p2,q0,q2,e1,e2,w1,w2];refine i4 _ _ d m _ (by simp) (by simp) (by simp) (by simp;rfl) (by omega) ?_ ?_ ?_ ?_ ?_ ?_
   ·exact q1 _
   ·exact q2 _
   ·rw [←aqZ,←aqZ,IS (by simp)];have:B.length+(J1.length+J2.length)-(B++J1++J2).length=0:=by simp
    rw [this];rfl
   ·have:=(m1.1.push J2).push [bo.box [d,C.f (FC.int IntKind.i64 (s.st.len+r.iT+r.nU)),m] 0];simpa [aqZ]using this
   ·have:=m2.1.push [bo.box [d,C.f (FC.int IntKind.i64 (s.st.len+r.iT+r.nU)),m] 0];simpa [aqZ]using this
   ·intro i i9 i_;have a1:=m1.1.lt i9;have a2:=m2.2 i i_;omega
  ·intro c hc;simp only [aqA,ard,or_false]at hc;rcases hc with rfl | rfl | rfl | rfl | rfl | rfl | rfl
   iterate 6
    ·refine⟨by decide,_,rfl,.inl ⟨by decide,?_⟩⟩;simp [p0,p2,q0,q2,e1,e2,fA,amZ]
   ·refine⟨by decide,_,rfl,.inr ⟨by decide,?_⟩⟩;simp [p0,p2,q0,q2,e1,e2,fA,Mr]
 exact⟨E,F,bh.eq hp⟩
def shB(af b:Int)(i k:Int):Bool:=kv i.toNat k.toNat (cf af b i) (cf af b k)
theorem aae(af b i:Int):shB af b i i=ae:=by simp [shB,kv]
theorem AJ(af b i:Int):(cf af b i).p.length≤64:=by unfold cf po;split<;>(try split)<;>simp
theorem agt(af b i k:Int)(h0:0≤i)(m:i≤2)(j:0≤k)(q:k≤2):bh tab 200 [.c (.f (gl af b)),vi i,vi k]=Eq (vb (shB af b i k)):=by
 have s:(cJ af b).length=3:=rfl;have hi:i.toNat<(cJ af b).length:=by omega
 have l:k.toNat<(cJ af b).length:=by omega
 have d:(cJ af b)[i.toNat]=cf af b i:=asg ((By hi).symm.trans (lW af b h0 m));have g:(cJ af b)[k.toNat]=cf af b k:=asg ((By l).symm.trans (lW af b j q));have:=(NW .fs (cJ af b) i.toNat k.toNat hi l (by rw [d];exact AJ ..) (by rw [g];exact AJ ..)).eq;rw [d,g,Int.toNat_of_nonneg h0,Int.toNat_of_nonneg j]at this;exact this
theorem CQ(a b:FC)(r:Int):bh tab 122 [.c (.f a),.c (.f b),vi r]=Eq (.c (.f (.fn 199 [.fp [b] 0,.fp [a] 0,.fp [fi r] 0]))):=by
 refine bh.eq (bS rfl rfl fun Q d=>?_);apply ai;simp;apply ai;simp;refine aB (d _ _ ?_);simp [deep]
theorem M0{b:Type}{l:List b}{j:Nat}(d:j<l.length)(p:b→Bool):(l.take (j+1)).filter p=(l.take j).filter p++(if p l[j]then [l[j]]else []):=by
 rw [aqW,By d,ash];simp [List.filter_cons]
theorem AO{b:Nat}{H:aj}{PP:List aA→aj→Prop}{RR:List aA→aA→aj→Prop}(Z:FC)(g':Tg)(ss:List aA)(hl:ss.length≤1000)(k:Int)(l:aA→Bool)
  (a8:∀ s ∈ ss,bh tab 200 [.c (.f Z),vi s.room,vi k]=Eq (vb (l s)))
  (h0:PP [] H) (hp:∀ d H J,PP d H→PP d (H++J))
  (hy:∀(d:List aA) (s:aA) (H:aj),PP d H→s ∈ ss→∃(r:Bool) (H':aj),Ev tab (.yield b) [.a (s.row.map .f)] H (vb r) H'∧(if r then PP (d++[s]) H' else RR d s H')) :
  ∃ H',Ev tab (.fn 199) [.c (.yl b),.c (.f (.fp [sl g' (aD ss)] 0)),.c (.f (.fp [Z] 0)),.c (.f (.fp [fi k] 0))] H (.t []) H'∧(PP (ss.filter l) H'∨∃ d s rest,ss.filter l=d++s::rest∧RR d s H'):=by
 obtain⟨r,H',K,rfl,h⟩:∃ r H',Ev tab (.fn 199) [.c (.yl b),.c (.f (.fp [sl g' (aD ss)] 0)),.c (.f (.fp [Z] 0)),.c (.f (.fp [fi k] 0))] H r H'∧(r=.t []∧(PP (ss.filter l) H'∨∃ d s rest,ss.filter l=d++s::rest∧RR d s H')):=by
  refine cB rfl rfl fun Q hQ=>?_;apply ai;simp [mW];refine bM ss.length (fun j t H'=>t.g 0=.c (.yl b)∧t.g 1=.c (.f (.fp [sl g' (aD ss)] 0))∧t.g 2=.c (.f (.fp [Z] 0))∧t.g 3=.c (.f (.fp [fi k] 0))∧t.g 7=.c (.f (sl g' (aD ss)))∧PP ((ss.take j).filter l) H') (by omega) (by decide) (by decide) (by simp) (by simp)
   ⟨by simp,by simp,by simp,by simp,by simp,by simpa using h0⟩ ?_ ?_
  ·rintro j t H' S ⟨g0,g1,L,M,X,y⟩ Y hb next
   have q:=fun H:aj=>bR (H:=H) (bt ss) (et S);have z:=fun H:aj=>bF (H:=H) (g:=g') (rows:=aD ss) (sz:=7) (k:=.i64) (i:=(j:Int)) (by omega) (by simp;omega);simp only [aqI]at z;have v:=a8 ss[j] (anc S);have I:=M0 S l;have A:=anc S;have m:ss.filter l=(ss.take j).filter l++((ss[j]::ss.drop (j+1)).filter l):=by
    rw [←ash,←apw S,List.take_append_drop]
   obtain⟨s,a_⟩:=aK (ss[j]);rw [←a_]at q v I A m;obtain⟨row,u⟩:=aK (s.row.map C.f);have F:row.length=7:=by rw [u];rfl
   have a7:∃ x,row[1]?=aa x∧x=.f (fi s.room):=⟨_,by rw [u];rfl,rfl⟩
   rw [←u]at q;obtain⟨b6,O⟩:=aK (H'.length);obtain⟨W,B⟩:=aK (H'++[bo.box row 0]);have E:=hp _ _ [bo.box row 0] y;rw [←B]at E;have k1:W[b6]?=aa (.box row 0):=by rw [B,O];simp
   have l7:aU W (aa 7) (.c (.ptr b6 0 0))=aa (.a row):=by simp [aU,aF,k1,aT,F,ap1 (Nat.le_of_eq F)]
   have l1:aU W ab (.c (.ptr b6 1 0))=aa (vi s.room):=by
    obtain⟨x,hx,rfl⟩:=a7;rw [u]at k1;simp [aU,aF,k1,aA.row,aT]
   refine aG ?_;apply ai;simp [X,Y,z,q,F,-az];rw [←B,←O];apply ak;cases U:l s
   ·rw [U]at v;refine al (.inl rfl) ?_;simp [L,M,mW,l1,v,-az];refine aC (by simp) (aO (av (next _ _ ⟨by simp [g0],by simp [g1],by simp [L],by simp [M],by simp [X],?_⟩ (by simp [Y]) (by simp [hb]))));rw [I];simpa [U]using E
   ·rw [U]at v;obtain⟨r,H2,K,N⟩:=hy _ s W E A;have K:=K.eq;rw [←u]at K;refine al (.inl rfl) ?_;simp [g0,L,M,mW,l1,l7,v,K,-az];cases r with
    | true=>
     refine aC (by simp) (aO (av (next _ _ ⟨by simp [g0],by simp [g1],by simp [L],by simp [M],by simp [X],?_⟩ (by simp [Y]) (by simp [hb]))));rw [I];simpa [U]using N
    | false=>
     refine aq (by simp) (aB (hQ _ _ (.t []) rfl rfl ⟨rfl,.inr ⟨_,s,(ss.drop (j+1)).filter l,?_,by simpa using N⟩⟩));rw [m,List.filter_cons,U];rfl
  ·rintro t H' ⟨g0,g1,L,M,X,y⟩ Y hb;rw [aqS]at y;exact cD (hQ _ _ (.t []) rfl rfl ⟨rfl,.inl y⟩)
 exact⟨H',K,h⟩
theorem wN(af g i:Int)(x:aN):bh tab 139 [.a ((cf af g i).row.map .f),.a (x.row.map .f)]=Eq (.a [.f (fi x.day),.f (fi (ah .i64 x.fr)),.f (fi (ah .i64 (x.to-af)))]):=by
 have d:(cf af g i).iT=0:=by unfold cf;split<;>(try split)<;>rfl
 have b:(cf af g i).nU=af:=by unfold cf;split<;>(try split)<;>rfl
 refine bh.eq (bS rfl rfl fun Q j=>?_);generalize cf af g i=r at *;apply ai;simp [ct.row,aN.row];apply ai;simp [d,b];refine aB (j _ _ ?_);simp [iA,cC,bg]
def mb(s:aR):List C:=[.f (sl s.cg (aL s.cs)),.f (fi s.len),.f (sl s.xg (aH s.xs))]
def Com(c d:cA)(k:Int):Prop:=∃ x,0≤x∧gv c.ts (x+max 0 (-k))∧gv d.ts (x+max 0 k)
theorem Dz{a b:aR}{p:Pr}(d:pU a b p):(∃ x,0≤x∧gv p.xs x∧gv p.ys x)↔Com p.c p.d p.k:=by
 constructor
 ·rintro⟨x,h0,g,j⟩;exact⟨x,h0,(d.xm x h0).1 g,(d.ym x h0).1 j⟩
 ·rintro⟨x,h0,g,j⟩;exact⟨x,h0,(d.xm x h0).2 g,(d.ym x h0).2 j⟩
def nQ(a b:aR):Prop:=∃ c ∈ a.cs,∃ d ∈ b.cs,∃ k,Ac a.len b.len c d≤k∧k≤zP a.len b.len c d∧Com c d k
structure Bc(a b:aR)(bs:List Nat)(J:aj):Prop where
 h0:J[0]?=aa (.box (mb a) 0)
 h1:J[1]?=aa (.box (mb b) 0)
 h2:∃ v:Bool,J[2]?=aa (.box [.f (.bool v)] 0)
 h3:∃ n:Int,J[3]?=aa (.box [.f (fi n)] 0)
 cl:fk bs J
theorem Bc.cG{a b:aR}{g:List Nat}{J J':aj}(h:Bc a b g J)(d:∀ i:Nat,i<J.length→J'[i]?=J[i]?):Bc a b g J':=by
 obtain⟨v,h2⟩:=h.h2;obtain⟨n,h3⟩:=h.h3;exact⟨by rw [d 0 (an h.h0)];exact h.h0,by rw [d 1 (an h.h1)];exact h.h1,⟨v,by rw [d 2 (an h2)];exact h2⟩,⟨n,by rw [d 3 (an h3)];exact h3⟩,⟨h.cl.nd,fun i hi=>by rw [d i (an (h.cl.on i hi))];exact h.cl.on i hi⟩⟩
theorem Bc.set{a b:aR}{d:List Nat}{J:aj}(h:Bc a b d J){i:Nat}{y:bo}(hi:J[i]?=aa y)(h3:4≤i)(hy:y≠.eO ae)(z:bo):Bc a b d (J.set i z):=by
 obtain⟨v,g⟩:=h.h2;obtain⟨n,j⟩:=h.h3;exact⟨by rw [AI (by omega)];exact h.h0,by rw [AI (by omega)];exact h.h1,⟨v,by rw [AI (by omega)];exact g⟩,⟨n,by rw [AI (by omega)];exact j⟩,h.cl.set hi hy⟩
theorem Bc.tell{a b:aR}{j:List Nat}{J:aj}(h:Bc a b j J)(v:Bool)(n:Int) :
  cZ J (.ptr 2 0 0) [.f (.bool v)]=aa (J.set 2 (.box [.f (.bool v)] 0))∧cZ (J.set 2 (.box [.f (.bool v)] 0)) (.ptr 3 0 0) [.f (fi n)]=aa ((J.set 2 (.box [.f (.bool v)] 0)).set 3 (.box [.f (fi n)] 0)) ∧
   fk j ((J.set 2 (.box [.f (.bool v)] 0)).set 3 (.box [.f (fi n)] 0))∧((J.set 2 (.box [.f (.bool v)] 0)).set 3 (.box [.f (fi n)] 0))[2]?=aa (.box [.f (.bool v)] 0)∧((J.set 2 (.box [.f (.bool v)] 0)).set 3 (.box [.f (fi n)] 0))[3]?=aa (.box [.f (fi n)] 0):=by
 obtain⟨w,g⟩:=h.h2;obtain⟨m,l⟩:=h.h3;have d:(J.set 2 (.box [.f (.bool v)] 0))[3]?=aa (.box [.f (fi m)] 0):=by rw [AI (by omega)];exact l
 refine⟨by simp [cZ,g,over],by simp [cZ,d,over],(h.cl.set g (by simp)).set d (by simp),?_,IN (an d)⟩;rw [AI (by omega)];exact IN (an g)
theorem YL(a b:aR)(ha:rA a)(hb:rA b):∃ r:Bool,(r=ae↔nQ a b)∧bh tab 25 [.a (a.row.map .f),.a (b.row.map .f)]=Eq (.t [vb r,vi 0]):=by
 have key:∃ v,(∃ r:Bool,(r=ae↔nQ a b)∧v=.t [vb r,vi 0])∧bh tab 25 [.a (a.row.map .f),.a (b.row.map .f)] v:=by
  refine wK ao7 rfl fun Q hQ=>?_;have i6:=(iR a ha.sm).eq;rw [ha.v]at i6;simp [aR.row]at i6;have i7:=(iR b hb.sm).eq;rw [hb.v]at i7;simp [aR.row]at i7;obtain⟨n_,rfl,i8⟩:=zj a b ha.xs;obtain⟨o_,rfl,i9⟩:=zj b a hb.xs;simp only [aR.row,aqz,aqK]at i8 i9;have i5:=vS a b;simp only [aR.row,aqz,aqK]at i5;have la:∀(N:List Nat) (J:aj),Bc a b N J→aU J (aa 3) (.c (.ptr 0 0 0))=aa (.a [.f (sl a.cg (aL a.cs)),.f (fi a.len),.f (sl a.xg (aH a.xs))])∧aU J (aa 3) (.c (.ptr 1 0 0))=aa (.a [.f (sl b.cg (aL b.cs)),.f (fi b.len),.f (sl b.xg (aH b.xs))]):=fun N J h=>by refine⟨?_,?_⟩<;>simp [aU,aF,h.h0,h.h1,mb,aT]
  have i_:∀(t:T) (J:aj) (N:List Nat) (v:Bool),t.g 4=.c (.ptr 2 0 0)→t.g 5=.c (.ptr 3 0 0)→(v=ae↔nQ a b)→fk N J→J[2]?=aa (.box [.f (.bool v)] 0)→J[3]?=aa (.box [.f (fi 0)] 0)→∀ j,Q j ⟨t,N.map .gm,J⟩:=by
   intro t J N v Z g5 hv f8 F h3 j;refine hQ _ _ _ ⟨v,hv,rfl⟩ ⟨N,rfl,f8,.t [vb v,vi 0],?_,by simp [iA,cC,bg]⟩;have d2:=(gU (f8.not F (by simp))).trans F;have d3:=(gU (f8.not h3 (by simp))).trans h3;simp [Km.results,cI,bg,Z,g5,d2,d3]
  apply ai;simp [aR.row];obtain⟨J0,b9⟩:=aK ([.box (mb a) 0,.box (mb b) 0,.box [.f (.bool ag)] 0,.box [.f (fi 0)] 0]:aj);have X:Bc a b [] J0:=by rw [b9];exact⟨rfl,rfl,⟨_,rfl⟩,⟨_,rfl⟩,⟨by simp,by simp⟩⟩
  have l0:J0.length=4:=by rw [b9];rfl
  unfold mb at b9;rw [←b9];apply ak;apply ai;simp [(la _ _ X).1,(la _ _ X).2,-az,i6,i7];refine bp (by simp) ?_;apply ak;apply ai;have k_:∀(t:T) (J:aj) (N:List Nat),t.g 2=.c (.ptr 0 0 0)→t.g 3=.c (.ptr 1 0 0)→t.g 4=.c (.ptr 2 0 0)→t.g 5=.c (.ptr 3 0 0)→Bc a b N J→(∀ c ∈ a.cs,∀ d ∈ b.cs,∀ k,Ac a.len b.len c d≤k→k≤zP a.len b.len c d→¬ Com c d k) →
    WP tab 25 ab [.code wZ] ⟨t,N.map .gm,J⟩ Q:=by
   intro t J N g2 g3 Z g5 hq h_;obtain⟨n3,k3⟩:=hq.h3;have n9:4≤J.length:=by have:=an k3;omega
   obtain⟨l,f7⟩:=aK (J.length);apply ai;simp;rw [←f7];obtain⟨HA,a_⟩:=aK (J++[bo.box [.f (.bool ag)] 0]);rw [←a_];have kq:Bc a b N HA:=hq.cG fun i hi=>by rw [a_,AT hi]
   have kl:HA[l]?=aa (.box [.f (.bool ag)] 0):=by rw [a_,f7];simp
   have kn:HA.length=l+1:=by rw [a_,f7];simp
   apply ak;apply ai;simp [g2,g3,(la _ _ kq).1,(la _ _ kq).2,-az,i5];refine aG ?_
   suffices go:∀ u:T,u.g 4=.c (.ptr 2 0 0)→u.g 5=.c (.ptr 3 0 0)→u.g 9=.c (.ptr l 0 0)→u.g 44=.c (.f (.fn 104 [.fp a.row 0,.fp b.row 0])) →
     WP tab 25 ab [.code Dk,.inBlock 2,.code Dl] ⟨u,N.map .gm,HA⟩ Q by exact go _ (by simp [Z]) (by simp [g5]) (by simp) (by simp [aR.row])
   clear g2 g3 Z g5 t;intro u Z g5 g9 m4;obtain⟨S,B⟩:∃ S:ej→Option aE→bo,S=fun st pd=>.lp 25 u [P.nat 45] fE fF st pd (l+1):=⟨_,rfl⟩
   obtain⟨m,y⟩:=aK (HA++[.eO ae,S .ready ab]);have q4:m[l+1]?=aa (.eO ae):=by rw [y,IS (by omega),kn];simp
   have q5:m[l+1+1]?=aa (S .ready ab):=by rw [y,IS (by omega),kn];simp
   have qk:∀ i:Nat,i<HA.length→m[i]?=HA[i]?:=fun i hi=>by rw [y,AT hi]
   have j8:l+1 ∉ N:=fun hb=>by have:=an (kq.cl.on _ hb);omega
   have qq:=kq.cG qk;have z:Bc a b ((l+1)::N) m:=⟨qq.h0,qq.h1,qq.h2,qq.h3,⟨List.nodup_cons.2 ⟨j8,qq.cl.nd⟩,fun b hb=>by
    rcases aqA.1 hb with rfl | hb
    ·exact q4
    ·exact qq.cl.on b hb⟩⟩
   have ql:m[l]?=aa (.box [.f (.bool ag)] 0):=by rw [qk l (by omega)];exact kl
   have m_:m.length=l+3:=by rw [y,api,kn];rfl
   obtain⟨H2,he,W⟩:=nm (bb:=l+1+1) (H:=m) a b ha hb (fun ps J=>m.length≤J.length∧(∀ i:Nat,i<m.length→i≠l→J[i]?=m[i]?)∧∃ v:Bool,J[l]?=aa (.box [.f (.bool v)] 0)∧(v=ae↔∃ p ∈ ps,Com p.c p.d p.k))
    (fun _ _=>False) ⟨aft _,fun _ _ _=>rfl,ag,ql,by simp⟩
    (fun ps J J' ⟨h1,F,v,h3,h4⟩ hk hl=>⟨by omega,fun i hi O=>by rw [hk i hi];exact F i hi O,v,by rw [hk l (by omega)];exact h3,h4⟩)
    (fun ps p J ⟨h1,F,v,h3,h4⟩ hl A=>by
     have K:J[l+1+1]?=aa (S .ready ab):=by rw [F _ (an q5) (by omega)];exact q5
     rw [B]at K;have j9:=h_ p.c A.ca p.d A.db p.k A.lo A.hi;have j4:=agb p.gx p.gy p.xs p.ys A.xo A.yo fun x h0 hx=>j9 ((Dz A).1 ⟨x,h0,hx⟩);have a8:=vR;change bh tab 58 [.a [.f .au]]=Eq (vb ae)at a8;obtain⟨em,e_⟩:=aK (ae:Bool);rw [←e_]at a8;have I:em=ag↔Com p.c p.d p.k:=by rw [e_];exact⟨fun h=>(by cases h),fun h=>absurd h j9⟩
     refine⟨ae,?_⟩;obtain⟨r,J',g_,rfl,hr⟩:∃ r J',Ev tab (.yield (l+1+1)) [.a p.row] J r J'∧(r=vb ae∧(m.length≤J'.length∧(∀ i:Nat,i<m.length→i≠l→J'[i]?=m[i]?)∧J'[l]?=aa (.box [.f (.bool (v||!em))] 0))∧J.length≤J'.length∧∀ i:Nat,m.length≤i→i<J.length→J'[i]?=J[i]?):=by
      refine fO (tab:=tab) (b:=l+1+1) (args:=[.a p.row]) (H:=J) K rfl fun Q' c_=>?_;obtain⟨Y,U⟩:=aK (J.length);have i4:p.row.length=8:=rfl;refine al (.inr rfl) ?_;simp [i4];rw [←U];obtain⟨J1,L⟩:=aK (J++[bo.box p.row 0]);rw [←L];have k1:∀ i:Nat,i<J.length→J1[i]?=J[i]?:=fun i hi=>by rw [L,AT hi]
      have d1:J1[Y]?=aa (.box p.row 0):=by rw [L,U];simp
      have n1:J1.length=Y+1:=by rw [L,U];simp
      have e5:J1[l+1+1]?=aa (.lp 25 u [P.nat 45] fE fF .ready ab (l+1)):=by rw [k1 _ (an K)];exact K
      refine mw e5 ?_;obtain⟨E,s⟩:=aK (J1.set (l+1+1) (.lp 25 u [P.nat 45] fE fF .busy ab (l+1)));rw [←s];have k2:∀ i:Nat,i<J.length→i≠l+1+1→E[i]?=J[i]?:=fun i hi O=>by rw [s,AI (Ne.symm O),k1 i hi]
      have d2:E[Y]?=aa (.box p.row 0):=by rw [s,AI (by have:=an K;omega)];exact d1
      have f5:E[l+1+1]?=aa (.lp 25 u [P.nat 45] fE fF .busy ab (l+1)):=by rw [s];exact IN (an e5)
      have n2:E.length=Y+1:=by rw [s,aqE];exact n1
      have v2:E[l]?=aa (.box [.f (.bool v)] 0):=by rw [k2 l (by omega) (by omega)];exact h3
      unfold Pr.row at d2;have c5:aU E (aa 1) (.c (.ptr Y 5 0))=aa (.a [.f (sl p.gx (aI p.xs))]):=by simp [aU,aF,d2,aT]
      have c6:aU E (aa 1) (.c (.ptr Y 6 0))=aa (.a [.f (sl p.gy (aI p.ys))]):=by simp [aU,aF,d2,aT]
      obtain⟨bm,j5⟩:=aK (E.length);refine aG ?_;refine ak (al (.inr rfl) ?_);simp [c5,c6,-az,j4];rw [←j5];obtain⟨J3,b_⟩:=aK (E++[bo.box [.f (FC.au)] 0]);rw [←b_];have k3:∀ i:Nat,i<E.length→J3[i]?=E[i]?:=fun i hi=>by rw [b_,AT hi]
      have m3:J3[bm]?=aa (.box [.f (FC.au)] 0):=by rw [b_,j5];simp
      have v3:J3[l]?=aa (.box [.f (.bool v)] 0):=by rw [k3 l (by omega)];exact v2
      have m9:J3[l+1+1]?=aa (.lp 25 u [P.nat 45] fE fF .busy ab (l+1)):=by rw [k3 _ (an f5)];exact f5
      have lv:aU J3 ab (.c (.ptr l 0 0))=aa (vb v):=by simp [aU,aF,v3]
      have lm:aU J3 (aa 1) (.c (.ptr bm 0 0))=aa (.a [.f (FC.au)]):=by simp [aU,aF,m3,aT]
      have sv:∀ w:Bool,cZ J3 (.ptr l 0 0) [.f (.bool w)]=aa (J3.set l (.box [.f (.bool w)] 0)):=fun w=>by simp [cZ,v3,over]
      apply ak;refine ak (al (.inr rfl) ?_);simp;refine bp (by simp) ?_;refine al (.inr rfl) ?_;have d_:∀ t':T,WP tab 25 (aa (l+1+1)) [.inBlock 3] ⟨t',[],J3.set l (.box [.f (.bool (v||!em))] 0)⟩ Q':=fun t'=>by
       have s5:(J3.set l (.box [.f (.bool (v||!em))] 0))[l+1+1]?=aa (.lp 25 u [P.nat 45] fE fF .busy ab (l+1)):=by rw [AI (by omega)];exact m9
       have n3:J3.length=Y+2:=by rw [b_,api,n2];rfl
       refine av (cD (c_ _ _ _ _ _ _ _ _ _ _ rfl s5 ⟨rfl,⟨?_,fun i hi O=>?_,?_⟩,?_,fun i h1 F=>?_⟩))
       ·rw [aqE,aqE,n3];omega
       ·by_cases e:i=l+1+1
        ·subst e;rw [IN (an s5)];rw [q5,B];rfl
        ·rw [AI (Ne.symm e),AI (Ne.symm O),k3 i (by omega),k2 i (by omega) e];exact F i hi O
       ·rw [AI (by omega)];exact IN (an v3)
       ·rw [aqE,aqE,n3];omega
       ·rw [AI (by omega),AI (by omega),k3 i (by omega),k2 i (by omega) (by omega)]
      cases v with
      | true=>
       simp [g9,lv,sv,-az,-bf];exact d_ _
      | false=>
       simp [g9,lv,lm,sv,-az,-bf,a8];exact d_ _
     refine⟨J',g_,?_⟩;simp only [if_true];refine⟨⟨hr.1.1,hr.1.2.1,_,hr.1.2.2,?_⟩,hr.2⟩;simp only [Bool.or_eq_true,arf,I,h4,aqC,aqs];constructor
     ·rintro(⟨q,hq,h⟩ | h)
      ·exact⟨q,.inl hq,h⟩
      ·exact⟨p,.inr rfl,h⟩
     ·rintro⟨q,hq | rfl,h⟩
      ·exact .inl ⟨q,hq,h⟩
      ·exact .inr h)
   have f_:Ev tab (.fn 104) [.c (.yl (HA.length+1)),.c (.f (.fp a.row 0)),.c (.f (.fp b.row 0))] (HA++[.eO ae,.lp 25 u [P.nat 45] fE fF .ready ab HA.length]) (.t []) H2:=by
    have e:HA++[.eO ae,.lp 25 u [P.nat 45] fE fF .ready ab HA.length]=m:=by rw [y,B,kn]
    rw [e,kn];exact he
   refine iP (g:=104) (by rw [Bu,m4];simp [bQ]) f_ ?_;rw [kn];rcases W with⟨ps,⟨j7,M,v,hv,j6⟩,j_,a7⟩ | ⟨_,_,h⟩
   case inr=>exact h.elim
   have K:H2[l+1+1]?=aa (S .ready ab):=by rw [M _ (an q5) (by omega)];exact q5
   obtain⟨w2,z2⟩:=z.h2;obtain⟨w3,z3⟩:=z.h3;have n8:l ∉ (l+1)::N:=fun h=>by
    have:=z.cl.on _ h;rw [ql]at this;cases this
   have pq:Bc a b ((l+1)::N) H2:=⟨by rw [M 0 (by omega) (by omega)];exact z.h0,by rw [M 1 (by omega) (by omega)];exact z.h1,⟨w2,by rw [M 2 (by omega) (by omega)];exact z2⟩,⟨w3,by rw [M 3 (by omega) (by omega)];exact z3⟩,
    ⟨z.cl.nd,fun i hi=>by rw [M i (an (z.cl.on i hi)) (fun e=>n8 (e▸hi))];exact z.cl.on i hi⟩⟩
   rw [B]at K;refine jO K (by decide) ?_;have eq:=pq.set K (by omega) (by simp) (.lp 25 u [P.nat 45] fE fF .exhausted ab (l+1));have ev:(H2.set (l+1+1) (.lp 25 u [P.nat 45] fE fF .exhausted ab (l+1)))[l]?=aa (.box [.f (.bool v)] 0):=by rw [AI (by omega)];exact hv
   generalize H2.set (l+1+1) (.lp 25 u [P.nat 45] fE fF .exhausted ab (l+1))=H3 at eq ev ⊢;obtain⟨s1,s2,s3,s4,s6⟩:=eq.tell v 0;have lv:aU H3 ab (.c (.ptr l 0 0))=aa (vb v):=by simp [aU,aF,ev]
   refine av ?_;apply ai;simp [Z,g5,g9,lv,s1,s2,-az,-bf];refine aB (i_ _ _ _ v (by simp [Z]) (by simp [g5]) ?_ s3 s4 s6 _);rw [j6];constructor
   ·rintro⟨p,A,h⟩;have:=j_ p A;exact⟨p.c,this.ca,p.d,this.db,p.k,this.lo,this.hi,h⟩
   ·rintro⟨c,hc,d,hd,k,h1,F,h⟩;obtain⟨p,A,rfl,rfl,rfl⟩:=a7 c hc d hd k h1 F;exact⟨p,A,h⟩
  have early:∀ t:T,t.g 2=.c (.ptr 0 0 0)→t.g 3=.c (.ptr 1 0 0)→t.g 4=.c (.ptr 2 0 0)→t.g 5=.c (.ptr 3 0 0)→WP tab 25 ab [.code Di] ⟨t,[],J0⟩ Q:=by
   intro t g2 g3 Z g5;apply ak;apply ai;simp [g2,g3,(la _ _ X).1,(la _ _ X).2,-az,i5];refine aG ?_
   suffices go:∀ u:T,u.g 2=.c (.ptr 0 0 0)→u.g 3=.c (.ptr 1 0 0)→u.g 4=.c (.ptr 2 0 0)→u.g 5=.c (.ptr 3 0 0)→u.g 31=.c (.f (.fn 104 [.fp a.row 0,.fp b.row 0])) →
     WP tab 25 ab [.code Dj,.inBlock 0,.code wZ] ⟨u,([]:List Nat).map .gm,J0⟩ Q by exact go _ (by simp [g2]) (by simp [g3]) (by simp [Z]) (by simp [g5]) (by simp [aR.row])
   clear g2 g3 Z g5 t;intro u g2 g3 Z g5 l_;obtain⟨S,B⟩:∃ S:ej→Option aE→bo,S=fun st pd=>.lp 25 u [P.nat 32] jh ji st pd 4:=⟨_,rfl⟩
   obtain⟨m,y⟩:=aK (J0++[.eO ae,S .ready ab]);have q4:m[4]?=aa (.eO ae):=by rw [y,IS (by omega),l0];simp
   have q5:m[5]?=aa (S .ready ab):=by rw [y,IS (by omega),l0];simp
   have qq:=X.cG (J':=m) fun i hi=>by rw [y,AT hi]
   have z:Bc a b [4] m:=⟨qq.h0,qq.h1,qq.h2,qq.h3,⟨by simp,fun b hb=>by rw [aqs.1 hb];exact q4⟩⟩
   have m_:m.length=6:=by rw [y,api,l0];rfl
   obtain⟨H2,he,W⟩:=nm (bb:=5) (H:=m) a b ha hb (fun ps J=>m.length≤J.length∧(∀ i:Nat,i<m.length→J[i]?=m[i]?)∧∀ p ∈ ps,¬ Com p.c p.d p.k)
    (fun p J=>Com p.c p.d p.k∧fk [4] J∧J[2]?=aa (.box [.f (.bool ae)] 0)∧J[3]?=aa (.box [.f (fi 0)] 0)∧J[5]?=aa (S .done (aa .ret))) ⟨aft _,fun _ _=>rfl,by simp⟩
    (fun ps J J' ⟨h1,F,h3⟩ hk hl=>⟨by omega,fun i hi=>by rw [hk i hi];exact F i hi,h3⟩)
    (fun ps p J ⟨h1,F,h3⟩ hl A=>by
     have K:J[5]?=aa (S .ready ab):=by rw [F _ (an q5)];exact q5
     have pq:=z.cG F;rw [B]at K;obtain⟨e,f,hm,-,d9⟩:=wC p.gx p.gy p.xs p.ys A.xo A.yo 0 (by omega) (by omega);have I:f=ae↔Com p.c p.d p.k:=by
      rw [←Dz A];rcases hm with⟨rfl,-,k⟩ | ⟨rfl,k,-⟩
      ·exact⟨fun h=>(by cases h),fun⟨x,h0,h1,F⟩=>absurd ⟨by omega,h1,F⟩ (k x)⟩
      ·exact⟨fun _=>⟨e,by have:=k.1;omega,k.2⟩,fun _=>rfl⟩
     refine⟨!f,?_⟩;obtain⟨r,J',g_,rfl,hr⟩:∃ r J',Ev tab (.yield 5) [.a p.row] J r J'∧(r=vb (!f)∧(if f=ae then fk [4] J'∧J'[2]?=aa (.box [.f (.bool ae)] 0)∧J'[3]?=aa (.box [.f (fi 0)] 0)∧J'[5]?=aa (S .done (aa .ret))else J.length≤J'.length∧∀ i:Nat,i<J.length→J'[i]?=J[i]?)):=by
      refine fO (tab:=tab) (b:=5) (args:=[.a p.row]) (H:=J) K rfl fun Q' c_=>?_;obtain⟨Y,U⟩:=aK (J.length);have i4:p.row.length=8:=rfl;refine al (.inr rfl) ?_;simp [i4];rw [←U];obtain⟨J1,L⟩:=aK (J++[bo.box p.row 0]);rw [←L];have k1:∀ i:Nat,i<J.length→J1[i]?=J[i]?:=fun i hi=>by rw [L,AT hi]
      have d1:J1[Y]?=aa (.box p.row 0):=by rw [L,U];simp
      have n1:J1.length=Y+1:=by rw [L,U];simp
      have e5:J1[5]?=aa (.lp 25 u [P.nat 32] jh ji .ready ab 4):=by rw [k1 _ (an K)];exact K
      refine mw e5 ?_;obtain⟨E,s⟩:=aK (J1.set 5 (.lp 25 u [P.nat 32] jh ji .busy ab 4));rw [←s];have k2:∀ i:Nat,i<J.length→i≠5→E[i]?=J[i]?:=fun i hi O=>by rw [s,AI (Ne.symm O),k1 i hi]
      have d2:E[Y]?=aa (.box p.row 0):=by rw [s,AI (by have:=an K;omega)];exact d1
      have f5:E[5]?=aa (.lp 25 u [P.nat 32] jh ji .busy ab 4):=by rw [s];exact IN (an e5)
      have n2:E.length=Y+1:=by rw [s,aqE];exact n1
      have q2:Bc a b [4] E:=by rw [s];exact(pq.cG k1).set e5 (by omega) (by simp) _
      unfold Pr.row at d2;have c5:aU E (aa 1) (.c (.ptr Y 5 0))=aa (.a [.f (sl p.gx (aI p.xs))]):=by simp [aU,aF,d2,aT]
      have c6:aU E (aa 1) (.c (.ptr Y 6 0))=aa (.a [.f (sl p.gy (aI p.ys))]):=by simp [aU,aF,d2,aT]
      refine aG ?_;refine ak (al (.inr rfl) ?_);simp [c5,c6,-az,d9];apply ak;refine al (.inr rfl) ?_;simp;cases f with
      | true=>
       refine aq (by simp) ?_;obtain⟨s1,s2,s3,s4,s6⟩:=q2.tell ae 0;have s5:((E.set 2 (.box [.f (.bool ae)] 0)).set 3 (.box [.f (fi 0)] 0))[5]?=aa (.lp 25 u [P.nat 32] jh ji .busy ab 4):=by rw [AI (by omega),AI (by omega)];exact f5
       refine ak (al (.inr rfl) ?_);simp [Z,g5,s1,s2,-bf];refine aB (c_ _ _ _ _ _ _ _ _ _ _ rfl s5 ⟨rfl,?_⟩);rw [ba rfl];refine⟨s3.set s5 (by simp),?_,?_,?_⟩
       ·rw [AI (by omega)];exact s4
       ·rw [AI (by omega)];exact s6
       ·rw [B];exact IN (an s5)
      | false=>
       refine aC (by simp) (aO (av (cD (c_ _ _ _ _ _ _ _ _ _ _ rfl f5 ⟨rfl,?_⟩))));rw [aW (by simp)];refine⟨by rw [aqE,n2];omega,fun i hi=>?_⟩;by_cases e:i=5
       ·subst e;rw [IN (an f5),K];rfl
       ·rw [AI (Ne.symm e),k2 i hi e]
     refine⟨J',g_,?_⟩;cases f with
     | true=>simpa using ⟨I.1 rfl,by simpa using hr⟩
     | false=>
      have hr:J.length≤J'.length∧∀ i:Nat,i<J.length→J'[i]?=J[i]?:=by simpa using hr
      simp only [Bool.not_false,if_true];refine⟨⟨by omega,fun i hi=>by rw [hr.2 i (by omega)];exact F i hi,fun q hq=>?_⟩,hr.1,fun i _ hi=>hr.2 i hi⟩;rcases aqC.1 hq with h | h
      ·exact h3 q h
      ·rw [aqs.1 h];intro h;have:=I.2 h;cases this)
   have f_:Ev tab (.fn 104) [.c (.yl (J0.length+1)),.c (.f (.fp a.row 0)),.c (.f (.fp b.row 0))] (J0++[.eO ae,.lp 25 u [P.nat 32] jh ji .ready ab J0.length]) (.t []) H2:=by
    have e:J0++[.eO ae,.lp 25 u [P.nat 32] jh ji .ready ab J0.length]=m:=by rw [y,B,l0]
    rw [e,l0];exact he
   refine iP (g:=104) (by rw [Bu,l_];simp [bQ]) f_ ?_;rw [l0];rcases W with⟨ps,⟨j7,M,h_⟩,j_,a7⟩ | ⟨p,A,I,c1,c2,c3,c5⟩
   ·have K:H2[5]?=aa (S .ready ab):=by rw [M _ (an q5)];exact q5
    rw [B]at K;refine jO K (by decide) (av ?_);exact k_ u _ [4] g2 g3 Z g5 ((z.cG M).set K (by omega) (by simp) _) fun c hc d hd k h1 F=>by
     obtain⟨p,A,rfl,rfl,rfl⟩:=a7 c hc d hd k h1 F;exact h_ p A
   ·rw [B]at c5;refine oT c5 (by decide) ?_;refine aB (i_ _ _ [4] ae Z g5 ⟨fun _=>⟨p.c,A.ca,p.d,A.db,p.k,A.lo,A.hi,I⟩,fun _=>rfl⟩ (c1.set c5 (by simp)) ?_ ?_ _)
    ·rw [AI (by omega)];exact c2
    ·rw [AI (by omega)];exact c3
  simp [(la _ _ X).1,(la _ _ X).2,-az,i8,i9];refine bp (by simp) ?_;exact early _ (by simp) (by simp) (by simp) (by simp)
 obtain⟨v,⟨r,hr,rfl⟩,h⟩:=key;exact⟨r,hr,h.eq⟩
structure TK(fr ajO:Int)(found:Bool)(X Y:aN)(H:aj):Prop where
 h2:H[2]?=aa (.box [.f (fi fr)] 0)
 h5:H[5]?=aa (.box [.f (fi X.day),.f (fi X.fr),.f (fi X.to)] 0)
 h6:H[6]?=aa (.box [.f (fi Y.day),.f (fi Y.fr),.f (fi Y.to)] 0)
 h7:H[7]?=aa (.box [.f (fi ajO)] 0)
 h8:H[8]?=aa (.box [.f (.bool found)] 0)
theorem TK.cG{fr b:Int}{found:Bool}{X Y:aN}{H H':aj}(h:TK fr b found X Y H)(d:∀ i:Nat,i<9→H'[i]?=H[i]?):TK fr b found X Y H':=
 ⟨by rw [d 2 (by omega)];exact h.h2,by rw [d 5 (by omega)];exact h.h5,by rw [d 6 (by omega)];exact h.h6,by rw [d 7 (by omega)];exact h.h7,by rw [d 8 (by omega)];exact h.h8⟩
def atI(b:Int)(x y:aN):Int:=max (max x.fr y.fr) b
theorem Nu{a b c:Int}:uX ag [vi a,vi b,vi c]=aa (vi (max (max a b) c)):=by
 have d:(if a<b then b else a)=max a b:=by split<;>omega
 have g:(if max a b<c then c else max a b)=max (max a b) c:=by split<;>omega
 simp only [uX,ri,wB];simp [d,g,V.int]
theorem aaF(A b:Int)(found:Bool)(X Y x y:aN)(H:aj)(h:TK A b found X Y H) :
  ∃ H',Ev tab (.fn 212) [.a (x.row.map .f),.a (y.row.map .f),.c (.ptr 2 0 0),.c (.ptr 8 0 0),.c (.ptr 7 0 0),.c (.ptr 5 0 0),.c (.ptr 6 0 0)] H (.t []) H' ∧
   (∃ q m X' Y',TK A q m X' Y' H')∧H.length≤H'.length∧∀ i:Nat,i<H.length→i<5∨8<i→H'[i]?=H[i]?:=by
 have l8:=an h.h8;have b_:max (max x.fr y.fr) A=atI A x y:=rfl;obtain⟨r,H',he,rfl,hP⟩:∃ r H',Ev tab (.fn 212) [.a (x.row.map .f),.a (y.row.map .f),.c (.ptr 2 0 0),.c (.ptr 8 0 0),.c (.ptr 7 0 0),.c (.ptr 5 0 0),.c (.ptr 6 0 0)] H r H'∧(r=.t [] ∧
   (∃ q m X' Y',TK A q m X' Y' H')∧H.length≤H'.length∧∀ i:Nat,i<H.length→i<5∨8<i→H'[i]?=H[i]?):=by
  have o1:=tL x X;have o2:=tL y Y;simp only [aN.row,aqz,aqK]at o1 o2;have ho:=wG .fs [dN (atI A x y) b,gi x X,gi y Y] (by simp);simp [ints,sl,Tg.fc]at ho;have U:=fL (atI A x y) b;refine cB rfl rfl fun Q hQ=>?_;apply ai;simp [aN.row];obtain⟨d,s⟩:=aK (H++[bo.box [.f (fi x.day),.f (fi x.fr),.f (fi x.to)] 0,.box [.f (fi y.day),.f (fi y.fr),.f (fi y.to)] 0]);obtain⟨g,M⟩:=aK (H.length);have hT:TK A b found X Y d:=h.cG fun i hi=>by rw [s,AT (by omega)]
  have c7:d[g]?=aa (.box [.f (fi x.day),.f (fi x.fr),.f (fi x.to)] 0):=by rw [s,M];simp
  have c8:d[g+1]?=aa (.box [.f (fi y.day),.f (fi y.fr),.f (fi y.to)] 0):=by rw [s,M,IS (by omega)];simp
  have kA:∀ i:Nat,i<H.length→d[i]?=H[i]?:=fun i hi=>by rw [s,AT hi]
  have lA:d.length=g+2:=by rw [s,api,M];rfl
  rw [←s,←M];have m7:∀ J:aj,J[g]?=aa (.box [.f (fi x.day),.f (fi x.fr),.f (fi x.to)] 0)→aU J ab (.c (.ptr g 1 0))=aa (vi x.fr)∧aU J ab (.c (.ptr g 2 0))=aa (vi x.to)∧aU J (aa 3) (.c (.ptr g 0 0))=aa (.a [.f (fi x.day),.f (fi x.fr),.f (fi x.to)]):=fun J h=>by refine⟨?_,?_,?_⟩<;>simp [aU,aF,h,aT]
  have m8:∀ J:aj,J[g+1]?=aa (.box [.f (fi y.day),.f (fi y.fr),.f (fi y.to)] 0)→aU J ab (.c (.ptr (g+1) 1 0))=aa (vi y.fr)∧aU J ab (.c (.ptr (g+1) 2 0))=aa (vi y.to)∧aU J (aa 3) (.c (.ptr (g+1) 0 0))=aa (.a [.f (fi y.day),.f (fi y.fr),.f (fi y.to)]):=fun J h=>by refine⟨?_,?_,?_⟩<;>simp [aU,aF,h,aT]
  obtain⟨x1,x2,x3⟩:=m7 d c7;obtain⟨y1,y2,y3⟩:=m8 d c8;have g_:aU d ab (.c (.ptr 2 0 0))=aa (vi A):=by simp [aU,aF,hT.h2]
  have f_:aU d ab (.c (.ptr 7 0 0))=aa (vi b):=by simp [aU,aF,hT.h7]
  have h_:aU d (aa 3) (.c (.ptr 5 0 0))=aa (.a [.f (fi X.day),.f (fi X.fr),.f (fi X.to)]):=by simp [aU,aF,hT.h5,aT]
  have i4:aU d (aa 3) (.c (.ptr 6 0 0))=aa (.a [.f (fi Y.day),.f (fi Y.fr),.f (fi Y.to)]):=by simp [aU,aF,hT.h6,aT]
  have c_:aU d ab (.c (.ptr 8 0 0))=aa (vb found):=by simp [aU,aF,hT.h8]
  obtain⟨l,d_⟩:=aK (atI A x y);rw [←d_]at b_ ho U;have no:∀(t:T) (J:aj),True→(∀ i:Nat,i<d.length→J[i]?=d[i]?)→d.length≤J.length→(∀ j:Option aE,Q j ⟨t,[],J⟩):=by
   intro t J hu hJ hl j;refine hQ _ _ _ rfl rfl ⟨rfl,?_,by show H.length≤J.length;omega,fun i hi _=>by show J[i]?=_;rw [hJ i (by omega),kA i hi]⟩;exact⟨_,_,_,_,hT.cG fun i hi=>hJ i (by omega)⟩
  apply ai;simp [x1,y1,g_,-az,Nu,b_]
  suffices a7:∀ t:T,t.g 3=.c (.ptr 8 0 0)→t.g 4=.c (.ptr 7 0 0)→t.g 5=.c (.ptr 5 0 0)→t.g 6=.c (.ptr 6 0 0)→t.g 7=.c (.ptr g 0 0)→t.g 8=.c (.ptr (g+1) 0 0)→t.g 9=vi l→WP tab 212 ab [.code WR] ⟨t,[],d⟩ Q by exact a7 _ (by simp) (by simp) (by simp) (by simp) (by simp) (by simp) (by simp)
  intro t g3 O g5 g6 v z B;apply ak;apply ai;by_cases c1:2251799813685248<x.to
  ·simp [v,x2,c1,-az];refine aq (by simp) ?_;exact aB (no _ d trivial (fun _ _=>rfl) (aft _) _)
  by_cases c2:2251799813685248<y.to
  ·simp [v,z,x2,y2,c1,c2,-az];refine aq (by simp) ?_;exact aB (no _ d trivial (fun _ _=>rfl) (aft _) _)
  by_cases c3:min x.to y.to≤l
  ·simp [v,z,B,x2,y2,c1,c2,c3,-az];refine aq (by simp) ?_;exact aB (no _ d trivial (fun _ _=>rfl) (aft _) _)
  simp [v,z,B,x2,y2,c1,c2,c3,-az];refine bp (by simp) ?_;have d9:∀(t:T) (J:aj),True→t.g 3=.c (.ptr 8 0 0)→t.g 4=.c (.ptr 7 0 0)→t.g 5=.c (.ptr 5 0 0)→t.g 6=.c (.ptr 6 0 0)→t.g 7=.c (.ptr g 0 0)→t.g 8=.c (.ptr (g+1) 0 0)→t.g 9=vi l→(∀ i:Nat,i<d.length→J[i]?=d[i]?)→d.length≤J.length→WP tab 212 ab [.code Dh] ⟨t,[],J⟩ Q:=by
   intro t J hu g3 O g5 g6 v z B hJ hl;have u:=hT.cG (H':=J) fun i hi=>hJ i (by omega);have d7:J[g]?=aa (.box [.f (fi x.day),.f (fi x.fr),.f (fi x.to)] 0):=by rw [hJ g (by omega)];exact c7
   have d8:J[g+1]?=aa (.box [.f (fi y.day),.f (fi y.fr),.f (fi y.to)] 0):=by rw [hJ (g+1) (by omega)];exact c8
   obtain⟨-,-,x3⟩:=m7 J d7;obtain⟨-,-,y3⟩:=m8 J d8;obtain⟨N,F⟩:=aK (J.set 7 (.box [.f (fi l)] 0));have s1:cZ J (.ptr 7 0 0) [.f (fi l)]=aa N:=by rw [F];simp [cZ,u.h7,over]
   have W:∀ i:Nat,i≠7→N[i]?=J[i]?:=fun i hi=>by rw [F,AI (Ne.symm hi)]
   have n1:N.length=J.length:=by rw [F];simp
   obtain⟨Z,I⟩:=aK (N.set 5 (.box [.f (fi x.day),.f (fi x.fr),.f (fi x.to)] 0));have s2:cZ N (.ptr 5 0 0) [.f (fi x.day),.f (fi x.fr),.f (fi x.to)]=aa Z:=by rw [I];simp [cZ,W 5 (by omega),u.h5,over]
   have k2:∀ i:Nat,i≠5→Z[i]?=N[i]?:=fun i hi=>by rw [I,AI (Ne.symm hi)]
   have n2:Z.length=J.length:=by rw [I];simp [n1]
   obtain⟨J3,K⟩:=aK (Z.set 6 (.box [.f (fi y.day),.f (fi y.fr),.f (fi y.to)] 0));have s3:cZ Z (.ptr 6 0 0) [.f (fi y.day),.f (fi y.fr),.f (fi y.to)]=aa J3:=by rw [K];simp [cZ,k2 6 (by omega),W 6 (by omega),u.h6,over]
   have k3:∀ i:Nat,i≠6→J3[i]?=Z[i]?:=fun i hi=>by rw [K,AI (Ne.symm hi)]
   have n3:J3.length=J.length:=by rw [K];simp [n2]
   obtain⟨J4,L⟩:=aK (J3.set 8 (.box [.f (.bool ae)] 0));have s4:cZ J3 (.ptr 8 0 0) [.f (.bool ae)]=aa J4:=by rw [L];simp [cZ,k3 8 (by omega),k2 8 (by omega),W 8 (by omega),u.h8,over]
   have k4:∀ i:Nat,i≠8→J4[i]?=J3[i]?:=fun i hi=>by rw [L,AI (Ne.symm hi)]
   have i9:=an u.h7;have i_:8<g:=by omega
   obtain⟨-,-,i5⟩:=m7 N (by rw [W g (by omega)];exact d7);obtain⟨-,-,i6⟩:=m8 N (by rw [W (g+1) (by omega)];exact d8);obtain⟨-,-,i7⟩:=m8 Z (by rw [k2 (g+1) (by omega),W (g+1) (by omega)];exact d8);refine eT (.inl rfl) ?_ ?_
   case refine_2=>
    intro cc f7;have e_:cc=(1,4)∨cc=(2,4)∨cc=(2,5):=by simpa using f7
    rcases e_ with rfl | rfl | rfl
    ·refine⟨by decide,_,rfl,.inl ⟨by decide,?_⟩⟩;simp [O,v,z,B,x3,y3,i5,s1,-az,-bf,fA,V.beq,C.beq,FC.beq]
    ·refine⟨by decide,_,rfl,.inl ⟨by decide,?_⟩⟩;simp [O,v,z,B,x3,y3,i6,s1,-az,-bf,fA,V.beq,C.beq,FC.beq]
    ·refine⟨by decide,_,rfl,.inl ⟨by decide,?_⟩⟩;simp [O,g5,v,z,B,x3,y3,i7,s1,s2,-az,-bf,fA,V.beq,C.beq,FC.beq]
   simp [g3,O,g5,g6,v,z,B,x3,y3,s1,s2,s3,s4,-az,-bf];refine cD (hQ _ _ _ rfl rfl ⟨rfl,?_,by show H.length≤J4.length;rw [L];simp;omega,fun i hi i8=>?_⟩)
   ·refine⟨l,ae,x,y,?_,?_,?_,?_,?_⟩
    ·rw [k4 2 (by omega),k3 2 (by omega),k2 2 (by omega),W 2 (by omega)];exact u.h2
    ·rw [k4 5 (by omega),k3 5 (by omega),I];exact IN (by omega)
    ·rw [k4 6 (by omega),K];exact IN (by omega)
    ·rw [k4 7 (by omega),k3 7 (by omega),k2 7 (by omega),F];exact IN (by omega)
    ·rw [L];exact IN (by omega)
   ·show J4[i]?=_;rw [k4 i (by omega),k3 i (by omega),k2 i (by omega),W i (by omega),hJ i (by omega),kA i hi]
  apply ak;cases found with
  | false=>
   refine al (.inl rfl) ?_;simp [g3,c_,-az];refine aq (by simp) ?_;exact d9 _ d trivial (by simp [g3]) (by simp [O]) (by simp [g5]) (by simp [g6]) (by simp [v]) (by simp [z]) (by simp [B]) (fun _ _=>rfl) (aft _)
  | true=>
   obtain⟨HB,E⟩:=aK (d++[bo.box [.f (fi (dN l b)),.f (fi (gi x X)),.f (fi (gi y Y))] 0]);have a_:HB[d.length]?=aa (.box [.f (fi (dN l b)),.f (fi (gi x X)),.f (fi (gi y Y))] 0):=by rw [E];simp
   have b9:ef 64 HB (.sl d.length 0 3 3 0 1)=aa (.fs [fi (dN l b),fi (gi x X),fi (gi y Y)] 3):=by
    rw [show(64:Nat)=63+1 from rfl];simp only [kI,a_];rfl
   obtain⟨HC,a8⟩:=aK (fT 64 (.sl d.length 0 3 3 0 1) HB);have S:HC=HB.set d.length (.box [.f (fi (dN l b)),.f (fi (gi x X)),.f (fi (gi y Y))] 3):=by
    rw [a8,show(64:Nat)=63+1 from rfl];simp only [oY,a_];rfl
   have kC:∀ i:Nat,i<d.length→HC[i]?=d[i]?:=fun i hi=>by rw [S,AI (by omega),E,AT hi]
   have lC:d.length≤HC.length:=by rw [S,aqE,E,api];omega
   obtain⟨oo,f8⟩:=aK (An [dN l b,gi x X,gi y Y]);rw [←f8]at ho;refine al (.inl rfl) ?_;simp [g3,O,g5,g6,v,z,B,c_,f_,h_,i4,x3,y3,-az,U,o1,o2,←E,b9,deep,ho,←a8];by_cases k:oo<0
   ·refine aq (by simp [k]) ?_;exact d9 _ HC trivial (by simp [g3]) (by simp [O]) (by simp [g5]) (by simp [g6]) (by simp [v]) (by simp [z]) (by simp [B]) kC lC
   ·refine bp (by simp [k]) ?_;exact cD (no _ HC trivial kC lC ab)
 exact⟨H',he,hP⟩
theorem uE(g j l:FC)(len mi d:Int)(u:0≤len)(m:len≤10080)(v:-4320≤mi)(q:mi≤4320) :
  bh tab 213 [.a [.f g,.f (fi len),.f j],.a [.f l,.f (fi mi)],vi d]=Eq (vb (decide (d≤(2251799813685248-mi-len) / 1440))):=Kf.eq (by
 refine cF rfl rfl fun H Q s=>?_;apply ai;simp;apply ai;simp [aV (n:=2251799813685248-mi),aV (n:=2251799813685248-mi-len),lQ (a:=2251799813685248-mi-len) (b:=1440) (by omega) (by omega) (by omega)];refine aB (s _ _ ?_);simp)
def A3:C:=.cl 212 [.ptr 2 0 0,.ptr 8 0 0,.ptr 7 0 0,.ptr 5 0 0,.ptr 6 0 0]
structure FQ(a b:aR)(fr:Int)(J:aj):Prop where
 h0:J[0]?=aa (.box (mb a) 0)
 h1:J[1]?=aa (.box (mb b) 0)
 h3:J[3]?=aa (.box [.f (fi 0),.f (fi 0),.f (fi 0)] 0)
 h4:J[4]?=aa (.box [.f (fi 0),.f (fi 0),.f (fi 0)] 0)
 h9:J[9]?=aa (.box [A3] 0)
 tk:∃ ajO found X Y,TK fr ajO found X Y J
theorem FQ.cG{a b:aR}{fr:Int}{J J':aj}(h:FQ a b fr J)(d:∀ i:Nat,i<10→J'[i]?=J[i]?):FQ a b fr J':=
 ⟨by rw [d 0 (by omega)];exact h.h0,by rw [d 1 (by omega)];exact h.h1,by rw [d 3 (by omega)];exact h.h3,by rw [d 4 (by omega)];exact h.h4,by rw [d 9 (by omega)];exact h.h9,let ⟨_,_,_,_,g⟩:=h.tk;⟨_,_,_,_,g.cG fun i hi=>d i (by omega)⟩⟩
structure FT(t:T):Prop where
 g3:t.g 3=.c (.ptr 0 0 0)
 g4:t.g 4=.c (.ptr 1 0 0)
 g5:t.g 5=.c (.ptr 2 0 0)
 g6:t.g 6=.c (.ptr 3 0 0)
 g7:t.g 7=.c (.ptr 4 0 0)
 g9:t.g 9=.c (.ptr 5 0 0)
 g10:t.g 10=.c (.ptr 6 0 0)
 g12:t.g 12=.c (.ptr 8 0 0)
 g13:t.g 13=.c (.ptr 9 0 0)
theorem aaG{a b:aR}{j:Int}{J:aj}(h:FQ a b j J)(x y:aN):∃ J',Ev tab (.fn 212) [.a (x.row.map .f),.a (y.row.map .f),.c (.ptr 2 0 0),.c (.ptr 8 0 0),.c (.ptr 7 0 0),.c (.ptr 5 0 0),.c (.ptr 6 0 0)] J (.t []) J'∧FQ a b j J'∧J.length≤J'.length∧∀ i:Nat,8<i→i<J.length→J'[i]?=J[i]?:=by
 obtain⟨g,found,X,Y,u⟩:=h.tk;obtain⟨J',q,m,s,d⟩:=aaF j g found X Y x y J u;have z:=an h.h9;exact⟨J',q,⟨by rw [d 0 (by omega) (by omega)];exact h.h0,by rw [d 1 (by omega) (by omega)];exact h.h1,by rw [d 3 (by omega) (by omega)];exact h.h3,by rw [d 4 (by omega) (by omega)];exact h.h4,by rw [d 9 (by omega) (by omega)];exact h.h9,m⟩,s,fun i v l=>d i l (by omega)⟩
def aj2(a b:aR)(p:Pr):Int:=min (p.c.min+a.len) (p.k*1440+p.d.min+b.len)
def n0P(a b:aR)(d:Int)(p:Pr):Int:=max 0 ((d-aj2 a b p) / 1440+1-max 0 (-p.k))
def Ys(a:aR)(p:Pr)(e:Int):aN:=ft a.len p.c.min (e+max 0 (-p.k))
def Yt(b:aR)(p:Pr)(e:Int):aN:=ft b.len p.d.min (e+max 0 (-p.k)+p.k)
theorem CC(a b:aR)(ha:rA a)(hb:rA b){q:Int}(f0:-2251799813685248≤q)(f1:q≤100000000000000){M:T}(A:FT M){p:Pr}(N:pU a b p){J:aj}(hq:FQ a b q J)(a8:J[10]?=aa (.eO ae))(I:J[11]?=aa (.lp 138 M [P.nat 47] fW fX .ready ab 10)) :
  ∃ r J',Ev tab (.yield 11) [.a p.row] J r J'∧(r=vb ae∧FQ a b q J'∧J'[10]?=aa (.eO ae)∧J'[11]?=aa (.lp 138 M [P.nat 47] fW fX .ready ab 10)∧J.length≤J'.length∧∀ i:Nat,12≤i→i<J.length→J'[i]?=J[i]?):=by
 obtain⟨i9,i_⟩:=ha.len;obtain⟨j4,j5⟩:=hb.len;have i4:=ha.min N.ca;have i5:=hb.min N.db;have b_:=N.lo;have b9:=N.hi;unfold Ac at b_;unfold zP at b9;have kb:-20≤p.k∧p.k≤20:=by omega
 obtain⟨z,K⟩:=aK (aj2 a b p);have h_:-100000≤z∧z≤100000:=by rw [K];unfold aj2;omega
 have U:min (p.c.min+a.len) (p.k*1440+p.d.min+b.len)=z:=K.symm;obtain⟨l,x⟩:=aK (max 0 (-p.k));have g_:0≤l∧l≤20:=by omega
 obtain⟨n,hn⟩:=aK (n0P a b q p);have c_:max 0 ((q-z) / 1440+1-l)=n:=by rw [hn,K,x];rfl
 have i8:0≤n∧n≤1000000000000:=by omega
 obtain⟨e,f,hm,i6,y⟩:=wC p.gx p.gy p.xs p.ys N.xo N.yo n (by omega) (by omega);refine fO (tab:=tab) (b:=11) (args:=[.a p.row]) (H:=J) I rfl fun Q' S=>?_;obtain⟨d,u⟩:=aK (J.length);obtain⟨O,v⟩:=aK (J++[bo.box p.row 0]);have f7:=an I;have a7:O[d]?=aa (.box p.row 0):=by rw [v,u];simp
 have k1:∀ i:Nat,i<J.length→O[i]?=J[i]?:=fun i hi=>by rw [v,AT hi]
 have l1:O.length=d+1:=by rw [v,api,u];rfl
 have d_:p.row.length=8:=rfl;refine al (.inr rfl) ?_;simp [d_];rw [←v,←u];have f_:O[11]?=aa (.lp 138 M [P.nat 47] fW fX .ready ab 10):=by rw [k1 11 f7];exact I
 refine mw f_ ?_;obtain⟨g,s⟩:=aK (O.set 11 (.lp 138 M [P.nat 47] fW fX .busy ab 10));have Z:∀ i:Nat,i<J.length→i≠11→g[i]?=J[i]?:=fun i hi d9=>by rw [s,AI (Ne.symm d9),k1 i hi]
 have j:g[d]?=aa (.box p.row 0):=by rw [s,AI (by omega)];exact a7
 have F:g[11]?=aa (.lp 138 M [P.nat 47] fW fX .busy ab 10):=by rw [s];exact IN (by omega)
 have Q:g[10]?=aa (.eO ae):=by rw [Z 10 (by omega) (by omega)];exact a8
 have m:FQ a b q g:=hq.cG fun i hi=>Z i (by omega) (by omega);have l2:g.length=d+1:=by rw [s,aqE];exact l1
 rw [←s];unfold Pr.row at j;rw [←x]at j;have c0:aU g ab (.c (.ptr d 1 0))=aa (vi p.c.min):=by simp [aU,aF,j]
 have c1:aU g ab (.c (.ptr d 4 0))=aa (vi p.k):=by simp [aU,aF,j]
 have c2:aU g ab (.c (.ptr d 3 0))=aa (vi p.d.min):=by simp [aU,aF,j]
 have c3:aU g ab (.c (.ptr d 7 0))=aa (vi l):=by simp [aU,aF,j]
 have c4:aU g (aa 1) (.c (.ptr d 5 0))=aa (.a [.f (sl p.gx (aI p.xs))]):=by simp [aU,aF,j,aT]
 have c5:aU g (aa 1) (.c (.ptr d 6 0))=aa (.a [.f (sl p.gy (aI p.ys))]):=by simp [aU,aF,j,aT]
 have c6:aU g (aa 2) (.c (.ptr d 0 0))=aa (.a [.f (sl p.c.mg (aI p.c.ts)),.f (fi p.c.min)]):=by simp [aU,aF,j,aT]
 have c7:aU g (aa 2) (.c (.ptr d 2 0))=aa (.a [.f (sl p.d.mg (aI p.d.ts)),.f (fi p.d.min)]):=by simp [aU,aF,j,aT]
 have a1:aU g ab (.c (.ptr 0 1 0))=aa (vi a.len):=by simp [aU,aF,m.h0,mb]
 have a3:aU g (aa 3) (.c (.ptr 0 0 0))=aa (.a [.f (sl a.cg (aL a.cs)),.f (fi a.len),.f (sl a.xg (aH a.xs))]):=by simp [aU,aF,m.h0,mb,aT]
 have b1:aU g ab (.c (.ptr 1 1 0))=aa (vi b.len):=by simp [aU,aF,m.h1,mb]
 have b3:aU g (aa 3) (.c (.ptr 1 0 0))=aa (.a [.f (sl b.cg (aL b.cs)),.f (fi b.len),.f (sl b.xg (aH b.xs))]):=by simp [aU,aF,m.h1,mb,aT]
 have f2:aU g ab (.c (.ptr 2 0 0))=aa (vi q):=by
  obtain⟨_,_,_,_,ht⟩:=m.tk;simp [aU,aF,ht.h2]
 have f9:aU g ab (.c (.ptr 9 0 0))=aa (.c A3):=by simp [aU,aF,m.h9]
 have fl:=th (q-z) (by omega) (by omega);have B:=uE (sl a.cg (aL a.cs)) (sl a.xg (aH a.xs)) (sl p.c.mg (aI p.c.ts)) a.len p.c.min (e+l) (by omega) (by omega) (by omega) (by omega);have E:=uE (sl b.cg (aL b.cs)) (sl b.xg (aH b.xs)) (sl p.d.mg (aI p.d.ts)) b.len p.d.min (e+l+p.k) (by omega) (by omega) (by omega) (by omega);rw [decide_eq_true (show e+l≤(2251799813685248-p.c.min-a.len) / 1440 by omega)]at B;rw [decide_eq_true (show e+l+p.k≤(2251799813685248-p.d.min-b.len) / 1440 by omega)]at E;have W:=zG (sl a.cg (aL a.cs)) (sl a.xg (aH a.xs)) (sl p.c.mg (aI p.c.ts)) a.len p.c.min (e+l) (by unfold kS;omega) (by unfold kS;omega) (by unfold kS;omega);have X:=zG (sl b.cg (aL b.cs)) (sl b.xg (aH b.xs)) (sl p.d.mg (aI p.d.ts)) b.len p.d.min (e+l+p.k) (by unfold kS;omega) (by unfold kS;omega) (by unfold kS;omega);have hX:ft a.len p.c.min (e+l)=Ys a p e:=by unfold Ys;rw [←x]
 have hY:ft b.len p.d.min (e+l+p.k)=Yt b p e:=by unfold Yt;rw [←x]
 rw [hX]at W;rw [hY]at X;refine aG ?_;refine ak (al (.inr rfl) ?_);simp [A.g3,A.g4,c0,c1,c2,a1,b1,-az,aV (n:=p.c.min+a.len),aV (n:=p.k*1440),aV (n:=p.k*1440+p.d.min),aV (n:=p.k*1440+p.d.min+b.len),U];refine ak (al (.inr rfl) ?_);simp [A.g5,f2,c3,-az,aV (n:=q-z),fl,aV (n:=(q-z) / 1440+1),aV (n:=(q-z) / 1440+1-l),c_];refine ak (al (.inr rfl) ?_);simp [c4,c5,-az,y];apply ak;cases f with
 | false=>
  refine al (.inr rfl) ?_;simp;refine bp (by simp) ?_;refine av (cD (S _ _ _ _ _ _ _ _ _ _ rfl F ⟨rfl,?_,?_,IN (an F),by show J.length≤(g.set 11 _).length;rw [aqE];omega,fun i h1 h2=>?_⟩))
  ·exact m.cG fun i hi=>by rw [AI (by omega)]
  ·rw [AI (by omega)];exact Q
  ·rw [AI (by omega),Z i h2 (by omega)]
 | true=>
  obtain⟨J3,a_,e_,i7,L⟩:=aaG m (Ys a p e) (Yt b p e);refine al (.inr rfl) ?_;simp [A.g3,A.g4,a3,b3,c1,c3,c6,c7,-az,aV (n:=e+l),aV (n:=e+l+p.k),B,E];refine aq (by simp) ?_;refine al (.inr rfl) ?_;simp [A.g3,A.g4,A.g13,f9,a3,b3,c1,c3,c6,c7,-az,aV (n:=e+l),aV (n:=e+l+p.k),W,X,A3,a_.eq];have Y:J3[11]?=aa (.lp 138 M [P.nat 47] fW fX .busy ab 10):=by rw [L 11 (by omega) (by omega)];exact F
  have f8:J3[10]?=aa (.eO ae):=by rw [L 10 (by omega) (by omega)];exact Q
  refine av (cD (S _ _ _ _ _ _ _ _ _ _ rfl Y ⟨rfl,?_,?_,IN (an Y),by show J.length≤(J3.set 11 _).length;rw [aqE];omega,fun i h1 h2=>?_⟩))
  ·exact e_.cG fun i hi=>by rw [AI (by omega)]
  ·rw [AI (by omega)];exact f8
  ·rw [AI (by omega),L i (by omega) (by omega),Z i h2 (by omega)]
def FW(a b:aR)(g:Int)(d:List Nat)(J:aj):Prop:=FQ a b g J∧fk d J∧∀ i ∈ d,10≤i∧i<J.length
theorem YT{t:T}{n:Nat}{v:V}(A:n ∉ [3,4,5,6,7,9,10,12,13]):FT (t.s n v)↔FT t:=by
 simp only [aqA,ard,or_false,not_or]at A;obtain⟨q,s,u,x,y,z,j,l,m⟩:=A;constructor
 ·rintro⟨a,b,c,d,e,f,g,h,i⟩;refine⟨?_,?_,?_,?_,?_,?_,?_,?_,?_⟩
  ·simpa [q]using a
  ·simpa [s]using b
  ·simpa [u]using c
  ·simpa [x]using d
  ·simpa [y]using e
  ·simpa [z]using f
  ·simpa [j]using g
  ·simpa [l]using h
  ·simpa [m]using i
 ·rintro⟨a,b,c,d,e,f,g,h,i⟩;refine⟨?_,?_,?_,?_,?_,?_,?_,?_,?_⟩
  ·simpa [q]using a
  ·simpa [s]using b
  ·simpa [u]using c
  ·simpa [x]using d
  ·simpa [y]using e
  ·simpa [z]using f
  ·simpa [j]using g
  ·simpa [l]using h
  ·simpa [m]using i
theorem MV(a b:aR)(ha:rA a)(hb:rA b)(m:Int)(f0:-2251799813685248≤m)(f1:m≤100000000000000) :
  ∃(X Y:aN) (found:Bool),bh tab 138 [.a (a.row.map .f),.a (b.row.map .f),vi m]=Eq (.t [.a (X.row.map .f),.a (Y.row.map .f),vb found]):=by
 obtain⟨r,⟨X,Y,found,rfl⟩,h⟩:∃ r,(∃(X Y:aN) (found:Bool),r=.t [.a (X.row.map .f),.a (Y.row.map .f),vb found])∧bh tab 138 [.a (a.row.map .f),.a (b.row.map .f),vi m] r:=by
  refine wK ao6 rfl fun Q hQ=>?_;have M:=(iR a ha.sm).eq;rw [ha.v]at M;simp [aR.row]at M;have N:=(iR b hb.sm).eq;rw [hb.v]at N;simp [aR.row]at N;have f7:max m (-2251799813685248)=m:=by omega
  apply ai;simp [aR.row];apply ak;apply ai;simp [M,N,show¬ 2251799813685248<m by omega];refine bp (by simp) ?_;apply ai;simp [f7];apply ai;simp;apply ai;simp;apply ai;simp;obtain⟨q,y⟩:=aK ([.box (mb a) 0,.box (mb b) 0,.box [.f (fi m)] 0,.box [.f (fi 0),.f (fi 0),.f (fi 0)] 0,.box [.f (fi 0),.f (fi 0),.f (fi 0)] 0,.box [.f (fi 0),.f (fi 0),.f (fi 0)] 0,.box [.f (fi 0),.f (fi 0),.f (fi 0)] 0,.box [.f (fi 0)] 0,.box [.f (.bool ag)] 0,.box [A3] 0]:aj);have L:FQ a b m q:=by rw [y];exact⟨rfl,rfl,rfl,rfl,rfl,0,ag,⟨0,0,0⟩,⟨0,0,0⟩,⟨rfl,rfl,rfl,rfl,rfl⟩⟩
  have l0:q.length=10:=by rw [y];rfl
  unfold mb A3 at y;rw [←y];have la:∀(J:aj),FQ a b m J→aU J (aa 3) (.c (.ptr 0 0 0))=aa (.a [.f (sl a.cg (aL a.cs)),.f (fi a.len),.f (sl a.xg (aH a.xs))])∧aU J ab (.c (.ptr 0 2 0))=aa (.c (.f (sl a.xg (aH a.xs)))):=fun J h=>by refine⟨?_,?_⟩<;>simp [aU,aF,h.h0,mb,aT]
  have lb:∀(J:aj),FQ a b m J→aU J (aa 3) (.c (.ptr 1 0 0))=aa (.a [.f (sl b.cg (aL b.cs)),.f (fi b.len),.f (sl b.xg (aH b.xs))])∧aU J ab (.c (.ptr 1 2 0))=aa (.c (.f (sl b.xg (aH b.xs)))):=fun J h=>by refine⟨?_,?_⟩<;>simp [aU,aF,h.h1,mb,aT]
  have mM:∀ H:aj,bu H (.f (sl a.xg (aH a.xs)))=aa a.xs.length:=fun H=>by simp
  have a_:∀ H:aj,bu H (.f (sl b.xg (aH b.xs)))=aa b.xs.length:=fun H=>by simp
  have b9:∀(t:T) (J:aj) (l:List Nat),FT t→FW a b m l J→WP tab 138 ab [.code Df] ⟨t,l.map .gm,J⟩ Q:=by
   rintro t J l d ⟨x,a7,I⟩;obtain⟨h_,found,X,Y,ht⟩:=x.tk;have l9:=an x.h9;have lx:∀ J':aj,J'[5]?=J[5]?→aU J' (aa 3) (.c (.ptr 5 0 0))=aa (.a [.f (fi X.day),.f (fi X.fr),.f (fi X.to)]):=fun J' h=>by simp [aU,aF,h,ht.h5,aT]
   have ly:∀ J':aj,J'[6]?=J[6]?→aU J' (aa 3) (.c (.ptr 6 0 0))=aa (.a [.f (fi Y.day),.f (fi Y.fr),.f (fi Y.to)]):=fun J' h=>by simp [aU,aF,h,ht.h6,aT]
   have W:∀ J':aj,J'[8]?=J[8]?→aU J' ab (.c (.ptr 8 0 0))=aa (vb found):=fun J' h=>by simp [aU,aF,h,ht.h8]
   obtain⟨u,A⟩:=aK (J.set 3 (.box [.f (fi X.day),.f (fi X.fr),.f (fi X.to)] 0));have s1:cZ J (.ptr 3 0 0) [.f (fi X.day),.f (fi X.fr),.f (fi X.to)]=aa u:=by rw [A];simp [cZ,x.h3,over]
   have O:∀ i:Nat,i≠3→u[i]?=J[i]?:=fun i hi=>by rw [A,AI (Ne.symm hi)]
   have n1:u.length=J.length:=by rw [A];simp
   obtain⟨v,B⟩:=aK (u.set 4 (.box [.f (fi Y.day),.f (fi Y.fr),.f (fi Y.to)] 0));have s2:cZ u (.ptr 4 0 0) [.f (fi Y.day),.f (fi Y.fr),.f (fi Y.to)]=aa v:=by rw [B];simp [cZ,O 4 (by omega),x.h4,over]
   have k2:∀ i:Nat,i≠4→v[i]?=u[i]?:=fun i hi=>by rw [B,AI (Ne.symm hi)]
   have n2:v.length=J.length:=by rw [B];simp [n1]
   refine ak (eT (.inl rfl) ?_ ?_)
   case refine_2=>
    intro cc d9;have c_:cc=(1,4)∨cc=(2,4)∨cc=(2,6):=by simpa using d9
    rcases c_ with rfl | rfl | rfl
    ·refine⟨by decide,_,rfl,.inl ⟨by decide,?_⟩⟩;simp [d.g6,d.g7,d.g9,d.g10,d.g12,lx J rfl,ly J rfl,W J rfl,ly u (O 6 (by omega)),s1,-az,-bf,fA,V.beq,C.beq,FC.beq]
    ·refine⟨by decide,_,rfl,.inl ⟨by decide,?_⟩⟩;simp [d.g6,d.g7,d.g9,d.g10,d.g12,lx J rfl,ly J rfl,W J rfl,W u (O 8 (by omega)),s1,-az,-bf,fA,V.beq,C.beq,FC.beq]
    ·refine⟨by decide,_,rfl,.inl ⟨by decide,?_⟩⟩;simp [d.g6,d.g7,d.g9,d.g10,d.g12,lx J rfl,ly J rfl,W J rfl,W v ((k2 8 (by omega)).trans (O 8 (by omega))),s1,s2,-az,-bf,fA,V.beq,C.beq,FC.beq]
   simp [d.g6,d.g7,d.g9,d.g10,d.g12,lx J rfl,ly J rfl,W J rfl,s1,s2,-az,-bf];have f_:(3:Nat) ∉ l:=fun h=>by have:=(I 3 h).1;omega
   have g_:(4:Nat) ∉ l:=fun h=>by have:=(I 4 h).1;omega
   have e3:(lN l v)[3]?=aa (.box [.f (fi X.day),.f (fi X.fr),.f (fi X.to)] 0):=by rw [gU f_,k2 3 (by omega),A];exact IN (by omega)
   have e4:(lN l v)[4]?=aa (.box [.f (fi Y.day),.f (fi Y.fr),.f (fi Y.to)] 0):=by rw [gU g_,B];exact IN (by omega)
   refine aB (hQ _ _ _ ⟨X,Y,found,rfl⟩ ⟨l,rfl,⟨a7.nd,fun z hz=>?_⟩,.t [.a (X.row.map .f),.a (Y.row.map .f),vb found],?_,by simp [iA,cC,bg,deep,ef,aN.row]⟩)
   ·have:=(I z hz).1;show v[z]?=_;rw [k2 z (by omega),O z (by omega)];exact a7.on z hz
   ·simp [Km.results,cI,bg,d.g6,d.g7,aU,aF,e3,e4,aT,aN.row]
  have U:∀(t:T) (J:aj) (l:List Nat),FT t→FW a b m l J→WP tab 138 ab [.code De] ⟨t,l.map .gm,J⟩ Q:=by
   intro t J l d E;apply ak;apply ai;simp [d.g4,(lb J E.1).2,a_,hb.xs,-az];refine xM 0 (fun _ t ds J=>FT t∧∃ l,ds=l.map .gm∧FW a b m l J) (by omega) (by decide) (by decide) (by simp) (by simp)
    ⟨by simp [YT,d],l,rfl,E⟩ (fun j _ _ _ hj=>by omega) ?_
   rintro t ds J ⟨d,l,rfl,E⟩ - -;exact b9 _ J l (by simp [YT,d]) E
  have S:∀(t:T) (J:aj) (l:List Nat),FT t→FW a b m l J→WP tab 138 ab [.code wY] ⟨t,l.map .gm,J⟩ Q:=by
   intro t J l d E;apply ak;apply ai;simp [d.g3,(la J E.1).2,mM,ha.xs,-az];refine xM 0 (fun _ t ds J=>FT t∧∃ l,ds=l.map .gm∧FW a b m l J) (by omega) (by decide) (by decide) (by simp) (by simp)
    ⟨by simp [YT,d],l,rfl,E⟩ (fun j _ _ _ hj=>by omega) ?_
   rintro t ds J ⟨d,l,rfl,E⟩ - -;exact U _ J l (by simp [YT,d]) E
  suffices start:∀ t:T,FT t→WP tab 138 ab [.code Dc] ⟨t,[],q⟩ Q by exact start _ ⟨by simp,by simp,by simp,by simp,by simp,by simp,by simp,by simp,by simp⟩
  intro t d;have a8:=vS a b;simp only [aR.row,aqz,aqK]at a8;apply ak;apply ai;simp [d.g3,d.g4,(la q L).1,(lb q L).1,-az,a8];refine aG ?_
  suffices go:∀ F:T,FT F→F.g 46=.c (.f (.fn 104 [.fp a.row 0,.fp b.row 0]))→WP tab 138 ab [.code Dd,.inBlock 0,.code wY] ⟨F,[],q⟩ Q by exact go _ (by simp [YT,d]) (by simp [aR.row])
  clear d t;intro F d b_;obtain⟨Z,s⟩:=aK (q++[.eO ae,.lp 138 F [P.nat 47] fW fX .ready ab 10]:aj);have lR:Z.length=12:=by rw [s,api,l0];rfl
  have kR:∀ i:Nat,i<10→Z[i]?=q[i]?:=fun i hi=>by rw [s,AT (by omega)]
  have rd:Z[10]?=aa (.eO ae):=by rw [s,IS (by omega),l0];rfl
  have rl:Z[11]?=aa (.lp 138 F [P.nat 47] fW fX .ready ab 10):=by rw [s,IS (by omega),l0];rfl
  obtain⟨H2,he,ps,⟨x,e1,e2,e3⟩,-,-⟩:=MX (bb:=11) (H:=Z) a b ha hb
   (fun ps J'=>FQ a b m J'∧J'[10]?=aa (.eO ae)∧J'[11]?=aa (.lp 138 F [P.nat 47] fW fX .ready ab 10)∧12≤J'.length)
   ⟨L.cG kR,rd,rl,by omega⟩
   (fun ps u v ⟨x,e1,e2,e3⟩ K hl=>⟨x.cG fun i hi=>K i (by omega),by rw [K 10 (by omega)];exact e1,by rw [K 11 (by omega)];exact e2,by omega⟩)
   (fun ps p u ⟨x,e1,e2,e3⟩ hl hp=>by
    obtain⟨r,v,e_,rfl,f8,O,k2,k3,k4⟩:=CC a b ha hb f0 f1 d hp x e1 e2;exact⟨v,e_,⟨f8,O,k2,by omega⟩,k3,fun i h1 h2=>k4 i (by omega) h2⟩)
  rw [s]at he;have d_:Ev tab (.fn 104) [.c (.yl (q.length+1)),.c (.f (.fp a.row 0)),.c (.f (.fp b.row 0))] (q++[.eO ae,.lp 138 F [P.nat 47] fW fX .ready ab q.length]) (.t []) H2:=by rw [l0];exact he
  refine iP (g:=104) (by rw [Bu,b_];simp [bQ]) d_ ?_;rw [l0];refine jO e2 (by decide) (av ?_);refine S F _ [10] d ⟨x.cG fun i hi=>by rw [AI (by omega)],⟨by simp,fun i hi=>?_⟩,fun i hi=>?_⟩
  ·rw [aqs]at hi;rw [hi,AI (by omega)];exact e1
  ·rw [aqs]at hi;rw [hi,aqE];omega
 exact⟨X,Y,found,h.eq⟩
def qT(n:Int):Int:=ah .i64 n
def Yv(af:Int)(s:aA)(X Y:aN)(f:Bool):List Int:=if f then [15,s.meet,X.day,qT X.fr,qT (X.to-af),Y.day,qT Y.fr,qT (Y.to-af)]else [15,s.meet,0,0,0,0,0,0]
def gA(af:Int)(x:aA)(mt:aA→Bool)(fx fy:aA→aN)(fd:aA→Bool):List aA→List Int
 | []=>[0,0,0,0,0,0,0,0]| s::r=>if s.meet=x.meet∨mt s=ag then gA af x mt fx fy fd r else Yv af s (fx s) (fy s) (fd s)
theorem Dw(af:Int)(s:aA)(X Y:aN)(f:Bool):(Yv af s X Y f).length=8:=by unfold Yv;split<;>rfl
theorem nj(af:Int)(x:aA)(mt:aA→Bool)(fx fy:aA→aN)(fd:aA→Bool):∀ l,(gA af x mt fx fy fd l).length=8
 | []=>rfl| s::r=>by unfold gA;split;exact nj af x mt fx fy fd r;exact Dw ..
theorem ni{af:Int}{x:aA}{mt:aA→Bool}{fx fy:aA→aN}{fd:aA→Bool}:∀ {d l:List aA},(∀ s ∈ d,s.meet=x.meet∨mt s=ag)→gA af x mt fx fy fd (d++l)=gA af x mt fx fy fd l
 | [],_,_=>rfl
 | s::r,l,h=>by
  rw [art,gA,ba (h s aqv)];exact ni fun y b=>h y (aqt _ b)
structure ClQ(H:aj)(cd:List FC)(own:aR)(J:aj):Prop where
 k:Kp H J
 h1:J[H.length]?=aa (.box [.f (.fp cd 0)] 0)
 h2:J[H.length+1]?=aa (.box (([0,0,0,0,0,0,0,0]:List Int).map fun n=>.f (fi n)) 0)
 h3:J[H.length+2]?=aa (.box [.f (fi 0)] 0)
 h4:J[H.length+3]?=aa (.box (own.row.map .f) 0)
 h5:J[H.length+4]?=aa (.box [.f (.bool ae)] 0)
 cl:fk [H.length+5] J
theorem ClQ.cG{H:aj}{j:List FC}{g:aR}{J J':aj}(h:ClQ H j g J)(m:J.length≤J'.length)(d:∀ i:Nat,i<J.length→i≠H.length+6→J'[i]?=J[i]?):ClQ H j g J':=by
 have q:=an (h.cl.on _ aqv);have s:=h.k.1;refine⟨⟨by omega,fun b l=>by rw [d b (by omega) (by omega)];exact h.k.2 b l⟩,?_,?_,?_,?_,?_,⟨h.cl.nd,fun i hi=>?_⟩⟩
 ·rw [d _ (by omega) (by omega)];exact h.h1
 ·rw [d _ (by omega) (by omega)];exact h.h2
 ·rw [d _ (by omega) (by omega)];exact h.h3
 ·rw [d _ (by omega) (by omega)];exact h.h4
 ·rw [d _ (by omega) (by omega)];exact h.h5
 ·rw [aqs.1 hi,d _ (by omega) (by omega)];exact h.cl.on _ aqv
structure ClT(N:Nat)(t:T):Prop where
 g1:t.g 1=.c (.ptr N 0 0)
 g2:t.g 2=.c (.ptr (N+1) 0 0)
 g3:t.g 3=.c (.ptr (N+2) 0 0)
 g4:t.g 4=.c (.ptr (N+3) 0 0)
 g5:t.g 5=.c (.ptr (N+4) 0 0)
theorem qQ{J:aj}{b:Nat}{o:aR}(h:J[b]?=aa (.box (o.row.map .f) 0)):aU J (aa 3) (.c (.ptr b 0 0))=aa (.a (o.row.map .f)):=by
 have:(o.row.map C.f).length=3:=rfl;simp [aU,aF,h,aT,this,aR.row]
theorem zD(af z:Int)(sd:FC)(x:aA)(hx:Mi x)(s:aA)(hs:Mi s)(A o:aR)
  (ho:bh tab 137 [.c (.f (gl af z)),.a (s.row.map .f)]=Eq (.t [.a (o.row.map .f),vb ae]))
  (m:Bool) (hm:bh tab 25 [.a (A.row.map .f),.a (o.row.map .f)]=Eq (.t [vb m,vi 0]))
  (X Y:aN) (fd:Bool) (hf:bh tab 138 [.a (A.row.map .f),.a (o.row.map .f),vi (-2251799813685248)]=Eq (.t [.a (X.row.map .f),.a (Y.row.map .f),vb fd]))
  {H J:aj} {tm:T} (l:ClT H.length tm) (hq:ClQ H ([gl af z,sd]++x.row) A J)
  (h6:J[H.length+6]?=aa (.lp 79 tm [P.nat 41] eQ dZ .ready ab (H.length+5))) :
  ∃(r:Bool) (J':aj),Ev tab (.yield (H.length+6)) [.a (s.row.map .f)] J (vb r) J'∧(if r then(s.meet=x.meet∨m=ag)∧ClQ H ([gl af z,sd]++x.row) A J'∧J'[H.length+6]?=J[H.length+6]? else
   ¬ (s.meet=x.meet∨m=ag)∧Kp H J'∧J'[H.length+1]?=aa (.box ((Yv af s X Y fd).map fun n=>.f (fi n)) 0)∧J'[H.length+2]?=aa (.box [.f (fi 0)] 0)∧fk [H.length+5] J' ∧
    J'[H.length+6]?=aa (.lp 79 tm [P.nat 41] eQ dZ .done (aa .ret) (H.length+5))):=by
 obtain⟨N,hN⟩:=aK (H.length);have y:=rX af z sd x hx.r0 hx.r1;have n_:=lW af z hs.r0 hs.r1;have Z:=fun H:aj=>bF (H:=H) (g:=.fs) (rows:=rows (cJ af z)) (sz:=15) (k:=.i64) (i:=s.room) hs.r0 (by simp [cJ];have:=hs.r1;omega);have h_:=fun H:aj=>bR (H:=H) (fS (cJ af z)) (j:=s.room.toNat) (row:=(cf af z s.room).row) (by rw [rows,aq0,n_];rfl);have NV:=wN af z x.room X;have e_:=wN af z s.room Y;obtain⟨cd,g_⟩:=aK ([gl af z,sd]++x.row);have l0:∀ K:aj,aU K ab (.c (.f (.fp cd 0)))=aa (.c (.f (gl af z))):=fun K=>by rw [g_];rfl
 have l2:∀ K:aj,aU K ab (.c (.f (.fp cd 2)))=aa (vi x.meet):=fun K=>by rw [g_];rfl
 simp only [ea]at y;rw [←g_]at y hq ⊢;obtain⟨rm,s7⟩:=aK (gl af z);change ∀ H:aj,bA H 15 ab (.c (.f (gl af z))) (vi s.room)=_ at Z;change ∀ H:aj,aU H (aa 15) (.c (.f (.fp (rows (cJ af z)).flatten _)))=_ at h_;rw [←s7]at l0 Z ho;obtain⟨rx,s9⟩:=aK ((cf af z x.room).row);obtain⟨rs,s8⟩:=aK ((cf af z s.room).row);rw [←s9]at y NV;rw [←s8]at h_ e_;obtain⟨row,a8⟩:=aK (s.row);have r_:row.length=7:=by rw [a8];rfl
 rw [←a8]at ho ⊢;obtain⟨ow,i_⟩:=aK (A.row);obtain⟨oo,i5⟩:=aK (o.row);have r5:oo.length=3:=by rw [i5];rfl
 obtain⟨xx,j7⟩:=aK (X.row);obtain⟨yy,j9⟩:=aK (Y.row);have j6:xx.length=3:=by rw [j7];rfl
 have j8:yy.length=3:=by rw [j9];rfl
 rw [←i5]at ho hm hf;rw [←i_]at hm hf;rw [←j7]at hf NV;rw [←j9]at hf e_;obtain⟨LP,n9⟩:∃ LP:ej→Option aE→bo,LP=fun st pd=>.lp 79 tm [P.nat 41] eQ dZ st pd (N+5):=⟨_,rfl⟩
 rw [←hN]at h6 l ⊢;have cond:∃ q:Bool,(q=ae↔(s.meet=x.meet∨m=ag)):=⟨decide (s.meet=x.meet∨m=ag),by simp⟩
 obtain⟨q,a7⟩:=cond;refine⟨q,?_⟩;obtain⟨r,J',q_,rfl,h⟩:∃ r J',Ev tab (.yield (N+6)) [.a (row.map .f)] J r J'∧(r=vb q∧(if q then ClQ H cd A J'∧J'[N+6]?=J[N+6]? else
   Kp H J'∧J'[N+1]?=aa (.box ((Yv af s X Y fd).map fun n=>.f (fi n)) 0)∧J'[N+2]?=aa (.box [.f (fi 0)] 0)∧fk [N+5] J' ∧
    J'[N+6]?=aa (.lp 79 tm [P.nat 41] eQ dZ .done (aa .ret) (N+5)))):=by
  have n8:=h6;refine fO (tab:=tab) (b:=N+6) (args:=[.a (row.map .f)]) (H:=J) h6 rfl fun Q' i9=>?_;obtain⟨b6,f_⟩:=aK (J.length);have l6:=an h6;refine al (.inr rfl) ?_;simp [r_];rw [←f_];obtain⟨J1,a_⟩:=aK (J++[bo.box (row.map .f) 0]);rw [←a_];have k1:∀ i:Nat,i<J.length→J1[i]?=J[i]?:=fun i hi=>by rw [a_,AT hi]
  have d1:J1[b6]?=aa (.box (row.map .f) 0):=by rw [a_,f_];simp
  have n1:J1.length=b6+1:=by rw [a_,f_];simp
  have e6:=(k1 _ l6).trans h6;refine mw e6 ?_;obtain⟨v,F⟩:=aK (J1.set (N+6) (LP .busy ab));have n2:v.length=b6+1:=by rw [F,aqE];exact n1
  have k2:∀ i:Nat,i<J.length→i≠N+6→v[i]?=J[i]?:=fun i hi i4=>by rw [F,AI (Ne.symm i4),k1 i hi]
  have q2:ClQ H cd A v:=hq.cG (by omega) fun i hi i4=>k2 i hi (by omega);have d2:v[b6]?=aa (.box (row.map .f) 0):=by rw [F,AI (by omega)];exact d1
  have f6:v[N+6]?=aa (LP .busy ab):=by rw [F];exact IN (an e6)
  rw [n9]at F f6;rw [←F];have f7:∀(t:T) (K:aj),q=ae→v.length≤K.length→(∀ i:Nat,i<v.length→K[i]?=v[i]?)→Q' ab ⟨t,[],K⟩:=by
   intro t K j5 hl I;have p6:K[N+6]?=aa (.lp 79 tm [P.nat 41] eQ dZ .busy ab (N+5)):=by rw [I _ (by omega)];exact f6
   refine i9 _ _ _ _ _ _ _ _ _ _ rfl p6 ⟨by rw [j5];rfl,?_⟩;rw [ba j5];have n:K.length≥b6+1:=by omega
   refine⟨hq.cG (by show J.length≤(K.set _ _).length;rw [aqE];omega) fun i hi i4=>?_,?_⟩
   ·rw [AI (by omega),I i (by omega),k2 i hi (by omega)]
   ·rw [IN (an p6),n8];rfl
  have lc:∀ K:aj,v.length≤K.length→(∀ i:Nat,i<v.length→K[i]?=v[i]?)→aU K ab (.c (.ptr N 0 0))=aa (.c (.f (.fp cd 0)))∧aU K ab (.c (.ptr (N+4) 0 0))=aa (vb ae)∧aU K (aa 3) (.c (.ptr (N+3) 0 0))=aa (.a (ow.map .f))∧aU K (aa 7) (.c (.ptr b6 0 0))=aa (.a (row.map .f))∧aU K ab (.c (.ptr b6 0 0))=aa (vi s.meet)∧aU K ab (.c (.ptr b6 1 0))=aa (vi s.room):=by
   intro K hl I;have y1:=q2.h1;have y4:=q2.h4;have y5:=q2.h5;rw [←hN]at y1 y4 y5;have z1:=(I _ (an y1)).trans y1;have z4:=(I _ (an y4)).trans y4;have z5:=(I _ (an y5)).trans y5;have z6:=(I _ (an d2)).trans d2;rw [i_];rw [a8]at z6 ⊢;exact⟨by simp [aU,aF,z1],by simp [aU,aF,z5],qQ z4,by simp [aU,aF,z6,aT,aA.row],by simp [aU,aF,z6,aA.row],by simp [aU,aF,z6,aA.row]⟩
  obtain⟨a1,a2,a3,a4,a5,a6⟩:=lc v (aft _) fun _ _=>rfl;refine aG ?_;apply ak;refine ak (al (.inr rfl) ?_);simp [l.g1,a1,a5,l2,-az];by_cases d9:s.meet=x.meet
  ·rw [decide_eq_true d9];refine aq (by simp) (bH (k':=[]) (by simp [Km.exitTo]) ?_);exact cD (f7 _ _ (a7.2 (.inl d9)) (aft _) (fun _ _=>rfl))
  rw [decide_eq_false d9];refine bp (by simp) ?_;apply ak;refine al (.inr rfl) ?_;simp [l.g1,a1,a4,l0,ho,r5,-az];obtain⟨L,b9⟩:=aK (v++[bo.box (oo.map .f) 0]);rw [←b9];have k3:∀ i:Nat,i<v.length→L[i]?=v[i]?:=fun i hi=>by rw [b9,AT hi]
  have n3:L.length=v.length+1:=by rw [b9];simp
  have d7:L[v.length]?=aa (.box (oo.map .f) 0):=by rw [b9];simp
  obtain⟨b7,p_⟩:=aK (v.length);rw [←p_]at d7 n3 ⊢;have m7:∀ K:aj,K[b7]?=L[b7]?→aU K (aa 3) (.c (.ptr b7 0 0))=aa (.a (oo.map .f)):=fun K h=>by
   rw [i5]at d7 ⊢;exact qQ (h.trans d7)
  obtain⟨a1,a2,a3,a4,a5,a6⟩:=lc L (by omega) k3;apply ak;refine ak (al (.inr rfl) ?_);simp [l.g5,a2,-az];refine bp (by simp) ?_;refine ak (al (.inr rfl) ?_);simp [l.g4,a3,m7 L rfl,hm,-az];apply ak;refine ak (al (.inr rfl) ?_);simp;refine bp (by simp) ?_;apply ak;refine ak (al (.inr rfl) ?_);simp;cases m with
  | false=>
   refine aq (by simp) (bH (k':=[]) (by simp [Km.exitTo]) ?_);exact cD (f7 _ _ (a7.2 (.inr rfl)) (by omega) k3)
  | true=>
   have j4:q=ag:=by
    cases q with
    | false=>rfl
    | true=>
     rcases a7.1 rfl with h | h
     ·exact absurd h d9
     ·cases h
   refine bp (by simp) ?_;obtain⟨J4,O⟩:=aK (L++[bo.box (([15,s.meet,0,0,0,0,0,0]:List Int).map fun n=>.f (fi n)) 0]);have k4:∀ i:Nat,i<L.length→J4[i]?=L[i]?:=fun i hi=>by rw [O,AT hi]
   have n4:J4.length=L.length+1:=by rw [O];simp
   have i7:J4[L.length]?=aa (.box (([15,s.meet,0,0,0,0,0,0]:List Int).map fun n=>.f (fi n)) 0):=by rw [O];simp
   obtain⟨d,f8⟩:=aK (L.length);simp only [aqz,aqK]at O;apply ak;refine al (.inr rfl) ?_;simp [a5,-az];rw [←O,←f8];rw [←f8]at i7 n4;obtain⟨c1,c2,c3,c4,c5,c6⟩:=lc J4 (by omega) fun i hi=>(k4 i (by omega)).trans (k3 i hi);obtain⟨B,Q⟩:=aK (J4++[bo.box (xx.map .f) 0,bo.box (yy.map .f) 0]);have k5:∀ i:Nat,i<J4.length→B[i]?=J4[i]?:=fun i hi=>by rw [Q,AT hi]
   have n5:B.length=d+3:=by rw [Q,api,n4];rfl
   have k_:B[d+1]?=aa (.box (xx.map .f) 0):=by rw [Q,IS (by omega),n4];simp
   have l_:B[d+2]?=aa (.box (yy.map .f) 0):=by rw [Q,IS (by omega),n4];simp
   refine ak (ak ?_);refine al (.inr rfl) ?_;simp [l.g4,c3,m7 J4 (k4 _ (by omega)),hf,j6,j8,-az];rw [n4,←Q];clear hm ho hf c1 c2 c3 c4 c5 c6 a1 a2 a3 a4 a5 a6
   suffices go:∀ u:T,ClT N u→u.g 6=.c (.ptr b6 0 0)→u.g 11=.c (.ptr d 0 0)→u.g 12=.c (.ptr (d+1) 0 0)→u.g 13=.c (.ptr (d+1+1) 0 0)→u.g 14=vb fd →
     WP tab 79 (aa (N+6)) [.code vq,.code pL,.inBlock 1] ⟨u,[],B⟩ Q' by
    exact go _ ⟨by simp [l.g1],by simp [l.g2],by simp [l.g3],by simp [l.g4],by simp [l.g5]⟩ (by simp) (by simp) (by simp) (by simp) (by simp)
   clear l;intro u l g6 M m4 m9 m_;have i6:∀ i:Nat,i<v.length→B[i]?=v[i]?:=fun i hi=>(k5 i (by omega)).trans ((k4 i (by omega)).trans (k3 i hi));have E:=(k5 d (by omega)).trans i7;have y2:=q2.h2;have y3:=q2.h3;rw [←hN]at y2 y3;have i8:∀(u:T) (K:aj) (zs:List Int),ClT N u→u.g 11=.c (.ptr d 0 0)→zs.length=8→zs=Yv af s X Y fd→B.length≤K.length→(∀ i:Nat,i<v.length→K[i]?=v[i]?)→K[d]?=aa (.box (zs.map fun n=>.f (fi n)) 0) →
     WP tab 79 (aa (N+6)) [.code pL,.inBlock 1] ⟨u,[],K⟩ Q':=by
    intro u K zs l M hz s_ hl I hb;have l8:aU K (aa 8) (.c (.ptr d 0 0))=aa (.a (zs.map fun n=>.f (fi n))):=by
     have:(zs.map fun n=>C.f (fi n)).length=8:=by simpa using hz
     simp [aU,aF,hb,aT,hz,ap1]
    have z2:=(I _ (an y2)).trans y2;have z3:=(I _ (an y3)).trans y3;obtain⟨K1,S⟩:=aK (K.set (N+1) (.box (zs.map fun n=>.f (fi n)) 0));have s1:cZ K (.ptr (N+1) 0 0) (zs.map fun n=>.f (fi n))=aa K1:=by
     rw [S]
     match zs,hz with
     | [p0,p1,p2,p3,p4,p5,p6,p7],_=>simp [cZ,z2,over]
    have j_:K1[N+2]?=aa (.box [.f (fi 0)] 0):=by rw [S,AI (by omega)];exact z3
    obtain⟨K2,U⟩:=aK (K1.set (N+2) (.box [.f (fi 0)] 0));have s2:cZ K1 (.ptr (N+2) 0 0) [.f (fi 0)]=aa K2:=by rw [U];simp [cZ,j_,over]
    have kK:∀ i:Nat,i≠N+1→i≠N+2→K2[i]?=K[i]?:=fun i h1 h2=>by rw [U,AI (Ne.symm h2),S,AI (Ne.symm h1)]
    have kl:K2.length=K.length:=by rw [U,S];simp
    have p6:K2[N+6]?=aa (.lp 79 tm [P.nat 41] eQ dZ .busy ab (N+5)):=by rw [kK _ (by omega) (by omega),I _ (by omega)];exact f6
    refine ak (al (.inr rfl) ?_);simp [M,l.g2,l.g3,l8,hz,s1,s2,-az,-bf];refine aB (i9 _ _ _ _ _ _ _ _ _ _ rfl p6 ⟨by rw [j4];rfl,?_⟩);rw [j4,aW (by simp)];have W:=q2.cl.on _ aqv;rw [←hN]at W;refine⟨⟨?_,fun b o_=>?_⟩,?_,?_,⟨by simp,fun i hi=>?_⟩,IN (an p6)⟩
    ·show H.length≤(K2.set _ _).length;rw [aqE,kl];have:=q2.k.1;omega
    ·show(K2.set _ _)[b]?=_;rw [AI (by omega),kK _ (by omega) (by omega),I _ (by have:=q2.k.1;omega)];exact q2.k.2 b o_
    ·show(K2.set _ _)[N+1]?=_;rw [AI (by omega),U,AI (by omega),S,←s_];exact IN (an z2)
    ·show(K2.set _ _)[N+2]?=_;rw [AI (by omega),U];exact IN (an j_)
    ·show(K2.set _ _)[i]?=_;rw [aqs.1 hi,AI (by omega),kK _ (by omega) (by omega),I _ (an W)];exact W
   refine ak (al (.inr rfl) ?_);simp [m_];cases fd with
   | false=>
    refine bp (by simp) ?_;exact i8 _ B [15,s.meet,0,0,0,0,0,0] ⟨by simp [l.g1],by simp [l.g2],by simp [l.g3],by simp [l.g4],by simp [l.g5]⟩ (by simp [M]) rfl rfl (aft _) i6 E
   | true=>
    refine aq (by simp) ?_;obtain⟨c1,c2,c3,c4,c5,c6⟩:=lc B (by omega) i6;have t7:aU B (aa 3) (.c (.ptr (d+1) 0 0))=aa (.a (xx.map .f)):=by simp [aU,aF,k_,aT,j6,ap1]
    have t8:aU B (aa 3) (.c (.ptr (d+1+1) 0 0))=aa (.a (yy.map .f)):=by simp [aU,aF,l_,aT,j8,ap1]
    simp only [aqz,aqK]at E;obtain⟨J6,b_⟩:=aK (B.set d (.box [.f (fi 15),.f (fi s.meet),.f (fi X.day),.f (fi (qT X.fr)),.f (fi (qT (X.to-af))),.f (fi 0),.f (fi 0),.f (fi 0)] 0));have s1:cZ B (.ptr d 2 0) [.f (fi X.day),.f (fi (qT X.fr)),.f (fi (qT (X.to-af)))]=aa J6:=by rw [b_];simp [cZ,E,over]
    have d6:J6[d]?=aa (.box [.f (fi 15),.f (fi s.meet),.f (fi X.day),.f (fi (qT X.fr)),.f (fi (qT (X.to-af))),.f (fi 0),.f (fi 0),.f (fi 0)] 0):=by rw [b_];exact IN (an E)
    obtain⟨J7,c_⟩:=aK (J6.set d (.box ((Yv af s X Y ae).map fun n=>.f (fi n)) 0));have s2:cZ J6 (.ptr d 5 0) [.f (fi Y.day),.f (fi (qT Y.fr)),.f (fi (qT (Y.to-af)))]=aa J7:=by rw [c_];simp [cZ,d6,over,Yv]
    have k7:∀ i:Nat,i≠d→J7[i]?=B[i]?:=fun i h=>by rw [c_,AI (Ne.symm h),b_,AI (Ne.symm h)]
    have t9:∀ K:aj,K[N]?=v[N]?→aU K ab (.c (.ptr N 0 0))=aa (.c (.f (.fp cd 0))):=fun K hK=>by
     have y1:=q2.h1;rw [←hN]at y1;simp [aU,aF,hK.trans y1]
    have hw:IntKind.i64.wrap=qT:=rfl;rw [hw]at NV e_;refine al (.inr rfl) ?_;simp [l.g1,g6,M,m4,m9,c1,c4,c6,l0,y,t7,t8,NV,e_,Z,h_,s1,s2,-az,-bf];refine i8 _ J7 _ ⟨by simp [l.g1],by simp [l.g2],by simp [l.g3],by simp [l.g4],by simp [l.g5]⟩ (by simp [M]) (Dw ..) rfl (by rw [c_,b_];simp) (fun i hi=>by rw [k7 i (by omega)];exact i6 i hi) (by rw [c_];exact IN (an d6))
 refine⟨J',q_,?_⟩;by_cases d_:q=ae
 ·rw [ba d_]at h ⊢;exact⟨a7.1 d_,h⟩
 ·rw [aW d_]at h ⊢;exact⟨fun h'=>d_ (a7.2 h'),h⟩
theorem Yw(af F:Int)(g:Tg)(ss:List aA)(hl:ss.length≤1000)(x:aA)(hx:Mi x)(a7:∀ s ∈ ss,Mi s)(X:aA→aR)
  (ho:∀ s,s=x∨s ∈ ss→bh tab 137 [.c (.f (gl af F)),.a (s.row.map .f)]=Eq (.t [.a ((X s).row.map .f),vb ae]))
  (mt:aA→Bool) (hm:∀ s ∈ ss,bh tab 25 [.a ((X x).row.map .f),.a ((X s).row.map .f)]=Eq (.t [vb (mt s),vi 0]))
  (fx fy:aA→aN) (fd:aA→Bool) (hf:∀ s ∈ ss,bh tab 138 [.a ((X x).row.map .f),.a ((X s).row.map .f),vi (-2251799813685248)]=Eq (.t [.a ((fx s).row.map .f),.a ((fy s).row.map .f),vb (fd s)])) (H:aj) :
  ∃ H',Ev tab (.fn 79) [.c (.f (ea (gl af F) (sl g (aD ss)) x))] H (.t [rp (gA af x mt fx fy fd (ss.filter fun s=>shB af F s.room x.room)),vi 0]) H'∧Kp H H':=by
 obtain⟨sd,e_⟩:=aK (sl g (aD ss));have f7:=CQ (gl af F) sd x.room;obtain⟨M,v⟩:=aK ([gl af F,sd]++x.row);obtain⟨N,m⟩:=aK (H.length);have l0:∀ K:aj,aU K ab (.c (.f (.fp M 0)))=aa (.c (.f (gl af F))):=fun K=>by rw [v];rfl
 have l1:∀ K:aj,aU K ab (.c (.f (.fp M 1)))=aa (.c (.f sd)):=fun K=>by rw [v];rfl
 have l3:∀ K:aj,aU K ab (.c (.f (.fp M 3)))=aa (vi x.room):=fun K=>by rw [v];rfl
 have l7:∀ K:aj,aU K (aa 7) (.c (.f (.fp M 2)))=aa (.a (x.row.map .f)):=fun K=>by rw [v];rfl
 have b_:=ho x (.inl rfl);have b9:(X x).row.length=3:=rfl;obtain⟨res,A⟩:=aK (gA af x mt fx fy fd (ss.filter fun s=>shB af F s.room x.room));have d_:res.length=8:=by rw [A];exact nj ..
 simp only [ea];rw [←e_,←v,←A];obtain⟨r,H',he,rfl,hK⟩:∃ r H',Ev tab (.fn 79) [.c (.f (.fp M 0))] H r H'∧(r=.t [rp res,vi 0]∧Kp H H'):=by
  refine aj5 (S:=fun r H'=>r=.t [rp res,vi 0]∧Kp H H') ajf rfl fun Q hQ=>?_;have a8:∀(t:T) (K:aj) (j:Option aE),ClT N t→Kp H K→fk [N+5] K→K[N+1]?=aa (.box (res.map fun n=>.f (fi n)) 0)→K[N+2]?=aa (.box [.f (fi 0)] 0)→Q j ⟨t,[N+5].map .gm,K⟩:=by
   intro t K j E hk hc I L;have d1:=(gU (hc.not I (by simp))).trans I;have d2:=(gU (hc.not L (by simp))).trans L;refine hQ _ _ (.t [rp res,vi 0]) ⟨[N+5],rfl,hc,?_,rfl,?_⟩
   ·have i4:(res.map fun n=>C.f (fi n)).length=8:=by simpa using d_
    simp [Km.results,cI,bg,E.g2,E.g3,aU,aF,d1,d2,aT,d_,ap1,rp]
   ·refine⟨by rw [Am];exact hk.1,fun b hb=>?_⟩;rw [gU (by simp;omega)];exact hk.2 b hb
  apply ai;simp;obtain⟨Y,q⟩:=aK (H++[bo.box [.f (.fp M 0)] 0,.box (([0,0,0,0,0,0,0,0]:List Int).map fun n=>.f (fi n)) 0,.box [.f (fi 0)] 0]:aj);have n0:Y.length=N+3:=by rw [q,api,m];rfl
  have k0:∀ i:Nat,i<H.length→Y[i]?=H[i]?:=fun i hi=>by rw [q,AT hi]
  have c0:Y[N]?=aa (.box [.f (.fp M 0)] 0):=by rw [q,m];simp
  have c1:Y[N+1]?=aa (.box (([0,0,0,0,0,0,0,0]:List Int).map fun n=>.f (fi n)) 0):=by rw [q,m,IS (by omega)];simp
  have c2:Y[N+2]?=aa (.box [.f (fi 0)] 0):=by rw [q,m,IS (by omega)];simp
  simp only [aqz,aqK]at q;rw [←q,←m];have a0:aU Y ab (.c (.ptr N 0 0))=aa (.c (.f (.fp M 0))):=by simp [aU,aF,c0]
  obtain⟨z,B⟩:=aK (Y++[bo.box ((X x).row.map .f) 0,.box [.f (.bool ae)] 0]:aj);have n1:z.length=N+5:=by rw [B,api,n0];rfl
  have k1:∀ i:Nat,i<Y.length→z[i]?=Y[i]?:=fun i hi=>by rw [B,AT hi]
  have c3:z[N+3]?=aa (.box ((X x).row.map .f) 0):=by rw [B,IS (by omega),n0];simp
  have c4:z[N+4]?=aa (.box [.f (.bool ae)] 0):=by rw [B,IS (by omega),n0];simp
  obtain⟨ox,c_⟩:=aK (X x);rw [←c_]at b_ b9 B c3 hm hf;apply ai;simp [a0,l0,l7,b_,b9,-az];rw [n0,←B];have a1:aU z ab (.c (.ptr N 0 0))=aa (.c (.f (.fp M 0))):=by simp [aU,aF,k1 N (by omega),c0]
  refine ak (ai ?_);simp [a1,l0,l1,l3,f7,-az];refine aG ?_
  suffices go:∀ u:T,ClT N u→u.g 40=.c (.f (.fn 199 [.fp [sd] 0,.fp [gl af F] 0,.fp [fi x.room] 0]))→WP tab 79 ab [.code yE,.inBlock 0,.code vr] ⟨u,[],z⟩ Q by
   exact go _ ⟨by simp,by simp,by simp,by simp,by simp⟩ (by simp)
  intro u E f8;obtain⟨LP,W⟩:∃ LP:ej→Option aE→bo,LP=fun st pd=>.lp 79 u [P.nat 41] eQ dZ st pd (N+5):=⟨_,rfl⟩
  obtain⟨f,U⟩:=aK (z++[.eO ae,LP .ready ab]);have kR:∀ i:Nat,i<z.length→f[i]?=z[i]?:=fun i hi=>by rw [U,AT hi]
  have q5:f[N+5]?=aa (.eO ae):=by rw [U,IS (by omega),n1];simp
  have q6:f[N+6]?=aa (LP .ready ab):=by rw [U,IS (by omega),n1];simp
  have i5:f.length=N+7:=by rw [U,api,n1];rfl
  have hq:ClQ H M ox f:=⟨⟨by omega,fun b hb=>by rw [kR b (by omega),k1 b (by omega),k0 b hb]⟩,by rw [←m,kR _ (by omega),k1 _ (by omega)];exact c0,by rw [←m,kR _ (by omega),k1 _ (by omega)];exact c1,
   by rw [←m,kR _ (by omega),k1 _ (by omega)];exact c2,by rw [←m,kR _ (by omega)];exact c3,by rw [←m,kR _ (by omega)];exact c4,⟨by simp,fun i hi=>by rw [aqs.1 hi,←m];exact q5⟩⟩
  obtain⟨H2,he,k⟩:=AO (b:=N+6) (H:=f) (PP:=fun d J=>ClQ H M ox J∧J[N+6]?=aa (LP .ready ab)∧∀ s ∈ d,s.meet=x.meet∨mt s=ag)
   (RR:=fun d s J=>(∀ s ∈ d,s.meet=x.meet∨mt s=ag)∧¬ (s.meet=x.meet∨mt s=ag)∧Kp H J∧J[N+1]?=aa (.box ((Yv af s (fx s) (fy s) (fd s)).map fun n=>.f (fi n)) 0)∧J[N+2]?=aa (.box [.f (fi 0)] 0)∧fk [N+5] J∧J[N+6]?=aa (LP .done (aa .ret)))
   (gl af F) g ss hl x.room (fun s=>shB af F s.room x.room) (fun s w=>agt af F _ _ (a7 s w).r0 (a7 s w).r1 hx.r0 hx.r1) ⟨hq,q6,by simp⟩
   (fun d J K ⟨I,L,a⟩=>⟨I.cG (by simp) fun i hi _=>by rw [AT hi],by rw [AT (an L)];exact L,a⟩)
   (fun d s J ⟨I,L,a⟩ w=>by
    have a_:=L;rw [W,m]at a_;rw [m]at E;rw [v]at I;obtain⟨r,J',h_,hr⟩:=zD af F sd x hx s (a7 s w) ox (X s) (ho s (.inr w)) (mt s) (hm s w) (fx s) (fy s) (fd s) (hf s w) E I a_;refine⟨r,J',by rw [m];exact h_,?_⟩;by_cases d9:r=ae
    ·rw [ba d9]at hr ⊢;refine⟨by rw [v];exact hr.2.1,by rw [m,hr.2.2,←m];exact L,fun y hy=>?_⟩;rcases aqC.1 hy with h | h
     ·exact a y h
     ·rw [aqs.1 h];exact hr.1
    ·rw [aW d9]at hr ⊢;obtain⟨e1,e2,e3,e4,e5,e6⟩:=hr;exact⟨a,e1,e2,by rw [m];exact e3,by rw [m];exact e4,by rw [m];exact e5,by rw [W,m];exact e6⟩)
  rw [←e_]at he;have g_:Ev tab (.fn 199) [.c (.yl (z.length+1)),.c (.f (.fp [sd] 0)),.c (.f (.fp [gl af F] 0)),.c (.f (.fp [fi x.room] 0))] (z++[.eO ae,.lp 79 u [P.nat 41] eQ dZ .ready ab z.length]) (.t []) H2:=by
   have e:z++[.eO ae,.lp 79 u [P.nat 41] eQ dZ .ready ab z.length]=f:=by rw [U,W,n1]
   rw [e,n1];exact he
  refine iP (g:=199) (by rw [Bu,f8];simp [bQ]) g_ ?_;rw [n1];rcases k with⟨I,L,a⟩ | ⟨d,s,rest,f_,a,h4,h5,h6,h7,h8,h9⟩
  ·rw [W]at L;refine jO L (by decide) (av ?_);have o:res=[0,0,0,0,0,0,0,0]:=by
    rw [A];have:=ni (af:=af) (x:=x) (mt:=mt) (fx:=fx) (fy:=fy) (fd:=fd) (l:=[]) a;rw [aq6]at this;rw [this];rfl
   have z1:=I.h2;have z2:=I.h3;have z3:=I.cl;have z4:=I.k;rw [←m]at z1 z2 z3;obtain⟨H3,Z⟩:=aK (H2.set (N+6) (.lp 79 u [P.nat 41] eQ dZ .exhausted ab (N+5)));have k3:∀ i:Nat,i≠N+6→H3[i]?=H2[i]?:=fun i hi=>by rw [Z,AI (Ne.symm hi)]
   have y1:=(k3 (N+1) (by omega)).trans z1;have y2:=(k3 (N+2) (by omega)).trans z2;have y3:fk [N+5] H3:=by rw [Z];exact z3.set L (by simp)
   have y4:Kp H H3:=by rw [Z];exact z4.kX (by omega) _
   rw [←Z];obtain⟨c,O⟩:=aK (H3.set (N+1) (.box (([0,0,0,0,0,0,0,0]:List Int).map fun n=>.f (fi n)) 0));have w1:c[N+1]?=aa (.box (([0,0,0,0,0,0,0,0]:List Int).map fun n=>.f (fi n)) 0):=by rw [O];exact IN (an y1)
   have w2:c[N+2]?=aa (.box [.f (fi 0)] 0):=by rw [O,AI (by omega)];exact y2
   have w3:fk [N+5] c:=by rw [O];exact y3.set y1 (by simp)
   have w4:Kp H c:=by rw [O];exact y4.kX (by omega) _
   have s1:cZ H3 (.ptr (N+1) 0 0) [.f (fi 0),.f (fi 0),.f (fi 0),.f (fi 0),.f (fi 0),.f (fi 0),.f (fi 0),.f (fi 0)]=aa c:=by rw [O];simp [cZ,y1,over]
   have s2:cZ c (.ptr (N+2) 0 0) [.f (fi 0)]=aa (c.set (N+2) (.box [.f (fi 0)] 0)):=by simp [cZ,w2,over]
   apply ai;simp [E.g2,E.g3,s1,s2,-bf];refine aB (a8 _ _ _ ⟨by simp [E.g1],by simp [E.g2],by simp [E.g3],by simp [E.g4],by simp [E.g5]⟩ (w4.kX (by omega) _) (w3.set w2 (by simp)) ?_ (IN (an w2)));rw [AI (by omega),o];exact w1
  ·rw [W]at h9;refine oT h9 (by decide) ?_;have p:res=Yv af s (fx s) (fy s) (fd s):=by
    rw [A,f_,ni a,gA,aW h4]
   refine aB (a8 _ _ _ E (h5.kX (by omega) _) (h8.set h9 (by simp)) ?_ ?_)
   ·rw [AI (by omega),p];exact h6
   ·rw [AI (by omega)];exact h7
 exact⟨H',he,hK⟩
def uG(b:aR→Int):Int→List aR→Int
 | tot,[]=>tot| tot,s::r=>uG b (ah .i64 (tot+b s)) r
theorem ahn(af p:Int)(g:Tg)(ss:List aA)(k:ss.length≤1000)(x:aA)(q:Int)(M:aR→Int)
  (n:∀ s ∈ cR x.room x.eg ss,∃ v,bh tab 128 [.a (s.row.map .f),vi q]=Eq (.c (.f v))∧bh tab 202 [.c (.f v)]=Eq (vi (M s))) :
  bh tab 127 [.c (.f (ea (gl af p) (sl g (aD ss)) x)),vi q]=Eq (vi (uG M 0 (cR x.room x.eg ss))):=bh.eq (by
 refine bS rfl rfl fun Q X=>?_;obtain⟨r,Y⟩:=aK (sl g (aD ss));obtain⟨N,l⟩:=aK ([gl af p,r]++x.row);have l1:∀ K:aj,aU K ab (.c (.f (.fp N 1)))=aa (.c (.f r)):=fun K=>by rw [l];rfl
 have h:∀ K:aj,aU K ab (.c (.f (.fp N 3)))=aa (vi x.room):=fun K=>by rw [l];rfl
 have l4:∀ K:aj,aU K ab (.c (.f (.fp N 4)))=aa (vi x.eg):=fun K=>by rw [l];rfl
 obtain⟨c,H1,F,B,-,-⟩:=Et g ss x.room x.eg k [];have W:(cR x.room x.eg ss).length≤1000:=by
  unfold cR;rw [aqr];exact aqF (arF _ _) k
 obtain⟨L,U⟩:=aK (cR x.room x.eg ss);obtain⟨res,y⟩:=aK (uG M 0 L);rw [←U]at B n X W;rw [←y]at X;simp only [ea];rw [←Y]at F ⊢;rw [←l];have u:=B.len;rw [uA]at u;apply ai;simp;apply ai;simp;apply ak;apply ai;simp [l1,h,l4,F.eq,u];refine bM L.length (fun j t J=>t.g 1=vi q∧t.g 22=.c c∧LR J c 3 (bG L)∧∃ m,t.g 5=vi m∧res=uG M m (L.drop j)) (by omega) (by decide) (by decide) (by simp) (by simp) ⟨by simp,by simp,B,0,by simp,by simpa using y⟩ ?_ ?_
 ·rintro j t J I ⟨O,z,B,m,S,H⟩ i hb next
  obtain⟨v,a,f⟩:=n L[j] (anc I);obtain⟨b,ep,i1,o⟩:=B.at (ez L) (j:=j) (by simpa using I);have e:(bG L)[j]'(by simpa using I)=L[j].row:=by simp [bG]
  rw [e]at o;rw [apw I,uG]at H;generalize L[j]=s at *;have Z:s.row.length=3:=rfl;have E:=B.push [bo.box (s.row.map .f) 0];obtain⟨w,A⟩:=aK (J++[bo.box (s.row.map .f) 0]);have d:w[J.length]?=aa (.box (s.row.map .f) 0):=by rw [A];simp
  have h:=qQ d;rw [←A]at E;refine aG ?_;apply ai;simp [z,i,i1,o,Z,-az];rw [←A];refine al (.inl rfl) ?_;simp [O,S,h,a,f,-az];exact av (next _ _ ⟨by simp [O],by simp [z],E,_,by simp,H⟩ (by simp [i]) (by simp [hb]))
 ·rintro t J ⟨O,z,B,m,S,H⟩ - -;rw [arG,uG]at H;apply ai;simp [S];refine aB (X _ _ ?_);simp [H])
def yA(l:List (Int × C)):List (FC × C):=l.map fun e=>(fi e.1,e.2)
def lkL(k:Int):List (Int × C)→Option C
 | []=>ab| e::b=>if k=e.1 then aa e.2 else lkL k b
def tR(k:Int)(c:C):List (Int × C)→List (Int × C)
 | []=>[(k,c)]| e::b=>if k=e.1 then(k,c)::b else e::tR k c b
theorem DD(a b:Int):eqK .int (fi a) (fi b)=aa (decide (a=b)):=by
 simp only [eqK,if_true];by_cases h:a=b
 ·simp [h]
 ·simp [h]
theorem DJ(k:Int):∀ l,lL .int (fi k) (yA l)=aa (lkL k l)
 | []=>rfl
 | e::d=>by
  have b:=DJ k d;simp only [yA,aqz,lL,DD,lkL]at b ⊢;by_cases h:k=e.1
  ·rw [ba h,decide_eq_true h]
  ·rw [aW h,decide_eq_false h];exact b
theorem ZW(k:Int)(c:C):∀ l,oZ .int (fi k) c (yA l)=aa (yA (tR k c l))
 | []=>rfl
 | e::d=>by
  have b:=ZW k c d;simp only [yA,aqz,oZ,DD,tR]at b ⊢;by_cases h:k=e.1
  ·rw [ba h,decide_eq_true h];rfl
  ·rw [aW h,decide_eq_false h];simp only [b];rfl
theorem xO(k:Int)(c:C):∀ l,lkL k (tR k c l)=aa c
 | []=>by simp [tR,lkL]
 | e::b=>by
  have d:=xO k c b;unfold tR;by_cases h:k=e.1
  ·rw [ba h];simp [lkL]
  ·rw [aW h];simp [lkL,h,d]
theorem D2{J:aj}{m:Nat}{l:List (Int × C)}(b:J[m]?=aa (.map (yA l))){k v:Int}(h:lkL k l=aa (.f (fi v))):fG J .int (fi 0) (.c (.mp m)) (vi k)=aa (vi v):=by
 unfold fG;simp only [b,isKey,if_true,DJ,Option.map_some,lkR,qG,h];rfl
def xR(H:aj)(g:CK):V→V→V→Option (V × aj)
 | .c (.mp b),.c (.f k),v=>match nX v,H[b]? with
  | some v,aa (.map d)=>if isKey g k then(oZ g k v d).map fun d=>(.top,H.set b (.map d))else ab
  | _,_=>ab
 | _,_,_=>ab
theorem ED(t:T)(H:aj)(b:CK)(m k v:Arg):bl t H (.iu b m k v)=xR H b (m.ev t) (k.ev t) (v.ev t):=by
 simp only [bl];unfold xR;split<;>split<;>simp_all
 all_goals (split<;>simp_all)
theorem ZD{J:aj}{m:Nat}{l:List (Int × C)}(b:J[m]?=aa (.map (yA l)))(k v:Int):xR J .int (.c (.mp m)) (vi k) (vi v)=aa (.top,J.set m (.map (yA (tR k (.f (fi v)) l)))):=by
 simp [xR,nX,b,isKey,ZW]
theorem ahq(t:T)(H:aj):bl t H .i'=aa (.c (.mp H.length),H++[.map []]):=rfl
theorem Bb(t:T)(H:aj)(b:CK)(z:FC)(m k:Arg):bl t H (.lookup b z m k)=(fG H b z (m.ev t) (k.ev t)).map (·,H):=rfl
def wH(b:Int):Int→List aN→Option aN
 | _,[]=>ab| tot,x::r=>if b<ah .i64 (tot+ah .i64 (x.to-x.fr))then aa x else wH b (ah .i64 (tot+ah .i64 (x.to-x.fr))) r
def AB(b e:Int)(d:Int→List aN)(us:Int→Int):Nat→Int→Option aN
 | 0,_=>ab| k+1,n=>if 7*n<e then(match wH b (us n) (d n)with | some x=>aa x | none=>AB b e d us k (n+1))else ab
def NN:Option aN→List Int
 | none=>[0,0,0,0,0,0,0,0]| some x=>[14,0,x.day,x.fr,x.to,0,0,0]
theorem AD(o:Option aN):(NN o).length=8:=by cases o<;>rfl
theorem ZY(af qu:Int)(g:Tg)(ss:List aA)(hl:ss.length≤1000)(x:aA)(h0:0≤x.room)(h1:x.room≤2)(s_:V.beq (.a (x.st.row.map .f)) (.a (x.st.row.map .f))=ae)(d:Nat)(hd:d ∈ sS)
  (f_:bh tab 140 [.c (.f (sl .fs (bG (cR x.room x.eg ss++[x.st]))))]=Eq (.t [vi (15+7*(d:Int)),vb ae]))
  (F:Int→List aN) (us:Int→Int) (ho:∀ n,-1≤n→n≤100→(F n).length≤10∧∃ g,bh tab 128 [.a (x.st.row.map .f),vi n]=Eq (.c (.f (sl g (aH (F n))))))
  (hu:∀ n,-1≤n→n≤100→bh tab 127 [.c (.f (ea (gl af qu) (sl g (aD ss)) x)),vi n]=Eq (vi (us n))) (H:aj) :
  ∃ H',Ev tab (.fn 80) [.c (.f (ea (gl af qu) (sl g (aD ss)) x))] H (.t [rp (NN (if(qF x.eg (cf af qu x.room).q).2 then AB (qF x.eg (cf af qu x.room).q).1 (15+7*(d:Int)) F us 200 (-1)else ab)),vi 0]) H'∧Kp H H':=by
 have B:=Zn af qu (sl g (aD ss)) x h0 h1;obtain⟨v,j5⟩:=aK ((qF x.eg (cf af qu x.room).q).1);obtain⟨r5,n8⟩:=aK ((qF x.eg (cf af qu x.room).q).2);rw [←j5,←n8]at B ⊢;obtain⟨sd,v9⟩:=aK (sl g (aD ss));obtain⟨cd,b9⟩:=aK ([gl af qu,sd]++x.row);have l1:∀ K:aj,aU K ab (.c (.f (.fp cd 1)))=aa (.c (.f sd)):=fun K=>by rw [b9];rfl
 have l3:∀ K:aj,aU K ab (.c (.f (.fp cd 3)))=aa (vi x.room):=fun K=>by rw [b9];rfl
 have l4:∀ K:aj,aU K ab (.c (.f (.fp cd 4)))=aa (vi x.eg):=fun K=>by rw [b9];rfl
 have l6:∀ K:aj,aU K (aa 3) (.c (.f (.fp cd 6)))=aa (.a (x.st.row.map .f)):=fun K=>by rw [b9];rfl
 obtain⟨res,q⟩:=aK (NN (if r5 then AB v (15+7*(d:Int)) F us 200 (-1)else ab));have j7:=fun K=>Et g ss x.room x.eg hl K;simp only [ea]at B hu ⊢;rw [←v9]at B hu j7 ⊢;rw [←b9]at B hu ⊢;rw [←q];have y7:=xy hd;have v_:x.st.row.length=3:=rfl;obtain⟨L,k_⟩:=aK (cR x.room x.eg ss);have y8:L.length≤1000:=by
  rw [k_];unfold cR;rw [aqr];exact aqF (arF _ _) hl
 rw [←k_]at j7 f_;obtain⟨N,hN⟩:=aK (H.length);obtain⟨r,H',he,rfl,Z⟩:∃ r H',Ev tab (.fn 80) [.c (.f (.fp cd 0))] H r H'∧(r=.t [rp res,vi 0]∧Kp H H'):=by
  refine cB (C:=fun r H'=>r=.t [rp res,vi 0]∧Kp H H') ajg rfl fun Q hQ=>?_;have i4:∀(t:T) (K:aj) (j:Option aE),t.g 2=.c (.ptr N 0 0)→t.g 3=vi 0→Kp H K→K[N]?=aa (.box (res.map fun n=>.f (fi n)) 0)→Q j ⟨t,[],K⟩:=by
   intro t K j z g3 hk hb;have v8:res.length=8:=by rw [q];exact AD _
   refine hQ _ _ (.t [rp res,vi 0]) rfl ?_ ⟨rfl,hk⟩;simp [Km.results,cI,bg,z,g3,aU,aF,hb,aT,v8,ap1,rp]
  have zero:∀(t:T) (K:aj) (k:List cU),res=[0,0,0,0,0,0,0,0]→t.g 2=.c (.ptr N 0 0)→Kp H K→K[N]?=aa (.box (([0,0,0,0,0,0,0,0]:List Int).map fun n=>.f (fi n)) 0) →
    WP tab 80 ab (.code (.seq vu .ret)::k) ⟨t,[],K⟩ Q:=by
   intro t K k hr z hk hb;simp only [aqz,aqK]at hb;have s1:cZ K (.ptr N 0 0) [.f (fi 0),.f (fi 0),.f (fi 0),.f (fi 0),.f (fi 0),.f (fi 0),.f (fi 0),.f (fi 0)]=aa (K.set N (.box [.f (fi 0),.f (fi 0),.f (fi 0),.f (fi 0),.f (fi 0),.f (fi 0),.f (fi 0),.f (fi 0)] 0)):=by simp [cZ,hb,over]
   apply ai;simp [z,s1,-bf];refine aB ?_;refine i4 _ _ _ ?_ ?_ (hk.kX (by omega) _) ?_
   ·simp [z]
   ·simp
   rw [IN (an hb),hr];rfl
  apply ai;simp;obtain⟨K0,a_⟩:=aK (H++[bo.box (([0,0,0,0,0,0,0,0]:List Int).map fun n=>.f (fi n)) 0]:aj);have k0:Kp H K0:=by rw [a_];exact Kp.push _ _
  have c0:K0[N]?=aa (.box (([0,0,0,0,0,0,0,0]:List Int).map fun n=>.f (fi n)) 0):=by rw [a_,hN];simp
  have n0:K0.length=N+1:=by rw [a_,hN];simp
  simp only [aqz,aqK]at a_;rw [←a_,←hN];apply ai;simp [B];apply ak;apply ai;simp;cases r5 with
  | false=>
   refine aq (by simp) ?_;have j8:=c0;simp only [aqz,aqK]at j8;have s1:cZ K0 (.ptr N 0 0) [.f (fi 0),.f (fi 0),.f (fi 0),.f (fi 0),.f (fi 0),.f (fi 0),.f (fi 0),.f (fi 0)]=aa (K0.set N (.box [.f (fi 0),.f (fi 0),.f (fi 0),.f (fi 0),.f (fi 0),.f (fi 0),.f (fi 0),.f (fi 0)] 0)):=by simp [cZ,j8,over]
   apply ai;simp [s1,-bf];refine aB ?_;refine i4 _ _ _ ?_ ?_ (k0.kX (by omega) _) ?_
   ·simp
   ·simp
   ·rw [IN (an c0),q];rfl
  | true=>
   simp only [if_true]at q;refine bp (by simp) ?_;obtain⟨c,K1,m4,s9,h_,u7⟩:=j7 K0;have k2:=u7;obtain⟨c',K3,e1,i6,e3,e4⟩:=s9.ao8 (ez _) (by decide) (rows':=[x.st.row]) (fun r hr=>by rw [aqs.1 hr];rfl) (bytes:=56) (by simp [bP];omega) .fs;have r_:sl .fs [x.st.row]=.fs x.st.row 1:=rfl;rw [r_]at e1;have u6:fcL (x.st.row.map .f)=aa x.st.row:=rfl;have m_:∀ i,bB c'=aa i→K0.length≤i:=fun i hi=>by
    rcases e4 with h | h
    ·exact h_ i (by rw [←h];exact hi)
    ·rw [h]at hi;cases hi;have:=k2.1;omega
   have k3:Kp K0 K3:=by
    refine⟨by have:=e3.1;have:=k2.1;omega,fun i hi=>?_⟩;rw [←k2.2 i hi];have W:i<K1.length:=by have:=k2.1;omega
    rw [By W];exact e3.2 i _ (By W) fun h=>by have:=h_ i h;omega
   have er:bG L++[x.st.row]=bG (L++[x.st]):=by simp [bG]
   rw [er]at i6;obtain⟨y6,i9⟩:=i6.ex (ez _) 63;have j6:bG (L++[x.st])≠[]:=by simp [bG]
   rw [aai (g':=.fs) j6]at i9;change ef deep K3 c'=_ at i9;obtain⟨K4,j_⟩:=aK (fT deep c' K3);have k4:Kp K0 K4:=by
    rw [j_];rcases i6.x.mkH 63 with e | ⟨b,ep,fl,x_,h1,h2,h3⟩
    ·change fT deep c' K3=K3 at e;rw [e];exact k3
    ·change fT deep c' K3=_ at h3;rw [h3];exact k3.kX (m_ b h1) _
   refine ak (eT (.inl rfl) ?_ ?_)
   case refine_2=>
    intro cc t_;have t9:cc=(19,14):=by simpa using t_
    subst t9;refine⟨by decide,_,rfl,.inr ⟨by decide,?_⟩⟩;simp [l1,l3,l4,l6,m4.eq,fA,s_,-az]
   simp [l1,l3,l4,l6,m4.eq,v_,u6,e1,i9,f_,←j_,-az]
   suffices go:∀ u:T,u.g 0=.c (.f (.fp cd 0))→u.g 2=.c (.ptr N 0 0)→u.g 4=vi v→u.g 5=vb ae→u.g 6=vi (15+7*(d:Int))→WP tab 80 ab [.code vt] ⟨u,[],K4⟩ Q by
    exact go _ (by simp) (by simp) (by simp) (by simp) (by simp)
   intro u g0 z X g5 S;have k5:Kp H K4:=k0.tr k4;have c4:K4[N]?=aa (.box (([0,0,0,0,0,0,0,0]:List Int).map fun n=>.f (fi n)) 0):=k4.get c0;have w_:N<K4.length:=an c4;apply ak;apply ai;simp [g5];refine bp (by simp) ?_;obtain⟨m,hm⟩:=aK (K4.length);obtain⟨K5,d_⟩:=aK (K4++[bo.map []]);have m5:K5[m]?=aa (.map (yA [])):=by rw [d_,hm];simp [yA]
   have c5:K5[N]?=aa (.box (([0,0,0,0,0,0,0,0]:List Int).map fun n=>.f (fi n)) 0):=by rw [d_,AT w_];exact c4
   have k6:Kp H K5:=by rw [d_];exact k5.tr (Kp.push _ _)
   apply ai;simp [ahq];rw [←hm,←d_];apply ak;apply ai;simp;refine aG ?_;obtain⟨e,u5⟩:=aK (15+7*(d:Int));rw [←u5]at S q;have y_:e≤435:=by omega
   refine cH (fun k s=>∃(n:Int) (u:T) (K:aj) (l:List (Int × C)),s=⟨u,[],K⟩∧-1≤n∧n+k=199∧u.g 0=.c (.f (.fp cd 0))∧u.g 2=.c (.ptr N 0 0)∧u.g 4=vi v∧u.g 6=vi e∧u.g 7=.c (.mp m)∧u.g 8=vi n∧Kp H K∧m<K.length ∧
    K[N]?=aa (.box (([0,0,0,0,0,0,0,0]:List Int).map fun n=>.f (fi n)) 0)∧K[m]?=aa (.map (yA l))∧res=NN (AB v e F us k n)) 200
    ⟨-1,_,K5,[],rfl,by omega,by omega,by simp [g0],by simp [z],by simp [X],by simp [S],by simp,by simp,k6,an m5,c5,m5,q⟩ ?_
   clear q;rintro k s ⟨n,u,K,l,rfl,z8,z9,g0,z,X,S,Y,I,Z,u9,hc,e_,q⟩ ih;have o_:m≠N:=by rintro rfl;rw [e_]at hc;cases hc
   apply ak;apply ai;simp [S,I,aV (n:=7*n)];by_cases W:7*n<e
   case neg=>
    refine aC (by simp;omega) (bH rfl ?_);refine zero _ K _ ?_ (by simp [z]) Z hc;rw [q];cases k with
    | zero=>rfl| succ k=>rw [AB,aW W];rfl
   obtain⟨k,rfl⟩:∃ k',k=k'+1:=⟨k-1,by omega⟩
   rw [AB,ba W]at q;refine aq (by simp [W]) (aO ?_);apply ak;refine aG ?_;obtain⟨u_,gO,f7⟩:=ho n (by omega) (by omega);have q_:=hu n (by omega) (by omega);obtain⟨O,hO⟩:=aK (F n);obtain⟨U,hU⟩:=aK (us n);rw [←hO]at u_ f7 q;rw [←hU]at q_ q;have b_:∀(w:T) (K':aj) (l':List (Int × C)),res=NN (AB v e F us k (n+1))→w.g 0=.c (.f (.fp cd 0))→w.g 2=.c (.ptr N 0 0)→w.g 4=vi v→w.g 6=vi e→w.g 7=.c (.mp m)→w.g 8=vi n→Kp H K'→K'[m]?=aa (.map (yA l'))→K'[N]?=aa (.box (([0,0,0,0,0,0,0,0]:List Int).map fun n=>.f (fi n)) 0) →
     WP tab 80 ab [.code pO,.inLoop pM,.inBlock 0,.code pP] ⟨w,[],K'⟩ Q:=by
    intro w K' l' hr g0 z X S Y I s7 E t7;refine al (.inl rfl) ?_;simp [I,aV (n:=n+1)];exact ih k _ (by omega) ⟨n+1,_,K',l',rfl,by omega,by omega,by simp [g0],by simp [z],by simp [X],by simp [S],by simp [Y],by simp,s7,an E,t7,E,hr⟩
   apply ai;simp [g0,I,l6,f7,-az];apply ak;apply ai;have g_:∀ J:aj,bu J (.f (sl gO (aH O)))=aa O.length:=fun J=>by simp
   simp [g_];by_cases i7:O=[]
   ·refine aq (by simp [i7]) (bH (k':=[.code pO,.inLoop pM,.inBlock 0,.code pP]) (by simp [Km.exitTo]) ?_);rw [i7]at q;exact b_ _ K l q (by simp [g0]) (by simp [z]) (by simp [X]) (by simp [S]) (by simp [Y]) (by simp [I]) Z e_ hc
   refine bp (by simp [i7]) ?_;apply ai;simp [g0,Y,I,q_,ED,ZD e_];obtain⟨K1,d9⟩:=aK (K.set m (.map (yA (tR n (.f (fi U)) l))));have w1:K1[m]?=aa (.map (yA (tR n (.f (fi U)) l))):=by rw [d9];exact IN u9
   have w2:K1[N]?=aa (.box (([0,0,0,0,0,0,0,0]:List Int).map fun n=>.f (fi n)) 0):=by rw [d9,AI o_];exact hc
   have n_:H.length≤m:=by rw [hm];exact k5.1
   have w3:Kp H K1:=by rw [d9];exact Z.kX n_ _
   rw [←d9];apply ai;simp [g_];have M:=fun(j:Nat) (hj:j<O.length) (H:aj)=>bF (H:=H) (g:=gO) (rows:=aH O) (sz:=3) (k:=.i64) (i:=(j:Int)) (by omega) (by simp;omega);refine bM O.length (fun j t J=>t.g 0=.c (.f (.fp cd 0))∧t.g 2=.c (.ptr N 0 0)∧t.g 4=vi v∧t.g 6=vi e∧t.g 7=.c (.mp m)∧t.g 8=vi n∧t.g 71=.c (.f (sl gO (aH O)))∧Kp H J∧J[N]?=aa (.box (([0,0,0,0,0,0,0,0]:List Int).map fun n=>.f (fi n)) 0) ∧
    ∃ l' c_,J[m]?=aa (.map (yA l'))∧lkL n l'=aa (.f (fi c_))∧wH v U O=wH v c_ (O.drop j)) (by omega) (by decide) (by decide) (by simp) (by simp)
    ⟨by simp [g0],by simp [z],by simp [X],by simp [S],by simp [Y],by simp [I],by simp,w3,w2,_,U,w1,xO _ _ _,by simp⟩ ?_ ?_
   ·clear g0 z X S Y I w1 w2 w3 hc Z e_;rintro j t J hj ⟨g0,z,X,S,Y,I,i5,Z,hc,l',c_,E,m9,A⟩ ha hb next
    have p_:=fun H:aj=>bR (H:=H) (bw O) (fQ hj);have M:=M j hj;simp only [aqI]at M;rw [apw hj,wH]at A;generalize O[j]=y at *;have w9:y.row.length=3:=rfl;obtain⟨J1,a7⟩:=aK (J++[bo.box (y.row.map .f) 0]);have d1:J1[J.length]?=aa (.box (y.row.map .f) 0):=by rw [a7];simp
    have y1:∀ K:aj,K[J.length]?=J1[J.length]?→aU K ab (.c (.ptr J.length 1 0))=aa (vi y.fr)∧aU K ab (.c (.ptr J.length 2 0))=aa (vi y.to)∧aU K (aa 3) (.c (.ptr J.length 0 0))=aa (.a [.f (fi y.day),.f (fi y.fr),.f (fi y.to)]):=fun K Z=>by
     refine⟨?_,?_,?_⟩<;>simp [aU,aF,Z.trans d1,aT,aN.row]
    have j4:J1[m]?=aa (.map (yA l')):=by rw [a7,AT (an E)];exact E
    have t8:J1[N]?=aa (.box (([0,0,0,0,0,0,0,0]:List Int).map fun n=>.f (fi n)) 0):=by rw [a7,AT (an hc)];exact hc
    have s8:Kp H J1:=by rw [a7];exact Z.tr (Kp.push _ _)
    refine aG ?_;apply ai;simp [i5,ha,M,p_,w9,-az];rw [←a7];obtain⟨x6,x8,-⟩:=y1 J1 rfl;obtain⟨T1,l_⟩:=aK (ah .i64 (c_+ah .i64 (y.to-y.fr)));rw [←l_]at A;obtain⟨J2,a8⟩:=aK (J1.set m (.map (yA (tR n (.f (fi T1)) l'))));have n9:J2[m]?=aa (.map (yA (tR n (.f (fi T1)) l'))):=by rw [a8];exact IN (an j4)
    have i8:J2[N]?=aa (.box (([0,0,0,0,0,0,0,0]:List Int).map fun n=>.f (fi n)) 0):=by rw [a8,AI o_];exact t8
    have j9:Kp H J2:=by rw [a8];exact s8.kX n_ _
    have j6:m≠J.length:=by have:=an E;omega
    apply ai;simp [Y,I,Bb,D2 j4 m9,x6,x8,←l_,ED,ZD j4,←a8,-az];apply ai;simp [X,Y,I,Bb,D2 n9 (xO _ _ _)];by_cases i_:v<T1
    ·rw [ba i_]at A;rw [A]at q;refine aq (by simp [i_]) ?_;have f8:=i8;simp only [aqz,aqK]at f8;have s1:cZ J2 (.ptr N 0 0) [.f (fi 14),.f (fi 0),.f (fi y.day),.f (fi y.fr),.f (fi y.to),.f (fi 0),.f (fi 0),.f (fi 0)]=aa (J2.set N (.box [.f (fi 14),.f (fi 0),.f (fi y.day),.f (fi y.fr),.f (fi y.to),.f (fi 0),.f (fi 0),.f (fi 0)] 0)):=by simp [cZ,f8,over]
     obtain⟨-,-,x9⟩:=y1 J2 (by rw [a8,AI j6]);apply ai;simp [z,x9,s1,-az,-bf];refine aB ?_;refine i4 _ _ _ ?_ ?_ (j9.kX (by omega) _) ?_
     ·simp [z]
     ·simp
     ·rw [IN (an i8),q];rfl
    ·rw [aW i_]at A;refine aC (by simp;omega) (aO ?_);exact av (next _ _ ⟨by simp [g0],by simp [z],by simp [X],by simp [S],by simp [Y],by simp [I],by simp [i5],j9,i8,_,T1,n9,xO _ _ _,A⟩ (by simp [ha]) (by simp [hb]))
   ·rintro t J ⟨g0,z,X,S,Y,I,i5,Z,hc,l',c_,E,m9,A⟩ - -;rw [arG,wH]at A;rw [A]at q;exact av (b_ _ J l' q (by simp [g0]) (by simp [z]) (by simp [X]) (by simp [S]) (by simp [Y]) (by simp [I]) Z E hc)
 exact⟨H',he,Z⟩
theorem ajT(g:Tg)(ss:List aA)(x:aA)(hl:ss.length≤1000)(hs:ss.Pairwise jN) :
  ∃(i:Nat) (w:Bool),(w=ae↔∃ y ∈ ss,dt y x=ae)∧bh tab 119 [.c (.f (sl g (aD ss))),.a (x.row.map .f),.c (.f (.fn 115 []))]=Eq (.t [vi i,vb w]):=by
 obtain⟨rows,d⟩:=aK (aD ss);obtain⟨s,L⟩:∃ s:List FC→Int,∀ y:aA,s y.row=oa y x:=⟨fun r=>match r with | .int _ a::.int _ b::_=>An [dN a x.meet,dN b x.room] | _=>0,fun y=>by simp [aA.row,oa]⟩
 have b_:rows.length=ss.length:=by rw [d];simp [aD]
 have W:∀ r ∈ rows,∃ y ∈ ss,r=y.row:=fun r hr=>by
  rw [d]at hr;obtain⟨y,hy,rfl⟩:=aqJ.1 hr;exact⟨y,hy,rfl⟩
 have hg:cq 7 rows:=by rw [d];exact bt ss
 have Y:∀ y:aA,(oa y x<0↔jN y x)∧(0<oa y x↔jN x y):=fun y=>by
  unfold oa jN;simp only [An,dN];refine⟨?_,?_⟩
  ·repeat' split
   all_goals omega
  ·repeat' split
   all_goals omega
 have B:∀(i:Nat) (h:i<rows.length),rows[i]=(ss[i]'(by omega)).row:=fun i h=>by
  subst d;simp [aD]
 have hp:∀(i j:Nat) (hi:i<j) (v:j<rows.length),0≤s rows[i]→0<s rows[j]:=fun i j hi v h=>by
  rw [B,L]at h ⊢;rw [(Y _).2];have h1:¬ jN (ss[i]'(by omega)) x:=fun h'=>by have:=(Y _).1.2 h';omega
  have h2:jN (ss[i]'(by omega)) (ss[j]'(by omega)):=aq9.1 hs i j (by omega) (by omega) hi;unfold jN at *;omega
 have z:∀ y:aA,s y.row=0↔dt y x=ae:=fun y=>by
  rw [L];unfold oa;simp only [An,dN,dt]
  repeat' split
  all_goals simp
  all_goals omega
 obtain⟨i,h1,h2,O,w,h4,h⟩:∃ i:Nat,i≤rows.length∧(∀ j (v:j<rows.length),j<i→s rows[j]<0)∧(∀ j (v:j<rows.length),i≤j→0≤s rows[j]) ∧
   ∃ w:Bool,(w=ae↔∃ h:i<rows.length,s rows[i]=0)∧bh tab 119 [.c (.f (sl g rows)),.a (x.row.map .f),.c (.f (.fn 115 []))]=Eq (.t [vi i,vb w]):=by
  obtain⟨r,⟨i,h1,h2,O,w,h4,rfl⟩,h⟩:∃ r,(∃ i:Nat,i≤rows.length∧(∀ j (v:j<rows.length),j<i→s rows[j]<0)∧(∀ j (v:j<rows.length),i≤j→0≤s rows[j])∧∃ w:Bool,(w=ae↔∃ h:i<rows.length,s rows[i]=0)∧r=.t [vi i,vb w]) ∧
    bh tab 119 [.c (.f (sl g rows)),.a (x.row.map .f),.c (.f (.fn 115 []))] r:=by
   refine eI rfl rfl fun Q hQ=>?_;have ask:∀(q:Nat) (hq:q<rows.length) (H:aj),∃ J,bA H 7 ab (.c (.f (sl g rows))) (vi q)=aa (.c (.f (.fp rows.flatten (q*7))))∧aU H (aa 7) (.c (.f (.fp rows.flatten (q*7))))=aa (.a (rows[q].map .f))∧Ev tab (.fn 115) [.a (rows[q].map .f),.a (x.row.map .f)] H=E2 (vi (s rows[q])) (H++J):=by
    intro q hq H;obtain⟨y,hy,e⟩:=W rows[q] (anc hq);obtain⟨J,c3⟩:=Dy y x H;have hi:=bF (H:=H) (g:=g) (rows:=rows) (sz:=7) (k:=.i64) (i:=(q:Int)) (by omega) (by omega);rw [aqI]at hi;refine⟨J,hi,bR hg (By hq),?_⟩;rw [e,L];exact c3.eq
   apply ai;simp [aA.row];apply ai;simp;apply ai;simp;apply ak;refine aG ?_;refine cH (fun m s'=>∃(lo hi:Nat) (t:T) (H:aj),s'=⟨t,[],H⟩∧m=hi-lo∧lo≤hi∧hi≤rows.length∧t.g 0=.c (.f (sl g rows))∧t.g 4=.c (.ptr 0 0 0)∧H[0]?=aa (.box (x.row.map .f) 0)∧t.g 2=.c (.f (.fn 115 []))∧t.g 8=vi rows.length∧t.g 9=vi lo∧t.g 10=vi hi ∧
    (∀ j (v:j<rows.length),j<lo→s rows[j]<0)∧(∀ j (v:j<rows.length),hi≤j→0≤s rows[j])) rows.length
    ⟨0,rows.length,_,_,rfl,by omega,by omega,by omega,by simp,by simp,rfl,by simp,by simp,by simp,by simp,by simp,by intros;omega⟩ ?_
   rintro m s' ⟨lo,hi,t,H,rfl,rfl,b9,S,g0,g4,M,Z,g8,N,A,I,E⟩ next
   have lx:∀ K:aj,K[0]?=H[0]?→aU K (aa 7) (.c (.ptr 0 0 0))=aa (.a (x.row.map .f)):=fun K hK=>by simp [aU,aF,hK.trans M,aT,aA.row]
   apply ak;apply ai;simp [N,A];by_cases a8:lo<hi
   ·refine aq (by simp [a8]) (aO ?_);obtain⟨q,hq⟩:=aK ((lo+hi) / 2);have U:q<rows.length:=by omega
    have e1:de BinOp.shr (V.c (C.f (FC.int IntKind.u64 (IntKind.u64.wrap ((lo:Int)+hi))))) (V.c (C.f (FC.int IntKind.u64 1)))=aa (.c (.f (.int .u64 (q:Int)))):=by
     have:IntKind.u64.wrap ((lo:Int)+hi)=(lo:Int)+hi:=by
      show((lo:Int)+hi) % 18446744073709551616=_;omega
     rw [this];show aa (V.c (C.f (FC.int IntKind.u64 (Int.fdiv ((lo:Int)+hi) (2 ^ (min (1:Int).toNat IntKind.u64.bits))))))=_;have O:Int.fdiv ((lo:Int)+hi) (2 ^ (min (1:Int).toNat IntKind.u64.bits))=q:=by
      show Int.fdiv ((lo:Int)+hi) 2=q;rw [Int.fdiv_eq_ediv_of_nonneg _ (by omega)];omega
     rw [O]
    have hw:=aV (n:=(lo:Int)+hi);have a_:ah .i64 (q:Int)=q:=aV;obtain⟨J,i1,l1,he⟩:=ask q U H;refine aG ?_;apply ai;simp [N,A,hw,e1,a_];apply ai;have X:(H++J)[0]?=aa (.box (x.row.map .f) 0):=by rw [AT (an M)];exact M
    simp [g0,g4,Z,i1,l1,lx H rfl,bQ,he,-az];by_cases hc:s rows[q]<0
    ·refine aq (by simp [hc]) ?_;refine al (.inl rfl) ?_;simp [aV (n:=(q:Int)+1)];refine av (next (hi-(q+1)) _ (by omega) ⟨q+1,hi,_,_,rfl,rfl,by omega,by omega,by simp [g0],by simp [g4],X,by simp [Z],by simp [g8],by simp,by simp [A],fun j v h=>?_,E⟩);rcases Int.lt_or_le (s rows[j]) 0 with l | l
     ·exact l
     ·by_cases e:j=q
      ·subst e;exact hc
      ·have:=hp j q (by omega) U l;omega
    ·refine aC (by simp [hc]) ?_;refine al (.inl rfl) ?_;simp;refine av (next (q-lo) _ (by omega) ⟨lo,q,_,_,rfl,rfl,by omega,by omega,by simp [g0],by simp [g4],X,by simp [Z],by simp [g8],by simp [N],by simp,I,fun j v h=>?_⟩);by_cases e:j=q
     ·subst e;omega
     ·have:=hp q j (by omega) v (by omega);omega
   ·have:lo=hi:=by omega
    subst this;refine aC (by simp) ?_;refine bH rfl ?_;apply ai;by_cases u:lo<rows.length
    ·obtain⟨J,i1,l1,he⟩:=ask lo u H;simp [g0,g4,Z,g8,N,u,i1,l1,lx H rfl,bQ,he,-az];refine aB (hQ _ _ _ ⟨lo,S,I,E,decide (s rows[lo]=0),by simp [u],rfl⟩ ?_);simp
    ·simp [g8,N,u];refine aB (hQ _ _ _ ⟨lo,S,I,E,ag,by simp [u],rfl⟩ ?_);simp
  exact⟨i,h1,h2,O,w,h4,h.eq⟩
 subst d;refine⟨i,w,?_,h⟩;rw [h4];constructor
 ·rintro⟨hi,e⟩;rw [B i hi,z]at e;exact⟨_,anc _,e⟩
 ·rintro⟨y,hy,e⟩;obtain⟨j,v,rfl⟩:=List.getElem_of_mem hy;have F:j<(aD ss).length:=by omega
  have e0:s (aD ss)[j]=0:=by rw [B j F,z];exact e
  have a7:i≤j:=by
   rcases aqY j i with l | l
   ·have:=h2 j F l;omega
   ·exact l
  have hi:i<(aD ss).length:=by omega
  refine⟨hi,?_⟩;rcases Nat.lt_or_eq_of_le a7 with l | l
  ·have:=O i hi (aft _);have:=hp i j l F this;omega
  ·subst l;exact e0
def jq(af b:Int)(ss:List aA)(x:aA):Bool:=re (cJ af b) ss&&im 3 x
def kz(ss:List aA)(x:aA):Bool:=ss.any fun y=>dt y x
theorem akM(af g:Int):∀ r ∈ cJ af g,j3 r:=by
 have h:bh tab 190 [D6]=Eq (vi 0):=fI.2.2.2.2.2.2.2.2;intro r d;have b:r.op=dS.map .f:=by
  simp only [cJ,aqA,ard,or_false]at d;rcases d with rfl | rfl | rfl<;>rfl
 show bh tab 190 [.a r.op] (vi 0);rw [b];show bh tab 190 [D6] (vi 0);rw [h]
theorem Du(af l:Int)(g:Tg)(ss:List aA)(J:ss.length≤1000)(M:ss.Pairwise jN)(L:∀ s ∈ ss,s.st.Sm)(x:aA)(O:x.st.Sm) :
  bh tab 64 [.c (.f (gl af l)),.c (.f (sl g (aD ss))),.a (x.row.map .f)] =
   Eq (.t (if jq af l ss x then [.c (.f (ea (gl af l) (sl g (aD ss)) x)),vb (!kz ss x)]else [.c (.f .mP),vb ag])):=bh.eq (by
 refine bS rfl rfl fun Q q=>?_;have b:=(af_ .fs g (cJ af l) ss (show(3:Nat)≤6 by decide) (akM af l) (by omega) L).eq;have d:=(AW .fs (cJ af l) x (show(3:Nat)≤6 by decide) O).eq;obtain⟨i,w,N,y⟩:=ajT g ss x J M;have I:w=kz ss x:=by
  rw [Bool.eq_iff_iff,N,kz,List.any_eq_true]
 rw [←I]at q;have A:x.row.length=7:=rfl;change bh tab 59 [.c (.f (gl af l)),_]=_ at b;change bh tab 114 [.c (.f (gl af l)),_]=_ at d;have z:(cJ af l).length=3:=rfl;rw [z]at d;obtain⟨U,H⟩:=aK (sl g (aD ss));obtain⟨S,F⟩:=aK (gl af l);simp only [ea]at q;rw [←H]at b y q ⊢;rw [←F]at b d q ⊢;have E:∀ K:aj,K[0]?=aa (.box (x.row.map .f) 0)→aU K (aa 7) (.c (.ptr 0 0 0))=aa (.a (x.row.map .f)):=fun K h=>by simp [aU,aF,h,aT,aA.row]
 apply ai;simp [A];obtain⟨u,v⟩:=aK ([bo.box (x.row.map .f) 0]:aj);have B:u[0]?=aa (.box (x.row.map .f) 0):=by rw [v];rfl
 rw [←v];apply ak;apply ai;cases j:re (cJ af l) ss with
 | false=>
  rw [j]at b;simp [b];refine aq (by simp) ?_;apply ai;simp;refine aB (q _ _ ?_);simp [Km.results,bg,jq,j]
 | true=>
  rw [j]at b;cases m:im 3 x with
  | false=>
   rw [m]at d;simp [b,E u B,d,-az];refine aq (by simp) ?_;apply ai;simp;refine aB (q _ _ ?_);simp [Km.results,bg,jq,j,m]
  | true=>
   rw [m]at d;simp [b,E u B,d,-az];refine bp (by simp) ?_;apply ai;simp [E u B,y,-az];apply ai;simp [E u B,A,-az];refine aB (q _ _ ?_);simp [Km.results,bg,jq,j,m,iA,cC,deep,ef,aA.row])
def dj(h:dv)(x:bz):Int:=if ee h=ag∨x.id<1∨x.state≠1∨lK x.dl=ag then 1 else if(tc x.id h.l).isSome then 5 else if x.dl<h.clock then 17 else 0
def kP:List C:=[.f (fi 0),.f (fi 0),.f (fi 0),.f (fi 0),.f (fi 0),.f (fi 0),.f (fi 0),.f (fi 0)]
def N9(b:List Int):List C:=b.map fun n=>.f (fi n)
theorem LR.added{H:aj}{c:C}{sz:Nat}{rows:List (List FC)}(h:LR H c sz rows)(hg:cq sz rows):cO H sz (.c c)=aa (rows.length,rows.flatten.map .f):=by
 rcases h with⟨rfl,rfl | rfl⟩ | ⟨j,b,ep,rfl,h2⟩
 ·simp [cO,bu,cK]
 ·simp [cO,bu,cK]
 ·have g:=h2.len (o:=0) (l:=rows.length) (c:=0);unfold RB at h2;have d:rows.length*sz=rows.flatten.length:=(bX hg).symm;have hc:cK H sz (.sl b 0 rows.length 0 ep sz)=aa (rows.flatten.map .f):=by
   simp only [cK,h2];rw [ba ⟨trivial,trivial,by rw [aqr,d];omega⟩,List.drop_zero,ap1 (by rw [aqr,d];exact aft _)]
  simp only [cO,g,hc]
theorem LR.mkB{H:aj}{c:C}{sz:Nat}{rows:List (List FC)}(h:LR H c sz rows)(hg:cq sz rows)(n:Nat){i:Nat}{cs:List C}{fl:Nat}(hi:H[i]?=aa (.box cs fl)):(fT (n+1) c H)[i]?=aa (.box cs fl):=by
 have g:=h.ny hi;rcases h with⟨_,rfl | rfl⟩ | ⟨j,b,ep,rfl,h2⟩
 ·exact hi
 ·exact hi
 ·unfold RB at h2;have e:∃ y,fT (n+1) (.sl b 0 rows.length 0 ep sz) H=H.set b y:=by
   refine⟨.bT sz (rows.flatten.map .f) (Nat.max 0 (0+rows.length*sz)) ep .loc,?_⟩;simp only [oY,h2];rw [rQ];intro x d;have d:=List.mem_of_mem_drop (List.mem_of_mem_take d);obtain⟨m,_,rfl⟩:=aqJ.1 d;exact⟨_,rfl⟩
  obtain⟨y,e⟩:=e;have:b≠i:=by rintro rfl;exact g rfl
  rw [e,AI this];exact hi
theorem ahi:tab.get e9=ab:=by kernel_rfl
theorem DA{sz:Nat}:∀ {rows:List (List FC)} (i:Nat),cq sz rows→i≤rows.length→rows.flatten.take (i*sz)=(rows.take i).flatten∧rows.flatten.drop (i*sz)=(rows.drop i).flatten
 | rows,0,_,_=>by simp
 | [],i+1,_,h=>by simp at h
 | r::rows,i+1,b,h=>by
  have d:r.length=sz:=b r aqv;obtain⟨g,j⟩:=DA (rows:=rows) i (fun x l=>b x (aqt _ l)) (by simpa using h);simp only [List.flatten_cons,List.take_succ_cons,List.drop_succ_cons];rw [Nat.succ_mul,Nat.add_comm,←d,List.take_append,List.drop_append];simp only [Nat.add_sub_cancel_left,ap1 (Nat.le_add_right _ _),arz (Nat.le_add_right _ _)];rw [d,g,j];simp
theorem YQ{f:Nat}{args:List V}{H H':aj}{r:V}(b:f=e9)(h:Nf args H=aa (r,H')):Ev tab (.fn f) args H r H':=by
 subst b;refine⟨0,1,?_⟩;have d:tab.rn e9 args H=aa (aa (r,H')):=by
  show(match tab.get e9 with | some _=>ab | none=>Km.rn e9 args H)=_;rw [ahi];simp [rn,h]
 simp only [CF,eh,d]
theorem Ni{K:aj}{c:C}{rows:List (List FC)}(v:LR K c 10 rows)(z:cq 10 rows)(S:rows.length≤1000){i:Nat}(hi:i≤rows.length){row:List FC}(d:row.length=10){vb:Nat}(F:K[vb]?=aa (.box (row.map .f) 0)) :
  ∃ m s,Ev tab (.fn 1000000000) [.c c,vi i,.c (.sl vb 0 1 1 0 10)] K (.c m) s∧LR s m 10 (rows.take i++row::rows.drop i)∧Kb K s c∧(bB m=bB c∨bB m=aa K.length):=by
 have l:cO K 10 (.c (.sl vb 0 1 1 0 10))=aa (1,row.map .f):=pV F (by simp [d]);rcases aqY i rows.length with B | M
 ·rcases v with⟨rfl,_⟩ | ⟨O,b,ep,rfl,u⟩
  ·simp at B
  ·have g:=u;unfold RB at g;have x:rows.flatten.length=rows.length*10:=bX z;obtain⟨H,I⟩:=DA i z hi;refine⟨.sl b 0 (rows.length+1) 0 (ep+1) 10,K.set b (.bT 10 (((rows.take i++row::rows.drop i).flatten).map .f) 0 (ep+1) .loc),YQ rfl ?_,.inr ⟨by simp,b,ep+1,?_,?_⟩,⟨by simp,fun j y Q E=>?_⟩,.inl rfl⟩
   ·have N:bu K (.sl b 0 rows.length 0 ep 10)=aa rows.length:=by simp [bu,g]
    simp only [Nf,N,l];rw [aW (by omega)];simp only [ye,g,F];rw [ba ⟨trivial,trivial,trivial,trivial,trivial,by rw [aqr];exact x,trivial,by omega,by omega,by omega,by simp [d]⟩]
    congr 4
    rw [aqI,←List.map_take,←asn,H,I];simp
   ·congr 1
    simp only [api,aqP,aq7,aqy];omega
   ·unfold RB;exact IN (an g)
   ·have:b≠j:=by rintro rfl;exact E rfl
    rw [AI this];exact Q
 ·have A:i=rows.length:=by omega
  subst A;obtain⟨m,H',q,J,u,L⟩:=v.app z (by decide) d (bytes:=112) (lT (by omega) (by decide)) F;refine⟨m,H',YQ rfl ?_,by rw [aqS,arG];exact J,u,L⟩;simp only [Nf,v.len,l];rw [ba trivial];exact q
theorem ud{H:aj}{i:Nat}{y:bo}(h:H[i]?=aa y):H.set i y=H:=by
 obtain⟨b,e⟩:=List.getElem?_eq_some_iff.1 h;rw [←e];exact List.set_getElem_self b
def mh:List Int:=[0,0,0,0,0,0,0,0]
def sw(h:dv)(x:bz)(l:List Int)(b:Int)(res:dv)(d:List Int)(c:Int):Prop:=
 (dj h x≠0∧res=iw∧d=mh∧c=dj h x)∨(dj h x=0∧b≠0∧res=iw∧d=mh∧c=b) ∨
  (dj h x=0∧b=0∧c=0∧d=l∧∃ g,(l[0]?≠aa 0∧res = { h with lg:=g })∨(l[0]?=aa 0∧∃ i,i≤h.l.length∧(∀ j (m:j<h.l.length),j<i→h.l[j].id<x.id)∧(∀ j (m:j<h.l.length),i≤j→x.id<h.l[j].id)∧res=⟨h.clock,h.bJ,g,h.l.take i++x::h.l.drop i⟩))
theorem YX(h:dv)(hk:rz h)(rm:FC)(g0:Tg)(l0:List aA)(h0:jE l0)(hl0:l0.length≤3)(x:bz)(hx:Fix x.bc)(m_:∀ y ∈ h.l,Fix y.bc)(rf:List Int)(B:Int)(x8:rf.length=8)
  (E:dj h x=0→∀ g,bh tab 44 [.c (.f rm),.c (.f (sl g (aD (sG l0 h)))),.a (x.bc.row.map .f)]=Eq (.t [.a (N9 rf),vi B])) :
  ∃ res Y c,sw h x rf B res Y c∧bh tab 16 [.a (h.row.map .f),.c (.f rm),.c (.f (sl g0 (aD l0))),.a (x.row.map .f)]=Eq (.t [.a (res.row.map .f),.a (N9 Y),vi c]):=by
 obtain⟨v,⟨res,Y,c,hG,rfl⟩,hp⟩:∃ v,(∃ res Y c,sw h x rf B res Y c∧v=.t [.a (res.row.map .f),.a (N9 Y),vi c])∧bh tab 16 [.a (h.row.map .f),.c (.f rm),.c (.f (sl g0 (aD l0))),.a (x.row.map .f)] v:=by
  refine eI rfl rfl fun Q hQ=>?_;have hl:=hk.len;have hv:=qB h (by omega);have hhl:h.row.length=3:=rfl;have y6:x.row.length=10:=rfl;apply ai;simp;obtain⟨d,u⟩:=aK ([.box (h.row.map .f) 0,.box (x.row.map .f) 0,.box [.f (fi 0),.f (fi 0),.f .au] 0,.box kP 0]:aj);have a0:∀ H:aj,H[0]?=aa (.box (h.row.map .f) 0)→aU H (aa 3) (.c (.ptr 0 0 0))=aa (.a (h.row.map .f)):=fun H J=>by simp [J,aT,dv.row]
  have a1:aU d ab (.c (.ptr 0 0 0))=aa (vi h.clock):=by rw [u];simp [aT,dv.row]
  have a2:aU d ab (.c (.ptr 0 2 0))=aa (.c (.f (sl h.lg (aM h.l)))):=by rw [u];simp [aT,dv.row]
  have x0:aU d ab (.c (.ptr 1 0 0))=aa (vi x.id):=by rw [u];simp [aT,bz.row]
  have x1:aU d ab (.c (.ptr 1 1 0))=aa (vi x.dl):=by rw [u];simp [aT,bz.row]
  have x2:aU d ab (.c (.ptr 1 2 0))=aa (vi x.state):=by rw [u];simp [aT,bz.row]
  have x3:∀ H:aj,H[1]?=aa (.box (x.row.map .f) 0)→aU H (aa 7) (.c (.ptr 1 3 0))=aa (.a (x.bc.row.map .f)):=fun H J=>by simp [J,aT,bz.row,aA.row]
  have x4:∀ H:aj,H[1]?=aa (.box (x.row.map .f) 0)→aU H (aa 10) (.c (.ptr 1 0 0))=aa (.a (x.row.map .f)):=fun H J=>by simp [J,aT,bz.row]
  have z0:d[0]?=aa (.box (h.row.map .f) 0):=by rw [u];rfl
  have z1:d[1]?=aa (.box (x.row.map .f) 0):=by rw [u];rfl
  have z2:d[2]?=aa (.box [.f (fi 0),.f (fi 0),.f .au] 0):=by rw [u];rfl
  have K:d[3]?=aa (.box kP 0):=by rw [u];rfl
  have s2:∀ H:aj,H[2]?=aa (.box [.f (fi 0),.f (fi 0),.f .au] 0)→cZ H (.ptr 2 0 0) [.f (fi 0),.f (fi 0),.f .au]=aa H:=fun H J=>by
   simp [J];exact ud J
  have s3:∀ H:aj,H[3]?=aa (.box kP 0)→cZ H (.ptr 3 0 0) [.f (fi 0),.f (fi 0),.f (fi 0),.f (fi 0),.f (fi 0),.f (fi 0),.f (fi 0),.f (fi 0)]=aa H:=fun H J=>by
   simp [J,kP];exact ud J
  simp only [kP]at u;rw [←u];have f8:∀(c:Int),sw h x rf B iw mh c→∀(t:T) (H:aj) (k:List cU),H[2]?=aa (.box [.f (fi 0),.f (fi 0),.f .au] 0)→H[3]?=aa (.box kP 0)→t.g 8=.c (.ptr 2 0 0)→t.g 9=.c (.ptr 3 0 0)→t.g 10=vi c→WP tab 16 ab (.code .ret::k) ⟨t,[],H⟩ Q:=by
   intro c hG t H k K z4 g6 g7 g8;have q3:aU H (aa 3) (.c (.ptr 2 0 0))=aa (.a [.f (fi 0),.f (fi 0),.f .au]):=by simp [K,aT]
   have q4:aU H (aa 8) (.c (.ptr 3 0 0))=aa (.a kP):=by simp [z4,aT,kP]
   refine aB (hQ _ _ (.t [.a (iw.row.map .f),.a (N9 mh),vi c]) ⟨iw,mh,c,hG,rfl⟩ ?_);simp [Km.results,bg,g6,g7,g8,q3,q4,iA,cC,deep,iw,dv.row,kP,sl,Tg.fc,aM,N9,mh,-az]
  have bad:dj h x=1→∀ t:T,t.g 8=.c (.ptr 2 0 0)→t.g 9=.c (.ptr 3 0 0)→t.g 35=vb ae→WP tab 16 ab [.code C8,.code C9] ⟨t,[],d⟩ Q:=by
   intro he t g8 g9 g;refine aq (by simp [g]) (ai ?_);simp [g8,g9,s2 d z2,s3 d K,-bf];exact f8 1 (.inl ⟨by omega,rfl,rfl,he.symm⟩) _ _ _ z2 K (by simp [g8]) (by simp [g9]) (by simp)
  apply ak;apply ak;refine al (.inl rfl) ?_;cases Z:ee h
  case false=>
   simp [a0 d z0,hv,Z,-az];exact bad (by simp [dj,Z]) _ (by simp) (by simp) (by simp)
  by_cases k1:x.id<1
  ·simp [a0 d z0,hv,Z,x0,k1,-az];exact bad (by simp [dj,k1]) _ (by simp) (by simp) (by simp)
  by_cases k2:x.state=1
  case neg=>
   simp [a0 d z0,hv,Z,x0,x2,k1,k2,-az];exact bad (by simp [dj,k2]) _ (by simp) (by simp) (by simp)
  cases m:lK x.dl
  case false=>
   simp [a0 d z0,hv,Z,x0,x1,x2,k1,k2,tx,m,-az];exact bad (by simp [dj,m]) _ (by simp) (by simp) (by simp)
  simp [a0 d z0,hv,Z,x0,x1,x2,k1,k2,tx,m,-az];refine bp (by simp) ?_;obtain⟨i,hi,o_,i6,i5⟩:=DK h (by omega) Z x.id;have z:=vV Z o_ i6;apply ai;simp [a0 d z0,x0,i5,-az];apply ak;refine aG ?_;apply ai;simp;cases hf:rP h.l i x.id
  case true=>
   rw [hf]at z;simp at z;have he:dj h x=5:=by simp [dj,Z,k1,k2,m,z]
   refine aq (by simp) (ai ?_);simp [s2 d z2,s3 d K,-bf];exact f8 5 (.inl ⟨by omega,rfl,rfl,he.symm⟩) _ _ _ z2 K (by simp) (by simp) (by simp)
  have n8:∀ j (hj:j<h.l.length),i≤j→x.id<h.l[j].id:=fun j hj v8=>by
   have h1:=i6 j hj v8;have hne:h.l[j].id≠x.id:=by
    intro e;by_cases v9:j=i
    ·subst v9;simp [rP,hj,e]at hf
    ·have r_:=(ew.1 Z).2.2.2;rw [aq9]at r_;have:=r_ i j (by omega) hj (by omega);have:=i6 i (by omega) (aft _);omega
   omega
  rw [hf]at z;simp at z;refine aC (by simp) ?_;apply ai;by_cases k3:x.dl<h.clock
  ·have he:dj h x=17:=by simp [dj,Z,k1,k2,m,z,k3]
   simp [x1,a1,k3,-az];refine aq (by simp) (ai ?_);simp [s2 d z2,s3 d K,-bf];exact f8 17 (.inl ⟨by omega,rfl,rfl,he.symm⟩) _ _ _ z2 K (by simp) (by simp) (by simp)
  have he:dj h x=0:=by simp [dj,Z,k1,k2,m,z,k3]
  have E:=E he;simp [x1,a1,k3,-az];refine aC (by simp) ?_;apply ai;simp [a2,show¬ (h.l.length:Int)=4096 by omega,-az];refine aC (by simp) (aO (av ?_));obtain⟨r1,H1,f_,c1,rfl,i7,j7,hb1⟩:=Mv h (by omega) m_ g0 l0 (by omega) d;have f_:=f_.eq;obtain⟨o,ho⟩:=aK (uniq l0 [] (dE h.l));rw [←ho]at j7;have hol:o.length≤9:=by
   have h2:=pF (l0:=l0) (acc:=[]) (l:=dE h.l);have h3:=Ab h;rw [ho];simp at h2;omega
  obtain⟨H2,b9⟩:=aK (H1++[.box [.f (sl g0 (aD l0)),c1] 0]:aj);have q2:H2[H1.length]?=aa (.box [.f (sl g0 (aD l0)),c1] 0):=by rw [b9];simp
  have i8:Kp d H2:=by rw [b9];exact⟨by have:=i7.1;simp;omega,fun b' l=>by rw [AT (aqR l i7.1)];exact i7.2 b' l⟩
  have t8:LR H2 c1 7 (aD o):=by rw [b9];exact j7.push _
  obtain⟨r3,H3,a8,c3,rfl,f7,v_,w9,hbc⟩:=vN (tab:=tab) (H:=H2) (F:=40) (G:=73) (sz:=7) (bytes:=88) (zs:=[fi 0,fi 0,fi 0,fi 0,.au,fi 0,.au]) ajm ajt (by decide) rfl (b:=H1.length) [(.f (sl g0 (aD l0)),aD l0),(c1,aD o)] q2 (by simp)
   (fun y s=>by
    simp only [aqA,ard,or_false]at s;rcases s with rfl | rfl
    ·exact⟨bt _,fun H' _=>⟨by simp,lf (bt _)⟩⟩
    ·refine⟨bt _,fun H' s9=>?_⟩;have:LR H' c1 7 (aD o):=t8.cG fun i y s _=>by rw [s9 i (an s)];exact s
     exact⟨this.len,LR.added this (bt _)⟩)
   (by simp;omega) (lT (by simp;omega) (by decide))
  have a8:Ev tab (.fn 40) [.c (.sl H1.length 0 2 2 0 1)] H2 (.c c3) H3:=a8;have a8:=a8.eq;have x_:aD (l0++o)=aD l0++aD o:=by simp [aD]
  have f7:LR H3 c3 7 (aD (l0++o)):=by rw [x_];simpa using f7
  have n9:Kp d H3:=⟨aqF i8.1 w9,fun b' l=>(v_ b' (aqR l i8.1)).trans (i8.2 b' l)⟩
  obtain⟨r4,H4,g_,rfl,s_,o',j9,x6,x9⟩:=ag3 f7 (by simp;omega);have g_:=g_.eq;have w_:o'=sG l0 h:=by
   unfold sG;rw [←ho];exact N3 (by rw [ho];exact vG h0 h) x6 x9
  subst w_;have s7:∀(i:Nat) cs fl,d[i]?=aa (.box cs fl)→H4[i]?=aa (.box cs fl):=fun i cs fl s=>by
   have h3:H3[i]?=aa (.box cs fl):=by rw [n9.2 i (an s)];exact s
   exact s_.2 i _ h3 (f7.ny h3)
  obtain⟨g,u9⟩:=j9.ex (bt _) 63;have E:=E g;obtain⟨H5,j6⟩:=aK (fT 64 c3 H4:aj);have z_:∀(i:Nat) cs fl,d[i]?=aa (.box cs fl)→H5[i]?=aa (.box cs fl):=fun i cs fl s=>by rw [j6];exact LR.mkB j9 (bt _) 63 (s7 i cs fl s)
  obtain⟨I,M,N,O,S,U,W,X,rfl⟩:∃ I M N O S U W X,rf=[I,M,N,O,S,U,W,X]:=by
   match rf,x8 with
   | [I,M,N,O,S,U,W,X],_=>exact⟨_,_,_,_,_,_,_,_,rfl⟩
  obtain⟨H6,b_⟩:=aK (H5++[.box (N9 [I,M,N,O,S,U,W,X]) 0]:aj);have q:∀(i:Nat) cs fl,d[i]?=aa (.box cs fl)→H6[i]?=aa (.box cs fl):=fun i cs fl s=>by
   have:=z_ i cs fl s;rw [b_,AT (an this)];exact this
  obtain⟨p6,p_⟩:=aK (H5.length);have r6:H6[p6]?=aa (.box (N9 [I,M,N,O,S,U,W,X]) 0):=by rw [b_,p_];simp
  apply ai;simp [a0 d z0,f_,-az];rw [←b9];simp [a8];apply ai;simp [g_];apply ai;simp only [N9,aqz,aqK]at E b_ r6;simp [x3 H4 (s7 1 _ _ z1),iA,cC,deep,u9,E,-az];rw [←j6]
  try simp
  rw [←b_,←p_];apply ak;apply ak;refine al (.inl rfl) ?_;simp;by_cases hc:B=0
  case neg=>
   refine aq (by simp [hc]) (ai ?_);simp [s2 H6 (q 2 _ _ z2),s3 H6 (q 3 _ _ K),-bf];exact f8 B (.inr (.inl ⟨he,hc,rfl,rfl,rfl⟩)) _ _ _ (q 2 _ _ z2) (q 3 _ _ K) (by simp) (by simp) (by simp)
  subst hc;refine bp (by simp) ?_;obtain⟨r7,H7,h_,c7,rfl,n_,j_,t_⟩:=vO h (by omega) m_ H6;have h_:=h_.eq;have up7:∀(i:Nat) cs fl,H6[i]?=aa (.box cs fl)→H7[i]?=aa (.box cs fl):=fun i cs fl s=>by rw [n_.2 i (an s)];exact s
  obtain⟨p8,q_⟩:=aK (H7.length);obtain⟨L,c_⟩:=aK (H7++[.box [.f (fi h.clock),.f (fi h.bJ),c7] 0]:aj);have A:∀(i:Nat) cs fl,H6[i]?=aa (.box cs fl)→L[i]?=aa (.box cs fl):=fun i cs fl s=>by
   have:=up7 i cs fl s;rw [c_,AT (an this)];exact this
  have r8:L[p8]?=aa (.box [.f (fi h.clock),.f (fi h.bJ),c7] 0):=by rw [c_,q_];simp
  have k_:LR L c7 10 (aM h.l):=by rw [c_];exact j_.push _
  have l67:=n_.1;have m4:∀ i,bB c7=aa i→4≤i∧i≠p6∧i≠p8:=fun i e=>by
   have h1:=t_ i e;have h2:=j_.lt e;have h3:=an (q 3 _ _ K);have h4:=an r6;omega
  apply ai;simp [a0 H6 (q 0 _ _ z0),h_,-az];rw [←c_,←q_];have i_:∀(t:T) (H:aj) (l:List bz) (c:C),t.g 8=.c (.ptr 2 0 0)→t.g 9=.c (.ptr 3 0 0)→t.g 14=.c (.ptr p6 0 0)→t.g 16=.c (.ptr p8 0 0)→H[2]?=aa (.box [.f (fi 0),.f (fi 0),.f .au] 0)→H[3]?=aa (.box kP 0)→H[p6]?=aa (.box [.f (fi I),.f (fi M),.f (fi N),.f (fi O),.f (fi S),.f (fi U),.f (fi W),.f (fi X)] 0)→H[p8]?=aa (.box [.f (fi h.clock),.f (fi h.bJ),c] 0)→LR H c 10 (aM l)→(∀ i,bB c=aa i→i≠2∧i≠3) →
    (∀ g,sw h x [I,M,N,O,S,U,W,X] 0 ⟨h.clock,h.bJ,g,l⟩ [I,M,N,O,S,U,W,X] 0)→WP tab 16 ab [.code yK] ⟨t,[],H⟩ Q:=by
   intro t H l c g8 g9 j4 j5 w2 w3 w6 w8 hL u6 hG;obtain⟨g,hg⟩:=hL.exU (bK _);have l3:aU H (aa 3) (.c (.ptr p8 0 0))=aa (.a [.f (fi h.clock),.f (fi h.bJ),c]):=by simp [aU,aF,w8,aT]
   have l8:aU H (aa 8) (.c (.ptr p6 0 0))=aa (.a [.f (fi I),.f (fi M),.f (fi N),.f (fi O),.f (fi S),.f (fi U),.f (fi W),.f (fi X)]):=by simp [aU,aF,w6,aT]
   obtain⟨Ha,a7⟩:=aK (H.set 2 (.box [.f (fi h.clock),.f (fi h.bJ),c] 0));have t1:cZ H (.ptr 2 0 0) [.f (fi h.clock),.f (fi h.bJ),c]=aa Ha:=by rw [a7];simp [cZ,w2,over]
   have s8:Ha[3]?=aa (.box kP 0):=by rw [a7,AI (by omega)];exact w3
   obtain⟨Hb,d_⟩:=aK (Ha.set 3 (.box [.f (fi I),.f (fi M),.f (fi N),.f (fi O),.f (fi S),.f (fi U),.f (fi W),.f (fi X)] 0));have t2:cZ Ha (.ptr 3 0 0) [.f (fi I),.f (fi M),.f (fi N),.f (fi O),.f (fi S),.f (fi U),.f (fi W),.f (fi X)]=aa Hb:=by rw [d_];simp [cZ,s8,over,kP]
   have y2:Hb[2]?=aa (.box [.f (fi h.clock),.f (fi h.bJ),c] 0):=by rw [d_,AI (by omega),a7];exact IN (an w2)
   have y3:Hb[3]?=aa (.box [.f (fi I),.f (fi M),.f (fi N),.f (fi O),.f (fi S),.f (fi U),.f (fi W),.f (fi X)] 0):=by rw [d_];exact IN (an s8)
   have u_:=hg Hb 63 (fun i y s hi=>by
    have:=u6 i hi;rw [d_,AI (by omega),a7,AI (by omega)];exact s)
   have m3:aU Hb (aa 3) (.c (.ptr 2 0 0))=aa (.a [.f (fi h.clock),.f (fi h.bJ),c]):=by simp [aU,aF,y2,aT]
   have m8:aU Hb (aa 8) (.c (.ptr 3 0 0))=aa (.a [.f (fi I),.f (fi M),.f (fi N),.f (fi O),.f (fi S),.f (fi U),.f (fi W),.f (fi X)]):=by simp [aU,aF,y3,aT]
   have aqd:c.beq c=ae:=by
    rcases hL with⟨_,rfl | rfl⟩ | ⟨_,b,ep,rfl,_⟩<;>simp [C.beq,FC.beq]
   have y8:aU Ha (aa 8) (.c (.ptr p6 0 0))=aa (.a [.f (fi I),.f (fi M),.f (fi N),.f (fi O),.f (fi S),.f (fi U),.f (fi W),.f (fi X)]):=by
    have:Ha[p6]?=H[p6]?:=by rw [a7,AI (by have:=an (q 3 _ _ K);intro e;rw [←e]at w6;rw [w2]at w6;simp at w6)]
    simp [aU,aF,this,w6,aT]
   refine ak (eT (.inl rfl) ?_ ?_)
   case _=>
    simp [g8,g9,j4,j5,l3,l8,t1,t2,-az,-bf];refine aB (hQ _ _ (.t [.a ((⟨h.clock,h.bJ,g,l⟩:dv).row.map .f),.a (N9 [I,M,N,O,S,U,W,X]),vi 0]) ⟨_,_,_,hG g,rfl⟩ ?_);simp [Km.results,bg,g8,g9,m3,m8,iA,cC,deep,dv.row,u_,N9,-az]
   ·intro cc u7;rw [aqs.1 u7];refine⟨by decide,_,rfl,.inl ⟨by decide,?_⟩⟩;simp [g8,j4,j5,l3,l8,y8,t1,fA,V.beq,gQ,C.beq,FC.beq,-az,-bf]
  have y_:aU L ab (.c (.ptr p6 0 0))=aa (vi I):=by simp [aU,aF,A _ _ _ r6]
  apply ak;apply ai;simp [y_,-az];by_cases J:I=0
  case neg=>
   refine bp (by simp [J]) ?_;exact i_ _ L h.l c7 (by simp) (by simp) (by simp) (by simp) (A 2 _ _ (q 2 _ _ z2)) (A 3 _ _ (q 3 _ _ K)) (A _ _ _ r6) r8 k_ (fun i e=>by have:=m4 i e;omega) fun g=>.inr (.inr ⟨he,rfl,rfl,rfl,g,.inl ⟨by simp [J],rfl⟩⟩)
  refine aq (by simp [J]) ?_;have e1:=A 1 _ _ (q 1 _ _ z1);have sx:cZ L (.ptr 1 3 0) (x.bc.row.map .f)=aa L:=by
   simp [e1,aA.row,bz.row,over];exact ud e1
  unfold Fix at hx;have y7:(x.bc.row.map C.f).length=7:=rfl;apply ai;simp [x3 L e1,hx,y7,sx,-az,-bf];obtain⟨p9,r5⟩:=aK (L.length);obtain⟨H9,d9⟩:=aK (L++[.box (x.row.map .f) 0]:aj);have r9:H9[p9]?=aa (.box (x.row.map .f) 0):=by rw [d9,r5];simp
  have a_:∀(i:Nat) cs fl,L[i]?=aa (.box cs fl)→H9[i]?=aa (.box cs fl):=fun i cs fl s=>by
   rw [d9,AT (an s)];exact s
  have l_:LR H9 c7 10 (aM h.l):=by rw [d9];exact k_.push _
  obtain⟨c9,K9,i4,j8,t7,u5⟩:=Ni l_ (bK _) (by simp;omega) (i:=i) (by simpa using hi) (row:=x.row) rfl r9;have i4:=i4.eq;have z8:aU L ab (.c (.ptr p8 2 0))=aa (.c c7):=by simp [aU,aF,r8]
  have k9:∀(j:Nat) cs fl,L[j]?=aa (.box cs fl)→K9[j]?=aa (.box cs fl):=fun j cs fl s=>t7.2 j _ (a_ j _ _ s) (l_.ny (a_ j _ _ s));obtain⟨Kc,e_⟩:=aK (K9.set p8 (.box [.f (fi h.clock),.f (fi h.bJ),c9] 0));have z9:cZ K9 (.ptr p8 2 0) [c9]=aa Kc:=by rw [e_];simp [cZ,k9 _ _ _ r8,over]
  have l48:p8<H9.length:=by have:=an (a_ _ _ _ r8);exact this
  have m9:∀ j,bB c9=aa j→4≤j∧j≠p6∧j≠p8:=fun j e=>by
   rcases u5 with e1 | e1
   ·exact m4 j (by rw [←e1];exact e)
   ·rw [e1]at e;cases e;have h3:=an (a_ _ _ _ (A 3 _ _ (q 3 _ _ K)));have h4:=an (a_ _ _ _ (A _ _ _ r6));omega
  have i9:aM (h.l.take i++x::h.l.drop i)=(aM h.l).take i++x.row ::(aM h.l).drop i:=by simp [aM,List.map_take,asn]
  have t9:LR Kc c9 10 (aM (h.l.take i++x::h.l.drop i)):=by
   rw [e_,i9];exact j8.set (fun e=>by have:=m9 _ e;omega) _
  have kc:∀(j:Nat) cs fl,L[j]?=aa (.box cs fl)→j≠p8→Kc[j]?=aa (.box cs fl):=fun j cs fl s hj=>by rw [e_,AI (Ne.symm hj)];exact k9 j _ _ s
  have lp6:=an r6;have lp3:=an (q 3 _ _ K);refine al (.inl rfl) ?_;simp [z8,x4 L e1,y6,-az];rw [←d9,←r5];simp [i4,z9,-bf];exact i_ _ Kc _ c9 (by simp) (by simp) (by simp) (by simp) (kc 2 _ _ (A 2 _ _ (q 2 _ _ z2)) (by omega)) (kc 3 _ _ (A 3 _ _ (q 3 _ _ K)) (by omega)) (kc _ _ _ (A _ _ _ r6) (by omega)) (by rw [e_];exact IN (an (k9 _ _ _ r8))) t9 (fun j e=>by have:=m9 j e;omega) fun g=>.inr (.inr ⟨he,rfl,rfl,rfl,g,.inr ⟨by simp [J],i,hi,o_,n8,rfl⟩⟩)
 exact⟨res,Y,c,hG,hp.eq⟩
def rB:List (List Int)→List Int
 | []=>mh| r::l=>if r.headD 0=0 then rB l else r
def tZ:List Nat:=[77,78,79,80]
theorem sE:∀ {b:List (List Int)},(∀ r ∈ b,r.length=8)→(rB b).length=8
 | [],_=>rfl
 | r::l,h=>by
  unfold rB;split
  ·exact sE fun y d=>h y (aqt _ d)
  ·exact h r aqv
theorem Yc(af q:Int)(g:Tg)(ss:List aA)(J:ss.length≤1000)(L:ss.Pairwise jN)(K:∀ s ∈ ss,s.st.Sm)(x:aA)(M:x.st.Sm)(m:(jq af q ss x&&!kz ss x)=ag) :
  bh tab 44 [.c (.f (gl af q)),.c (.f (sl g (aD ss))),.a (x.row.map .f)]=Eq (.t [rp mh,vi 1]):=bh.eq (by
 refine bS rfl rfl fun Q I=>?_;have l:=Du af q g ss J L K x M;have v:x.row.length=7:=rfl;obtain⟨S,z⟩:=aK (sl g (aD ss));obtain⟨O,y⟩:=aK (gl af q);rw [←z,←y]at l ⊢;apply ai;simp [v];obtain⟨j,d⟩:=aK ([bo.box (x.row.map .f) 0,.box [.f (fi 0),.f (fi 0),.f (fi 0),.f (fi 0),.f (fi 0),.f (fi 0),.f (fi 0),.f (fi 0)] 0]:aj);have F:j[0]?=aa (.box (x.row.map .f) 0):=by rw [d];rfl
 have A:j[1]?=aa (.box [.f (fi 0),.f (fi 0),.f (fi 0),.f (fi 0),.f (fi 0),.f (fi 0),.f (fi 0),.f (fi 0)] 0):=by rw [d];rfl
 have E:aU j (aa 7) (.c (.ptr 0 0 0))=aa (.a (x.row.map .f)):=by simp [aU,aF,F,aT,aA.row]
 have N:cZ j (.ptr 1 0 0) [.f (fi 0),.f (fi 0),.f (fi 0),.f (fi 0),.f (fi 0),.f (fi 0),.f (fi 0),.f (fi 0)]=aa (j.set 1 (.box [.f (fi 0),.f (fi 0),.f (fi 0),.f (fi 0),.f (fi 0),.f (fi 0),.f (fi 0),.f (fi 0)] 0)):=by simp [cZ,A,over]
 rw [←d];have b:∀ t:T,t.g 6=.c (.ptr 1 0 0)→t.g 9=vb ag→WP tab 44 ab [.code sf] ⟨t,[],j⟩ Q:=by
  intro t B H;apply ak;apply ai;simp [H];refine aq (by simp) ?_;apply ai;simp [B,N,-bf];refine aB (I _ _ ?_);simp [Km.results,bg,B,an A,aT,rp,mh]
 apply ai;cases u:jq af q ss x with
 | false=>
  rw [u]at l;simp [E,l,-az];exact b _ (by simp) (by simp)
 | true=>
  rw [u,Bool.true_and,Bool.not_eq_false']at m;rw [u,m]at l;simp [E,l,-az];exact b _ (by simp) (by simp))
theorem Yd(af L:Int)(g:Tg)(ss:List aA)(hl:ss.length≤1000)(hs:ss.Pairwise jN)(hm:∀ s ∈ ss,s.st.Sm)(x:aA)(hx:x.st.Sm)(H:(jq af L ss x&&!kz ss x)=ae)
  (v:List (List Int)) (f_:v.length=4) (h8:∀ r ∈ v,r.length=8)
  (hr:∀(i:Nat) (h:i<4) (K:aj),∃ z,Ev tab (.fn (tZ[i]'h)) [.c (.f (ea (gl af L) (sl g (aD ss)) x))] K (.t [rp (v[i]'(by omega)),vi 0]) z∧Kp K z) :
  bh tab 44 [.c (.f (gl af L)),.c (.f (sl g (aD ss))),.a (x.row.map .f)]=Eq (.t [rp (rB v),vi 0]):=by
 obtain⟨r,rfl,hp⟩:∃ r,r=.t [rp (rB v),vi 0]∧bh tab 44 [.c (.f (gl af L)),.c (.f (sl g (aD ss))),.a (x.row.map .f)] r:=by
  refine eI (S:=fun r=>r=.t [rp (rB v),vi 0]) ajd rfl fun Q hQ=>?_;have Y:=Du af L g ss hl hs hm x hx;rw [If,arf]at H;rw [H.1,H.2]at Y;have f8:x.row.length=7:=rfl;obtain⟨res,u⟩:=aK (rB v);have f7:res.length=8:=by rw [u];exact sE h8
  rw [←u]at hQ;simp only [ea]at Y hr;obtain⟨sd,b9⟩:=aK (sl g (aD ss));obtain⟨rm,a_⟩:=aK (gl af L);rw [←b9,←a_]at Y ⊢;rw [←b9,←a_]at hr;obtain⟨cd,d9⟩:=aK ([rm,sd]++x.row);rw [←d9]at Y hr;apply ai;simp [f8];obtain⟨A,y⟩:=aK ([bo.box (x.row.map .f) 0,.box [.f (fi 0),.f (fi 0),.f (fi 0),.f (fi 0),.f (fi 0),.f (fi 0),.f (fi 0),.f (fi 0)] 0]:aj);have c0:A[0]?=aa (.box (x.row.map .f) 0):=by rw [y];rfl
  have c1:A[1]?=aa (.box [.f (fi 0),.f (fi 0),.f (fi 0),.f (fi 0),.f (fi 0),.f (fi 0),.f (fi 0),.f (fi 0)] 0):=by rw [y];rfl
  have n0:A.length=2:=by rw [y];rfl
  have l7:aU A (aa 7) (.c (.ptr 0 0 0))=aa (.a (x.row.map .f)):=by simp [aU,aF,c0,aT,aA.row]
  rw [←y];have N:∀(t:T) (K:aj) (j:Option aE),t.g 6=.c (.ptr 1 0 0)→t.g 7=vi 0→K[1]?=aa (.box (res.map fun n=>.f (fi n)) 0)→Q j ⟨t,[],K⟩:=by
   intro t K j d g7 J;refine hQ _ _ _ rfl ?_;refine⟨rfl,.t [rp res,vi 0],?_,?_⟩
   ·simp [Km.results,cI,bg,d,g7,aU,aF,J,aT,f7,ap1,rp]
   ·have hx:(res.map fun n=>C.f (fi n))=(res.map fun n=>fi n).map C.f:=by simp
    simp only [rp,hx];generalize (res.map fun n=>fi n)=ys;simp [iA,cC,bg,deep]
  have go:∀ t:T,t.g 6=.c (.ptr 1 0 0)→t.g 8=.c (.f (.fp cd 0))→t.g 9=vb ae→WP tab 44 ab [.code sf] ⟨t,[],A⟩ Q:=by
   intro t d g8 g9;apply ak;apply ai;simp [g9];refine bp (by simp) ?_;apply ak;apply ai;obtain⟨I,q⟩:=aK (A++[bo.box (tZ.map fun f=>C.bm f [.f (.fp cd 0)]) 0]:aj);have k1:Kp A I:=by rw [q];exact Kp.push _ _
   have b1:I[2]?=aa (.box (tZ.map fun f=>C.bm f [.f (.fp cd 0)]) 0):=by rw [q,←n0];simp
   have n1:I.length=3:=by rw [q];simp [n0]
   simp only [tZ,aqz,aqK]at q;have a8:bu I (.sl 2 0 4 4 0 1)=aa 4:=by simp [bu,b1]
   simp [g8,n0];rw [←q];simp [a8];refine bM 4 (fun j t K=>t.g 6=.c (.ptr 1 0 0)∧t.g 32=.c (.sl 2 0 4 4 0 1)∧Kp I K∧rB (v.drop j)=res) (by omega) (by decide) (by decide) (by simp) (by simp) ⟨by simp [d],by simp,⟨aft _,fun _ _=>rfl⟩,by simpa using u.symm⟩ ?_ ?_
   ·rintro j t K hj ⟨d,b,hK,F⟩ X J next
    have Z:j<v.length:=by omega
    obtain⟨z,e_,c_⟩:=hr j hj K;have M:=hK.get b1;have m:=h8 _ (anc Z);rw [apw Z,rB]at F;have i1:bA K 1 ab (.c (.sl 2 0 4 4 0 1)) (vi (j:Int))=aa (.c (.ptr 2 j 0)):=by
     simp [bA,show gD (vi (j:Int))=aa (j:Int) from rfl,M];omega
    have i2:aU K ab (.c (.ptr 2 j 0))=aa (.c (.bm (tZ[j]'hj) [.f (.fp cd 0)])):=by
     rw [az,M];exact uC (by rw [aq0,By (show j<tZ.length from hj)];rfl)
    generalize v[j]=r at *;generalize tZ[j]=f at *;refine aG ?_;apply ai;simp [b,X,i1,i2,-az];obtain⟨B,E⟩:=aK (z++[bo.box (r.map fun n=>.f (fi n)) 0]);have d2:B[z.length]?=aa (.box (r.map fun n=>.f (fi n)) 0):=by rw [E];simp
    have a7:Kp I B:=(hK.tr c_).tr (by rw [E];exact Kp.push _ _);have l0:aU B ab (.c (.ptr z.length 0 0))=aa (vi (r.headD 0)):=by
     match r,m with
     | p0::_,_=>simp [aU,aF,d2]
    have l8:aU B (aa 8) (.c (.ptr z.length 0 0))=aa (.a (r.map fun n=>.f (fi n))):=by
     simp [aU,aF,d2,aT,m,ap1]
    apply ak;refine al (.inl rfl) ?_;simp [e_.eq,rp,m,-az];rw [←E]
    suffices b_:∀ w:T,w.g 6=.c (.ptr 1 0 0)→w.g 12=.c (.ptr z.length 0 0)→w.g 13=vi 0→w.g 32=.c (.sl 2 0 4 4 0 1)→w.g 33=vi (4:Nat)→w.g 34=vi (j:Nat)→WP tab 44 ab [.code vk,.inBlock 1,.code (rE 34 52),.inLoop (il 0 34 33 35 52 vj),.inBlock 0,.code vl] ⟨w,[],B⟩ Q by
     exact b_ _ (by simp [d]) (by simp) (by simp) (by simp [b]) (by simpa using J) (by simp [X])
    clear d b X J;intro w d O U b J X;apply ak;refine al (.inl rfl) ?_;simp [O,U,l0,-az];by_cases h0:r.headD 0=0
    ·rw [ba h0]at F;refine aC (by simpa using h0) (aO ?_);exact av (next _ _ ⟨by simp [d],by simp [b],a7,F⟩ (by simp [X]) (by simp [J]))
    ·rw [aW h0]at F;refine aq (by simpa using h0) ?_;have l:=a7.get (k1.get c1);obtain⟨K3,W⟩:=aK (B.set 1 (.box (r.map fun n=>.f (fi n)) 0));have s1:cZ B (.ptr 1 0 0) (r.map fun n=>.f (fi n))=aa K3:=by
      rw [W]
      match r,m with
      | [p0,p1,p2,p3,p4,p5,p6,p7],_=>simp [cZ,l,over]
     apply ai;simp [d,O,U,l8,m,s1,-az,-bf];refine aB (N _ _ _ (by simp [d]) (by simp) ?_);rw [W,IN (an l),F]
   ·rintro t K ⟨d,b,hK,F⟩ - -;have d_:res=mh:=by
     rw [←F,arz (by omega)];rfl
    have l:=hK.get (k1.get c1);have s1:cZ K (.ptr 1 0 0) [.f (fi 0),.f (fi 0),.f (fi 0),.f (fi 0),.f (fi 0),.f (fi 0),.f (fi 0),.f (fi 0)]=aa (K.set 1 (.box [.f (fi 0),.f (fi 0),.f (fi 0),.f (fi 0),.f (fi 0),.f (fi 0),.f (fi 0),.f (fi 0)] 0)):=by simp [cZ,l,over]
    apply ai;simp [d,s1,-bf];refine aB (N _ _ _ (by simp [d]) (by simp) ?_);rw [IN (an l),d_];rfl
  apply ai;simp [l7,Y,-az];exact go _ (by simp) (by simp) (by simp)
 exact hp.eq
theorem oe{s:aA}(h:kQ s):Mi s:=by
 obtain⟨m,r,t,z,n,p,mi,le,rfl,b⟩:=h;obtain⟨k,j,g⟩:=b.i0;refine⟨b.r0,b.r1,by simp [qJ],fun c d=>?_,by have:=b.l0;show 1≤le;omega,b.l1,rfl⟩;simp [qJ]at d;rw [d];show 0≤mi∧mi≤1180;omega
theorem rO{s:aA}(h:kQ s):∃ n p mi,xc s.st n p mi:=by
 obtain⟨m,r,t,z,n,p,mi,le,rfl,b⟩:=h;obtain⟨k,g,d⟩:=b.i0;exact⟨n,p,mi,ZI ⟨b.n0,b.n1,b.p0,b.p1⟩ (by omega) (by omega) (by have:=b.l0;omega) (by have:=b.l1;omega)⟩
theorem BV{s:aA}(h:kQ s):s.st.Sm:=by
 obtain⟨m,r,t,z,n,p,mi,le,rfl,b⟩:=h;exact BW ..
theorem afJ{s:aA}(h:kQ s):V.beq (.a (s.st.row.map .f)) (.a (s.st.row.map .f))=ae:=by
 obtain⟨m,r,t,z,n,p,mi,le,rfl,b⟩:=h;show V.beq (.a ((rF n p mi le).map .f)) (.a ((rF n p mi le).map .f))=ae;simp [rF,tC,V.beq,C.beq,FC.beq,gQ]
theorem Ak{s:aA}(h:kQ s){af:Int}(x:0≤af)(a1:af≤39)(g j:Tg):rA (lM af s g j):=by
 obtain⟨m,r,t,z,n,p,mi,le,rfl,b⟩:=h;obtain⟨k,y,u⟩:=b.i0;have l0:=b.l0;have A:=b.l1;have l:yx n p:=⟨b.n0,b.n1,b.p0,b.p1⟩
 have v:=ta (m:=0) (r:=0) (t:=0) (z:=0) (mi:=mi) (le:=le+0+af) l (by omega) (by omega) (by omega) (by omega);have q:mi-0=mi:=by omega
 refine⟨by show 1≤le+0+af∧le+0+af≤400;omega,by simp [lM,qJ],fun {c} d=>?_,?_,?_,fun c d=>?_,rfl⟩
 ·simp [lM,qJ,jA]at d;rw [d];show 0≤mi∧mi≤1180;omega
 ·have:=BW m r t z n p mi (le+0+af);simpa [aR.Sm,lM,qJ,jA]using this
 ·have:dW (lM af (qJ m r t z n p mi le) g j)=dW (qJ 0 0 0 0 n p mi (le+0+af)).st:=by
   show dW ⟨g,[⟨.fs,[⟨.fs,[⟨.nil,[],0,n,.fs,[p]⟩]⟩],mi-0⟩],le+0+af,j,[]⟩=dW ⟨.fs,[⟨.fs,[⟨.fs,[⟨.nil,[],0,n,.fs,[p]⟩]⟩],mi⟩],le+0+af,.nil,[]⟩;rw [q];rfl
  rw [this];exact v
 ·simp [lM,qJ,jA]at d;rw [d];exact⟨n,p,l,rfl⟩
theorem ND{s:aA}(h:kQ s){af:Int}(j:0≤af)(a1:af≤39)(b d:Tg):bh tab 53 [.a ((lM af s b d).row.map .f)]=Eq (vb ae):=by
 have g:=Ak h j a1 b d;have:=(iR _ g.sm).eq;rwa [g.v]at this
theorem aho(s:aR){n p mi:Int}(b:xc s n p mi)(q:Int)(j:-1≤q)(l:q≤100):∃ w v,bh tab 128 [.a (s.row.map .f),vi q]=Eq (.c (.f v))∧bh tab 202 [.c (.f v)]=Eq (vi w):=by
 obtain⟨g,L,⟨B,y⟩,E,z⟩:=vJ s b q j l;refine⟨_,_,z,Cn g L (by omega) fun x A=>?_⟩;obtain⟨d,rfl,m,u,-⟩:=(y x).1 A;have H:=b.m0;have I:=b.m1;have l0:=b.l0;have F:=b.l1;unfold afM at m u;simp only [ft];omega
theorem vF:∀ {d:List (List Int)},(rB d).headD 0=0→∀ r ∈ d,r.headD 0=0
 | [],_,_,h=>by simp at h
 | r::l,h,y,b=>by
  unfold rB at h;split at h
  ·rename_i h0;rcases aqA.1 b with rfl | b
   ·exact h0
   ·exact vF h y b
  ·rename_i h0;exact absurd h h0
theorem qW{af:Int}{x:aA}{mt:aA→Bool}{fx fy:aA→aN}{fd:aA→Bool}:∀ {l:List aA},(gA af x mt fx fy fd l).headD 0=0→∀ s ∈ l,s.meet=x.meet∨mt s=ag
 | [],_,_,h=>by simp at h
 | s::r,h,y,b=>by
  unfold gA at h;split at h
  ·rename_i h0;rcases aqA.1 b with rfl | b
   ·exact h0
   ·exact qW h y b
  ·unfold Yv at h;split at h<;>simp at h
theorem Zv{x s:aA}{af:Int}(v:0≤af){b g j l:Tg}(h:nQ x.st s.st):nQ (lM af x b g) (lM af s j l):=by
 obtain⟨c,q,d,u,k,y,z,m⟩:=h;refine⟨jA 0 c,aqJ.2 ⟨c,q,rfl⟩,jA 0 d,aqJ.2 ⟨d,u,rfl⟩,k,?_,?_,m⟩
 ·unfold Ac at *;simp only [jA,lM];omega
 ·unfold zP at *;simp only [jA,lM];omega
theorem Yb(af j:Int)(a0:0≤af)(a1:af≤39)(ss:List aA)(hl:ss.length≤1000)(hs:ss.Pairwise jN)(W:∀ s ∈ ss,kQ s)(x:aA)(B:kQ x) :
  ∃(rf:List Int) (U:Int),rf.length=8∧(U=0→kz ss x=ag∧(rf.headD 0=0→∀ s ∈ ss,s.room=x.room→s.meet≠x.meet→¬ nQ x.st s.st)) ∧
   ∀ g,bh tab 44 [.c (.f (gl af j)),.c (.f (sl g (aD ss))),.a (x.row.map .f)]=Eq (.t [rp rf,vi U]):=by
 have hm:∀ s ∈ ss,s.st.Sm:=fun s h=>BV (W s h);cases Q:(jq af j ss x&&!kz ss x)with
 | false=>exact⟨mh,1,rfl,fun h=>by omega,fun g=>Yc af j g ss hl hs hm x (BV B) Q⟩
 | true=>
  obtain⟨G,hG⟩:=Classical.skolem.1 (show ∀ s:aA,∃ g:Tg × Tg,kQ s→bh tab 137 [.c (.f (gl af j)),.a (s.row.map .f)]=Eq (.t [.a ((lM af s g.1 g.2).row.map .f),vb ae]) from fun s=>by
   by_cases h:kQ s
   ·obtain⟨g1,g2,E⟩:=Al af j a0 a1 s (oe h) (ND h a0 a1);exact⟨(g1,g2),fun _=>E⟩
   ·exact⟨(.nil,.nil),fun E=>absurd E h⟩)
  obtain⟨A,N⟩:∃ A:aA→aR,∀ s,A s=lM af s (G s).1 (G s).2:=⟨_,fun _=>rfl⟩
  have u:∀ s,kQ s→rA (A s):=fun s h=>by rw [N];exact Ak h a0 a1 _ _
  obtain⟨mt,c_⟩:=Classical.skolem.1 (show ∀ s:aA,∃ r:Bool,kQ s→(r=ae↔nQ (A x) (A s))∧bh tab 25 [.a ((A x).row.map .f),.a ((A s).row.map .f)]=Eq (.t [vb r,vi 0]) from fun s=>by
   by_cases h:kQ s
   ·obtain⟨r,E⟩:=YL (A x) (A s) (u x B) (u s h);exact⟨r,fun _=>E⟩
   ·exact⟨ag,fun E=>absurd E h⟩)
  obtain⟨F,hF⟩:=Classical.skolem.1 (show ∀ s:aA,∃ q:aN × aN × Bool,kQ s→bh tab 138 [.a ((A x).row.map .f),.a ((A s).row.map .f),vi (-2251799813685248)]=Eq (.t [.a (q.1.row.map .f),.a (q.2.1.row.map .f),vb q.2.2]) from fun s=>by
   by_cases h:kQ s
   ·obtain⟨X,Y,f,E⟩:=MV (A x) (A s) (u x B) (u s h) (-2251799813685248) (by omega) (by omega);exact⟨(X,Y,f),fun _=>E⟩
   ·exact⟨(⟨0,0,0⟩,⟨0,0,0⟩,ag),fun E=>absurd E h⟩)
  obtain⟨nx,px,i7,f_⟩:=rO B;obtain⟨d_,d9⟩:=Classical.skolem.1 (show ∀ n:Int,∃ O:List aN,-1≤n→n≤100→O.length≤10∧∃ g,bh tab 128 [.a (x.st.row.map .f),vi n]=Eq (.c (.f (sl g (aH O)))) from fun n=>by
   by_cases h:-1≤n∧n≤100
   ·obtain⟨g,L,-,h3,h4⟩:=vJ x.st f_ n h.1 h.2;exact⟨L,fun _ _=>⟨h3,g,h4⟩⟩
   ·exact⟨[],fun H l=>absurd ⟨H,l⟩ h⟩)
  obtain⟨wk,i4⟩:=Classical.skolem.1 (show ∀ q:Int × aR,∃ w:Int,-1≤q.1→q.1≤100→(∃ n p mi,xc q.2 n p mi)→∃ v,bh tab 128 [.a (q.2.row.map .f),vi q.1]=Eq (.c (.f v))∧bh tab 202 [.c (.f v)]=Eq (vi w) from fun q=>by
   by_cases h:(-1≤q.1∧q.1≤100)∧∃ n p mi,xc q.2 n p mi
   ·obtain⟨⟨H,l⟩,n,p,mi,h3⟩:=h;obtain⟨w,h4⟩:=aho q.2 h3 q.1 H l;exact⟨w,fun _ _ _=>h4⟩
   ·exact⟨0,fun H l h3=>absurd ⟨⟨H,l⟩,h3⟩ h⟩)
  have I:∀ s ∈ cR x.room x.eg ss,∃ n p mi,xc s n p mi:=fun s h=>by
   obtain⟨y,hy,rfl⟩:=aqJ.1 h;exact rO (W y (List.mem_filter.1 hy).1)
  have i5:(cR x.room x.eg ss).length≤1000:=by
   unfold cR;rw [aqr];exact aqF (arF _ _) hl
  obtain⟨d,hd,b_⟩:=B7 .fs (cR x.room x.eg ss++[x.st]) (by simp;omega) fun s h=>by
   rcases aqC.1 h with h | h
   ·exact I s h
   ·rw [aqs.1 h];exact rO B
  obtain⟨a_,e_,-,b9⟩:∃ rf:List Int,rf.length=8∧True∧∀(sd:FC) (K:aj),∃ J,Ev tab (.fn 77) [.c (.f (ea (gl af j) sd x))] K (.t [.a (rf.map fun n=>.f (fi n)),vi 0]) (K++J):=by
   refine⟨if 10<x.size then [14,0,0,0,0,0,0,0]else [0,0,0,0,0,0,0,0],by split<;>rfl,trivial,fun sd K=>?_⟩;obtain⟨rf,-,h_,h⟩:=zw af j sd x (oe B).r0 (oe B).r1;rw [←h_];exact h K
  have Z:=oe B;have M:∃ hr:List Int,hr.length=8∧∀(sd:FC) (K:aj),∃ K',Ev tab (.fn 78) [.c (.f (ea (gl af j) sd x))] K (.t [rp hr,vi 0]) K'∧Kp K K':=by
   obtain⟨m,r,t,z,n,p,mi,le,rfl,b⟩:=B;obtain⟨k,hk,i6⟩:=b.i0;refine⟨qA n p mi le,by unfold qA;split<;>rfl,fun sd K=>?_⟩;have:=Y4 af j sd (m:=m) (r:=r) (t:=t) (z:=z) ⟨b.n0,b.n1,b.p0,b.p1⟩ hk le (by have:=b.l0;omega) (by have:=b.l1;omega) b.r0 b.r1 K;have e:((20*k:Nat):Int)=mi:=by omega
   rw [e]at this;exact this
  obtain⟨g_,f7,f8⟩:=M;obtain⟨rs,S⟩:∃ rs:List (List Int),rs=[a_,g_,gA af x mt (fun s=>(F s).1) (fun s=>(F s).2.1) (fun s=>(F s).2.2) (ss.filter fun s=>shB af j s.room x.room),
   NN (if(qF x.eg (cf af j x.room).q).2 then AB (qF x.eg (cf af j x.room).q).1 (15+7*(d:Int)) d_ (fun q=>uG (fun s=>wk (q,s)) 0 (cR x.room x.eg ss)) 200 (-1)else ab)]:=⟨_,rfl⟩
  have h8:∀ r ∈ rs,r.length=8:=by
   intro r hr;rw [S]at hr;simp only [aqA,ard,or_false]at hr;rcases hr with rfl | rfl | rfl | rfl
   ·exact e_
   ·exact f7
   ·exact nj ..
   ·exact AD _
  refine⟨rB rs,0,sE h8,fun _=>⟨by rw [If,arf]at Q;exact Q.2,fun h0 s hsm a8 a7 hM=>?_⟩,fun g=>Yd af j g ss hl hs hm x (BV B) Q rs (by rw [S];rfl) h8 fun i hi K=>?_⟩
  ·have H:=vF h0 _ (by rw [S];simp:gA af x mt (fun s=>(F s).1) (fun s=>(F s).2.1) (fun s=>(F s).2.2) (ss.filter fun s=>shB af j s.room x.room) ∈ rs);have l:=qW H s (List.mem_filter.2 ⟨hsm,by rw [a8];exact aae ..⟩);rcases l with l | l
   ·exact a7 l
   ·have:=(c_ s (W s hsm)).1.2 (by rw [N,N];exact Zv a0 hM);rw [l]at this;cases this
  ·subst S
   match i,hi with
   | 0,_=>
    obtain⟨J,h⟩:=b9 (sl g (aD ss)) K;exact⟨_,h,Kp.push _ _⟩
   | 1,_=>exact f8 (sl g (aD ss)) K
   | 2,_=>
    refine Yw af j g ss hl x Z (fun s h=>oe (W s h)) A (fun s h=>?_) mt (fun s h=>(c_ s (W s h)).2) _ _ _ (fun s h=>hF s (W s h)) K;rw [N];rcases h with rfl | h
    ·exact hG _ B
    ·exact hG _ (W s h)
   | 3,_=>
    exact ZY af j g ss hl x Z.r0 Z.r1 (afJ B) d hd b_ d_ _ (fun n H l=>d9 n H l) (fun n H l=>ahn af j g ss hl x n (fun s=>wk (n,s)) fun s h=>i4 (n,s) H l (I s h)) K
theorem AM:(RK 117 [.c (.f .au),.c (.f .au)] (vb ae),fam.map fun x=>RK 118 [mx x.1 x.2,mx x.1 x.2] (vb ae)) =
  ((vb ae=vb ae),fam.map fun _=>(vb ae=vb ae)):=by kernel_rfl
theorem Eg:bh tab 117 [.c (.f .au),.c (.f .au)]=Eq (vb ae)∧∀ n p,yx n p→bh tab 118 [mx n p,mx n p]=Eq (vb ae):=
 ⟨jT (aqN AM).1,fun n p h=>qR (args:=fun x:Int × Int=>[mx x.1 x.2,mx x.1 x.2]) (res:=fun _=>vb ae) (aqN AM).2 (iC h)⟩
theorem CZ(s:aR){n p mi:Int}(v:xc s n p mi)(O:s.xg=.nil):bh tab 63 [.a (s.row.map .f),.a (s.row.map .f)]=Eq (vb ae):=Kf.eq (by
 have N:s.cs.length=1:=by rw [v.cs];rfl
 have A:bh tab 117 [.c (.f (sl s.xg (aH s.xs))),.c (.f (sl s.xg (aH s.xs)))]=Eq (vb ae):=by rw [v.xs,O];exact Eg.1
 refine cF rfl rfl fun H Q M=>?_;apply ai;simp [aR.row];apply ak;apply ai;simp [A];refine bp (by simp) ?_;apply ak;apply ai;simp;obtain⟨u,b⟩:=aK (H++[.box [.f (sl s.cg (aL s.cs)),.f (fi s.len),.f (sl s.xg (aH s.xs))] 0,.box [.f (sl s.cg (aL s.cs)),.f (fi s.len),.f (sl s.xg (aH s.xs))] 0]:aj);have I:u[H.length]?=aa (.box [.f (sl s.cg (aL s.cs)),.f (fi s.len),.f (sl s.xg (aH s.xs))] 0):=by rw [b];simp
 have S:u[H.length+1]?=aa (.box [.f (sl s.cg (aL s.cs)),.f (fi s.len),.f (sl s.xg (aH s.xs))] 0):=by rw [b];simp
 have y:∃ J,u=H++J:=⟨_,b⟩
 rw [←b];refine oS s.cs.length (fun j t H'=>t.g 2=.c (.ptr H.length 0 0)∧t.g 3=.c (.ptr (H.length+1) 0 0)∧H'=u) (by omega) rfl (by simp) ⟨by simp,by simp,rfl⟩ ?_ ?_ ?_
 ·rintro j t _ L m ⟨d,l,rfl⟩ g K;simp [g,d,I];exact K _ ⟨by simp [d],by simp [l],rfl⟩ (by simp [g]) (by simp)
 ·rintro j t _ m ⟨d,l,rfl⟩ g next
  have B:=fun H:aj=>oU (H:=H) (cP s.cs) (dP m) rfl;have E:=fun H:aj=>ij (H:=H) (k:=1) (cP s.cs) (dP m) rfl;have F:=fun H:aj=>DZ (H:=H) (k:=0) (n:=1) (cP s.cs) (dP m) (by decide);simp [cA.row]at B E F;have z:j=0:=by omega
  have x:s.cs[j]=⟨.fs,[td n p],mi⟩:=by subst z;simp [v.cs]
  rw [x]at B E F;have q:=Eg.2 n p v.sm;change bh tab 118 [.a [.f (sl .fs (aI [td n p]))],.a [.f (sl .fs (aI [td n p]))]]=_ at q;refine aG ?_;apply ai;simp [g,d,l,I,S,bF,m,B,E,F,q];exact aC (by simp) (aO (av (next _ _ ⟨by simp [d],by simp [l],rfl⟩ (by simp [g]))))
 ·rintro t _ ⟨d,l,rfl⟩ g;apply ai;simp;refine aB (M _ _ ?_);simp [y])
theorem N4(s:aA)(g:kQ s):bh tab 29 [.a (s.row.map .f),.a (s.row.map .f)]=Eq (vb ae):=Kf.eq (by
 obtain⟨n,p,mi,j⟩:=rO g;have q:s.st.xg=.nil:=by obtain⟨m,r,t,z,n,p,mi,le,rfl,b⟩:=g;rfl
 have d:=CZ s.st j q;simp [aR.row]at d;refine cF rfl rfl fun H Q l=>?_;apply ai;simp [aA.row];apply ai;simp [d];refine aB (l _ _ ?_);simp)
theorem AP(s:bz)(g:kQ s.bc):bh tab 19 [.a (s.row.map .f),.a (s.row.map .f)]=Eq (vb ae):=Kf.eq (by
 have b:=N4 s.bc g;simp [aA.row]at b;refine cF rfl rfl fun H Q d=>?_;apply ai;simp [bz.row];apply ai;simp [b];refine aB (d _ _ ?_);simp)
theorem CP(a a':dv)(M:a.l.length≤1048576)(F:∀ s ∈ a.l,kQ s.bc)(y:a.clock=a'.clock)(z:a.bJ=a'.bJ)(A:a.l=a'.l):bh tab 12 [.a (a.row.map .f),.a (a'.row.map .f)]=Eq (vb ae):=Kf.eq (by
 refine cF rfl rfl fun H Q E=>?_;apply ai;simp [dv.row,←y,←z,←A];apply ak;apply ai;simp;refine bp (by simp) ?_;apply ak;apply ai;simp;obtain⟨m,b⟩:=aK (H++[.box [.f (fi a.clock),.f (fi a.bJ),.f (sl a.lg (aM a.l))] 0,.box [.f (fi a.clock),.f (fi a.bJ),.f (sl a'.lg (aM a.l))] 0]:aj);have x:m[H.length]?=aa (.box [.f (fi a.clock),.f (fi a.bJ),.f (sl a.lg (aM a.l))] 0):=by rw [b];simp
 have K:m[H.length+1]?=aa (.box [.f (fi a.clock),.f (fi a.bJ),.f (sl a'.lg (aM a.l))] 0):=by rw [b];simp
 have u:∃ J,m=H++J:=⟨_,b⟩
 rw [←b];refine oS a.l.length (fun j t H'=>t.g 2=.c (.ptr H.length 0 0)∧t.g 3=.c (.ptr (H.length+1) 0 0)∧H'=m) (by omega) rfl (by simp) ⟨by simp,by simp,rfl⟩ ?_ ?_ ?_
 ·rintro j t _ L q ⟨d,l,rfl⟩ g B;simp [g,d,x];exact B _ ⟨by simp [d],by simp [l],rfl⟩ (by simp [g]) (by simp)
 ·rintro j t _ q ⟨d,l,rfl⟩ g next
  have I:=fun H:aj=>bR (H:=H) (bK a.l) (dR q);have v:=AP a.l[j] (F _ (anc q));refine aG ?_;apply ai;simp [g,d,l,x,K,bF,q,I,v];exact aC (by simp) (aO (av (next _ _ ⟨by simp [d],by simp [l],rfl⟩ (by simp [g]))))
 ·rintro t _ ⟨d,l,rfl⟩ g;apply ai;simp;refine aB (E _ _ ?_);simp [u])
def A7(c:List Int):List FC:=c.map fun x=>.int .u8 x
def Bg(L:List (List Int)):List (List FC):=L.map A7
def jg(k:Nat)(c:List Int):Prop:=c.length=k∧∀ x ∈ c,0≤x∧x≤255
theorem A8{k:Nat}{L:List (List Int)}(h:∀ c ∈ L,jg k c):cq k (Bg L):=by
 intro r d;obtain⟨c,b,rfl⟩:=aqJ.1 d;simp [A7,(h c b).1]
@[simp] theorem aoO (L:List (List Int)):(Bg L).length=L.length:=by simp [Bg]
theorem aaL{L:List (List Int)}{j:Nat}(b:j<L.length):(Bg L)[j]?=aa (A7 L[j]):=by simp [Bg,b]
def iV:List Int→aA
 | [d,g,j,l,b,m,q,s]=>qJ (1+d % 7) (g % 3) (j % 3) (1+l % 12) (1+b % 6) (m % (1+b % 6)) (20*(q % 60)) (10+10*(s % 30))| _=>qJ 0 0 0 0 0 0 0 0
theorem Zo{c:List Int}(h:c.length=8):∃ b d g j l m q s,c=[b,d,g,j,l,m,q,s]:=by
 match c,h with
 | [b,d,g,j,l,m,q,s],_=>exact⟨_,_,_,_,_,_,_,_,rfl⟩
theorem vM{c:List Int}(h:jg 8 c):kQ (iV c)∧1≤(iV c).meet∧(iV c).meet≤7:=by
 obtain⟨b,j,l,m,q,s,d,u,rfl⟩:=Zo h.1;have g:=h.2 d (by simp);refine⟨⟨_,_,_,_,_,_,_,_,rfl,?_⟩,?_,?_⟩
 ·refine⟨by omega,by omega,by omega,by omega,by omega,by omega,by omega,by omega,by omega,by omega,?_,?_,⟨(d % 60).toNat,by omega,by omega⟩,by omega,by omega⟩
  ·exact Int.emod_nonneg _ (by omega)
  ·exact Int.emod_lt_of_pos _ (by omega)
 ·show 1≤1+b % 7;omega
 ·show 1+b % 7≤7;omega
theorem Zu{s:aA}(h:kQ s){m:Int}(h0:1≤m)(d:m≤22):kQ { s with meet:=m }:=by
 obtain⟨_,r,t,z,n,p,mi,le,rfl,b⟩:=h;exact⟨m,r,t,z,n,p,mi,le,rfl,⟨h0,d,b.r0,b.r1,b.t0,b.t1,b.z0,b.z1,b.n0,b.n1,b.p0,b.p1,b.i0,b.l0,b.l1⟩⟩
theorem zC{c:List Int}(h:jg 8 c):bh tab 37 [.a ((A7 c).map .f)]=Eq (.a ((iV c).row.map .f)):=by
 obtain⟨b,d,g,j,l,m,q,s,rfl⟩:=Zo h.1;exact aaz b d g j l m q s h.2
def kY(i:Int):List (List Int)→List aA
 | []=>[]| c::r=>{ iV c with meet:=20+i }::kY (i+1) r
theorem AZ(a:List Int):∀(l:List (List Int)) (i:Int),kY i (l++[a])=kY i l++[{ iV a with meet:=20+(i+l.length) }]
 | [],i=>by simp [kY]
 | c::r,i=>by
  have:=AZ a r (i+1);simp only [art,kY,this,aq7];rw [show i+1+(r.length:Int)=i+((r.length+1:Nat):Int) by omega]
theorem uu:∀(l:List (List Int)) (i:Int),(kY i l).length=l.length
 | [],_=>rfl| c::r,i=>by simp [kY,uu r]
theorem uz:∀ {l:List (List Int)} {i:Int} {s:aA},s ∈ kY i l→∃ c ∈ l,∃ k:Nat,k<l.length∧s = { iV c with meet:=20+(i+k) }
 | [],_,_,h=>by simp [kY]at h
 | c::r,i,s,h=>by
  rcases aqA.1 h with rfl | h
  ·exact⟨c,aqv,0,by simp,by simp⟩
  ·obtain⟨d,b,k,g,e⟩:=uz h;refine⟨d,aqt _ b,k+1,by simpa using g,?_⟩;rw [e,show i+1+(k:Int)=i+((k+1:Nat):Int) by omega]
theorem ur:∀(l:List (List Int)) (i:Int),jE (kY i l)
 | [],_=>List.Pairwise.nil
 | c::r,i=>by
  refine List.pairwise_cons.2 ⟨fun s b=>?_,ur r (i+1)⟩;obtain⟨d,-,k,-,rfl⟩:=uz b;simp only [dt,decide_eq_false_iff_not];omega
theorem AX(g0:Tg)(L:List (List Int))(Z:∀ c ∈ L,jg 8 c)(hl:L.length≤9223372036854775807):∃ g,bh tab 36 [.c (.f (sl g0 (Bg L)))]=Eq (.c (.f (sl g (aD (kY 0 (L.take 3)))))):=by
 obtain⟨r,⟨g,rfl⟩,hp⟩:∃ r,(∃ g,r=.c (.f (sl g (aD (kY 0 (L.take 3))))))∧bh tab 36 [.c (.f (sl g0 (Bg L)))] r:=by
  refine eI rfl rfl fun Q hQ=>?_;have q:∀ J:aj,bu J (.f (sl g0 (Bg L)))=aa L.length:=fun J=>by simp
  apply ai;simp;apply ai;simp;apply ak;apply ai;simp;obtain⟨n,hn⟩:=aK (min L.length 3);refine oS n (fun j t J=>t.g 0=.c (.f (sl g0 (Bg L)))∧∃ c,t.g 3=.c c∧LR J c 7 (aD (kY 0 (L.take j)))) (by omega) rfl (by simp) ⟨by simp,.f .au,by simp,by simpa [aD,kY]using LR.nil [] 7⟩ ?_ ?_ ?_
  ·rintro j t J K hj ⟨b,c,B,d⟩ l a;by_cases E:j<L.length
   ·simp [l,b,q,E];exact a _ ⟨by simp [b],c,by simp [B],d⟩ (by simp [l]) (by simp;omega)
   ·simp [l,b,q,E];exact a _ ⟨by simp [b],c,by simp [B],d⟩ (by simp [l]) (by simp;omega)
  ·rintro j t J hj ⟨b,c,B,d⟩ l next
   have z:j<L.length:=by omega
   have m:=fun H:aj=>bF (H:=H) (g:=g0) (rows:=Bg L) (sz:=8) (k:=.i64) (i:=(j:Int)) (by omega) (by simp;omega);have I:=fun H:aj=>bR (H:=H) (A8 Z) (aaL z);simp only [aqI]at m;have O:=zC (Z _ (anc z));have Y:L.take (j+1)=L.take j++[L[j]]:=by rw [aqW,By z];rfl
   have y:kY 0 (L.take (j+1))=kY 0 (L.take j)++[{ iV L[j]with meet:=20+j }]:=by
    rw [Y,AZ,aqP,show min j L.length=j by omega];simp
   generalize L[j]=cl at *;obtain⟨s,hs⟩:=aK (iV cl);rw [←hs]at O y;have X:s.row.length=7:=rfl;obtain⟨S,v⟩:=aK (J++[bo.box (s.row.map .f) 0]);have U:S[J.length]?=aa (.box (s.row.map .f) 0):=by rw [v];simp
   have E:=d.push [bo.box (s.row.map .f) 0];rw [←v]at E;refine aG ?_;apply ai;simp [b,l,m,I,O,X,-az];rw [←v];obtain⟨u,M⟩:=aK ({ s with meet:=20+(j:Int) }:aA);rw [←M]at y;obtain⟨A,x⟩:=aK (S.set J.length (.box (u.row.map .f) 0));have s1:cZ S (.ptr J.length 0 0) [.f (fi (20+(j:Int)))]=aa A:=by rw [x,M];simp [cZ,U,over,aA.row]
   have f:A[J.length]?=aa (.box (u.row.map .f) 0):=by rw [x];exact IN (an U)
   have l2:aU A (aa 7) (.c (.ptr J.length 0 0))=aa (.a (u.row.map .f)):=by simp [aU,aF,f,aT,aA.row]
   have h2:LR A c 7 (aD (kY 0 (L.take j))):=by rw [x];exact E.set (E.ny U) _
   apply ai;simp [l,aV (n:=20+(j:Int)),s1,-bf];have h3:=h2.push [bo.box (u.row.map .f) 0];have o:(A++[bo.box (u.row.map .f) 0])[A.length]?=aa (.box (u.row.map .f) 0):=by simp
   obtain⟨e,J3,p,w,e3,e4⟩:=h3.app (bt _) (by decide) (row:=u.row) rfl (bytes:=88) (by simp [bP,aD,uu];omega) o;have N:u.row.length=7:=rfl;refine al (.inl rfl) ?_;simp [B,l2,N,p,-az];refine av (next _ _ ⟨by simp [b],e,by simp,?_⟩ (by simp [l]));rw [y];simpa [aD]using w
  ·rintro t J ⟨b,c,B,d⟩ l;have W:L.take n=L.take 3:=by
    rw [hn];rcases Nat.le_total L.length 3 with h | h
    ·rw [Nat.min_eq_left h,aqS,ap1 h]
    ·rw [Nat.min_eq_right h]
   rw [W]at d;obtain⟨g,F⟩:=d.ex (bt _) 63;change ef deep J c=_ at F;apply ai;simp [B];refine aB (hQ _ _ _ ⟨g,rfl⟩ ?_);simp [F]
 exact⟨g,hp.eq⟩
structure iq where
 af:Int
 qu:Int
 lg:Tg
 L:List (List Int)
 og:Tg
 O:List (List Int)
def iq.row(p:iq):List FC:=[.int .u8 p.af,.int .u16 p.qu,sl p.lg (Bg p.L),sl p.og (Bg p.O)]
structure na(p:iq):Prop where
 a0:0≤p.af
 a1:p.af≤255
 q0:0≤p.qu
 q1:p.qu≤65535
 L:∀ c ∈ p.L,jg 8 c
 O:∀ c ∈ p.O,jg 11 c
 Ll:p.L.length≤9223372036854775807
 Ol:p.O.length≤9223372036854775807
def iq.l0(p:iq):List aA:=kY 0 (p.L.take 3)
theorem ZS(p:iq)(h:na p):∃ g,bh tab 14 [.a (p.row.map .f)]=Eq (.a [.f (gl (p.af % 40) (p.qu % 3000)),.f (sl g (aD p.l0))]):=by
 obtain⟨g,d⟩:=AX p.lg p.L h.L h.Ll;refine⟨g,bh.eq (bS rfl rfl fun Q j=>?_)⟩;have l:=Z6 p.af p.qu h.a0 h.a1 h.q0 h.q1;change _=Eq (V.c (.f (gl (p.af % 40) (p.qu % 3000))))at l;change _=Eq (V.c (.f (sl g (aD p.l0))))at d;obtain⟨u,m⟩:=aK (gl (p.af % 40) (p.qu % 3000));obtain⟨v,q⟩:=aK (sl g (aD p.l0));obtain⟨s,b⟩:=aK (sl p.lg (Bg p.L));rw [←m]at l j;rw [←q]at d j;rw [←b]at d;apply ai;simp [iq.row,←b];apply ai;simp [l,d];refine aB (j _ _ ?_);simp [iA,cC,bg]
theorem anr(p:iq)(h:na p):jE p.l0∧p.l0.length≤3∧∀ s ∈ p.l0,kQ s∧20≤s.meet:=by
 refine⟨ur _ _,by unfold iq.l0;rw [uu,aqP];omega,fun s g=>?_⟩;obtain⟨c,b,k,d,rfl⟩:=uz g;rw [aqP]at d;exact⟨Zu (vM (h.L c (List.mem_of_mem_take b))).1 (by omega) (by omega),by show 20≤20+(0+(k:Int));omega⟩
theorem aku{o:List Int}(h:jg 11 o):∃ k i t c,o=k::i::t::c∧jg 8 c∧(0≤k∧k≤255)∧(0≤i∧i≤255)∧(0≤t∧t≤255):=by
 match o,h with
 | [k,i,t,b,d,g,j,l,m,q,s],h=>exact⟨k,i,t,[b,d,g,j,l,m,q,s],rfl,⟨rfl,fun x u=>h.2 x (aqt _ (aqt _ (aqt _ u)))⟩,h.2 _ (by simp),h.2 _ (by simp),h.2 _ (by simp)⟩
def Y1(i t b:Int)(c:List Int):bz:=⟨1+i % 8,b+t % 50-2,1,iV c⟩
theorem Z3(k i t d:Int)(c:List Int)(v:jg 8 c)(hi:0≤i∧i≤255)(K:0≤t∧t≤255)(h0:0≤d)(L:d≤1000000) :
  bh tab 15 [.a ((A7 (k::i::t::c)).map .f),vi d]=Eq (.a ((Y1 i t d c).row.map .f)):=bh.eq (by
 refine bS rfl rfl fun Q u=>?_;have j:=zC v;obtain⟨y,z,A,B,E,F,H,I,g⟩:=Zo v.1;have J:=jb (k:=.u8) (b:=8) hi.1 (by decide);have l:=jb (k:=.u8) (b:=50) K.1 (by decide);have m:((A7 c).map C.f)=[.f (.int .u8 y),.f (.int .u8 z),.f (.int .u8 A),.f (.int .u8 B),.f (.int .u8 E),.f (.int .u8 F),.f (.int .u8 H),.f (.int .u8 I)]:=by rw [g];rfl
 obtain⟨s,q⟩:=aK (iV c);have x:Y1 i t d c=⟨1+i % 8,d+t % 50-2,1,s⟩:=by rw [q];rfl
 rw [x]at u;rw [←q,m]at j;clear q x;subst g;apply ai;simp [A7];apply ai;simp [J,l,j,aA.row,aR.row,aT,aV (n:=i % 8),aV (n:=1+i % 8),aV (n:=t % 50),aV (n:=d+t % 50),aV (n:=d+t % 50-2)];refine aB (u _ _ ?_);simp [iA,cC,bg,bz.row])
end Go.Proofs.YtnaofdffomdmhaaGreat
