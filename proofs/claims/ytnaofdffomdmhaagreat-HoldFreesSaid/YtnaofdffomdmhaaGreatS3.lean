/-
  ali the nb km and the mC answer, for all arguments of their kind, in the small machine: part 3.
-/
import Derived.Test.YtnaofdffomdmhaaGreatS2
import Derived.Test.YtnaofdffomdmhaaGreatK4
import Derived.Test.YtnaofdffomdmhaaGreatS1
import Derived.Test.YtnaofdffomdmhaaGreatK5
import Derived.KernelRfl
open Option renaming some → aa,none → ab
open Bool renaming true → ae,false → ag
open Go.IntKind renaming wrap → ah
open List renaming mem_cons_self → asn, mem_cons_of_mem → asm, mem_map → asH, mem_cons → asv, not_mem_nil → atc, take_add_one → asQ, getElem?_eq_getElem → By, drop_eq_getElem_cons → arM, map_cons → asq, getElem?_append_right → IS, getElem?_map → asU, map_nil → asA, mem_append → asw, getElem_mem → anc, length_append → api, length_map → asi, length_take → ast, length_drop → asr, take_length → asK, drop_length → atv, append_nil → as1, getElem?_set_self → IN, append_assoc → asT, filter_append → at9, take_of_length_le → arf, getElem?_set_ne → AI, getElem?_append_left → AT, length_set → ass, mem_singleton → asj, cons_append → ati, length_filter_le → atu, pairwise_iff_getElem → as0, drop_of_length_le → ato, length_cons → asX
open Nat renaming sub_self → at2, le_refl → aft, le_trans → asz, lt_or_ge → asS, lt_of_lt_of_le → asJ
open Option.some renaming inj → at8
open Int renaming toNat_natCast → asy
open Bool renaming not_eq_true' → as6, and_eq_true → If
open Prod.mk renaming inj → asF
set_option linter.unusedVariables false
set_option linter.constructorNameAsVariable false
set_option linter.unusedSimpArgs false
set_option linter.unusedSectionVars false
set_option linter.unnecessarySimpa false
set_option maxRecDepth 100000
namespace Go.Proofs.YtnaofdffomdmhaaGreat
open Go Km
theorem AX:∀ cs:List FC,(∀ c ∈ cs,∃ k m,c=FC.int k m)→jl (FC.beq 63) cs cs=ae
 | [],_=>rfl
 | c::cs,h=>by
  obtain⟨k,m,rfl⟩:=h c asn;simp only [jl,AX cs fun x b=>h x (asm _ b),Bool.and_true];simp [FC.beq]
theorem NW(g:Tg)(xs:List aM):(V.c (C.f (sl g (aH xs)))).beq (V.c (C.f (sl g (aH xs))))=ae:=by
 show FC.beq 64 (sl g (aH xs)) (sl g (aH xs))=ae;cases xs with
 | nil=>cases g<;>rfl
 | cons x xs=>
  have:sl g (aH (x::xs))=.fs (aH (x::xs)).flatten (aH (x::xs)).length:=by simp [sl,aH]
  rw [this];show((_ == _)&&jl (FC.beq 63) _ _)=ae;rw [AX]
  ·simp
  ·intro c b;obtain⟨r,d,b⟩:=List.mem_flatten.1 b;obtain⟨y,-,rfl⟩:=asH.1 d;simp only [aM.row,asv,atc,or_false]at b;rcases b with rfl | rfl | rfl<;>exact⟨_,_,rfl⟩
theorem aoD(k:IntKind)(n:Int):(V.c (C.f (.int k n))).beq (V.c (C.f (.int k n)))=ae:=by simp [V.beq,C.beq,FC.beq]
def jY(B:Int)(c:cN):cN:={ c with min:=c.min-B }
def DT(B A:Int)(x:aM):aM:=⟨x.day,x.fr-B,x.to+A⟩
theorem N1(g:Tg)(l:List cN)(m:l.length≤64):∃ f:aj→C × aj,∀ H,Ev tab (.fn 83) [.c (.f (sl g (aL l)))] H=E2 (.c (f H).1) (H++(f H).2)∧LR (H++(f H).2) (f H).1 2 (aL l)∧∀ i,bB (f H).1=aa i→H.length≤i:=by
 have h:∀ H:aj,∃ p:C × aj,Ev tab (.fn 83) [.c (.f (sl g (aL l)))] H=E2 (.c p.1) (H++p.2)∧LR (H++p.2) p.1 2 (aL l)∧∀ i,bB p.1=aa i→H.length≤i:=fun H=>by
  obtain⟨r,H',j,c,J,rfl,rfl,b,d⟩:=ub (g:=g) (H:=H) (rows:=aL l) akY (by decide) (cY l) (by simp [bY];omega);exact⟨(c,J),j.eq,b,d⟩
 exact⟨fun H=>Classical.choose (h H),fun H=>Classical.choose_spec (h H)⟩
theorem aab(g:Tg)(l:List aM)(m:l.length≤64):∃ f:aj→C × aj,∀ H,Ev tab (.fn 82) [.c (.f (sl g (aH l)))] H=E2 (.c (f H).1) (H++(f H).2)∧LR (H++(f H).2) (f H).1 3 (aH l)∧∀ i,bB (f H).1=aa i→H.length≤i:=by
 have h:∀ H:aj,∃ p:C × aj,Ev tab (.fn 82) [.c (.f (sl g (aH l)))] H=E2 (.c p.1) (H++p.2)∧LR (H++p.2) p.1 3 (aH l)∧∀ i,bB p.1=aa i→H.length≤i:=fun H=>by
  obtain⟨r,H',j,c,J,rfl,rfl,b,d⟩:=ub (g:=g) (H:=H) (rows:=aH l) ak0 (by decide) (bz l) (by simp [bY];omega);exact⟨(c,J),j.eq,b,d⟩
 exact⟨fun H=>Classical.choose (h H),fun H=>Classical.choose_spec (h H)⟩
theorem abO{b s:Type}(row:b→s)(f:b→b)(l:List b)(j:Nat)(d:j<l.length):((l.take j).map (row ∘ f)++(l.drop j).map row).set j (row (f l[j]))=(l.take (j+1)).map (row ∘ f)++(l.drop (j+1)).map row:=by
 have g:l.take (j+1)=l.take j++[l[j]]:=by rw [asQ,By d];rfl
 have m:l.drop j=l[j]::l.drop (j+1):=arM d;have q:((l.take j).map (row ∘ f)).length=j:=by simp;omega
 rw [g,m,List.map_append,asq,List.set_append_right _ _ (by omega),q,at2,List.set_cons_zero];simp
theorem aaA{b m:Type}(row:b→m)(f:b→b)(l:List b)(j:Nat)(d:j<l.length):((l.take j).map (row ∘ f)++(l.drop j).map row)[j]?=aa (row l[j]):=by
 have g:((l.take j).map (row ∘ f)).length=j:=by simp;omega
 rw [IS (by omega),g,at2,arM d];rfl
structure NM(s:aA):Prop where
 r0:0≤s.room
 r1:s.room≤2
 cn:s.st.cs.length≤1
 min:∀ c ∈ s.st.cs,0≤c.min∧c.min≤1180
 l0:1≤s.st.len
 l1:s.st.len≤300
 xs:s.st.xs=[]
def mv(af:Int)(s:aA)(b d:Tg):aT:=⟨b,s.st.cs.map (jY 0),s.st.len+0+af,d,[]⟩
theorem BG(af W:Int)(a0:0≤af)(a1:af≤39)(s:aA)(hs:NM s)(A:∀ E F,bh tab 53 [.a ((mv af s E F).row.map .f)]=Eq (vb ae)) :
  ∃ E F,bh tab 137 [.c (.f (gd af W)),.a (s.row.map .f)]=Eq (.t [.a ((mv af s E F).row.map .f),vb ae]):=by
 obtain⟨r,⟨E,F,rfl⟩,hp⟩:∃ r,(∃ E F,r=.t [.a ((mv af s E F).row.map .f),vb ae])∧bh tab 137 [.c (.f (gd af W)),.a (s.row.map .f)] r:=by
  refine fg rfl rfl fun Q hQ=>?_;obtain⟨f3,i4,i9,b_,j_,k_,U⟩:=hs;have j9:s.st.xs.length=0:=by rw [U];rfl
  have hr:=mE af W f3 i4;have f8:=fun H:aj=>bC (H:=H) (g:=.fs) (rows:=rows (cR af W)) (sz:=15) (k:=.i64) (i:=s.room) f3 (by simp [cR];omega);have b9:=fun H:aj=>cf (H:=H) (gn (cR af W)) (j:=s.room.toNat) (row:=(cz af W s.room).row) (by rw [rows,asU,hr];rfl);have Z:(cz af W s.room).jn=0:=by unfold cz;split<;>(try split)<;>rfl
  have Y:(cz af W s.room).oP=af:=by unfold cz;split<;>(try split)<;>rfl
  simp only [cF.row,asq,asA]at b9;obtain⟨fc,e_⟩:=N1 s.st.cg s.st.cs (by omega);obtain⟨fx,f7⟩:=aab s.st.xg s.st.xs (by rw [U];simp);have ec:=fun H=>(e_ H).1;have ex:=fun H=>(f7 H).1;generalize cz af W s.room=r at hr b9 Z Y;have i5:∀(t:T) (H:aj) (d m:C) (n:Nat),t.g 3=.c (.ptr 0 0 0)→t.g 4=.c (.ptr 1 0 0)→t.g 6=.c (.ptr 2 0 0)→t.g 7=.c (.ptr n 0 0)→2<n →
    H[1]?=aa (.box [.f .au,.f (fi 0),.f .au] 0)→H[2]?=aa (.box [.f (fi r.cap),.f (fi r.jn),.f (fi r.oP),.f r.o0,.f r.o1,.f r.o2,.f r.o3,.f r.o4,.f r.o5,.f r.o6,.f r.o7,.f r.o8,.f r.o9,.f (sl r.qg (gm r.q)),.f (sl r.pg (ints r.p))] 0) →
    H[n]?=aa (.box [d,.f (fi (s.st.len+r.jn+r.oP)),m] 0)→LR H d 2 (aL s.st.cs)→LR H m 3 (aH s.st.xs)→(∀ i,bB d=aa i→bB m≠aa i) →
    WP tab 137 ab [.code Ad] ⟨t,[],H⟩ Q:=by
   intro t H d m n g3 X g6 O hn k1 k2 M u v hD;apply ak;apply ai;have L:=u.len;rw [wG]at L;simp [O,M,L];refine bW s.st.cs.length (fun j t H=>t.g 3=.c (.ptr 0 0 0)∧t.g 4=.c (.ptr 1 0 0)∧t.g 6=.c (.ptr 2 0 0)∧t.g 7=.c (.ptr n 0 0)∧H[1]?=aa (.box [.f .au,.f (fi 0),.f .au] 0)∧H[2]?=aa (.box [.f (fi r.cap),.f (fi r.jn),.f (fi r.oP),.f r.o0,.f r.o1,.f r.o2,.f r.o3,.f r.o4,.f r.o5,.f r.o6,.f r.o7,.f r.o8,.f r.o9,.f (sl r.qg (gm r.q)),.f (sl r.pg (ints r.p))] 0) ∧
     H[n]?=aa (.box [d,.f (fi (s.st.len+r.jn+r.oP)),m] 0)∧LR H d 2 ((s.st.cs.take j).map (cN.row ∘ jY r.jn)++(s.st.cs.drop j).map cN.row)∧LR H m 3 (aH s.st.xs)) (by omega) (by decide) (by decide) (by simp) (by simp)
    ⟨by simp [g3],by simp [X],by simp [g6],by simp [O],k1,k2,M,by simpa [aL]using u,v⟩ ?_ ?_
   ·rintro j t H hj ⟨g3,X,g6,O,k1,k2,M,u,v⟩ ha hb nx;have a_:cC 2 ((s.st.cs.take j).map (cN.row ∘ jY r.jn)++(s.st.cs.drop j).map cN.row):=by
     intro x hx;rcases asw.1 hx with hx | hx<;>obtain⟨y,-,rfl⟩:=asH.1 hx<;>rfl
    have z:((s.st.cs.take j).map (cN.row ∘ jY r.jn)++(s.st.cs.drop j).map cN.row).length=s.st.cs.length:=by simp;omega
    have a8:=aaA cN.row (jY r.jn) s.st.cs j hj;have f_:=abO cN.row (jY r.jn) s.st.cs j hj;have j8:=b_ _ (anc hj);rcases u with⟨e,_⟩ | ⟨m4,b,ep,I,l⟩
    ·have:=congrArg List.length e;rw [z,List.length_nil]at this;omega
    rw [z]at I;have hi:=l.at (i:=j) (by rw [z];exact hj);rw [z,←I]at hi;have hl:=l.ldc a_ a8 (k:=1) (x:=fi s.st.cs[j].min) rfl;obtain⟨H',e',d_,S,-⟩:=l.stp a_ a8 (k:=1) (xs:=[fi (s.st.cs[j].min-r.jn)]) (by simp);have j5:over s.st.cs[j].row 1 [fi (s.st.cs[j].min-r.jn)]=(jY r.jn s.st.cs[j]).row:=rfl;rw [j5,f_]at d_;have b1:(1:Nat)≠b:=by rintro rfl;unfold RB at l;rw [k1]at l;cases l
    have b2:(2:Nat)≠b:=by rintro rfl;unfold RB at l;rw [k2]at l;cases l
    have bn:n≠b:=by rintro rfl;unfold RB at l;rw [M]at l;cases l
    refine aG ?_;apply ai;simp [ha];refine al (.inl rfl) ?_;simp only [asq,asA]at e';have ln:aS H ab (.c (.ptr n 0 0))=aa (.c d):=by simp [M]
    have l2:aS H ab (.c (.ptr 2 1 0))=aa (vi r.jn):=by simp [k2]
    simp [g6,O,ln,l2,hi,hl,-av,-bf,aU (n:=s.st.cs[j].min-r.jn),e'];refine aw (nx _ _ ⟨by simp [g3],by simp [X],by simp [g6],by simp [O],?_,?_,?_,.inr ⟨?_,b,ep,?_,d_⟩,?_⟩ (by simp [ha]) (by simp [hb]))
    ·exact S.get k1 b1
    ·exact S.get k2 b2
    ·exact S.get M bn
    ·intro e;have q:=congrArg List.length e;rw [api,asi,asi,ast,asr,List.length_nil]at q;omega
    ·rw [I]
     congr 1
     simp;omega
    ·exact v.cO fun i y hy hi=>S.get hy (fun e=>hD b (by rw [I];rfl) (by rw [←e];exact hi))
   ·rintro t H ⟨g3,X,g6,O,k1,k2,M,u,v⟩ ha hb;rw [asK,atv,asA,as1]at u;apply ak;apply ai;have L:=v.len;rw [iZ]at L;simp [O,M,L];refine bW s.st.xs.length (fun j t H=>t.g 3=.c (.ptr 0 0 0)∧t.g 4=.c (.ptr 1 0 0)∧t.g 6=.c (.ptr 2 0 0)∧t.g 7=.c (.ptr n 0 0)∧H[1]?=aa (.box [.f .au,.f (fi 0),.f .au] 0)∧H[2]?=aa (.box [.f (fi r.cap),.f (fi r.jn),.f (fi r.oP),.f r.o0,.f r.o1,.f r.o2,.f r.o3,.f r.o4,.f r.o5,.f r.o6,.f r.o7,.f r.o8,.f r.o9,.f (sl r.qg (gm r.q)),.f (sl r.pg (ints r.p))] 0) ∧
      H[n]?=aa (.box [d,.f (fi (s.st.len+r.jn+r.oP)),m] 0)∧LR H d 2 (s.st.cs.map (cN.row ∘ jY r.jn))∧LR H m 3 ((s.st.xs.take j).map (aM.row ∘ DT r.jn r.oP)++(s.st.xs.drop j).map aM.row)) (by omega) (by decide) (by decide) (by simp) (by simp)
     ⟨by simp [g3],by simp [X],by simp [g6],by simp [O],k1,k2,M,u,by simpa [aH]using v⟩ ?_ ?_
    ·intro j t H hj;rw [U]at hj;simp at hj
    ·rintro t H ⟨g3,X,g6,O,k1,k2,M,u,v⟩ ha hb;rw [asK,atv,asA,as1]at v;have r1:s.st.cs.map (cN.row ∘ jY r.jn)=aL (s.st.cs.map (jY r.jn)):=by simp [aL]
     have r2:s.st.xs.map (aM.row ∘ DT r.jn r.oP)=aH (s.st.xs.map (DT r.jn r.oP)):=by simp [aH]
     rw [r1]at u;rw [r2]at v;have x1:=u.x;have x2:=v.x;obtain⟨E,c_⟩:=x1.ex (cY _);obtain⟨F,d9⟩:=x2.ex (bz _);have y1:LX (gu deep d H) d 2 (aL (s.st.cs.map (jY r.jn))):=x1.mk x1 63;have y2:LX (gu deep d H) m 3 (aH (s.st.xs.map (DT r.jn r.oP))):=x2.mk x1 63;have z1:LX (gu deep m (gu deep d H)) d 2 (aL (s.st.cs.map (jY r.jn))):=y1.mk y2 63;have z2:LX (gu deep m (gu deep d H)) m 3 (aH (s.st.xs.map (DT r.jn r.oP))):=y2.mk y2 63;have j7:(gu deep d H)[1]?=aa (.box [.f .au,.f (fi 0),.f .au] 0):=x1.aju 63 k1;have N:(gu deep m (gu deep d H))[1]?=aa (.box [.f .au,.f (fi 0),.f .au] 0):=y2.aju 63 j7;have h1:eG deep H d=aa (sl E (aL (s.st.cs.map (jY r.jn)))):=c_ H 63 x1;have h2:eG deep H m=aa (sl F (aH (s.st.xs.map (DT r.jn r.oP)))):=d9 H 63 x2;have ho:mv af s E F=⟨E,s.st.cs.map (jY r.jn),s.st.len+r.jn+r.oP,F,s.st.xs.map (DT r.jn r.oP)⟩:=by rw [Z,Y,U];rfl
     have A:=A E F;rw [ho]at A;simp only [aT.row,asq,asA]at A;apply ai;simp [X,O,M,h1,h2,A,N];generalize gu deep m (gu deep d H)=HM at z1 z2 N ⊢;have g_:=c_ (HM.set 1 (.box [d,.f (fi (s.st.len+r.jn+r.oP)),m] 0)) 63 (z1.set (z1.ot N) _);have h_:=d9 (HM.set 1 (.box [d,.f (fi (s.st.len+r.jn+r.oP)),m] 0)) 63 (z2.set (z2.ot N) _);have j6:(HM.set 1 (.box [d,.f (fi (s.st.len+r.jn+r.oP)),m] 0))[1]?=aa (.box [d,.f (fi (s.st.len+r.jn+r.oP)),m] 0):=IN (an N);refine aB (hQ _ _ _ ⟨E,F,rfl⟩ ?_);have hd:deep=63+1:=rfl;rw [ho];simp [X,j6,aT.row,iV,cK,bg,hd,g_,h_]
  apply ai;simp [aA.row];apply ai;simp [gd,f8,b9];have w1:=aU (n:=s.st.len+r.jn);have w2:=aU (n:=s.st.len+r.jn+r.oP);obtain⟨B,K⟩:=aI ([bq.box [.f (fi s.meet),.f (fi s.room),.f (fi s.eH),.f (fi s.size),.f (sl s.st.cg (aL s.st.cs)),.f (fi s.st.len),.f (sl s.st.xg (aH s.st.xs))] 0,bq.box [.f .au,.f (fi 0),.f .au] 0,bq.box [.f (fi r.cap),.f (fi r.jn),.f (fi r.oP),.f r.o0,.f r.o1,.f r.o2,.f r.o3,.f r.o4,.f r.o5,.f r.o6,.f r.o7,.f r.o8,.f r.o9,.f (sl r.qg (gm r.q)),.f (sl r.pg (ints r.p))] 0]);rw [←K];have l_:B.length=3:=by rw [K];rfl
  have q0:∀ J,(B++J)[0]?=aa (bq.box [.f (fi s.meet),.f (fi s.room),.f (fi s.eH),.f (fi s.size),.f (sl s.st.cg (aL s.st.cs)),.f (fi s.st.len),.f (sl s.st.xg (aH s.st.xs))] 0):=fun J=>by rw [K];rfl
  have q1:∀ J,(B++J)[1]?=aa (bq.box [.f .au,.f (fi 0),.f .au] 0):=fun J=>by rw [K];rfl
  have q2:∀ J,(B++J)[2]?=aa (bq.box [.f (fi r.cap),.f (fi r.jn),.f (fi r.oP),.f r.o0,.f r.o1,.f r.o2,.f r.o3,.f r.o4,.f r.o5,.f r.o6,.f r.o7,.f r.o8,.f r.o9,.f (sl r.qg (gm r.q)),.f (sl r.pg (ints r.p))] 0):=fun J=>by rw [K];rfl
  have p0:=q0 [];have p2:=q2 [];rw [as1]at p0 p2;obtain⟨d,I⟩:=aI ((fc B).1);obtain⟨J1,i6⟩:=aI ((fc B).2);have e1:=ec B;have m1:=(e_ B).2;rw [←I,←i6]at e1 m1;obtain⟨m,i8⟩:=aI ((fx (B++J1)).1);obtain⟨J2,i7⟩:=aI ((fx (B++J1)).2);have e2:=ex (B++J1);have m2:=(f7 (B++J1)).2;rw [←i8,←i7,asT]at e2 m2;refine ak (gb (.inl rfl) ?_ ?_)
  case _=>
   simp [p0,p2,q0,q2,e1,e2,w1,w2];refine i5 _ _ d m _ (by simp) (by simp) (by simp) (by simp;rfl) (by omega) ?_ ?_ ?_ ?_ ?_ ?_
   ·exact q1 _
   ·exact q2 _
   ·rw [←asT,←asT,IS (by simp)];have:B.length+(J1.length+J2.length)-(B++J1++J2).length=0:=by simp
    rw [this];rfl
   ·have:=(m1.1.push J2).push [bq.box [d,C.f (FC.int IntKind.i64 (s.st.len+r.jn+r.oP)),m] 0];simpa [asT]using this
   ·have:=m2.1.push [bq.box [d,C.f (FC.int IntKind.i64 (s.st.len+r.jn+r.oP)),m] 0];simpa [asT]using this
   ·intro i i_ j4;have a1:=m1.1.lt i_;have a2:=m2.2 i j4;omega
  ·intro c hc;simp only [asv,atc,or_false]at hc;rcases hc with rfl | rfl | rfl | rfl | rfl | rfl | rfl
   iterate 6
    ·refine⟨by decide,_,rfl,.inl ⟨by decide,?_⟩⟩;simp [p0,p2,q0,q2,e1,e2,gQ,aoD]
   ·refine⟨by decide,_,rfl,.inr ⟨by decide,?_⟩⟩;simp [p0,p2,q0,q2,e1,e2,gQ,NW]
 exact⟨E,F,bh.eq hp⟩
def shB(af b:Int)(i k:Int):Bool:=lz i.toNat k.toNat (cz af b i) (cz af b k)
theorem abQ(af b i:Int):shB af b i i=ae:=by simp [shB,lz]
theorem B9(af b i:Int):(cz af b i).p.length≤64:=by unfold cz pP;split<;>(try split)<;>simp
theorem ah9(af b i k:Int)(h0:0≤i)(m:i≤2)(j:0≤k)(q:k≤2):bh tab 200 [.c (.f (gd af b)),vi i,vi k]=Eq (vb (shB af b i k)):=by
 have s:(cR af b).length=3:=rfl;have hi:i.toNat<(cR af b).length:=by omega
 have l:k.toNat<(cR af b).length:=by omega
 have d:(cR af b)[i.toNat]=cz af b i:=at8 ((By hi).symm.trans (mE af b h0 m));have g:(cR af b)[k.toNat]=cz af b k:=at8 ((By l).symm.trans (mE af b j q));have:=(Pq .fs (cR af b) i.toNat k.toNat hi l (by rw [d];exact B9 ..) (by rw [g];exact B9 ..)).eq;rw [d,g,Int.toNat_of_nonneg h0,Int.toNat_of_nonneg j]at this;exact this
theorem D9(a b:FC)(r:Int):bh tab 122 [.c (.f a),.c (.f b),vi r]=Eq (.c (.f (.fn 199 [.fp [b] 0,.fp [a] 0,.fp [fi r] 0]))):=by
 refine bh.eq (bV rfl rfl fun Q d=>?_);apply ai;simp;apply ai;simp;refine aB (d _ _ ?_);simp [deep]
theorem Ox{b:Type}{l:List b}{j:Nat}(d:j<l.length)(p:b→Bool):(l.take (j+1)).filter p=(l.take j).filter p++(if p l[j]then [l[j]]else []):=by
 rw [asQ,By d,at9];simp [List.filter_cons]
theorem Cc{b:Nat}{H:aj}{PP:List aA→aj→Prop}{RR:List aA→aA→aj→Prop}(Z:FC)(g':Tg)(ss:List aA)(hl:ss.length≤1000)(k:Int)(l:aA→Bool)
  (a_:∀ s ∈ ss,bh tab 200 [.c (.f Z),vi s.room,vi k]=Eq (vb (l s)))
  (h0:PP [] H) (hp:∀ d H J,PP d H→PP d (H++J))
  (hy:∀(d:List aA) (s:aA) (H:aj),PP d H→s ∈ ss→∃(r:Bool) (H':aj),Ev tab (.yield b) [.a (s.row.map .f)] H (vb r) H'∧(if r then PP (d++[s]) H' else RR d s H')) :
  ∃ H',Ev tab (.fn 199) [.c (.yl b),.c (.f (.fp [sl g' (aC ss)] 0)),.c (.f (.fp [Z] 0)),.c (.f (.fp [fi k] 0))] H (.t []) H'∧(PP (ss.filter l) H'∨∃ d s rest,ss.filter l=d++s::rest∧RR d s H'):=by
 obtain⟨r,H',K,rfl,h⟩:∃ r H',Ev tab (.fn 199) [.c (.yl b),.c (.f (.fp [sl g' (aC ss)] 0)),.c (.f (.fp [Z] 0)),.c (.f (.fp [fi k] 0))] H r H'∧(r=.t []∧(PP (ss.filter l) H'∨∃ d s rest,ss.filter l=d++s::rest∧RR d s H')):=by
  refine cJ rfl rfl fun Q hQ=>?_;apply ai;simp [nQ];refine bW ss.length (fun j t H'=>t.g 0=.c (.yl b)∧t.g 1=.c (.f (.fp [sl g' (aC ss)] 0))∧t.g 2=.c (.f (.fp [Z] 0))∧t.g 3=.c (.f (.fp [fi k] 0))∧t.g 7=.c (.f (sl g' (aC ss)))∧PP ((ss.take j).filter l) H') (by omega) (by decide) (by decide) (by simp) (by simp)
   ⟨by simp,by simp,by simp,by simp,by simp,by simpa using h0⟩ ?_ ?_
  ·rintro j t H' S ⟨g0,g1,L,M,X,y⟩ Y hb next
   have q:=fun H:aj=>cf (H:=H) (bw ss) (eR S);have z:=fun H:aj=>bC (H:=H) (g:=g') (rows:=aC ss) (sz:=7) (k:=.i64) (i:=(j:Int)) (by omega) (by simp;omega);simp only [asy]at z;have v:=a_ ss[j] (anc S);have I:=Ox S l;have A:=anc S;have m:ss.filter l=(ss.take j).filter l++((ss[j]::ss.drop (j+1)).filter l):=by
    rw [←at9,←arM S,List.take_append_drop]
   obtain⟨s,b9⟩:=aI (ss[j]);rw [←b9]at q v I A m;obtain⟨row,u⟩:=aI (s.row.map C.f);have F:row.length=7:=by rw [u];rfl
   have a8:∃ x,row[1]?=aa x∧x=.f (fi s.room):=⟨_,by rw [u];rfl,rfl⟩
   rw [←u]at q;obtain⟨b6,O⟩:=aI (H'.length);obtain⟨W,B⟩:=aI (H'++[bq.box row 0]);have E:=hp _ _ [bq.box row 0] y;rw [←B]at E;have k1:W[b6]?=aa (.box row 0):=by rw [B,O];simp
   have l7:aS W (aa 7) (.c (.ptr b6 0 0))=aa (.a row):=by simp [aS,aE,k1,aQ,F,arf (Nat.le_of_eq F)]
   have l1:aS W ab (.c (.ptr b6 1 0))=aa (vi s.room):=by
    obtain⟨x,hx,rfl⟩:=a8;rw [u]at k1;simp [aS,aE,k1,aA.row,aQ]
   refine aG ?_;apply ai;simp [X,Y,z,q,F,-av];rw [←B,←O];apply ak;cases U:l s
   ·rw [U]at v;refine al (.inl rfl) ?_;simp [L,M,nQ,l1,v,-av];refine aD (by simp) (aO (aw (next _ _ ⟨by simp [g0],by simp [g1],by simp [L],by simp [M],by simp [X],?_⟩ (by simp [Y]) (by simp [hb]))));rw [I];simpa [U]using E
   ·rw [U]at v;obtain⟨r,H2,K,N⟩:=hy _ s W E A;have K:=K.eq;rw [←u]at K;refine al (.inl rfl) ?_;simp [g0,L,M,nQ,l1,l7,v,K,-av];cases r with
    | true=>
     refine aD (by simp) (aO (aw (next _ _ ⟨by simp [g0],by simp [g1],by simp [L],by simp [M],by simp [X],?_⟩ (by simp [Y]) (by simp [hb]))));rw [I];simpa [U]using N
    | false=>
     refine aq (by simp) (aB (hQ _ _ (.t []) rfl rfl ⟨rfl,.inr ⟨_,s,(ss.drop (j+1)).filter l,?_,by simpa using N⟩⟩));rw [m,List.filter_cons,U];rfl
  ·rintro t H' ⟨g0,g1,L,M,X,y⟩ Y hb;rw [asK]at y;exact cL (hQ _ _ (.t []) rfl rfl ⟨rfl,.inl y⟩)
 exact⟨H',K,h⟩
theorem yx(af g i:Int)(x:aM):bh tab 139 [.a ((cz af g i).row.map .f),.a (x.row.map .f)]=Eq (.a [.f (fi x.day),.f (fi (ah .i64 x.fr)),.f (fi (ah .i64 (x.to-af)))]):=by
 have d:(cz af g i).jn=0:=by unfold cz;split<;>(try split)<;>rfl
 have b:(cz af g i).oP=af:=by unfold cz;split<;>(try split)<;>rfl
 refine bh.eq (bV rfl rfl fun Q j=>?_);generalize cz af g i=r at *;apply ai;simp [cF.row,aM.row];apply ai;simp [d,b];refine aB (j _ _ ?_);simp [iV,cK,bg]
def mI(s:aT):List C:=[.f (sl s.cg (aL s.cs)),.f (fi s.len),.f (sl s.xg (aH s.xs))]
def Com(c d:cN)(k:Int):Prop:=∃ x,0≤x∧gU c.ts (x+max 0 (-k))∧gU d.ts (x+max 0 k)
theorem EX{a b:aT}{p:Pr}(d:qo a b p):(∃ x,0≤x∧gU p.xs x∧gU p.ys x)↔Com p.c p.d p.k:=by
 constructor
 ·rintro⟨x,h0,g,j⟩;exact⟨x,h0,(d.xm x h0).1 g,(d.ym x h0).1 j⟩
 ·rintro⟨x,h0,g,j⟩;exact⟨x,h0,(d.xm x h0).2 g,(d.ym x h0).2 j⟩
def oL(a b:aT):Prop:=∃ c ∈ a.cs,∃ d ∈ b.cs,∃ k,Bw a.len b.len c d≤k∧k≤Bj a.len b.len c d∧Com c d k
structure Cz(a b:aT)(bs:List Nat)(J:aj):Prop where
 h0:J[0]?=aa (.box (mI a) 0)
 h1:J[1]?=aa (.box (mI b) 0)
 h2:∃ v:Bool,J[2]?=aa (.box [.f (.bool v)] 0)
 h3:∃ n:Int,J[3]?=aa (.box [.f (fi n)] 0)
 cl:fH bs J
theorem Cz.cO{a b:aT}{g:List Nat}{J J':aj}(h:Cz a b g J)(d:∀ i:Nat,i<J.length→J'[i]?=J[i]?):Cz a b g J':=by
 obtain⟨v,h2⟩:=h.h2;obtain⟨n,h3⟩:=h.h3;exact⟨by rw [d 0 (an h.h0)];exact h.h0,by rw [d 1 (an h.h1)];exact h.h1,⟨v,by rw [d 2 (an h2)];exact h2⟩,⟨n,by rw [d 3 (an h3)];exact h3⟩,⟨h.cl.nd,fun i hi=>by rw [d i (an (h.cl.on i hi))];exact h.cl.on i hi⟩⟩
theorem Cz.set{a b:aT}{d:List Nat}{J:aj}(h:Cz a b d J){i:Nat}{y:bq}(hi:J[i]?=aa y)(h3:4≤i)(hy:y≠.fj ae)(z:bq):Cz a b d (J.set i z):=by
 obtain⟨v,g⟩:=h.h2;obtain⟨n,j⟩:=h.h3;exact⟨by rw [AI (by omega)];exact h.h0,by rw [AI (by omega)];exact h.h1,⟨v,by rw [AI (by omega)];exact g⟩,⟨n,by rw [AI (by omega)];exact j⟩,h.cl.set hi hy⟩
theorem Cz.tell{a b:aT}{j:List Nat}{J:aj}(h:Cz a b j J)(v:Bool)(n:Int) :
  de J (.ptr 2 0 0) [.f (.bool v)]=aa (J.set 2 (.box [.f (.bool v)] 0))∧de (J.set 2 (.box [.f (.bool v)] 0)) (.ptr 3 0 0) [.f (fi n)]=aa ((J.set 2 (.box [.f (.bool v)] 0)).set 3 (.box [.f (fi n)] 0)) ∧
   fH j ((J.set 2 (.box [.f (.bool v)] 0)).set 3 (.box [.f (fi n)] 0))∧((J.set 2 (.box [.f (.bool v)] 0)).set 3 (.box [.f (fi n)] 0))[2]?=aa (.box [.f (.bool v)] 0)∧((J.set 2 (.box [.f (.bool v)] 0)).set 3 (.box [.f (fi n)] 0))[3]?=aa (.box [.f (fi n)] 0):=by
 obtain⟨w,g⟩:=h.h2;obtain⟨m,l⟩:=h.h3;have d:(J.set 2 (.box [.f (.bool v)] 0))[3]?=aa (.box [.f (fi m)] 0):=by rw [AI (by omega)];exact l
 refine⟨by simp [de,g,over],by simp [de,d,over],(h.cl.set g (by simp)).set d (by simp),?_,IN (an d)⟩;rw [AI (by omega)];exact IN (an g)
theorem aao(a b:aT)(ha:rK a)(hb:rK b):∃ r:Bool,(r=ae↔oL a b)∧bh tab 25 [.a (a.row.map .f),.a (b.row.map .f)]=Eq (.t [vb r,vi 0]):=by
 have key:∃ v,(∃ r:Bool,(r=ae↔oL a b)∧v=.t [vb r,vi 0])∧bh tab 25 [.a (a.row.map .f),.a (b.row.map .f)] v:=by
  refine yu aqH rfl fun Q hQ=>?_;have i7:=(jk a ha.sm).eq;rw [ha.v]at i7;simp [aT.row]at i7;have i8:=(jk b hb.sm).eq;rw [hb.v]at i8;simp [aT.row]at i8;obtain⟨o_,rfl,i9⟩:=AQ a b ha.xs;obtain⟨p_,rfl,i_⟩:=AQ b a hb.xs;simp only [aT.row,asq,asA]at i9 i_;have i6:=xE a b;simp only [aT.row,asq,asA]at i6;have la:∀(N:List Nat) (J:aj),Cz a b N J→aS J (aa 3) (.c (.ptr 0 0 0))=aa (.a [.f (sl a.cg (aL a.cs)),.f (fi a.len),.f (sl a.xg (aH a.xs))])∧aS J (aa 3) (.c (.ptr 1 0 0))=aa (.a [.f (sl b.cg (aL b.cs)),.f (fi b.len),.f (sl b.xg (aH b.xs))]):=fun N J h=>by refine⟨?_,?_⟩<;>simp [aS,aE,h.h0,h.h1,mI,aQ]
  have j4:∀(t:T) (J:aj) (N:List Nat) (v:Bool),t.g 4=.c (.ptr 2 0 0)→t.g 5=.c (.ptr 3 0 0)→(v=ae↔oL a b)→fH N J→J[2]?=aa (.box [.f (.bool v)] 0)→J[3]?=aa (.box [.f (fi 0)] 0)→∀ j,Q j ⟨t,N.map .gM,J⟩:=by
   intro t J N v Z g5 hv f_ F h3 j;refine hQ _ _ _ ⟨v,hv,rfl⟩ ⟨N,rfl,f_,.t [vb v,vi 0],?_,by simp [iV,cK,bg]⟩;have d2:=(iC (f_.not F (by simp))).trans F;have d3:=(iC (f_.not h3 (by simp))).trans h3;simp [Km.results,cQ,bg,Z,g5,d2,d3]
  apply ai;simp [aT.row];obtain⟨J0,b_⟩:=aI ([.box (mI a) 0,.box (mI b) 0,.box [.f (.bool ag)] 0,.box [.f (fi 0)] 0]:aj);have X:Cz a b [] J0:=by rw [b_];exact⟨rfl,rfl,⟨_,rfl⟩,⟨_,rfl⟩,⟨by simp,by simp⟩⟩
  have l0:J0.length=4:=by rw [b_];rfl
  unfold mI at b_;rw [←b_];apply ak;apply ai;simp [(la _ _ X).1,(la _ _ X).2,-av,i7,i8];refine bp (by simp) ?_;apply ak;apply ai;have l_:∀(t:T) (J:aj) (N:List Nat),t.g 2=.c (.ptr 0 0 0)→t.g 3=.c (.ptr 1 0 0)→t.g 4=.c (.ptr 2 0 0)→t.g 5=.c (.ptr 3 0 0)→Cz a b N J→(∀ c ∈ a.cs,∀ d ∈ b.cs,∀ k,Bw a.len b.len c d≤k→k≤Bj a.len b.len c d→¬ Com c d k) →
    WP tab 25 ab [.code yK] ⟨t,N.map .gM,J⟩ Q:=by
   intro t J N g2 g3 Z g5 hq i4;obtain⟨n3,k3⟩:=hq.h3;have n_:4≤J.length:=by have:=an k3;omega
   obtain⟨l,f8⟩:=aI (J.length);apply ai;simp;rw [←f8];obtain⟨HA,b9⟩:=aI (J++[bq.box [.f (.bool ag)] 0]);rw [←b9];have kq:Cz a b N HA:=hq.cO fun i hi=>by rw [b9,AT hi]
   have kl:HA[l]?=aa (.box [.f (.bool ag)] 0):=by rw [b9,f8];simp
   have kn:HA.length=l+1:=by rw [b9,f8];simp
   apply ak;apply ai;simp [g2,g3,(la _ _ kq).1,(la _ _ kq).2,-av,i6];refine aG ?_
   suffices go:∀ u:T,u.g 4=.c (.ptr 2 0 0)→u.g 5=.c (.ptr 3 0 0)→u.g 9=.c (.ptr l 0 0)→u.g 44=.c (.f (.fn 104 [.fp a.row 0,.fp b.row 0])) →
     WP tab 25 ab [.code EF,.inBlock 2,.code EG] ⟨u,N.map .gM,HA⟩ Q by exact go _ (by simp [Z]) (by simp [g5]) (by simp) (by simp [aT.row])
   clear g2 g3 Z g5 t;intro u Z g5 g9 m9;obtain⟨S,B⟩:∃ S:eL→Option aF→bq,S=fun st pd=>.lp 25 u [P.nat 45] fT fU st pd (l+1):=⟨_,rfl⟩
   obtain⟨m,y⟩:=aI (HA++[.fj ae,S .ready ab]);have q4:m[l+1]?=aa (.fj ae):=by rw [y,IS (by omega),kn];simp
   have q5:m[l+1+1]?=aa (S .ready ab):=by rw [y,IS (by omega),kn];simp
   have qk:∀ i:Nat,i<HA.length→m[i]?=HA[i]?:=fun i hi=>by rw [y,AT hi]
   have j9:l+1 ∉ N:=fun hb=>by have:=an (kq.cl.on _ hb);omega
   have qq:=kq.cO qk;have z:Cz a b ((l+1)::N) m:=⟨qq.h0,qq.h1,qq.h2,qq.h3,⟨List.nodup_cons.2 ⟨j9,qq.cl.nd⟩,fun b hb=>by
    rcases asv.1 hb with rfl | hb
    ·exact q4
    ·exact qq.cl.on b hb⟩⟩
   have ql:m[l]?=aa (.box [.f (.bool ag)] 0):=by rw [qk l (by omega)];exact kl
   have n8:m.length=l+3:=by rw [y,api,kn];rfl
   obtain⟨H2,he,W⟩:=oh (bb:=l+1+1) (H:=m) a b ha hb (fun ps J=>m.length≤J.length∧(∀ i:Nat,i<m.length→i≠l→J[i]?=m[i]?)∧∃ v:Bool,J[l]?=aa (.box [.f (.bool v)] 0)∧(v=ae↔∃ p ∈ ps,Com p.c p.d p.k))
    (fun _ _=>False) ⟨aft _,fun _ _ _=>rfl,ag,ql,by simp⟩
    (fun ps J J' ⟨h1,F,v,h3,h4⟩ hk hl=>⟨by omega,fun i hi O=>by rw [hk i hi];exact F i hi O,v,by rw [hk l (by omega)];exact h3,h4⟩)
    (fun ps p J ⟨h1,F,v,h3,h4⟩ hl A=>by
     have K:J[l+1+1]?=aa (S .ready ab):=by rw [F _ (an q5) (by omega)];exact q5
     rw [B]at K;have j_:=i4 p.c A.ca p.d A.db p.k A.lo A.hi;have j5:=ahS p.gx p.gy p.xs p.ys A.xo A.yo fun x h0 hx=>j_ ((EX A).1 ⟨x,h0,hx⟩);have a_:=xD;change bh tab 58 [.a [.f .au]]=Eq (vb ae)at a_;obtain⟨em,f7⟩:=aI (ae:Bool);rw [←f7]at a_;have I:em=ag↔Com p.c p.d p.k:=by rw [f7];exact⟨fun h=>(by cases h),fun h=>absurd h j_⟩
     refine⟨ae,?_⟩;obtain⟨r,J',h_,rfl,hr⟩:∃ r J',Ev tab (.yield (l+1+1)) [.a p.row] J r J'∧(r=vb ae∧(m.length≤J'.length∧(∀ i:Nat,i<m.length→i≠l→J'[i]?=m[i]?)∧J'[l]?=aa (.box [.f (.bool (v||!em))] 0))∧J.length≤J'.length∧∀ i:Nat,m.length≤i→i<J.length→J'[i]?=J[i]?):=by
      refine gj (tab:=tab) (b:=l+1+1) (args:=[.a p.row]) (H:=J) K rfl fun Q' d9=>?_;obtain⟨Y,U⟩:=aI (J.length);have i5:p.row.length=8:=rfl;refine al (.inr rfl) ?_;simp [i5];rw [←U];obtain⟨J1,L⟩:=aI (J++[bq.box p.row 0]);rw [←L];have k1:∀ i:Nat,i<J.length→J1[i]?=J[i]?:=fun i hi=>by rw [L,AT hi]
      have d1:J1[Y]?=aa (.box p.row 0):=by rw [L,U];simp
      have n1:J1.length=Y+1:=by rw [L,U];simp
      have e5:J1[l+1+1]?=aa (.lp 25 u [P.nat 45] fT fU .ready ab (l+1)):=by rw [k1 _ (an K)];exact K
      refine mZ e5 ?_;obtain⟨E,s⟩:=aI (J1.set (l+1+1) (.lp 25 u [P.nat 45] fT fU .busy ab (l+1)));rw [←s];have k2:∀ i:Nat,i<J.length→i≠l+1+1→E[i]?=J[i]?:=fun i hi O=>by rw [s,AI (Ne.symm O),k1 i hi]
      have d2:E[Y]?=aa (.box p.row 0):=by rw [s,AI (by have:=an K;omega)];exact d1
      have f5:E[l+1+1]?=aa (.lp 25 u [P.nat 45] fT fU .busy ab (l+1)):=by rw [s];exact IN (an e5)
      have n2:E.length=Y+1:=by rw [s,ass];exact n1
      have v2:E[l]?=aa (.box [.f (.bool v)] 0):=by rw [k2 l (by omega) (by omega)];exact h3
      unfold Pr.row at d2;have c5:aS E (aa 1) (.c (.ptr Y 5 0))=aa (.a [.f (sl p.gx (aJ p.xs))]):=by simp [aS,aE,d2,aQ]
      have c6:aS E (aa 1) (.c (.ptr Y 6 0))=aa (.a [.f (sl p.gy (aJ p.ys))]):=by simp [aS,aE,d2,aQ]
      obtain⟨bm,j6⟩:=aI (E.length);refine aG ?_;refine ak (al (.inr rfl) ?_);simp [c5,c6,-av,j5];rw [←j6];obtain⟨J3,c_⟩:=aI (E++[bq.box [.f (FC.au)] 0]);rw [←c_];have k3:∀ i:Nat,i<E.length→J3[i]?=E[i]?:=fun i hi=>by rw [c_,AT hi]
      have m3:J3[bm]?=aa (.box [.f (FC.au)] 0):=by rw [c_,j6];simp
      have v3:J3[l]?=aa (.box [.f (.bool v)] 0):=by rw [k3 l (by omega)];exact v2
      have m_:J3[l+1+1]?=aa (.lp 25 u [P.nat 45] fT fU .busy ab (l+1)):=by rw [k3 _ (an f5)];exact f5
      have lv:aS J3 ab (.c (.ptr l 0 0))=aa (vb v):=by simp [aS,aE,v3]
      have lm:aS J3 (aa 1) (.c (.ptr bm 0 0))=aa (.a [.f (FC.au)]):=by simp [aS,aE,m3,aQ]
      have sv:∀ w:Bool,de J3 (.ptr l 0 0) [.f (.bool w)]=aa (J3.set l (.box [.f (.bool w)] 0)):=fun w=>by simp [de,v3,over]
      apply ak;refine ak (al (.inr rfl) ?_);simp;refine bp (by simp) ?_;refine al (.inr rfl) ?_;have e_:∀ t':T,WP tab 25 (aa (l+1+1)) [.inBlock 3] ⟨t',[],J3.set l (.box [.f (.bool (v||!em))] 0)⟩ Q':=fun t'=>by
       have s5:(J3.set l (.box [.f (.bool (v||!em))] 0))[l+1+1]?=aa (.lp 25 u [P.nat 45] fT fU .busy ab (l+1)):=by rw [AI (by omega)];exact m_
       have n3:J3.length=Y+2:=by rw [c_,api,n2];rfl
       refine aw (cL (d9 _ _ _ _ _ _ _ _ _ _ rfl s5 ⟨rfl,⟨?_,fun i hi O=>?_,?_⟩,?_,fun i h1 F=>?_⟩))
       ·rw [ass,ass,n3];omega
       ·by_cases e:i=l+1+1
        ·subst e;rw [IN (an s5)];rw [q5,B];rfl
        ·rw [AI (Ne.symm e),AI (Ne.symm O),k3 i (by omega),k2 i (by omega) e];exact F i hi O
       ·rw [AI (by omega)];exact IN (an v3)
       ·rw [ass,ass,n3];omega
       ·rw [AI (by omega),AI (by omega),k3 i (by omega),k2 i (by omega) (by omega)]
      cases v with
      | true=>
       simp [g9,lv,sv,-av,-bf];exact e_ _
      | false=>
       simp [g9,lv,lm,sv,-av,-bf,a_];exact e_ _
     refine⟨J',h_,?_⟩;simp only [if_true];refine⟨⟨hr.1.1,hr.1.2.1,_,hr.1.2.2,?_⟩,hr.2⟩;simp only [Bool.or_eq_true,as6,I,h4,asw,asj];constructor
     ·rintro(⟨q,hq,h⟩ | h)
      ·exact⟨q,.inl hq,h⟩
      ·exact⟨p,.inr rfl,h⟩
     ·rintro⟨q,hq | rfl,h⟩
      ·exact .inl ⟨q,hq,h⟩
      ·exact .inr h)
   have g_:Ev tab (.fn 104) [.c (.yl (HA.length+1)),.c (.f (.fp a.row 0)),.c (.f (.fp b.row 0))] (HA++[.fj ae,.lp 25 u [P.nat 45] fT fU .ready ab HA.length]) (.t []) H2:=by
    have e:HA++[.fj ae,.lp 25 u [P.nat 45] fT fU .ready ab HA.length]=m:=by rw [y,B,kn]
    rw [e,kn];exact he
   refine ji (g:=104) (by rw [CV,m9];simp [b5]) g_ ?_;rw [kn];rcases W with⟨ps,⟨j8,M,v,hv,j7⟩,k_,a8⟩ | ⟨_,_,h⟩
   case inr=>exact h.elim
   have K:H2[l+1+1]?=aa (S .ready ab):=by rw [M _ (an q5) (by omega)];exact q5
   obtain⟨w2,z2⟩:=z.h2;obtain⟨w3,z3⟩:=z.h3;have n9:l ∉ (l+1)::N:=fun h=>by
    have:=z.cl.on _ h;rw [ql]at this;cases this
   have pq:Cz a b ((l+1)::N) H2:=⟨by rw [M 0 (by omega) (by omega)];exact z.h0,by rw [M 1 (by omega) (by omega)];exact z.h1,⟨w2,by rw [M 2 (by omega) (by omega)];exact z2⟩,⟨w3,by rw [M 3 (by omega) (by omega)];exact z3⟩,
    ⟨z.cl.nd,fun i hi=>by rw [M i (an (z.cl.on i hi)) (fun e=>n9 (e▸hi))];exact z.cl.on i hi⟩⟩
   rw [B]at K;refine kv K (by decide) ?_;have eq:=pq.set K (by omega) (by simp) (.lp 25 u [P.nat 45] fT fU .exhausted ab (l+1));have ev:(H2.set (l+1+1) (.lp 25 u [P.nat 45] fT fU .exhausted ab (l+1)))[l]?=aa (.box [.f (.bool v)] 0):=by rw [AI (by omega)];exact hv
   generalize H2.set (l+1+1) (.lp 25 u [P.nat 45] fT fU .exhausted ab (l+1))=H3 at eq ev ⊢;obtain⟨s1,s2,s3,s4,s6⟩:=eq.tell v 0;have lv:aS H3 ab (.c (.ptr l 0 0))=aa (vb v):=by simp [aS,aE,ev]
   refine aw ?_;apply ai;simp [Z,g5,g9,lv,s1,s2,-av,-bf];refine aB (j4 _ _ _ v (by simp [Z]) (by simp [g5]) ?_ s3 s4 s6 _);rw [j7];constructor
   ·rintro⟨p,A,h⟩;have:=k_ p A;exact⟨p.c,this.ca,p.d,this.db,p.k,this.lo,this.hi,h⟩
   ·rintro⟨c,hc,d,hd,k,h1,F,h⟩;obtain⟨p,A,rfl,rfl,rfl⟩:=a8 c hc d hd k h1 F;exact⟨p,A,h⟩
  have early:∀ t:T,t.g 2=.c (.ptr 0 0 0)→t.g 3=.c (.ptr 1 0 0)→t.g 4=.c (.ptr 2 0 0)→t.g 5=.c (.ptr 3 0 0)→WP tab 25 ab [.code ED] ⟨t,[],J0⟩ Q:=by
   intro t g2 g3 Z g5;apply ak;apply ai;simp [g2,g3,(la _ _ X).1,(la _ _ X).2,-av,i6];refine aG ?_
   suffices go:∀ u:T,u.g 2=.c (.ptr 0 0 0)→u.g 3=.c (.ptr 1 0 0)→u.g 4=.c (.ptr 2 0 0)→u.g 5=.c (.ptr 3 0 0)→u.g 31=.c (.f (.fn 104 [.fp a.row 0,.fp b.row 0])) →
     WP tab 25 ab [.code EE,.inBlock 0,.code yK] ⟨u,([]:List Nat).map .gM,J0⟩ Q by exact go _ (by simp [g2]) (by simp [g3]) (by simp [Z]) (by simp [g5]) (by simp [aT.row])
   clear g2 g3 Z g5 t;intro u g2 g3 Z g5 m4;obtain⟨S,B⟩:∃ S:eL→Option aF→bq,S=fun st pd=>.lp 25 u [P.nat 32] jE jF st pd 4:=⟨_,rfl⟩
   obtain⟨m,y⟩:=aI (J0++[.fj ae,S .ready ab]);have q4:m[4]?=aa (.fj ae):=by rw [y,IS (by omega),l0];simp
   have q5:m[5]?=aa (S .ready ab):=by rw [y,IS (by omega),l0];simp
   have qq:=X.cO (J':=m) fun i hi=>by rw [y,AT hi]
   have z:Cz a b [4] m:=⟨qq.h0,qq.h1,qq.h2,qq.h3,⟨by simp,fun b hb=>by rw [asj.1 hb];exact q4⟩⟩
   have n8:m.length=6:=by rw [y,api,l0];rfl
   obtain⟨H2,he,W⟩:=oh (bb:=5) (H:=m) a b ha hb (fun ps J=>m.length≤J.length∧(∀ i:Nat,i<m.length→J[i]?=m[i]?)∧∀ p ∈ ps,¬ Com p.c p.d p.k)
    (fun p J=>Com p.c p.d p.k∧fH [4] J∧J[2]?=aa (.box [.f (.bool ae)] 0)∧J[3]?=aa (.box [.f (fi 0)] 0)∧J[5]?=aa (S .done (aa .ret))) ⟨aft _,fun _ _=>rfl,by simp⟩
    (fun ps J J' ⟨h1,F,h3⟩ hk hl=>⟨by omega,fun i hi=>by rw [hk i hi];exact F i hi,h3⟩)
    (fun ps p J ⟨h1,F,h3⟩ hl A=>by
     have K:J[5]?=aa (S .ready ab):=by rw [F _ (an q5)];exact q5
     have pq:=z.cO F;rw [B]at K;obtain⟨e,f,hm,-,d_⟩:=yd p.gx p.gy p.xs p.ys A.xo A.yo 0 (by omega) (by omega);have I:f=ae↔Com p.c p.d p.k:=by
      rw [←EX A];rcases hm with⟨rfl,-,k⟩ | ⟨rfl,k,-⟩
      ·exact⟨fun h=>(by cases h),fun⟨x,h0,h1,F⟩=>absurd ⟨by omega,h1,F⟩ (k x)⟩
      ·exact⟨fun _=>⟨e,by have:=k.1;omega,k.2⟩,fun _=>rfl⟩
     refine⟨!f,?_⟩;obtain⟨r,J',h_,rfl,hr⟩:∃ r J',Ev tab (.yield 5) [.a p.row] J r J'∧(r=vb (!f)∧(if f=ae then fH [4] J'∧J'[2]?=aa (.box [.f (.bool ae)] 0)∧J'[3]?=aa (.box [.f (fi 0)] 0)∧J'[5]?=aa (S .done (aa .ret))else J.length≤J'.length∧∀ i:Nat,i<J.length→J'[i]?=J[i]?)):=by
      refine gj (tab:=tab) (b:=5) (args:=[.a p.row]) (H:=J) K rfl fun Q' d9=>?_;obtain⟨Y,U⟩:=aI (J.length);have i5:p.row.length=8:=rfl;refine al (.inr rfl) ?_;simp [i5];rw [←U];obtain⟨J1,L⟩:=aI (J++[bq.box p.row 0]);rw [←L];have k1:∀ i:Nat,i<J.length→J1[i]?=J[i]?:=fun i hi=>by rw [L,AT hi]
      have d1:J1[Y]?=aa (.box p.row 0):=by rw [L,U];simp
      have n1:J1.length=Y+1:=by rw [L,U];simp
      have e5:J1[5]?=aa (.lp 25 u [P.nat 32] jE jF .ready ab 4):=by rw [k1 _ (an K)];exact K
      refine mZ e5 ?_;obtain⟨E,s⟩:=aI (J1.set 5 (.lp 25 u [P.nat 32] jE jF .busy ab 4));rw [←s];have k2:∀ i:Nat,i<J.length→i≠5→E[i]?=J[i]?:=fun i hi O=>by rw [s,AI (Ne.symm O),k1 i hi]
      have d2:E[Y]?=aa (.box p.row 0):=by rw [s,AI (by have:=an K;omega)];exact d1
      have f5:E[5]?=aa (.lp 25 u [P.nat 32] jE jF .busy ab 4):=by rw [s];exact IN (an e5)
      have n2:E.length=Y+1:=by rw [s,ass];exact n1
      have q2:Cz a b [4] E:=by rw [s];exact(pq.cO k1).set e5 (by omega) (by simp) _
      unfold Pr.row at d2;have c5:aS E (aa 1) (.c (.ptr Y 5 0))=aa (.a [.f (sl p.gx (aJ p.xs))]):=by simp [aS,aE,d2,aQ]
      have c6:aS E (aa 1) (.c (.ptr Y 6 0))=aa (.a [.f (sl p.gy (aJ p.ys))]):=by simp [aS,aE,d2,aQ]
      refine aG ?_;refine ak (al (.inr rfl) ?_);simp [c5,c6,-av,d_];apply ak;refine al (.inr rfl) ?_;simp;cases f with
      | true=>
       refine aq (by simp) ?_;obtain⟨s1,s2,s3,s4,s6⟩:=q2.tell ae 0;have s5:((E.set 2 (.box [.f (.bool ae)] 0)).set 3 (.box [.f (fi 0)] 0))[5]?=aa (.lp 25 u [P.nat 32] jE jF .busy ab 4):=by rw [AI (by omega),AI (by omega)];exact f5
       refine ak (al (.inr rfl) ?_);simp [Z,g5,s1,s2,-bf];refine aB (d9 _ _ _ _ _ _ _ _ _ _ rfl s5 ⟨rfl,?_⟩);rw [ba rfl];refine⟨s3.set s5 (by simp),?_,?_,?_⟩
       ·rw [AI (by omega)];exact s4
       ·rw [AI (by omega)];exact s6
       ·rw [B];exact IN (an s5)
      | false=>
       refine aD (by simp) (aO (aw (cL (d9 _ _ _ _ _ _ _ _ _ _ rfl f5 ⟨rfl,?_⟩))));rw [aX (by simp)];refine⟨by rw [ass,n2];omega,fun i hi=>?_⟩;by_cases e:i=5
       ·subst e;rw [IN (an f5),K];rfl
       ·rw [AI (Ne.symm e),k2 i hi e]
     refine⟨J',h_,?_⟩;cases f with
     | true=>simpa using ⟨I.1 rfl,by simpa using hr⟩
     | false=>
      have hr:J.length≤J'.length∧∀ i:Nat,i<J.length→J'[i]?=J[i]?:=by simpa using hr
      simp only [Bool.not_false,if_true];refine⟨⟨by omega,fun i hi=>by rw [hr.2 i (by omega)];exact F i hi,fun q hq=>?_⟩,hr.1,fun i _ hi=>hr.2 i hi⟩;rcases asw.1 hq with h | h
      ·exact h3 q h
      ·rw [asj.1 h];intro h;have:=I.2 h;cases this)
   have g_:Ev tab (.fn 104) [.c (.yl (J0.length+1)),.c (.f (.fp a.row 0)),.c (.f (.fp b.row 0))] (J0++[.fj ae,.lp 25 u [P.nat 32] jE jF .ready ab J0.length]) (.t []) H2:=by
    have e:J0++[.fj ae,.lp 25 u [P.nat 32] jE jF .ready ab J0.length]=m:=by rw [y,B,l0]
    rw [e,l0];exact he
   refine ji (g:=104) (by rw [CV,m4];simp [b5]) g_ ?_;rw [l0];rcases W with⟨ps,⟨j8,M,i4⟩,k_,a8⟩ | ⟨p,A,I,c1,c2,c3,c5⟩
   ·have K:H2[5]?=aa (S .ready ab):=by rw [M _ (an q5)];exact q5
    rw [B]at K;refine kv K (by decide) (aw ?_);exact l_ u _ [4] g2 g3 Z g5 ((z.cO M).set K (by omega) (by simp) _) fun c hc d hd k h1 F=>by
     obtain⟨p,A,rfl,rfl,rfl⟩:=a8 c hc d hd k h1 F;exact i4 p A
   ·rw [B]at c5;refine pz c5 (by decide) ?_;refine aB (j4 _ _ [4] ae Z g5 ⟨fun _=>⟨p.c,A.ca,p.d,A.db,p.k,A.lo,A.hi,I⟩,fun _=>rfl⟩ (c1.set c5 (by simp)) ?_ ?_ _)
    ·rw [AI (by omega)];exact c2
    ·rw [AI (by omega)];exact c3
  simp [(la _ _ X).1,(la _ _ X).2,-av,i9,i_];refine bp (by simp) ?_;exact early _ (by simp) (by simp) (by simp) (by simp)
 obtain⟨v,⟨r,hr,rfl⟩,h⟩:=key;exact⟨r,hr,h.eq⟩
structure TK(fr alu:Int)(found:Bool)(X Y:aM)(H:aj):Prop where
 h2:H[2]?=aa (.box [.f (fi fr)] 0)
 h5:H[5]?=aa (.box [.f (fi X.day),.f (fi X.fr),.f (fi X.to)] 0)
 h6:H[6]?=aa (.box [.f (fi Y.day),.f (fi Y.fr),.f (fi Y.to)] 0)
 h7:H[7]?=aa (.box [.f (fi alu)] 0)
 h8:H[8]?=aa (.box [.f (.bool found)] 0)
theorem TK.cO{fr b:Int}{found:Bool}{X Y:aM}{H H':aj}(h:TK fr b found X Y H)(d:∀ i:Nat,i<9→H'[i]?=H[i]?):TK fr b found X Y H':=
 ⟨by rw [d 2 (by omega)];exact h.h2,by rw [d 5 (by omega)];exact h.h5,by rw [d 6 (by omega)];exact h.h6,by rw [d 7 (by omega)];exact h.h7,by rw [d 8 (by omega)];exact h.h8⟩
def atI(b:Int)(x y:aM):Int:=max (max x.fr y.fr) b
theorem O0{a b c:Int}:wP ag [vi a,vi b,vi c]=aa (vi (max (max a b) c)):=by
 have d:(if a<b then b else a)=max a b:=by split<;>omega
 have g:(if max a b<c then c else max a b)=max (max a b) c:=by split<;>omega
 simp only [wP,rA,yc];simp [d,g,V.int]
theorem acj(A b:Int)(found:Bool)(X Y x y:aM)(H:aj)(h:TK A b found X Y H) :
  ∃ H',Ev tab (.fn 212) [.a (x.row.map .f),.a (y.row.map .f),.c (.ptr 2 0 0),.c (.ptr 8 0 0),.c (.ptr 7 0 0),.c (.ptr 5 0 0),.c (.ptr 6 0 0)] H (.t []) H' ∧
   (∃ q m X' Y',TK A q m X' Y' H')∧H.length≤H'.length∧∀ i:Nat,i<H.length→i<5∨8<i→H'[i]?=H[i]?:=by
 have l8:=an h.h8;have c_:max (max x.fr y.fr) A=atI A x y:=rfl;obtain⟨r,H',he,rfl,hP⟩:∃ r H',Ev tab (.fn 212) [.a (x.row.map .f),.a (y.row.map .f),.c (.ptr 2 0 0),.c (.ptr 8 0 0),.c (.ptr 7 0 0),.c (.ptr 5 0 0),.c (.ptr 6 0 0)] H r H'∧(r=.t [] ∧
   (∃ q m X' Y',TK A q m X' Y' H')∧H.length≤H'.length∧∀ i:Nat,i<H.length→i<5∨8<i→H'[i]?=H[i]?):=by
  have o1:=vz x X;have o2:=vz y Y;simp only [aM.row,asq,asA]at o1 o2;have ho:=yh .fs [ef (atI A x y) b,gJ x X,gJ y Y] (by simp);simp [ints,sl,Tg.fc]at ho;have U:=ga (atI A x y) b;refine cJ rfl rfl fun Q hQ=>?_;apply ai;simp [aM.row];obtain⟨d,s⟩:=aI (H++[bq.box [.f (fi x.day),.f (fi x.fr),.f (fi x.to)] 0,.box [.f (fi y.day),.f (fi y.fr),.f (fi y.to)] 0]);obtain⟨g,M⟩:=aI (H.length);have hT:TK A b found X Y d:=h.cO fun i hi=>by rw [s,AT (by omega)]
  have c7:d[g]?=aa (.box [.f (fi x.day),.f (fi x.fr),.f (fi x.to)] 0):=by rw [s,M];simp
  have c8:d[g+1]?=aa (.box [.f (fi y.day),.f (fi y.fr),.f (fi y.to)] 0):=by rw [s,M,IS (by omega)];simp
  have kA:∀ i:Nat,i<H.length→d[i]?=H[i]?:=fun i hi=>by rw [s,AT hi]
  have lA:d.length=g+2:=by rw [s,api,M];rfl
  rw [←s,←M];have m7:∀ J:aj,J[g]?=aa (.box [.f (fi x.day),.f (fi x.fr),.f (fi x.to)] 0)→aS J ab (.c (.ptr g 1 0))=aa (vi x.fr)∧aS J ab (.c (.ptr g 2 0))=aa (vi x.to)∧aS J (aa 3) (.c (.ptr g 0 0))=aa (.a [.f (fi x.day),.f (fi x.fr),.f (fi x.to)]):=fun J h=>by refine⟨?_,?_,?_⟩<;>simp [aS,aE,h,aQ]
  have m8:∀ J:aj,J[g+1]?=aa (.box [.f (fi y.day),.f (fi y.fr),.f (fi y.to)] 0)→aS J ab (.c (.ptr (g+1) 1 0))=aa (vi y.fr)∧aS J ab (.c (.ptr (g+1) 2 0))=aa (vi y.to)∧aS J (aa 3) (.c (.ptr (g+1) 0 0))=aa (.a [.f (fi y.day),.f (fi y.fr),.f (fi y.to)]):=fun J h=>by refine⟨?_,?_,?_⟩<;>simp [aS,aE,h,aQ]
  obtain⟨x1,x2,x3⟩:=m7 d c7;obtain⟨y1,y2,y3⟩:=m8 d c8;have h_:aS d ab (.c (.ptr 2 0 0))=aa (vi A):=by simp [aS,aE,hT.h2]
  have g_:aS d ab (.c (.ptr 7 0 0))=aa (vi b):=by simp [aS,aE,hT.h7]
  have i4:aS d (aa 3) (.c (.ptr 5 0 0))=aa (.a [.f (fi X.day),.f (fi X.fr),.f (fi X.to)]):=by simp [aS,aE,hT.h5,aQ]
  have i5:aS d (aa 3) (.c (.ptr 6 0 0))=aa (.a [.f (fi Y.day),.f (fi Y.fr),.f (fi Y.to)]):=by simp [aS,aE,hT.h6,aQ]
  have d9:aS d ab (.c (.ptr 8 0 0))=aa (vb found):=by simp [aS,aE,hT.h8]
  obtain⟨l,e_⟩:=aI (atI A x y);rw [←e_]at c_ ho U;have no:∀(t:T) (J:aj),True→(∀ i:Nat,i<d.length→J[i]?=d[i]?)→d.length≤J.length→(∀ j:Option aF,Q j ⟨t,[],J⟩):=by
   intro t J hu hJ hl j;refine hQ _ _ _ rfl rfl ⟨rfl,?_,by show H.length≤J.length;omega,fun i hi _=>by show J[i]?=_;rw [hJ i (by omega),kA i hi]⟩;exact⟨_,_,_,_,hT.cO fun i hi=>hJ i (by omega)⟩
  apply ai;simp [x1,y1,h_,-av,O0,c_]
  suffices a8:∀ t:T,t.g 3=.c (.ptr 8 0 0)→t.g 4=.c (.ptr 7 0 0)→t.g 5=.c (.ptr 5 0 0)→t.g 6=.c (.ptr 6 0 0)→t.g 7=.c (.ptr g 0 0)→t.g 8=.c (.ptr (g+1) 0 0)→t.g 9=vi l→WP tab 212 ab [.code Yi] ⟨t,[],d⟩ Q by exact a8 _ (by simp) (by simp) (by simp) (by simp) (by simp) (by simp) (by simp)
  intro t g3 O g5 g6 v z B;apply ak;apply ai;by_cases c1:2251799813685248<x.to
  ·simp [v,x2,c1,-av];refine aq (by simp) ?_;exact aB (no _ d trivial (fun _ _=>rfl) (aft _) _)
  by_cases c2:2251799813685248<y.to
  ·simp [v,z,x2,y2,c1,c2,-av];refine aq (by simp) ?_;exact aB (no _ d trivial (fun _ _=>rfl) (aft _) _)
  by_cases c3:min x.to y.to≤l
  ·simp [v,z,B,x2,y2,c1,c2,c3,-av];refine aq (by simp) ?_;exact aB (no _ d trivial (fun _ _=>rfl) (aft _) _)
  simp [v,z,B,x2,y2,c1,c2,c3,-av];refine bp (by simp) ?_;have d_:∀(t:T) (J:aj),True→t.g 3=.c (.ptr 8 0 0)→t.g 4=.c (.ptr 7 0 0)→t.g 5=.c (.ptr 5 0 0)→t.g 6=.c (.ptr 6 0 0)→t.g 7=.c (.ptr g 0 0)→t.g 8=.c (.ptr (g+1) 0 0)→t.g 9=vi l→(∀ i:Nat,i<d.length→J[i]?=d[i]?)→d.length≤J.length→WP tab 212 ab [.code EC] ⟨t,[],J⟩ Q:=by
   intro t J hu g3 O g5 g6 v z B hJ hl;have u:=hT.cO (H':=J) fun i hi=>hJ i (by omega);have d7:J[g]?=aa (.box [.f (fi x.day),.f (fi x.fr),.f (fi x.to)] 0):=by rw [hJ g (by omega)];exact c7
   have d8:J[g+1]?=aa (.box [.f (fi y.day),.f (fi y.fr),.f (fi y.to)] 0):=by rw [hJ (g+1) (by omega)];exact c8
   obtain⟨-,-,x3⟩:=m7 J d7;obtain⟨-,-,y3⟩:=m8 J d8;obtain⟨N,F⟩:=aI (J.set 7 (.box [.f (fi l)] 0));have s1:de J (.ptr 7 0 0) [.f (fi l)]=aa N:=by rw [F];simp [de,u.h7,over]
   have W:∀ i:Nat,i≠7→N[i]?=J[i]?:=fun i hi=>by rw [F,AI (Ne.symm hi)]
   have n1:N.length=J.length:=by rw [F];simp
   obtain⟨Z,I⟩:=aI (N.set 5 (.box [.f (fi x.day),.f (fi x.fr),.f (fi x.to)] 0));have s2:de N (.ptr 5 0 0) [.f (fi x.day),.f (fi x.fr),.f (fi x.to)]=aa Z:=by rw [I];simp [de,W 5 (by omega),u.h5,over]
   have k2:∀ i:Nat,i≠5→Z[i]?=N[i]?:=fun i hi=>by rw [I,AI (Ne.symm hi)]
   have n2:Z.length=J.length:=by rw [I];simp [n1]
   obtain⟨J3,K⟩:=aI (Z.set 6 (.box [.f (fi y.day),.f (fi y.fr),.f (fi y.to)] 0));have s3:de Z (.ptr 6 0 0) [.f (fi y.day),.f (fi y.fr),.f (fi y.to)]=aa J3:=by rw [K];simp [de,k2 6 (by omega),W 6 (by omega),u.h6,over]
   have k3:∀ i:Nat,i≠6→J3[i]?=Z[i]?:=fun i hi=>by rw [K,AI (Ne.symm hi)]
   have n3:J3.length=J.length:=by rw [K];simp [n2]
   obtain⟨J4,L⟩:=aI (J3.set 8 (.box [.f (.bool ae)] 0));have s4:de J3 (.ptr 8 0 0) [.f (.bool ae)]=aa J4:=by rw [L];simp [de,k3 8 (by omega),k2 8 (by omega),W 8 (by omega),u.h8,over]
   have k4:∀ i:Nat,i≠8→J4[i]?=J3[i]?:=fun i hi=>by rw [L,AI (Ne.symm hi)]
   have i_:=an u.h7;have j4:8<g:=by omega
   obtain⟨-,-,i6⟩:=m7 N (by rw [W g (by omega)];exact d7);obtain⟨-,-,i7⟩:=m8 N (by rw [W (g+1) (by omega)];exact d8);obtain⟨-,-,i8⟩:=m8 Z (by rw [k2 (g+1) (by omega),W (g+1) (by omega)];exact d8);refine gb (.inl rfl) ?_ ?_
   case refine_2=>
    intro cc f8;have f7:cc=(1,4)∨cc=(2,4)∨cc=(2,5):=by simpa using f8
    rcases f7 with rfl | rfl | rfl
    ·refine⟨by decide,_,rfl,.inl ⟨by decide,?_⟩⟩;simp [O,v,z,B,x3,y3,i6,s1,-av,-bf,gQ,V.beq,C.beq,FC.beq]
    ·refine⟨by decide,_,rfl,.inl ⟨by decide,?_⟩⟩;simp [O,v,z,B,x3,y3,i7,s1,-av,-bf,gQ,V.beq,C.beq,FC.beq]
    ·refine⟨by decide,_,rfl,.inl ⟨by decide,?_⟩⟩;simp [O,g5,v,z,B,x3,y3,i8,s1,s2,-av,-bf,gQ,V.beq,C.beq,FC.beq]
   simp [g3,O,g5,g6,v,z,B,x3,y3,s1,s2,s3,s4,-av,-bf];refine cL (hQ _ _ _ rfl rfl ⟨rfl,?_,by show H.length≤J4.length;rw [L];simp;omega,fun i hi i9=>?_⟩)
   ·refine⟨l,ae,x,y,?_,?_,?_,?_,?_⟩
    ·rw [k4 2 (by omega),k3 2 (by omega),k2 2 (by omega),W 2 (by omega)];exact u.h2
    ·rw [k4 5 (by omega),k3 5 (by omega),I];exact IN (by omega)
    ·rw [k4 6 (by omega),K];exact IN (by omega)
    ·rw [k4 7 (by omega),k3 7 (by omega),k2 7 (by omega),F];exact IN (by omega)
    ·rw [L];exact IN (by omega)
   ·show J4[i]?=_;rw [k4 i (by omega),k3 i (by omega),k2 i (by omega),W i (by omega),hJ i (by omega),kA i hi]
  apply ak;cases found with
  | false=>
   refine al (.inl rfl) ?_;simp [g3,d9,-av];refine aq (by simp) ?_;exact d_ _ d trivial (by simp [g3]) (by simp [O]) (by simp [g5]) (by simp [g6]) (by simp [v]) (by simp [z]) (by simp [B]) (fun _ _=>rfl) (aft _)
  | true=>
   obtain⟨HB,E⟩:=aI (d++[bq.box [.f (fi (ef l b)),.f (fi (gJ x X)),.f (fi (gJ y Y))] 0]);have b9:HB[d.length]?=aa (.box [.f (fi (ef l b)),.f (fi (gJ x X)),.f (fi (gJ y Y))] 0):=by rw [E];simp
   have b_:eG 64 HB (.sl d.length 0 3 3 0 1)=aa (.fs [fi (ef l b),fi (gJ x X),fi (gJ y Y)] 3):=by
    rw [show(64:Nat)=63+1 from rfl];simp only [lJ,b9];rfl
   obtain⟨HC,a_⟩:=aI (gu 64 (.sl d.length 0 3 3 0 1) HB);have S:HC=HB.set d.length (.box [.f (fi (ef l b)),.f (fi (gJ x X)),.f (fi (gJ y Y))] 3):=by
    rw [a_,show(64:Nat)=63+1 from rfl];simp only [pF,b9];rfl
   have kC:∀ i:Nat,i<d.length→HC[i]?=d[i]?:=fun i hi=>by rw [S,AI (by omega),E,AT hi]
   have lC:d.length≤HC.length:=by rw [S,ass,E,api];omega
   obtain⟨oo,f_⟩:=aI (BI [ef l b,gJ x X,gJ y Y]);rw [←f_]at ho;refine al (.inl rfl) ?_;simp [g3,O,g5,g6,v,z,B,d9,g_,i4,i5,x3,y3,-av,U,o1,o2,←E,b_,deep,ho,←a_];by_cases k:oo<0
   ·refine aq (by simp [k]) ?_;exact d_ _ HC trivial (by simp [g3]) (by simp [O]) (by simp [g5]) (by simp [g6]) (by simp [v]) (by simp [z]) (by simp [B]) kC lC
   ·refine bp (by simp [k]) ?_;exact cL (no _ HC trivial kC lC ab)
 exact⟨H',he,hP⟩
theorem wo(g j l:FC)(len mi d:Int)(u:0≤len)(m:len≤10080)(v:-4320≤mi)(q:mi≤4320) :
  bh tab 213 [.a [.f g,.f (fi len),.f j],.a [.f l,.f (fi mi)],vi d]=Eq (vb (decide (d≤(2251799813685248-mi-len) / 1440))):=Kf.eq (by
 refine cT rfl rfl fun H Q s=>?_;apply ai;simp;apply ai;simp [aU (n:=2251799813685248-mi),aU (n:=2251799813685248-mi-len),mB (a:=2251799813685248-mi-len) (b:=1440) (by omega) (by omega) (by omega)];refine aB (s _ _ ?_);simp)
def Co:C:=.cl 212 [.ptr 2 0 0,.ptr 8 0 0,.ptr 7 0 0,.ptr 5 0 0,.ptr 6 0 0]
structure FQ(a b:aT)(fr:Int)(J:aj):Prop where
 h0:J[0]?=aa (.box (mI a) 0)
 h1:J[1]?=aa (.box (mI b) 0)
 h3:J[3]?=aa (.box [.f (fi 0),.f (fi 0),.f (fi 0)] 0)
 h4:J[4]?=aa (.box [.f (fi 0),.f (fi 0),.f (fi 0)] 0)
 h9:J[9]?=aa (.box [Co] 0)
 tk:∃ alu found X Y,TK fr alu found X Y J
theorem FQ.cO{a b:aT}{fr:Int}{J J':aj}(h:FQ a b fr J)(d:∀ i:Nat,i<10→J'[i]?=J[i]?):FQ a b fr J':=
 ⟨by rw [d 0 (by omega)];exact h.h0,by rw [d 1 (by omega)];exact h.h1,by rw [d 3 (by omega)];exact h.h3,by rw [d 4 (by omega)];exact h.h4,by rw [d 9 (by omega)];exact h.h9,let ⟨_,_,_,_,g⟩:=h.tk;⟨_,_,_,_,g.cO fun i hi=>d i (by omega)⟩⟩
structure FT(t:T):Prop where
 g3:t.g 3=.c (.ptr 0 0 0)
 g4:t.g 4=.c (.ptr 1 0 0)
 g5:t.g 5=.c (.ptr 2 0 0)
 g6:t.g 6=.c (.ptr 3 0 0)
 g7:t.g 7=.c (.ptr 4 0 0)
 g9:t.g 9=.c (.ptr 5 0 0)
 g10:t.g 10=.c (.ptr 6 0 0)
 g12:t.g 12=.c (.ptr 8 0 0)
 g13:t.g 13=.c (.ptr 9 0 0)
theorem ack{a b:aT}{j:Int}{J:aj}(h:FQ a b j J)(x y:aM):∃ J',Ev tab (.fn 212) [.a (x.row.map .f),.a (y.row.map .f),.c (.ptr 2 0 0),.c (.ptr 8 0 0),.c (.ptr 7 0 0),.c (.ptr 5 0 0),.c (.ptr 6 0 0)] J (.t []) J'∧FQ a b j J'∧J.length≤J'.length∧∀ i:Nat,8<i→i<J.length→J'[i]?=J[i]?:=by
 obtain⟨g,found,X,Y,u⟩:=h.tk;obtain⟨J',q,m,s,d⟩:=acj j g found X Y x y J u;have z:=an h.h9;exact⟨J',q,⟨by rw [d 0 (by omega) (by omega)];exact h.h0,by rw [d 1 (by omega) (by omega)];exact h.h1,by rw [d 3 (by omega) (by omega)];exact h.h3,by rw [d 4 (by omega) (by omega)];exact h.h4,by rw [d 9 (by omega) (by omega)];exact h.h9,m⟩,s,fun i v l=>d i l (by omega)⟩
def alI(a b:aT)(p:Pr):Int:=min (p.c.min+a.len) (p.k*1440+p.d.min+b.len)
def n0P(a b:aT)(d:Int)(p:Pr):Int:=max 0 ((d-alI a b p) / 1440+1-max 0 (-p.k))
def Z7(a:aT)(p:Pr)(e:Int):aM:=fM a.len p.c.min (e+max 0 (-p.k))
def Z8(b:aT)(p:Pr)(e:Int):aM:=fM b.len p.d.min (e+max 0 (-p.k)+p.k)
theorem DZ(a b:aT)(ha:rK a)(hb:rK b){q:Int}(f0:-2251799813685248≤q)(f1:q≤100000000000000){M:T}(A:FT M){p:Pr}(N:qo a b p){J:aj}(hq:FQ a b q J)(a_:J[10]?=aa (.fj ae))(I:J[11]?=aa (.lp 138 M [P.nat 47] gz gA .ready ab 10)) :
  ∃ r J',Ev tab (.yield 11) [.a p.row] J r J'∧(r=vb ae∧FQ a b q J'∧J'[10]?=aa (.fj ae)∧J'[11]?=aa (.lp 138 M [P.nat 47] gz gA .ready ab 10)∧J.length≤J'.length∧∀ i:Nat,12≤i→i<J.length→J'[i]?=J[i]?):=by
 obtain⟨i_,j4⟩:=ha.len;obtain⟨j5,j6⟩:=hb.len;have i5:=ha.min N.ca;have i6:=hb.min N.db;have c_:=N.lo;have b_:=N.hi;unfold Bw at c_;unfold Bj at b_;have kb:-20≤p.k∧p.k≤20:=by omega
 obtain⟨z,K⟩:=aI (alI a b p);have i4:-100000≤z∧z≤100000:=by rw [K];unfold alI;omega
 have U:min (p.c.min+a.len) (p.k*1440+p.d.min+b.len)=z:=K.symm;obtain⟨l,x⟩:=aI (max 0 (-p.k));have h_:0≤l∧l≤20:=by omega
 obtain⟨n,hn⟩:=aI (n0P a b q p);have d9:max 0 ((q-z) / 1440+1-l)=n:=by rw [hn,K,x];rfl
 have i9:0≤n∧n≤1000000000000:=by omega
 obtain⟨e,f,hm,i7,y⟩:=yd p.gx p.gy p.xs p.ys N.xo N.yo n (by omega) (by omega);refine gj (tab:=tab) (b:=11) (args:=[.a p.row]) (H:=J) I rfl fun Q' S=>?_;obtain⟨d,u⟩:=aI (J.length);obtain⟨O,v⟩:=aI (J++[bq.box p.row 0]);have f8:=an I;have a8:O[d]?=aa (.box p.row 0):=by rw [v,u];simp
 have k1:∀ i:Nat,i<J.length→O[i]?=J[i]?:=fun i hi=>by rw [v,AT hi]
 have l1:O.length=d+1:=by rw [v,api,u];rfl
 have e_:p.row.length=8:=rfl;refine al (.inr rfl) ?_;simp [e_];rw [←v,←u];have g_:O[11]?=aa (.lp 138 M [P.nat 47] gz gA .ready ab 10):=by rw [k1 11 f8];exact I
 refine mZ g_ ?_;obtain⟨g,s⟩:=aI (O.set 11 (.lp 138 M [P.nat 47] gz gA .busy ab 10));have Z:∀ i:Nat,i<J.length→i≠11→g[i]?=J[i]?:=fun i hi d_=>by rw [s,AI (Ne.symm d_),k1 i hi]
 have j:g[d]?=aa (.box p.row 0):=by rw [s,AI (by omega)];exact a8
 have F:g[11]?=aa (.lp 138 M [P.nat 47] gz gA .busy ab 10):=by rw [s];exact IN (by omega)
 have Q:g[10]?=aa (.fj ae):=by rw [Z 10 (by omega) (by omega)];exact a_
 have m:FQ a b q g:=hq.cO fun i hi=>Z i (by omega) (by omega);have l2:g.length=d+1:=by rw [s,ass];exact l1
 rw [←s];unfold Pr.row at j;rw [←x]at j;have c0:aS g ab (.c (.ptr d 1 0))=aa (vi p.c.min):=by simp [aS,aE,j]
 have c1:aS g ab (.c (.ptr d 4 0))=aa (vi p.k):=by simp [aS,aE,j]
 have c2:aS g ab (.c (.ptr d 3 0))=aa (vi p.d.min):=by simp [aS,aE,j]
 have c3:aS g ab (.c (.ptr d 7 0))=aa (vi l):=by simp [aS,aE,j]
 have c4:aS g (aa 1) (.c (.ptr d 5 0))=aa (.a [.f (sl p.gx (aJ p.xs))]):=by simp [aS,aE,j,aQ]
 have c5:aS g (aa 1) (.c (.ptr d 6 0))=aa (.a [.f (sl p.gy (aJ p.ys))]):=by simp [aS,aE,j,aQ]
 have c6:aS g (aa 2) (.c (.ptr d 0 0))=aa (.a [.f (sl p.c.mg (aJ p.c.ts)),.f (fi p.c.min)]):=by simp [aS,aE,j,aQ]
 have c7:aS g (aa 2) (.c (.ptr d 2 0))=aa (.a [.f (sl p.d.mg (aJ p.d.ts)),.f (fi p.d.min)]):=by simp [aS,aE,j,aQ]
 have a1:aS g ab (.c (.ptr 0 1 0))=aa (vi a.len):=by simp [aS,aE,m.h0,mI]
 have a3:aS g (aa 3) (.c (.ptr 0 0 0))=aa (.a [.f (sl a.cg (aL a.cs)),.f (fi a.len),.f (sl a.xg (aH a.xs))]):=by simp [aS,aE,m.h0,mI,aQ]
 have b1:aS g ab (.c (.ptr 1 1 0))=aa (vi b.len):=by simp [aS,aE,m.h1,mI]
 have b3:aS g (aa 3) (.c (.ptr 1 0 0))=aa (.a [.f (sl b.cg (aL b.cs)),.f (fi b.len),.f (sl b.xg (aH b.xs))]):=by simp [aS,aE,m.h1,mI,aQ]
 have f2:aS g ab (.c (.ptr 2 0 0))=aa (vi q):=by
  obtain⟨_,_,_,_,ht⟩:=m.tk;simp [aS,aE,ht.h2]
 have f9:aS g ab (.c (.ptr 9 0 0))=aa (.c Co):=by simp [aS,aE,m.h9]
 have fl:=uB (q-z) (by omega) (by omega);have B:=wo (sl a.cg (aL a.cs)) (sl a.xg (aH a.xs)) (sl p.c.mg (aJ p.c.ts)) a.len p.c.min (e+l) (by omega) (by omega) (by omega) (by omega);have E:=wo (sl b.cg (aL b.cs)) (sl b.xg (aH b.xs)) (sl p.d.mg (aJ p.d.ts)) b.len p.d.min (e+l+p.k) (by omega) (by omega) (by omega) (by omega);rw [decide_eq_true (show e+l≤(2251799813685248-p.c.min-a.len) / 1440 by omega)]at B;rw [decide_eq_true (show e+l+p.k≤(2251799813685248-p.d.min-b.len) / 1440 by omega)]at E;have W:=Ba (sl a.cg (aL a.cs)) (sl a.xg (aH a.xs)) (sl p.c.mg (aJ p.c.ts)) a.len p.c.min (e+l) (by unfold lN;omega) (by unfold lN;omega) (by unfold lN;omega);have X:=Ba (sl b.cg (aL b.cs)) (sl b.xg (aH b.xs)) (sl p.d.mg (aJ p.d.ts)) b.len p.d.min (e+l+p.k) (by unfold lN;omega) (by unfold lN;omega) (by unfold lN;omega);have hX:fM a.len p.c.min (e+l)=Z7 a p e:=by unfold Z7;rw [←x]
 have hY:fM b.len p.d.min (e+l+p.k)=Z8 b p e:=by unfold Z8;rw [←x]
 rw [hX]at W;rw [hY]at X;refine aG ?_;refine ak (al (.inr rfl) ?_);simp [A.g3,A.g4,c0,c1,c2,a1,b1,-av,aU (n:=p.c.min+a.len),aU (n:=p.k*1440),aU (n:=p.k*1440+p.d.min),aU (n:=p.k*1440+p.d.min+b.len),U];refine ak (al (.inr rfl) ?_);simp [A.g5,f2,c3,-av,aU (n:=q-z),fl,aU (n:=(q-z) / 1440+1),aU (n:=(q-z) / 1440+1-l),d9];refine ak (al (.inr rfl) ?_);simp [c4,c5,-av,y];apply ak;cases f with
 | false=>
  refine al (.inr rfl) ?_;simp;refine bp (by simp) ?_;refine aw (cL (S _ _ _ _ _ _ _ _ _ _ rfl F ⟨rfl,?_,?_,IN (an F),by show J.length≤(g.set 11 _).length;rw [ass];omega,fun i h1 h2=>?_⟩))
  ·exact m.cO fun i hi=>by rw [AI (by omega)]
  ·rw [AI (by omega)];exact Q
  ·rw [AI (by omega),Z i h2 (by omega)]
 | true=>
  obtain⟨J3,b9,f7,i8,L⟩:=ack m (Z7 a p e) (Z8 b p e);refine al (.inr rfl) ?_;simp [A.g3,A.g4,a3,b3,c1,c3,c6,c7,-av,aU (n:=e+l),aU (n:=e+l+p.k),B,E];refine aq (by simp) ?_;refine al (.inr rfl) ?_;simp [A.g3,A.g4,A.g13,f9,a3,b3,c1,c3,c6,c7,-av,aU (n:=e+l),aU (n:=e+l+p.k),W,X,Co,b9.eq];have Y:J3[11]?=aa (.lp 138 M [P.nat 47] gz gA .busy ab 10):=by rw [L 11 (by omega) (by omega)];exact F
  have f_:J3[10]?=aa (.fj ae):=by rw [L 10 (by omega) (by omega)];exact Q
  refine aw (cL (S _ _ _ _ _ _ _ _ _ _ rfl Y ⟨rfl,?_,?_,IN (an Y),by show J.length≤(J3.set 11 _).length;rw [ass];omega,fun i h1 h2=>?_⟩))
  ·exact f7.cO fun i hi=>by rw [AI (by omega)]
  ·rw [AI (by omega)];exact f_
  ·rw [AI (by omega),L i (by omega) (by omega),Z i h2 (by omega)]
def FW(a b:aT)(g:Int)(d:List Nat)(J:aj):Prop:=FQ a b g J∧fH d J∧∀ i ∈ d,10≤i∧i<J.length
theorem aax{t:T}{n:Nat}{v:V}(A:n ∉ [3,4,5,6,7,9,10,12,13]):FT (t.s n v)↔FT t:=by
 simp only [asv,atc,or_false,not_or]at A;obtain⟨q,s,u,x,y,z,j,l,m⟩:=A;constructor
 ·rintro⟨a,b,c,d,e,f,g,h,i⟩;refine⟨?_,?_,?_,?_,?_,?_,?_,?_,?_⟩
  ·simpa [q]using a
  ·simpa [s]using b
  ·simpa [u]using c
  ·simpa [x]using d
  ·simpa [y]using e
  ·simpa [z]using f
  ·simpa [j]using g
  ·simpa [l]using h
  ·simpa [m]using i
 ·rintro⟨a,b,c,d,e,f,g,h,i⟩;refine⟨?_,?_,?_,?_,?_,?_,?_,?_,?_⟩
  ·simpa [q]using a
  ·simpa [s]using b
  ·simpa [u]using c
  ·simpa [x]using d
  ·simpa [y]using e
  ·simpa [z]using f
  ·simpa [j]using g
  ·simpa [l]using h
  ·simpa [m]using i
theorem Ot(a b:aT)(ha:rK a)(hb:rK b)(m:Int)(f0:-2251799813685248≤m)(f1:m≤100000000000000) :
  ∃(X Y:aM) (found:Bool),bh tab 138 [.a (a.row.map .f),.a (b.row.map .f),vi m]=Eq (.t [.a (X.row.map .f),.a (Y.row.map .f),vb found]):=by
 obtain⟨r,⟨X,Y,found,rfl⟩,h⟩:∃ r,(∃(X Y:aM) (found:Bool),r=.t [.a (X.row.map .f),.a (Y.row.map .f),vb found])∧bh tab 138 [.a (a.row.map .f),.a (b.row.map .f),vi m] r:=by
  refine yu aqG rfl fun Q hQ=>?_;have M:=(jk a ha.sm).eq;rw [ha.v]at M;simp [aT.row]at M;have N:=(jk b hb.sm).eq;rw [hb.v]at N;simp [aT.row]at N;have f8:max m (-2251799813685248)=m:=by omega
  apply ai;simp [aT.row];apply ak;apply ai;simp [M,N,show¬ 2251799813685248<m by omega];refine bp (by simp) ?_;apply ai;simp [f8];apply ai;simp;apply ai;simp;apply ai;simp;obtain⟨q,y⟩:=aI ([.box (mI a) 0,.box (mI b) 0,.box [.f (fi m)] 0,.box [.f (fi 0),.f (fi 0),.f (fi 0)] 0,.box [.f (fi 0),.f (fi 0),.f (fi 0)] 0,.box [.f (fi 0),.f (fi 0),.f (fi 0)] 0,.box [.f (fi 0),.f (fi 0),.f (fi 0)] 0,.box [.f (fi 0)] 0,.box [.f (.bool ag)] 0,.box [Co] 0]:aj);have L:FQ a b m q:=by rw [y];exact⟨rfl,rfl,rfl,rfl,rfl,0,ag,⟨0,0,0⟩,⟨0,0,0⟩,⟨rfl,rfl,rfl,rfl,rfl⟩⟩
  have l0:q.length=10:=by rw [y];rfl
  unfold mI Co at y;rw [←y];have la:∀(J:aj),FQ a b m J→aS J (aa 3) (.c (.ptr 0 0 0))=aa (.a [.f (sl a.cg (aL a.cs)),.f (fi a.len),.f (sl a.xg (aH a.xs))])∧aS J ab (.c (.ptr 0 2 0))=aa (.c (.f (sl a.xg (aH a.xs)))):=fun J h=>by refine⟨?_,?_⟩<;>simp [aS,aE,h.h0,mI,aQ]
  have lb:∀(J:aj),FQ a b m J→aS J (aa 3) (.c (.ptr 1 0 0))=aa (.a [.f (sl b.cg (aL b.cs)),.f (fi b.len),.f (sl b.xg (aH b.xs))])∧aS J ab (.c (.ptr 1 2 0))=aa (.c (.f (sl b.xg (aH b.xs)))):=fun J h=>by refine⟨?_,?_⟩<;>simp [aS,aE,h.h1,mI,aQ]
  have nv:∀ H:aj,bt H (.f (sl a.xg (aH a.xs)))=aa a.xs.length:=fun H=>by simp
  have b9:∀ H:aj,bt H (.f (sl b.xg (aH b.xs)))=aa b.xs.length:=fun H=>by simp
  have b_:∀(t:T) (J:aj) (l:List Nat),FT t→FW a b m l J→WP tab 138 ab [.code EA] ⟨t,l.map .gM,J⟩ Q:=by
   rintro t J l d ⟨x,a8,I⟩;obtain⟨i4,found,X,Y,ht⟩:=x.tk;have l9:=an x.h9;have lx:∀ J':aj,J'[5]?=J[5]?→aS J' (aa 3) (.c (.ptr 5 0 0))=aa (.a [.f (fi X.day),.f (fi X.fr),.f (fi X.to)]):=fun J' h=>by simp [aS,aE,h,ht.h5,aQ]
   have ly:∀ J':aj,J'[6]?=J[6]?→aS J' (aa 3) (.c (.ptr 6 0 0))=aa (.a [.f (fi Y.day),.f (fi Y.fr),.f (fi Y.to)]):=fun J' h=>by simp [aS,aE,h,ht.h6,aQ]
   have W:∀ J':aj,J'[8]?=J[8]?→aS J' ab (.c (.ptr 8 0 0))=aa (vb found):=fun J' h=>by simp [aS,aE,h,ht.h8]
   obtain⟨u,A⟩:=aI (J.set 3 (.box [.f (fi X.day),.f (fi X.fr),.f (fi X.to)] 0));have s1:de J (.ptr 3 0 0) [.f (fi X.day),.f (fi X.fr),.f (fi X.to)]=aa u:=by rw [A];simp [de,x.h3,over]
   have O:∀ i:Nat,i≠3→u[i]?=J[i]?:=fun i hi=>by rw [A,AI (Ne.symm hi)]
   have n1:u.length=J.length:=by rw [A];simp
   obtain⟨v,B⟩:=aI (u.set 4 (.box [.f (fi Y.day),.f (fi Y.fr),.f (fi Y.to)] 0));have s2:de u (.ptr 4 0 0) [.f (fi Y.day),.f (fi Y.fr),.f (fi Y.to)]=aa v:=by rw [B];simp [de,O 4 (by omega),x.h4,over]
   have k2:∀ i:Nat,i≠4→v[i]?=u[i]?:=fun i hi=>by rw [B,AI (Ne.symm hi)]
   have n2:v.length=J.length:=by rw [B];simp [n1]
   refine ak (gb (.inl rfl) ?_ ?_)
   case refine_2=>
    intro cc d_;have d9:cc=(1,4)∨cc=(2,4)∨cc=(2,6):=by simpa using d_
    rcases d9 with rfl | rfl | rfl
    ·refine⟨by decide,_,rfl,.inl ⟨by decide,?_⟩⟩;simp [d.g6,d.g7,d.g9,d.g10,d.g12,lx J rfl,ly J rfl,W J rfl,ly u (O 6 (by omega)),s1,-av,-bf,gQ,V.beq,C.beq,FC.beq]
    ·refine⟨by decide,_,rfl,.inl ⟨by decide,?_⟩⟩;simp [d.g6,d.g7,d.g9,d.g10,d.g12,lx J rfl,ly J rfl,W J rfl,W u (O 8 (by omega)),s1,-av,-bf,gQ,V.beq,C.beq,FC.beq]
    ·refine⟨by decide,_,rfl,.inl ⟨by decide,?_⟩⟩;simp [d.g6,d.g7,d.g9,d.g10,d.g12,lx J rfl,ly J rfl,W J rfl,W v ((k2 8 (by omega)).trans (O 8 (by omega))),s1,s2,-av,-bf,gQ,V.beq,C.beq,FC.beq]
   simp [d.g6,d.g7,d.g9,d.g10,d.g12,lx J rfl,ly J rfl,W J rfl,s1,s2,-av,-bf];have g_:(3:Nat) ∉ l:=fun h=>by have:=(I 3 h).1;omega
   have h_:(4:Nat) ∉ l:=fun h=>by have:=(I 4 h).1;omega
   have e3:(mw l v)[3]?=aa (.box [.f (fi X.day),.f (fi X.fr),.f (fi X.to)] 0):=by rw [iC g_,k2 3 (by omega),A];exact IN (by omega)
   have e4:(mw l v)[4]?=aa (.box [.f (fi Y.day),.f (fi Y.fr),.f (fi Y.to)] 0):=by rw [iC h_,B];exact IN (by omega)
   refine aB (hQ _ _ _ ⟨X,Y,found,rfl⟩ ⟨l,rfl,⟨a8.nd,fun z hz=>?_⟩,.t [.a (X.row.map .f),.a (Y.row.map .f),vb found],?_,by simp [iV,cK,bg,deep,eG,aM.row]⟩)
   ·have:=(I z hz).1;show v[z]?=_;rw [k2 z (by omega),O z (by omega)];exact a8.on z hz
   ·simp [Km.results,cQ,bg,d.g6,d.g7,aS,aE,e3,e4,aQ,aM.row]
  have U:∀(t:T) (J:aj) (l:List Nat),FT t→FW a b m l J→WP tab 138 ab [.code Ez] ⟨t,l.map .gM,J⟩ Q:=by
   intro t J l d E;apply ak;apply ai;simp [d.g4,(lb J E.1).2,b9,hb.xs,-av];refine zr 0 (fun _ t ds J=>FT t∧∃ l,ds=l.map .gM∧FW a b m l J) (by omega) (by decide) (by decide) (by simp) (by simp)
    ⟨by simp [aax,d],l,rfl,E⟩ (fun j _ _ _ hj=>by omega) ?_
   rintro t ds J ⟨d,l,rfl,E⟩ - -;exact b_ _ J l (by simp [aax,d]) E
  have S:∀(t:T) (J:aj) (l:List Nat),FT t→FW a b m l J→WP tab 138 ab [.code yJ] ⟨t,l.map .gM,J⟩ Q:=by
   intro t J l d E;apply ak;apply ai;simp [d.g3,(la J E.1).2,nv,ha.xs,-av];refine zr 0 (fun _ t ds J=>FT t∧∃ l,ds=l.map .gM∧FW a b m l J) (by omega) (by decide) (by decide) (by simp) (by simp)
    ⟨by simp [aax,d],l,rfl,E⟩ (fun j _ _ _ hj=>by omega) ?_
   rintro t ds J ⟨d,l,rfl,E⟩ - -;exact U _ J l (by simp [aax,d]) E
  suffices start:∀ t:T,FT t→WP tab 138 ab [.code Ex] ⟨t,[],q⟩ Q by exact start _ ⟨by simp,by simp,by simp,by simp,by simp,by simp,by simp,by simp,by simp⟩
  intro t d;have a_:=xE a b;simp only [aT.row,asq,asA]at a_;apply ak;apply ai;simp [d.g3,d.g4,(la q L).1,(lb q L).1,-av,a_];refine aG ?_
  suffices go:∀ F:T,FT F→F.g 46=.c (.f (.fn 104 [.fp a.row 0,.fp b.row 0]))→WP tab 138 ab [.code Ey,.inBlock 0,.code yJ] ⟨F,[],q⟩ Q by exact go _ (by simp [aax,d]) (by simp [aT.row])
  clear d t;intro F d c_;obtain⟨Z,s⟩:=aI (q++[.fj ae,.lp 138 F [P.nat 47] gz gA .ready ab 10]:aj);have lR:Z.length=12:=by rw [s,api,l0];rfl
  have kR:∀ i:Nat,i<10→Z[i]?=q[i]?:=fun i hi=>by rw [s,AT (by omega)]
  have rd:Z[10]?=aa (.fj ae):=by rw [s,IS (by omega),l0];rfl
  have rl:Z[11]?=aa (.lp 138 F [P.nat 47] gz gA .ready ab 10):=by rw [s,IS (by omega),l0];rfl
  obtain⟨H2,he,ps,⟨x,e1,e2,e3⟩,-,-⟩:=Ov (bb:=11) (H:=Z) a b ha hb
   (fun ps J'=>FQ a b m J'∧J'[10]?=aa (.fj ae)∧J'[11]?=aa (.lp 138 F [P.nat 47] gz gA .ready ab 10)∧12≤J'.length)
   ⟨L.cO kR,rd,rl,by omega⟩
   (fun ps u v ⟨x,e1,e2,e3⟩ K hl=>⟨x.cO fun i hi=>K i (by omega),by rw [K 10 (by omega)];exact e1,by rw [K 11 (by omega)];exact e2,by omega⟩)
   (fun ps p u ⟨x,e1,e2,e3⟩ hl hp=>by
    obtain⟨r,v,f7,rfl,f_,O,k2,k3,k4⟩:=DZ a b ha hb f0 f1 d hp x e1 e2;exact⟨v,f7,⟨f_,O,k2,by omega⟩,k3,fun i h1 h2=>k4 i (by omega) h2⟩)
  rw [s]at he;have e_:Ev tab (.fn 104) [.c (.yl (q.length+1)),.c (.f (.fp a.row 0)),.c (.f (.fp b.row 0))] (q++[.fj ae,.lp 138 F [P.nat 47] gz gA .ready ab q.length]) (.t []) H2:=by rw [l0];exact he
  refine ji (g:=104) (by rw [CV,c_];simp [b5]) e_ ?_;rw [l0];refine kv e2 (by decide) (aw ?_);refine S F _ [10] d ⟨x.cO fun i hi=>by rw [AI (by omega)],⟨by simp,fun i hi=>?_⟩,fun i hi=>?_⟩
  ·rw [asj]at hi;rw [hi,AI (by omega)];exact e1
  ·rw [asj]at hi;rw [hi,ass];omega
 exact⟨X,Y,found,h.eq⟩
def rj(n:Int):Int:=ah .i64 n
def Z'(af:Int)(s:aA)(X Y:aM)(f:Bool):List Int:=if f then [15,s.meet,X.day,rj X.fr,rj (X.to-af),Y.day,rj Y.fr,rj (Y.to-af)]else [15,s.meet,0,0,0,0,0,0]
def gX(af:Int)(x:aA)(mt:aA→Bool)(fx fy:aA→aM)(fd:aA→Bool):List aA→List Int
 | []=>[0,0,0,0,0,0,0,0]| s::r=>if s.meet=x.meet∨mt s=ag then gX af x mt fx fy fd r else Z' af s (fx s) (fy s) (fd s)
theorem EU(af:Int)(s:aA)(X Y:aM)(f:Bool):(Z' af s X Y f).length=8:=by unfold Z';split<;>rfl
theorem od(af:Int)(x:aA)(mt:aA→Bool)(fx fy:aA→aM)(fd:aA→Bool):∀ l,(gX af x mt fx fy fd l).length=8
 | []=>rfl| s::r=>by unfold gX;split;exact od af x mt fx fy fd r;exact EU ..
theorem oc{af:Int}{x:aA}{mt:aA→Bool}{fx fy:aA→aM}{fd:aA→Bool}:∀ {d l:List aA},(∀ s ∈ d,s.meet=x.meet∨mt s=ag)→gX af x mt fx fy fd (d++l)=gX af x mt fx fy fd l
 | [],_,_=>rfl
 | s::r,l,h=>by
  rw [ati,gX,ba (h s asn)];exact oc fun y b=>h y (asm _ b)
structure ClQ(H:aj)(cd:List FC)(own:aT)(J:aj):Prop where
 k:Kp H J
 h1:J[H.length]?=aa (.box [.f (.fp cd 0)] 0)
 h2:J[H.length+1]?=aa (.box (([0,0,0,0,0,0,0,0]:List Int).map fun n=>.f (fi n)) 0)
 h3:J[H.length+2]?=aa (.box [.f (fi 0)] 0)
 h4:J[H.length+3]?=aa (.box (own.row.map .f) 0)
 h5:J[H.length+4]?=aa (.box [.f (.bool ae)] 0)
 cl:fH [H.length+5] J
theorem ClQ.cO{H:aj}{j:List FC}{g:aT}{J J':aj}(h:ClQ H j g J)(m:J.length≤J'.length)(d:∀ i:Nat,i<J.length→i≠H.length+6→J'[i]?=J[i]?):ClQ H j g J':=by
 have q:=an (h.cl.on _ asn);have s:=h.k.1;refine⟨⟨by omega,fun b l=>by rw [d b (by omega) (by omega)];exact h.k.2 b l⟩,?_,?_,?_,?_,?_,⟨h.cl.nd,fun i hi=>?_⟩⟩
 ·rw [d _ (by omega) (by omega)];exact h.h1
 ·rw [d _ (by omega) (by omega)];exact h.h2
 ·rw [d _ (by omega) (by omega)];exact h.h3
 ·rw [d _ (by omega) (by omega)];exact h.h4
 ·rw [d _ (by omega) (by omega)];exact h.h5
 ·rw [asj.1 hi,d _ (by omega) (by omega)];exact h.cl.on _ asn
structure ClT(N:Nat)(t:T):Prop where
 g1:t.g 1=.c (.ptr N 0 0)
 g2:t.g 2=.c (.ptr (N+1) 0 0)
 g3:t.g 3=.c (.ptr (N+2) 0 0)
 g4:t.g 4=.c (.ptr (N+3) 0 0)
 g5:t.g 5=.c (.ptr (N+4) 0 0)
theorem re{J:aj}{b:Nat}{o:aT}(h:J[b]?=aa (.box (o.row.map .f) 0)):aS J (aa 3) (.c (.ptr b 0 0))=aa (.a (o.row.map .f)):=by
 have:(o.row.map C.f).length=3:=rfl;simp [aS,aE,h,aQ,this,aT.row]
theorem A9(af z:Int)(sd:FC)(x:aA)(hx:NM x)(s:aA)(hs:NM s)(A o:aT)
  (ho:bh tab 137 [.c (.f (gd af z)),.a (s.row.map .f)]=Eq (.t [.a (o.row.map .f),vb ae]))
  (m:Bool) (hm:bh tab 25 [.a (A.row.map .f),.a (o.row.map .f)]=Eq (.t [vb m,vi 0]))
  (X Y:aM) (fd:Bool) (hf:bh tab 138 [.a (A.row.map .f),.a (o.row.map .f),vi (-2251799813685248)]=Eq (.t [.a (X.row.map .f),.a (Y.row.map .f),vb fd]))
  {H J:aj} {tm:T} (l:ClT H.length tm) (hq:ClQ H ([gd af z,sd]++x.row) A J)
  (h6:J[H.length+6]?=aa (.lp 79 tm [P.nat 41] fk ey .ready ab (H.length+5))) :
  ∃(r:Bool) (J':aj),Ev tab (.yield (H.length+6)) [.a (s.row.map .f)] J (vb r) J'∧(if r then(s.meet=x.meet∨m=ag)∧ClQ H ([gd af z,sd]++x.row) A J'∧J'[H.length+6]?=J[H.length+6]? else
   ¬ (s.meet=x.meet∨m=ag)∧Kp H J'∧J'[H.length+1]?=aa (.box ((Z' af s X Y fd).map fun n=>.f (fi n)) 0)∧J'[H.length+2]?=aa (.box [.f (fi 0)] 0)∧fH [H.length+5] J' ∧
    J'[H.length+6]?=aa (.lp 79 tm [P.nat 41] fk ey .done (aa .ret) (H.length+5))):=by
 obtain⟨N,hN⟩:=aI (H.length);have y:=tx af z sd x hx.r0 hx.r1;have o_:=mE af z hs.r0 hs.r1;have Z:=fun H:aj=>bC (H:=H) (g:=.fs) (rows:=rows (cR af z)) (sz:=15) (k:=.i64) (i:=s.room) hs.r0 (by simp [cR];have:=hs.r1;omega);have i4:=fun H:aj=>cf (H:=H) (gn (cR af z)) (j:=s.room.toNat) (row:=(cz af z s.room).row) (by rw [rows,asU,o_];rfl);have Pp:=yx af z x.room X;have f7:=yx af z s.room Y;obtain⟨cd,h_⟩:=aI ([gd af z,sd]++x.row);have l0:∀ K:aj,aS K ab (.c (.f (.fp cd 0)))=aa (.c (.f (gd af z))):=fun K=>by rw [h_];rfl
 have l2:∀ K:aj,aS K ab (.c (.f (.fp cd 2)))=aa (vi x.meet):=fun K=>by rw [h_];rfl
 simp only [ez]at y;rw [←h_]at y hq ⊢;obtain⟨rm,t7⟩:=aI (gd af z);change ∀ H:aj,bA H 15 ab (.c (.f (gd af z))) (vi s.room)=_ at Z;change ∀ H:aj,aS H (aa 15) (.c (.f (.fp (rows (cR af z)).flatten _)))=_ at i4;rw [←t7]at l0 Z ho;obtain⟨rx,t9⟩:=aI ((cz af z x.room).row);obtain⟨rs,t8⟩:=aI ((cz af z s.room).row);rw [←t9]at y Pp;rw [←t8]at i4 f7;obtain⟨row,a_⟩:=aI (s.row);have s_:row.length=7:=by rw [a_];rfl
 rw [←a_]at ho ⊢;obtain⟨ow,j4⟩:=aI (A.row);obtain⟨oo,i6⟩:=aI (o.row);have s8:oo.length=3:=by rw [i6];rfl
 obtain⟨xx,j8⟩:=aI (X.row);obtain⟨yy,j_⟩:=aI (Y.row);have j7:xx.length=3:=by rw [j8];rfl
 have j9:yy.length=3:=by rw [j_];rfl
 rw [←i6]at ho hm hf;rw [←j4]at hm hf;rw [←j8]at hf Pp;rw [←j_]at hf f7;obtain⟨LP,n_⟩:∃ LP:eL→Option aF→bq,LP=fun st pd=>.lp 79 tm [P.nat 41] fk ey st pd (N+5):=⟨_,rfl⟩
 rw [←hN]at h6 l ⊢;have cond:∃ q:Bool,(q=ae↔(s.meet=x.meet∨m=ag)):=⟨decide (s.meet=x.meet∨m=ag),by simp⟩
 obtain⟨q,a8⟩:=cond;refine⟨q,?_⟩;obtain⟨r,J',r_,rfl,h⟩:∃ r J',Ev tab (.yield (N+6)) [.a (row.map .f)] J r J'∧(r=vb q∧(if q then ClQ H cd A J'∧J'[N+6]?=J[N+6]? else
   Kp H J'∧J'[N+1]?=aa (.box ((Z' af s X Y fd).map fun n=>.f (fi n)) 0)∧J'[N+2]?=aa (.box [.f (fi 0)] 0)∧fH [N+5] J' ∧
    J'[N+6]?=aa (.lp 79 tm [P.nat 41] fk ey .done (aa .ret) (N+5)))):=by
  have n9:=h6;refine gj (tab:=tab) (b:=N+6) (args:=[.a (row.map .f)]) (H:=J) h6 rfl fun Q' i_=>?_;obtain⟨b6,g_⟩:=aI (J.length);have l6:=an h6;refine al (.inr rfl) ?_;simp [s_];rw [←g_];obtain⟨J1,b9⟩:=aI (J++[bq.box (row.map .f) 0]);rw [←b9];have k1:∀ i:Nat,i<J.length→J1[i]?=J[i]?:=fun i hi=>by rw [b9,AT hi]
  have d1:J1[b6]?=aa (.box (row.map .f) 0):=by rw [b9,g_];simp
  have n1:J1.length=b6+1:=by rw [b9,g_];simp
  have e6:=(k1 _ l6).trans h6;refine mZ e6 ?_;obtain⟨v,F⟩:=aI (J1.set (N+6) (LP .busy ab));have n2:v.length=b6+1:=by rw [F,ass];exact n1
  have k2:∀ i:Nat,i<J.length→i≠N+6→v[i]?=J[i]?:=fun i hi i5=>by rw [F,AI (Ne.symm i5),k1 i hi]
  have q2:ClQ H cd A v:=hq.cO (by omega) fun i hi i5=>k2 i hi (by omega);have d2:v[b6]?=aa (.box (row.map .f) 0):=by rw [F,AI (by omega)];exact d1
  have f6:v[N+6]?=aa (LP .busy ab):=by rw [F];exact IN (an e6)
  rw [n_]at F f6;rw [←F];have f8:∀(t:T) (K:aj),q=ae→v.length≤K.length→(∀ i:Nat,i<v.length→K[i]?=v[i]?)→Q' ab ⟨t,[],K⟩:=by
   intro t K j6 hl I;have p6:K[N+6]?=aa (.lp 79 tm [P.nat 41] fk ey .busy ab (N+5)):=by rw [I _ (by omega)];exact f6
   refine i_ _ _ _ _ _ _ _ _ _ _ rfl p6 ⟨by rw [j6];rfl,?_⟩;rw [ba j6];have n:K.length≥b6+1:=by omega
   refine⟨hq.cO (by show J.length≤(K.set _ _).length;rw [ass];omega) fun i hi i5=>?_,?_⟩
   ·rw [AI (by omega),I i (by omega),k2 i hi (by omega)]
   ·rw [IN (an p6),n9];rfl
  have lc:∀ K:aj,v.length≤K.length→(∀ i:Nat,i<v.length→K[i]?=v[i]?)→aS K ab (.c (.ptr N 0 0))=aa (.c (.f (.fp cd 0)))∧aS K ab (.c (.ptr (N+4) 0 0))=aa (vb ae)∧aS K (aa 3) (.c (.ptr (N+3) 0 0))=aa (.a (ow.map .f))∧aS K (aa 7) (.c (.ptr b6 0 0))=aa (.a (row.map .f))∧aS K ab (.c (.ptr b6 0 0))=aa (vi s.meet)∧aS K ab (.c (.ptr b6 1 0))=aa (vi s.room):=by
   intro K hl I;have y1:=q2.h1;have y4:=q2.h4;have y5:=q2.h5;rw [←hN]at y1 y4 y5;have z1:=(I _ (an y1)).trans y1;have z4:=(I _ (an y4)).trans y4;have z5:=(I _ (an y5)).trans y5;have z6:=(I _ (an d2)).trans d2;rw [j4];rw [a_]at z6 ⊢;exact⟨by simp [aS,aE,z1],by simp [aS,aE,z5],re z4,by simp [aS,aE,z6,aQ,aA.row],by simp [aS,aE,z6,aA.row],by simp [aS,aE,z6,aA.row]⟩
  obtain⟨a1,a2,a3,a4,a5,a6⟩:=lc v (aft _) fun _ _=>rfl;refine aG ?_;apply ak;refine ak (al (.inr rfl) ?_);simp [l.g1,a1,a5,l2,-av];by_cases d_:s.meet=x.meet
  ·rw [decide_eq_true d_];refine aq (by simp) (bR (k':=[]) (by simp [Km.exitTo]) ?_);exact cL (f8 _ _ (a8.2 (.inl d_)) (aft _) (fun _ _=>rfl))
  rw [decide_eq_false d_];refine bp (by simp) ?_;apply ak;refine al (.inr rfl) ?_;simp [l.g1,a1,a4,l0,ho,s8,-av];obtain⟨L,b_⟩:=aI (v++[bq.box (oo.map .f) 0]);rw [←b_];have k3:∀ i:Nat,i<v.length→L[i]?=v[i]?:=fun i hi=>by rw [b_,AT hi]
  have n3:L.length=v.length+1:=by rw [b_];simp
  have d7:L[v.length]?=aa (.box (oo.map .f) 0):=by rw [b_];simp
  obtain⟨b7,q_⟩:=aI (v.length);rw [←q_]at d7 n3 ⊢;have m7:∀ K:aj,K[b7]?=L[b7]?→aS K (aa 3) (.c (.ptr b7 0 0))=aa (.a (oo.map .f)):=fun K h=>by
   rw [i6]at d7 ⊢;exact re (h.trans d7)
  obtain⟨a1,a2,a3,a4,a5,a6⟩:=lc L (by omega) k3;apply ak;refine ak (al (.inr rfl) ?_);simp [l.g5,a2,-av];refine bp (by simp) ?_;refine ak (al (.inr rfl) ?_);simp [l.g4,a3,m7 L rfl,hm,-av];apply ak;refine ak (al (.inr rfl) ?_);simp;refine bp (by simp) ?_;apply ak;refine ak (al (.inr rfl) ?_);simp;cases m with
  | false=>
   refine aq (by simp) (bR (k':=[]) (by simp [Km.exitTo]) ?_);exact cL (f8 _ _ (a8.2 (.inr rfl)) (by omega) k3)
  | true=>
   have j5:q=ag:=by
    cases q with
    | false=>rfl
    | true=>
     rcases a8.1 rfl with h | h
     ·exact absurd h d_
     ·cases h
   refine bp (by simp) ?_;obtain⟨J4,O⟩:=aI (L++[bq.box (([15,s.meet,0,0,0,0,0,0]:List Int).map fun n=>.f (fi n)) 0]);have k4:∀ i:Nat,i<L.length→J4[i]?=L[i]?:=fun i hi=>by rw [O,AT hi]
   have n4:J4.length=L.length+1:=by rw [O];simp
   have i8:J4[L.length]?=aa (.box (([15,s.meet,0,0,0,0,0,0]:List Int).map fun n=>.f (fi n)) 0):=by rw [O];simp
   obtain⟨d,f_⟩:=aI (L.length);simp only [asq,asA]at O;apply ak;refine al (.inr rfl) ?_;simp [a5,-av];rw [←O,←f_];rw [←f_]at i8 n4;obtain⟨c1,c2,c3,c4,c5,c6⟩:=lc J4 (by omega) fun i hi=>(k4 i (by omega)).trans (k3 i hi);obtain⟨B,Q⟩:=aI (J4++[bq.box (xx.map .f) 0,bq.box (yy.map .f) 0]);have k5:∀ i:Nat,i<J4.length→B[i]?=J4[i]?:=fun i hi=>by rw [Q,AT hi]
   have n5:B.length=d+3:=by rw [Q,api,n4];rfl
   have l_:B[d+1]?=aa (.box (xx.map .f) 0):=by rw [Q,IS (by omega),n4];simp
   have m4:B[d+2]?=aa (.box (yy.map .f) 0):=by rw [Q,IS (by omega),n4];simp
   refine ak (ak ?_);refine al (.inr rfl) ?_;simp [l.g4,c3,m7 J4 (k4 _ (by omega)),hf,j7,j9,-av];rw [n4,←Q];clear hm ho hf c1 c2 c3 c4 c5 c6 a1 a2 a3 a4 a5 a6
   suffices go:∀ u:T,ClT N u→u.g 6=.c (.ptr b6 0 0)→u.g 11=.c (.ptr d 0 0)→u.g 12=.c (.ptr (d+1) 0 0)→u.g 13=.c (.ptr (d+1+1) 0 0)→u.g 14=vb fd →
     WP tab 79 (aa (N+6)) [.code xd,.code qd,.inBlock 1] ⟨u,[],B⟩ Q' by
    exact go _ ⟨by simp [l.g1],by simp [l.g2],by simp [l.g3],by simp [l.g4],by simp [l.g5]⟩ (by simp) (by simp) (by simp) (by simp) (by simp)
   clear l;intro u l g6 M m9 m_ n8;have i7:∀ i:Nat,i<v.length→B[i]?=v[i]?:=fun i hi=>(k5 i (by omega)).trans ((k4 i (by omega)).trans (k3 i hi));have E:=(k5 d (by omega)).trans i8;have y2:=q2.h2;have y3:=q2.h3;rw [←hN]at y2 y3;have i9:∀(u:T) (K:aj) (zs:List Int),ClT N u→u.g 11=.c (.ptr d 0 0)→zs.length=8→zs=Z' af s X Y fd→B.length≤K.length→(∀ i:Nat,i<v.length→K[i]?=v[i]?)→K[d]?=aa (.box (zs.map fun n=>.f (fi n)) 0) →
     WP tab 79 (aa (N+6)) [.code qd,.inBlock 1] ⟨u,[],K⟩ Q':=by
    intro u K zs l M hz t_ hl I hb;have l8:aS K (aa 8) (.c (.ptr d 0 0))=aa (.a (zs.map fun n=>.f (fi n))):=by
     have:(zs.map fun n=>C.f (fi n)).length=8:=by simpa using hz
     simp [aS,aE,hb,aQ,hz,arf]
    have z2:=(I _ (an y2)).trans y2;have z3:=(I _ (an y3)).trans y3;obtain⟨K1,S⟩:=aI (K.set (N+1) (.box (zs.map fun n=>.f (fi n)) 0));have s1:de K (.ptr (N+1) 0 0) (zs.map fun n=>.f (fi n))=aa K1:=by
     rw [S]
     match zs,hz with
     | [p0,p1,p2,p3,p4,p5,p6,p7],_=>simp [de,z2,over]
    have k_:K1[N+2]?=aa (.box [.f (fi 0)] 0):=by rw [S,AI (by omega)];exact z3
    obtain⟨K2,U⟩:=aI (K1.set (N+2) (.box [.f (fi 0)] 0));have s2:de K1 (.ptr (N+2) 0 0) [.f (fi 0)]=aa K2:=by rw [U];simp [de,k_,over]
    have kK:∀ i:Nat,i≠N+1→i≠N+2→K2[i]?=K[i]?:=fun i h1 h2=>by rw [U,AI (Ne.symm h2),S,AI (Ne.symm h1)]
    have kl:K2.length=K.length:=by rw [U,S];simp
    have p6:K2[N+6]?=aa (.lp 79 tm [P.nat 41] fk ey .busy ab (N+5)):=by rw [kK _ (by omega) (by omega),I _ (by omega)];exact f6
    refine ak (al (.inr rfl) ?_);simp [M,l.g2,l.g3,l8,hz,s1,s2,-av,-bf];refine aB (i_ _ _ _ _ _ _ _ _ _ _ rfl p6 ⟨by rw [j5];rfl,?_⟩);rw [j5,aX (by simp)];have W:=q2.cl.on _ asn;rw [←hN]at W;refine⟨⟨?_,fun b p_=>?_⟩,?_,?_,⟨by simp,fun i hi=>?_⟩,IN (an p6)⟩
    ·show H.length≤(K2.set _ _).length;rw [ass,kl];have:=q2.k.1;omega
    ·show(K2.set _ _)[b]?=_;rw [AI (by omega),kK _ (by omega) (by omega),I _ (by have:=q2.k.1;omega)];exact q2.k.2 b p_
    ·show(K2.set _ _)[N+1]?=_;rw [AI (by omega),U,AI (by omega),S,←t_];exact IN (an z2)
    ·show(K2.set _ _)[N+2]?=_;rw [AI (by omega),U];exact IN (an k_)
    ·show(K2.set _ _)[i]?=_;rw [asj.1 hi,AI (by omega),kK _ (by omega) (by omega),I _ (an W)];exact W
   refine ak (al (.inr rfl) ?_);simp [n8];cases fd with
   | false=>
    refine bp (by simp) ?_;exact i9 _ B [15,s.meet,0,0,0,0,0,0] ⟨by simp [l.g1],by simp [l.g2],by simp [l.g3],by simp [l.g4],by simp [l.g5]⟩ (by simp [M]) rfl rfl (aft _) i7 E
   | true=>
    refine aq (by simp) ?_;obtain⟨c1,c2,c3,c4,c5,c6⟩:=lc B (by omega) i7;have u5:aS B (aa 3) (.c (.ptr (d+1) 0 0))=aa (.a (xx.map .f)):=by simp [aS,aE,l_,aQ,j7,arf]
    have u6:aS B (aa 3) (.c (.ptr (d+1+1) 0 0))=aa (.a (yy.map .f)):=by simp [aS,aE,m4,aQ,j9,arf]
    simp only [asq,asA]at E;obtain⟨J6,c_⟩:=aI (B.set d (.box [.f (fi 15),.f (fi s.meet),.f (fi X.day),.f (fi (rj X.fr)),.f (fi (rj (X.to-af))),.f (fi 0),.f (fi 0),.f (fi 0)] 0));have s1:de B (.ptr d 2 0) [.f (fi X.day),.f (fi (rj X.fr)),.f (fi (rj (X.to-af)))]=aa J6:=by rw [c_];simp [de,E,over]
    have d6:J6[d]?=aa (.box [.f (fi 15),.f (fi s.meet),.f (fi X.day),.f (fi (rj X.fr)),.f (fi (rj (X.to-af))),.f (fi 0),.f (fi 0),.f (fi 0)] 0):=by rw [c_];exact IN (an E)
    obtain⟨J7,d9⟩:=aI (J6.set d (.box ((Z' af s X Y ae).map fun n=>.f (fi n)) 0));have s2:de J6 (.ptr d 5 0) [.f (fi Y.day),.f (fi (rj Y.fr)),.f (fi (rj (Y.to-af)))]=aa J7:=by rw [d9];simp [de,d6,over,Z']
    have k7:∀ i:Nat,i≠d→J7[i]?=B[i]?:=fun i h=>by rw [d9,AI (Ne.symm h),c_,AI (Ne.symm h)]
    have u_:∀ K:aj,K[N]?=v[N]?→aS K ab (.c (.ptr N 0 0))=aa (.c (.f (.fp cd 0))):=fun K hK=>by
     have y1:=q2.h1;rw [←hN]at y1;simp [aS,aE,hK.trans y1]
    have hw:IntKind.i64.wrap=rj:=rfl;rw [hw]at Pp f7;refine al (.inr rfl) ?_;simp [l.g1,g6,M,m9,m_,c1,c4,c6,l0,y,u5,u6,Pp,f7,Z,i4,s1,s2,-av,-bf];refine i9 _ J7 _ ⟨by simp [l.g1],by simp [l.g2],by simp [l.g3],by simp [l.g4],by simp [l.g5]⟩ (by simp [M]) (EU ..) rfl (by rw [d9,c_];simp) (fun i hi=>by rw [k7 i (by omega)];exact i7 i hi) (by rw [d9];exact IN (an d6))
 refine⟨J',r_,?_⟩;by_cases e_:q=ae
 ·rw [ba e_]at h ⊢;exact⟨a8.1 e_,h⟩
 ·rw [aX e_]at h ⊢;exact⟨fun h'=>e_ (a8.2 h'),h⟩
theorem Z_(af F:Int)(g:Tg)(ss:List aA)(hl:ss.length≤1000)(x:aA)(hx:NM x)(a8:∀ s ∈ ss,NM s)(X:aA→aT)
  (ho:∀ s,s=x∨s ∈ ss→bh tab 137 [.c (.f (gd af F)),.a (s.row.map .f)]=Eq (.t [.a ((X s).row.map .f),vb ae]))
  (mt:aA→Bool) (hm:∀ s ∈ ss,bh tab 25 [.a ((X x).row.map .f),.a ((X s).row.map .f)]=Eq (.t [vb (mt s),vi 0]))
  (fx fy:aA→aM) (fd:aA→Bool) (hf:∀ s ∈ ss,bh tab 138 [.a ((X x).row.map .f),.a ((X s).row.map .f),vi (-2251799813685248)]=Eq (.t [.a ((fx s).row.map .f),.a ((fy s).row.map .f),vb (fd s)])) (H:aj) :
  ∃ H',Ev tab (.fn 79) [.c (.f (ez (gd af F) (sl g (aC ss)) x))] H (.t [rE (gX af x mt fx fy fd (ss.filter fun s=>shB af F s.room x.room)),vi 0]) H'∧Kp H H':=by
 obtain⟨sd,f7⟩:=aI (sl g (aC ss));have f8:=D9 (gd af F) sd x.room;obtain⟨M,v⟩:=aI ([gd af F,sd]++x.row);obtain⟨N,m⟩:=aI (H.length);have l0:∀ K:aj,aS K ab (.c (.f (.fp M 0)))=aa (.c (.f (gd af F))):=fun K=>by rw [v];rfl
 have l1:∀ K:aj,aS K ab (.c (.f (.fp M 1)))=aa (.c (.f sd)):=fun K=>by rw [v];rfl
 have l3:∀ K:aj,aS K ab (.c (.f (.fp M 3)))=aa (vi x.room):=fun K=>by rw [v];rfl
 have l7:∀ K:aj,aS K (aa 7) (.c (.f (.fp M 2)))=aa (.a (x.row.map .f)):=fun K=>by rw [v];rfl
 have c_:=ho x (.inl rfl);have b_:(X x).row.length=3:=rfl;obtain⟨res,A⟩:=aI (gX af x mt fx fy fd (ss.filter fun s=>shB af F s.room x.room));have e_:res.length=8:=by rw [A];exact od ..
 simp only [ez];rw [←f7,←v,←A];obtain⟨r,H',he,rfl,hK⟩:∃ r H',Ev tab (.fn 79) [.c (.f (.fp M 0))] H r H'∧(r=.t [rE res,vi 0]∧Kp H H'):=by
  refine alL (S:=fun r H'=>r=.t [rE res,vi 0]∧Kp H H') akV rfl fun Q hQ=>?_;have a_:∀(t:T) (K:aj) (j:Option aF),ClT N t→Kp H K→fH [N+5] K→K[N+1]?=aa (.box (res.map fun n=>.f (fi n)) 0)→K[N+2]?=aa (.box [.f (fi 0)] 0)→Q j ⟨t,[N+5].map .gM,K⟩:=by
   intro t K j E hk hc I L;have d1:=(iC (hc.not I (by simp))).trans I;have d2:=(iC (hc.not L (by simp))).trans L;refine hQ _ _ (.t [rE res,vi 0]) ⟨[N+5],rfl,hc,?_,rfl,?_⟩
   ·have i5:(res.map fun n=>C.f (fi n)).length=8:=by simpa using e_
    simp [Km.results,cQ,bg,E.g2,E.g3,aS,aE,d1,d2,aQ,e_,arf,rE]
   ·refine⟨by rw [BH];exact hk.1,fun b hb=>?_⟩;rw [iC (by simp;omega)];exact hk.2 b hb
  apply ai;simp;obtain⟨Y,q⟩:=aI (H++[bq.box [.f (.fp M 0)] 0,.box (([0,0,0,0,0,0,0,0]:List Int).map fun n=>.f (fi n)) 0,.box [.f (fi 0)] 0]:aj);have n0:Y.length=N+3:=by rw [q,api,m];rfl
  have k0:∀ i:Nat,i<H.length→Y[i]?=H[i]?:=fun i hi=>by rw [q,AT hi]
  have c0:Y[N]?=aa (.box [.f (.fp M 0)] 0):=by rw [q,m];simp
  have c1:Y[N+1]?=aa (.box (([0,0,0,0,0,0,0,0]:List Int).map fun n=>.f (fi n)) 0):=by rw [q,m,IS (by omega)];simp
  have c2:Y[N+2]?=aa (.box [.f (fi 0)] 0):=by rw [q,m,IS (by omega)];simp
  simp only [asq,asA]at q;rw [←q,←m];have a0:aS Y ab (.c (.ptr N 0 0))=aa (.c (.f (.fp M 0))):=by simp [aS,aE,c0]
  obtain⟨z,B⟩:=aI (Y++[bq.box ((X x).row.map .f) 0,.box [.f (.bool ae)] 0]:aj);have n1:z.length=N+5:=by rw [B,api,n0];rfl
  have k1:∀ i:Nat,i<Y.length→z[i]?=Y[i]?:=fun i hi=>by rw [B,AT hi]
  have c3:z[N+3]?=aa (.box ((X x).row.map .f) 0):=by rw [B,IS (by omega),n0];simp
  have c4:z[N+4]?=aa (.box [.f (.bool ae)] 0):=by rw [B,IS (by omega),n0];simp
  obtain⟨ox,d9⟩:=aI (X x);rw [←d9]at c_ b_ B c3 hm hf;apply ai;simp [a0,l0,l7,c_,b_,-av];rw [n0,←B];have a1:aS z ab (.c (.ptr N 0 0))=aa (.c (.f (.fp M 0))):=by simp [aS,aE,k1 N (by omega),c0]
  refine ak (ai ?_);simp [a1,l0,l1,l3,f8,-av];refine aG ?_
  suffices go:∀ u:T,ClT N u→u.g 40=.c (.f (.fn 199 [.fp [sd] 0,.fp [gd af F] 0,.fp [fi x.room] 0]))→WP tab 79 ab [.code Ac,.inBlock 0,.code xe] ⟨u,[],z⟩ Q by
   exact go _ ⟨by simp,by simp,by simp,by simp,by simp⟩ (by simp)
  intro u E f_;obtain⟨LP,W⟩:∃ LP:eL→Option aF→bq,LP=fun st pd=>.lp 79 u [P.nat 41] fk ey st pd (N+5):=⟨_,rfl⟩
  obtain⟨f,U⟩:=aI (z++[.fj ae,LP .ready ab]);have kR:∀ i:Nat,i<z.length→f[i]?=z[i]?:=fun i hi=>by rw [U,AT hi]
  have q5:f[N+5]?=aa (.fj ae):=by rw [U,IS (by omega),n1];simp
  have q6:f[N+6]?=aa (LP .ready ab):=by rw [U,IS (by omega),n1];simp
  have i6:f.length=N+7:=by rw [U,api,n1];rfl
  have hq:ClQ H M ox f:=⟨⟨by omega,fun b hb=>by rw [kR b (by omega),k1 b (by omega),k0 b hb]⟩,by rw [←m,kR _ (by omega),k1 _ (by omega)];exact c0,by rw [←m,kR _ (by omega),k1 _ (by omega)];exact c1,
   by rw [←m,kR _ (by omega),k1 _ (by omega)];exact c2,by rw [←m,kR _ (by omega)];exact c3,by rw [←m,kR _ (by omega)];exact c4,⟨by simp,fun i hi=>by rw [asj.1 hi,←m];exact q5⟩⟩
  obtain⟨H2,he,k⟩:=Cc (b:=N+6) (H:=f) (PP:=fun d J=>ClQ H M ox J∧J[N+6]?=aa (LP .ready ab)∧∀ s ∈ d,s.meet=x.meet∨mt s=ag)
   (RR:=fun d s J=>(∀ s ∈ d,s.meet=x.meet∨mt s=ag)∧¬ (s.meet=x.meet∨mt s=ag)∧Kp H J∧J[N+1]?=aa (.box ((Z' af s (fx s) (fy s) (fd s)).map fun n=>.f (fi n)) 0)∧J[N+2]?=aa (.box [.f (fi 0)] 0)∧fH [N+5] J∧J[N+6]?=aa (LP .done (aa .ret)))
   (gd af F) g ss hl x.room (fun s=>shB af F s.room x.room) (fun s w=>ah9 af F _ _ (a8 s w).r0 (a8 s w).r1 hx.r0 hx.r1) ⟨hq,q6,by simp⟩
   (fun d J K ⟨I,L,a⟩=>⟨I.cO (by simp) fun i hi _=>by rw [AT hi],by rw [AT (an L)];exact L,a⟩)
   (fun d s J ⟨I,L,a⟩ w=>by
    have b9:=L;rw [W,m]at b9;rw [m]at E;rw [v]at I;obtain⟨r,J',i4,hr⟩:=A9 af F sd x hx s (a8 s w) ox (X s) (ho s (.inr w)) (mt s) (hm s w) (fx s) (fy s) (fd s) (hf s w) E I b9;refine⟨r,J',by rw [m];exact i4,?_⟩;by_cases d_:r=ae
    ·rw [ba d_]at hr ⊢;refine⟨by rw [v];exact hr.2.1,by rw [m,hr.2.2,←m];exact L,fun y hy=>?_⟩;rcases asw.1 hy with h | h
     ·exact a y h
     ·rw [asj.1 h];exact hr.1
    ·rw [aX d_]at hr ⊢;obtain⟨e1,e2,e3,e4,e5,e6⟩:=hr;exact⟨a,e1,e2,by rw [m];exact e3,by rw [m];exact e4,by rw [m];exact e5,by rw [W,m];exact e6⟩)
  rw [←f7]at he;have h_:Ev tab (.fn 199) [.c (.yl (z.length+1)),.c (.f (.fp [sd] 0)),.c (.f (.fp [gd af F] 0)),.c (.f (.fp [fi x.room] 0))] (z++[.fj ae,.lp 79 u [P.nat 41] fk ey .ready ab z.length]) (.t []) H2:=by
   have e:z++[.fj ae,.lp 79 u [P.nat 41] fk ey .ready ab z.length]=f:=by rw [U,W,n1]
   rw [e,n1];exact he
  refine ji (g:=199) (by rw [CV,f_];simp [b5]) h_ ?_;rw [n1];rcases k with⟨I,L,a⟩ | ⟨d,s,rest,g_,a,h4,h5,h6,h7,h8,h9⟩
  ·rw [W]at L;refine kv L (by decide) (aw ?_);have o:res=[0,0,0,0,0,0,0,0]:=by
    rw [A];have:=oc (af:=af) (x:=x) (mt:=mt) (fx:=fx) (fy:=fy) (fd:=fd) (l:=[]) a;rw [as1]at this;rw [this];rfl
   have z1:=I.h2;have z2:=I.h3;have z3:=I.cl;have z4:=I.k;rw [←m]at z1 z2 z3;obtain⟨H3,Z⟩:=aI (H2.set (N+6) (.lp 79 u [P.nat 41] fk ey .exhausted ab (N+5)));have k3:∀ i:Nat,i≠N+6→H3[i]?=H2[i]?:=fun i hi=>by rw [Z,AI (Ne.symm hi)]
   have y1:=(k3 (N+1) (by omega)).trans z1;have y2:=(k3 (N+2) (by omega)).trans z2;have y3:fH [N+5] H3:=by rw [Z];exact z3.set L (by simp)
   have y4:Kp H H3:=by rw [Z];exact z4.lP (by omega) _
   rw [←Z];obtain⟨c,O⟩:=aI (H3.set (N+1) (.box (([0,0,0,0,0,0,0,0]:List Int).map fun n=>.f (fi n)) 0));have w1:c[N+1]?=aa (.box (([0,0,0,0,0,0,0,0]:List Int).map fun n=>.f (fi n)) 0):=by rw [O];exact IN (an y1)
   have w2:c[N+2]?=aa (.box [.f (fi 0)] 0):=by rw [O,AI (by omega)];exact y2
   have w3:fH [N+5] c:=by rw [O];exact y3.set y1 (by simp)
   have w4:Kp H c:=by rw [O];exact y4.lP (by omega) _
   have s1:de H3 (.ptr (N+1) 0 0) [.f (fi 0),.f (fi 0),.f (fi 0),.f (fi 0),.f (fi 0),.f (fi 0),.f (fi 0),.f (fi 0)]=aa c:=by rw [O];simp [de,y1,over]
   have s2:de c (.ptr (N+2) 0 0) [.f (fi 0)]=aa (c.set (N+2) (.box [.f (fi 0)] 0)):=by simp [de,w2,over]
   apply ai;simp [E.g2,E.g3,s1,s2,-bf];refine aB (a_ _ _ _ ⟨by simp [E.g1],by simp [E.g2],by simp [E.g3],by simp [E.g4],by simp [E.g5]⟩ (w4.lP (by omega) _) (w3.set w2 (by simp)) ?_ (IN (an w2)));rw [AI (by omega),o];exact w1
  ·rw [W]at h9;refine pz h9 (by decide) ?_;have p:res=Z' af s (fx s) (fy s) (fd s):=by
    rw [A,g_,oc a,gX,aX h4]
   refine aB (a_ _ _ _ E (h5.lP (by omega) _) (h8.set h9 (by simp)) ?_ ?_)
   ·rw [AI (by omega),p];exact h6
   ·rw [AI (by omega)];exact h7
 exact⟨H',he,hK⟩
def wu(b:aT→Int):Int→List aT→Int
 | tot,[]=>tot| tot,s::r=>wu b (ah .i64 (tot+b s)) r
theorem ai3(af p:Int)(g:Tg)(ss:List aA)(k:ss.length≤1000)(x:aA)(q:Int)(M:aT→Int)
  (n:∀ s ∈ dd x.room x.eH ss,∃ v,bh tab 128 [.a (s.row.map .f),vi q]=Eq (.c (.f v))∧bh tab 202 [.c (.f v)]=Eq (vi (M s))) :
  bh tab 127 [.c (.f (ez (gd af p) (sl g (aC ss)) x)),vi q]=Eq (vi (wu M 0 (dd x.room x.eH ss))):=bh.eq (by
 refine bV rfl rfl fun Q X=>?_;obtain⟨r,Y⟩:=aI (sl g (aC ss));obtain⟨N,l⟩:=aI ([gd af p,r]++x.row);have l1:∀ K:aj,aS K ab (.c (.f (.fp N 1)))=aa (.c (.f r)):=fun K=>by rw [l];rfl
 have h:∀ K:aj,aS K ab (.c (.f (.fp N 3)))=aa (vi x.room):=fun K=>by rw [l];rfl
 have l4:∀ K:aj,aS K ab (.c (.f (.fp N 4)))=aa (vi x.eH):=fun K=>by rw [l];rfl
 obtain⟨c,H1,F,B,-,-⟩:=F4 g ss x.room x.eH k [];have W:(dd x.room x.eH ss).length≤1000:=by
  unfold dd;rw [asi];exact asz (atu _ _) k
 obtain⟨L,U⟩:=aI (dd x.room x.eH ss);obtain⟨res,y⟩:=aI (wu M 0 L);rw [←U]at B n X W;rw [←y]at X;simp only [ez];rw [←Y]at F ⊢;rw [←l];have u:=B.len;rw [wh]at u;apply ai;simp;apply ai;simp;apply ak;apply ai;simp [l1,h,l4,F.eq,u];refine bW L.length (fun j t J=>t.g 1=vi q∧t.g 22=.c c∧LR J c 3 (bQ L)∧∃ m,t.g 5=vi m∧res=wu M m (L.drop j)) (by omega) (by decide) (by decide) (by simp) (by simp) ⟨by simp,by simp,B,0,by simp,by simpa using y⟩ ?_ ?_
 ·rintro j t J I ⟨O,z,B,m,S,H⟩ i hb next
  obtain⟨v,a,f⟩:=n L[j] (anc I);obtain⟨b,ep,i1,o⟩:=B.at (eU L) (j:=j) (by simpa using I);have e:(bQ L)[j]'(by simpa using I)=L[j].row:=by simp [bQ]
  rw [e]at o;rw [arM I,wu]at H;generalize L[j]=s at *;have Z:s.row.length=3:=rfl;have E:=B.push [bq.box (s.row.map .f) 0];obtain⟨w,A⟩:=aI (J++[bq.box (s.row.map .f) 0]);have d:w[J.length]?=aa (.box (s.row.map .f) 0):=by rw [A];simp
  have h:=re d;rw [←A]at E;refine aG ?_;apply ai;simp [z,i,i1,o,Z,-av];rw [←A];refine al (.inl rfl) ?_;simp [O,S,h,a,f,-av];exact aw (next _ _ ⟨by simp [O],by simp [z],E,_,by simp,H⟩ (by simp [i]) (by simp [hb]))
 ·rintro t J ⟨O,z,B,m,S,H⟩ - -;rw [atv,wu]at H;apply ai;simp [S];refine aB (X _ _ ?_);simp [H])
def zY(l:List (Int × C)):List (FC × C):=l.map fun e=>(fi e.1,e.2)
def lkL(k:Int):List (Int × C)→Option C
 | []=>ab| e::b=>if k=e.1 then aa e.2 else lkL k b
def vH(k:Int)(c:C):List (Int × C)→List (Int × C)
 | []=>[(k,c)]| e::b=>if k=e.1 then(k,c)::b else e::vH k c b
theorem E3(a b:Int):eqK .int (fi a) (fi b)=aa (decide (a=b)):=by
 simp only [eqK,if_true];by_cases h:a=b
 ·simp [h]
 ·simp [h]
theorem E_(k:Int):∀ l,mu .int (fi k) (zY l)=aa (lkL k l)
 | []=>rfl
 | e::d=>by
  have b:=E_ k d;simp only [zY,asq,mu,E3,lkL]at b ⊢;by_cases h:k=e.1
  ·rw [ba h,decide_eq_true h]
  ·rw [aX h,decide_eq_false h];exact b
theorem abv(k:Int)(c:C):∀ l,pG .int (fi k) c (zY l)=aa (zY (vH k c l))
 | []=>rfl
 | e::d=>by
  have b:=abv k c d;simp only [zY,asq,pG,E3,vH]at b ⊢;by_cases h:k=e.1
  ·rw [ba h,decide_eq_true h];rfl
  ·rw [aX h,decide_eq_false h];simp only [b];rfl
theorem zv(k:Int)(c:C):∀ l,lkL k (vH k c l)=aa c
 | []=>by simp [vH,lkL]
 | e::b=>by
  have d:=zv k c b;unfold vH;by_cases h:k=e.1
  ·rw [ba h];simp [lkL]
  ·rw [aX h];simp [lkL,h,d]
theorem Fw{J:aj}{m:Nat}{l:List (Int × C)}(b:J[m]?=aa (.map (zY l))){k v:Int}(h:lkL k l=aa (.f (fi v))):fV J .int (fi 0) (.c (.mp m)) (vi k)=aa (vi v):=by
 unfold fV;simp only [b,isKey,if_true,E_,Option.map_some,lkR,qT,h];rfl
def zy(H:aj)(g:CK):V→V→V→Option (V × aj)
 | .c (.mp b),.c (.f k),v=>match oR v,H[b]? with
  | some v,aa (.map d)=>if isKey g k then(pG g k v d).map fun d=>(.top,H.set b (.map d))else ab
  | _,_=>ab
 | _,_,_=>ab
theorem Gb(t:T)(H:aj)(b:CK)(m k v:Arg):bo t H (.iQ b m k v)=zy H b (m.ev t) (k.ev t) (v.ev t):=by
 simp only [bo];unfold zy;split<;>split<;>simp_all
 all_goals (split<;>simp_all)
theorem abd{J:aj}{m:Nat}{l:List (Int × C)}(b:J[m]?=aa (.map (zY l)))(k v:Int):zy J .int (.c (.mp m)) (vi k) (vi v)=aa (.top,J.set m (.map (zY (vH k (.f (fi v)) l)))):=by
 simp [zy,oR,b,isKey,abv]
theorem ai6(t:T)(H:aj):bo t H .jx=aa (.c (.mp H.length),H++[.map []]):=rfl
theorem Cy(t:T)(H:aj)(b:CK)(z:FC)(m k:Arg):bo t H (.lookup b z m k)=(fV H b z (m.ev t) (k.ev t)).map (·,H):=rfl
def yj(b:Int):Int→List aM→Option aM
 | _,[]=>ab| tot,x::r=>if b<ah .i64 (tot+ah .i64 (x.to-x.fr))then aa x else yj b (ah .i64 (tot+ah .i64 (x.to-x.fr))) r
def BZ(b e:Int)(d:Int→List aM)(us:Int→Int):Nat→Int→Option aM
 | 0,_=>ab| k+1,n=>if 7*n<e then(match yj b (us n) (d n)with | some x=>aa x | none=>BZ b e d us k (n+1))else ab
def Pg:Option aM→List Int
 | none=>[0,0,0,0,0,0,0,0]| some x=>[14,0,x.day,x.fr,x.to,0,0,0]
theorem B0(o:Option aM):(Pg o).length=8:=by cases o<;>rfl
theorem abx(af qu:Int)(g:Tg)(ss:List aA)(hl:ss.length≤1000)(x:aA)(h0:0≤x.room)(h1:x.room≤2)(t_:V.beq (.a (x.st.row.map .f)) (.a (x.st.row.map .f))=ae)(d:Nat)(hd:d ∈ uf)
  (g_:bh tab 140 [.c (.f (sl .fs (bQ (dd x.room x.eH ss++[x.st]))))]=Eq (.t [vi (15+7*(d:Int)),vb ae]))
  (F:Int→List aM) (us:Int→Int) (ho:∀ n,-1≤n→n≤100→(F n).length≤10∧∃ g,bh tab 128 [.a (x.st.row.map .f),vi n]=Eq (.c (.f (sl g (aH (F n))))))
  (hu:∀ n,-1≤n→n≤100→bh tab 127 [.c (.f (ez (gd af qu) (sl g (aC ss)) x)),vi n]=Eq (vi (us n))) (H:aj) :
  ∃ H',Ev tab (.fn 80) [.c (.f (ez (gd af qu) (sl g (aC ss)) x))] H (.t [rE (Pg (if(qR x.eH (cz af qu x.room).q).2 then BZ (qR x.eH (cz af qu x.room).q).1 (15+7*(d:Int)) F us 200 (-1)else ab)),vi 0]) H'∧Kp H H':=by
 have B:=aa0 af qu (sl g (aC ss)) x h0 h1;obtain⟨v,j6⟩:=aI ((qR x.eH (cz af qu x.room).q).1);obtain⟨s8,n9⟩:=aI ((qR x.eH (cz af qu x.room).q).2);rw [←j6,←n9]at B ⊢;obtain⟨sd,x_⟩:=aI (sl g (aC ss));obtain⟨cd,b_⟩:=aI ([gd af qu,sd]++x.row);have l1:∀ K:aj,aS K ab (.c (.f (.fp cd 1)))=aa (.c (.f sd)):=fun K=>by rw [b_];rfl
 have l3:∀ K:aj,aS K ab (.c (.f (.fp cd 3)))=aa (vi x.room):=fun K=>by rw [b_];rfl
 have l4:∀ K:aj,aS K ab (.c (.f (.fp cd 4)))=aa (vi x.eH):=fun K=>by rw [b_];rfl
 have l6:∀ K:aj,aS K (aa 3) (.c (.f (.fp cd 6)))=aa (.a (x.st.row.map .f)):=fun K=>by rw [b_];rfl
 obtain⟨res,q⟩:=aI (Pg (if s8 then BZ v (15+7*(d:Int)) F us 200 (-1)else ab));have j8:=fun K=>F4 g ss x.room x.eH hl K;simp only [ez]at B hu ⊢;rw [←x_]at B hu j8 ⊢;rw [←b_]at B hu ⊢;rw [←q];have h60:=zb hd;have y6:x.st.row.length=3:=rfl;obtain⟨L,l_⟩:=aI (dd x.room x.eH ss);have hLl:L.length≤1000:=by
  rw [l_];unfold dd;rw [asi];exact asz (atu _ _) hl
 rw [←l_]at j8 g_;obtain⟨N,hN⟩:=aI (H.length);obtain⟨r,H',he,rfl,Z⟩:∃ r H',Ev tab (.fn 80) [.c (.f (.fp cd 0))] H r H'∧(r=.t [rE res,vi 0]∧Kp H H'):=by
  refine cJ (C:=fun r H'=>r=.t [rE res,vi 0]∧Kp H H') akW rfl fun Q hQ=>?_;have i5:∀(t:T) (K:aj) (j:Option aF),t.g 2=.c (.ptr N 0 0)→t.g 3=vi 0→Kp H K→K[N]?=aa (.box (res.map fun n=>.f (fi n)) 0)→Q j ⟨t,[],K⟩:=by
   intro t K j z g3 hk hb;have x9:res.length=8:=by rw [q];exact B0 _
   refine hQ _ _ (.t [rE res,vi 0]) rfl ?_ ⟨rfl,hk⟩;simp [Km.results,cQ,bg,z,g3,aS,aE,hb,aQ,x9,arf,rE]
  have zero:∀(t:T) (K:aj) (k:List dg),res=[0,0,0,0,0,0,0,0]→t.g 2=.c (.ptr N 0 0)→Kp H K→K[N]?=aa (.box (([0,0,0,0,0,0,0,0]:List Int).map fun n=>.f (fi n)) 0) →
    WP tab 80 ab (.code (.seq xh .ret)::k) ⟨t,[],K⟩ Q:=by
   intro t K k hr z hk hb;simp only [asq,asA]at hb;have s1:de K (.ptr N 0 0) [.f (fi 0),.f (fi 0),.f (fi 0),.f (fi 0),.f (fi 0),.f (fi 0),.f (fi 0),.f (fi 0)]=aa (K.set N (.box [.f (fi 0),.f (fi 0),.f (fi 0),.f (fi 0),.f (fi 0),.f (fi 0),.f (fi 0),.f (fi 0)] 0)):=by simp [de,hb,over]
   apply ai;simp [z,s1,-bf];refine aB ?_;refine i5 _ _ _ ?_ ?_ (hk.lP (by omega) _) ?_
   ·simp [z]
   ·simp
   rw [IN (an hb),hr];rfl
  apply ai;simp;obtain⟨K0,b9⟩:=aI (H++[bq.box (([0,0,0,0,0,0,0,0]:List Int).map fun n=>.f (fi n)) 0]:aj);have k0:Kp H K0:=by rw [b9];exact Kp.push _ _
  have c0:K0[N]?=aa (.box (([0,0,0,0,0,0,0,0]:List Int).map fun n=>.f (fi n)) 0):=by rw [b9,hN];simp
  have n0:K0.length=N+1:=by rw [b9,hN];simp
  simp only [asq,asA]at b9;rw [←b9,←hN];apply ai;simp [B];apply ak;apply ai;simp;cases s8 with
  | false=>
   refine aq (by simp) ?_;have j9:=c0;simp only [asq,asA]at j9;have s1:de K0 (.ptr N 0 0) [.f (fi 0),.f (fi 0),.f (fi 0),.f (fi 0),.f (fi 0),.f (fi 0),.f (fi 0),.f (fi 0)]=aa (K0.set N (.box [.f (fi 0),.f (fi 0),.f (fi 0),.f (fi 0),.f (fi 0),.f (fi 0),.f (fi 0),.f (fi 0)] 0)):=by simp [de,j9,over]
   apply ai;simp [s1,-bf];refine aB ?_;refine i5 _ _ _ ?_ ?_ (k0.lP (by omega) _) ?_
   ·simp
   ·simp
   ·rw [IN (an c0),q];rfl
  | true=>
   simp only [if_true]at q;refine bp (by simp) ?_;obtain⟨c,K1,m9,t9,i4,w_⟩:=j8 K0;have k2:=w_;obtain⟨c',K3,e1,i7,e3,e4⟩:=t9.aqI (eU _) (by decide) (rows':=[x.st.row]) (fun r hr=>by rw [asj.1 hr];rfl) (bytes:=56) (by simp [bY];omega) .fs;have s_:sl .fs [x.st.row]=.fs x.st.row 1:=rfl;rw [s_]at e1;have v_:fcL (x.st.row.map .f)=aa x.st.row:=rfl;have n8:∀ i,bB c'=aa i→K0.length≤i:=fun i hi=>by
    rcases e4 with h | h
    ·exact i4 i (by rw [←h];exact hi)
    ·rw [h]at hi;cases hi;have:=k2.1;omega
   have k3:Kp K0 K3:=by
    refine⟨by have:=e3.1;have:=k2.1;omega,fun i hi=>?_⟩;rw [←k2.2 i hi];have W:i<K1.length:=by have:=k2.1;omega
    rw [By W];exact e3.2 i _ (By W) fun h=>by have:=i4 i h;omega
   have er:bQ L++[x.st.row]=bQ (L++[x.st]):=by simp [bQ]
   rw [er]at i7;obtain⟨g3',i_⟩:=i7.ex (eU _) 63;have j7:bQ (L++[x.st])≠[]:=by simp [bQ]
   rw [abV (g':=.fs) j7]at i_;change eG deep K3 c'=_ at i_;obtain⟨K4,k_⟩:=aI (gu deep c' K3);have k4:Kp K0 K4:=by
    rw [k_];rcases i7.x.mkH 63 with e | ⟨b,ep,fl,z_,h1,h2,h3⟩
    ·change gu deep c' K3=K3 at e;rw [e];exact k3
    ·change gu deep c' K3=_ at h3;rw [h3];exact k3.lP (n8 b h1) _
   refine ak (gb (.inl rfl) ?_ ?_)
   case refine_2=>
    intro cc v8;have u_:cc=(19,14):=by simpa using v8
    subst u_;refine⟨by decide,_,rfl,.inr ⟨by decide,?_⟩⟩;simp [l1,l3,l4,l6,m9.eq,gQ,t_,-av]
   simp [l1,l3,l4,l6,m9.eq,y6,v_,e1,i_,g_,←k_,-av]
   suffices go:∀ u:T,u.g 0=.c (.f (.fp cd 0))→u.g 2=.c (.ptr N 0 0)→u.g 4=vi v→u.g 5=vb ae→u.g 6=vi (15+7*(d:Int))→WP tab 80 ab [.code xf] ⟨u,[],K4⟩ Q by
    exact go _ (by simp) (by simp) (by simp) (by simp) (by simp)
   intro u g0 z X g5 S;have k5:Kp H K4:=k0.tr k4;have c4:K4[N]?=aa (.box (([0,0,0,0,0,0,0,0]:List Int).map fun n=>.f (fi n)) 0):=k4.get c0;have y8:N<K4.length:=an c4;apply ak;apply ai;simp [g5];refine bp (by simp) ?_;obtain⟨m,hm⟩:=aI (K4.length);obtain⟨K5,e_⟩:=aI (K4++[bq.map []]);have m5:K5[m]?=aa (.map (zY [])):=by rw [e_,hm];simp [zY]
   have c5:K5[N]?=aa (.box (([0,0,0,0,0,0,0,0]:List Int).map fun n=>.f (fi n)) 0):=by rw [e_,AT y8];exact c4
   have k6:Kp H K5:=by rw [e_];exact k5.tr (Kp.push _ _)
   apply ai;simp [ai6];rw [←hm,←e_];apply ak;apply ai;simp;refine aG ?_;obtain⟨e,v9⟩:=aI (15+7*(d:Int));rw [←v9]at S q;have heb:e≤435:=by omega
   refine cP (fun k s=>∃(n:Int) (u:T) (K:aj) (l:List (Int × C)),s=⟨u,[],K⟩∧-1≤n∧n+k=199∧u.g 0=.c (.f (.fp cd 0))∧u.g 2=.c (.ptr N 0 0)∧u.g 4=vi v∧u.g 6=vi e∧u.g 7=.c (.mp m)∧u.g 8=vi n∧Kp H K∧m<K.length ∧
    K[N]?=aa (.box (([0,0,0,0,0,0,0,0]:List Int).map fun n=>.f (fi n)) 0)∧K[m]?=aa (.map (zY l))∧res=Pg (BZ v e F us k n)) 200
    ⟨-1,_,K5,[],rfl,by omega,by omega,by simp [g0],by simp [z],by simp [X],by simp [S],by simp,by simp,k6,an m5,c5,m5,q⟩ ?_
   clear q;rintro k s ⟨n,u,K,l,rfl,hn1,hnk,g0,z,X,S,Y,I,Z,x6,hc,f7,q⟩ ih;have p_:m≠N:=by rintro rfl;rw [f7]at hc;cases hc
   apply ak;apply ai;simp [S,I,aU (n:=7*n)];by_cases W:7*n<e
   case neg=>
    refine aD (by simp;omega) (bR rfl ?_);refine zero _ K _ ?_ (by simp [z]) Z hc;rw [q];cases k with
    | zero=>rfl| succ k=>rw [BZ,aX W];rfl
   obtain⟨k,rfl⟩:∃ k',k=k'+1:=⟨k-1,by omega⟩
   rw [BZ,ba W]at q;refine aq (by simp [W]) (aO ?_);apply ak;refine aG ?_;obtain⟨x8,gO,f8⟩:=ho n (by omega) (by omega);have r_:=hu n (by omega) (by omega);obtain⟨O,hO⟩:=aI (F n);obtain⟨U,hU⟩:=aI (us n);rw [←hO]at x8 f8 q;rw [←hU]at r_ q;have c_:∀(w:T) (K':aj) (l':List (Int × C)),res=Pg (BZ v e F us k (n+1))→w.g 0=.c (.f (.fp cd 0))→w.g 2=.c (.ptr N 0 0)→w.g 4=vi v→w.g 6=vi e→w.g 7=.c (.mp m)→w.g 8=vi n→Kp H K'→K'[m]?=aa (.map (zY l'))→K'[N]?=aa (.box (([0,0,0,0,0,0,0,0]:List Int).map fun n=>.f (fi n)) 0) →
     WP tab 80 ab [.code qf,.inLoop qe,.inBlock 0,.code qh] ⟨w,[],K'⟩ Q:=by
    intro w K' l' hr g0 z X S Y I t7 E u5;refine al (.inl rfl) ?_;simp [I,aU (n:=n+1)];exact ih k _ (by omega) ⟨n+1,_,K',l',rfl,by omega,by omega,by simp [g0],by simp [z],by simp [X],by simp [S],by simp [Y],by simp,t7,an E,u5,E,hr⟩
   apply ai;simp [g0,I,l6,f8,-av];apply ak;apply ai;have h_:∀ J:aj,bt J (.f (sl gO (aH O)))=aa O.length:=fun J=>by simp
   simp [h_];by_cases i8:O=[]
   ·refine aq (by simp [i8]) (bR (k':=[.code qf,.inLoop qe,.inBlock 0,.code qh]) (by simp [Km.exitTo]) ?_);rw [i8]at q;exact c_ _ K l q (by simp [g0]) (by simp [z]) (by simp [X]) (by simp [S]) (by simp [Y]) (by simp [I]) Z f7 hc
   refine bp (by simp [i8]) ?_;apply ai;simp [g0,Y,I,r_,Gb,abd f7];obtain⟨K1,d_⟩:=aI (K.set m (.map (zY (vH n (.f (fi U)) l))));have w1:K1[m]?=aa (.map (zY (vH n (.f (fi U)) l))):=by rw [d_];exact IN x6
   have w2:K1[N]?=aa (.box (([0,0,0,0,0,0,0,0]:List Int).map fun n=>.f (fi n)) 0):=by rw [d_,AI p_];exact hc
   have o_:H.length≤m:=by rw [hm];exact k5.1
   have w3:Kp H K1:=by rw [d_];exact Z.lP o_ _
   rw [←d_];apply ai;simp [h_];have M:=fun(j:Nat) (hj:j<O.length) (H:aj)=>bC (H:=H) (g:=gO) (rows:=aH O) (sz:=3) (k:=.i64) (i:=(j:Int)) (by omega) (by simp;omega);refine bW O.length (fun j t J=>t.g 0=.c (.f (.fp cd 0))∧t.g 2=.c (.ptr N 0 0)∧t.g 4=vi v∧t.g 6=vi e∧t.g 7=.c (.mp m)∧t.g 8=vi n∧t.g 71=.c (.f (sl gO (aH O)))∧Kp H J∧J[N]?=aa (.box (([0,0,0,0,0,0,0,0]:List Int).map fun n=>.f (fi n)) 0) ∧
    ∃ l' d9,J[m]?=aa (.map (zY l'))∧lkL n l'=aa (.f (fi d9))∧yj v U O=yj v d9 (O.drop j)) (by omega) (by decide) (by decide) (by simp) (by simp)
    ⟨by simp [g0],by simp [z],by simp [X],by simp [S],by simp [Y],by simp [I],by simp,w3,w2,_,U,w1,zv _ _ _,by simp⟩ ?_ ?_
   ·clear g0 z X S Y I w1 w2 w3 hc Z f7;rintro j t J hj ⟨g0,z,X,S,Y,I,i6,Z,hc,l',d9,E,m_,A⟩ ha hb next
    have q_:=fun H:aj=>cf (H:=H) (bz O) (gl hj);have M:=M j hj;simp only [asy]at M;rw [arM hj,yj]at A;generalize O[j]=y at *;have y7:y.row.length=3:=rfl;obtain⟨J1,a8⟩:=aI (J++[bq.box (y.row.map .f) 0]);have d1:J1[J.length]?=aa (.box (y.row.map .f) 0):=by rw [a8];simp
    have y1:∀ K:aj,K[J.length]?=J1[J.length]?→aS K ab (.c (.ptr J.length 1 0))=aa (vi y.fr)∧aS K ab (.c (.ptr J.length 2 0))=aa (vi y.to)∧aS K (aa 3) (.c (.ptr J.length 0 0))=aa (.a [.f (fi y.day),.f (fi y.fr),.f (fi y.to)]):=fun K Z=>by
     refine⟨?_,?_,?_⟩<;>simp [aS,aE,Z.trans d1,aQ,aM.row]
    have j5:J1[m]?=aa (.map (zY l')):=by rw [a8,AT (an E)];exact E
    have u6:J1[N]?=aa (.box (([0,0,0,0,0,0,0,0]:List Int).map fun n=>.f (fi n)) 0):=by rw [a8,AT (an hc)];exact hc
    have t8:Kp H J1:=by rw [a8];exact Z.tr (Kp.push _ _)
    refine aG ?_;apply ai;simp [i6,ha,M,q_,y7,-av];rw [←a8];obtain⟨y_,z8,-⟩:=y1 J1 rfl;obtain⟨T1,m4⟩:=aI (ah .i64 (d9+ah .i64 (y.to-y.fr)));rw [←m4]at A;obtain⟨J2,a_⟩:=aI (J1.set m (.map (zY (vH n (.f (fi T1)) l'))));have n_:J2[m]?=aa (.map (zY (vH n (.f (fi T1)) l'))):=by rw [a_];exact IN (an j5)
    have i9:J2[N]?=aa (.box (([0,0,0,0,0,0,0,0]:List Int).map fun n=>.f (fi n)) 0):=by rw [a_,AI p_];exact u6
    have j_:Kp H J2:=by rw [a_];exact t8.lP o_ _
    have j7:m≠J.length:=by have:=an E;omega
    apply ai;simp [Y,I,Cy,Fw j5 m_,y_,z8,←m4,Gb,abd j5,←a_,-av];apply ai;simp [X,Y,I,Cy,Fw n_ (zv _ _ _)];by_cases j4:v<T1
    ·rw [ba j4]at A;rw [A]at q;refine aq (by simp [j4]) ?_;have f_:=i9;simp only [asq,asA]at f_;have s1:de J2 (.ptr N 0 0) [.f (fi 14),.f (fi 0),.f (fi y.day),.f (fi y.fr),.f (fi y.to),.f (fi 0),.f (fi 0),.f (fi 0)]=aa (J2.set N (.box [.f (fi 14),.f (fi 0),.f (fi y.day),.f (fi y.fr),.f (fi y.to),.f (fi 0),.f (fi 0),.f (fi 0)] 0)):=by simp [de,f_,over]
     obtain⟨-,-,z9⟩:=y1 J2 (by rw [a_,AI j7]);apply ai;simp [z,z9,s1,-av,-bf];refine aB ?_;refine i5 _ _ _ ?_ ?_ (j_.lP (by omega) _) ?_
     ·simp [z]
     ·simp
     ·rw [IN (an i9),q];rfl
    ·rw [aX j4]at A;refine aD (by simp;omega) (aO ?_);exact aw (next _ _ ⟨by simp [g0],by simp [z],by simp [X],by simp [S],by simp [Y],by simp [I],by simp [i6],j_,i9,_,T1,n_,zv _ _ _,A⟩ (by simp [ha]) (by simp [hb]))
   ·rintro t J ⟨g0,z,X,S,Y,I,i6,Z,hc,l',d9,E,m_,A⟩ - -;rw [atv,yj]at A;rw [A]at q;exact aw (c_ _ J l' q (by simp [g0]) (by simp [z]) (by simp [X]) (by simp [S]) (by simp [Y]) (by simp [I]) Z E hc)
 exact⟨H',he,Z⟩
theorem alz(g:Tg)(ss:List aA)(x:aA)(hl:ss.length≤1000)(hs:ss.Pairwise ku) :
  ∃(i:Nat) (w:Bool),(w=ae↔∃ y ∈ ss,dC y x=ae)∧bh tab 119 [.c (.f (sl g (aC ss))),.a (x.row.map .f),.c (.f (.fn 115 []))]=Eq (.t [vi i,vb w]):=by
 obtain⟨rows,d⟩:=aI (aC ss);obtain⟨s,L⟩:∃ s:List FC→Int,∀ y:aA,s y.row=oU y x:=⟨fun r=>match r with | .int _ a::.int _ b::_=>BI [ef a x.meet,ef b x.room] | _=>0,fun y=>by simp [aA.row,oU]⟩
 have c_:rows.length=ss.length:=by rw [d];simp [aC]
 have W:∀ r ∈ rows,∃ y ∈ ss,r=y.row:=fun r hr=>by
  rw [d]at hr;obtain⟨y,hy,rfl⟩:=asH.1 hr;exact⟨y,hy,rfl⟩
 have hg:cC 7 rows:=by rw [d];exact bw ss
 have Y:∀ y:aA,(oU y x<0↔ku y x)∧(0<oU y x↔ku x y):=fun y=>by
  unfold oU ku;simp only [BI,ef];refine⟨?_,?_⟩
  ·repeat' split
   all_goals omega
  ·repeat' split
   all_goals omega
 have B:∀(i:Nat) (h:i<rows.length),rows[i]=(ss[i]'(by omega)).row:=fun i h=>by
  subst d;simp [aC]
 have hp:∀(i j:Nat) (hi:i<j) (v:j<rows.length),0≤s rows[i]→0<s rows[j]:=fun i j hi v h=>by
  rw [B,L]at h ⊢;rw [(Y _).2];have h1:¬ ku (ss[i]'(by omega)) x:=fun h'=>by have:=(Y _).1.2 h';omega
  have h2:ku (ss[i]'(by omega)) (ss[j]'(by omega)):=as0.1 hs i j (by omega) (by omega) hi;unfold ku at *;omega
 have z:∀ y:aA,s y.row=0↔dC y x=ae:=fun y=>by
  rw [L];unfold oU;simp only [BI,ef,dC]
  repeat' split
  all_goals simp
  all_goals omega
 obtain⟨i,h1,h2,O,w,h4,h⟩:∃ i:Nat,i≤rows.length∧(∀ j (v:j<rows.length),j<i→s rows[j]<0)∧(∀ j (v:j<rows.length),i≤j→0≤s rows[j]) ∧
   ∃ w:Bool,(w=ae↔∃ h:i<rows.length,s rows[i]=0)∧bh tab 119 [.c (.f (sl g rows)),.a (x.row.map .f),.c (.f (.fn 115 []))]=Eq (.t [vi i,vb w]):=by
  obtain⟨r,⟨i,h1,h2,O,w,h4,rfl⟩,h⟩:∃ r,(∃ i:Nat,i≤rows.length∧(∀ j (v:j<rows.length),j<i→s rows[j]<0)∧(∀ j (v:j<rows.length),i≤j→0≤s rows[j])∧∃ w:Bool,(w=ae↔∃ h:i<rows.length,s rows[i]=0)∧r=.t [vi i,vb w]) ∧
    bh tab 119 [.c (.f (sl g rows)),.a (x.row.map .f),.c (.f (.fn 115 []))] r:=by
   refine fg rfl rfl fun Q hQ=>?_;have ask:∀(q:Nat) (hq:q<rows.length) (H:aj),∃ J,bA H 7 ab (.c (.f (sl g rows))) (vi q)=aa (.c (.f (.fp rows.flatten (q*7))))∧aS H (aa 7) (.c (.f (.fp rows.flatten (q*7))))=aa (.a (rows[q].map .f))∧Ev tab (.fn 115) [.a (rows[q].map .f),.a (x.row.map .f)] H=E2 (vi (s rows[q])) (H++J):=by
    intro q hq H;obtain⟨y,hy,e⟩:=W rows[q] (anc hq);obtain⟨J,c3⟩:=EW y x H;have hi:=bC (H:=H) (g:=g) (rows:=rows) (sz:=7) (k:=.i64) (i:=(q:Int)) (by omega) (by omega);rw [asy]at hi;refine⟨J,hi,cf hg (By hq),?_⟩;rw [e,L];exact c3.eq
   apply ai;simp [aA.row];apply ai;simp;apply ai;simp;apply ak;refine aG ?_;refine cP (fun m s'=>∃(lo hi:Nat) (t:T) (H:aj),s'=⟨t,[],H⟩∧m=hi-lo∧lo≤hi∧hi≤rows.length∧t.g 0=.c (.f (sl g rows))∧t.g 4=.c (.ptr 0 0 0)∧H[0]?=aa (.box (x.row.map .f) 0)∧t.g 2=.c (.f (.fn 115 []))∧t.g 8=vi rows.length∧t.g 9=vi lo∧t.g 10=vi hi ∧
    (∀ j (v:j<rows.length),j<lo→s rows[j]<0)∧(∀ j (v:j<rows.length),hi≤j→0≤s rows[j])) rows.length
    ⟨0,rows.length,_,_,rfl,by omega,by omega,by omega,by simp,by simp,rfl,by simp,by simp,by simp,by simp,by simp,by intros;omega⟩ ?_
   rintro m s' ⟨lo,hi,t,H,rfl,rfl,b_,S,g0,g4,M,Z,g8,N,A,I,E⟩ next
   have lx:∀ K:aj,K[0]?=H[0]?→aS K (aa 7) (.c (.ptr 0 0 0))=aa (.a (x.row.map .f)):=fun K hK=>by simp [aS,aE,hK.trans M,aQ,aA.row]
   apply ak;apply ai;simp [N,A];by_cases a_:lo<hi
   ·refine aq (by simp [a_]) (aO ?_);obtain⟨q,hq⟩:=aI ((lo+hi) / 2);have U:q<rows.length:=by omega
    have e1:dq BinOp.shr (V.c (C.f (FC.int IntKind.u64 (IntKind.u64.wrap ((lo:Int)+hi))))) (V.c (C.f (FC.int IntKind.u64 1)))=aa (.c (.f (.int .u64 (q:Int)))):=by
     have:IntKind.u64.wrap ((lo:Int)+hi)=(lo:Int)+hi:=by
      show((lo:Int)+hi) % 18446744073709551616=_;omega
     rw [this];show aa (V.c (C.f (FC.int IntKind.u64 (Int.fdiv ((lo:Int)+hi) (2 ^ (min (1:Int).toNat IntKind.u64.bits))))))=_;have O:Int.fdiv ((lo:Int)+hi) (2 ^ (min (1:Int).toNat IntKind.u64.bits))=q:=by
      show Int.fdiv ((lo:Int)+hi) 2=q;rw [Int.fdiv_eq_ediv_of_nonneg _ (by omega)];omega
     rw [O]
    have hw:=aU (n:=(lo:Int)+hi);have b9:ah .i64 (q:Int)=q:=aU;obtain⟨J,i1,l1,he⟩:=ask q U H;refine aG ?_;apply ai;simp [N,A,hw,e1,b9];apply ai;have X:(H++J)[0]?=aa (.box (x.row.map .f) 0):=by rw [AT (an M)];exact M
    simp [g0,g4,Z,i1,l1,lx H rfl,b5,he,-av];by_cases hc:s rows[q]<0
    ·refine aq (by simp [hc]) ?_;refine al (.inl rfl) ?_;simp [aU (n:=(q:Int)+1)];refine aw (next (hi-(q+1)) _ (by omega) ⟨q+1,hi,_,_,rfl,rfl,by omega,by omega,by simp [g0],by simp [g4],X,by simp [Z],by simp [g8],by simp,by simp [A],fun j v h=>?_,E⟩);rcases Int.lt_or_le (s rows[j]) 0 with l | l
     ·exact l
     ·by_cases e:j=q
      ·subst e;exact hc
      ·have:=hp j q (by omega) U l;omega
    ·refine aD (by simp [hc]) ?_;refine al (.inl rfl) ?_;simp;refine aw (next (q-lo) _ (by omega) ⟨lo,q,_,_,rfl,rfl,by omega,by omega,by simp [g0],by simp [g4],X,by simp [Z],by simp [g8],by simp [N],by simp,I,fun j v h=>?_⟩);by_cases e:j=q
     ·subst e;omega
     ·have:=hp q j (by omega) v (by omega);omega
   ·have:lo=hi:=by omega
    subst this;refine aD (by simp) ?_;refine bR rfl ?_;apply ai;by_cases u:lo<rows.length
    ·obtain⟨J,i1,l1,he⟩:=ask lo u H;simp [g0,g4,Z,g8,N,u,i1,l1,lx H rfl,b5,he,-av];refine aB (hQ _ _ _ ⟨lo,S,I,E,decide (s rows[lo]=0),by simp [u],rfl⟩ ?_);simp
    ·simp [g8,N,u];refine aB (hQ _ _ _ ⟨lo,S,I,E,ag,by simp [u],rfl⟩ ?_);simp
  exact⟨i,h1,h2,O,w,h4,h.eq⟩
 subst d;refine⟨i,w,?_,h⟩;rw [h4];constructor
 ·rintro⟨hi,e⟩;rw [B i hi,z]at e;exact⟨_,anc _,e⟩
 ·rintro⟨y,hy,e⟩;obtain⟨j,v,rfl⟩:=List.getElem_of_mem hy;have F:j<(aC ss).length:=by omega
  have e0:s (aC ss)[j]=0:=by rw [B j F,z];exact e
  have a8:i≤j:=by
   rcases asS j i with l | l
   ·have:=h2 j F l;omega
   ·exact l
  have hi:i<(aC ss).length:=by omega
  refine⟨hi,?_⟩;rcases Nat.lt_or_eq_of_le a8 with l | l
  ·have:=O i hi (aft _);have:=hp i j l F this;omega
  ·subst l;exact e0
def jM(af b:Int)(ss:List aA)(x:aA):Bool:=ry (cR af b) ss&&iO 3 x
def lD(ss:List aA)(x:aA):Bool:=ss.any fun y=>dC y x
theorem amq(af g:Int):∀ r ∈ cR af g,kP r:=by
 have h:bh tab 190 [FA]=Eq (vi 0):=fX.2.2.2.2.2.2.2.2;intro r d;have b:r.op=ei.map .f:=by
  simp only [cR,asv,atc,or_false]at d;rcases d with rfl | rfl | rfl<;>rfl
 show bh tab 190 [.a r.op] (vi 0);rw [b];show bh tab 190 [FA] (vi 0);rw [h]
theorem ES(af l:Int)(g:Tg)(ss:List aA)(J:ss.length≤1000)(M:ss.Pairwise ku)(L:∀ s ∈ ss,s.st.Sm)(x:aA)(O:x.st.Sm) :
  bh tab 64 [.c (.f (gd af l)),.c (.f (sl g (aC ss))),.a (x.row.map .f)] =
   Eq (.t (if jM af l ss x then [.c (.f (ez (gd af l) (sl g (aC ss)) x)),vb (!lD ss x)]else [.c (.f .ny),vb ag])):=bh.eq (by
 refine bV rfl rfl fun Q q=>?_;have b:=(ahQ .fs g (cR af l) ss (show(3:Nat)≤6 by decide) (amq af l) (by omega) L).eq;have d:=(Ci .fs (cR af l) x (show(3:Nat)≤6 by decide) O).eq;obtain⟨i,w,N,y⟩:=alz g ss x J M;have I:w=lD ss x:=by
  rw [Bool.eq_iff_iff,N,lD,List.any_eq_true]
 rw [←I]at q;have A:x.row.length=7:=rfl;change bh tab 59 [.c (.f (gd af l)),_]=_ at b;change bh tab 114 [.c (.f (gd af l)),_]=_ at d;have z:(cR af l).length=3:=rfl;rw [z]at d;obtain⟨U,H⟩:=aI (sl g (aC ss));obtain⟨S,F⟩:=aI (gd af l);simp only [ez]at q;rw [←H]at b y q ⊢;rw [←F]at b d q ⊢;have E:∀ K:aj,K[0]?=aa (.box (x.row.map .f) 0)→aS K (aa 7) (.c (.ptr 0 0 0))=aa (.a (x.row.map .f)):=fun K h=>by simp [aS,aE,h,aQ,aA.row]
 apply ai;simp [A];obtain⟨u,v⟩:=aI ([bq.box (x.row.map .f) 0]:aj);have B:u[0]?=aa (.box (x.row.map .f) 0):=by rw [v];rfl
 rw [←v];apply ak;apply ai;cases j:ry (cR af l) ss with
 | false=>
  rw [j]at b;simp [b];refine aq (by simp) ?_;apply ai;simp;refine aB (q _ _ ?_);simp [Km.results,bg,jM,j]
 | true=>
  rw [j]at b;cases m:iO 3 x with
  | false=>
   rw [m]at d;simp [b,E u B,d,-av];refine aq (by simp) ?_;apply ai;simp;refine aB (q _ _ ?_);simp [Km.results,bg,jM,j,m]
  | true=>
   rw [m]at d;simp [b,E u B,d,-av];refine bp (by simp) ?_;apply ai;simp [E u B,y,-av];apply ai;simp [E u B,A,-av];refine aB (q _ _ ?_);simp [Km.results,bg,jM,j,m,iV,cK,deep,eG,aA.row])
def cE(h:dv)(x:bl):Int:=if eF h=ag∨x.id<1∨x.state≠1∨mr x.dl=ag then 1 else if(mc x.id h.l).isSome then 5 else if x.dl<h.clock then 17 else 0
def lM:List C:=[.f (fi 0),.f (fi 0),.f (fi 0),.f (fi 0),.f (fi 0),.f (fi 0),.f (fi 0),.f (fi 0)]
def B7(b:List Int):List C:=b.map fun n=>.f (fi n)
theorem LR.added{H:aj}{c:C}{sz:Nat}{rows:List (List FC)}(h:LR H c sz rows)(hg:cC sz rows):cX H sz (.c c)=aa (rows.length,rows.flatten.map .f):=by
 rcases h with⟨rfl,rfl | rfl⟩ | ⟨j,b,ep,rfl,h2⟩
 ·simp [cX,bt,cS]
 ·simp [cX,bt,cS]
 ·have g:=h2.len (o:=0) (l:=rows.length) (c:=0);unfold RB at h2;have d:rows.length*sz=rows.flatten.length:=(ct hg).symm;have hc:cS H sz (.sl b 0 rows.length 0 ep sz)=aa (rows.flatten.map .f):=by
   simp only [cS,h2];rw [ba ⟨trivial,trivial,by rw [asi,d];omega⟩,List.drop_zero,arf (by rw [asi,d];exact aft _)]
  simp only [cX,g,hc]
theorem LR.mkB{H:aj}{c:C}{sz:Nat}{rows:List (List FC)}(h:LR H c sz rows)(hg:cC sz rows)(n:Nat){i:Nat}{cs:List C}{fl:Nat}(hi:H[i]?=aa (.box cs fl)):(gu (n+1) c H)[i]?=aa (.box cs fl):=by
 have g:=h.ot hi;rcases h with⟨_,rfl | rfl⟩ | ⟨j,b,ep,rfl,h2⟩
 ·exact hi
 ·exact hi
 ·unfold RB at h2;have e:∃ y,gu (n+1) (.sl b 0 rows.length 0 ep sz) H=H.set b y:=by
   refine⟨.cj sz (rows.flatten.map .f) (Nat.max 0 (0+rows.length*sz)) ep .loc,?_⟩;simp only [pF,h2];rw [tj];intro x d;have d:=List.mem_of_mem_drop (List.mem_of_mem_take d);obtain⟨m,_,rfl⟩:=asH.1 d;exact⟨_,rfl⟩
  obtain⟨y,e⟩:=e;have:b≠i:=by rintro rfl;exact g rfl
  rw [e,AI this];exact hi
theorem aiZ:tab.get fA=ab:=by kernel_rfl
theorem EY{sz:Nat}:∀ {rows:List (List FC)} (i:Nat),cC sz rows→i≤rows.length→rows.flatten.take (i*sz)=(rows.take i).flatten∧rows.flatten.drop (i*sz)=(rows.drop i).flatten
 | rows,0,_,_=>by simp
 | [],i+1,_,h=>by simp at h
 | r::rows,i+1,b,h=>by
  have d:r.length=sz:=b r asn;obtain⟨g,j⟩:=EY (rows:=rows) i (fun x l=>b x (asm _ l)) (by simpa using h);simp only [List.flatten_cons,List.take_succ_cons,List.drop_succ_cons];rw [Nat.succ_mul,Nat.add_comm,←d,List.take_append,List.drop_append];simp only [Nat.add_sub_cancel_left,arf (Nat.le_add_right _ _),ato (Nat.le_add_right _ _)];rw [d,g,j];simp
theorem aas{f:Nat}{args:List V}{H H':aj}{r:V}(b:f=fA)(h:OL args H=aa (r,H')):Ev tab (.fn f) args H r H':=by
 subst b;refine⟨0,1,?_⟩;have d:tab.rD fA args H=aa (aa (r,H')):=by
  show(match tab.get fA with | some _=>ab | none=>Km.rD fA args H)=_;rw [aiZ];simp [rD,h]
 simp only [CF,eI,d]
theorem OO{K:aj}{c:C}{rows:List (List FC)}(v:LR K c 10 rows)(z:cC 10 rows)(S:rows.length≤1000){i:Nat}(hi:i≤rows.length){row:List FC}(d:row.length=10){vb:Nat}(F:K[vb]?=aa (.box (row.map .f) 0)) :
  ∃ m s,Ev tab (.fn 1000000000) [.c c,vi i,.c (.sl vb 0 1 1 0 10)] K (.c m) s∧LR s m 10 (rows.take i++row::rows.drop i)∧Kb K s c∧(bB m=bB c∨bB m=aa K.length):=by
 have l:cX K 10 (.c (.sl vb 0 1 1 0 10))=aa (1,row.map .f):=qp F (by simp [d]);rcases asS i rows.length with B | M
 ·rcases v with⟨rfl,_⟩ | ⟨O,b,ep,rfl,u⟩
  ·simp at B
  ·have g:=u;unfold RB at g;have x:rows.flatten.length=rows.length*10:=ct z;obtain⟨H,I⟩:=EY i z hi;refine⟨.sl b 0 (rows.length+1) 0 (ep+1) 10,K.set b (.cj 10 (((rows.take i++row::rows.drop i).flatten).map .f) 0 (ep+1) .loc),aas rfl ?_,.inr ⟨by simp,b,ep+1,?_,?_⟩,⟨by simp,fun j y Q E=>?_⟩,.inl rfl⟩
   ·have N:bt K (.sl b 0 rows.length 0 ep 10)=aa rows.length:=by simp [bt,g]
    simp only [OL,N,l];rw [aX (by omega)];simp only [zJ,g,F];rw [ba ⟨trivial,trivial,trivial,trivial,trivial,by rw [asi];exact x,trivial,by omega,by omega,by omega,by simp [d]⟩]
    congr 4
    rw [asy,←List.map_take,←List.map_drop,H,I];simp
   ·congr 1
    simp only [api,ast,asX,asr];omega
   ·unfold RB;exact IN (an g)
   ·have:b≠j:=by rintro rfl;exact E rfl
    rw [AI this];exact Q
 ·have A:i=rows.length:=by omega
  subst A;obtain⟨m,H',q,J,u,L⟩:=v.app z (by decide) d (bytes:=112) (mD (by omega) (by decide)) F;refine⟨m,H',aas rfl ?_,by rw [asK,atv];exact J,u,L⟩;simp only [OL,v.len,l];rw [ba trivial];exact q
theorem vU{H:aj}{i:Nat}{y:bq}(h:H[i]?=aa y):H.set i y=H:=by
 obtain⟨b,e⟩:=List.getElem?_eq_some_iff.1 h;rw [←e];exact List.set_getElem_self b
def mN:List Int:=[0,0,0,0,0,0,0,0]
def nX(h:dv)(x:bl)(l:List Int)(b:Int)(res:dv)(d:List Int)(c:Int):Prop:=
 (cE h x≠0∧res=gq∧d=mN∧c=cE h x)∨(cE h x=0∧b≠0∧res=gq∧d=mN∧c=b) ∨
  (cE h x=0∧b=0∧c=0∧d=l∧∃ g,(l[0]?≠aa 0∧res = { h with lg:=g })∨(l[0]?=aa 0∧∃ i,i≤h.l.length∧(∀ j (m:j<h.l.length),j<i→h.l[j].id<x.id)∧(∀ j (m:j<h.l.length),i≤j→x.id<h.l[j].id)∧res=⟨h.clock,h.bZ,g,h.l.take i++x::h.l.drop i⟩))
theorem uD(h:dv)(hk:nq h)(rm:FC)(g0:Tg)(l0:List aA)(h0:kd l0)(hl0:l0.length≤3)(x:bl)(hx:Fix x.bc)(n8:∀ y ∈ h.l,Fix y.bc)(rf:List Int)(B:Int)(z8:rf.length=8)
  (E:cE h x=0→∀ g,bh tab 44 [.c (.f rm),.c (.f (sl g (aC (nZ l0 h)))),.a (x.bc.row.map .f)]=Eq (.t [.a (B7 rf),vi B])) :
  ∃ res Y c,nX h x rf B res Y c∧bh tab 16 [.a (h.row.map .f),.c (.f rm),.c (.f (sl g0 (aC l0))),.a (x.row.map .f)]=Eq (.t [.a (res.row.map .f),.a (B7 Y),vi c]):=by
 obtain⟨v,⟨res,Y,c,hG,rfl⟩,hp⟩:∃ v,(∃ res Y c,nX h x rf B res Y c∧v=.t [.a (res.row.map .f),.a (B7 Y),vi c])∧bh tab 16 [.a (h.row.map .f),.c (.f rm),.c (.f (sl g0 (aC l0))),.a (x.row.map .f)] v:=by
  refine fg rfl rfl fun Q hQ=>?_;have hl:=hk.len;have hv:=qN h (by omega);have hhl:h.row.length=3:=rfl;have hxl:x.row.length=10:=rfl;apply ai;simp;obtain⟨d,u⟩:=aI ([.box (h.row.map .f) 0,.box (x.row.map .f) 0,.box [.f (fi 0),.f (fi 0),.f .au] 0,.box lM 0]:aj);have a0:∀ H:aj,H[0]?=aa (.box (h.row.map .f) 0)→aS H (aa 3) (.c (.ptr 0 0 0))=aa (.a (h.row.map .f)):=fun H J=>by simp [J,aQ,dv.row]
  have a1:aS d ab (.c (.ptr 0 0 0))=aa (vi h.clock):=by rw [u];simp [aQ,dv.row]
  have a2:aS d ab (.c (.ptr 0 2 0))=aa (.c (.f (sl h.lg (aN h.l)))):=by rw [u];simp [aQ,dv.row]
  have x0:aS d ab (.c (.ptr 1 0 0))=aa (vi x.id):=by rw [u];simp [aQ,bl.row]
  have x1:aS d ab (.c (.ptr 1 1 0))=aa (vi x.dl):=by rw [u];simp [aQ,bl.row]
  have x2:aS d ab (.c (.ptr 1 2 0))=aa (vi x.state):=by rw [u];simp [aQ,bl.row]
  have x3:∀ H:aj,H[1]?=aa (.box (x.row.map .f) 0)→aS H (aa 7) (.c (.ptr 1 3 0))=aa (.a (x.bc.row.map .f)):=fun H J=>by simp [J,aQ,bl.row,aA.row]
  have x4:∀ H:aj,H[1]?=aa (.box (x.row.map .f) 0)→aS H (aa 10) (.c (.ptr 1 0 0))=aa (.a (x.row.map .f)):=fun H J=>by simp [J,aQ,bl.row]
  have z0:d[0]?=aa (.box (h.row.map .f) 0):=by rw [u];rfl
  have z1:d[1]?=aa (.box (x.row.map .f) 0):=by rw [u];rfl
  have z2:d[2]?=aa (.box [.f (fi 0),.f (fi 0),.f .au] 0):=by rw [u];rfl
  have K:d[3]?=aa (.box lM 0):=by rw [u];rfl
  have s2:∀ H:aj,H[2]?=aa (.box [.f (fi 0),.f (fi 0),.f .au] 0)→de H (.ptr 2 0 0) [.f (fi 0),.f (fi 0),.f .au]=aa H:=fun H J=>by
   simp [J];exact vU J
  have s3:∀ H:aj,H[3]?=aa (.box lM 0)→de H (.ptr 3 0 0) [.f (fi 0),.f (fi 0),.f (fi 0),.f (fi 0),.f (fi 0),.f (fi 0),.f (fi 0),.f (fi 0)]=aa H:=fun H J=>by
   simp [J,lM];exact vU J
  simp only [lM]at u;rw [←u];have f_:∀(c:Int),nX h x rf B gq mN c→∀(t:T) (H:aj) (k:List dg),H[2]?=aa (.box [.f (fi 0),.f (fi 0),.f .au] 0)→H[3]?=aa (.box lM 0)→t.g 8=.c (.ptr 2 0 0)→t.g 9=.c (.ptr 3 0 0)→t.g 10=vi c→WP tab 16 ab (.code .ret::k) ⟨t,[],H⟩ Q:=by
   intro c hG t H k K z4 g6 g7 g8;have q3:aS H (aa 3) (.c (.ptr 2 0 0))=aa (.a [.f (fi 0),.f (fi 0),.f .au]):=by simp [K,aQ]
   have q4:aS H (aa 8) (.c (.ptr 3 0 0))=aa (.a lM):=by simp [z4,aQ,lM]
   refine aB (hQ _ _ (.t [.a (gq.row.map .f),.a (B7 mN),vi c]) ⟨gq,mN,c,hG,rfl⟩ ?_);simp [Km.results,bg,g6,g7,g8,q3,q4,iV,cK,deep,gq,dv.row,lM,sl,Tg.fc,aN,B7,mN,-av]
  have bad:cE h x=1→∀ t:T,t.g 8=.c (.ptr 2 0 0)→t.g 9=.c (.ptr 3 0 0)→t.g 35=vb ae→WP tab 16 ab [.code Ep,.code Er] ⟨t,[],d⟩ Q:=by
   intro he t g8 g9 g;refine aq (by simp [g]) (ai ?_);simp [g8,g9,s2 d z2,s3 d K,-bf];exact f_ 1 (.inl ⟨by omega,rfl,rfl,he.symm⟩) _ _ _ z2 K (by simp [g8]) (by simp [g9]) (by simp)
  apply ak;apply ak;refine al (.inl rfl) ?_;cases Z:eF h
  case false=>
   simp [a0 d z0,hv,Z,-av];exact bad (by simp [cE,Z]) _ (by simp) (by simp) (by simp)
  by_cases k1:x.id<1
  ·simp [a0 d z0,hv,Z,x0,k1,-av];exact bad (by simp [cE,k1]) _ (by simp) (by simp) (by simp)
  by_cases k2:x.state=1
  case neg=>
   simp [a0 d z0,hv,Z,x0,x2,k1,k2,-av];exact bad (by simp [cE,k2]) _ (by simp) (by simp) (by simp)
  cases m:mr x.dl
  case false=>
   simp [a0 d z0,hv,Z,x0,x1,x2,k1,k2,vk,m,-av];exact bad (by simp [cE,m]) _ (by simp) (by simp) (by simp)
  simp [a0 d z0,hv,Z,x0,x1,x2,k1,k2,vk,m,-av];refine bp (by simp) ?_;obtain⟨i,hi,p_,i7,i6⟩:=Fa h (by omega) Z x.id;have z:=xH Z p_ i7;apply ai;simp [a0 d z0,x0,i6,-av];apply ak;refine aG ?_;apply ai;simp;cases hf:ti h.l i x.id
  case true=>
   rw [hf]at z;simp at z;have he:cE h x=5:=by simp [cE,Z,k1,k2,m,z]
   refine aq (by simp) (ai ?_);simp [s2 d z2,s3 d K,-bf];exact f_ 5 (.inl ⟨by omega,rfl,rfl,he.symm⟩) _ _ _ z2 K (by simp) (by simp) (by simp)
  have n9:∀ j (hj:j<h.l.length),i≤j→x.id<h.l[j].id:=fun j hj x9=>by
   have h1:=i7 j hj x9;have hne:h.l[j].id≠x.id:=by
    intro e;by_cases x_:j=i
    ·subst x_;simp [ti,hj,e]at hf
    ·have s_:=(ew.1 Z).2.2.2;rw [as0]at s_;have:=s_ i j (by omega) hj (by omega);have:=i7 i (by omega) (aft _);omega
   omega
  rw [hf]at z;simp at z;refine aD (by simp) ?_;apply ai;by_cases k3:x.dl<h.clock
  ·have he:cE h x=17:=by simp [cE,Z,k1,k2,m,z,k3]
   simp [x1,a1,k3,-av];refine aq (by simp) (ai ?_);simp [s2 d z2,s3 d K,-bf];exact f_ 17 (.inl ⟨by omega,rfl,rfl,he.symm⟩) _ _ _ z2 K (by simp) (by simp) (by simp)
  have he:cE h x=0:=by simp [cE,Z,k1,k2,m,z,k3]
  have E:=E he;simp [x1,a1,k3,-av];refine aD (by simp) ?_;apply ai;simp [a2,show¬ (h.l.length:Int)=4096 by omega,-av];refine aD (by simp) (aO (aw ?_));obtain⟨r1,H1,g_,c1,rfl,i8,j8,hb1⟩:=N0 h (by omega) n8 g0 l0 (by omega) d;have g_:=g_.eq;obtain⟨o,ho⟩:=aI (uniq l0 [] (cZ h.l));rw [←ho]at j8;have hol:o.length≤9:=by
   have h2:=pW (l0:=l0) (acc:=[]) (l:=cZ h.l);have h3:=Bv h;rw [ho];simp at h2;omega
  obtain⟨H2,b_⟩:=aI (H1++[.box [.f (sl g0 (aC l0)),c1] 0]:aj);have q2:H2[H1.length]?=aa (.box [.f (sl g0 (aC l0)),c1] 0):=by rw [b_];simp
  have i9:Kp d H2:=by rw [b_];exact⟨by have:=i8.1;simp;omega,fun b' l=>by rw [AT (asJ l i8.1)];exact i8.2 b' l⟩
  have u6:LR H2 c1 7 (aC o):=by rw [b_];exact j8.push _
  obtain⟨r3,H3,a_,c3,rfl,f8,y6,y7,hbc⟩:=xA (tab:=tab) (H:=H2) (F:=40) (G:=73) (sz:=7) (bytes:=88) (zs:=[fi 0,fi 0,fi 0,fi 0,.au,fi 0,.au]) ak2 ak9 (by decide) rfl (b:=H1.length) [(.f (sl g0 (aC l0)),aC l0),(c1,aC o)] q2 (by simp)
   (fun y s=>by
    simp only [asv,atc,or_false]at s;rcases s with rfl | rfl
    ·exact⟨bw _,fun H' _=>⟨by simp,lT (bw _)⟩⟩
    ·refine⟨bw _,fun H' t9=>?_⟩;have:LR H' c1 7 (aC o):=u6.cO fun i y s _=>by rw [t9 i (an s)];exact s
     exact⟨this.len,LR.added this (bw _)⟩)
   (by simp;omega) (mD (by simp;omega) (by decide))
  have a_:Ev tab (.fn 40) [.c (.sl H1.length 0 2 2 0 1)] H2 (.c c3) H3:=a_;have a_:=a_.eq;have z_:aC (l0++o)=aC l0++aC o:=by simp [aC]
  have f8:LR H3 c3 7 (aC (l0++o)):=by rw [z_];simpa using f8
  have n_:Kp d H3:=⟨asz i9.1 y7,fun b' l=>(y6 b' (asJ l i9.1)).trans (i9.2 b' l)⟩
  obtain⟨r4,H4,h_,rfl,t_,o',j_,y_,z9⟩:=aiI f8 (by simp;omega);have h_:=h_.eq;have y8:o'=nZ l0 h:=by
   unfold nZ;rw [←ho];exact Py (by rw [ho];exact qt h0 h) y_ z9
  subst y8;have t7:∀(i:Nat) cs fl,d[i]?=aa (.box cs fl)→H4[i]?=aa (.box cs fl):=fun i cs fl s=>by
   have h3:H3[i]?=aa (.box cs fl):=by rw [n_.2 i (an s)];exact s
   exact t_.2 i _ h3 (f8.ot h3)
  obtain⟨g,x6⟩:=j_.ex (bw _) 63;have E:=E g;obtain⟨H5,j7⟩:=aI (gu 64 c3 H4:aj);have up5:∀(i:Nat) cs fl,d[i]?=aa (.box cs fl)→H5[i]?=aa (.box cs fl):=fun i cs fl s=>by rw [j7];exact LR.mkB j_ (bw _) 63 (t7 i cs fl s)
  obtain⟨I,M,N,O,S,U,W,X,rfl⟩:∃ I M N O S U W X,rf=[I,M,N,O,S,U,W,X]:=by
   match rf,z8 with
   | [I,M,N,O,S,U,W,X],_=>exact⟨_,_,_,_,_,_,_,_,rfl⟩
  obtain⟨H6,c_⟩:=aI (H5++[.box (B7 [I,M,N,O,S,U,W,X]) 0]:aj);have q:∀(i:Nat) cs fl,d[i]?=aa (.box cs fl)→H6[i]?=aa (.box cs fl):=fun i cs fl s=>by
   have:=up5 i cs fl s;rw [c_,AT (an this)];exact this
  obtain⟨p6,q_⟩:=aI (H5.length);have r6:H6[p6]?=aa (.box (B7 [I,M,N,O,S,U,W,X]) 0):=by rw [c_,q_];simp
  apply ai;simp [a0 d z0,g_,-av];rw [←b_];simp [a_];apply ai;simp [h_];apply ai;simp only [B7,asq,asA]at E c_ r6;simp [x3 H4 (t7 1 _ _ z1),iV,cK,deep,x6,E,-av];rw [←j7]
  try simp
  rw [←c_,←q_];apply ak;apply ak;refine al (.inl rfl) ?_;simp;by_cases hc:B=0
  case neg=>
   refine aq (by simp [hc]) (ai ?_);simp [s2 H6 (q 2 _ _ z2),s3 H6 (q 3 _ _ K),-bf];exact f_ B (.inr (.inl ⟨he,hc,rfl,rfl,rfl⟩)) _ _ _ (q 2 _ _ z2) (q 3 _ _ K) (by simp) (by simp) (by simp)
  subst hc;refine bp (by simp) ?_;obtain⟨r7,H7,i4,c7,rfl,o_,k_,v8⟩:=xB h (by omega) n8 H6;have i4:=i4.eq;have up7:∀(i:Nat) cs fl,H6[i]?=aa (.box cs fl)→H7[i]?=aa (.box cs fl):=fun i cs fl s=>by rw [o_.2 i (an s)];exact s
  obtain⟨p8,r_⟩:=aI (H7.length);obtain⟨L,d9⟩:=aI (H7++[.box [.f (fi h.clock),.f (fi h.bZ),c7] 0]:aj);have A:∀(i:Nat) cs fl,H6[i]?=aa (.box cs fl)→L[i]?=aa (.box cs fl):=fun i cs fl s=>by
   have:=up7 i cs fl s;rw [d9,AT (an this)];exact this
  have r8:L[p8]?=aa (.box [.f (fi h.clock),.f (fi h.bZ),c7] 0):=by rw [d9,r_];simp
  have l_:LR L c7 10 (aN h.l):=by rw [d9];exact k_.push _
  have l67:=o_.1;have m9:∀ i,bB c7=aa i→4≤i∧i≠p6∧i≠p8:=fun i e=>by
   have h1:=v8 i e;have h2:=k_.lt e;have h3:=an (q 3 _ _ K);have h4:=an r6;omega
  apply ai;simp [a0 H6 (q 0 _ _ z0),i4,-av];rw [←d9,←r_];have j4:∀(t:T) (H:aj) (l:List bl) (c:C),t.g 8=.c (.ptr 2 0 0)→t.g 9=.c (.ptr 3 0 0)→t.g 14=.c (.ptr p6 0 0)→t.g 16=.c (.ptr p8 0 0)→H[2]?=aa (.box [.f (fi 0),.f (fi 0),.f .au] 0)→H[3]?=aa (.box lM 0)→H[p6]?=aa (.box [.f (fi I),.f (fi M),.f (fi N),.f (fi O),.f (fi S),.f (fi U),.f (fi W),.f (fi X)] 0)→H[p8]?=aa (.box [.f (fi h.clock),.f (fi h.bZ),c] 0)→LR H c 10 (aN l)→(∀ i,bB c=aa i→i≠2∧i≠3) →
    (∀ g,nX h x [I,M,N,O,S,U,W,X] 0 ⟨h.clock,h.bZ,g,l⟩ [I,M,N,O,S,U,W,X] 0)→WP tab 16 ab [.code Ai] ⟨t,[],H⟩ Q:=by
   intro t H l c g8 g9 j5 j6 w2 w3 w6 w8 hL v_ hG;obtain⟨g,hg⟩:=hL.exU (bS _);have l3:aS H (aa 3) (.c (.ptr p8 0 0))=aa (.a [.f (fi h.clock),.f (fi h.bZ),c]):=by simp [aS,aE,w8,aQ]
   have l8:aS H (aa 8) (.c (.ptr p6 0 0))=aa (.a [.f (fi I),.f (fi M),.f (fi N),.f (fi O),.f (fi S),.f (fi U),.f (fi W),.f (fi X)]):=by simp [aS,aE,w6,aQ]
   obtain⟨Ha,a8⟩:=aI (H.set 2 (.box [.f (fi h.clock),.f (fi h.bZ),c] 0));have t1:de H (.ptr 2 0 0) [.f (fi h.clock),.f (fi h.bZ),c]=aa Ha:=by rw [a8];simp [de,w2,over]
   have t8:Ha[3]?=aa (.box lM 0):=by rw [a8,AI (by omega)];exact w3
   obtain⟨Hb,e_⟩:=aI (Ha.set 3 (.box [.f (fi I),.f (fi M),.f (fi N),.f (fi O),.f (fi S),.f (fi U),.f (fi W),.f (fi X)] 0));have t2:de Ha (.ptr 3 0 0) [.f (fi I),.f (fi M),.f (fi N),.f (fi O),.f (fi S),.f (fi U),.f (fi W),.f (fi X)]=aa Hb:=by rw [e_];simp [de,t8,over,lM]
   have y2:Hb[2]?=aa (.box [.f (fi h.clock),.f (fi h.bZ),c] 0):=by rw [e_,AI (by omega),a8];exact IN (an w2)
   have y3:Hb[3]?=aa (.box [.f (fi I),.f (fi M),.f (fi N),.f (fi O),.f (fi S),.f (fi U),.f (fi W),.f (fi X)] 0):=by rw [e_];exact IN (an t8)
   have x8:=hg Hb 63 (fun i y s hi=>by
    have:=v_ i hi;rw [e_,AI (by omega),a8,AI (by omega)];exact s)
   have m3:aS Hb (aa 3) (.c (.ptr 2 0 0))=aa (.a [.f (fi h.clock),.f (fi h.bZ),c]):=by simp [aS,aE,y2,aQ]
   have m8:aS Hb (aa 8) (.c (.ptr 3 0 0))=aa (.a [.f (fi I),.f (fi M),.f (fi N),.f (fi O),.f (fi S),.f (fi U),.f (fi W),.f (fi X)]):=by simp [aS,aE,y3,aQ]
   have ar2:c.beq c=ae:=by
    rcases hL with⟨_,rfl | rfl⟩ | ⟨_,b,ep,rfl,_⟩<;>simp [C.beq,FC.beq]
   have l8':aS Ha (aa 8) (.c (.ptr p6 0 0))=aa (.a [.f (fi I),.f (fi M),.f (fi N),.f (fi O),.f (fi S),.f (fi U),.f (fi W),.f (fi X)]):=by
    have:Ha[p6]?=H[p6]?:=by rw [a8,AI (by have:=an (q 3 _ _ K);intro e;rw [←e]at w6;rw [w2]at w6;simp at w6)]
    simp [aS,aE,this,w6,aQ]
   refine ak (gb (.inl rfl) ?_ ?_)
   case _=>
    simp [g8,g9,j5,j6,l3,l8,t1,t2,-av,-bf];refine aB (hQ _ _ (.t [.a ((⟨h.clock,h.bZ,g,l⟩:dv).row.map .f),.a (B7 [I,M,N,O,S,U,W,X]),vi 0]) ⟨_,_,_,hG g,rfl⟩ ?_);simp [Km.results,bg,g8,g9,m3,m8,iV,cK,deep,dv.row,x8,B7,-av]
   ·intro cc w_;rw [asj.1 w_];refine⟨by decide,_,rfl,.inl ⟨by decide,?_⟩⟩;simp [g8,j5,j6,l3,l8,l8',t1,gQ,V.beq,jl,C.beq,FC.beq,-av,-bf]
  have ld0:aS L ab (.c (.ptr p6 0 0))=aa (vi I):=by simp [aS,aE,A _ _ _ r6]
  apply ak;apply ai;simp [ld0,-av];by_cases J:I=0
  case neg=>
   refine bp (by simp [J]) ?_;exact j4 _ L h.l c7 (by simp) (by simp) (by simp) (by simp) (A 2 _ _ (q 2 _ _ z2)) (A 3 _ _ (q 3 _ _ K)) (A _ _ _ r6) r8 l_ (fun i e=>by have:=m9 i e;omega) fun g=>.inr (.inr ⟨he,rfl,rfl,rfl,g,.inl ⟨by simp [J],rfl⟩⟩)
  refine aq (by simp [J]) ?_;have e1:=A 1 _ _ (q 1 _ _ z1);have sx:de L (.ptr 1 3 0) (x.bc.row.map .f)=aa L:=by
   simp [e1,aA.row,bl.row,over];exact vU e1
  unfold Fix at hx;have hxr:(x.bc.row.map C.f).length=7:=rfl;apply ai;simp [x3 L e1,hx,hxr,sx,-av,-bf];obtain⟨p9,s8⟩:=aI (L.length);obtain⟨H9,d_⟩:=aI (L++[.box (x.row.map .f) 0]:aj);have r9:H9[p9]?=aa (.box (x.row.map .f) 0):=by rw [d_,s8];simp
  have b9:∀(i:Nat) cs fl,L[i]?=aa (.box cs fl)→H9[i]?=aa (.box cs fl):=fun i cs fl s=>by
   rw [d_,AT (an s)];exact s
  have m4:LR H9 c7 10 (aN h.l):=by rw [d_];exact l_.push _
  obtain⟨c9,K9,i5,j9,u5,v9⟩:=OO m4 (bS _) (by simp;omega) (i:=i) (by simpa using hi) (row:=x.row) rfl r9;have i5:=i5.eq;have ld2:aS L ab (.c (.ptr p8 2 0))=aa (.c c7):=by simp [aS,aE,r8]
  have k9:∀(j:Nat) cs fl,L[j]?=aa (.box cs fl)→K9[j]?=aa (.box cs fl):=fun j cs fl s=>u5.2 j _ (b9 j _ _ s) (m4.ot (b9 j _ _ s));obtain⟨Kc,f7⟩:=aI (K9.set p8 (.box [.f (fi h.clock),.f (fi h.bZ),c9] 0));have st9:de K9 (.ptr p8 2 0) [c9]=aa Kc:=by rw [f7];simp [de,k9 _ _ _ r8,over]
  have l48:p8<H9.length:=by have:=an (b9 _ _ _ r8);exact this
  have m_:∀ j,bB c9=aa j→4≤j∧j≠p6∧j≠p8:=fun j e=>by
   rcases v9 with e1 | e1
   ·exact m9 j (by rw [←e1];exact e)
   ·rw [e1]at e;cases e;have h3:=an (b9 _ _ _ (A 3 _ _ (q 3 _ _ K)));have h4:=an (b9 _ _ _ (A _ _ _ r6));omega
  have i_:aN (h.l.take i++x::h.l.drop i)=(aN h.l).take i++x.row ::(aN h.l).drop i:=by simp [aN,List.map_take,List.map_drop]
  have u_:LR Kc c9 10 (aN (h.l.take i++x::h.l.drop i)):=by
   rw [f7,i_];exact j9.set (fun e=>by have:=m_ _ e;omega) _
  have kc:∀(j:Nat) cs fl,L[j]?=aa (.box cs fl)→j≠p8→Kc[j]?=aa (.box cs fl):=fun j cs fl s hj=>by rw [f7,AI (Ne.symm hj)];exact k9 j _ _ s
  have lp6:=an r6;have lp3:=an (q 3 _ _ K);refine al (.inl rfl) ?_;simp [ld2,x4 L e1,hxl,-av];rw [←d_,←s8];simp [i5,st9,-bf];exact j4 _ Kc _ c9 (by simp) (by simp) (by simp) (by simp) (kc 2 _ _ (A 2 _ _ (q 2 _ _ z2)) (by omega)) (kc 3 _ _ (A 3 _ _ (q 3 _ _ K)) (by omega)) (kc _ _ _ (A _ _ _ r6) (by omega)) (by rw [f7];exact IN (an (k9 _ _ _ r8))) u_ (fun j e=>by have:=m_ j e;omega) fun g=>.inr (.inr ⟨he,rfl,rfl,rfl,g,.inr ⟨by simp [J],i,hi,p_,n9,rfl⟩⟩)
 exact⟨res,Y,c,hG,hp.eq⟩
def rL:List (List Int)→List Int
 | []=>mN| r::l=>if r.headD 0=0 then rL l else r
def vQ:List Nat:=[77,78,79,80]
theorem tS:∀ {b:List (List Int)},(∀ r ∈ b,r.length=8)→(rL b).length=8
 | [],_=>rfl
 | r::l,h=>by
  unfold rL;split
  ·exact tS fun y d=>h y (asm _ d)
  ·exact h r asn
theorem ZQ(af q:Int)(g:Tg)(ss:List aA)(J:ss.length≤1000)(L:ss.Pairwise ku)(K:∀ s ∈ ss,s.st.Sm)(x:aA)(M:x.st.Sm)(m:(jM af q ss x&&!lD ss x)=ag) :
  bh tab 44 [.c (.f (gd af q)),.c (.f (sl g (aC ss))),.a (x.row.map .f)]=Eq (.t [rE mN,vi 1]):=bh.eq (by
 refine bV rfl rfl fun Q I=>?_;have l:=ES af q g ss J L K x M;have v:x.row.length=7:=rfl;obtain⟨S,z⟩:=aI (sl g (aC ss));obtain⟨O,y⟩:=aI (gd af q);rw [←z,←y]at l ⊢;apply ai;simp [v];obtain⟨j,d⟩:=aI ([bq.box (x.row.map .f) 0,.box [.f (fi 0),.f (fi 0),.f (fi 0),.f (fi 0),.f (fi 0),.f (fi 0),.f (fi 0),.f (fi 0)] 0]:aj);have F:j[0]?=aa (.box (x.row.map .f) 0):=by rw [d];rfl
 have A:j[1]?=aa (.box [.f (fi 0),.f (fi 0),.f (fi 0),.f (fi 0),.f (fi 0),.f (fi 0),.f (fi 0),.f (fi 0)] 0):=by rw [d];rfl
 have E:aS j (aa 7) (.c (.ptr 0 0 0))=aa (.a (x.row.map .f)):=by simp [aS,aE,F,aQ,aA.row]
 have N:de j (.ptr 1 0 0) [.f (fi 0),.f (fi 0),.f (fi 0),.f (fi 0),.f (fi 0),.f (fi 0),.f (fi 0),.f (fi 0)]=aa (j.set 1 (.box [.f (fi 0),.f (fi 0),.f (fi 0),.f (fi 0),.f (fi 0),.f (fi 0),.f (fi 0),.f (fi 0)] 0)):=by simp [de,A,over]
 rw [←d];have b:∀ t:T,t.g 6=.c (.ptr 1 0 0)→t.g 9=vb ag→WP tab 44 ab [.code tH] ⟨t,[],j⟩ Q:=by
  intro t B H;apply ak;apply ai;simp [H];refine aq (by simp) ?_;apply ai;simp [B,N,-bf];refine aB (I _ _ ?_);simp [Km.results,bg,B,an A,aQ,rE,mN]
 apply ai;cases u:jM af q ss x with
 | false=>
  rw [u]at l;simp [E,l,-av];exact b _ (by simp) (by simp)
 | true=>
  rw [u,Bool.true_and,Bool.not_eq_false']at m;rw [u,m]at l;simp [E,l,-av];exact b _ (by simp) (by simp))
theorem ZR(af L:Int)(g:Tg)(ss:List aA)(hl:ss.length≤1000)(hs:ss.Pairwise ku)(hm:∀ s ∈ ss,s.st.Sm)(x:aA)(hx:x.st.Sm)(H:(jM af L ss x&&!lD ss x)=ae)
  (v:List (List Int)) (g_:v.length=4) (h8:∀ r ∈ v,r.length=8)
  (hr:∀(i:Nat) (h:i<4) (K:aj),∃ z,Ev tab (.fn (vQ[i]'h)) [.c (.f (ez (gd af L) (sl g (aC ss)) x))] K (.t [rE (v[i]'(by omega)),vi 0]) z∧Kp K z) :
  bh tab 44 [.c (.f (gd af L)),.c (.f (sl g (aC ss))),.a (x.row.map .f)]=Eq (.t [rE (rL v),vi 0]):=by
 obtain⟨r,rfl,hp⟩:∃ r,r=.t [rE (rL v),vi 0]∧bh tab 44 [.c (.f (gd af L)),.c (.f (sl g (aC ss))),.a (x.row.map .f)] r:=by
  refine fg (S:=fun r=>r=.t [rE (rL v),vi 0]) akT rfl fun Q hQ=>?_;have Y:=ES af L g ss hl hs hm x hx;rw [If,as6]at H;rw [H.1,H.2]at Y;have f_:x.row.length=7:=rfl;obtain⟨res,u⟩:=aI (rL v);have f8:res.length=8:=by rw [u];exact tS h8
  rw [←u]at hQ;simp only [ez]at Y hr;obtain⟨sd,b_⟩:=aI (sl g (aC ss));obtain⟨rm,b9⟩:=aI (gd af L);rw [←b_,←b9]at Y ⊢;rw [←b_,←b9]at hr;obtain⟨cd,d_⟩:=aI ([rm,sd]++x.row);rw [←d_]at Y hr;apply ai;simp [f_];obtain⟨A,y⟩:=aI ([bq.box (x.row.map .f) 0,.box [.f (fi 0),.f (fi 0),.f (fi 0),.f (fi 0),.f (fi 0),.f (fi 0),.f (fi 0),.f (fi 0)] 0]:aj);have c0:A[0]?=aa (.box (x.row.map .f) 0):=by rw [y];rfl
  have c1:A[1]?=aa (.box [.f (fi 0),.f (fi 0),.f (fi 0),.f (fi 0),.f (fi 0),.f (fi 0),.f (fi 0),.f (fi 0)] 0):=by rw [y];rfl
  have n0:A.length=2:=by rw [y];rfl
  have l7:aS A (aa 7) (.c (.ptr 0 0 0))=aa (.a (x.row.map .f)):=by simp [aS,aE,c0,aQ,aA.row]
  rw [←y];have N:∀(t:T) (K:aj) (j:Option aF),t.g 6=.c (.ptr 1 0 0)→t.g 7=vi 0→K[1]?=aa (.box (res.map fun n=>.f (fi n)) 0)→Q j ⟨t,[],K⟩:=by
   intro t K j d g7 J;refine hQ _ _ _ rfl ?_;refine⟨rfl,.t [rE res,vi 0],?_,?_⟩
   ·simp [Km.results,cQ,bg,d,g7,aS,aE,J,aQ,f8,arf,rE]
   ·have hx:(res.map fun n=>C.f (fi n))=(res.map fun n=>fi n).map C.f:=by simp
    simp only [rE,hx];generalize (res.map fun n=>fi n)=ys;simp [iV,cK,bg,deep]
  have go:∀ t:T,t.g 6=.c (.ptr 1 0 0)→t.g 8=.c (.f (.fp cd 0))→t.g 9=vb ae→WP tab 44 ab [.code tH] ⟨t,[],A⟩ Q:=by
   intro t d g8 g9;apply ak;apply ai;simp [g9];refine bp (by simp) ?_;apply ak;apply ai;obtain⟨I,q⟩:=aI (A++[bq.box (vQ.map fun f=>C.bm f [.f (.fp cd 0)]) 0]:aj);have k1:Kp A I:=by rw [q];exact Kp.push _ _
   have b1:I[2]?=aa (.box (vQ.map fun f=>C.bm f [.f (.fp cd 0)]) 0):=by rw [q,←n0];simp
   have n1:I.length=3:=by rw [q];simp [n0]
   simp only [vQ,asq,asA]at q;have a_:bt I (.sl 2 0 4 4 0 1)=aa 4:=by simp [bt,b1]
   simp [g8,n0];rw [←q];simp [a_];refine bW 4 (fun j t K=>t.g 6=.c (.ptr 1 0 0)∧t.g 32=.c (.sl 2 0 4 4 0 1)∧Kp I K∧rL (v.drop j)=res) (by omega) (by decide) (by decide) (by simp) (by simp) ⟨by simp [d],by simp,⟨aft _,fun _ _=>rfl⟩,by simpa using u.symm⟩ ?_ ?_
   ·rintro j t K hj ⟨d,b,hK,F⟩ X J next
    have Z:j<v.length:=by omega
    obtain⟨z,f7,d9⟩:=hr j hj K;have M:=hK.get b1;have m:=h8 _ (anc Z);rw [arM Z,rL]at F;have i1:bA K 1 ab (.c (.sl 2 0 4 4 0 1)) (vi (j:Int))=aa (.c (.ptr 2 j 0)):=by
     simp [bA,show hZ (vi (j:Int))=aa (j:Int) from rfl,M];omega
    have i2:aS K ab (.c (.ptr 2 j 0))=aa (.c (.bm (vQ[j]'hj) [.f (.fp cd 0)])):=by
     rw [av,M];exact wj (by rw [asU,By (show j<vQ.length from hj)];rfl)
    generalize v[j]=r at *;generalize vQ[j]=f at *;refine aG ?_;apply ai;simp [b,X,i1,i2,-av];obtain⟨B,E⟩:=aI (z++[bq.box (r.map fun n=>.f (fi n)) 0]);have d2:B[z.length]?=aa (.box (r.map fun n=>.f (fi n)) 0):=by rw [E];simp
    have a8:Kp I B:=(hK.tr d9).tr (by rw [E];exact Kp.push _ _);have l0:aS B ab (.c (.ptr z.length 0 0))=aa (vi (r.headD 0)):=by
     match r,m with
     | p0::_,_=>simp [aS,aE,d2]
    have l8:aS B (aa 8) (.c (.ptr z.length 0 0))=aa (.a (r.map fun n=>.f (fi n))):=by
     simp [aS,aE,d2,aQ,m,arf]
    apply ak;refine al (.inl rfl) ?_;simp [f7.eq,rE,m,-av];rw [←E]
    suffices c_:∀ w:T,w.g 6=.c (.ptr 1 0 0)→w.g 12=.c (.ptr z.length 0 0)→w.g 13=vi 0→w.g 32=.c (.sl 2 0 4 4 0 1)→w.g 33=vi (4:Nat)→w.g 34=vi (j:Nat)→WP tab 44 ab [.code wY,.inBlock 1,.code (sU 34 52),.inLoop (iN 0 34 33 35 52 wX),.inBlock 0,.code wZ] ⟨w,[],B⟩ Q by
     exact c_ _ (by simp [d]) (by simp) (by simp) (by simp [b]) (by simpa using J) (by simp [X])
    clear d b X J;intro w d O U b J X;apply ak;refine al (.inl rfl) ?_;simp [O,U,l0,-av];by_cases h0:r.headD 0=0
    ·rw [ba h0]at F;refine aD (by simpa using h0) (aO ?_);exact aw (next _ _ ⟨by simp [d],by simp [b],a8,F⟩ (by simp [X]) (by simp [J]))
    ·rw [aX h0]at F;refine aq (by simpa using h0) ?_;have l:=a8.get (k1.get c1);obtain⟨K3,W⟩:=aI (B.set 1 (.box (r.map fun n=>.f (fi n)) 0));have s1:de B (.ptr 1 0 0) (r.map fun n=>.f (fi n))=aa K3:=by
      rw [W]
      match r,m with
      | [p0,p1,p2,p3,p4,p5,p6,p7],_=>simp [de,l,over]
     apply ai;simp [d,O,U,l8,m,s1,-av,-bf];refine aB (N _ _ _ (by simp [d]) (by simp) ?_);rw [W,IN (an l),F]
   ·rintro t K ⟨d,b,hK,F⟩ - -;have e_:res=mN:=by
     rw [←F,ato (by omega)];rfl
    have l:=hK.get (k1.get c1);have s1:de K (.ptr 1 0 0) [.f (fi 0),.f (fi 0),.f (fi 0),.f (fi 0),.f (fi 0),.f (fi 0),.f (fi 0),.f (fi 0)]=aa (K.set 1 (.box [.f (fi 0),.f (fi 0),.f (fi 0),.f (fi 0),.f (fi 0),.f (fi 0),.f (fi 0),.f (fi 0)] 0)):=by simp [de,l,over]
    apply ai;simp [d,s1,-bf];refine aB (N _ _ _ (by simp [d]) (by simp) ?_);rw [IN (an l),e_];rfl
  apply ai;simp [l7,Y,-av];exact go _ (by simp) (by simp) (by simp)
 exact hp.eq
theorem oY{s:aA}(h:nL s):NM s:=by
 obtain⟨m,r,t,z,n,p,mi,le,rfl,b⟩:=h;obtain⟨k,j,g⟩:=b.i0;refine⟨b.r0,b.r1,by simp [sV],fun c d=>?_,by have:=b.l0;show 1≤le;omega,b.l1,rfl⟩;simp [sV]at d;rw [d];show 0≤mi∧mi≤1180;omega
theorem th{s:aA}(h:nL s):∃ n p mi,yN s.st n p mi:=by
 obtain⟨m,r,t,z,n,p,mi,le,rfl,b⟩:=h;obtain⟨k,g,d⟩:=b.i0;exact⟨n,p,mi,abi ⟨b.n0,b.n1,b.p0,b.p1⟩ (by omega) (by omega) (by have:=b.l0;omega) (by have:=b.l1;omega)⟩
theorem Df{s:aA}(h:nL s):s.st.Sm:=by
 obtain⟨m,r,t,z,n,p,mi,le,rfl,b⟩:=h;exact Dg ..
theorem ahp{s:aA}(h:nL s):V.beq (.a (s.st.row.map .f)) (.a (s.st.row.map .f))=ae:=by
 obtain⟨m,r,t,z,n,p,mi,le,rfl,b⟩:=h;show V.beq (.a ((sW n p mi le).map .f)) (.a ((sW n p mi le).map .f))=ae;simp [sW,vm,V.beq,C.beq,FC.beq,jl]
theorem BF{s:aA}(h:nL s){af:Int}(x:0≤af)(a1:af≤39)(g j:Tg):rK (mv af s g j):=by
 obtain⟨m,r,t,z,n,p,mi,le,rfl,b⟩:=h;obtain⟨k,y,u⟩:=b.i0;have l0:=b.l0;have A:=b.l1;have l:zW n p:=⟨b.n0,b.n1,b.p0,b.p1⟩
 have v:=uu (m:=0) (r:=0) (t:=0) (z:=0) (mi:=mi) (le:=le+0+af) l (by omega) (by omega) (by omega) (by omega);have q:mi-0=mi:=by omega
 refine⟨by show 1≤le+0+af∧le+0+af≤400;omega,by simp [mv,sV],fun {c} d=>?_,?_,?_,fun c d=>?_,rfl⟩
 ·simp [mv,sV,jY]at d;rw [d];show 0≤mi∧mi≤1180;omega
 ·have:=Dg m r t z n p mi (le+0+af);simpa [aT.Sm,mv,sV,jY]using this
 ·have:en (mv af (sV m r t z n p mi le) g j)=en (sV 0 0 0 0 n p mi (le+0+af)).st:=by
   show en ⟨g,[⟨.fs,[⟨.fs,[⟨.nil,[],0,n,.fs,[p]⟩]⟩],mi-0⟩],le+0+af,j,[]⟩=en ⟨.fs,[⟨.fs,[⟨.fs,[⟨.nil,[],0,n,.fs,[p]⟩]⟩],mi⟩],le+0+af,.nil,[]⟩;rw [q];rfl
  rw [this];exact v
 ·simp [mv,sV,jY]at d;rw [d];exact⟨n,p,l,rfl⟩
theorem O9{s:aA}(h:nL s){af:Int}(j:0≤af)(a1:af≤39)(b d:Tg):bh tab 53 [.a ((mv af s b d).row.map .f)]=Eq (vb ae):=by
 have g:=BF h j a1 b d;have:=(jk _ g.sm).eq;rwa [g.v]at this
theorem ai4(s:aT){n p mi:Int}(b:yN s n p mi)(q:Int)(j:-1≤q)(l:q≤100):∃ w v,bh tab 128 [.a (s.row.map .f),vi q]=Eq (.c (.f v))∧bh tab 202 [.c (.f v)]=Eq (vi w):=by
 obtain⟨g,L,⟨B,y⟩,E,z⟩:=xw s b q j l;refine⟨_,_,z,DK g L (by omega) fun x A=>?_⟩;obtain⟨d,rfl,m,u,-⟩:=(y x).1 A;have H:=b.m0;have I:=b.m1;have l0:=b.l0;have F:=b.l1;unfold ahr at m u;simp only [fM];omega
theorem xr:∀ {d:List (List Int)},(rL d).headD 0=0→∀ r ∈ d,r.headD 0=0
 | [],_,_,h=>by simp at h
 | r::l,h,y,b=>by
  unfold rL at h;split at h
  ·rename_i h0;rcases asv.1 b with rfl | b
   ·exact h0
   ·exact xr h y b
  ·rename_i h0;exact absurd h h0
theorem rp{af:Int}{x:aA}{mt:aA→Bool}{fx fy:aA→aM}{fd:aA→Bool}:∀ {l:List aA},(gX af x mt fx fy fd l).headD 0=0→∀ s ∈ l,s.meet=x.meet∨mt s=ag
 | [],_,_,h=>by simp at h
 | s::r,h,y,b=>by
  unfold gX at h;split at h
  ·rename_i h0;rcases asv.1 b with rfl | b
   ·exact h0
   ·exact rp h y b
  ·unfold Z' at h;split at h<;>simp at h
theorem aa7{x s:aA}{af:Int}(v:0≤af){b g j l:Tg}(h:oL x.st s.st):oL (mv af x b g) (mv af s j l):=by
 obtain⟨c,q,d,u,k,y,z,m⟩:=h;refine⟨jY 0 c,asH.2 ⟨c,q,rfl⟩,jY 0 d,asH.2 ⟨d,u,rfl⟩,k,?_,?_,m⟩
 ·unfold Bw at *;simp only [jY,mv];omega
 ·unfold Bj at *;simp only [jY,mv];omega
theorem AO(af j:Int)(a0:0≤af)(a1:af≤39)(ss:List aA)(hl:ss.length≤1000)(hs:ss.Pairwise ku)(W:∀ s ∈ ss,nL s)(x:aA)(B:nL x) :
  ∃(rf:List Int) (U:Int),rf.length=8∧(U=0→lD ss x=ag∧(rf.headD 0=0→∀ s ∈ ss,s.room=x.room→s.meet≠x.meet→¬ oL x.st s.st)) ∧
   ∀ g,bh tab 44 [.c (.f (gd af j)),.c (.f (sl g (aC ss))),.a (x.row.map .f)]=Eq (.t [rE rf,vi U]):=by
 have hm:∀ s ∈ ss,s.st.Sm:=fun s h=>Df (W s h);cases Q:(jM af j ss x&&!lD ss x)with
 | false=>exact⟨mN,1,rfl,fun h=>by omega,fun g=>ZQ af j g ss hl hs hm x (Df B) Q⟩
 | true=>
  obtain⟨G,hG⟩:=Classical.skolem.1 (show ∀ s:aA,∃ g:Tg × Tg,nL s→bh tab 137 [.c (.f (gd af j)),.a (s.row.map .f)]=Eq (.t [.a ((mv af s g.1 g.2).row.map .f),vb ae]) from fun s=>by
   by_cases h:nL s
   ·obtain⟨g1,g2,E⟩:=BG af j a0 a1 s (oY h) (O9 h a0 a1);exact⟨(g1,g2),fun _=>E⟩
   ·exact⟨(.nil,.nil),fun E=>absurd E h⟩)
  obtain⟨A,N⟩:∃ A:aA→aT,∀ s,A s=mv af s (G s).1 (G s).2:=⟨_,fun _=>rfl⟩
  have u:∀ s,nL s→rK (A s):=fun s h=>by rw [N];exact BF h a0 a1 _ _
  obtain⟨mt,d9⟩:=Classical.skolem.1 (show ∀ s:aA,∃ r:Bool,nL s→(r=ae↔oL (A x) (A s))∧bh tab 25 [.a ((A x).row.map .f),.a ((A s).row.map .f)]=Eq (.t [vb r,vi 0]) from fun s=>by
   by_cases h:nL s
   ·obtain⟨r,E⟩:=aao (A x) (A s) (u x B) (u s h);exact⟨r,fun _=>E⟩
   ·exact⟨ag,fun E=>absurd E h⟩)
  obtain⟨F,hF⟩:=Classical.skolem.1 (show ∀ s:aA,∃ q:aM × aM × Bool,nL s→bh tab 138 [.a ((A x).row.map .f),.a ((A s).row.map .f),vi (-2251799813685248)]=Eq (.t [.a (q.1.row.map .f),.a (q.2.1.row.map .f),vb q.2.2]) from fun s=>by
   by_cases h:nL s
   ·obtain⟨X,Y,f,E⟩:=Ot (A x) (A s) (u x B) (u s h) (-2251799813685248) (by omega) (by omega);exact⟨(X,Y,f),fun _=>E⟩
   ·exact⟨(⟨0,0,0⟩,⟨0,0,0⟩,ag),fun E=>absurd E h⟩)
  obtain⟨nx,px,i8,g_⟩:=th B;obtain⟨e_,d_⟩:=Classical.skolem.1 (show ∀ n:Int,∃ O:List aM,-1≤n→n≤100→O.length≤10∧∃ g,bh tab 128 [.a (x.st.row.map .f),vi n]=Eq (.c (.f (sl g (aH O)))) from fun n=>by
   by_cases h:-1≤n∧n≤100
   ·obtain⟨g,L,-,h3,h4⟩:=xw x.st g_ n h.1 h.2;exact⟨L,fun _ _=>⟨h3,g,h4⟩⟩
   ·exact⟨[],fun H l=>absurd ⟨H,l⟩ h⟩)
  obtain⟨wk,i5⟩:=Classical.skolem.1 (show ∀ q:Int × aT,∃ w:Int,-1≤q.1→q.1≤100→(∃ n p mi,yN q.2 n p mi)→∃ v,bh tab 128 [.a (q.2.row.map .f),vi q.1]=Eq (.c (.f v))∧bh tab 202 [.c (.f v)]=Eq (vi w) from fun q=>by
   by_cases h:(-1≤q.1∧q.1≤100)∧∃ n p mi,yN q.2 n p mi
   ·obtain⟨⟨H,l⟩,n,p,mi,h3⟩:=h;obtain⟨w,h4⟩:=ai4 q.2 h3 q.1 H l;exact⟨w,fun _ _ _=>h4⟩
   ·exact⟨0,fun H l h3=>absurd ⟨⟨H,l⟩,h3⟩ h⟩)
  have I:∀ s ∈ dd x.room x.eH ss,∃ n p mi,yN s n p mi:=fun s h=>by
   obtain⟨y,hy,rfl⟩:=asH.1 h;exact th (W y (List.mem_filter.1 hy).1)
  have i6:(dd x.room x.eH ss).length≤1000:=by
   unfold dd;rw [asi];exact asz (atu _ _) hl
  obtain⟨d,hd,c_⟩:=Dr .fs (dd x.room x.eH ss++[x.st]) (by simp;omega) fun s h=>by
   rcases asw.1 h with h | h
   ·exact I s h
   ·rw [asj.1 h];exact th B
  obtain⟨b9,f7,-,b_⟩:∃ rf:List Int,rf.length=8∧True∧∀(sd:FC) (K:aj),∃ J,Ev tab (.fn 77) [.c (.f (ez (gd af j) sd x))] K (.t [.a (rf.map fun n=>.f (fi n)),vi 0]) (K++J):=by
   refine⟨if 10<x.size then [14,0,0,0,0,0,0,0]else [0,0,0,0,0,0,0,0],by split<;>rfl,trivial,fun sd K=>?_⟩;obtain⟨rf,-,i4,h⟩:=A1 af j sd x (oY B).r0 (oY B).r1;rw [←i4];exact h K
  have Z:=oY B;have M:∃ hr:List Int,hr.length=8∧∀(sd:FC) (K:aj),∃ K',Ev tab (.fn 78) [.c (.f (ez (gd af j) sd x))] K (.t [rE hr,vi 0]) K'∧Kp K K':=by
   obtain⟨m,r,t,z,n,p,mi,le,rfl,b⟩:=B;obtain⟨k,hk,i7⟩:=b.i0;refine⟨qM n p mi le,by unfold qM;split<;>rfl,fun sd K=>?_⟩;have:=aaF af j sd (m:=m) (r:=r) (t:=t) (z:=z) ⟨b.n0,b.n1,b.p0,b.p1⟩ hk le (by have:=b.l0;omega) (by have:=b.l1;omega) b.r0 b.r1 K;have e:((20*k:Nat):Int)=mi:=by omega
   rw [e]at this;exact this
  obtain⟨h_,f8,f_⟩:=M;obtain⟨rs,S⟩:∃ rs:List (List Int),rs=[b9,h_,gX af x mt (fun s=>(F s).1) (fun s=>(F s).2.1) (fun s=>(F s).2.2) (ss.filter fun s=>shB af j s.room x.room),
   Pg (if(qR x.eH (cz af j x.room).q).2 then BZ (qR x.eH (cz af j x.room).q).1 (15+7*(d:Int)) e_ (fun q=>wu (fun s=>wk (q,s)) 0 (dd x.room x.eH ss)) 200 (-1)else ab)]:=⟨_,rfl⟩
  have h8:∀ r ∈ rs,r.length=8:=by
   intro r hr;rw [S]at hr;simp only [asv,atc,or_false]at hr;rcases hr with rfl | rfl | rfl | rfl
   ·exact f7
   ·exact f8
   ·exact od ..
   ·exact B0 _
  refine⟨rL rs,0,tS h8,fun _=>⟨by rw [If,as6]at Q;exact Q.2,fun h0 s hsm a_ a8 hM=>?_⟩,fun g=>ZR af j g ss hl hs hm x (Df B) Q rs (by rw [S];rfl) h8 fun i hi K=>?_⟩
  ·have H:=xr h0 _ (by rw [S];simp:gX af x mt (fun s=>(F s).1) (fun s=>(F s).2.1) (fun s=>(F s).2.2) (ss.filter fun s=>shB af j s.room x.room) ∈ rs);have l:=rp H s (List.mem_filter.2 ⟨hsm,by rw [a_];exact abQ ..⟩);rcases l with l | l
   ·exact a8 l
   ·have:=(d9 s (W s hsm)).1.2 (by rw [N,N];exact aa7 a0 hM);rw [l]at this;cases this
  ·subst S
   match i,hi with
   | 0,_=>
    obtain⟨J,h⟩:=b_ (sl g (aC ss)) K;exact⟨_,h,Kp.push _ _⟩
   | 1,_=>exact f_ (sl g (aC ss)) K
   | 2,_=>
    refine Z_ af j g ss hl x Z (fun s h=>oY (W s h)) A (fun s h=>?_) mt (fun s h=>(d9 s (W s h)).2) _ _ _ (fun s h=>hF s (W s h)) K;rw [N];rcases h with rfl | h
    ·exact hG _ B
    ·exact hG _ (W s h)
   | 3,_=>
    exact abx af j g ss hl x Z.r0 Z.r1 (ahp B) d hd c_ e_ _ (fun n H l=>d_ n H l) (fun n H l=>ai3 af j g ss hl x n (fun s=>wk (n,s)) fun s h=>i5 (n,s) H l (I s h)) K
theorem Ca:(RK 117 [.c (.f .au),.c (.f .au)] (vb ae),fam.map fun x=>RK 118 [mx x.1 x.2,mx x.1 x.2] (vb ae)) =
  ((vb ae=vb ae),fam.map fun _=>(vb ae=vb ae)):=by kernel_rfl
theorem FN:bh tab 117 [.c (.f .au),.c (.f .au)]=Eq (vb ae)∧∀ n p,zW n p→bh tab 118 [mx n p,mx n p]=Eq (vb ae):=
 ⟨kG (asF Ca).1,fun n p h=>rh (args:=fun x:Int × Int=>[mx x.1 x.2,mx x.1 x.2]) (res:=fun _=>vb ae) (asF Ca).2 (iX h)⟩
theorem Eg(s:aT){n p mi:Int}(v:yN s n p mi)(O:s.xg=.nil):bh tab 63 [.a (s.row.map .f),.a (s.row.map .f)]=Eq (vb ae):=Kf.eq (by
 have N:s.cs.length=1:=by rw [v.cs];rfl
 have A:bh tab 117 [.c (.f (sl s.xg (aH s.xs))),.c (.f (sl s.xg (aH s.xs)))]=Eq (vb ae):=by rw [v.xs,O];exact FN.1
 refine cT rfl rfl fun H Q M=>?_;apply ai;simp [aT.row];apply ak;apply ai;simp [A];refine bp (by simp) ?_;apply ak;apply ai;simp;obtain⟨u,b⟩:=aI (H++[.box [.f (sl s.cg (aL s.cs)),.f (fi s.len),.f (sl s.xg (aH s.xs))] 0,.box [.f (sl s.cg (aL s.cs)),.f (fi s.len),.f (sl s.xg (aH s.xs))] 0]:aj);have I:u[H.length]?=aa (.box [.f (sl s.cg (aL s.cs)),.f (fi s.len),.f (sl s.xg (aH s.xs))] 0):=by rw [b];simp
 have S:u[H.length+1]?=aa (.box [.f (sl s.cg (aL s.cs)),.f (fi s.len),.f (sl s.xg (aH s.xs))] 0):=by rw [b];simp
 have y:∃ J,u=H++J:=⟨_,b⟩
 rw [←b];refine py s.cs.length (fun j t H'=>t.g 2=.c (.ptr H.length 0 0)∧t.g 3=.c (.ptr (H.length+1) 0 0)∧H'=u) (by omega) rfl (by simp) ⟨by simp,by simp,rfl⟩ ?_ ?_ ?_
 ·rintro j t _ L m ⟨d,l,rfl⟩ g K;simp [g,d,I];exact K _ ⟨by simp [d],by simp [l],rfl⟩ (by simp [g]) (by simp)
 ·rintro j t _ m ⟨d,l,rfl⟩ g next
  have B:=fun H:aj=>m6 (H:=H) (cY s.cs) (eg m) rfl;have E:=fun H:aj=>ib (H:=H) (k:=1) (cY s.cs) (eg m) rfl;have F:=fun H:aj=>Ft (H:=H) (k:=0) (n:=1) (cY s.cs) (eg m) (by decide);simp [cN.row]at B E F;have z:j=0:=by omega
  have x:s.cs[j]=⟨.fs,[td n p],mi⟩:=by subst z;simp [v.cs]
  rw [x]at B E F;have q:=FN.2 n p v.sm;change bh tab 118 [.a [.f (sl .fs (aJ [td n p]))],.a [.f (sl .fs (aJ [td n p]))]]=_ at q;refine aG ?_;apply ai;simp [g,d,l,I,S,bC,m,B,E,F,q];exact aD (by simp) (aO (aw (next _ _ ⟨by simp [d],by simp [l],rfl⟩ (by simp [g]))))
 ·rintro t _ ⟨d,l,rfl⟩ g;apply ai;simp;refine aB (M _ _ ?_);simp [y])
theorem Pz(s:aA)(g:nL s):bh tab 29 [.a (s.row.map .f),.a (s.row.map .f)]=Eq (vb ae):=Kf.eq (by
 obtain⟨n,p,mi,j⟩:=th g;have q:s.st.xg=.nil:=by obtain⟨m,r,t,z,n,p,mi,le,rfl,b⟩:=g;rfl
 have d:=Eg s.st j q;simp [aT.row]at d;refine cT rfl rfl fun H Q l=>?_;apply ai;simp [aA.row];apply ai;simp [d];refine aB (l _ _ ?_);simp)
theorem abT(s:bl)(g:nL s.bc):bh tab 19 [.a (s.row.map .f),.a (s.row.map .f)]=Eq (vb ae):=Kf.eq (by
 have b:=Pz s.bc g;simp [aA.row]at b;refine cT rfl rfl fun H Q d=>?_;apply ai;simp [bl.row];apply ai;simp [b];refine aB (d _ _ ?_);simp)
def nC(c:List Int):List FC:=c.map fun x=>.int .u8 x
def CE(L:List (List Int)):List (List FC):=L.map nC
def gN(k:Nat)(c:List Int):Prop:=c.length=k∧∀ x ∈ c,0≤x∧x≤255
theorem Cs{k:Nat}{L:List (List Int)}(h:∀ c ∈ L,gN k c):cC k (CE L):=by
 intro r d;obtain⟨c,b,rfl⟩:=asH.1 d;simp [nC,(h c b).1]
@[simp] theorem aqn (L:List (List Int)):(CE L).length=L.length:=by simp [CE]
theorem acq{L:List (List Int)}{j:Nat}(b:j<L.length):(CE L)[j]?=aa (nC L[j]):=by simp [CE,b]
def jr:List Int→aA
 | [d,g,j,l,b,m,q,s]=>sV (1+d % 7) (g % 3) (j % 3) (1+l % 12) (1+b % 6) (m % (1+b % 6)) (20*(q % 60)) (10+10*(s % 30))| _=>sV 0 0 0 0 0 0 0 0
theorem xU{c:List Int}(h:c.length=8):∃ b d g j l m q s,c=[b,d,g,j,l,m,q,s]:=by
 match c,h with
 | [b,d,g,j,l,m,q,s],_=>exact⟨_,_,_,_,_,_,_,_,rfl⟩
theorem mU{c:List Int}(h:gN 8 c):nL (jr c)∧1≤(jr c).meet∧(jr c).meet≤7:=by
 obtain⟨b,j,l,m,q,s,d,u,rfl⟩:=xU h.1;have g:=h.2 d (by simp);refine⟨⟨_,_,_,_,_,_,_,_,rfl,?_⟩,?_,?_⟩
 ·refine⟨by omega,by omega,by omega,by omega,by omega,by omega,by omega,by omega,by omega,by omega,?_,?_,⟨(d % 60).toNat,by omega,by omega⟩,by omega,by omega⟩
  ·exact Int.emod_nonneg _ (by omega)
  ·exact Int.emod_lt_of_pos _ (by omega)
 ·show 1≤1+b % 7;omega
 ·show 1+b % 7≤7;omega
theorem aa6{s:aA}(h:nL s){m:Int}(h0:1≤m)(d:m≤22):nL { s with meet:=m }:=by
 obtain⟨_,r,t,z,n,p,mi,le,rfl,b⟩:=h;exact⟨m,r,t,z,n,p,mi,le,rfl,⟨h0,d,b.r0,b.r1,b.t0,b.t1,b.z0,b.z1,b.n0,b.n1,b.p0,b.p1,b.i0,b.l0,b.l1⟩⟩
theorem A8{c:List Int}(h:gN 8 c):bh tab 37 [.a ((nC c).map .f)]=Eq (.a ((jr c).row.map .f)):=by
 obtain⟨b,d,g,j,l,m,q,s,rfl⟩:=xU h.1;exact acb b d g j l m q s h.2
def lQ(i:Int):List (List Int)→List aA
 | []=>[]| c::r=>{ jr c with meet:=20+i }::lQ (i+1) r
theorem Cl(a:List Int):∀(l:List (List Int)) (i:Int),lQ i (l++[a])=lQ i l++[{ jr a with meet:=20+(i+l.length) }]
 | [],i=>by simp [lQ]
 | c::r,i=>by
  have:=Cl a r (i+1);simp only [ati,lQ,this,asX];rw [show i+1+(r.length:Int)=i+((r.length+1:Nat):Int) by omega]
theorem we:∀(l:List (List Int)) (i:Int),(lQ i l).length=l.length
 | [],_=>rfl| c::r,i=>by simp [lQ,we r]
theorem wg:∀ {l:List (List Int)} {i:Int} {s:aA},s ∈ lQ i l→∃ c ∈ l,∃ k:Nat,k<l.length∧s = { jr c with meet:=20+(i+k) }
 | [],_,_,h=>by simp [lQ]at h
 | c::r,i,s,h=>by
  rcases asv.1 h with rfl | h
  ·exact⟨c,asn,0,by simp,by simp⟩
  ·obtain⟨d,b,k,g,e⟩:=wg h;refine⟨d,asm _ b,k+1,by simpa using g,?_⟩;rw [e,show i+1+(k:Int)=i+((k+1:Nat):Int) by omega]
theorem wc:∀(l:List (List Int)) (i:Int),kd (lQ i l)
 | [],_=>List.Pairwise.nil
 | c::r,i=>by
  refine List.pairwise_cons.2 ⟨fun s b=>?_,wc r (i+1)⟩;obtain⟨d,-,k,-,rfl⟩:=wg b;simp only [dC,decide_eq_false_iff_not];omega
theorem Cj(g0:Tg)(L:List (List Int))(Z:∀ c ∈ L,gN 8 c)(hl:L.length≤9223372036854775807):∃ g,bh tab 36 [.c (.f (sl g0 (CE L)))]=Eq (.c (.f (sl g (aC (lQ 0 (L.take 3)))))):=by
 obtain⟨r,⟨g,rfl⟩,hp⟩:∃ r,(∃ g,r=.c (.f (sl g (aC (lQ 0 (L.take 3))))))∧bh tab 36 [.c (.f (sl g0 (CE L)))] r:=by
  refine fg rfl rfl fun Q hQ=>?_;have q:∀ J:aj,bt J (.f (sl g0 (CE L)))=aa L.length:=fun J=>by simp
  apply ai;simp;apply ai;simp;apply ak;apply ai;simp;obtain⟨n,hn⟩:=aI (min L.length 3);refine py n (fun j t J=>t.g 0=.c (.f (sl g0 (CE L)))∧∃ c,t.g 3=.c c∧LR J c 7 (aC (lQ 0 (L.take j)))) (by omega) rfl (by simp) ⟨by simp,.f .au,by simp,by simpa [aC,lQ]using LR.nil [] 7⟩ ?_ ?_ ?_
  ·rintro j t J K hj ⟨b,c,B,d⟩ l a;by_cases E:j<L.length
   ·simp [l,b,q,E];exact a _ ⟨by simp [b],c,by simp [B],d⟩ (by simp [l]) (by simp;omega)
   ·simp [l,b,q,E];exact a _ ⟨by simp [b],c,by simp [B],d⟩ (by simp [l]) (by simp;omega)
  ·rintro j t J hj ⟨b,c,B,d⟩ l next
   have z:j<L.length:=by omega
   have m:=fun H:aj=>bC (H:=H) (g:=g0) (rows:=CE L) (sz:=8) (k:=.i64) (i:=(j:Int)) (by omega) (by simp;omega);have I:=fun H:aj=>cf (H:=H) (Cs Z) (acq z);simp only [asy]at m;have O:=A8 (Z _ (anc z));have Y:L.take (j+1)=L.take j++[L[j]]:=by rw [asQ,By z];rfl
   have y:lQ 0 (L.take (j+1))=lQ 0 (L.take j)++[{ jr L[j]with meet:=20+j }]:=by
    rw [Y,Cl,ast,show min j L.length=j by omega];simp
   generalize L[j]=cl at *;obtain⟨s,hs⟩:=aI (jr cl);rw [←hs]at O y;have X:s.row.length=7:=rfl;obtain⟨S,v⟩:=aI (J++[bq.box (s.row.map .f) 0]);have U:S[J.length]?=aa (.box (s.row.map .f) 0):=by rw [v];simp
   have E:=d.push [bq.box (s.row.map .f) 0];rw [←v]at E;refine aG ?_;apply ai;simp [b,l,m,I,O,X,-av];rw [←v];obtain⟨u,M⟩:=aI ({ s with meet:=20+(j:Int) }:aA);rw [←M]at y;obtain⟨A,x⟩:=aI (S.set J.length (.box (u.row.map .f) 0));have s1:de S (.ptr J.length 0 0) [.f (fi (20+(j:Int)))]=aa A:=by rw [x,M];simp [de,U,over,aA.row]
   have f:A[J.length]?=aa (.box (u.row.map .f) 0):=by rw [x];exact IN (an U)
   have l2:aS A (aa 7) (.c (.ptr J.length 0 0))=aa (.a (u.row.map .f)):=by simp [aS,aE,f,aQ,aA.row]
   have h2:LR A c 7 (aC (lQ 0 (L.take j))):=by rw [x];exact E.set (E.ot U) _
   apply ai;simp [l,aU (n:=20+(j:Int)),s1,-bf];have h3:=h2.push [bq.box (u.row.map .f) 0];have o:(A++[bq.box (u.row.map .f) 0])[A.length]?=aa (.box (u.row.map .f) 0):=by simp
   obtain⟨e,J3,p,w,e3,e4⟩:=h3.app (bw _) (by decide) (row:=u.row) rfl (bytes:=88) (by simp [bY,aC,we];omega) o;have N:u.row.length=7:=rfl;refine al (.inl rfl) ?_;simp [B,l2,N,p,-av];refine aw (next _ _ ⟨by simp [b],e,by simp,?_⟩ (by simp [l]));rw [y];simpa [aC]using w
  ·rintro t J ⟨b,c,B,d⟩ l;have W:L.take n=L.take 3:=by
    rw [hn];rcases Nat.le_total L.length 3 with h | h
    ·rw [Nat.min_eq_left h,asK,arf h]
    ·rw [Nat.min_eq_right h]
   rw [W]at d;obtain⟨g,F⟩:=d.ex (bw _) 63;change eG deep J c=_ at F;apply ai;simp [B];refine aB (hQ _ _ _ ⟨g,rfl⟩ ?_);simp [F]
 exact⟨g,hp.eq⟩
structure iy where
 af:Int
 qu:Int
 lg:Tg
 L:List (List Int)
 og:Tg
 O:List (List Int)
def iy.row(p:iy):List FC:=[.int .u8 p.af,.int .u16 p.qu,sl p.lg (CE p.L),sl p.og (CE p.O)]
structure lS(p:iy):Prop where
 a0:0≤p.af
 a1:p.af≤255
 q0:0≤p.qu
 q1:p.qu≤65535
 L:∀ c ∈ p.L,gN 8 c
 O:∀ c ∈ p.O,gN 11 c
 Ll:p.L.length≤9223372036854775807
 Ol:p.O.length≤9223372036854775807
def iy.l0(p:iy):List aA:=lQ 0 (p.L.take 3)
theorem vF(p:iy)(h:lS p):∃ g,bh tab 14 [.a (p.row.map .f)]=Eq (.a [.f (gd (p.af % 40) (p.qu % 3000)),.f (sl g (aC p.l0))]):=by
 obtain⟨g,d⟩:=Cj p.lg p.L h.L h.Ll;refine⟨g,bh.eq (bV rfl rfl fun Q j=>?_)⟩;have l:=abE p.af p.qu h.a0 h.a1 h.q0 h.q1;change _=Eq (V.c (.f (gd (p.af % 40) (p.qu % 3000))))at l;change _=Eq (V.c (.f (sl g (aC p.l0))))at d;obtain⟨u,m⟩:=aI (gd (p.af % 40) (p.qu % 3000));obtain⟨v,q⟩:=aI (sl g (aC p.l0));obtain⟨s,b⟩:=aI (sl p.lg (CE p.L));rw [←m]at l j;rw [←q]at d j;rw [←b]at d;apply ai;simp [iy.row,←b];apply ai;simp [l,d];refine aB (j _ _ ?_);simp [iV,cK,bg]
theorem ao4(p:iy)(h:lS p):kd p.l0∧p.l0.length≤3∧∀ s ∈ p.l0,nL s∧20≤s.meet:=by
 refine⟨wc _ _,by unfold iy.l0;rw [we,ast];omega,fun s g=>?_⟩;obtain⟨c,b,k,d,rfl⟩:=wg g;rw [ast]at d;exact⟨aa6 (mU (h.L c (List.mem_of_mem_take b))).1 (by omega) (by omega),by show 20≤20+(0+(k:Int));omega⟩
theorem zu{o:List Int}(h:gN 11 o):∃ k i t c,o=k::i::t::c∧gN 8 c∧(0≤k∧k≤255)∧(0≤i∧i≤255)∧(0≤t∧t≤255):=by
 match o,h with
 | [k,i,t,b,d,g,j,l,m,q,s],h=>exact⟨k,i,t,[b,d,g,j,l,m,q,s],rfl,⟨rfl,fun x u=>h.2 x (asm _ (asm _ (asm _ u)))⟩,h.2 _ (by simp),h.2 _ (by simp),h.2 _ (by simp)⟩
def Bk(i t b:Int)(c:List Int):bl:=⟨1+i % 8,b+t % 50-2,1,jr c⟩
theorem vO(k i t d:Int)(c:List Int)(v:gN 8 c)(hi:0≤i∧i≤255)(K:0≤t∧t≤255)(h0:0≤d)(L:d≤1000000) :
  bh tab 15 [.a ((nC (k::i::t::c)).map .f),vi d]=Eq (.a ((Bk i t d c).row.map .f)):=bh.eq (by
 refine bV rfl rfl fun Q u=>?_;have j:=A8 v;obtain⟨y,z,A,B,E,F,H,I,g⟩:=xU v.1;have J:=iR (k:=.u8) (b:=8) hi.1 (by decide);have l:=iR (k:=.u8) (b:=50) K.1 (by decide);have m:((nC c).map C.f)=[.f (.int .u8 y),.f (.int .u8 z),.f (.int .u8 A),.f (.int .u8 B),.f (.int .u8 E),.f (.int .u8 F),.f (.int .u8 H),.f (.int .u8 I)]:=by rw [g];rfl
 obtain⟨s,q⟩:=aI (jr c);have x:Bk i t d c=⟨1+i % 8,d+t % 50-2,1,s⟩:=by rw [q];rfl
 rw [x]at u;rw [←q,m]at j;clear q x;subst g;apply ai;simp [nC];apply ai;simp [J,l,j,aA.row,aT.row,aQ,aU (n:=i % 8),aU (n:=1+i % 8),aU (n:=t % 50),aU (n:=d+t % 50),aU (n:=d+t % 50-2)];refine aB (u _ _ ?_);simp [iV,cK,bg,bl.row])
end Go.Proofs.YtnaofdffomdmhaaGreat
