/-
  am1 ta nM kS and ta ni answer, for all arguments of adM kind, in ta small machine: part 4.
-/
import Derived.Test.YtnaofdffomdmhaaGreatS3
import Derived.Test.YtnaofdffomdmhaaGreatS2
import Derived.Test.YtnaofdffomdmhaaGreatProg
import Derived.Test.YtnaofdffomdmhaaGreatK4
open Option renaming some → aa,none → ab
open Bool renaming true → ae,false → ag
open List renaming mem_cons → auc, mem_map → auq, mem_cons_of_mem → at5, mem_cons_self → at4, mem_filter → auS, mem_append → auh, mem_singleton → aua, not_mem_nil → auT, cons_append → auX, length_cons → auo, pairwise_cons → auN, getElem_mem → at2, take_add_one → auz, getElem?_eq_getElem → asZ, length_take → aur, getElem?_set_self → atY, take_length → auv, take_of_length_le → at8, mem_of_mem_take → auW, getElem?_set_ne → aft, getElem?_append_left → anc, getElem?_append_right → atZ, getElem_of_mem → auI, any_eq_false → avj, drop_eq_getElem_cons → at7, take_append_drop → auA, map_cons → aug, any_eq_true → au3
open Nat renaming le_trans → aum, min_eq_left → avm, le_refl → at3
open Bool renaming and_eq_true → atI, not_eq_true' → auZ, false_eq_true → aub, eq_iff_iff → au6
open Int renaming emod_nonneg → auB, emod_lt_of_pos → auy, toNat_natCast → aui
set_option linter.unusedVariables false
set_option linter.constructorNameAsVariable false
set_option linter.unusedSimpArgs false
set_option linter.unusedSectionVars false
set_option linter.unnecessarySimpa false
set_option maxRecDepth 100000
namespace Go.Proofs.YtnaofdffomdmhaaGreat
open Go Km
theorem lN{s:av}(h:jd s):OY s:=by
 obtain⟨m,r,t,z,n,p,mi,le,rfl,b⟩:=h;obtain⟨k,j,g⟩:=b.i0;refine⟨b.r0,b.r1,by simp [oy],fun c d=>?_,by have:=b.l0;show 1≤le;omega,b.l1,rfl⟩;simp [oy]at d;rw [d];show 0≤mi∧mi≤1180;omega
theorem Aa{s:av}(h:jd s):∃ n p mi,jx s.st n p mi:=by
 obtain⟨m,r,t,z,n,p,mi,le,rfl,b⟩:=h;obtain⟨k,g,d⟩:=b.i0;exact⟨n,p,mi,Co ⟨b.n0,b.n1,b.p0,b.p1⟩ (by omega) (by omega) (by have:=b.l0;omega) (by have:=b.l1;omega)⟩
theorem zZ{s:av}(h:jd s):s.st.Sm:=by
 obtain⟨m,r,t,z,n,p,mi,le,rfl,b⟩:=h;exact Ab ..
theorem aiR{s:av}(h:jd s):V.beq (.a (s.st.row.map .f)) (.a (s.st.row.map .f))=ae:=by
 obtain⟨m,r,t,z,n,p,mi,le,rfl,b⟩:=h;show V.beq (.a ((tZ n p mi le).map .f)) (.a ((tZ n p mi le).map .f))=ae;simp [tZ,wb,V.beq,C.beq,FC.beq,iG]
theorem Cl{s:av}(h:jd s){af:Int}(x:0≤af)(a1:af≤39)(g j:Tg):jQ (gE af s g j):=by
 obtain⟨m,r,t,z,n,p,mi,le,rfl,b⟩:=h;obtain⟨k,y,u⟩:=b.i0;have l0:=b.l0;have A:=b.l1;have l:AS n p:=⟨b.n0,b.n1,b.p0,b.p1⟩
 have v:=lO (m:=0) (r:=0) (t:=0) (z:=0) (mi:=mi) (le:=le+0+af) l (by omega) (by omega) (by omega) (by omega);have q:mi-0=mi:=by omega
 refine⟨by show 1≤le+0+af∧le+0+af≤400;omega,by simp [gE,oy],fun {c} d=>?_,?_,?_,fun c d=>?_,rfl⟩
 ·simp [gE,oy,kD]at d;rw [d];show 0≤mi∧mi≤1180;omega
 ·have:=Ab m r t z n p mi (le+0+af);simpa [aJ.Sm,gE,oy,kD]using this
 ·have:dU (gE af (oy m r t z n p mi le) g j)=dU (oy 0 0 0 0 n p mi (le+0+af)).st:=by
   show dU ⟨g,[⟨.fs,[⟨.fs,[⟨.nil,[],0,n,.fs,[p]⟩]⟩],mi-0⟩],le+0+af,j,[]⟩=dU ⟨.fs,[⟨.fs,[⟨.fs,[⟨.nil,[],0,n,.fs,[p]⟩]⟩],mi⟩],le+0+af,.nil,[]⟩;rw [q];rfl
  rw [this];exact v
 ·simp [gE,oy,kD]at d;rw [d];exact⟨n,p,l,rfl⟩
theorem Qo{s:av}(h:jd s){af:Int}(j:0≤af)(a1:af≤39)(b d:Tg):bo tab 53 [.a ((gE af s b d).row.map .f)]=Eq (vb ae):=by
 have g:=Cl h j a1 b d;have:=(jw _ g.sm).eq;rwa [g.v]at this
theorem yu:∀ {d:List (List Int)},(mD d).headD 0=0→∀ r ∈ d,r.headD 0=0
 | [],_,_,h=>by simp at h
 | r::l,h,y,b=>by
  unfold mD at h;split at h
  ·rename_i h0;rcases auc.1 b with rfl | b
   ·exact h0
   ·exact yu h y b
  ·rename_i h0;exact absurd h h0
theorem sL{af:Int}{x:av}{mt:av→Bool}{fx fy:av→aI}{fd:av→Bool}:∀ {l:List av},(fI af x mt fx fy fd l).headD 0=0→∀ s ∈ l,s.meet=x.meet∨mt s=ag
 | [],_,_,h=>by simp at h
 | s::r,h,y,b=>by
  unfold fI at h;split at h
  ·rename_i h0;rcases auc.1 b with rfl | b
   ·exact h0
   ·exact sL h y b
  ·unfold Pf at h;split at h<;>simp at h
theorem acu{x s:av}{af:Int}(v:0≤af){b g j l:Tg}(h:gZ x.st s.st):gZ (gE af x b g) (gE af s j l):=by
 obtain⟨c,q,d,u,k,y,z,m⟩:=h;refine⟨kD 0 c,auq.2 ⟨c,q,rfl⟩,kD 0 d,auq.2 ⟨d,u,rfl⟩,k,?_,?_,m⟩
 ·unfold uA at *;simp only [kD,gE];omega
 ·unfold uu at *;simp only [kD,gE];omega
theorem aqT(af g r b:Int):mE b (cf af g r).q=if r=0∧b=1 then(g,ae)else(0,ag):=by
 unfold cf mw;by_cases h:r=0
 ·by_cases e:b=1
  ·simp [mE,h,e]
  ·simp [mE,h,e,Ne.symm e]
 ·by_cases d:r=1
  ·simp [mE,d]
  ·simp [mE,h,d]
structure Fits(af qu:Int)(ss:List av)(x:av):Prop where
 sz:x.size≤10
 hr:Er x.st+x.st.len≤1440
 cl:∀ s ∈ ss,GI af qu s.room x.room=ae→s.meet≠x.meet→¬ gZ (gE af x .nil .nil) (gE af s .nil .nil)
 qt:x.room=0→x.dB=1→∀ q,0≤q→cS (bX 0 1 ss) q+ng x.st q≤qu
def zI(af g:Int)(ss:List av)(x:av)(b:List Int):Prop:=
 (10<x.size∧b=[14,0,0,0,0,0,0,0]) ∨
 (∃ n p mi,jx x.st n p mi∧(∃ k:Nat,k<60∧mi=20*k)∧1440<mi+x.st.len∧b=[16,0,p,p*1440+mi,p*1440+mi+x.st.len,0,0,0]) ∨
 (∃ s ∈ ss,∃ f:FS,GI af g s.room x.room=ae∧s.meet≠x.meet∧mB (-2251799813685248) (fun X Y=>fM (gE af x .nil .nil) X∧fM (gE af s .nil .nil) Y) f∧f.found=ae∧fM (gE af x .nil .nil) f.X∧fM (gE af s .nil .nil) f.Y∧okB (-2251799813685248) f.X f.Y∧b=Pf af s f.X f.Y ae) ∨
 (x.room=0∧x.dB=1∧∃ q d y j,0≤q∧q≤100∧jI x.st q=d++y::j∧g<cS (bX 0 1 ss) q+fS (d++[y])∧b=[14,0,y.day,y.fr,y.to,0,0,0])
theorem FF:∀(b:List (List Int)),((mD b).headD 0=0∧mD b=km)∨((mD b).headD 0≠0∧mD b ∈ b)
 | []=>.inl ⟨rfl,rfl⟩
 | r::l=>by
  unfold mD;split
  ·rcases FF l with h | ⟨h,d⟩
   ·exact .inl h
   ·exact .inr ⟨h,at5 _ d⟩
  ·rename_i h;exact .inr ⟨h,at4⟩
theorem sK{af:Int}{x:av}{mt:av→Bool}{fx fy:av→aI}{fd:av→Bool}:∀ {l:List av},(fI af x mt fx fy fd l).headD 0≠0→∃ s ∈ l,s.meet≠x.meet∧mt s=ae∧fI af x mt fx fy fd l=Pf af s (fx s) (fy s) (fd s)
 | [],h=>by simp [fI]at h
 | s::r,h=>by
  unfold fI at h ⊢;split at h
  ·rename_i h0;rw [bg h0];obtain⟨y,g,b⟩:=sK h;exact⟨y,at5 _ g,b⟩
  ·rename_i h0;rw [aY h0];refine⟨s,at4,fun e=>h0 (.inl e),?_,rfl⟩;cases d:mt s with
   | true=>rfl| false=>exact absurd (.inr d) h0
theorem BU{ss:List av}(b:∀ s ∈ ss,jd s)(r t:Int):oh (bX r t ss):=fun s h=>by
 obtain⟨y,d,rfl⟩:=auq.1 h;exact Aa (b y (auS.1 d).1)
theorem uX(af l:Int)(a0:0≤af)(a1:af≤39)(ss:List av)(hl:ss.length≤1000)(hs:ss.Pairwise eL)(hf:∀ s ∈ ss,jd s)(x:av)(Q:jd x) :
  ∃ rf:List Int,rf.length=8∧((eX af l ss x&&!fh ss x)=ae→(rf=km∧Fits af l ss x)∨(rf.headD 0≠0∧zI af l ss x rf))∧((eX af l ss x&&!fh ss x)=ag→rf=km) ∧
   ∀ g,bo tab 44 [.c (.f (fR af l)),.c (.f (sl g (ak ss))),.a (x.row.map .f)]=Eq (.t [qN rf,vi (if eX af l ss x&&!fh ss x then 0 else 1)]):=by
 have hm:∀ s ∈ ss,s.st.Sm:=fun s h=>zZ (hf s h);cases j5:(eX af l ss x&&!fh ss x)with
 | false=>exact⟨km,rfl,fun h=>absurd h (by simp),fun _=>rfl,fun g=>by simpa using abb af l g ss hl hs hm x (zZ Q) j5⟩
 | true=>
  obtain⟨G,hG⟩:=Classical.skolem.1 (show ∀ s:av,∃ g:Tg × Tg,jd s→bo tab 137 [.c (.f (fR af l)),.a (s.row.map .f)]=Eq (.t [.a ((gE af s g.1 g.2).row.map .f),vb ae]) from fun s=>by
   by_cases h:jd s
   ·obtain⟨g1,g2,U⟩:=Cm af l a0 a1 s (lN h) (Qo h a0 a1);exact⟨(g1,g2),fun _=>U⟩
   ·exact⟨(.nil,.nil),fun U=>absurd U h⟩)
  obtain⟨N,W⟩:∃ N:av→aJ,∀ s,N s=gE af s (G s).1 (G s).2:=⟨_,fun _=>rfl⟩
  have I:∀ s,jd s→jQ (N s):=fun s h=>by rw [W];exact Cl h a0 a1 _ _
  have m_:∀ s t,gZ (N s) (N t)↔gZ (gE af s .nil .nil) (gE af t .nil .nil):=fun s t=>by rw [W,W];exact Iff.rfl
  have a_:∀ s y,fM (N s) y↔fM (gE af s .nil .nil) y:=fun s y=>by rw [W];exact Iff.rfl
  obtain⟨mt,h_⟩:=Classical.skolem.1 (show ∀ s:av,∃ r:Bool,jd s→(r=ae↔gZ (N x) (N s))∧bo tab 25 [.a ((N x).row.map .f),.a ((N s).row.map .f)]=Eq (.t [vb r,vi 0]) from fun s=>by
   by_cases h:jd s
   ·obtain⟨r,U⟩:=BQ (N x) (N s) (I x Q) (I s h);exact⟨r,fun _=>U⟩
   ·exact⟨ag,fun U=>absurd U h⟩)
  obtain⟨F,hF⟩:=Classical.skolem.1 (show ∀ s:av,∃ q:FS,jd s→mB (-2251799813685248) (fun X Y=>fM (N x) X∧fM (N s) Y) q∧bo tab 138 [.a ((N x).row.map .f),.a ((N s).row.map .f),vi (-2251799813685248)]=Eq (.t [.a (q.X.row.map .f),.a (q.Y.row.map .f),vb q.found]) from fun s=>by
   by_cases h:jd s
   ·obtain⟨w,M,U⟩:=PH (N x) (N s) (I x Q) (I s h) (-2251799813685248) (by omega) (by omega);exact⟨w,fun _=>⟨M,U⟩⟩
   ·exact⟨⟨0,ag,⟨0,0,0⟩,⟨0,0,0⟩⟩,fun U=>absurd U h⟩)
  obtain⟨nx,px,q_,b_⟩:=Aa Q;obtain⟨T,hT⟩:=aK (bX x.room x.dB ss);have H:oh T:=by rw [hT];exact BU hf _ _
  have r5:T.length≤1000:=by
   rw [hT];unfold bX;rw [List.length_map];exact aum (List.length_filter_le _ _) hl
  have Z:∀ s ∈ T++[x.st],∃ n p mi,jx s n p mi:=fun s h=>by
   rcases auh.1 h with h | h
   ·exact H s h
   ·rw [aua.1 h];exact⟨nx,px,q_,b_⟩
  obtain⟨hd,e_⟩:=D8 .fs (T++[x.st]) (by simp;omega) Z;obtain⟨d,i8⟩:=aK (xE 1 (T++[x.st]));have k_:∀ s ∈ x.st::T,∀ n p mi,jx s n p mi→n ∣ (d:Int):=fun s h n p mi M=>by
   have:=(Cb (L:=T++[x.st]) (d:=1) fun s h=>by
    obtain⟨n,p,mi,M⟩:=Z s h;have:=M.sm.1;rw [M.eS];omega).2 s (by
     rcases auc.1 h with rfl | h
     ·simp
     ·simp [h])
   rw [M.eS,←i8]at this;exact this
  rw [←i8]at hd e_;have j9:=ud hd;have j_:1≤d:=by
   simp only [tn,auc,auT,or_false]at hd;omega
  have j7:∀ n,-1≤n→n≤100→(jI x.st n).length≤10∧∃ g,bo tab 128 [.a (x.st.row.map .f),vi n]=Eq (.c (.f (sl g (aH (jI x.st n))))):=fun n M u=>by
   have:=qo x.st n;exact⟨by omega,yx x.st b_ n M u⟩
  have p_:∀ q,-1≤q→q≤100→∀ s ∈ T,∃ v,bo tab 128 [.a (s.row.map .f),vi q]=Eq (.c (.f v))∧bo tab 202 [.c (.f v)]=Eq (vi (ng s q)):=fun q M u s h=>by
   obtain⟨n,p,mi,hs⟩:=H s h;obtain⟨g,hb⟩:=yx s hs q M u;refine⟨_,hb,?_⟩;have:=qo s q;have j4:=Es g (jI s q) (by omega) fun y hy=>by
    obtain⟨j,hj,hq,-,rfl⟩:=Ay hy;have m0:=hs.m0;have m1:=hs.m1;have l0:=hs.l0;have l1:=hs.l1;rw [hs.min];simp only [cQ];omega
   rw [wZ]at j4;exact j4
  have i6:∀ g n,-1≤n→n≤100→bo tab 127 [.c (.f (eg (fR af l) (sl g (ak ss)) x)),vi n]=Eq (vi (cS T n)):=fun g n M u=>by
   have:=akD af l g ss hl x n (fun s=>ng s n) (by rw [←hT];exact p_ n M u);rw [←hT,QS T n H (by omega) (by omega) (by omega),Int.zero_add]at this;exact this
  have c_:∀(sd:FC) (K:aj),∃ J,Ev tab (.fn 77) [.c (.f (eg (fR af l) sd x))] K (.t [.a ((if 10<x.size then [14,0,0,0,0,0,0,0]else [0,0,0,0,0,0,0,0]:List Int).map fun n=>.f (fi n)),vi 0]) (K++J):=fun sd K=>by
   obtain⟨rf,-,o_,h⟩:=BD af l sd x (lN Q).r0 (lN Q).r1;rw [←o_];exact h K
  have g_:=lN Q;have b9:∃ hr:List Int,hr.length=8∧((hr.headD 0=0∧Er x.st+x.st.len≤1440)∨(hr.headD 0≠0∧zI af l ss x hr))∧∀(sd:FC) (K:aj),∃ K',Ev tab (.fn 78) [.c (.f (eg (fR af l) sd x))] K (.t [qN hr,vi 0]) K'∧Kp K K':=by
   obtain⟨m,r,t,z,n,p,mi,le,rfl,b⟩:=Q;obtain⟨k,hk,m9⟩:=b.i0;have j6:jx (oy m r t z n p mi le).st n p mi:=Co ⟨b.n0,b.n1,b.p0,b.p1⟩ (by omega) (by omega) (by have:=b.l0;omega) (by have:=b.l1;omega);refine⟨oQ n p mi le,by unfold oQ;split<;>rfl,?_,fun sd K=>?_⟩
   ·unfold oQ;split
    ·rename_i h;exact .inl ⟨rfl,h⟩
    ·rename_i h;exact .inr ⟨by simp,.inr (.inl ⟨n,p,mi,j6,⟨k,hk,m9⟩,by show 1440<mi+le;omega,rfl⟩)⟩
   ·have:=ab0 af l sd (m:=m) (r:=r) (t:=t) (z:=z) ⟨b.n0,b.n1,b.p0,b.p1⟩ hk le (by have:=b.l0;omega) (by have:=b.l1;omega) b.r0 b.r1 K;have e:((20*k:Nat):Int)=mi:=by omega
    rw [e]at this;exact this
  obtain⟨n_,l_,i9,m4⟩:=b9;obtain⟨S,O⟩:=aK (fI af x mt (fun s=>(F s).X) (fun s=>(F s).Y) (fun s=>(F s).found) (ss.filter fun s=>GI af l s.room x.room));obtain⟨qL,B⟩:=aK (ES (if(mE x.dB (cf af l x.room).q).2 then od (mE x.dB (cf af l x.room).q).1 (15+7*(d:Int)) (jI x.st) (cS T) 200 (-1)else ab));obtain⟨a8,E⟩:=aK (if 10<x.size then [14,0,0,0,0,0,0,0]else [0,0,0,0,0,0,0,0]:List Int);rw [←E]at c_;have d_:(a8.headD 0=0∧x.size≤10)∨(a8.headD 0≠0∧zI af l ss x a8):=by
   by_cases h:10<x.size
   ·rw [bg h]at E;exact .inr ⟨by rw [E];simp,.inl ⟨h,E⟩⟩
   ·rw [aY h]at E;exact .inl ⟨by rw [E];rfl,by omega⟩
  have d9:(S.headD 0=0∧∀ s ∈ ss,GI af l s.room x.room=ae→s.meet≠x.meet→¬ gZ (gE af x .nil .nil) (gE af s .nil .nil))∨(S.headD 0≠0∧zI af l ss x S):=by
   by_cases h:S.headD 0=0
   ·refine .inl ⟨h,fun s hsm i5 i4 hM=>?_⟩;rw [O]at h;have u:=sL h s (auS.2 ⟨hsm,i5⟩);rcases u with u | u
    ·exact i4 u
    ·have:=(h_ s (hf s hsm)).1.2 ((m_ x s).2 hM);rw [u]at this;cases this
   ·refine .inr ⟨h,.inr (.inr (.inl ?_))⟩;rw [O]at h;obtain⟨s,hsm,i4,n8,he⟩:=sK h;obtain⟨hsm,i5⟩:=auS.1 hsm;have hM:=(h_ s (hf s hsm)).1.1 n8;have f_:=(hF s (hf s hsm)).1;obtain⟨f1,f2,f3,f4⟩:=BZ (I x Q) (I s (hf s hsm)) f_ hM;refine⟨s,hsm,F s,i5,i4,?_,f1,(a_ x _).1 f2,(a_ s _).1 f3,f4,?_⟩
    ·exact f_.iff fun X Y _=>by rw [a_,a_]
    ·rw [O,he,f1]
  have j8:(qL.headD 0=0∧(x.room=0→x.dB=1→∀ q,0≤q→cS (bX 0 1 ss) q+ng x.st q≤l))∨(qL.headD 0≠0∧zI af l ss x qL):=by
   rw [aqT]at B;by_cases h:x.room=0∧x.dB=1
   ·rw [bg h]at B;simp only [if_true]at B;have i7:T=bX 0 1 ss:=by rw [hT,h.1,h.2]
    have i_:=Qx b_ H (by omega) j_ j9 k_ l;cases ho:od l (15+7*(d:Int)) (jI x.st) (cS T) 200 (-1)with
    | none=>
     rw [ho]at B;refine .inl ⟨by rw [B];rfl,fun _ _=>?_⟩;rw [←i7];exact i_.1 ho
    | some y=>
     rw [ho]at B;obtain⟨q,q1,q2,q3⟩:=CI _ _ ho;have hb:=Ao q H;have r_:=qo x.st q;obtain⟨O1,O2,e1,e2⟩:=zh hb.1 (by omega) (EI b_ q) q3;have n9:0≤q:=by
      obtain⟨j,-,hq,-⟩:=Ay (s:=x.st) (q:=q) (x:=y) (by rw [e1];simp);exact hq
     exact .inr ⟨by rw [B];simp [ES],.inr (.inr (.inr ⟨h.1,h.2,q,O1,y,O2,n9,by omega,e1,by rw [←i7];exact e2,B⟩))⟩
   ·rw [aY h]at B;refine .inl ⟨by rw [B];rfl,fun M u=>absurd ⟨M,u⟩ h⟩
  obtain⟨rs,a7⟩:∃ rs:List (List Int),rs=[a8,n_,S,qL]:=⟨_,rfl⟩
  have h8:∀ r ∈ rs,r.length=8:=by
   intro r hr;rw [a7]at hr;simp only [auc,auT,or_false]at hr;rcases hr with rfl | rfl | rfl | rfl
   ·rw [E];split<;>rfl
   ·exact l_
   ·rw [O];exact oK ..
   ·rw [B];exact CG _
  refine⟨mD rs,uW h8,fun _=>?_,fun h=>absurd h (by simp),fun g=>?_⟩
  ·rcases FF rs with⟨h0,M⟩ | ⟨h0,M⟩
   ·refine .inl ⟨M,?_⟩;have hz:=yu h0;rw [a7]at hz;exact⟨(d_.resolve_right fun h=>h.1 (hz _ (by simp))).2,(i9.resolve_right fun h=>h.1 (hz _ (by simp))).2,(d9.resolve_right fun h=>h.1 (hz _ (by simp))).2,(j8.resolve_right fun h=>h.1 (hz _ (by simp))).2⟩
   ·refine .inr ⟨h0,?_⟩;generalize mD rs=A at h0 M ⊢;have u:=M;rw [a7]at u;simp only [auc,auT,or_false]at u;rcases u with u | u | u | u
    ·rw [u]at h0 ⊢;exact(d_.resolve_left fun h=>h0 h.1).2
    ·rw [u]at h0 ⊢;exact(i9.resolve_left fun h=>h0 h.1).2
    ·rw [u]at h0 ⊢;exact(d9.resolve_left fun h=>h0 h.1).2
    ·rw [u]at h0 ⊢;exact(j8.resolve_left fun h=>h0 h.1).2
  ·have:=abc af l g ss hl hs hm x (zZ Q) j5 rs (by rw [a7];rfl) h8 fun i hi K=>by
    subst a7
    match i,hi with
    | 0,_=>
     obtain⟨J,h⟩:=c_ (sl g (ak ss)) K;exact⟨_,h,Kp.push _ _⟩
    | 1,_=>exact m4 (sl g (ak ss)) K
    | 2,_=>
     have:=abv af l g ss hl x g_ (fun s h=>lN (hf s h)) N (fun s h=>by
      rw [W];rcases h with rfl | h
      ·exact hG _ Q
      ·exact hG _ (hf s h)) mt (fun s h=>(h_ s (hf s h)).2) (fun s=>(F s).X) (fun s=>(F s).Y) (fun s=>(F s).found) (fun s h=>(hF s (hf s h)).2) K
     rw [←O]at this;exact this
    | 3,_=>
     have:=acU af l g ss hl x g_.r0 g_.r1 (aiR Q) d hd (by rw [←hT];exact e_) (jI x.st) (cS T) j7 (i6 g) K;rw [←B]at this;exact this
   simpa using this
theorem ajC{af B:Int}{ss:List av}{x:av}{N:List Int}(S:∀ s ∈ ss,jd s)(L:jd x)(h:zI af B ss x N):¬ Fits af B ss x:=by
 rintro⟨Q,E,F,H⟩;rcases h with⟨h,-⟩ | ⟨n,p,mi,b,-,d,-⟩ | ⟨s,K,f,b,d,-,-,j,m,u,-⟩ | ⟨b,d,q,l,y,g,J,-,j,m,-⟩
 ·omega
 ·rw [b.min]at E;omega
 ·exact F s K b d (Qt j m u)
 ·obtain⟨n,p,mi,I⟩:=Aa L;have u:=H b d q J;have v:=wZ x.st q;have A:=EI I q;rw [j]at v A;have e:l++y::g=(l++[y])++g:=by simp
  rw [e,C9]at v;have:=(E_ (O:=g) fun z M=>A z (by simp [M])).1;omega
theorem aba(af l:Int)(q:0≤af)(a1:af≤39)(ss:List av)(E:ss.length≤1000)(F:ss.Pairwise eL)(B:∀ s ∈ ss,jd s)(x:av)(H:jd x) :
  ∃(j:List Int) (d:Int),j.length=8∧(d=0→fh ss x=ag∧(j.headD 0=0→Fits af l ss x)∧(j.headD 0≠0→zI af l ss x j)) ∧
   ∀ g,bo tab 44 [.c (.f (fR af l)),.c (.f (sl g (ak ss))),.a (x.row.map .f)]=Eq (.t [qN j,vi d]):=by
 obtain⟨j,y,u,I,v⟩:=uX af l q a1 ss E F B x H;refine⟨j,_,y,fun m=>?_,v⟩;cases b:(eX af l ss x&&!fh ss x)with
 | false=>rw [b]at m;simp at m
 | true=>
  rcases u b with⟨e,z⟩ | ⟨e,A⟩
  ·rw [atI,auZ]at b;exact⟨b.2,fun _=>z,fun h=>absurd (by rw [e];rfl) h⟩
  ·rw [atI,auZ]at b;exact⟨b.2,fun h=>absurd h e,fun _=>A⟩
theorem Fits.apart{af qu:Int}{ss:List av}{x:av}(a0:0≤af)(h:Fits af qu ss x):∀ s ∈ ss,s.room=x.room→s.meet≠x.meet→¬ gZ x.st s.st:=fun s g hr d b=>
 h.cl s g (by rw [hr];exact adg ..) d (acu a0 b)
def De(c:List Int):List FC:=c.map fun x=>.int .u8 x
def Dp(L:List (List Int)):List (List FC):=L.map De
def jS(k:Nat)(c:List Int):Prop:=c.length=k∧∀ x ∈ c,0≤x∧x≤255
theorem Df{k:Nat}{L:List (List Int)}(h:∀ c ∈ L,jS k c):cr k (Dp L):=by
 intro r d;obtain⟨c,b,rfl⟩:=auq.1 d;simp [De,(h c b).1]
@[simp] theorem asg (L:List (List Int)):(Dp L).length=L.length:=by simp [Dp]
theorem adS{L:List (List Int)}{j:Nat}(b:j<L.length):(Dp L)[j]?=aa (De L[j]):=by simp [Dp,b]
def jC:List Int→av
 | [d,g,j,l,b,m,q,s]=>oy (1+d % 7) (g % 3) (j % 3) (1+l % 12) (1+b % 6) (m % (1+b % 6)) (20*(q % 60)) (10+10*(s % 30))| _=>oy 0 0 0 0 0 0 0 0
theorem acm{c:List Int}(h:c.length=8):∃ b d g j l m q s,c=[b,d,g,j,l,m,q,s]:=by
 match c,h with
 | [b,d,g,j,l,m,q,s],_=>exact⟨_,_,_,_,_,_,_,_,rfl⟩
theorem yB{c:List Int}(h:jS 8 c):jd (jC c)∧1≤(jC c).meet∧(jC c).meet≤7:=by
 obtain⟨b,j,l,m,q,s,d,u,rfl⟩:=acm h.1;have g:=h.2 d (by simp);refine⟨⟨_,_,_,_,_,_,_,_,rfl,?_⟩,?_,?_⟩
 ·refine⟨by omega,by omega,by omega,by omega,by omega,by omega,by omega,by omega,by omega,by omega,?_,?_,⟨(d % 60).toNat,by omega,by omega⟩,by omega,by omega⟩
  ·exact auB _ (by omega)
  ·exact auy _ (by omega)
 ·show 1≤1+b % 7;omega
 ·show 1+b % 7≤7;omega
theorem acs{s:av}(h:jd s){m:Int}(h0:1≤m)(d:m≤22):jd { s with meet:=m }:=by
 obtain⟨_,r,t,z,n,p,mi,le,rfl,b⟩:=h;exact⟨m,r,t,z,n,p,mi,le,rfl,⟨h0,d,b.r0,b.r1,b.t0,b.t1,b.z0,b.z1,b.n0,b.n1,b.p0,b.p1,b.i0,b.l0,b.l1⟩⟩
theorem BJ{c:List Int}(h:jS 8 c):bo tab 37 [.a ((De c).map .f)]=Eq (.a ((jC c).row.map .f)):=by
 obtain⟨b,d,g,j,l,m,q,s,rfl⟩:=acm h.1;exact adE b d g j l m q s h.2
def mf(i:Int):List (List Int)→List av
 | []=>[]| c::r=>{ jC c with meet:=20+i }::mf (i+1) r
theorem C6(a:List Int):∀(l:List (List Int)) (i:Int),mf i (l++[a])=mf i l++[{ jC a with meet:=20+(i+l.length) }]
 | [],i=>by simp [mf]
 | c::r,i=>by
  have:=C6 a r (i+1);simp only [auX,mf,this,auo];rw [show i+1+(r.length:Int)=i+((r.length+1:Nat):Int) by omega]
theorem wX:∀(l:List (List Int)) (i:Int),(mf i l).length=l.length
 | [],_=>rfl| c::r,i=>by simp [mf,wX r]
theorem qF:∀ {l:List (List Int)} {i:Int} {s:av},s ∈ mf i l→∃ c ∈ l,∃ k:Nat,k<l.length∧s = { jC c with meet:=20+(i+k) }
 | [],_,_,h=>by simp [mf]at h
 | c::r,i,s,h=>by
  rcases auc.1 h with rfl | h
  ·exact⟨c,at4,0,by simp,by simp⟩
  ·obtain⟨d,b,k,g,e⟩:=qF h;refine⟨d,at5 _ b,k+1,by simpa using g,?_⟩;rw [e,show i+1+(k:Int)=i+((k+1:Nat):Int) by omega]
theorem wW:∀(l:List (List Int)) (i:Int),gH (mf i l)
 | [],_=>List.Pairwise.nil
 | c::r,i=>by
  refine auN.2 ⟨fun s b=>?_,wW r (i+1)⟩;obtain⟨d,-,k,-,rfl⟩:=qF b;simp only [bY,decide_eq_false_iff_not];omega
theorem C2(g0:Tg)(L:List (List Int))(Z:∀ c ∈ L,jS 8 c)(hl:L.length≤9223372036854775807):∃ g,bo tab 36 [.c (.f (sl g0 (Dp L)))]=Eq (.c (.f (sl g (ak (mf 0 (L.take 3)))))):=by
 obtain⟨r,⟨g,rfl⟩,hp⟩:∃ r,(∃ g,r=.c (.f (sl g (ak (mf 0 (L.take 3))))))∧bo tab 36 [.c (.f (sl g0 (Dp L)))] r:=by
  refine dG rfl rfl fun Q hQ=>?_;have q:∀ J:aj,bA J (.f (sl g0 (Dp L)))=aa L.length:=fun J=>by simp
  apply ai;simp;apply ai;simp;apply al;apply ai;simp;obtain⟨n,hn⟩:=aK (min L.length 3);refine ji n (fun j t J=>t.g 0=.c (.f (sl g0 (Dp L)))∧∃ c,t.g 3=.c c∧LR J c 7 (ak (mf 0 (L.take j)))) (by omega) rfl (by simp) ⟨by simp,.f .aw,by simp,by simpa [ak,mf]using LR.nil [] 7⟩ ?_ ?_ ?_
  ·rintro j t J K hj ⟨b,c,B,d⟩ l a;by_cases E:j<L.length
   ·simp [l,b,q,E];exact a _ ⟨by simp [b],c,by simp [B],d⟩ (by simp [l]) (by simp;omega)
   ·simp [l,b,q,E];exact a _ ⟨by simp [b],c,by simp [B],d⟩ (by simp [l]) (by simp;omega)
  ·rintro j t J hj ⟨b,c,B,d⟩ l next
   have z:j<L.length:=by omega
   have m:=fun H:aj=>bt (H:=H) (g:=g0) (rows:=Dp L) (sz:=8) (k:=.i64) (i:=(j:Int)) (by omega) (by simp;omega);have I:=fun H:aj=>bL (H:=H) (Df Z) (adS z);simp only [aui]at m;have O:=BJ (Z _ (at2 z));have Y:L.take (j+1)=L.take j++[L[j]]:=by rw [auz,asZ z];rfl
   have y:mf 0 (L.take (j+1))=mf 0 (L.take j)++[{ jC L[j]with meet:=20+j }]:=by
    rw [Y,C6,aur,show min j L.length=j by omega];simp
   generalize L[j]=cl at *;obtain⟨s,hs⟩:=aK (jC cl);rw [←hs]at O y;have X:s.row.length=7:=rfl;obtain⟨S,v⟩:=aK (J++[bz.box (s.row.map .f) 0]);have U:S[J.length]?=aa (.box (s.row.map .f) 0):=by rw [v];simp
   have E:=d.push [bz.box (s.row.map .f) 0];rw [←v]at E;refine aF ?_;apply ai;simp [b,l,m,I,O,X,-aA];rw [←v];obtain⟨u,M⟩:=aK ({ s with meet:=20+(j:Int) }:av);rw [←M]at y;obtain⟨A,x⟩:=aK (S.set J.length (.box (u.row.map .f) 0));have s1:dh S (.ptr J.length 0 0) [.f (fi (20+(j:Int)))]=aa A:=by rw [x,M];simp [dh,U,bp,av.row]
   have f:A[J.length]?=aa (.box (u.row.map .f) 0):=by rw [x];exact atY (au U)
   have l2:aV A (aa 7) (.c (.ptr J.length 0 0))=aa (.a (u.row.map .f)):=by simp [aV,aG,f,aT,av.row]
   have h2:LR A c 7 (ak (mf 0 (L.take j))):=by rw [x];exact E.set (E.oU U) _
   apply ai;simp [l,aW (n:=20+(j:Int)),s1,-bl];have h3:=h2.push [bz.box (u.row.map .f) 0];have o:(A++[bz.box (u.row.map .f) 0])[A.length]?=aa (.box (u.row.map .f) 0):=by simp
   obtain⟨e,J3,p,w,e3,e4⟩:=h3.app (aS _) (by decide) (row:=u.row) rfl (bytes:=88) (by simp [bU,ak,wX];omega) o;have N:u.row.length=7:=rfl;refine an (.inl rfl) ?_;simp [B,l2,N,p,-aA];refine az (next _ _ ⟨by simp [b],e,by simp,?_⟩ (by simp [l]));rw [y];simpa [ak]using w
  ·rintro t J ⟨b,c,B,d⟩ l;have W:L.take n=L.take 3:=by
    rw [hn];rcases Nat.le_total L.length 3 with h | h
    ·rw [avm h,auv,at8 h]
    ·rw [Nat.min_eq_right h]
   rw [W]at d;obtain⟨g,F⟩:=d.ex (aS _) 63;change ek deep J c=_ at F;apply ai;simp [B];refine aC (hQ _ _ _ ⟨g,rfl⟩ ?_);simp [F]
 exact⟨g,hp.eq⟩
structure iF where
 af:Int
 qu:Int
 lg:Tg
 L:List (List Int)
 og:Tg
 O:List (List Int)
def iF.row(p:iF):List FC:=[.int .u8 p.af,.int .u16 p.qu,sl p.lg (Dp p.L),sl p.og (Dp p.O)]
structure mH(p:iF):Prop where
 a0:0≤p.af
 a1:p.af≤255
 q0:0≤p.qu
 q1:p.qu≤65535
 L:∀ c ∈ p.L,jS 8 c
 O:∀ c ∈ p.O,jS 11 c
 Ll:p.L.length≤9223372036854775807
 Ol:p.O.length≤9223372036854775807
def iF.l0(p:iF):List av:=mf 0 (p.L.take 3)
theorem CA(p:iF)(h:mH p):∃ g,bo tab 14 [.a (p.row.map .f)]=Eq (.a [.f (fR (p.af % 40) (p.qu % 3000)),.f (sl g (ak p.l0))]):=by
 obtain⟨g,d⟩:=C2 p.lg p.L h.L h.Ll;refine⟨g,bo.eq (bV rfl rfl fun Q j=>?_)⟩;have l:=ac4 p.af p.qu h.a0 h.a1 h.q0 h.q1;change _=Eq (V.c (.f (fR (p.af % 40) (p.qu % 3000))))at l;change _=Eq (V.c (.f (sl g (ak p.l0))))at d;obtain⟨u,m⟩:=aK (fR (p.af % 40) (p.qu % 3000));obtain⟨v,q⟩:=aK (sl g (ak p.l0));obtain⟨s,b⟩:=aK (sl p.lg (Dp p.L));rw [←m]at l j;rw [←q]at d j;rw [←b]at d;apply ai;simp [iF.row,←b];apply ai;simp [l,d];refine aC (j _ _ ?_);simp [iZ,cD,bj]
theorem aqQ(p:iF)(h:mH p):gH p.l0∧p.l0.length≤3∧∀ s ∈ p.l0,jd s∧20≤s.meet:=by
 refine⟨wW _ _,by unfold iF.l0;rw [wX,aur];omega,fun s g=>?_⟩;obtain⟨c,b,k,d,rfl⟩:=qF g;rw [aur]at d;exact⟨acs (yB (h.L c (auW b))).1 (by omega) (by omega),by show 20≤20+(0+(k:Int));omega⟩
theorem anS{o:List Int}(h:jS 11 o):∃ k i t c,o=k::i::t::c∧jS 8 c∧(0≤k∧k≤255)∧(0≤i∧i≤255)∧(0≤t∧t≤255):=by
 match o,h with
 | [k,i,t,b,d,g,j,l,m,q,s],h=>exact⟨k,i,t,[b,d,g,j,l,m,q,s],rfl,⟨rfl,fun x u=>h.2 x (at5 _ (at5 _ (at5 _ u)))⟩,h.2 _ (by simp),h.2 _ (by simp),h.2 _ (by simp)⟩
def abY(i t b:Int)(c:List Int):bC:=⟨1+i % 8,b+t % 50-2,1,jC c⟩
theorem acZ(k i t d:Int)(c:List Int)(v:jS 8 c)(hi:0≤i∧i≤255)(K:0≤t∧t≤255)(h0:0≤d)(L:d≤1000000) :
  bo tab 15 [.a ((De (k::i::t::c)).map .f),vi d]=Eq (.a ((abY i t d c).row.map .f)):=bo.eq (by
 refine bV rfl rfl fun Q u=>?_;have j:=BJ v;obtain⟨y,z,A,B,E,F,H,I,g⟩:=acm v.1;have J:=jK (k:=.u8) (b:=8) hi.1 (by decide);have l:=jK (k:=.u8) (b:=50) K.1 (by decide);have m:((De c).map C.f)=[.f (.int .u8 y),.f (.int .u8 z),.f (.int .u8 A),.f (.int .u8 B),.f (.int .u8 E),.f (.int .u8 F),.f (.int .u8 H),.f (.int .u8 I)]:=by rw [g];rfl
 obtain⟨s,q⟩:=aK (jC c);have x:abY i t d c=⟨1+i % 8,d+t % 50-2,1,s⟩:=by rw [q];rfl
 rw [x]at u;rw [←q,m]at j;clear q x;subst g;apply ai;simp [De];apply ai;simp [J,l,j,av.row,aJ.row,aT,aW (n:=i % 8),aW (n:=1+i % 8),aW (n:=t % 50),aW (n:=d+t % 50),aW (n:=d+t % 50-2)];refine aC (u _ _ ?_);simp [iZ,cD,bj,bC.row])
def xr(af m:Int)(l0:List av)(h b:dj)(k:Int):Prop:=
 b=h∨(k % 6≤1∧∃ id d g,(d=2∨d=3)∧ei h id=0∧b = { gW h id d with lg:=g }) ∨
 (k % 6=2∧∃ c g,h.clock≤c∧c≤h.clock+29∧b=⟨c,h.bP,g,h.l.map (gV c)⟩) ∨
 (3≤k % 6∧∃ g,b = { h with lg:=g }) ∨
 (3≤k % 6∧∃ x i g,okX h.clock x∧x.state=1∧(1≤x.id∧x.id≤8)∧jd x.aR∧x.aR.meet≤7∧i≤h.l.length∧(∀ j (l:j<h.l.length),j<i→h.l[j].id<x.id)∧(∀ j (l:j<h.l.length),i≤j→x.id<h.l[j].id) ∧
  b=⟨h.clock,h.bP,g,h.l.take i++x::h.l.drop i⟩∧fh (jy l0 h) x.aR=ag∧Fits af m (jy l0 h) x.aR)
theorem uh{s:av}(h:jd s):Fix s:=by
 obtain⟨m,r,t,z,n,p,mi,le,rfl,b⟩:=h;exact aiT ..
structure lJ(l0:List av):Prop where
 ap:gH l0
 len:l0.length≤3
 f:∀ s ∈ l0,jd s∧20≤s.meet
theorem PV(h:dj)(z:uQ h)(af v:Int)(H:0≤af)(a1:af≤39)(g0:Tg)(l0:List av)(q:lJ l0)(x:bC)(F:jd x.aR) :
  ∃(l:List Int) (b:Int) (j:dj) (d:List Int) (c:Int),l.length=8∧uP h x l b j d c ∧
   (b=0→fh (jy l0 h) x.aR=ag∧(l.headD 0=0→Fits af v (jy l0 h) x.aR)∧(l.headD 0≠0→zI af v (jy l0 h) x.aR l)) ∧
   bo tab 16 [.a (h.row.map .f),.c (.f (fR af v)),.c (.f (sl g0 (ak l0))),.a (x.row.map .f)]=Eq (.t [.a (j.row.map .f),.a (QW d),vi c]):=by
 have M:=z.len;have K:=FH (l0:=l0) h;have L:=q.len;obtain⟨l,b,E,u,m⟩:=aba af v H a1 (jy l0 h) (by omega) (adA (nE q.ap h)) (fun s A=>by
  rcases FI A with A | ⟨y,B,rfl⟩
  ·exact(q.f s A).1
  ·exact(z.f y B).2) x.aR F
 obtain⟨j,d,c,I,J⟩:=abV h z (fR af v) g0 l0 q.ap q.len x (uh F) (fun y B=>uh (z.f y B).2) l b E (fun _ g=>m g);exact⟨l,b,j,d,c,E,I,u,J⟩
theorem aoq(h:dj)(H:uQ h)(hc:h.clock≤99000)(af W:Int)(a0:0≤af)(a1:af≤39)(g0:Tg)(l0:List av)(hp:lJ l0)(k i t:Int)(c:List Int)(d_:jS 8 c)(m4:0≤k∧k≤255)(hi:0≤i∧i≤255)(ht:0≤t∧t≤255) :
  ∃ B,uQ B∧B.clock≤h.clock+29∧xr af W l0 h B k∧bo tab 20 [.a (h.row.map .f),.a [.f (fR af W),.f (sl g0 (ak l0))],.a ((De (k::i::t::c)).map .f)]=Eq (.a (B.row.map .f)):=by
 obtain⟨r,⟨B,h1,h2,h3,rfl⟩,M⟩:∃ r,(∃ B,uQ B∧B.clock≤h.clock+29∧xr af W l0 h B k∧r=.a (B.row.map .f))∧bo tab 20 [.a (h.row.map .f),.a [.f (fR af W),.f (sl g0 (ak l0))],.a ((De (k::i::t::c)).map .f)] r:=by
  refine dG rfl rfl fun Q hQ=>?_;have q_:=H.len;have p_:=H.c0;have e_:∀ x ∈ h.l,Fix x.aR:=fun x hx=>uh (H.f x hx).2;have f_:h.row.length=3:=rfl;have e6:=jK (k:=.u8) (b:=6) m4.1 (by decide);have e8:=jK (k:=.u8) (b:=8) hi.1 (by decide);have j9:=jK (k:=.u8) (b:=30) ht.1 (by decide);have g_:=acZ k i t h.clock c d_ hi ht (by omega) (by omega);obtain⟨rm,j4⟩:=aK (fR af W);obtain⟨sd,j5⟩:=aK (sl g0 (ak l0));obtain⟨F,O⟩:=aK (De (k::i::t::c));have i_:F.length=11:=by rw [O];simp [De,d_.1]
  have o0:∀ K:aj,K[2]?=aa (.box (F.map .f) 0)→aV K ab (.c (.ptr 2 0 0))=aa (.c (.f (.int .u8 k)))∧aV K ab (.c (.ptr 2 1 0))=aa (.c (.f (.int .u8 i)))∧aV K ab (.c (.ptr 2 2 0))=aa (.c (.f (.int .u8 t)))∧aV K (aa 11) (.c (.ptr 2 0 0))=aa (.a (F.map .f)):=fun K L=>by
   have e:F.map C.f=.f (.int .u8 k)::.f (.int .u8 i)::.f (.int .u8 t) ::(De c).map .f:=by rw [O];rfl
   refine⟨?_,?_,?_,?_⟩
   ·rw [e]at L;simp [aV,aG,L]
   ·rw [e]at L;simp [aV,aG,L]
   ·rw [e]at L;simp [aV,aG,L]
   ·simp [aV,aG,L,aT,i_,at8]
  rw [←O]at g_ ⊢;rw [←j4,←j5];obtain⟨l,E⟩:=aK ([.box (h.row.map .f) 0,.box [.f rm,.f sd] 0,.box (F.map .f) 0,.box [.f (fi 0),.f (fi 0),.f .aw] 0,.box (h.row.map .f) 0]:aj);have z0:l[0]?=aa (.box (h.row.map .f) 0):=by rw [E];rfl
  have z1:l[1]?=aa (.box [.f rm,.f sd] 0):=by rw [E];rfl
  have z2:l[2]?=aa (.box (F.map .f) 0):=by rw [E];rfl
  have z3:l[3]?=aa (.box [.f (fi 0),.f (fi 0),.f .aw] 0):=by rw [E];rfl
  have z4:l[4]?=aa (.box (h.row.map .f) 0):=by rw [E];rfl
  have lh:∀(K:aj) (b:Nat) (x:dj),K[b]?=aa (.box (x.row.map .f) 0)→aV K (aa 3) (.c (.ptr b 0 0))=aa (.a (x.row.map .f))∧aV K ab (.c (.ptr b 0 0))=aa (vi x.clock):=fun K b x L=>by
   refine⟨?_,?_⟩<;>simp [aV,aG,L,aT,dj.row]
  have sh:∀(K:aj) (b:Nat) (cs:List C) (x:dj),K[b]?=aa (.box cs 0)→cs.length=3→dh K (.ptr b 0 0) (x.row.map .f)=aa (K.set b (.box (x.row.map .f) 0)):=fun K b cs x L hl=>by
   match cs,hl with
   | [p,q,r],_=>simp [dh,L,bp,dj.row]
  have I:∀(u:T) (K:aj) (e:Int) (x:dj),u.g 3=.c (.ptr 0 0 0)→u.g 6=.c (.ptr 3 0 0)→u.g 7=.c (.ptr 4 0 0)→u.g 8=vi e→K[0]?=aa (.box (h.row.map .f) 0)→K[3]?=aa (.box [.f (fi 0),.f (fi 0),.f .aw] 0)→K[4]?=aa (.box (x.row.map .f) 0) →
    (∀ y,y=(if e=0 then x else h)→uQ y∧y.clock≤h.clock+29∧xr af W l0 h y k)→WP tab 20 ab [.code A_] ⟨u,[],K⟩ Q:=by
   intro u K e x S J U g8 k0 k3 k4 s;have i5:∀(u:T) (y:dj) (j:Option aE),u.g 6=.c (.ptr 3 0 0)→(uQ y∧y.clock≤h.clock+29∧xr af W l0 h y k)→Q j ⟨u,[],K.set 3 (.box (y.row.map .f) 0)⟩:=by
    intro u y j J s;have d:(K.set 3 (.box (y.row.map .f) 0))[3]?=aa (.box (y.row.map .f) 0):=atY (au k3);refine hQ _ _ _ ⟨y,s.1,s.2.1,s.2.2,rfl⟩ ⟨rfl,V.a (y.row.map .f),?_,by simp [iZ,cD,bj,deep]⟩;simp [Km.results,cN,bj,J,(lh _ 3 y d).1,-aA]
   apply al;apply ai;simp [g8];by_cases N:e=0
   ·have:=s x (by rw [bg N]);refine bw (by simp [N]) ?_;apply ai;have m_:x.row.length=3:=rfl;simp [J,U,(lh K 4 x k4).1,m_,sh K 3 _ x k3 rfl,-aA,-bl];exact aC (i5 _ x _ (by simp [J]) this)
   ·have:=s h (by rw [aY N]);refine aq (by simp [N]) ?_;apply ai;simp [S,J,(lh K 0 h k0).1,f_,sh K 3 _ h k3 rfl,-aA,-bl];exact aC (i5 _ h _ (by simp [J]) this)
  have b_:uQ h∧h.clock≤h.clock+29∧xr af W l0 h h k:=⟨H,by omega,.inl rfl⟩
  have c_:∀(id st:Int) (g:Tg) (A:dj),k % 6≤1→(st=2∨st=3)→A=(if ei h id=0 then { gW h id st with lg:=g }else jc)→∀ y,y=(if ei h id=0 then A else h)→uQ y∧y.clock≤h.clock+29∧xr af W l0 h y k:=by
   intro id st g A l_ a7 m y s;by_cases N:ei h id=0
   ·rw [bg N]at m s;subst s;rw [m];exact⟨akB H a7 g,by show h.clock≤_;omega,.inr (.inl ⟨l_,id,st,g,a7,N,rfl⟩)⟩
   ·rw [aY N]at s;rw [s];exact b_
  have start:∀ u:T,u.g 3=.c (.ptr 0 0 0)→u.g 4=.c (.ptr 1 0 0)→u.g 5=.c (.ptr 2 0 0)→u.g 6=.c (.ptr 3 0 0)→u.g 7=.c (.ptr 4 0 0)→WP tab 20 ab [.code Fp] ⟨u,[],l⟩ Q:=by
   intro u S g4 g5 J U;obtain⟨p1,p2,p3,p4⟩:=o0 l z2;obtain⟨h3,a_⟩:=lh l 0 h z0;have o_:ek deep l (.f .aw)=aa .aw:=rfl;refine al (ai ?_);simp [g5,p1,e6,-aA];refine aF (ai ?_);simp;by_cases c0:k % 6=0
   ·refine aq (by simp [c0]) ?_;obtain⟨g,A,m,M⟩:=DU h (by omega) e_ (1+i % 8);have v:A.row.length=3:=rfl;refine an (.inl rfl) ?_;simp [S,g5,U,p2,h3,e8,aW (n:=i % 8),aW (n:=1+i % 8),M,v,sh l 4 _ A z4 rfl,-aA,-bl];refine az (I _ _ (ei h (1+i % 8)) A (by simp [S]) (by simp [J]) (by simp [U]) (by simp) ?_ ?_ (atY (au z4)) (c_ _ 2 g A (by omega) (.inl rfl) m))
    ·rw [aft (by decide)];exact z0
    ·rw [aft (by decide)];exact z3
   refine aD (by simp [c0]) ?_;apply ai;simp;by_cases c1:k % 6=1
   ·refine aq (by simp [c1]) ?_;obtain⟨g,A,m,M⟩:=EV h (by omega) e_ (1+i % 8);have v:A.row.length=3:=rfl;refine an (.inl rfl) ?_;simp [S,g5,U,p2,h3,e8,aW (n:=i % 8),aW (n:=1+i % 8),M,v,sh l 4 _ A z4 rfl,-aA,-bl];refine az (I _ _ (ei h (1+i % 8)) A (by simp [S]) (by simp [J]) (by simp [U]) (by simp) ?_ ?_ (atY (au z4)) (c_ _ 3 g A (by omega) (.inr rfl) m))
    ·rw [aft (by decide)];exact z0
    ·rw [aft (by decide)];exact z3
   refine aD (by simp [c1]) ?_;apply ai;simp;by_cases c2:k % 6=2
   ·refine aq (by simp [c2]) ?_;obtain⟨g,A,m,M⟩:=akz h (by omega) e_ (h.clock+t % 30);have v:A.row.length=3:=rfl;have m9:lF h (h.clock+t % 30)=0:=by
     unfold lF;rw [aY];rintro(B | B | B)
     ·rw [H.v]at B;cases B
     ·omega
     ·omega
    rw [m9]at m M;refine an (.inl rfl) ?_;simp [S,g5,U,p3,h3,a_,j9,aW (n:=t % 30),aW (n:=h.clock+t % 30),M,v,sh l 4 _ A z4 rfl,-aA,-bl];refine az (I _ _ 0 A (by simp [S]) (by simp [J]) (by simp [U]) (by simp) ?_ ?_ (atY (au z4)) fun y s=>?_)
    ·rw [aft (by decide)];exact z0
    ·rw [aft (by decide)];exact z3
    ·rw [bg rfl]at s m;rw [s,m];refine⟨akA H (by omega) (by omega) g,by show h.clock+t % 30≤_;omega,.inr (.inr (.inl ⟨c2,_,g,?_,?_,rfl⟩))⟩<;>omega
   refine aD (by simp [c2]) ?_;have c3:3≤k % 6:=by omega
   obtain⟨x,hx⟩:=aK (abY i t h.clock c);rw [←hx]at g_;obtain⟨j_,n9,k_⟩:=yB d_;have h_:jd x.aR:=by rw [hx];exact j_
   obtain⟨rf,n8,z,a8,cc,h8,hG,j6,M⟩:=PV h H af W a0 a1 g0 l0 hp x h_;rw [←j4,←j5]at M;have v:z.row.length=3:=rfl;have b9:a8.length=8:=by
    rcases hG with⟨-,-,e,-⟩ | ⟨-,-,-,e,-⟩ | ⟨-,-,-,e,-⟩
    ·rw [e];rfl
    ·rw [e];rfl
    ·rw [e];exact h8
   have q0:aV l ab (.c (.ptr 1 0 0))=aa (.c (.f rm))∧aV l ab (.c (.ptr 1 1 0))=aa (.c (.f sd)):=by
    refine⟨?_,?_⟩<;>simp [aV,aG,z1]
   have n0:l.length=5:=by rw [E];rfl
   obtain⟨K1,X⟩:=aK (l++[bz.box [.f (fi 0),.f (fi 0),.f .aw] 0,bz.box [.f (fi 0),.f (fi 0),.f (fi 0),.f (fi 0),.f (fi 0),.f (fi 0),.f (fi 0),.f (fi 0)] 0]);have k1:∀ i:Nat,i<5→K1[i]?=l[i]?:=fun i hi=>by rw [X,anc (by omega)]
   have d5:K1[l.length]?=aa (.box [.f (fi 0),.f (fi 0),.f .aw] 0):=by rw [X];simp
   have d6:K1[l.length+1]?=aa (.box [.f (fi 0),.f (fi 0),.f (fi 0),.f (fi 0),.f (fi 0),.f (fi 0),.f (fi 0),.f (fi 0)] 0):=by rw [X,atZ (by omega)];simp
   have s1:=sh K1 l.length _ z d5 rfl;obtain⟨K2,Y⟩:=aK (K1.set l.length (.box (z.row.map .f) 0));rw [←Y]at s1;have j8:K2[l.length+1]?=_:=(by rw [Y,aft (by omega)]:K2[l.length+1]?=K1[l.length+1]?).trans d6;have j7:K2[l.length]?=aa (.box (z.row.map .f) 0):=by rw [Y];exact atY (au d5)
   obtain⟨K3,d9⟩:=aK (K2.set (l.length+1) (.box (a8.map fun n=>.f (fi n)) 0));have s2:dh K2 (.ptr (l.length+1) 0 0) (a8.map fun n=>.f (fi n))=aa K3:=by
    rw [d9]
    match a8,b9 with
    | [p0,p1,p2,p3,p4,p5,p6,p7],_=>simp [dh,j8,bp]
   have i4:K3[l.length]?=aa (.box (z.row.map .f) 0):=by rw [d9,aft (by omega)];exact j7
   have k3:∀ i:Nat,i<5→K3[i]?=l[i]?:=fun i hi=>by rw [d9,aft (by omega),Y,aft (by omega),k1 i hi]
   rw [X]at s1;apply ai;simp [S,g4,g5,p4,h3,a_,q0.1,q0.2,g_,M,v,QW,b9,s1,s2,-aA,-bl];have w4:=(k3 4 (by omega)).trans z4;have w3:=(k3 3 (by omega)).trans z3;have w0:=(k3 0 (by omega)).trans z0;have l5:=(lh K3 l.length z i4).1;apply ai;simp [U,l5,v,sh K3 4 _ z w4 rfl,-aA,-bl];refine an (.inl rfl) ?_;simp;refine az (I _ _ cc z (by simp [S]) (by simp [J]) (by simp [U]) (by simp) ?_ ?_ (atY (au w4)) fun y s=>?_)
   ·rw [aft (by decide)];exact w0
   ·rw [aft (by decide)];exact w3
   by_cases N:cc=0
   case neg=>rw [aY N]at s;rw [s];exact b_
   rw [bg N]at s;subst s;rcases hG with⟨e1,-,-,e2⟩ | ⟨-,e1,-,-,e2⟩ | ⟨e1,e2,-,-,g,⟨-,e3⟩ | ⟨e3,j,hj,i8,i6,e4⟩⟩
   ·omega
   ·omega
   ·rw [e3];refine⟨⟨H.v,H.c0,H.c1,H.d,H.f⟩,by show h.clock≤_;omega,.inr (.inr (.inr (.inl ⟨c3,g,rfl⟩)))⟩
   ·have i7:1≤x.id∧x.id≤8:=by rw [hx];show 1≤1+i % 8∧1+i % 8≤8;omega
    have a7:x.state=1:=by rw [hx];rfl
    have n_:x.dl=h.clock+t % 50-2:=by rw [hx];rfl
    have i9:okX h.clock x:=by
     unfold dv at e1;split at e1
     ·omega
     ·split at e1
      ·omega
      ·split at e1
       ·omega
       ·rename_i hn;unfold okX;omega
    obtain⟨t1,t2,-⟩:=j6 e2;have h0:rf.headD 0=0:=by
     match rf,h8 with
     | p0::_,_=>simpa using e3
    rw [e4];refine⟨anM H i9 (by omega) ⟨.inl i7,h_⟩ i8 i6 g,by show h.clock≤_;omega,.inr (.inr (.inr (.inr ⟨c3,x,j,g,i9,a7,i7,h_,by rw [hx];exact k_,hj,i8,i6,rfl,t1,t2 h0⟩)))⟩
  apply ai;simp [f_,i_];apply ai;obtain⟨KK,Z⟩:=aK ([.box (h.row.map .f) 0,.box [.f rm,.f sd] 0,.box (F.map .f) 0,.box [.f (fi 0),.f (fi 0),.f .aw] 0]:aj);have w0:KK[0]?=aa (.box (h.row.map .f) 0):=by rw [Z];rfl
  have nK:KK.length=4:=by rw [Z];rfl
  have eK:KK++[bz.box (h.row.map .f) 0]=l:=by rw [Z,E];rfl
  rw [←Z];simp [(lh KK 0 h w0).1,f_,nK,-aA];rw [eK];exact start _ (by simp) (by simp) (by simp) (by simp) (by simp)
 exact⟨B,h1,h2,h3,M.eq⟩
def h00:dj:=⟨100,5,.nil,[]⟩
theorem anz:uQ h00:=⟨by decide,by decide,by decide,rfl,fun x b=>by simp [h00]at b⟩
theorem wB(p:iF)(h:mH p):lJ p.l0:=by
 obtain⟨a,b,c⟩:=aqQ p h;exact⟨a,b,c⟩
theorem zm(p:iF)(W:mH p)(Inv:dj→Prop)(a8:Inv h00)(step:∀ h F k,uQ h→Inv h→xr (p.af % 40) (p.qu % 3000) p.l0 h F k→Inv F) :
  ∃ h,uQ h∧h.clock≤1000∧Inv h∧bo tab 11 [.a (p.row.map .f)]=Eq (.a (h.row.map .f)):=by
 obtain⟨r,⟨h,Z,h2,h3,rfl⟩,hP⟩:∃ r,(∃ h,uQ h∧h.clock≤1000∧Inv h∧r=.a (h.row.map .f))∧bo tab 11 [.a (p.row.map .f)] r:=by
  refine dG rfl rfl fun Q hQ=>?_;obtain⟨g,X⟩:=CA p W;have c_:=W.Ol;have b_:=wB p W;have z:p.row.length=4:=rfl;have a0:0≤p.af % 40:=auB _ (by omega);have a1:p.af % 40≤39:=by have:=auy p.af (show 0<40 by omega);omega
  obtain⟨row,l⟩:=aK (p.row);have lp:∀ K:aj,K[0]?=aa (.box (row.map .f) 0)→aV K (aa 4) (.c (.ptr 0 0 0))=aa (.a (row.map .f))∧aV K ab (.c (.ptr 0 3 0))=aa (.c (.f (sl p.og (Dp p.O)))):=fun K O=>by
   rw [l]at O ⊢;refine⟨?_,?_⟩<;>simp [aV,aG,O,aT,iF.row]
  have lh:∀(K:aj) (b:Nat) (x:dj),K[b]?=aa (.box (x.row.map .f) 0)→aV K (aa 3) (.c (.ptr b 0 0))=aa (.a (x.row.map .f)):=fun K b x O=>by
   simp [aV,aG,O,aT,dj.row]
  have sh:∀(K:aj) (b:Nat) (cs:List C) (x:dj),K[b]?=aa (.box cs 0)→cs.length=3→dh K (.ptr b 0 0) (x.row.map .f)=aa (K.set b (.box (x.row.map .f) 0)):=fun K b cs x O hl=>by
   match cs,hl with
   | [p,q,r],_=>simp [dh,O,bp,dj.row]
  have y:∀ J:aj,bA J (.f (sl p.og (Dp p.O)))=aa p.O.length:=fun J=>by simp
  rw [←l]at X ⊢;rw [←l]at z;apply ai;simp [z];apply ai;simp;obtain⟨Y,m⟩:=aK ([.box (row.map .f) 0,.box [.f (fi 0),.f (fi 0),.f .aw] 0,.box (h00.row.map .f) 0]:aj);have z0:Y[0]?=aa (.box (row.map .f) 0):=by rw [m];rfl
  have z1:Y[1]?=aa (.box [.f (fi 0),.f (fi 0),.f .aw] 0):=by rw [m];rfl
  have z2:Y[2]?=aa (.box (h00.row.map .f) 0):=by rw [m];rfl
  have eK:Y=[.box (row.map .f) 0,.box [.f (fi 0),.f (fi 0),.f .aw] 0,.box [.f (fi 100),.f (fi 5),.f .aw] 0]:=m;rw [←eK];apply al;apply ai;simp;obtain⟨n,hn⟩:=aK (min p.O.length 12);refine ji n (fun j t J=>t.g 1=.c (.ptr 0 0 0)∧t.g 2=.c (.ptr 1 0 0)∧t.g 3=.c (.ptr 2 0 0)∧J[0]?=aa (.box (row.map .f) 0)∧J[1]?=aa (.box [.f (fi 0),.f (fi 0),.f .aw] 0)∧∃ h:dj,J[2]?=aa (.box (h.row.map .f) 0)∧uQ h∧h.clock≤100+29*(j:Int)∧Inv h) (by omega) rfl (by simp)
   ⟨by simp,by simp,by simp,z0,z1,h00,z2,anz,by decide,a8⟩ ?_ ?_ ?_
  ·rintro j t J K hj ⟨s,B,E,k0,M,h,A,I,hc,N⟩ u hL;by_cases Z:j<p.O.length
   ·simp [u,s,(lp J k0).2,y,Z,-aA];exact hL _ ⟨by simp [s],by simp [B],by simp [E],k0,M,h,A,I,hc,N⟩ (by simp [u]) (by simp;omega)
   ·simp [u,s,(lp J k0).2,y,Z,-aA];exact hL _ ⟨by simp [s],by simp [B],by simp [E],k0,M,h,A,I,hc,N⟩ (by simp [u]) (by simp;omega)
  ·rintro j t J hj ⟨s,B,E,k0,M,h,A,I,hc,N⟩ u next
   have S:j<p.O.length:=by omega
   have v:=fun H:aj=>bt (H:=H) (g:=p.og) (rows:=Dp p.O) (sz:=11) (k:=.i64) (i:=(j:Int)) (by omega) (by simp;omega);have U:=fun H:aj=>bL (H:=H) (Df W.O) (adS S);simp only [aui]at v;obtain⟨k,i,t',c,ho,a7,b9,hi,ht⟩:=anS (W.O _ (at2 S));rw [ho]at U;obtain⟨F,a_,d9,hR,hP⟩:=aoq h I (by omega) (p.af % 40) (p.qu % 3000) a0 a1 g p.l0 b_ k i t' c a7 b9 hi ht;have L:F.row.length=3:=rfl;refine aF ?_;refine an (.inl rfl) ?_;simp [s,E,u,(lp J k0).1,(lp J k0).2,lh J 2 h A,X,v,U,hP,L,sh J 2 _ F A rfl,-aA,-bl];refine az (next _ _ ⟨by simp [s],by simp [B],by simp [E],?_,?_,F,atY (au A),a_,by omega,step h F k I N hR⟩ (by simp [u]))
   ·rw [aft (by decide)];exact k0
   ·rw [aft (by decide)];exact M
  ·rintro t J ⟨s,B,E,k0,M,h,A,I,hc,N⟩ u;have L:h.row.length=3:=rfl;have d:(J.set 1 (.box (h.row.map .f) 0))[1]?=aa (.box (h.row.map .f) 0):=atY (au M);apply ai;simp [B,E,lh J 2 h A,L,sh J 1 _ h M rfl,-aA,-bl];refine aC (hQ _ _ _ ⟨h,I,by omega,N,rfl⟩ ⟨rfl,V.a (h.row.map .f),?_,by simp [iZ,cD,bj,deep]⟩);simp [Km.results,cN,bj,B,lh _ 1 h d,-aA]
 exact⟨h,Z,h2,h3,hP.eq⟩
theorem arq:bo tab 10 []=Eq (vb ae):=mv (by kernel_rfl)
theorem oG{b:Type}{f:b→b→Bool}:∀ {xs:List b},(∀ x ∈ xs,f x x=ae)→iG f xs xs=ae
 | [],_=>rfl| x::xs,h=>by simp only [iG,h x at4,oG fun y d=>h y (at5 _ d),Bool.and_self]
def Rf(n:Nat)(x:FC):Prop:=FC.beq n x x=ae
theorem wJ(n:Nat)(k:IntKind)(m:Int):Rf n (.int k m):=by unfold Rf;cases n<;>simp [FC.beq]
theorem arh{n:Nat}{xs:List FC}{l:Nat}(h:∀ x ∈ xs,Rf n x):Rf (n+1) (.fs xs l):=by unfold Rf;simp [FC.beq,oG h]
theorem arf{n:Nat}{xs:List FC}{l:Nat}(h:∀ x ∈ xs,Rf n x):Rf (n+1) (.fp xs l):=by unfold Rf;simp [FC.beq,oG h]
theorem zp{n:Nat}{rows:List (List FC)}(g:Tg)(h:∀ r ∈ rows,∀ x ∈ r,Rf n x):Rf (n+1) (sl g rows):=by
 unfold sl;split
 ·unfold Rf;cases g<;>rfl
 ·exact arh fun x b=>by
   obtain⟨r,d,b⟩:=List.mem_flatten.1 b;exact h r d x b
theorem ais:∀ {xs:List FC},(∀ x ∈ xs,Rf 64 x)→V.beq (.a (xs.map .f)) (.a (xs.map .f))=ae:=by
 intro xs h;simp only [V.beq,atI,beq_self_eq_true,true_and,List.all_eq_true];intro q b;obtain⟨i,hi,rfl⟩:=auI b;rw [List.getElem_zip];simp only [List.getElem_map,C.beq];exact h _ (at2 _)
theorem ai1(n:Nat){x:bC}(h:jd x.aR):∀ c ∈ x.row,Rf (n+6) c:=by
 obtain⟨id,q,v,s⟩:=x;obtain⟨m,r,t,z,u,p,mi,le,l,b⟩:=h;simp only at l;subst l;intro c j;simp only [bC.row,auc,auT,or_false]at j;rcases j with rfl | rfl | rfl | rfl | rfl | rfl | rfl | rfl | rfl | rfl
 all_goals first | exact wJ _ _ _ | skip
 ·refine zp _ fun r d y g=>?_;simp [oy,aN,cL.row]at d;subst d;simp at g;rcases g with rfl | rfl
  ·refine zp _ fun r d y g=>?_;simp [aM,dx.row]at d;subst d;simp at g;subst g;refine zp _ fun r d y g=>?_;simp [ba,bM.row]at d;subst d;simp at g;rcases g with rfl | rfl | rfl | rfl
   ·exact zp _ fun r d=>by simp [ints]at d
   ·exact wJ _ _ _
   ·exact wJ _ _ _
   ·refine zp _ fun r d y g=>?_;simp [ints]at d;subst d;simp at g;subst g;exact wJ _ _ _
  ·exact wJ _ _ _
 ·exact zp _ fun r d=>by simp [oy,aH]at d
theorem aqI(K:aj)(b:Nat)(x:dj)(d:K[b]?=aa (.box (x.row.map .f) 0)):aV K (aa 3) (.c (.ptr b 0 0))=aa (.a (x.row.map .f))∧aV K ab (.c (.ptr b 0 0))=aa (vi x.clock)∧aV K ab (.c (.ptr b 2 0))=aa (.c (.f (sl x.lg (aQ x.l)))):=by
 refine⟨?_,?_,?_⟩<;>simp [aV,aG,d,aT,dj.row]
theorem eo(a b:List bC):bh (a++b)=bh a++bh b:=by simp [bh]
theorem za{a b:aJ}(h:gZ a b):gZ b a:=by
 obtain⟨c,j,d,l,k,q,s,x,m,g,u⟩:=h;refine⟨d,l,c,j,-k,?_,?_,x,m,?_,g⟩
 ·unfold uA uu at *;omega
 ·unfold uA uu at *;omega
 ·rwa [show - -k=k by omega]
structure kr(h:dj):Prop where
 m:∀ x ∈ h.l,x.aR.meet≤7
 ap:gH (bh h.l)
 no:∀ s ∈ bh h.l,∀ s' ∈ bh h.l,s.room=s'.room→s.meet≠s'.meet→¬ gZ s.st s'.st
theorem kr.sub{h n:dj}(d:kr h)(g:∀ x ∈ n.l,x.aR.meet≤7)(b:List.Sublist (bh n.l) (bh h.l)):kr n:=
 ⟨g,d.ap.sublist b,fun s h1 s' h2=>d.no s (b.subset h1) s' (b.subset h2)⟩
theorem xh{l0:List av}:∀ {l acc:List av},gH (acc++l)→(∀ x ∈ l0,∀ s ∈ l,bY x s=ag)→uniq l0 acc l=acc++l
 | [],acc,_,_=>by simp [uniq]
 | s::r,acc,d,h0=>by
  have g:l0.any (fun x=>bY x s)=ag:=by
   rw [avj];intro x b;rw [h0 x b s at4];simp
  have j:acc.any (fun x=>bY x s)=ag:=by
   rw [avj];intro x b;have:=(List.pairwise_append.1 d).2.2 x b s at4;rw [this];simp
  have e:acc++s::r=(acc++[s])++r:=by simp
  rw [uniq,g,j];simp only [Bool.or_self,aub,if_false];rw [xh (by rw [←e];exact d) (fun x b y m=>h0 x b y (at5 _ m)),e]
theorem vS{l0:List av}(d:lJ l0){h:dj}(b:kr h){s:av}(g:s ∈ bh h.l):s ∈ jy l0 h:=by
 unfold jy;rw [(jM _).mem_iff,xh (by simpa using b.ap) fun x j y l=>?_]
 ·simp [g]
 ·obtain⟨z,m,rfl⟩:=qa l;have q:=(d.f x j).2;have u:=b.m z m;simp only [bY,decide_eq_false_iff_not];omega
theorem Cd{l:List bC}{i:Nat}(hi:i<l.length)(m:gQ l[i]=ae)(y:bC)(q:y.aR=l[i].aR):List.Sublist (bh (l.set i y)) (bh l):=by
 have d:l=l.take i++([l[i]]++l.drop (i+1)):=by
  rw [List.singleton_append,←at7 hi,auA]
 have g:l.set i y=l.take i++([y]++l.drop (i+1)):=by rw [List.set_eq_take_append_cons_drop,bg hi];rfl
 rw [g]
 conv=>rhs;rw [d]
 rw [eo,eo,eo,eo];refine List.Sublist.append (List.Sublist.refl _) (List.Sublist.append ?_ (List.Sublist.refl _));have j:bh [l[i]]=[l[i].aR]:=by simp [bh,m]
 rw [j];by_cases b:gQ y=ae
 ·have:bh [y]=[y.aR]:=by simp [bh,b]
  rw [this,q];exact List.Sublist.refl _
 ·have:bh [y]=[]:=by simp [bh,b]
  rw [this];exact List.nil_sublist _
theorem sj(c:Int):∀ l:List bC,List.Sublist (bh (l.map (gV c))) (bh l)
 | []=>List.Sublist.refl _
 | x::r=>by
  have e:∀(y:bC) (q:List bC),bh (y::q)=bh [y]++bh q:=fun y q=>eo [y] q;rw [aug,e,e x];refine List.Sublist.append ?_ (sj c r);unfold gV;split
  ·have:bh [{ x with state:=4 }]=[]:=by simp [bh,gQ]
   rw [this];exact List.nil_sublist _
  ·exact List.Sublist.refl _
theorem wg{af qu:Int}(U:0≤af){l0:List av}(L:lJ l0){h n:dj}{k:Int}(l:kr h)(X:xr af qu l0 h n k):kr n:=by
 rcases X with rfl | ⟨u,id,S,g,Z,j,rfl⟩ | ⟨u,c,g,h0,B,rfl⟩ | ⟨u,g,rfl⟩ | ⟨u,x,i,g,-,O,-,-,Q,hi,-,-,rfl,v,E⟩
 ·exact l
 ·unfold ei at j;split at j
  ·omega
  cases K:rr id h.l with
  | none=>rw [K]at j;simp at j
  | some i=>
   rw [K]at j;obtain⟨hi,-⟩:=nF K;simp only [asZ hi]at j;split at j
   case isFalse=>omega
   rename_i N;have H:({ gW h id S with lg:=g }:dj).l=h.l.set i { h.l[i]with state:=S }:=by
    show(gW h id S).l=_;unfold gW;simp only [K,adb,asZ hi]
   refine l.sub (fun x A=>?_) (by rw [H];exact Cd hi (by simp [gQ,N]) _ rfl);rw [H]at A;rcases List.mem_or_eq_of_mem_set A with A | rfl
   ·exact l.m x A
   ·exact l.m h.l[i] (at2 hi)
 ·refine l.sub (fun x A=>?_) (sj c h.l);obtain⟨y,m,rfl⟩:=auq.1 A;have:=l.m y m;unfold gV;split<;>exact this
 ·exact l.sub l.m (List.Sublist.refl _)
 ·have J:=E.apart U;have H:bh (h.l.take i++x::h.l.drop i)=bh (h.l.take i)++([x.aR]++bh (h.l.drop i)):=by
   have:h.l.take i++x::h.l.drop i=h.l.take i++([x]++h.l.drop i):=rfl;rw [this,eo,eo];have:bh [x]=[x.aR]:=by simp [bh,gQ,O]
   rw [this]
  have I:bh h.l=bh (h.l.take i)++bh (h.l.drop i):=by rw [←eo,auA]
  have q:∀ s,s ∈ bh (h.l.take i++x::h.l.drop i)↔s=x.aR∨s ∈ bh h.l:=fun s=>by
   rw [H,I];simp only [auh,aua];constructor
   ·rintro(h | h | h)
    ·exact .inr (.inl h)
    ·exact .inl h
    ·exact .inr (.inr h)
   ·rintro(h | h | h)
    ·exact .inr (.inl h)
    ·exact .inl h
    ·exact .inr (.inr h)
  have F:∀ s ∈ bh h.l,bY s x.aR=ag:=fun s M=>by
   unfold fh at v;rw [avj]at v;have:=v s (vS L l M);simpa using this
  refine⟨fun y m=>?_,?_,fun s B s' z d b=>?_⟩
  ·have:y=x∨y ∈ h.l:=by
    rcases auh.1 m with m | m
    ·exact .inr (auW m)
    ·rcases auc.1 m with m | m
     ·exact .inl m
     ·exact .inr (List.mem_of_mem_drop m)
   rcases this with rfl | m
   ·exact Q
   ·exact l.m y m
  ·show gH (bh (h.l.take i++x::h.l.drop i));have Y:gH (x.aR::bh h.l):=auN.2 ⟨fun s M=>by rw [oR];exact F s M,l.ap⟩;refine Y.perm ?_;rw [H,I];exact List.perm_middle
  ·rcases(q s).1 B with rfl | B
   ·rcases(q s').1 z with rfl | z
    ·exact absurd rfl b
    ·exact J s' (vS L l z) d.symm (Ne.symm b)
   ·rcases(q s').1 z with rfl | z
    ·exact fun W=>J s (vS L l B) d b (za W)
    ·exact l.no s B s' z d b
theorem Gu:kr h00:=⟨fun x d=>by simp [h00]at d,List.Pairwise.nil,fun s b=>by simp [h00,bh]at b⟩
theorem mq{x:List FC}(h:∃ m,x=[FC.int .u8 m]∧Lit.wf (.int .u8 m)):∃ m:Int,x=[FC.int .u8 m]∧(0≤m∧m≤255):=by
 obtain⟨m,rfl,b⟩:=h;simp [Lit.wf,IntKind.min,IntKind.max,IntKind.signed,IntKind.bits]at b;exact⟨m,rfl,by omega⟩
theorem arA{x:List FC}(h:∃ m,x=[FC.int .u16 m]∧Lit.wf (.int .u16 m)):∃ m:Int,x=[FC.int .u16 m]∧(0≤m∧m≤65535):=by
 obtain⟨m,rfl,b⟩:=h;simp [Lit.wf,IntKind.min,IntKind.max,IntKind.signed,IntKind.bits]at b;exact⟨m,rfl,by omega⟩
theorem ach{n:Nat}(h:n≤maxLen):n≤9223372036854775807:=aum h (by decide)
theorem BI{n:Nat}{ys:List FC}(h:qK Tryz.prog (n+2) 28 ys):∃ c:List Int,ys=De c∧jS 8 c:=by
 obtain⟨_,S,rfl,u,H⟩:=dC (pb (ts:=[5,5,5,5,5,5,5,5]) Tryz.underlying28 rfl h);obtain⟨b1,rfl,e⟩:=mq (fv Tryz.underlying5 u);obtain⟨_,U,rfl,v,I⟩:=dC H;obtain⟨d,rfl,f⟩:=mq (fv Tryz.underlying5 v);obtain⟨_,W,rfl,y,J⟩:=dC I;obtain⟨g,rfl,i⟩:=mq (fv Tryz.underlying5 y);obtain⟨_,X,rfl,z,K⟩:=dC J;obtain⟨j,rfl,k⟩:=mq (fv Tryz.underlying5 z);obtain⟨_,Y,rfl,A,L⟩:=dC K;obtain⟨l,rfl,o⟩:=mq (fv Tryz.underlying5 A);obtain⟨_,Z,rfl,B,M⟩:=dC L;obtain⟨m,rfl,p⟩:=mq (fv Tryz.underlying5 B);obtain⟨_,a,rfl,E,N⟩:=dC M;obtain⟨q,rfl,r⟩:=mq (fv Tryz.underlying5 E);obtain⟨_,Q,rfl,F,O⟩:=dC N;obtain⟨s,rfl,t⟩:=mq (fv Tryz.underlying5 F);obtain rfl:Q=[]:=O;refine⟨[b1,d,g,j,l,m,q,s],rfl,rfl,fun x b=>?_⟩;simp at b;rcases b with rfl | rfl | rfl | rfl | rfl | rfl | rfl | rfl<;>assumption
theorem aq'{n:Nat}{ys:List FC}(h:qK Tryz.prog (n+3) 30 ys):∃ c:List Int,ys=De c∧jS 11 c:=by
 obtain⟨_,H,rfl,l,u⟩:=dC (pb (ts:=[5,5,5,28]) Tryz.underlying30 rfl h);obtain⟨b1,rfl,B⟩:=mq (fv Tryz.underlying5 l);obtain⟨_,I,rfl,m,v⟩:=dC u;obtain⟨g,rfl,E⟩:=mq (fv Tryz.underlying5 m);obtain⟨_,J,rfl,q,y⟩:=dC v;obtain⟨j,rfl,F⟩:=mq (fv Tryz.underlying5 q);obtain⟨_,A,rfl,s,z⟩:=dC y;obtain⟨c,rfl,d⟩:=BI s;obtain rfl:A=[]:=z;refine⟨b1::g::j::c,by simp [De],by simp [d.1],fun x b=>?_⟩;simp at b;rcases b with rfl | rfl | rfl | b
 ·exact B
 ·exact E
 ·exact F
 ·exact d.2 x b
theorem Gz{n:Nat}{ys:List FC}(h:qK Tryz.prog (n+5) 26 ys):∃ p:iF,ys=p.row∧mH p:=by
 obtain⟨_,J,rfl,l,z⟩:=dC (pb (ts:=[5,22,23,24]) Tryz.underlying26 rfl h);obtain⟨a,rfl,g⟩:=mq (fv Tryz.underlying5 l);obtain⟨_,K,rfl,m,A⟩:=dC z;obtain⟨q,rfl,j⟩:=arA (fv Tryz.underlying22 m);obtain⟨_,M,rfl,s,B⟩:=dC A;obtain⟨lg,rows,rfl,_,y,d⟩:=zr Tryz.underlying23 s;obtain⟨L,rfl,v⟩:=AG (enc:=De) (p:=jS 8) fun r b=>BI (d r b);obtain⟨_,I,rfl,u,E⟩:=dC B;obtain⟨F,rows,rfl,_,H,d⟩:=zr Tryz.underlying24 u;obtain⟨O,rfl,x⟩:=AG (enc:=De) (p:=jS 11) fun r b=>aq' (d r b);obtain rfl:I=[]:=E;exact⟨⟨a,q,lg,L,F,O⟩,rfl,g.1,g.2,j.1,j.2,v,x,ach (by simpa using y),ach (by simpa using H)⟩
theorem CD{a:V}(h:zE Tryz.prog 26 a):∃ p:iF,a=.a (p.row.map .f)∧mH p:=by
 rcases h with⟨xs,rfl,b,_⟩ | ⟨x,rfl,b⟩
 ·obtain⟨x,rfl,d⟩:=Gz (n:=35) b;exact⟨x,rfl,d⟩
 ·exfalso;obtain⟨x,e,_⟩:=Gz (n:=35) b;simp [iF.row]at e
theorem ajj(h:dj)(u:uQ h):∃(g:Tg) (A:List av),(∀ s ∈ A,s ∈ bh h.l)∧A.length≤9∧bo tab 24 [.a (h.row.map .f)]=Eq (.c (.f (sl g (ak A)))):=by
 have O:=u.len;obtain⟨r,⟨g,A,F,H,rfl⟩,U⟩:∃ r,(∃(g:Tg) (A:List av),(∀ s ∈ A,s ∈ bh h.l)∧A.length≤9∧r=.c (.f (sl g (ak A))))∧bo tab 24 [.a (h.row.map .f)] r:=by
  refine dG rfl rfl fun Q L=>?_;have B:=kX h (by omega);rw [u.v]at B;obtain⟨K,v⟩:=aK ([.box (h.row.map .f) 0]:aj);obtain⟨a1,-,-⟩:=aqI K 0 h (by rw [v];rfl);have q:h.row.length=3:=rfl;obtain⟨r,Y,m,c,rfl,M,J,S⟩:=yC h (by omega) (fun x X=>uh (u.f x X).2) .nil [] (by simp) K;have m:=m.eq;have z:=nw (l0:=[]) (l:=bh h.l) (acc:=[]);have N:=vT h;obtain⟨r,E,b,rfl,-,A,I,j,-⟩:=GP J (by simp at z;omega);have b:=b.eq;obtain⟨g,y⟩:=I.ex (aS A) 63;change ek deep E c=_ at y;have d:(sl .nil (ak []):FC)=.aw:=rfl;rw [d]at m;apply ai;simp [q];rw [←v];apply al;apply ai;simp [a1,B,-aA];refine bw (by simp) ?_;apply ai;simp [a1,m,-aA];apply ai;simp [b];apply ai;simp;refine aC (L _ _ (.c (.f (sl g (ak A)))) ⟨g,A,fun s W=>?_,?_,rfl⟩ ?_)
  ·exact(qH (j.mem_iff.1 W)).resolve_left (by simp)
  ·rw [j.length_eq];simp at z;omega
  ·simp [y]
 exact⟨g,A,F,H,U.eq⟩
theorem C1(n:Nat){s:av}(h:jd s):∀ c ∈ s.row,Rf (n+6) c:=fun c b=>by
 refine ai1 n (x:=⟨0,0,0,s⟩) h c ?_;have e:(⟨0,0,0,s⟩:bC).row=fi 0::fi 0::fi 0::s.row:=rfl;rw [e];exact at5 _ (at5 _ (at5 _ b))
theorem E8{l:List av}(h:∀ s ∈ l,jd s)(k:Nat):V.beq (.c (.f (.fp (ak l).flatten k))) (.c (.f (.fp (ak l).flatten k)))=ae:=by
 show Rf 64 _;refine arf fun c b=>?_;obtain⟨r,d,b⟩:=List.mem_flatten.1 b;obtain⟨x,g,rfl⟩:=auq.1 d;exact C1 57 (h x g) c b
theorem E7{s:av}(h:jd s):V.beq (.a (s.row.map .f)) (.a (s.row.map .f))=ae:=ais fun c b=>C1 58 h c b
theorem BW{s:av}(h:jd s):jQ s.st:=by
 obtain⟨m,r,t,z,n,p,mi,le,rfl,b⟩:=h;obtain⟨k,g,d⟩:=b.i0;exact adJ ⟨b.n0,b.n1,b.p0,b.p1⟩ (by omega) (by omega) (by have:=b.l0;omega) (by have:=b.l1;omega)
theorem abi(p:iF)(hp:mH p):bo tab 7 [.a (p.row.map .f)]=Eq (vb ae):=bo.eq (by
 refine bV rfl rfl fun Q hQ=>?_;obtain⟨h,hk,hc,hN,hP⟩:=zm p hp kr Gu fun h h' k _ hn hR=>wg (auB _ (by omega)) (wB p hp) hn hR;have N:=arq;obtain⟨g,A,hA,f_,hL⟩:=ajj h hk;have E:∀ s ∈ A,jd s:=fun s hs=>by
  obtain⟨x,hx,rfl⟩:=qa (hA s hs);exact(hk.f x hx).2
 have F:p.row.length=4:=rfl;obtain⟨row,a8⟩:=aK (p.row);rw [←a8]at hP F ⊢;have lp:∀ K:aj,K[0]?=aa (.box (row.map .f) 0)→aV K (aa 4) (.c (.ptr 0 0 0))=aa (.a (row.map .f)):=fun K hK=>by simp [aV,aG,hK,aT,F,at8]
 have a7:∀ K:aj,bA K (.f (sl g (ak A)))=aa A.length:=fun K=>by simp [ak]
 obtain⟨K0,Z⟩:=aK ([.box (row.map .f) 0]:aj);apply ai;simp [F];rw [←Z];apply ai;simp [N];apply ai;simp [lp K0 (by rw [Z];rfl),hP,hL,-aA];apply al;apply ai;simp;refine ji A.length (fun j t J=>t.g 3=vb ae∧t.g 4=.c (.f (sl g (ak A)))) (by omega) rfl (by simp) ⟨by simp,by simp⟩ ?_ ?_ ?_
 ·rintro j t J K hj ⟨v,d⟩ ha hL;simp [ha,d,a7];exact hL _ ⟨by simp [v],by simp [d]⟩ (by simp [ha]) (by simp)
 ·rintro i t J hi ⟨v,d⟩ c_ next
  refine aF ?_;apply ai;simp;refine ji i (fun j t J=>t.g 3=vb ae∧t.g 4=.c (.f (sl g (ak A)))∧t.g 5=vi i) (by omega) rfl (by simp) ⟨by simp [v],by simp [d],by simp [c_]⟩ ?_ ?_ ?_
  ·rintro j t J K hj ⟨v,d,B⟩ ha hL;simp [ha,B];exact hL _ ⟨by simp [v],by simp [d],by simp [B]⟩ (by simp [ha]) (by simp)
  ·rintro j t J hj ⟨v,d,B⟩ z m;have L:j<A.length:=by omega
   have q:=fun H:aj=>bt (H:=H) (g:=g) (rows:=ak A) (sz:=7) (k:=.i64) (i:=(i:Int)) (by omega) (by simp [ak];omega);have u:=fun H:aj=>bt (H:=H) (g:=g) (rows:=ak A) (sz:=7) (k:=.i64) (i:=(j:Int)) (by omega) (by simp [ak];omega);have U:=fun H:aj=>bL (H:=H) (aS A) (cA hi);have W:=fun H:aj=>bL (H:=H) (aS A) (cA L);simp only [aui]at q u;have e_:=hN.no A[i] (hA _ (at2 hi)) A[j] (hA _ (at2 L));have b_:=E _ (at2 hi);have Y:=E _ (at2 L);have a_:=E8 E (j*7);have b9:=E7 Y;obtain⟨r,hr,M⟩:=BQ A[i].st A[j].st (BW b_) (BW Y);generalize A[i]=x at *;generalize A[j]=y at *;have O:x.row.length=7:=rfl;have S:y.row.length=7:=rfl;obtain⟨X,I⟩:=aK (J++[bz.box (x.row.map .f) 0,.box (y.row.map .f) 0]);have m7:X[J.length]?=aa (.box (x.row.map .f) 0):=by rw [I];simp
   have m8:X[J.length+1]?=aa (.box (y.row.map .f) 0):=by rw [I,atZ (by omega)];simp
   have ls:∀(b:Nat) (s:av),X[b]?=aa (.box (s.row.map .f) 0)→aV X (aa 3) (.c (.ptr b 4 0))=aa (.a (s.st.row.map .f))∧aV X ab (.c (.ptr b 1 0))=aa (vi s.room)∧aV X ab (.c (.ptr b 0 0))=aa (vi s.meet):=fun b s hb=>by
    refine⟨?_,?_,?_⟩<;>simp [aV,aG,hb,aT,av.row,aJ.row]
   obtain⟨x1,x2,x3⟩:=ls _ x m7;obtain⟨y1,y2,y3⟩:=ls _ y m8;refine aF ?_;refine al (fe (.inl rfl) ?_ ?_)
   case refine_2=>
    intro cc d_;have d9:cc=(6,11)∨cc=(7,11):=by simpa using d_
    rcases d9 with rfl | rfl
    ·refine⟨by decide,_,rfl,.inl ⟨by decide,?_⟩⟩;simp [d,B,z,q,u,U,W,O,S,gl,a_,-aA]
    ·refine⟨by decide,_,rfl,.inl ⟨by decide,?_⟩⟩;simp [d,B,z,q,u,U,W,O,S,gl,b9,-aA]
   simp [d,B,z,q,u,U,W,O,S,-aA];rw [←I];apply ai;simp [x1,y1,M,-aA];apply al;refine an (.inl rfl) ?_;cases r with
   | false=>
    simp;exact aD (by simp) (aO (az (m _ _ ⟨by simp [v],by simp [d],by simp [B]⟩ (by simp [z]))))
   | true=>
    by_cases l:x.room=y.room
    ·by_cases hm:x.meet=y.meet
     ·simp [x2,y2,x3,y3,l,hm,-aA];exact aD (by simp) (aO (az (m _ _ ⟨by simp [v],by simp [d],by simp [B]⟩ (by simp [z]))))
     ·exact absurd (hr.1 rfl) (e_ l hm)
    ·simp [x2,y2,l,-aA];exact aD (by simp) (aO (az (m _ _ ⟨by simp [v],by simp [d],by simp [B]⟩ (by simp [z]))))
  ·rintro t J ⟨v,d,B⟩ -;exact az (next _ _ ⟨by simp [v],by simp [d]⟩ (by simp [B]))
 ·rintro t J ⟨v,d⟩ -;apply ai;simp [v];refine aC (hQ _ _ ?_);simp)
theorem DN(b:List V)(h:pk Tryz.prog [26] b):bo tab 7 b (vb ae):=by
 obtain⟨g,_,rfl,h0,rfl⟩:=h;obtain⟨p,rfl,d⟩:=CD h0;rw [abi p d]
theorem QP{x:av}(h0:1≤x.meet)(b:0≤x.room∧x.room≤2)(d:0≤x.dB∧x.dB≤2)(g:1≤x.size∧x.size≤12)(h:dU x.st=ae):gk 3 x=ae:=by
 simp [gk,bF,h];omega
theorem GU{x:av}(h:jd x):gk 3 x=ae:=by
 obtain⟨m,r,t,z,n,p,mi,le,rfl,b⟩:=h;obtain⟨k,g,d⟩:=b.i0;exact QP b.m0 ⟨b.r0,b.r1⟩ ⟨b.t0,b.t1⟩ ⟨b.z0,b.z1⟩ (lO ⟨b.n0,b.n1,b.p0,b.p1⟩ (by omega) (by omega) (by have:=b.l0;omega) (by have:=b.l1;omega))
theorem akE(af b:Int)(d:0≤af)(a1:af≤39)(g:0≤b)(j:b≤10080):mj (ct af b)=0:=by
 simp [mj,ct,th,mw,gm,eE,bF,jm,lZ,Az];omega
theorem aiA{x y:av}(h:eL x y):mM x y<0:=by
 unfold eL at h;rcases h with h | ⟨h,b⟩
 ·simp [mM,wm,de,h]
 ·simp [mM,wm,de,h,b]
theorem C3:∀ {L:List av} {b:Option av},L.Pairwise eL→(∀ s ∈ L,jd s)→(∀ m,b=aa m→∀ s ∈ L,eL m s)→fA 3 b L=ae
 | [],_,_,_,_=>rfl
 | s::r,b,u,j,q=>by
  have g:=auN.1 u;unfold fA;rw [GU (j s at4),C3 g.2 (fun x d=>j x (at5 _ d)) fun m l x d=>by cases l;exact g.1 x d];cases b with
  | none=>rfl| some m=>simpa using aiA (q m rfl s at4)
theorem ack(af b:Int)(d:0≤af)(a1:af≤39)(q:0≤b)(u:b≤10080){L:List av}(v:L.length≤1000)(l:L.Pairwise eL)(g:∀ s ∈ L,jd s):ov (ct af b) L=ae:=by
 unfold ov;rw [akE af b d a1 q u,show(ct af b).length=3 from rfl,C3 l g (fun m j=>by cases j)];simp;omega
theorem nU{sz:Nat}{rows:List (List FC)}(k:Nat)(b:cr sz rows)(d:k≤rows.length):rows.flatten.take (k*sz)=(rows.take k).flatten:=by
 have e:rows.flatten=(rows.take k).flatten++(rows.drop k).flatten:=by rw [←List.flatten_append,auA]
 have g:(rows.take k).flatten.length=k*sz:=by rw [bW (b.take k),aur,avm d]
 rw [e,←g,List.take_left]
theorem ajI{H:aj}{sz:Nat}{g:Tg}{rows:List (List FC)}{k:Nat}(q:cr sz rows)(d:k≤rows.length)(s:rows.length≤9223372036854775807) :
  ∃ g',dk H sz (.c (.f (sl g rows))) ab (aa (vi k)) ab=aa (.c (.f (sl g' (rows.take k)))):=by
 cases rows with
 | nil=>
  have:k=0:=by simpa using d
  subst this;cases g
  ·exact⟨.nil,rfl⟩
  ·exact⟨.es,rfl⟩
  ·exact⟨.fs,by simp [sl,Tg.fc,dk,bO];rfl⟩
 | cons x r=>
  refine⟨.fs,?_⟩;have j:AU (vi k) (x::r).length=aa k:=by
   have:(0:Int)≤(k:Int)∧(k:Int)≤((x::r).length:Int):=⟨by omega,by omega⟩
   show(if(0:Int)≤(k:Int)∧(k:Int)≤((x::r).length:Int)then aa (k:Int).toNat else ab)=aa k;rw [bg this,aui]
  have b:bO (x::r).length (x::r).length ab (aa (vi k)) ab=aa (0,k,(x::r).length):=by
   simp [bO];simp only [auo]at j;rw [j];simp
  show dk H sz (.c (.f (.fs (x::r).flatten (x::r).length))) _ _ _=_;simp only [dk,b];have l:((x::r).flatten.drop (0*sz)).take ((k-0)*sz)=((x::r).take k).flatten:=by
   rw [Nat.zero_mul,List.drop_zero,Nat.sub_zero,nU k q d]
  rw [l];have m:sl .fs ((x::r).take k)=.fs ((x::r).take k).flatten (k-0):=by
   cases k with
   | zero=>rfl
   | succ k=>
    simp only [auo]at d;simp [sl];omega
  rw [m];simp
def rh(af b:Int)(L:List av):Prop:=∀ i (h:i<L.length),Fits af b (L.take i) L[i]
theorem QR{L:List av}{x:av}(h:∀ s ∈ L,eL s x):fh L x=ag:=by
 unfold fh;rw [avj];intro s b;have:=h s b;unfold eL at this;simp [bY];omega
theorem CZ(af d:Int)(a0:0≤af)(a1:af≤39)(q0:0≤d)(q1:d≤10080)(g:Tg)(L:List av)(hl:L.length≤1000)(hs:L.Pairwise eL)(hf:∀ s ∈ L,jd s) :
  ∃ b:Bool,(b=ae↔rh af d L)∧bo tab 26 [.c (.f (fR af d)),.c (.f (sl g (ak L)))]=Eq (.t [vb b,vi 0]):=by
 have l:=(Gp .fs g (ct af d) L (show(3:Nat)≤6 by decide) (acI af d) (by omega) fun s h=>zZ (hf s h)).eq;rw [ack af d a0 a1 q0 q1 hl hs hf]at l;change bo tab 59 [.c (.f (fR af d)),_]=_ at l;obtain⟨r,⟨b,O,rfl⟩,hp⟩:∃ r,(∃ b:Bool,(b=ae↔rh af d L)∧r=.t [vb b,vi 0])∧bo tab 26 [.c (.f (fR af d)),.c (.f (sl g (ak L)))] r:=by
  refine dG rfl rfl fun Q hQ=>?_;have X:∀ J:aj,bA J (.f (sl g (ak L)))=aa L.length:=fun J=>by simp
  obtain⟨rm,Z⟩:=aK (fR af d);rw [←Z]at l ⊢;apply ai;simp;apply al;apply ai;simp [l];refine bw (by simp) ?_;apply al;apply ai;simp [X];refine bR L.length (fun j t _=>t.g 0=.c (.f rm)∧t.g 1=.c (.f (sl g (ak L)))∧t.g 14=.c (.f (sl g (ak L)))∧∀ i (h:i<L.length),i<j→Fits af d (L.take i) L[i]) (by omega) (by decide) (by decide) (by simp) (by simp) ⟨by simp,by simp,by simp,fun i _ h=>by omega⟩ ?_ ?_
  ·rintro j t J hj ⟨g0,M,q,hI⟩ N O next
   have A:=fun H:aj=>bt (H:=H) (g:=g) (rows:=ak L) (sz:=7) (k:=.i64) (i:=(j:Int)) (by omega) (by simp;omega);have a7:=fun H:aj=>bL (H:=H) (aS L) (cA hj);simp only [aui]at A;have c_:∀ H:aj,∃ g',dk H 7 (.c (.f (sl g (ak L)))) ab (aa (vi j)) ab=aa (.c (.f (sl g' (ak (L.take j))))):=fun H=>by
    obtain⟨g',h⟩:=ajI (H:=H) (g:=g) (k:=j) (aS L) (by simp;omega) (by simp;omega);exact⟨g',by rw [h];simp [ak]⟩
   have I:(L.take j).length≤1000:=by rw [aur];omega
   have K:(L.take j).Pairwise eL:=hs.sublist (List.take_sublist _ _);have y:∀ s ∈ L.take j,jd s:=fun s h=>hf s (auW h);have z:=hf L[j] (at2 hj);have Y:∀ s ∈ L.take j,eL s L[j]:=fun s h=>by
    obtain⟨i,hi,rfl⟩:=auI h;rw [aur]at hi;rw [List.getElem_take];exact List.pairwise_iff_getElem.1 hs i j (by omega) hj (by omega)
   have E:(eX af d (L.take j) L[j]&&!fh (L.take j) L[j])=ae:=by
    rw [QR Y];unfold eX;rw [ack af d a0 a1 q0 q1 I K y,GU z];rfl
   obtain⟨S,h8,v,-,m⟩:=uX af d a0 a1 (L.take j) I K y L[j] z;rw [E]at m;simp only [if_true]at m;have v:=v E;rw [←Z]at m;obtain⟨ff,a8⟩:=aK (Fits af d (L.take j) L[j]);have b9:Fits af d (L.take j) L[j]→∀ i (h:i<L.length),i<j+1→Fits af d (L.take i) L[i]:=fun hF i h d_=>by
    by_cases e:i=j
    ·subst e;exact hF
    ·exact hI i h (by omega)
   have F:¬ Fits af d (L.take j) L[j]→¬ rh af d L:=fun hn hA=>hn (hA j hj);have a_:zI af d (L.take j) L[j] S→¬ Fits af d (L.take j) L[j]:=ajC y z;clear Y E I K y z a8;generalize L[j]=x at *;have d9:x.row.length=7:=rfl;obtain⟨B,U⟩:=aK (J++[bz.box (x.row.map .f) 0]);have d1:B[J.length]?=aa (.box (x.row.map .f) 0):=by rw [U];simp
   have l1:aV B (aa 7) (.c (.ptr J.length 0 0))=aa (.a (x.row.map .f)):=by simp [aV,aG,d1,aT,av.row]
   obtain⟨g',b_⟩:=c_ B;have hA:=m g';refine aF ?_;apply ai;simp [q,N,A,a7,d9,-aA];rw [←U];apply ai;obtain⟨J2,W⟩:=aK (B++[bz.box (S.map fun n=>.f (fi n)) 0]);have d2:J2[B.length]?=aa (.box (S.map fun n=>.f (fi n)) 0):=by rw [W];simp
   have l0:aV J2 ab (.c (.ptr B.length 0 0))=aa (vi (S.headD 0)):=by
    match S,h8 with
    | p0::_,_=>simp [aV,aG,d2]
   simp [g0,M,N,b_,l1,hA,qN,h8,-aA];rw [←W]
   suffices go:∀ u:T,u.g 0=.c (.f rm)→u.g 1=.c (.f (sl g (ak L)))→u.g 14=.c (.f (sl g (ak L)))→u.g 8=.c (.ptr B.length 0 0)→u.g 9=vi 0→u.g 16=vi j→u.g 15=vi L.length→WP tab 26 ab [.code xT,.inBlock 1,.code (rZ 16 38),.inLoop (iu 0 16 15 17 38 xS),.inBlock 0,.code xU] ⟨u,[],J2⟩ Q by
    exact go _ (by simp [g0]) (by simp [M]) (by simp [q]) (by simp) (by simp) (by simp [N]) (by simpa using O)
   clear g0 M q N O;intro u g0 M q g8 g9 N O;apply ai;simp [g8,g9,l0,-aA];rcases v with⟨e,hF⟩ | ⟨e,hR⟩
   ·have h0:S.headD 0=0:=by rw [e];rfl
    refine aD (by simpa using h0) (aO ?_);exact az (next _ _ ⟨by simp [g0],by simp [M],by simp [q],b9 hF⟩ (by simp [N]) (by simp [O]))
   ·refine aq (by simpa using e) ?_;apply ai;simp [g9];refine aC (hQ _ _ _ ⟨ag,?_,rfl⟩ ?_)
    ·simp only [aub,false_iff];exact F (a_ hR)
    ·simp [Km.results,bj]
  ·rintro t J ⟨g0,M,q,hI⟩ - -;apply ai;simp;refine aC (hQ _ _ _ ⟨ae,?_,rfl⟩ ?_)
   ·simp only [true_iff];exact fun i h=>hI i h h
   ·simp [Km.results,bj]
 exact⟨b,O,hp.eq⟩
structure gh(af qu:Int)(L:List av):Prop where
 f:∀ s ∈ L,jd s
 sz:∀ s ∈ L,s.size≤10
 hr:∀ s ∈ L,Er s.st+s.st.len≤1440
 cl:∀ s ∈ L,∀ t ∈ L,GI af qu s.room t.room=ae→s.meet≠t.meet→¬ gZ (gE af t .nil .nil) (gE af s .nil .nil)
 qt:∀ q,0≤q→cS (bX 0 1 L) q≤qu
theorem ED{k b:Int}{M L:List av}(h:List.Sublist M L):List.Sublist (bX k b M) (bX k b L):=(h.filter _).map _
theorem sV{k b:Int}{M L:List av}(h:M.Perm L):(bX k b M).Perm (bX k b L):=(h.filter _).map _
theorem gh.sub{af qu:Int}{M L:List av}(h:gh af qu L)(b:List.Sublist M L):gh af qu M:=
 ⟨fun s d=>h.f s (b.subset d),fun s d=>h.sz s (b.subset d),fun s d=>h.hr s (b.subset d),fun s h1 t h2=>h.cl s (b.subset h1) t (b.subset h2),
  fun q g=>Int.le_trans (P_ (ED b) (BU h.f 0 1) q) (h.qt q g)⟩
theorem gh.perm{af qu:Int}{M L:List av}(h:gh af qu L)(b:M.Perm L):gh af qu M:=
 ⟨fun s d=>h.f s (b.mem_iff.1 d),fun s d=>h.sz s (b.mem_iff.1 d),fun s d=>h.hr s (b.mem_iff.1 d),fun s h1 t h2=>h.cl s (b.mem_iff.1 h1) t (b.mem_iff.1 h2),
  fun q g=>by rw [vU (sV b) q];exact h.qt q g⟩
theorem Fits.perm{af qu:Int}{M L:List av}{x:av}(h:Fits af qu L x)(b:M.Perm L):Fits af qu M x:=
 ⟨h.sz,h.hr,fun s g=>h.cl s (b.mem_iff.1 g),fun h1 h2 q d=>by rw [vU (sV b) q];exact h.qt h1 h2 q d⟩
theorem adh(af b:Int){i k:Int}(h0:0≤i)(d:i≤2)(g:0≤k)(j:k≤2)(h:GI af b i k=ae):GI af b k i=ae:=by
 obtain rfl | rfl | rfl:i=0∨i=1∨i=2:=by omega
 all_goals obtain rfl | rfl | rfl:k=0∨k=1∨k=2:=by omega
 all_goals first | rfl | exact absurd h (by simp [GI,ke,cf,mw])
theorem BV{s:av}(h:jd s):0≤s.room∧s.room≤2:=⟨(lN h).r0,(lN h).r1⟩
theorem gh.cons{af qu:Int}{L:List av}{x:av}(h:gh af qu L)(u:jd x)(j:Fits af qu L x):gh af qu (x::L):=by
 have y:=BV u;refine⟨fun s b=>?_,fun s b=>?_,fun s b=>?_,fun s b t m g d=>?_,fun q l=>?_⟩
 ·rcases auc.1 b with rfl | b
  ·exact u
  ·exact h.f s b
 ·rcases auc.1 b with rfl | b
  ·exact j.sz
  ·exact h.sz s b
 ·rcases auc.1 b with rfl | b
  ·exact j.hr
  ·exact h.hr s b
 ·rcases auc.1 b with rfl | h1
  ·rcases auc.1 m with rfl | h2
   ·exact absurd rfl d
   ·have v:=BV (h.f t h2);exact fun z=>j.cl t h2 (adh af qu y.1 y.2 v.1 v.2 g) (Ne.symm d) (za z)
  ·rcases auc.1 m with rfl | h2
   ·exact j.cl s h1 g d
   ·exact h.cl s h1 t h2 g d
 ·by_cases k:x.room=0∧x.dB=1
  ·have e:bX 0 1 (x::L)=x.st::bX 0 1 L:=by simp [bX,k]
   rw [e,cS];have:=j.qt k.1 k.2 q l;omega
  ·have e:bX 0 1 (x::L)=bX 0 1 L:=by
    unfold bX;rw [List.filter_cons_of_neg];simpa using k
   rw [e];exact h.qt q l
theorem rh.sound{af qu:Int}(q0:0≤qu){L:List av}(b:∀ s ∈ L,jd s)(h:rh af qu L):gh af qu L:=by
 have key:∀ k,k≤L.length→gh af qu (L.take k):=by
  intro k;induction k with
  | zero=>intro _;exact⟨by simp,by simp,by simp,by simp,fun q _=>by simpa [bX,cS]using q0⟩
  | succ k d=>
   intro g;have e:L.take (k+1)=L.take k++[L[k]]:=by rw [auz,asZ (by omega)];rfl
   refine((d (by omega)).cons (b L[k] (at2 _)) (h k (by omega))).perm ?_;rw [e];exact List.perm_append_comm
 have:=key L.length (at3 _);rwa [auv]at this
theorem gh.fits{af qu:Int}{L:List av}(h:gh af qu L):rh af qu L:=fun i hi=>by
 have b:=at2 hi;have e:L.take (i+1)=L.take i++[L[i]]:=by rw [auz,asZ hi];rfl
 have d:=h.sub (List.take_sublist (i+1) L);refine⟨h.sz _ b,h.hr _ b,fun s d=>h.cl s (auW d) _ b,fun h1 h2 q j=>?_⟩;have:=d.qt q j;rw [e,oV,P']at this;have g:bX 0 1 [L[i]]=[L[i].st]:=by simp [bX,h1,h2]
 rw [g]at this;simp only [cS]at this;omega
theorem ac9{af z:Int}{l0:List av}{h n:dj}{k:Int}(A:xr af z l0 h n k) :
  List.Sublist (bh n.l) (bh h.l)∨∃ x:bC,jd x.aR∧(bh n.l).Perm (x.aR::bh h.l)∧Fits af z (jy l0 h) x.aR:=by
 rcases A with rfl | ⟨d,id,y,g,B,b,rfl⟩ | ⟨d,c,g,h0,H,rfl⟩ | ⟨d,g,rfl⟩ | ⟨d,x,i,g,-,u,-,v,F,hi,-,-,rfl,E,j⟩
 ·exact .inl (List.Sublist.refl _)
 ·unfold ei at b;split at b
  ·omega
  cases l:rr id h.l with
  | none=>rw [l]at b;simp at b
  | some i=>
   rw [l]at b;obtain⟨hi,-⟩:=nF l;simp only [asZ hi]at b;split at b
   case isFalse=>omega
   rename_i s;have m:({ gW h id y with lg:=g }:dj).l=h.l.set i { h.l[i]with state:=y }:=by
    show(gW h id y).l=_;unfold gW;simp only [l,adb,asZ hi]
   rw [m];exact .inl (Cd hi (by simp [gQ,s]) _ rfl)
 ·exact .inl (sj c h.l)
 ·exact .inl (List.Sublist.refl _)
 ·refine .inr ⟨x,v,?_,j⟩;have m:bh (h.l.take i++x::h.l.drop i)=bh (h.l.take i)++([x.aR]++bh (h.l.drop i)):=by
   have:h.l.take i++x::h.l.drop i=h.l.take i++([x]++h.l.drop i):=rfl;rw [this,eo,eo];have:bh [x]=[x.aR]:=by simp [bh,gQ,u]
   rw [this]
  have q:bh h.l=bh (h.l.take i)++bh (h.l.drop i):=by rw [←eo,auA]
  show(bh (h.l.take i++x::h.l.drop i)).Perm _;rw [m,q];exact List.perm_middle
theorem Bs{l0:List av}(d:lJ l0){h:dj}(b:kr h):(jy l0 h).Perm (l0++bh h.l):=by
 have e:uniq l0 [] (bh h.l)=bh h.l:=by
  rw [xh (by simpa using b.ap) fun x g y j=>?_]
  ·simp
  ·obtain⟨z,l,rfl⟩:=qa j;have m:=(d.f x g).2;have q:=b.m z l;simp only [bY,decide_eq_false_iff_not];omega
 unfold jy;rw [e];exact jM _
def aio(af b:Int)(l0:List av)(h:dj):Prop:=kr h∧(gh af b l0→gh af b (l0++bh h.l))
theorem adk{af b:Int}(s:0≤af){l0:List av}(m:lJ l0){h n:dj}{k:Int}(g:aio af b l0 h)(l:xr af b l0 h n k):aio af b l0 n:=by
 refine⟨wg s m g.1 l,fun h0=>?_⟩;have q:=g.2 h0;rcases ac9 l with v | ⟨x,y,j,u⟩
 ·exact q.sub (List.Sublist.append (List.Sublist.refl _) v)
 ·have d:Fits af b (l0++bh h.l) x.aR:=u.perm (Bs m g.1).symm;refine(q.cons y d).perm ((List.Perm.append (List.Perm.refl l0) j).trans ?_);exact List.perm_middle
theorem ars{af b:Int}{l0:List av}:aio af b l0 h00:=⟨Gu,fun h=>by simpa [h00,bh]using h⟩
theorem GV:∀(l:List (List Int)) (i:Int),(mf i l).Pairwise eL
 | [],_=>List.Pairwise.nil
 | c::r,i=>by
  refine auN.2 ⟨fun s b=>?_,GV r (i+1)⟩;obtain⟨d,-,k,-,rfl⟩:=qF b;show 20+i<20+(i+1+(k:Int))∨_;omega
theorem aoj(n:Int):Kf tab 88 [vi n] (vb (iL n)):=by
 refine cP rfl rfl fun H Q b=>?_;apply ai;simp;apply ai;by_cases h:0≤n
 ·simp [h];refine aC (b _ _ ?_);simp [iL,h]
 ·simp [h];refine aC (b _ _ ?_);simp [iL,h]
theorem AD(n:Int):bo tab 88 [vi n]=Eq (vb (iL n)):=(aoj n).eq
theorem QF(h:dj)(hl:h.l.length≤30):bo tab 87 [.a (h.row.map .f)]=Eq (vb (cW h)):=bo.eq (by
 refine bV rfl rfl fun Q Z=>?_;have bad:cW h=ag→∀(t:T) (J:aj) k,WP tab 87 ab (.code (.seq (.region [⟨D 2,.bc (.k (.c (.f (.bool ag)))),ab⟩] []) .ret)::k) ⟨t,[],J⟩ Q:=by
  intro hf t J k;apply ai;simp;refine aC (Z _ _ ?_);simp [hf]
 apply ai;simp [dj.row];apply al;apply ai;simp [AD];cases m1:iL h.clock
 ·simp;exact aq (by simp) (bad (by simp [cW,m1]) _ _ _)
 simp [AD];cases m2:iL h.bP
 ·simp;exact aq (by simp) (bad (by simp [cW,m2]) _ _ _)
 simp [show¬ (4096:Int)<h.l.length by omega];refine bw (by simp) ?_;apply al;apply ai;simp;refine ji h.l.length (fun j t H=>t.g 1=.c (.ptr 0 0 0)∧H[0]?=aa (.box [.f (fi h.clock),.f (fi h.bP),.f (sl h.lg (aQ h.l))] 0)∧∃ b,0≤b∧(j=0→b=0)∧(∀ m,j=m+1→∀ y:m<h.l.length,b=(h.l[m]'y).id)∧fK h.clock 0 h.l=fK h.clock b (h.l.drop j)) (by omega) rfl (by simp)
  ⟨by simp,rfl,0,by omega,by simp,by omega,by simp⟩ ?_ ?_ ?_
 ·rintro j t H L U ⟨g,h0,hL⟩ q hk;simp [q,g,h0];exact hk _ ⟨by simp [g],h0,hL⟩ (by simp [q]) (by simp)
 ·rintro j t H U ⟨g,h0,b,l0,lz,lp,I⟩ q next
  rw [sP U]at I;have E:=fun H:aj=>bL (H:=H) (bQ h.l) (dZ U);simp only [bC.row]at E;obtain⟨x,Y⟩:=aK (h.l[j]);rw [←Y]at I E;have v:eh h.clock b x=ag→cW h=ag:=fun e=>by simp [cW,I,e]
  refine aF ?_;apply ai;simp [q,g,h0,bt,U,E];obtain⟨u,l⟩:=aK ([C.f (fi x.id),C.f (fi x.dl),C.f (fi x.state),C.f (fi x.aR.meet),C.f (fi x.aR.room),C.f (fi x.aR.dB),C.f (fi x.aR.size),C.f (sl x.aR.st.cg (aN x.aR.st.cs)),C.f (fi x.aR.st.len),C.f (sl x.aR.st.xg (aH x.aR.st.xs))]);rw [←l];obtain⟨O,B⟩:=aK (H++[.box u 0]:aj);have F:O[0]?=aa (.box [.f (fi h.clock),.f (fi h.bP),.f (sl h.lg (aQ h.l))] 0):=by rw [B,anc (au h0)];exact h0
  have s:O[H.length]?=aa (.box [.f (fi x.id),.f (fi x.dl),.f (fi x.state),.f (fi x.aR.meet),.f (fi x.aR.room),.f (fi x.aR.dB),.f (fi x.aR.size),.f (sl x.aR.st.cg (aN x.aR.st.cs)),.f (fi x.aR.st.len),.f (sl x.aR.st.xg (aH x.aR.st.xs))] 0):=by rw [B,l];simp
  rw [←B];have q0:u[0]?=aa (C.f (fi x.id)):=by rw [l];rfl
  have q1:u[1]?=aa (C.f (fi x.dl)):=by rw [l];rfl
  have q2:u[2]?=aa (C.f (fi x.state)):=by rw [l];rfl
  have go:∀(t:T),t.g 1=.c (.ptr 0 0 0)→t.g 3=vi j→t.g 4=.c (.ptr H.length 0 0)→b<x.id→1≤x.state→x.state≤4→iL x.dl=ae →
    WP tab 87 ab [.code xO,.inBlock 1,.code qT,.inLoop qS,.inBlock 0,.code qU] ⟨t,[],O⟩ Q:=by
   intro t g S X N z K A;have nx:eh h.clock b x=ae→∀ t:T,t.g 1=.c (.ptr 0 0 0)→t.g 3=vi j→WP tab 87 ab [.inBlock 1,.code qT,.inLoop qS,.inBlock 0,.code qU] ⟨t,[],O⟩ Q:=by
    intro hb t g S;refine az (next _ _ ⟨by simp [g],F,x.id,by omega,by omega,fun m y a_=>?_,?_⟩ (by simp [S]))
    ·have:m=j:=by omega
     subst this;rw [Y]
    ·rw [I,hb];simp [Y]
   apply ai;by_cases M:x.state=1
   ·by_cases W:x.dl<h.clock
    ·simp [g,X,s,F,M,W];refine aq (by simp) ?_;exact bad (v (by simp [eh,M,W])) _ _ _
    ·simp [g,X,s,F,M,W];refine bw (by simp) ?_;exact nx (by simp [eh,M,W,A];omega) _ (by simp [g]) (by simp [S])
   ·simp [X,s,M];refine bw (by simp) ?_;exact nx (by simp [eh,M,A];omega) _ (by simp [g]) (by simp [S])
  apply al;apply ai;by_cases k0:x.id<1
  ·simp [s,k0];refine aq (by simp) ?_;exact bad (v (by simp [eh,show¬ b<x.id by omega])) _ _ _
  cases j with
  | zero=>
   have a7:=lz rfl;by_cases z:x.state<1
   ·simp [s,k0,q,z];refine aq (by simp) ?_;exact bad (v (by simp [eh,show¬ 1≤x.state by omega])) _ _ _
   by_cases K:4<x.state
   ·simp [s,k0,q,z,K];refine aq (by simp) ?_;exact bad (v (by simp [eh,show¬ x.state≤4 by omega])) _ _ _
   simp [s,k0,q,z,K,AD];cases A:iL x.dl
   ·refine aq (by simp) ?_;exact bad (v (by simp [eh,A])) _ _ _
   refine bw (by simp) ?_;exact go _ (by simp [g]) (by simp [q]) (by simp) (by omega) (by omega) (by omega) A
  | succ m=>
   have y:m<h.l.length:=by omega
   have a8:=lp m rfl y;have c1:((m+1:Nat):Int)-1=m:=by omega
   have d:=fun H:aj=>il (H:=H) (k:=0) (bQ h.l) (dZ y) rfl;simp at d;by_cases N:x.id≤h.l[m].id
   ·simp [s,k0,q,g,F,aW (n:=(m:Int)),bt,y,d,N];refine aq (by simp) ?_;exact bad (v (by simp [eh,show¬ b<x.id by omega])) _ _ _
   by_cases z:x.state<1
   ·simp [s,k0,q,g,F,aW (n:=(m:Int)),bt,y,d,N,z];refine aq (by simp) ?_;exact bad (v (by simp [eh,show¬ 1≤x.state by omega])) _ _ _
   by_cases K:4<x.state
   ·simp [s,k0,q,g,F,aW (n:=(m:Int)),bt,y,d,N,z,K];refine aq (by simp) ?_;exact bad (v (by simp [eh,show¬ x.state≤4 by omega])) _ _ _
   simp [s,k0,q,g,F,aW (n:=(m:Int)),bt,y,d,N,z,K,AD];cases A:iL x.dl
   ·refine aq (by simp) ?_;exact bad (v (by simp [eh,A])) _ _ _
   refine bw (by simp) ?_;exact go _ (by simp [g]) (by simp [q]) (by simp) (by omega) (by omega) (by omega) A
 ·rintro t H ⟨g,h0,b,l0,lz,lp,I⟩ q;apply ai;simp;refine aC (Z _ _ ?_);simp [cW,m1,m2,I,fK])
theorem ac1(a b:av):bo tab 116 [.a (a.row.map .f),.a (b.row.map .f)]=Eq (vb (mu a b)):=Kf.eq (by
 refine cP rfl rfl fun H Q j=>?_;apply ai;simp [av.row];apply ai;by_cases d:a.meet<b.meet
 ·simp [d];refine aC (j _ _ ?_);simp [mu,d]
 by_cases g:a.meet=b.meet
 ·simp [d,g];refine aC (j _ _ ?_);simp [mu,g]
 ·simp [d,g];refine aC (j _ _ ?_);simp [mu,d,g])
theorem GC(g:Tg)(l:List av)(X:l.length≤1000)(s:av):bo tab 62 [.c (.f (sl g (ak l))),.a (s.row.map .f)]=Eq (vb (l.any fun x=>bY x s)):=Kf.eq (by
 refine cP rfl rfl fun H Q M=>?_;apply ai;simp [av.row];obtain⟨I,u⟩:=aK (H++[.box [.f (fi s.meet),.f (fi s.room),.f (fi s.dB),.f (fi s.size),.f (sl s.st.cg (aN s.st.cs)),.f (fi s.st.len),.f (sl s.st.xg (aH s.st.xs))] 0]:aj);have K:I[H.length]?=aa (.box [.f (fi s.meet),.f (fi s.room),.f (fi s.dB),.f (fi s.size),.f (sl s.st.cg (aN s.st.cs)),.f (fi s.st.len),.f (sl s.st.xg (aH s.st.xs))] 0):=by rw [u];simp
 have z:∃ J,I=H++J:=⟨_,u⟩
 rw [←u];apply al;apply ai;simp;refine ji l.length (fun j t H'=>t.g 0=.c (.f (sl g (ak l)))∧t.g 3=.c (.ptr H.length 0 0)∧H'=I∧∀(q:Nat) (y:q<l.length),q<j→bY l[q] s=ag) (by omega) rfl (by simp) ⟨by simp,by simp,rfl,by simp⟩ ?_ ?_ ?_
 ·rintro j t _ L v ⟨g0,m,rfl,b⟩ d O;simp [d,g0];exact O _ ⟨by simp [g0],by simp [m],rfl,b⟩ (by simp [d]) (by simp)
 ·rintro j t _ v ⟨g0,m,rfl,b⟩ d next
  have E:=fun H:aj=>pZ (H:=H) (aS l) (cA v) rfl;have F:=fun H:aj=>il (H:=H) (k:=1) (aS l) (cA v) rfl
  try simp at E F
  have N:bY l[j] s=ag→∀(q:Nat) (y:q<l.length),q<j+1→bY l[q] s=ag:=fun S q y U=>by
   by_cases e:q=j
   ·subst e;exact S
   ·exact b q y (by omega)
  refine aF ?_;apply ai;by_cases A:l[j].meet=s.meet
  ·by_cases B:l[j].room=s.room
   ·simp [d,g0,m,K,bt,v,E,F,A,B];refine aq (by simp) (ai ?_);simp;refine aC (M _ _ ?_);have:(l.any fun x=>bY x s)=ae:=by
     rw [au3];exact⟨l[j],at2 v,sf.2 ⟨A,B⟩⟩
    simp [this,z]
   ·simp [d,g0,m,K,bt,v,E,F,A,B];refine aD (by simp) (aO (az (next _ _ ⟨by simp [g0],by simp [m],rfl,N ?_⟩ (by simp [d]))));simp [bY,B]
  ·simp [d,g0,m,K,bt,v,E,F,A];refine aD (by simp) (aO (az (next _ _ ⟨by simp [g0],by simp [m],rfl,N ?_⟩ (by simp [d]))));simp [bY,A]
 ·rintro t _ ⟨g0,m,rfl,b⟩ d;apply ai;simp;refine aC (M _ _ ?_);have:(l.any fun x=>bY x s)=ag:=by
   rw [avj];intro x W;obtain⟨q,y,rfl⟩:=auI W;simp [b q y y]
  simp [this,z])
theorem Ge{s:av}:∀ {l:List av} {i:Nat},i≤l.length→(∀ q (d:q<l.length),q<i→mu s l[q]=ag)→(∀ h:i<l.length,mu s l[i]=ae)→lj s l=l.take i++[s]++l.drop i
 | [],i,hi,_,_=>by
  have:i=0:=by simpa using hi
  subst this;rfl
 | x::r,0,_,_,h=>by
  have:=h (by simp);simp only [List.getElem_cons_zero]at this;simp [lj,this]
 | x::r,i+1,hi,h0,h=>by
  have b:=h0 0 (by simp) (by omega);simp only [List.getElem_cons_zero]at b;have m:=Ge (s:=s) (l:=r) (i:=i) (by simpa using hi) (fun q d j=>by have:=h0 (q+1) (by simpa using d) (by omega);simpa using this) (fun g=>by have:=h (by simpa using g);simpa using this);simp [lj,b,m]
theorem pU(s:av)(l:List av):(lj s l).length=l.length+1:=by simpa using (jt s l).length_eq
theorem mb(g:Tg)(l:List av)(hl:l.length≤1000)(s:av):∃ g',bo tab 60 [.c (.f (sl g (ak l))),.a (s.row.map .f)]=Eq (.c (.f (sl g' (ak (lj s l))))):=by
 obtain⟨r,⟨g',rfl⟩,hp⟩:∃ r,(∃ g',r=.c (.f (sl g' (ak (lj s l)))))∧bo tab 60 [.c (.f (sl g (ak l))),.a (s.row.map .f)] r:=by
  refine dG rfl rfl fun Q hQ=>?_;apply ai;simp [av.row];have a_:s.row.map C.f=[.f (fi s.meet),.f (fi s.room),.f (fi s.dB),.f (fi s.size),.f (sl s.st.cg (aN s.st.cs)),.f (fi s.st.len),.f (sl s.st.xg (aH s.st.xs))]:=rfl;rw [←a_];apply ai;simp;apply ai;simp;apply al;refine aF ?_;refine cH (fun m st=>∃(i:Nat) (t:T) (u:aj) (c:C),st=⟨t,[],u⟩∧m=l.length-i∧i≤l.length∧t.g 0=.c (.f (sl g (ak l)))∧t.g 3=.c (.ptr 0 0 0)∧t.g 5=.c c∧t.g 6=vi i∧u[0]?=aa (.box (s.row.map .f) 0)∧LR u c 7 (ak (l.take i))∧bE c≠aa 0∧(∀ q (hq:q<l.length),q<i→mu s l[q]=ag)) l.length
   ⟨0,_,_,.f .aw,rfl,by omega,by omega,by simp,by simp,by simp,by simp,rfl,LR.nil _ _,by simp [bE],by simp⟩ ?_
  rintro m st ⟨i,t,u,c,rfl,rfl,hi,g0,B,L,A,z0,hL,hb,S⟩ ih;have y:aV u (aa 7) (.c (.ptr 0 0 0))=aa (.a (s.row.map .f)):=by simp [z0,aT,av.row]
  have K:(∀ h:i<l.length,mu s l[i]=ae)→∀ t:T,t.g 0=.c (.f (sl g (ak l)))→t.g 3=.c (.ptr 0 0 0)→t.g 5=.c c→t.g 6=vi i→WP tab 60 ab [.code nz] ⟨t,[],u⟩ Q:=by
   intro a8 t g0 B L A;obtain⟨W,d⟩:=aK (u++[.box (s.row.map .f) 0]:aj);have E:LR W c 7 (ak (l.take i)):=by rw [d];exact hL.push _
   obtain⟨c4,Y,x,v,M,O⟩:=E.app (aS _) (by decide) (row:=s.row) rfl (bytes:=88) (qz (by simp;omega) (by decide)) (b1:=u.length) (fl1:=0) (by rw [d];simp);have Z:ak (l.take i)++[s.row]=ak (l.take i++[s]):=by simp [ak]
   rw [Z]at v;obtain⟨g1,U⟩:=ajH (H:=Y) (g:=g) (k:=i) (aS l) (by simpa using hi) (by simp;omega);have e5:(ak l).drop i=ak (l.drop i):=by simp [ak]
   rw [e5]at U;obtain⟨c5,H5,F,N,b_,c_⟩:=v.aqm (aS _) (by decide) (aS (l.drop i)) (bytes:=88) (qz (by simp;omega) (by decide)) g1;have e6:ak (l.take i++[s])++ak (l.drop i)=ak (lj s l):=by rw [Ge hi S a8];simp [ak]
   rw [e6]at N;obtain⟨g',a7⟩:=N.ex (aS _) 63;apply ai;have b9:s.row.map C.f=[.f (fi s.meet),.f (fi s.room),.f (fi s.dB),.f (fi s.size),.f (sl s.st.cg (aN s.st.cs)),.f (fi s.st.len),.f (sl s.st.xg (aH s.st.xs))]:=rfl;have J:(s.row.map C.f).length=7:=rfl;simp [L,B,y,-aA,J];rw [←d];simp [x];apply ai;simp [g0,A,U,F];refine aC (hQ _ _ (.c (.f (sl g' (ak (lj s l))))) ⟨g',rfl⟩ ?_);simp [iZ,cD,deep,a7]
  apply al;apply ai;by_cases z:i<l.length
  case neg=>
   simp [g0,A,show¬ (i:Int)<(l.length:Int) by omega];refine aD (by simp) ?_;refine bJ (k':=[.code nz]) rfl ?_;exact K (fun h=>absurd h z) _ (by simp [g0]) (by simp [B]) (by simp [L]) (by simp [A])
  have j:=bt (H:=u) (g:=g) (rows:=ak l) (sz:=7) (k:=.i64) (i:=(i:Int)) (by omega) (by simp;omega);have I:=bL (H:=u) (aS l) (cA z);rw [aui]at j;have b:=ac1 s l[i];cases X:mu s l[i]
  case true=>
   rw [X]at b;simp [g0,B,A,z,y,j,I,b,-aA];refine aD (by simp) ?_;refine bJ (k':=[.code nz]) rfl ?_;exact K (fun _=>X) _ (by simp [g0]) (by simp [B]) (by simp [L]) (by simp [A])
  case false=>
   rw [X]at b;simp [g0,B,A,z,y,j,I,b,-aA];refine aq (by simp) (aO ?_);obtain⟨W,d⟩:=aK (u++[.box (l[i].row.map .f) 0]:aj);have E:LR W c 7 (ak (l.take i)):=by rw [d];exact hL.push _
   have z3:W[0]?=aa (.box (s.row.map .f) 0):=by rw [d,anc (au z0)];exact z0
   obtain⟨c4,Y,x,v,M,O⟩:=E.app (aS _) (by decide) (row:=l[i].row) rfl (bytes:=88) (qz (by simp;omega) (by decide)) (b1:=u.length) (fl1:=0) (by rw [d];simp);have Z:ak (l.take i)++[l[i].row]=ak (l.take (i+1)):=by
    rw [List.take_succ_eq_append_getElem z];simp only [ak,List.map_append,aug,List.map_nil]
   rw [Z]at v;have J:(l[i].row.map C.f).length=7:=rfl;refine aF ?_;apply ai;simp [g0,L,A,j,I,J];rw [←d];simp [x];refine an (.inl rfl) ?_;simp [A,aW (n:=(i:Int)+1)];refine az (ih (l.length-(i+1)) _ (by omega) ⟨i+1,_,Y,c4,rfl,rfl,by omega,by simp [g0],by simp [B],by simp,by simp,M.2 0 _ z3 hb,v,?_,fun q hq d9=>?_⟩)
   ·rcases O with e | e
    ·rw [e];exact hb
    ·rw [e];have:=au z3;simp;intro q;rw [q]at this;simp at this
   ·by_cases e:q=i
    ·subst e;exact X
    ·exact S q hq (by omega)
 exact⟨g',hp.eq⟩
def ic:List av→List bC→List av
 | acc,[]=>acc| acc,x::r=>if gQ x&&!(acc.any fun y=>bY y x.aR)then ic (lj x.aR acc) r else ic acc r
theorem abh{a a':List av}(h:a.Perm a')(p:av→Bool):a.any p=a'.any p:=by
 rw [au6,au3,au3];exact⟨fun⟨x,b,e⟩=>⟨x,h.mem_iff.1 b,e⟩,fun⟨x,b,e⟩=>⟨x,h.mem_iff.2 b,e⟩⟩
theorem qx:∀ {l:List bC} {acc u:List av},acc.Perm u→acc.Pairwise i'→(ic acc l).Perm (uniq [] u (bh l))∧(ic acc l).Pairwise i'
 | [],acc,u,h,b=>⟨h,b⟩
 | x::r,acc,u,h,b=>by
  simp only [ic,bh,List.filter_cons];by_cases g:gQ x=ae
  ·simp only [g,if_true,aug,uniq,Bool.true_and,List.any_nil,Bool.false_or];rw [abh h];by_cases d:(u.any fun y=>bY y x.aR)=ae
   ·simp only [d,if_true,Bool.not_true,aub,if_false];exact qx h b
   ·simp only [d,if_false,Bool.not_false,if_true,aub];exact qx ((jt _ _).trans (List.Perm.append_right _ h)) (uz _ b)
  ·simp only [g,aub,if_false,Bool.false_and];exact qx h b
theorem sB:∀(l:List bC) (acc:List av),(ic acc l).length≤acc.length+l.length
 | [],acc=>by simp [ic]
 | x::r,acc=>by
  simp only [ic];split
  ·have:=sB r (lj x.aR acc);rw [pU]at this;simp;omega
  ·have:=sB r acc;simp;omega
theorem ac2(h:dj)(hl:h.l.length≤30):∃ g,bo tab 61 [.a (h.row.map .f)]=Eq (.c (.f (sl g (ak (if cW h then ic [] h.l else []))))):=by
 obtain⟨r,⟨g',rfl⟩,hp⟩:∃ r,(∃ g',r=.c (.f (sl g' (ak (if cW h then ic [] h.l else [])))))∧bo tab 61 [.a (h.row.map .f)] r:=by
  refine dG rfl rfl fun Q hQ=>?_;have hv:=QF h hl;simp [dj.row]at hv;apply ai;simp [dj.row];apply ai;simp;apply al;apply ai;simp [hv];cases Z:cW h
  case false=>
   refine aq (by simp) (ai ?_);simp;refine aC (hQ _ _ (.c (.f (sl .nil (ak [])))) ⟨.nil,by simp [Z]⟩ ?_);simp [ak,sl,Tg.fc]
  refine bw (by simp) ?_;apply al;apply ai;simp;refine ji h.l.length (fun j t H=>t.g 1=.c (.ptr 0 0 0)∧H[0]?=aa (.box [.f (fi h.clock),.f (fi h.bP),.f (sl h.lg (aQ h.l))] 0)∧∃ g acc,t.g 3=.c (.f (sl g (ak acc)))∧acc.length≤j∧ic acc (h.l.drop j)=ic [] h.l) (by omega) rfl (by simp)
   ⟨by simp,rfl,.nil,[],by simp [ak,sl,Tg.fc],by simp,by simp⟩ ?_ ?_ ?_
  ·rintro j t H L U ⟨m,h0,hL⟩ v hk;simp [v,m,h0];exact hk _ ⟨by simp [m],h0,by simpa using hL⟩ (by simp [v]) (by simp)
  ·rintro j t H U ⟨m,h0,g,acc,l,J,s⟩ v next
   have B:=fun H:aj=>bL (H:=H) (bQ h.l) (dZ U);simp only [bC.row]at B;have hd:h.l.drop j=h.l[j]::h.l.drop (j+1):=at7 U;rw [hd]at s;obtain⟨x,hx⟩:=aK (h.l[j]);rw [←hx]at s B;refine aF ?_;apply ai;simp [v,m,h0,bt,U,B];obtain⟨I,u⟩:=aK ([C.f (fi x.id),C.f (fi x.dl),C.f (fi x.state),C.f (fi x.aR.meet),C.f (fi x.aR.room),C.f (fi x.aR.dB),C.f (fi x.aR.size),C.f (sl x.aR.st.cg (aN x.aR.st.cs)),C.f (fi x.aR.st.len),C.f (sl x.aR.st.xg (aH x.aR.st.xs))]);rw [←u];obtain⟨E,A⟩:=aK (H++[.box I 0]:aj);have n0:E[0]?=aa (.box [.f (fi h.clock),.f (fi h.bP),.f (sl h.lg (aQ h.l))] 0):=by rw [A,anc (au h0)];exact h0
   have nr:E[H.length]?=aa (.box I 0):=by rw [A];simp
   rw [←A];have M:aV E ab (.c (.ptr H.length 2 0))=aa (vi x.state):=by simp [nr,u,aT]
   have F:aV E (aa 7) (.c (.ptr H.length 3 0))=aa (.a (x.aR.row.map .f)):=by simp [nr,u,aT,av.row]
   obtain⟨gi,K⟩:=mb g acc (by omega) x.aR;have d:=GC g acc (by omega) x.aR;have Y:(gQ x&&!(acc.any fun y=>bY y x.aR))=ag→∀ q:T,q.g 1=.c (.ptr 0 0 0)→q.g 4=vi j→q.g 3=.c (.f (sl g (ak acc)))→q.g 36=vb ag →
     WP tab 61 ab [.code qP,.inBlock 1,.code qQ,.inLoop qO,.inBlock 0,.code qR] ⟨q,[],E⟩ Q:=by
    intro X q m W l z;rw [ic,X]at s;simp at s;exact aD (by simp [z]) (aO (az (next _ _ ⟨by simp [m],n0,g,acc,by simp [l],by omega,s⟩ (by simp [W]))))
   have S:(gQ x&&!(acc.any fun y=>bY y x.aR))=ae→∀ q:T,q.g 1=.c (.ptr 0 0 0)→q.g 4=vi j→q.g 3=.c (.f (sl g (ak acc)))→q.g 5=.c (.ptr H.length 0 0)→q.g 36=vb ae →
     WP tab 61 ab [.code qP,.inBlock 1,.code qQ,.inLoop qO,.inBlock 0,.code qR] ⟨q,[],E⟩ Q:=by
    intro X q m W l g5 z;rw [ic,X]at s;simp at s;refine aq (by simp [z]) ?_;refine an (.inl rfl) ?_;simp [l,g5,F,K,-aA];exact az (next _ _ ⟨by simp [m],n0,gi,lj x.aR acc,by simp,by rw [pU];omega,s⟩ (by simp [W]))
   apply al;refine an (.inl rfl) ?_;by_cases N:x.state=1
   ·cases b:acc.any fun y=>bY y x.aR
    ·rw [b]at d;simp [M,F,N,l,d,-aA];exact S (by simp [gQ,N,b]) _ (by simp [m]) (by simp [v]) (by simp [l]) (by simp) (by simp)
    ·rw [b]at d;simp [M,F,N,l,d,-aA];exact Y (by simp [b]) _ (by simp [m]) (by simp [v]) (by simp [l]) (by simp)
   by_cases O:x.state=2
   ·cases b:acc.any fun y=>bY y x.aR
    ·rw [b]at d;simp [M,F,O,l,d,-aA];exact S (by simp [gQ,O,b]) _ (by simp [m]) (by simp [v]) (by simp [l]) (by simp) (by simp)
    ·rw [b]at d;simp [M,F,O,l,d,-aA];exact Y (by simp [b]) _ (by simp [m]) (by simp [v]) (by simp [l]) (by simp)
   ·simp [M,F,N,O,-aA];exact Y (by simp [gQ,N,O]) _ (by simp [m]) (by simp [v]) (by simp [l]) (by simp)
  ·rintro t H ⟨m,h0,g,acc,l,J,s⟩ v;apply ai;simp [l];rw [List.drop_of_length_le (at3 _),ic]at s;refine aC (hQ _ _ (.c (.f (sl g (ak acc)))) ⟨g,by simp [Z,s]⟩ ?_);simp
 exact⟨g',hp.eq⟩
def dD:List av→List av→List av
 | acc,[]=>acc| acc,s::r=>dD (lj s acc) r
theorem vQ(a:List av):∀(l acc:List av),dD acc (l++a)=dD (dD acc l) a
 | [],_=>rfl| s::r,acc=>by simp only [auX,dD];exact vQ a r _
theorem sb:∀ {l acc:List av},acc.Pairwise i'→(dD acc l).Perm (acc++l)∧(dD acc l).Pairwise i'
 | [],acc,h=>⟨by simp [dD],h⟩
 | s::r,acc,h=>by
  obtain⟨b,d⟩:=sb (l:=r) (uz s h);refine⟨b.trans ?_,d⟩;have:acc++s::r=(acc++[s])++r:=by simp
  rw [this];exact List.Perm.append_right _ (jt s acc)
theorem vR(l acc:List av):(dD acc l).length=acc.length+l.length:=by
 induction l generalizing acc with
 | nil=>simp [dD]| cons s r b=>rw [dD,b,pU];simp;omega
def na(l0:List av)(s:av):Bool:=!(l0.any fun x=>bY x s)
theorem iR(l0:List av):∀(L acc:List av),(uniq [] acc L).filter (na l0)=uniq l0 (acc.filter (na l0)) L
 | [],acc=>rfl
 | s::r,acc=>by
  simp only [uniq,List.any_nil,Bool.false_or];have key:na l0 s=ae→((acc.filter (na l0)).any fun x=>bY x s)=(acc.any fun x=>bY x s):=by
   intro b;rw [au6,au3,au3];constructor
   ·rintro⟨x,g,e⟩;exact⟨x,(auS.1 g).1,e⟩
   ·rintro⟨x,g,e⟩;refine⟨x,auS.2 ⟨g,?_⟩,e⟩;have j:=sf.1 e;have:na l0 x=na l0 s:=by
     unfold na bY;rw [j.1,j.2]
    rw [this];exact b
  by_cases b:na l0 s=ae
  ·have d:(l0.any fun x=>bY x s)=ag:=by simpa [na]using b
   rw [d,Bool.false_or,key b];split
   ·exact iR l0 r acc
   ·rw [iR l0 r (acc++[s])];simp [b]
  ·have d:(l0.any fun x=>bY x s)=ae:=by simpa [na]using b
   rw [d,Bool.true_or];simp only [if_true];split
   ·exact iR l0 r acc
   ·rw [iR l0 r (acc++[s])];simp [b]
theorem ajE{l0:List av}(h0:gH l0)(h:dj):dD (dD [] l0) ((ic [] h.l).filter (na l0))=jy l0 h:=by
 obtain⟨d,s⟩:=qx (l:=h.l) (acc:=[]) (u:=[]) (.refl _) .nil;obtain⟨g,j⟩:=sb (l:=l0) (acc:=[]) .nil;obtain⟨m,q⟩:=sb (l:=(ic [] h.l).filter (na l0)) j;refine zw (nE h0 h) (m.trans ?_) q;refine List.Perm.append (by simpa using g) ?_;have b:=d.filter (na l0);rw [iR]at b;exact b
theorem Dd(h:dj)(hl:h.l.length≤30)(hv:cW h=ae)(g0:Tg)(l0:List av)(h0:gH l0)(b9:l0.length≤30) :
  ∃ g,bo tab 28 [.a (h.row.map .f),.c (.f (sl g0 (ak l0)))]=Eq (.c (.f (sl g (ak (jy l0 h))))):=by
 obtain⟨r,⟨g,rfl⟩,hp⟩:∃ r,(∃ g:Tg,r=.c (.f (sl g (ak (jy l0 h)))))∧bo tab 28 [.a (h.row.map .f),.c (.f (sl g0 (ak l0)))] r:=by
  refine dG rfl rfl fun Q U=>?_;obtain⟨O,d⟩:=ac2 h hl;rw [hv]at d;simp only [if_true]at d;rw [←ajE h0 h]at U;obtain⟨B,Z⟩:=aK (ic [] h.l);rw [←Z]at d U;have a8:B.length≤30:=by
   rw [Z];have:=sB h.l [];simp at this;omega
  have a_:h.row.length=3:=rfl;have E:∀ J:aj,bA J (.f (sl g0 (ak l0)))=aa l0.length:=fun J=>by simp
  have F:∀ J:aj,bA J (.f (sl O (ak B)))=aa B.length:=fun J=>by simp
  have a7:(.f .aw:C)=.f (sl .nil (ak [])):=by simp [ak,sl,Tg.fc]
  apply ai;simp;obtain⟨Y,K⟩:=aK ([.box (h.row.map .f) 0]:aj);have a0:aV Y (aa 3) (.c (.ptr 0 0 0))=aa (.a (h.row.map .f)):=by rw [K];simp [aT,dj.row]
  rw [←K];apply ai;simp;apply al;apply ai;simp;refine ji l0.length (fun j t H=>t.g 1=.c (.f (sl g0 (ak l0)))∧t.g 2=.c (.ptr 0 0 0)∧(∃ g:Tg,t.g 5=.c (.f (sl g (ak (dD [] (l0.take j))))))∧H=Y) (by omega) rfl (by simp) ⟨by simp,by simp,⟨.nil,by simp [dD,ak,sl,Tg.fc]⟩,rfl⟩ ?_ ?_ ?_
  ·rintro j t H L z ⟨m,I,q,rfl⟩ l W;simp [l,m,E];exact W _ ⟨by simp [m],by simp [I],by simpa using q,rfl⟩ (by simp [l]) (by simp)
  ·rintro j t H z ⟨m,I,⟨g,q⟩,rfl⟩ l next
   have b:=fun H:aj=>bt (H:=H) (g:=g0) (rows:=ak l0) (sz:=7) (k:=.i64) (i:=(j:Int)) (by omega) (by simp;omega);have u:=fun H:aj=>bL (H:=H) (aS l0) (cA z);simp only [aui]at b;obtain⟨g',s⟩:=mb g (dD [] (l0.take j)) (by rw [vR];simp;omega) l0[j];have X:dD [] (l0.take (j+1))=lj l0[j] (dD [] (l0.take j)):=by
    rw [auz,asZ z,vQ];rfl
   refine aF ?_;refine an (.inl rfl) ?_;simp [l,m,q,b,u,s];exact az (next _ _ ⟨by simp [m],by simp [I],⟨g',by rw [X];simp⟩,rfl⟩ (by simp [l]))
  ·rintro t H ⟨m,I,⟨g,q⟩,rfl⟩ l;rw [auv]at q;apply ai;simp [I,a0,d,-aA];apply al;apply ai;simp;refine ji B.length (fun j t H'=>t.g 1=.c (.f (sl g0 (ak l0)))∧t.g 7=.c (.f (sl O (ak B)))∧∃(g:Tg) (A:List av),t.g 5=.c (.f (sl g (ak A)))∧A.length≤l0.length+j∧dD (dD [] l0) (B.filter (na l0))=dD A ((B.drop j).filter (na l0))) (by omega) rfl (by simp) ⟨by simp [m],by simp,g,dD [] l0,by simp [q],by rw [vR];simp,by simp⟩ ?_ ?_ ?_
   ·rintro j t H L z ⟨m,v,S⟩ l W;simp [l,v,F];exact W _ ⟨by simp [m],by simp [v],by simpa using S⟩ (by simp [l]) (by simp)
   ·rintro j t H z ⟨m,v,g,A,q,S,y⟩ l next
    have b:=fun H:aj=>bt (H:=H) (g:=O) (rows:=ak B) (sz:=7) (k:=.i64) (i:=(j:Int)) (by omega) (by simp;omega);have u:=fun H:aj=>bL (H:=H) (aS B) (cA z);simp only [aui]at b;obtain⟨g',s⟩:=mb g A (by omega) B[j];have M:=GC g0 l0 (by omega) B[j];rw [at7 z]at y;refine aF ?_;apply ai;cases N:(l0.any fun x=>bY x B[j])with
    | false=>
     rw [N]at M;rw [List.filter_cons_of_pos (by simp [na,N]),dD]at y;simp [l,m,v,b,u,M];refine aq (by simp) (an (.inl rfl) ?_);simp [l,q,v,b,u,s];exact az (next _ _ ⟨by simp [m],by simp [v],g',lj B[j] A,by simp,by rw [pU];omega,y⟩ (by simp [l]))
    | true=>
     rw [N]at M;rw [List.filter_cons_of_neg (by simp [na,N])]at y;simp [l,m,v,b,u,M];exact aD (by simp) (aO (az (next _ _ ⟨by simp [m],by simp [v],g,A,by simp [q],by omega,y⟩ (by simp [l]))))
   ·rintro t H ⟨m,v,g,A,q,S,y⟩ l;rw [List.drop_length]at y;simp only [List.filter_nil,dD]at y;apply ai;simp [q];refine aC (U _ _ (.c (.f (sl g (ak A)))) ⟨g,by rw [y]⟩ ?_);simp
 exact⟨g,hp.eq⟩
theorem QQ(p:iF)(hp:mH p):bo tab 8 [.a (p.row.map .f)]=Eq (vb ae):=bo.eq (by
 refine bV rfl rfl fun Q hQ=>?_;have N:0≤p.af % 40:=auB _ (by omega);have a1:p.af % 40≤39:=by have:=auy p.af (show 0<40 by omega);omega
 have q0:0≤p.qu % 3000:=auB _ (by omega);have q1:p.qu % 3000≤10080:=by have:=auy p.qu (show 0<3000 by omega);omega
 have g:=wB p hp;obtain⟨h,L,hc,hN,hP⟩:=zm p hp (aio (p.af % 40) (p.qu % 3000) p.l0) ars fun h h' k _ hn hR=>adk N g hn hR;have z:=arq;obtain⟨O,u⟩:=CA p hp;have j:∀ s ∈ p.l0,jd s:=fun s F=>(g.f s F).1;have b9:=g.len;have c_:=L.len;have b_:=FH (l0:=p.l0) h;obtain⟨b,hb,U⟩:=CZ _ _ N a1 q0 q1 O p.l0 (by omega) (GV _ _) j;have x:∀ s ∈ jy p.l0 h,jd s:=fun s F=>by
  rcases FI F with F | ⟨y,hy,rfl⟩
  ·exact j s F
  ·exact(L.f y hy).2
 obtain⟨ga,W⟩:=Dd h (by omega) L.v O p.l0 g.ap (by omega);obtain⟨b2,X,v⟩:=CZ _ _ N a1 q0 q1 ga (jy p.l0 h) (by omega) (adA (nE g.ap h)) x;have Y:b=ae→b2=ae:=fun e=>X.2 (((hN.2 ((hb.1 e).sound q0 j)).perm (Bs g hN.1)).fits);have hv:=kX h (by omega);rw [L.v]at hv;have l:p.row.length=4:=rfl;have Z:h.row.length=3:=rfl;obtain⟨row,E⟩:=aK (p.row);obtain⟨H,a7⟩:=aK (fR (p.af % 40) (p.qu % 3000));obtain⟨I,a_⟩:=aK (sl O (ak p.l0));obtain⟨sa,a8⟩:=aK (sl ga (ak (jy p.l0 h)));rw [←E]at hP l u ⊢;rw [←a7]at u U v;rw [←a_]at u U W;rw [←a8]at W v;have lp:∀ K:aj,K[0]?=aa (.box (row.map .f) 0)→aV K (aa 4) (.c (.ptr 0 0 0))=aa (.a (row.map .f)):=fun K hK=>by simp [aV,aG,hK,aT,l,at8]
 obtain⟨M,m⟩:=aK ([.box (row.map .f) 0]:aj);obtain⟨A,d⟩:=aK ([.box (row.map .f) 0,.box [.f H,.f I] 0]:aj);obtain⟨J,q⟩:=aK ([.box (row.map .f) 0,.box [.f H,.f I] 0,.box (h.row.map .f) 0]:aj);have e1:M++[bz.box [.f H,.f I] 0]=A:=by rw [m,d];rfl
 have e2:A++[bz.box (h.row.map .f) 0]=J:=by rw [d,q];rfl
 have n0:M.length=1:=by rw [m];rfl
 have n1:A.length=2:=by rw [d];rfl
 have p0:=lp M (by rw [m];rfl);have p1:=lp A (by rw [d];rfl);have r1:aV A ab (.c (.ptr 1 0 0))=aa (.c (.f H)):=by rw [d];rfl
 have s1:aV A ab (.c (.ptr 1 1 0))=aa (.c (.f I)):=by rw [d];rfl
 have r2:aV J ab (.c (.ptr 1 0 0))=aa (.c (.f H)):=by rw [q];rfl
 have s2:aV J ab (.c (.ptr 1 1 0))=aa (.c (.f I)):=by rw [q];rfl
 have S:aV J (aa 3) (.c (.ptr 2 0 0))=aa (.a (h.row.map .f)):=by rw [q];simp [aV,aG,aT,dj.row]
 apply ai;simp [l];rw [←m];apply ai;simp [z];apply ai;simp [p0,u,n0,-aA];rw [e1];apply ai;simp [r1,s1,U,-aA];apply ai;simp [p1,hP,Z,n1,-aA];rw [e2];apply al;apply ai;simp;cases b with
 | false=>
  refine aq (by simp) ?_;apply ai;simp [S,hv,-aA];refine aC (hQ _ _ ?_);simp
 | true=>
  have B:=Y rfl;subst B;refine bw (by simp) ?_;apply ai;simp [r2,s2,S,W,v,-aA];apply ai;simp [S,hv,-aA];refine aC (hQ _ _ ?_);simp)
theorem C4(b:List V)(h:pk Tryz.prog [26] b):bo tab 8 b (vb ae):=by
 obtain⟨g,_,rfl,h0,rfl⟩:=h;obtain⟨p,rfl,d⟩:=CD h0;rw [QQ p d]
end Go.Proofs.YtnaofdffomdmhaaGreat
