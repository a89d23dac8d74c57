/-
  aop the nX kU and the ny answer, for all arguments of their kind, in the small machine: part 4.
-/
import Derived.Test.YtnaofdffomdmhaaGreatS3
import Derived.Test.YtnaofdffomdmhaaGreatS2
import Derived.Test.YtnaofdffomdmhaaGreatProg
import Derived.Test.YtnaofdffomdmhaaGreatK4
import Derived.Test.YtnaofdffomdmhaaGreatS1
open Option renaming some → aa,none → ab
open Bool renaming true → ae,false → ag
open List renaming mem_cons → avn, mem_map → avx, mem_cons_of_mem → aul, mem_cons_self → atI, mem_filter → avW, length_map → avi, length_filter_le → av5, mem_append → avq, mem_singleton → avh, not_mem_nil → av6, getElem_mem → anc, cons_append → awc, pairwise_cons → avZ, take_add_one → avK, getElem?_eq_getElem → By, length_take → avA, getElem?_set_self → IN, take_length → avH, take_of_length_le → avj, getElem?_set_ne → AI, getElem?_append_left → AT, getElem?_append_right → IS, pairwise_iff_getElem → avV, any_eq_false → awB, pairwise_append → av3, drop_eq_getElem_cons → auR, take_append_drop → avL, map_cons → avl, map_nil → avs, mem_range → av4, any_eq_true → awd, getElem_of_mem → avQ
open Nat renaming le_trans → avv, min_eq_left → aws, le_refl → aft
open Bool renaming and_eq_true → If, not_eq_true' → av8, false_eq_true → avk, eq_iff_iff → awf
open Prod.mk renaming inj → avE
open Int renaming emod_nonneg → avO, emod_lt_of_pos → avG, toNat_natCast → avr
open Option.some renaming inj → awN
set_option linter.unusedVariables false
set_option linter.constructorNameAsVariable false
set_option linter.unusedSimpArgs false
set_option linter.unusedSectionVars false
set_option linter.unnecessarySimpa false
set_option maxRecDepth 100000
namespace Go.Proofs.YtnaofdffomdmhaaGreat
open Go Km
theorem dw{s:av}(h:ka s):PF s:=by
 obtain⟨m,r,t,z,n,p,mi,le,rfl,b⟩:=h;obtain⟨k,j,g⟩:=b.i0;refine⟨b.r0,b.r1,by simp [tn],fun c d=>?_,by have:=b.l0;show 1≤le;omega,b.l1,rfl⟩;simp [tn]at d;rw [d];show 0≤mi∧mi≤1180;omega
theorem lS{s:av}(h:ka s):∃ n p mi,gY s.st n p mi:=by
 obtain⟨m,r,t,z,n,p,mi,le,rfl,b⟩:=h;obtain⟨k,g,d⟩:=b.i0;exact⟨n,p,mi,Ca ⟨b.n0,b.n1,b.p0,b.p1⟩ (by omega) (by omega) (by have:=b.l0;omega) (by have:=b.l1;omega)⟩
theorem va{s:av}(h:ka s):s.st.Sm:=by
 obtain⟨m,r,t,z,n,p,mi,le,rfl,b⟩:=h;exact DO ..
theorem aj2{s:av}(h:ka s):V.beq (.a (s.st.row.map .f)) (.a (s.st.row.map .f))=ae:=by
 obtain⟨m,r,t,z,n,p,mi,le,rfl,b⟩:=h;show V.beq (.a ((tK n p mi le).map .f)) (.a ((tK n p mi le).map .f))=ae;simp [tK,vC,V.beq,C.beq,FC.beq,jJ]
theorem B9{s:av}(h:ka s){af:Int}(x:0≤af)(a1:af≤39)(g j:Tg):kJ (fU af s g j):=by
 obtain⟨m,r,t,z,n,p,mi,le,rfl,b⟩:=h;obtain⟨k,y,u⟩:=b.i0;have l0:=b.l0;have A:=b.l1;have l:Az n p:=⟨b.n0,b.n1,b.p0,b.p1⟩
 have v:=oW (m:=0) (r:=0) (t:=0) (z:=0) (mi:=mi) (le:=le+0+af) l (by omega) (by omega) (by omega) (by omega);have q:mi-0=mi:=by omega
 refine⟨by show 1≤le+0+af∧le+0+af≤400;omega,by simp [fU,tn],fun {c} d=>?_,?_,?_,fun c d=>?_,rfl⟩
 ·simp [fU,tn,jR]at d;rw [d];show 0≤mi∧mi≤1180;omega
 ·have:=DO m r t z n p mi (le+0+af);simpa [aK.Sm,fU,tn,jR]using this
 ·have:ea (fU af (tn m r t z n p mi le) g j)=ea (tn 0 0 0 0 n p mi (le+0+af)).st:=by
   show ea ⟨g,[⟨.fs,[⟨.fs,[⟨.nil,[],0,n,.fs,[p]⟩]⟩],mi-0⟩],le+0+af,j,[]⟩=ea ⟨.fs,[⟨.fs,[⟨.fs,[⟨.nil,[],0,n,.fs,[p]⟩]⟩],mi⟩],le+0+af,.nil,[]⟩;rw [q];rfl
  rw [this];exact v
 ·simp [fU,tn,jR]at d;rw [d];exact⟨n,p,l,rfl⟩
theorem Q0{s:av}(h:ka s){af:Int}(j:0≤af)(a1:af≤39)(b d:Tg):bg tab 53 [.a ((fU af s b d).row.map .f)]=Eq (vb ae):=by
 have g:=B9 h j a1 b d;have:=(jI _ g.sm).eq;rwa [g.v]at this
theorem xP:∀ {d:List (List Int)},(mJ d).headD 0=0→∀ r ∈ d,r.headD 0=0
 | [],_,_,h=>by simp at h
 | r::l,h,y,b=>by
  unfold mJ at h;split at h
  ·rename_i h0;rcases avn.1 b with rfl | b
   ·exact h0
   ·exact xP h y b
  ·rename_i h0;exact absurd h h0
theorem ta{af:Int}{x:av}{mt:av→Bool}{fx fy:av→aI}{fd:av→Bool}:∀ {l:List av},(fO af x mt fx fy fd l).headD 0=0→∀ s ∈ l,s.meet=x.meet∨mt s=ag
 | [],_,_,h=>by simp at h
 | s::r,h,y,b=>by
  unfold fO at h;split at h
  ·rename_i h0;rcases avn.1 b with rfl | b
   ·exact h0
   ·exact ta h y b
  ·unfold Da at h;split at h<;>simp at h
theorem adJ{x s:av}{af:Int}(v:0≤af){b g j l:Tg}(h:jc x.st s.st):jc (fU af x b g) (fU af s j l):=by
 obtain⟨c,q,d,u,k,y,z,m⟩:=h;refine⟨jR 0 c,avx.2 ⟨c,q,rfl⟩,jR 0 d,avx.2 ⟨d,u,rfl⟩,k,?_,?_,m⟩
 ·unfold vr at *;simp only [jR,fU];omega
 ·unfold vj at *;simp only [jR,fU];omega
theorem amf(af g r b:Int):mM b (bM af g r).q=if r=0∧b=1 then(g,ae)else(0,ag):=by
 unfold bM nz;by_cases h:r=0
 ·by_cases e:b=1
  ·simp [mM,h,e]
  ·simp [mM,h,e,Ne.symm e]
 ·by_cases d:r=1
  ·simp [mM,d]
  ·simp [mM,h,d]
structure Fits(af qu:Int)(ss:List av)(x:av):Prop where
 sz:x.size≤10
 hr:tJ x.st+x.st.len≤1440
 cl:∀ s ∈ ss,Rv af qu s.room x.room=ae→s.meet≠x.meet→¬ jc (fU af x .nil .nil) (fU af s .nil .nil)
 qt:x.room=0→x.dB=1→∀ q,0≤q→ee (cw 0 1 ss) q+mh x.st q≤qu
def A'(af g:Int)(ss:List av)(x:av)(b:List Int):Prop:=
 (10<x.size∧b=[14,0,0,0,0,0,0,0]) ∨
 (∃ n p mi,gY x.st n p mi∧(∃ k:Nat,k<60∧mi=20*k)∧1440<mi+x.st.len∧b=[16,0,p,p*1440+mi,p*1440+mi+x.st.len,0,0,0]) ∨
 (∃ s ∈ ss,∃ f:FS,Rv af g s.room x.room=ae∧s.meet≠x.meet∧mI (-2251799813685248) (fun X Y=>fM (fU af x .nil .nil) X∧fM (fU af s .nil .nil) Y) f∧f.found=ae∧fM (fU af x .nil .nil) f.X∧fM (fU af s .nil .nil) f.Y∧okB (-2251799813685248) f.X f.Y∧b=Da af s f.X f.Y ae) ∨
 (x.room=0∧x.dB=1∧∃ q d y j,0≤q∧q≤100∧gU x.st q=d++y::j∧g<ee (cw 0 1 ss) q+eu (d++[y])∧b=[14,0,y.day,y.fr,y.to,0,0,0])
theorem Fk:∀(b:List (List Int)),((mJ b).headD 0=0∧mJ b=jk)∨((mJ b).headD 0≠0∧mJ b ∈ b)
 | []=>.inl ⟨rfl,rfl⟩
 | r::l=>by
  unfold mJ;split
  ·rcases Fk l with h | ⟨h,d⟩
   ·exact .inl h
   ·exact .inr ⟨h,aul _ d⟩
  ·rename_i h;exact .inr ⟨h,atI⟩
theorem sZ{af:Int}{x:av}{mt:av→Bool}{fx fy:av→aI}{fd:av→Bool}:∀ {l:List av},(fO af x mt fx fy fd l).headD 0≠0→∃ s ∈ l,s.meet≠x.meet∧mt s=ae∧fO af x mt fx fy fd l=Da af s (fx s) (fy s) (fd s)
 | [],h=>by simp [fO]at h
 | s::r,h=>by
  unfold fO at h ⊢;split at h
  ·rename_i h0;rw [bf h0];obtain⟨y,g,b⟩:=sZ h;exact⟨y,aul _ g,b⟩
  ·rename_i h0;rw [aY h0];refine⟨s,atI,fun e=>h0 (.inl e),?_,rfl⟩;cases d:mt s with
   | true=>rfl| false=>exact absurd (.inr d) h0
theorem uZ{ss:List av}(b:∀ s ∈ ss,ka s)(r t:Int):oB (cw r t ss):=fun s h=>by
 obtain⟨y,d,rfl⟩:=avx.1 h;exact lS (b y (avW.1 d).1)
theorem Dy(af l:Int)(a0:0≤af)(a1:af≤39)(ss:List av)(hl:ss.length≤1000)(hs:ss.Pairwise gC)(hf:∀ s ∈ ss,ka s)(x:av)(Q:ka x) :
  ∃ rf:List Int,rf.length=8∧((e9 af l ss x&&!gv ss x)=ae→(rf=jk∧Fits af l ss x)∨(rf.headD 0≠0∧A' af l ss x rf))∧((e9 af l ss x&&!gv ss x)=ag→rf=jk) ∧
   ∀ g,bg tab 44 [.c (.f (eO af l)),.c (.f (sl g (al ss))),.a (x.row.map .f)]=Eq (.t [jx rf,vi (if e9 af l ss x&&!gv ss x then 0 else 1)]):=by
 have hm:∀ s ∈ ss,s.st.Sm:=fun s h=>va (hf s h);cases j4:(e9 af l ss x&&!gv ss x)with
 | false=>exact⟨jk,rfl,fun h=>absurd h (by simp),fun _=>rfl,fun g=>by simpa using acn af l g ss hl hs hm x (va Q) j4⟩
 | true=>
  obtain⟨G,hG⟩:=Classical.skolem.1 (show ∀ s:av,∃ g:Tg × Tg,ka s→bg tab 137 [.c (.f (eO af l)),.a (s.row.map .f)]=Eq (.t [.a ((fU af s g.1 g.2).row.map .f),vb ae]) from fun s=>by
   by_cases h:ka s
   ·obtain⟨g1,g2,U⟩:=B' af l a0 a1 s (dw h) (Q0 h a0 a1);exact⟨(g1,g2),fun _=>U⟩
   ·exact⟨(.nil,.nil),fun U=>absurd U h⟩)
  obtain⟨N,W⟩:∃ N:av→aK,∀ s,N s=fU af s (G s).1 (G s).2:=⟨_,fun _=>rfl⟩
  have I:∀ s,ka s→kJ (N s):=fun s h=>by rw [W];exact B9 h a0 a1 _ _
  have m9:∀ s t,jc (N s) (N t)↔jc (fU af s .nil .nil) (fU af t .nil .nil):=fun s t=>by rw [W,W];exact Iff.rfl
  have b9:∀ s y,fM (N s) y↔fM (fU af s .nil .nil) y:=fun s y=>by rw [W];exact Iff.rfl
  obtain⟨mt,g_⟩:=Classical.skolem.1 (show ∀ s:av,∃ r:Bool,ka s→(r=ae↔jc (N x) (N s))∧bg tab 25 [.a ((N x).row.map .f),.a ((N s).row.map .f)]=Eq (.t [vb r,vi 0]) from fun s=>by
   by_cases h:ka s
   ·obtain⟨r,U⟩:=acW (N x) (N s) (I x Q) (I s h);exact⟨r,fun _=>U⟩
   ·exact⟨ag,fun U=>absurd U h⟩)
  obtain⟨F,hF⟩:=Classical.skolem.1 (show ∀ s:av,∃ q:FS,ka s→mI (-2251799813685248) (fun X Y=>fM (N x) X∧fM (N s) Y) q∧bg tab 138 [.a ((N x).row.map .f),.a ((N s).row.map .f),vi (-2251799813685248)]=Eq (.t [.a (q.X.row.map .f),.a (q.Y.row.map .f),vb q.found]) from fun s=>by
   by_cases h:ka s
   ·obtain⟨w,M,U⟩:=Qj (N x) (N s) (I x Q) (I s h) (-2251799813685248) (by omega) (by omega);exact⟨w,fun _=>⟨M,U⟩⟩
   ·exact⟨⟨0,ag,⟨0,0,0⟩,⟨0,0,0⟩⟩,fun U=>absurd U h⟩)
  obtain⟨nx,px,p_,c_⟩:=lS Q;obtain⟨T,hT⟩:=aJ (cw x.room x.dB ss);have H:oB T:=by rw [hT];exact uZ hf _ _
  have q_:T.length≤1000:=by
   rw [hT];unfold cw;rw [avi];exact avv (av5 _ _) hl
  have Z:∀ s ∈ T++[x.st],∃ n p mi,gY s n p mi:=fun s h=>by
   rcases avq.1 h with h | h
   ·exact H s h
   ·rw [avh.1 h];exact⟨nx,px,p_,c_⟩
  obtain⟨hd,f7⟩:=DW .fs (T++[x.st]) (by simp;omega) Z;obtain⟨d,i7⟩:=aJ (wZ 1 (T++[x.st]));have j_:∀ s ∈ x.st::T,∀ n p mi,gY s n p mi→n ∣ (d:Int):=fun s h n p mi M=>by
   have:=(BS (L:=T++[x.st]) (d:=1) fun s h=>by
    obtain⟨n,p,mi,M⟩:=Z s h;have:=M.sm.1;rw [M.eV];omega).2 s (by
     rcases avn.1 h with rfl | h
     ·simp
     ·simp [h])
   rw [M.eV,←i7]at this;exact this
  rw [←i7]at hd f7;have j8:=tP hd;have j9:1≤d:=by
   simp only [tH,avn,av6,or_false]at hd;omega
  have j6:∀ n,-1≤n→n≤100→(gU x.st n).length≤10∧∃ g,bg tab 128 [.a (x.st.row.map .f),vi n]=Eq (.c (.f (sl g (aH (gU x.st n))))):=fun n M u=>by
   have:=lB x.st n;exact⟨by omega,nQ x.st c_ n M u⟩
  have o_:∀ q,-1≤q→q≤100→∀ s ∈ T,∃ v,bg tab 128 [.a (s.row.map .f),vi q]=Eq (.c (.f v))∧bg tab 202 [.c (.f v)]=Eq (vi (mh s q)):=fun q M u s h=>by
   obtain⟨n,p,mi,hs⟩:=H s h;obtain⟨g,hb⟩:=nQ s hs q M u;refine⟨_,hb,?_⟩;have:=lB s q;have i_:=vu g (gU s q) (by omega) fun y hy=>by
    obtain⟨j,hj,hq,-,rfl⟩:=rb hy;have m0:=hs.m0;have m1:=hs.m1;have l0:=hs.l0;have l1:=hs.l1;rw [hs.min];simp only [cM];omega
   rw [wA]at i_;exact i_
  have i5:∀ g n,-1≤n→n≤100→bg tab 127 [.c (.f (cY (eO af l) (sl g (al ss)) x)),vi n]=Eq (vi (ee T n)):=fun g n M u=>by
   have:=GM af l g ss hl x n (fun s=>mh s n) (by rw [←hT];exact o_ n M u);rw [←hT,zd T n H (by omega) (by omega) (by omega),Int.zero_add]at this;exact this
  have d9:∀(sd:FC) (K:aj),∃ J,Ev tab (.fn 77) [.c (.f (cY (eO af l) sd x))] K (.t [.a ((if 10<x.size then [14,0,0,0,0,0,0,0]else [0,0,0,0,0,0,0,0]:List Int).map fun n=>.f (fi n)),vi 0]) (K++J):=fun sd K=>by
   obtain⟨rf,-,n_,h⟩:=Bo af l sd x (dw Q).r0 (dw Q).r1;rw [←n_];exact h K
  have f_:=dw Q;have b_:∃ hr:List Int,hr.length=8∧((hr.headD 0=0∧tJ x.st+x.st.len≤1440)∨(hr.headD 0≠0∧A' af l ss x hr))∧∀(sd:FC) (K:aj),∃ K',Ev tab (.fn 78) [.c (.f (cY (eO af l) sd x))] K (.t [jx hr,vi 0]) K'∧Kp K K':=by
   obtain⟨m,r,t,z,n,p,mi,le,rfl,b⟩:=Q;obtain⟨k,hk,m4⟩:=b.i0;have j5:gY (tn m r t z n p mi le).st n p mi:=Ca ⟨b.n0,b.n1,b.p0,b.p1⟩ (by omega) (by omega) (by have:=b.l0;omega) (by have:=b.l1;omega);refine⟨pJ n p mi le,by unfold pJ;split<;>rfl,?_,fun sd K=>?_⟩
   ·unfold pJ;split
    ·rename_i h;exact .inl ⟨rfl,h⟩
    ·rename_i h;exact .inr ⟨by simp,.inr (.inl ⟨n,p,mi,j5,⟨k,hk,m4⟩,by show 1440<mi+le;omega,rfl⟩)⟩
   ·have:=ada af l sd (m:=m) (r:=r) (t:=t) (z:=z) ⟨b.n0,b.n1,b.p0,b.p1⟩ hk le (by have:=b.l0;omega) (by have:=b.l1;omega) b.r0 b.r1 K;have e:((20*k:Nat):Int)=mi:=by omega
    rw [e]at this;exact this
  obtain⟨n9,k_,i8,l_⟩:=b_;obtain⟨S,O⟩:=aJ (fO af x mt (fun s=>(F s).X) (fun s=>(F s).Y) (fun s=>(F s).found) (ss.filter fun s=>Rv af l s.room x.room));obtain⟨qL,B⟩:=aJ (EA (if(mM x.dB (bM af l x.room).q).2 then oz (mM x.dB (bM af l x.room).q).1 (15+7*(d:Int)) (gU x.st) (ee T) 200 (-1)else ab));obtain⟨a_,E⟩:=aJ (if 10<x.size then [14,0,0,0,0,0,0,0]else [0,0,0,0,0,0,0,0]:List Int);rw [←E]at d9;have e_:(a_.headD 0=0∧x.size≤10)∨(a_.headD 0≠0∧A' af l ss x a_):=by
   by_cases h:10<x.size
   ·rw [bf h]at E;exact .inr ⟨by rw [E];simp,.inl ⟨h,E⟩⟩
   ·rw [aY h]at E;exact .inl ⟨by rw [E];rfl,by omega⟩
  have d_:(S.headD 0=0∧∀ s ∈ ss,Rv af l s.room x.room=ae→s.meet≠x.meet→¬ jc (fU af x .nil .nil) (fU af s .nil .nil))∨(S.headD 0≠0∧A' af l ss x S):=by
   by_cases h:S.headD 0=0
   ·refine .inl ⟨h,fun s hsm i4 h_ hM=>?_⟩;rw [O]at h;have u:=ta h s (avW.2 ⟨hsm,i4⟩);rcases u with u | u
    ·exact h_ u
    ·have:=(g_ s (hf s hsm)).1.2 ((m9 x s).2 hM);rw [u]at this;cases this
   ·refine .inr ⟨h,.inr (.inr (.inl ?_))⟩;rw [O]at h;obtain⟨s,hsm,h_,m_,he⟩:=sZ h;obtain⟨hsm,i4⟩:=avW.1 hsm;have hM:=(g_ s (hf s hsm)).1.1 m_;have f8:=(hF s (hf s hsm)).1;obtain⟨f1,f2,f3,f4⟩:=BF (I x Q) (I s (hf s hsm)) f8 hM;refine⟨s,hsm,F s,i4,h_,?_,f1,(b9 x _).1 f2,(b9 s _).1 f3,f4,?_⟩
    ·exact f8.iff fun X Y _=>by rw [b9,b9]
    ·rw [O,he,f1]
  have j7:(qL.headD 0=0∧(x.room=0→x.dB=1→∀ q,0≤q→ee (cw 0 1 ss) q+mh x.st q≤l))∨(qL.headD 0≠0∧A' af l ss x qL):=by
   rw [amf]at B;by_cases h:x.room=0∧x.dB=1
   ·rw [bf h]at B;simp only [if_true]at B;have i6:T=cw 0 1 ss:=by rw [hT,h.1,h.2]
    have i9:=Q9 c_ H (by omega) j9 j8 j_ l;cases ho:oz l (15+7*(d:Int)) (gU x.st) (ee T) 200 (-1)with
    | none=>
     rw [ho]at B;refine .inl ⟨by rw [B];rfl,fun _ _=>?_⟩;rw [←i6];exact i9.1 ho
    | some y=>
     rw [ho]at B;obtain⟨q,q1,q2,q3⟩:=Cs _ _ ho;have hb:=ua q H;have r_:=lB x.st q;obtain⟨O1,O2,e1,e2⟩:=yO hb.1 (by omega) (Er c_ q) q3;have n8:0≤q:=by
      obtain⟨j,-,hq,-⟩:=rb (s:=x.st) (q:=q) (x:=y) (by rw [e1];simp);exact hq
     exact .inr ⟨by rw [B];simp [EA],.inr (.inr (.inr ⟨h.1,h.2,q,O1,y,O2,n8,by omega,e1,by rw [←i6];exact e2,B⟩))⟩
   ·rw [aY h]at B;refine .inl ⟨by rw [B];rfl,fun M u=>absurd ⟨M,u⟩ h⟩
  obtain⟨rs,a8⟩:∃ rs:List (List Int),rs=[a_,n9,S,qL]:=⟨_,rfl⟩
  have h8:∀ r ∈ rs,r.length=8:=by
   intro r hr;rw [a8]at hr;simp only [avn,av6,or_false]at hr;rcases hr with rfl | rfl | rfl | rfl
   ·rw [E];split<;>rfl
   ·exact k_
   ·rw [O];exact oT ..
   ·rw [B];exact Cq _
  refine⟨mJ rs,uH h8,fun _=>?_,fun h=>absurd h (by simp),fun g=>?_⟩
  ·rcases Fk rs with⟨h0,M⟩ | ⟨h0,M⟩
   ·refine .inl ⟨M,?_⟩;have hz:=xP h0;rw [a8]at hz;exact⟨(e_.resolve_right fun h=>h.1 (hz _ (by simp))).2,(i8.resolve_right fun h=>h.1 (hz _ (by simp))).2,(d_.resolve_right fun h=>h.1 (hz _ (by simp))).2,(j7.resolve_right fun h=>h.1 (hz _ (by simp))).2⟩
   ·refine .inr ⟨h0,?_⟩;generalize mJ rs=A at h0 M ⊢;have u:=M;rw [a8]at u;simp only [avn,av6,or_false]at u;rcases u with u | u | u | u
    ·rw [u]at h0 ⊢;exact(e_.resolve_left fun h=>h0 h.1).2
    ·rw [u]at h0 ⊢;exact(i8.resolve_left fun h=>h0 h.1).2
    ·rw [u]at h0 ⊢;exact(d_.resolve_left fun h=>h0 h.1).2
    ·rw [u]at h0 ⊢;exact(j7.resolve_left fun h=>h0 h.1).2
  ·have:=aco af l g ss hl hs hm x (va Q) j4 rs (by rw [a8];rfl) h8 fun i hi K=>by
    subst a8
    match i,hi with
    | 0,_=>
     obtain⟨J,h⟩:=d9 (sl g (al ss)) K;exact⟨_,h,Kp.push _ _⟩
    | 1,_=>exact l_ (sl g (al ss)) K
    | 2,_=>
     have:=acH af l g ss hl x f_ (fun s h=>dw (hf s h)) N (fun s h=>by
      rw [W];rcases h with rfl | h
      ·exact hG _ Q
      ·exact hG _ (hf s h)) mt (fun s h=>(g_ s (hf s h)).2) (fun s=>(F s).X) (fun s=>(F s).Y) (fun s=>(F s).found) (fun s h=>(hF s (hf s h)).2) K
     rw [←O]at this;exact this
    | 3,_=>
     have:=ad9 af l g ss hl x f_.r0 f_.r1 (aj2 Q) d hd (by rw [←hT];exact f7) (gU x.st) (ee T) j6 (i5 g) K;rw [←B]at this;exact this
   simpa using this
theorem acm(af l:Int)(q:0≤af)(a1:af≤39)(ss:List av)(E:ss.length≤1000)(F:ss.Pairwise gC)(B:∀ s ∈ ss,ka s)(x:av)(H:ka x) :
  ∃(j:List Int) (d:Int),j.length=8∧(d=0→gv ss x=ag∧(j.headD 0=0→Fits af l ss x)∧(j.headD 0≠0→A' af l ss x j)) ∧
   ∀ g,bg tab 44 [.c (.f (eO af l)),.c (.f (sl g (al ss))),.a (x.row.map .f)]=Eq (.t [jx j,vi d]):=by
 obtain⟨j,y,u,I,v⟩:=Dy af l q a1 ss E F B x H;refine⟨j,_,y,fun m=>?_,v⟩;cases b:(e9 af l ss x&&!gv ss x)with
 | false=>rw [b]at m;simp at m
 | true=>
  rcases u b with⟨e,z⟩ | ⟨e,A⟩
  ·rw [If,av8]at b;exact⟨b.2,fun _=>z,fun h=>absurd (by rw [e];rfl) h⟩
  ·rw [If,av8]at b;exact⟨b.2,fun h=>absurd h e,fun _=>A⟩
theorem Fits.apart{af qu:Int}{ss:List av}{x:av}(a0:0≤af)(h:Fits af qu ss x):∀ s ∈ ss,s.room=x.room→s.meet≠x.meet→¬ jc x.st s.st:=fun s g hr d b=>
 h.cl s g (by rw [hr];exact aes ..) d (adJ a0 b)
theorem CG:(RK 117 [.c (.f .az),.c (.f .az)] (vb ae),fam.map fun x=>RK 118 [mx x.1 x.2,mx x.1 x.2] (vb ae)) =
  ((vb ae=vb ae),fam.map fun _=>(vb ae=vb ae)):=by kernel_rfl
theorem Gs:bg tab 117 [.c (.f .az),.c (.f .az)]=Eq (vb ae)∧∀ n p,Az n p→bg tab 118 [mx n p,mx n p]=Eq (vb ae):=
 ⟨lE (avE CG).1,fun n p h=>pW (args:=fun x:Int × Int=>[mx x.1 x.2,mx x.1 x.2]) (res:=fun _=>vb ae) (avE CG).2 (jo h)⟩
theorem EP(s:aK){n p mi:Int}(v:gY s n p mi)(O:s.xg=.nil):bg tab 63 [.a (s.row.map .f),.a (s.row.map .f)]=Eq (vb ae):=Kf.eq (by
 have N:s.cs.length=1:=by rw [v.cs];rfl
 have A:bg tab 117 [.c (.f (sl s.xg (aH s.xs))),.c (.f (sl s.xg (aH s.xs)))]=Eq (vb ae):=by rw [v.xs,O];exact Gs.1
 refine cr rfl rfl fun H Q M=>?_;apply ai;simp [aK.row];apply an;apply ai;simp [A];refine bo (by simp) ?_;apply an;apply ai;simp;obtain⟨u,b⟩:=aJ (H++[.box [.f (sl s.cg (aM s.cs)),.f (fi s.len),.f (sl s.xg (aH s.xs))] 0,.box [.f (sl s.cg (aM s.cs)),.f (fi s.len),.f (sl s.xg (aH s.xs))] 0]:aj);have I:u[H.length]?=aa (.box [.f (sl s.cg (aM s.cs)),.f (fi s.len),.f (sl s.xg (aH s.xs))] 0):=by rw [b];simp
 have S:u[H.length+1]?=aa (.box [.f (sl s.cg (aM s.cs)),.f (fi s.len),.f (sl s.xg (aH s.xs))] 0):=by rw [b];simp
 have y:∃ J,u=H++J:=⟨_,b⟩
 rw [←b];refine gP s.cs.length (fun j t H'=>t.g 2=.c (.ptr H.length 0 0)∧t.g 3=.c (.ptr (H.length+1) 0 0)∧H'=u) (by omega) rfl (by simp) ⟨by simp,by simp,rfl⟩ ?_ ?_ ?_
 ·rintro j t _ L m ⟨d,l,rfl⟩ g K;simp [g,d,I];exact K _ ⟨by simp [d],by simp [l],rfl⟩ (by simp [g]) (by simp)
 ·rintro j t _ m ⟨d,l,rfl⟩ g next
  have B:=fun H:aj=>mc (H:=H) (cK s.cs) (dI m) rfl;have E:=fun H:aj=>gq (H:=H) (k:=1) (cK s.cs) (dI m) rfl;have F:=fun H:aj=>F' (H:=H) (k:=0) (n:=1) (cK s.cs) (dI m) (by decide);simp [cJ.row]at B E F;have z:j=0:=by omega
  have x:s.cs[j]=⟨.fs,[td n p],mi⟩:=by subst z;simp [v.cs]
  rw [x]at B E F;have q:=Gs.2 n p v.sm;change bg tab 118 [.a [.f (sl .fs (aN [td n p]))],.a [.f (sl .fs (aN [td n p]))]]=_ at q;refine aF ?_;apply ai;simp [g,d,l,I,S,bl,m,B,E,F,q];exact aB (by simp) (aP (aA (next _ _ ⟨by simp [d],by simp [l],rfl⟩ (by simp [g]))))
 ·rintro t _ ⟨d,l,rfl⟩ g;apply ai;simp;refine aC (M _ _ ?_);simp [y])
theorem yY(s:av)(g:ka s):bg tab 29 [.a (s.row.map .f),.a (s.row.map .f)]=Eq (vb ae):=Kf.eq (by
 obtain⟨n,p,mi,j⟩:=lS g;have q:s.st.xg=.nil:=by obtain⟨m,r,t,z,n,p,mi,le,rfl,b⟩:=g;rfl
 have d:=EP s.st j q;simp [aK.row]at d;refine cr rfl rfl fun H Q l=>?_;apply ai;simp [av.row];apply ai;simp [d];refine aC (l _ _ ?_);simp)
theorem aev(s:bC)(g:ka s.aU):bg tab 19 [.a (s.row.map .f),.a (s.row.map .f)]=Eq (vb ae):=Kf.eq (by
 have b:=yY s.aU g;simp [av.row]at b;refine cr rfl rfl fun H Q d=>?_;apply ai;simp [bC.row];apply ai;simp [b];refine aC (d _ _ ?_);simp)
theorem EF(a a':dm)(M:a.l.length≤1048576)(F:∀ s ∈ a.l,ka s.aU)(y:a.clock=a'.clock)(z:a.bO=a'.bO)(A:a.l=a'.l):bg tab 12 [.a (a.row.map .f),.a (a'.row.map .f)]=Eq (vb ae):=Kf.eq (by
 refine cr rfl rfl fun H Q E=>?_;apply ai;simp [dm.row,←y,←z,←A];apply an;apply ai;simp;refine bo (by simp) ?_;apply an;apply ai;simp;obtain⟨m,b⟩:=aJ (H++[.box [.f (fi a.clock),.f (fi a.bO),.f (sl a.lg (aQ a.l))] 0,.box [.f (fi a.clock),.f (fi a.bO),.f (sl a'.lg (aQ a.l))] 0]:aj);have x:m[H.length]?=aa (.box [.f (fi a.clock),.f (fi a.bO),.f (sl a.lg (aQ a.l))] 0):=by rw [b];simp
 have K:m[H.length+1]?=aa (.box [.f (fi a.clock),.f (fi a.bO),.f (sl a'.lg (aQ a.l))] 0):=by rw [b];simp
 have u:∃ J,m=H++J:=⟨_,b⟩
 rw [←b];refine gP a.l.length (fun j t H'=>t.g 2=.c (.ptr H.length 0 0)∧t.g 3=.c (.ptr (H.length+1) 0 0)∧H'=m) (by omega) rfl (by simp) ⟨by simp,by simp,rfl⟩ ?_ ?_ ?_
 ·rintro j t _ L q ⟨d,l,rfl⟩ g B;simp [g,d,x];exact B _ ⟨by simp [d],by simp [l],rfl⟩ (by simp [g]) (by simp)
 ·rintro j t _ q ⟨d,l,rfl⟩ g next
  have I:=fun H:aj=>bL (H:=H) (bF a.l) (dj q);have v:=aev a.l[j] (F _ (anc q));refine aF ?_;apply ai;simp [g,d,l,x,K,bl,q,I,v];exact aB (by simp) (aP (aA (next _ _ ⟨by simp [d],by simp [l],rfl⟩ (by simp [g]))))
 ·rintro t _ ⟨d,l,rfl⟩ g;apply ai;simp;refine aC (E _ _ ?_);simp [u])
def wG(c:List Int):List FC:=c.map fun x=>.int .u8 x
def Dc(L:List (List Int)):List (List FC):=L.map wG
def jb(k:Nat)(c:List Int):Prop:=c.length=k∧∀ x ∈ c,0≤x∧x≤255
theorem C4{k:Nat}{L:List (List Int)}(h:∀ c ∈ L,jb k c):cu k (Dc L):=by
 intro r d;obtain⟨c,b,rfl⟩:=avx.1 d;simp [wG,(h c b).1]
@[simp] theorem atC (L:List (List Int)):(Dc L).length=L.length:=by simp [Dc]
theorem ae1{L:List (List Int)}{j:Nat}(b:j<L.length):(Dc L)[j]?=aa (wG L[j]):=by simp [Dc,b]
def jM:List Int→av
 | [d,g,j,l,b,m,q,s]=>tn (1+d % 7) (g % 3) (j % 3) (1+l % 12) (1+b % 6) (m % (1+b % 6)) (20*(q % 60)) (10+10*(s % 30))| _=>tn 0 0 0 0 0 0 0 0
theorem adA{c:List Int}(h:c.length=8):∃ b d g j l m q s,c=[b,d,g,j,l,m,q,s]:=by
 match c,h with
 | [b,d,g,j,l,m,q,s],_=>exact⟨_,_,_,_,_,_,_,_,rfl⟩
theorem se{c:List Int}(h:jb 8 c):ka (jM c)∧1≤(jM c).meet∧(jM c).meet≤7:=by
 obtain⟨b,j,l,m,q,s,d,u,rfl⟩:=adA h.1;have g:=h.2 d (by simp);refine⟨⟨_,_,_,_,_,_,_,_,rfl,?_⟩,?_,?_⟩
 ·refine⟨by omega,by omega,by omega,by omega,by omega,by omega,by omega,by omega,by omega,by omega,?_,?_,⟨(d % 60).toNat,by omega,by omega⟩,by omega,by omega⟩
  ·exact avO _ (by omega)
  ·exact avG _ (by omega)
 ·show 1≤1+b % 7;omega
 ·show 1+b % 7≤7;omega
theorem adI{s:av}(h:ka s){m:Int}(h0:1≤m)(d:m≤22):ka { s with meet:=m }:=by
 obtain⟨_,r,t,z,n,p,mi,le,rfl,b⟩:=h;exact⟨m,r,t,z,n,p,mi,le,rfl,⟨h0,d,b.r0,b.r1,b.t0,b.t1,b.z0,b.z1,b.n0,b.n1,b.p0,b.p1,b.i0,b.l0,b.l1⟩⟩
theorem Bu{c:List Int}(h:jb 8 c):bg tab 37 [.a ((wG c).map .f)]=Eq (.a ((jM c).row.map .f)):=by
 obtain⟨b,d,g,j,l,m,q,s,rfl⟩:=adA h.1;exact aeP b d g j l m q s h.2
def mR(i:Int):List (List Int)→List av
 | []=>[]| c::r=>{ jM c with meet:=20+i }::mR (i+1) r
theorem CU(a:List Int):∀(l:List (List Int)) (i:Int),mR i (l++[a])=mR i l++[{ jM a with meet:=20+(i+l.length) }]
 | [],i=>by simp [mR]
 | c::r,i=>by
  have:=CU a r (i+1);simp only [awc,mR,this,List.length_cons];rw [show i+1+(r.length:Int)=i+((r.length+1:Nat):Int) by omega]
theorem wu:∀(l:List (List Int)) (i:Int),(mR i l).length=l.length
 | [],_=>rfl| c::r,i=>by simp [mR,wu r]
theorem wv:∀ {l:List (List Int)} {i:Int} {s:av},s ∈ mR i l→∃ c ∈ l,∃ k:Nat,k<l.length∧s = { jM c with meet:=20+(i+k) }
 | [],_,_,h=>by simp [mR]at h
 | c::r,i,s,h=>by
  rcases avn.1 h with rfl | h
  ·exact⟨c,atI,0,by simp,by simp⟩
  ·obtain⟨d,b,k,g,e⟩:=wv h;refine⟨d,aul _ b,k+1,by simpa using g,?_⟩;rw [e,show i+1+(k:Int)=i+((k+1:Nat):Int) by omega]
theorem wq:∀(l:List (List Int)) (i:Int),gw (mR i l)
 | [],_=>List.Pairwise.nil
 | c::r,i=>by
  refine avZ.2 ⟨fun s b=>?_,wq r (i+1)⟩;obtain⟨d,-,k,-,rfl⟩:=wv b;simp only [bZ,decide_eq_false_iff_not];omega
theorem CQ(g0:Tg)(L:List (List Int))(Z:∀ c ∈ L,jb 8 c)(hl:L.length≤9223372036854775807):∃ g,bg tab 36 [.c (.f (sl g0 (Dc L)))]=Eq (.c (.f (sl g (al (mR 0 (L.take 3)))))):=by
 obtain⟨r,⟨g,rfl⟩,hp⟩:∃ r,(∃ g,r=.c (.f (sl g (al (mR 0 (L.take 3))))))∧bg tab 36 [.c (.f (sl g0 (Dc L)))] r:=by
  refine dY rfl rfl fun Q hQ=>?_;have q:∀ J:aj,bu J (.f (sl g0 (Dc L)))=aa L.length:=fun J=>by simp
  apply ai;simp;apply ai;simp;apply an;apply ai;simp;obtain⟨n,hn⟩:=aJ (min L.length 3);refine gP n (fun j t J=>t.g 0=.c (.f (sl g0 (Dc L)))∧∃ c,t.g 3=.c c∧LR J c 7 (al (mR 0 (L.take j)))) (by omega) rfl (by simp) ⟨by simp,.f .az,by simp,by simpa [al,mR]using LR.nil [] 7⟩ ?_ ?_ ?_
  ·rintro j t J K hj ⟨b,c,B,d⟩ l a;by_cases E:j<L.length
   ·simp [l,b,q,E];exact a _ ⟨by simp [b],c,by simp [B],d⟩ (by simp [l]) (by simp;omega)
   ·simp [l,b,q,E];exact a _ ⟨by simp [b],c,by simp [B],d⟩ (by simp [l]) (by simp;omega)
  ·rintro j t J hj ⟨b,c,B,d⟩ l next
   have z:j<L.length:=by omega
   have m:=fun H:aj=>bl (H:=H) (g:=g0) (rows:=Dc L) (sz:=8) (k:=.i64) (i:=(j:Int)) (by omega) (by simp;omega);have I:=fun H:aj=>bL (H:=H) (C4 Z) (ae1 z);simp only [avr]at m;have O:=Bu (Z _ (anc z));have Y:L.take (j+1)=L.take j++[L[j]]:=by rw [avK,By z];rfl
   have y:mR 0 (L.take (j+1))=mR 0 (L.take j)++[{ jM L[j]with meet:=20+j }]:=by
    rw [Y,CU,avA,show min j L.length=j by omega];simp
   generalize L[j]=cl at *;obtain⟨s,hs⟩:=aJ (jM cl);rw [←hs]at O y;have X:s.row.length=7:=rfl;obtain⟨S,v⟩:=aJ (J++[bw.box (s.row.map .f) 0]);have U:S[J.length]?=aa (.box (s.row.map .f) 0):=by rw [v];simp
   have E:=d.push [bw.box (s.row.map .f) 0];rw [←v]at E;refine aF ?_;apply ai;simp [b,l,m,I,O,X,-aw];rw [←v];obtain⟨u,M⟩:=aJ ({ s with meet:=20+(j:Int) }:av);rw [←M]at y;obtain⟨A,x⟩:=aJ (S.set J.length (.box (u.row.map .f) 0));have s1:cX S (.ptr J.length 0 0) [.f (fi (20+(j:Int)))]=aa A:=by rw [x,M];simp [cX,U,over,av.row]
   have f:A[J.length]?=aa (.box (u.row.map .f) 0):=by rw [x];exact IN (ak U)
   have l2:aR A (aa 7) (.c (.ptr J.length 0 0))=aa (.a (u.row.map .f)):=by simp [aR,aE,f,aV,av.row]
   have h2:LR A c 7 (al (mR 0 (L.take j))):=by rw [x];exact E.set (E.pP U) _
   apply ai;simp [l,aW (n:=20+(j:Int)),s1,-bh];have h3:=h2.push [bw.box (u.row.map .f) 0];have o:(A++[bw.box (u.row.map .f) 0])[A.length]?=aa (.box (u.row.map .f) 0):=by simp
   obtain⟨e,J3,p,w,e3,e4⟩:=h3.app (aX _) (by decide) (row:=u.row) rfl (bytes:=88) (by simp [bV,al,wu];omega) o;have N:u.row.length=7:=rfl;refine aq (.inl rfl) ?_;simp [B,l2,N,p,-aw];refine aA (next _ _ ⟨by simp [b],e,by simp,?_⟩ (by simp [l]));rw [y];simpa [al]using w
  ·rintro t J ⟨b,c,B,d⟩ l;have W:L.take n=L.take 3:=by
    rw [hn];rcases Nat.le_total L.length 3 with h | h
    ·rw [aws h,avH,avj h]
    ·rw [Nat.min_eq_right h]
   rw [W]at d;obtain⟨g,F⟩:=d.ex (aX _) 63;change ey deep J c=_ at F;apply ai;simp [B];refine aC (hQ _ _ _ ⟨g,rfl⟩ ?_);simp [F]
 exact⟨g,hp.eq⟩
structure jd where
 af:Int
 qu:Int
 lg:Tg
 L:List (List Int)
 og:Tg
 O:List (List Int)
def jd.row(p:jd):List FC:=[.int .u8 p.af,.int .u16 p.qu,sl p.lg (Dc p.L),sl p.og (Dc p.O)]
structure oM(p:jd):Prop where
 a0:0≤p.af
 a1:p.af≤255
 q0:0≤p.qu
 q1:p.qu≤65535
 L:∀ c ∈ p.L,jb 8 c
 O:∀ c ∈ p.O,jb 11 c
 Ll:p.L.length≤9223372036854775807
 Ol:p.O.length≤9223372036854775807
def jd.l0(p:jd):List av:=mR 0 (p.L.take 3)
theorem Cl(p:jd)(h:oM p):∃ g,bg tab 14 [.a (p.row.map .f)]=Eq (.a [.f (eO (p.af % 40) (p.qu % 3000)),.f (sl g (al p.l0))]):=by
 obtain⟨g,d⟩:=CQ p.lg p.L h.L h.Ll;refine⟨g,bg.eq (bI rfl rfl fun Q j=>?_)⟩;have l:=aeh p.af p.qu h.a0 h.a1 h.q0 h.q1;change _=Eq (V.c (.f (eO (p.af % 40) (p.qu % 3000))))at l;change _=Eq (V.c (.f (sl g (al p.l0))))at d;obtain⟨s,m⟩:=aJ (eO (p.af % 40) (p.qu % 3000));obtain⟨u,q⟩:=aJ (sl g (al p.l0));obtain⟨ld,b⟩:=aJ (sl p.lg (Dc p.L));rw [←m]at l j;rw [←q]at d j;rw [←b]at d;apply ai;simp [jd.row,←b];apply ai;simp [l,d];refine aC (j _ _ ?_);simp [iU,cD,bj]
theorem asi(p:jd)(h:oM p):gw p.l0∧p.l0.length≤3∧∀ s ∈ p.l0,ka s∧20≤s.meet:=by
 refine⟨wq _ _,by unfold jd.l0;rw [wu,avA];omega,fun s g=>?_⟩;obtain⟨c,b,k,d,rfl⟩:=wv g;rw [avA]at d;exact⟨adI (se (h.L c (List.mem_of_mem_take b))).1 (by omega) (by omega),by show 20≤20+(0+(k:Int));omega⟩
theorem adz{o:List Int}(h:jb 11 o):∃ k i t c,o=k::i::t::c∧jb 8 c∧(0≤k∧k≤255)∧(0≤i∧i≤255)∧(0≤t∧t≤255):=by
 match o,h with
 | [k,i,t,b,d,g,j,l,m,q,s],h=>exact⟨k,i,t,[b,d,g,j,l,m,q,s],rfl,⟨rfl,fun x u=>h.2 x (aul _ (aul _ (aul _ u)))⟩,h.2 _ (by simp),h.2 _ (by simp),h.2 _ (by simp)⟩
def FZ(i t b:Int)(c:List Int):bC:=⟨1+i % 8,b+t % 50-2,1,jM c⟩
theorem CA(k i t d:Int)(c:List Int)(v:jb 8 c)(hi:0≤i∧i≤255)(K:0≤t∧t≤255)(h0:0≤d)(L:d≤1000000) :
  bg tab 15 [.a ((wG (k::i::t::c)).map .f),vi d]=Eq (.a ((FZ i t d c).row.map .f)):=bg.eq (by
 refine bI rfl rfl fun Q u=>?_;have j:=Bu v;obtain⟨y,z,A,B,E,F,H,I,g⟩:=adA v.1;have J:=jT (k:=.u8) (b:=8) hi.1 (by decide);have l:=jT (k:=.u8) (b:=50) K.1 (by decide);have m:((wG c).map C.f)=[.f (.int .u8 y),.f (.int .u8 z),.f (.int .u8 A),.f (.int .u8 B),.f (.int .u8 E),.f (.int .u8 F),.f (.int .u8 H),.f (.int .u8 I)]:=by rw [g];rfl
 obtain⟨s,q⟩:=aJ (jM c);have x:FZ i t d c=⟨1+i % 8,d+t % 50-2,1,s⟩:=by rw [q];rfl
 rw [x]at u;rw [←q,m]at j;clear q x;subst g;apply ai;simp [wG];apply ai;simp [J,l,j,av.row,aK.row,aV,aW (n:=i % 8),aW (n:=1+i % 8),aW (n:=t % 50),aW (n:=d+t % 50),aW (n:=d+t % 50-2)];refine aC (u _ _ ?_);simp [iU,cD,bj,bC.row])
def zo(af m:Int)(l0:List av)(h b:dm)(k:Int):Prop:=
 b=h∨(k % 6≤1∧∃ id d g,(d=2∨d=3)∧eE h id=0∧b = { ji h id d with lg:=g }) ∨
 (k % 6=2∧∃ c g,h.clock≤c∧c≤h.clock+29∧b=⟨c,h.bO,g,h.l.map (gW c)⟩) ∨
 (3≤k % 6∧∃ g,b = { h with lg:=g }) ∨
 (3≤k % 6∧∃ x i g,Ru h.clock x∧x.state=1∧(1≤x.id∧x.id≤8)∧ka x.aU∧x.aU.meet≤7∧i≤h.l.length∧(∀ j (l:j<h.l.length),j<i→h.l[j].id<x.id)∧(∀ j (l:j<h.l.length),i≤j→x.id<h.l[j].id) ∧
  b=⟨h.clock,h.bO,g,h.l.take i++x::h.l.drop i⟩∧gv (kM l0 h) x.aU=ag∧Fits af m (kM l0 h) x.aU)
theorem tT{s:av}(h:ka s):Fix s:=by
 obtain⟨m,r,t,z,n,p,mi,le,rfl,b⟩:=h;exact aj4 ..
structure qh(l0:List av):Prop where
 ap:gw l0
 len:l0.length≤3
 f:∀ s ∈ l0,ka s∧20≤s.meet
theorem yq(h:dm)(v:sX h)(af u:Int)(F:0≤af)(a1:af≤39)(g0:Tg)(l0:List av)(m:qh l0)(x:bC)(E:ka x.aU) :
  ∃(j:List Int) (b:Int) (res:dm) (d:List Int) (c:Int),j.length=8∧uB h x j b res d c ∧
   (b=0→gv (kM l0 h) x.aU=ag∧(j.headD 0=0→Fits af u (kM l0 h) x.aU)∧(j.headD 0≠0→A' af u (kM l0 h) x.aU j)) ∧
   bg tab 16 [.a (h.row.map .f),.c (.f (eO af u)),.c (.f (sl g0 (al l0))),.a (x.row.map .f)]=Eq (.t [.a (res.row.map .f),.a (Re d),vi c]):=by
 have L:=v.len;have J:=Fo (l0:=l0) h;have K:=m.len;obtain⟨j,b,B,q,l⟩:=acm af u F a1 (kM l0 h) (by omega) (aeL (nO m.ap h)) (fun s z=>by
  rcases Fp z with z | ⟨y,A,rfl⟩
  ·exact(m.f s z).1
  ·exact(v.f y A).2) x.aU E
 obtain⟨res,d,c,H,I⟩:=ac8 h v (eO af u) g0 l0 m.ap m.len x (tT E) (fun y A=>tT (v.f y A).2) j b B (fun _ g=>l g);exact⟨j,b,res,d,c,B,H,q,I⟩
theorem apS(h:dm)(F:sX h)(hc:h.clock≤99000)(af U:Int)(a0:0≤af)(a1:af≤39)(g0:Tg)(l0:List av)(hp:qh l0)(k i t:Int)(c:List Int)(d_:jb 8 c)(k_:0≤k∧k≤255)(hi:0≤i∧i≤255)(ht:0≤t∧t≤255) :
  ∃ A,sX A∧A.clock≤h.clock+29∧zo af U l0 h A k∧bg tab 20 [.a (h.row.map .f),.a [.f (eO af U),.f (sl g0 (al l0))],.a ((wG (k::i::t::c)).map .f)]=Eq (.a (A.row.map .f)):=by
 obtain⟨r,⟨A,h1,h2,h3,rfl⟩,L⟩:∃ r,(∃ A,sX A∧A.clock≤h.clock+29∧zo af U l0 h A k∧r=.a (A.row.map .f))∧bg tab 20 [.a (h.row.map .f),.a [.f (eO af U),.f (sl g0 (al l0))],.a ((wG (k::i::t::c)).map .f)] r:=by
  refine dY rfl rfl fun Q hQ=>?_;have o_:=F.len;have n_:=F.c0;have e_:∀ x ∈ h.l,Fix x.aU:=fun x hx=>tT (F.f x hx).2;have f7:h.row.length=3:=rfl;have e6:=jT (k:=.u8) (b:=6) k_.1 (by decide);have e8:=jT (k:=.u8) (b:=8) hi.1 (by decide);have j7:=jT (k:=.u8) (b:=30) ht.1 (by decide);have f8:=CA k i t h.clock c d_ hi ht (by omega) (by omega);obtain⟨rm,i9⟩:=aJ (eO af U);obtain⟨sd,i_⟩:=aJ (sl g0 (al l0));obtain⟨E,N⟩:=aJ (wG (k::i::t::c));have i8:E.length=11:=by rw [N];simp [wG,d_.1]
  have o0:∀ K:aj,K[2]?=aa (.box (E.map .f) 0)→aR K ab (.c (.ptr 2 0 0))=aa (.c (.f (.int .u8 k)))∧aR K ab (.c (.ptr 2 1 0))=aa (.c (.f (.int .u8 i)))∧aR K ab (.c (.ptr 2 2 0))=aa (.c (.f (.int .u8 t)))∧aR K (aa 11) (.c (.ptr 2 0 0))=aa (.a (E.map .f)):=fun K J=>by
   have e:E.map C.f=.f (.int .u8 k)::.f (.int .u8 i)::.f (.int .u8 t) ::(wG c).map .f:=by rw [N];rfl
   refine⟨?_,?_,?_,?_⟩
   ·rw [e]at J;simp [aR,aE,J]
   ·rw [e]at J;simp [aR,aE,J]
   ·rw [e]at J;simp [aR,aE,J]
   ·simp [aR,aE,J,aV,i8,avj]
  rw [←N]at f8 ⊢;rw [←i9,←i_];obtain⟨l,B⟩:=aJ ([.box (h.row.map .f) 0,.box [.f rm,.f sd] 0,.box (E.map .f) 0,.box [.f (fi 0),.f (fi 0),.f .az] 0,.box (h.row.map .f) 0]:aj);have z0:l[0]?=aa (.box (h.row.map .f) 0):=by rw [B];rfl
  have z1:l[1]?=aa (.box [.f rm,.f sd] 0):=by rw [B];rfl
  have z2:l[2]?=aa (.box (E.map .f) 0):=by rw [B];rfl
  have z3:l[3]?=aa (.box [.f (fi 0),.f (fi 0),.f .az] 0):=by rw [B];rfl
  have z4:l[4]?=aa (.box (h.row.map .f) 0):=by rw [B];rfl
  have lh:∀(K:aj) (b:Nat) (x:dm),K[b]?=aa (.box (x.row.map .f) 0)→aR K (aa 3) (.c (.ptr b 0 0))=aa (.a (x.row.map .f))∧aR K ab (.c (.ptr b 0 0))=aa (vi x.clock):=fun K b x J=>by
   refine⟨?_,?_⟩<;>simp [aR,aE,J,aV,dm.row]
  have sh:∀(K:aj) (b:Nat) (cs:List C) (x:dm),K[b]?=aa (.box cs 0)→cs.length=3→cX K (.ptr b 0 0) (x.row.map .f)=aa (K.set b (.box (x.row.map .f) 0)):=fun K b cs x J hl=>by
   match cs,hl with
   | [p,q,r],_=>simp [cX,J,over,dm.row]
  have H:∀(u:T) (K:aj) (e:Int) (x:dm),u.g 3=.c (.ptr 0 0 0)→u.g 6=.c (.ptr 3 0 0)→u.g 7=.c (.ptr 4 0 0)→u.g 8=vi e→K[0]?=aa (.box (h.row.map .f) 0)→K[3]?=aa (.box [.f (fi 0),.f (fi 0),.f .az] 0)→K[4]?=aa (.box (x.row.map .f) 0) →
    (∀ y,y=(if e=0 then x else h)→sX y∧y.clock≤h.clock+29∧zo af U l0 h y k)→WP tab 20 ab [.code AU] ⟨u,[],K⟩ Q:=by
   intro u K e x O I S g8 k0 k3 k4 s;have h_:∀(u:T) (y:dm) (j:Option aG),u.g 6=.c (.ptr 3 0 0)→(sX y∧y.clock≤h.clock+29∧zo af U l0 h y k)→Q j ⟨u,[],K.set 3 (.box (y.row.map .f) 0)⟩:=by
    intro u y j I s;have d:(K.set 3 (.box (y.row.map .f) 0))[3]?=aa (.box (y.row.map .f) 0):=IN (ak k3);refine hQ _ _ _ ⟨y,s.1,s.2.1,s.2.2,rfl⟩ ⟨rfl,V.a (y.row.map .f),?_,by simp [iU,cD,bj,deep]⟩;simp [Km.results,cA,bj,I,(lh _ 3 y d).1,-aw]
   apply an;apply ai;simp [g8];by_cases M:e=0
   ·have:=s x (by rw [bf M]);refine bo (by simp [M]) ?_;apply ai;have m4:x.row.length=3:=rfl;simp [I,S,(lh K 4 x k4).1,m4,sh K 3 _ x k3 rfl,-aw,-bh];exact aC (h_ _ x _ (by simp [I]) this)
   ·have:=s h (by rw [aY M]);refine au (by simp [M]) ?_;apply ai;simp [O,I,(lh K 0 h k0).1,f7,sh K 3 _ h k3 rfl,-aw,-bh];exact aC (h_ _ h _ (by simp [I]) this)
  have b_:sX h∧h.clock≤h.clock+29∧zo af U l0 h h k:=⟨F,by omega,.inl rfl⟩
  have c_:∀(id st:Int) (g:Tg) (z:dm),k % 6≤1→(st=2∨st=3)→z=(if eE h id=0 then { ji h id st with lg:=g }else gX)→∀ y,y=(if eE h id=0 then z else h)→sX y∧y.clock≤h.clock+29∧zo af U l0 h y k:=by
   intro id st g z j_ Z m y s;by_cases M:eE h id=0
   ·rw [bf M]at m s;subst s;rw [m];exact⟨alL F Z g,by show h.clock≤_;omega,.inr (.inl ⟨j_,id,st,g,Z,M,rfl⟩)⟩
   ·rw [aY M]at s;rw [s];exact b_
  have start:∀ u:T,u.g 3=.c (.ptr 0 0 0)→u.g 4=.c (.ptr 1 0 0)→u.g 5=.c (.ptr 2 0 0)→u.g 6=.c (.ptr 3 0 0)→u.g 7=.c (.ptr 4 0 0)→WP tab 20 ab [.code E6] ⟨u,[],l⟩ Q:=by
   intro u O g4 g5 I S;obtain⟨p1,p2,p3,p4⟩:=o0 l z2;obtain⟨h3,a_⟩:=lh l 0 h z0;have n9:ey deep l (.f .az)=aa .az:=rfl;refine an (ai ?_);simp [g5,p1,e6,-aw];refine aF (ai ?_);simp;by_cases c0:k % 6=0
   ·refine au (by simp [c0]) ?_;obtain⟨g,z,m,L⟩:=DH h (by omega) e_ (1+i % 8);have v:z.row.length=3:=rfl;refine aq (.inl rfl) ?_;simp [O,g5,S,p2,h3,e8,aW (n:=i % 8),aW (n:=1+i % 8),L,v,sh l 4 _ z z4 rfl,-aw,-bh];refine aA (H _ _ (eE h (1+i % 8)) z (by simp [O]) (by simp [I]) (by simp [S]) (by simp) ?_ ?_ (IN (ak z4)) (c_ _ 2 g z (by omega) (.inl rfl) m))
    ·rw [AI (by decide)];exact z0
    ·rw [AI (by decide)];exact z3
   refine aB (by simp [c0]) ?_;apply ai;simp;by_cases c1:k % 6=1
   ·refine au (by simp [c1]) ?_;obtain⟨g,z,m,L⟩:=ED h (by omega) e_ (1+i % 8);have v:z.row.length=3:=rfl;refine aq (.inl rfl) ?_;simp [O,g5,S,p2,h3,e8,aW (n:=i % 8),aW (n:=1+i % 8),L,v,sh l 4 _ z z4 rfl,-aw,-bh];refine aA (H _ _ (eE h (1+i % 8)) z (by simp [O]) (by simp [I]) (by simp [S]) (by simp) ?_ ?_ (IN (ak z4)) (c_ _ 3 g z (by omega) (.inr rfl) m))
    ·rw [AI (by decide)];exact z0
    ·rw [AI (by decide)];exact z3
   refine aB (by simp [c1]) ?_;apply ai;simp;by_cases c2:k % 6=2
   ·refine au (by simp [c2]) ?_;obtain⟨g,z,m,L⟩:=alJ h (by omega) e_ (h.clock+t % 30);have v:z.row.length=3:=rfl;have l_:lI h (h.clock+t % 30)=0:=by
     unfold lI;rw [aY];rintro(A | A | A)
     ·rw [F.v]at A;cases A
     ·omega
     ·omega
    rw [l_]at m L;refine aq (.inl rfl) ?_;simp [O,g5,S,p3,h3,a_,j7,aW (n:=t % 30),aW (n:=h.clock+t % 30),L,v,sh l 4 _ z z4 rfl,-aw,-bh];refine aA (H _ _ 0 z (by simp [O]) (by simp [I]) (by simp [S]) (by simp) ?_ ?_ (IN (ak z4)) fun y s=>?_)
    ·rw [AI (by decide)];exact z0
    ·rw [AI (by decide)];exact z3
    ·rw [bf rfl]at s m;rw [s,m];refine⟨alK F (by omega) (by omega) g,by show h.clock+t % 30≤_;omega,.inr (.inr (.inl ⟨c2,_,g,?_,?_,rfl⟩))⟩<;>omega
   refine aB (by simp [c2]) ?_;have c3:3≤k % 6:=by omega
   obtain⟨x,hx⟩:=aJ (FZ i t h.clock c);rw [←hx]at f8;obtain⟨j8,m_,j9⟩:=se d_;have f_:ka x.aU:=by rw [hx];exact j8
   obtain⟨rf,m9,res,a8,cc,h8,hG,j4,L⟩:=yq h F af U a0 a1 g0 l0 hp x f_;rw [←i9,←i_]at L;have v:res.row.length=3:=rfl;have b9:a8.length=8:=by
    rcases hG with⟨-,-,e,-⟩ | ⟨-,-,-,e,-⟩ | ⟨-,-,-,e,-⟩
    ·rw [e];rfl
    ·rw [e];rfl
    ·rw [e];exact h8
   have q0:aR l ab (.c (.ptr 1 0 0))=aa (.c (.f rm))∧aR l ab (.c (.ptr 1 1 0))=aa (.c (.f sd)):=by
    refine⟨?_,?_⟩<;>simp [aR,aE,z1]
   have n0:l.length=5:=by rw [B];rfl
   obtain⟨K1,W⟩:=aJ (l++[bw.box [.f (fi 0),.f (fi 0),.f .az] 0,bw.box [.f (fi 0),.f (fi 0),.f (fi 0),.f (fi 0),.f (fi 0),.f (fi 0),.f (fi 0),.f (fi 0)] 0]);have k1:∀ i:Nat,i<5→K1[i]?=l[i]?:=fun i hi=>by rw [W,AT (by omega)]
   have d5:K1[l.length]?=aa (.box [.f (fi 0),.f (fi 0),.f .az] 0):=by rw [W];simp
   have d6:K1[l.length+1]?=aa (.box [.f (fi 0),.f (fi 0),.f (fi 0),.f (fi 0),.f (fi 0),.f (fi 0),.f (fi 0),.f (fi 0)] 0):=by rw [W,IS (by omega)];simp
   have s1:=sh K1 l.length _ res d5 rfl;obtain⟨K2,X⟩:=aJ (K1.set l.length (.box (res.row.map .f) 0));rw [←X]at s1;have j6:K2[l.length+1]?=_:=(by rw [X,AI (by omega)]:K2[l.length+1]?=K1[l.length+1]?).trans d6;have j5:K2[l.length]?=aa (.box (res.row.map .f) 0):=by rw [X];exact IN (ak d5)
   obtain⟨K3,d9⟩:=aJ (K2.set (l.length+1) (.box (a8.map fun n=>.f (fi n)) 0));have s2:cX K2 (.ptr (l.length+1) 0 0) (a8.map fun n=>.f (fi n))=aa K3:=by
    rw [d9]
    match a8,b9 with
    | [p0,p1,p2,p3,p4,p5,p6,p7],_=>simp [cX,j6,over]
   have g_:K3[l.length]?=aa (.box (res.row.map .f) 0):=by rw [d9,AI (by omega)];exact j5
   have k3:∀ i:Nat,i<5→K3[i]?=l[i]?:=fun i hi=>by rw [d9,AI (by omega),X,AI (by omega),k1 i hi]
   rw [W]at s1;apply ai;simp [O,g4,g5,p4,h3,a_,q0.1,q0.2,f8,L,v,Re,b9,s1,s2,-aw,-bh];have w4:=(k3 4 (by omega)).trans z4;have w3:=(k3 3 (by omega)).trans z3;have w0:=(k3 0 (by omega)).trans z0;have l5:=(lh K3 l.length res g_).1;apply ai;simp [S,l5,v,sh K3 4 _ res w4 rfl,-aw,-bh];refine aq (.inl rfl) ?_;simp;refine aA (H _ _ cc res (by simp [O]) (by simp [I]) (by simp [S]) (by simp) ?_ ?_ (IN (ak w4)) fun y s=>?_)
   ·rw [AI (by decide)];exact w0
   ·rw [AI (by decide)];exact w3
   by_cases M:cc=0
   case neg=>rw [aY M]at s;rw [s];exact b_
   rw [bf M]at s;subst s;rcases hG with⟨e1,-,-,e2⟩ | ⟨-,e1,-,-,e2⟩ | ⟨e1,e2,-,-,g,⟨-,e3⟩ | ⟨e3,j,hj,i6,i4,e4⟩⟩
   ·omega
   ·omega
   ·rw [e3];refine⟨⟨F.v,F.c0,F.c1,F.d,F.f⟩,by show h.clock≤_;omega,.inr (.inr (.inr (.inl ⟨c3,g,rfl⟩)))⟩
   ·have i5:1≤x.id∧x.id≤8:=by rw [hx];show 1≤1+i % 8∧1+i % 8≤8;omega
    have Z:x.state=1:=by rw [hx];rfl
    have n8:x.dl=h.clock+t % 50-2:=by rw [hx];rfl
    have i7:Ru h.clock x:=by
     unfold dt at e1;split at e1
     ·omega
     ·split at e1
      ·omega
      ·split at e1
       ·omega
       ·rename_i hn;unfold Ru;omega
    obtain⟨t1,t2,-⟩:=j4 e2;have h0:rf.headD 0=0:=by
     match rf,h8 with
     | p0::_,_=>simpa using e3
    rw [e4];refine⟨adk F i7 (by omega) ⟨.inl i5,f_⟩ i6 i4 g,by show h.clock≤_;omega,.inr (.inr (.inr (.inr ⟨c3,x,j,g,i7,Z,i5,f_,by rw [hx];exact j9,hj,i6,i4,rfl,t1,t2 h0⟩)))⟩
  apply ai;simp [f7,i8];apply ai;obtain⟨KK,Y⟩:=aJ ([.box (h.row.map .f) 0,.box [.f rm,.f sd] 0,.box (E.map .f) 0,.box [.f (fi 0),.f (fi 0),.f .az] 0]:aj);have w0:KK[0]?=aa (.box (h.row.map .f) 0):=by rw [Y];rfl
  have nK:KK.length=4:=by rw [Y];rfl
  have eK:KK++[bw.box (h.row.map .f) 0]=l:=by rw [Y,B];rfl
  rw [←Y];simp [(lh KK 0 h w0).1,f7,nK,-aw];rw [eK];exact start _ (by simp) (by simp) (by simp) (by simp) (by simp)
 exact⟨A,h1,h2,h3,L.eq⟩
def h00:dm:=⟨100,5,.nil,[]⟩
theorem aoY:sX h00:=⟨by decide,by decide,by decide,rfl,fun x b=>by simp [h00]at b⟩
theorem Cm(p:jd)(h:oM p):qh p.l0:=by
 obtain⟨a,b,c⟩:=asi p h;exact⟨a,b,c⟩
theorem Q6(p:jd)(W:oM p)(Inv:dm→Prop)(a_:Inv h00)(step:∀ h F k,sX h→Inv h→zo (p.af % 40) (p.qu % 3000) p.l0 h F k→Inv F) :
  ∃ h,sX h∧h.clock≤1000∧Inv h∧bg tab 11 [.a (p.row.map .f)]=Eq (.a (h.row.map .f)):=by
 obtain⟨r,⟨h,Z,h2,h3,rfl⟩,hP⟩:∃ r,(∃ h,sX h∧h.clock≤1000∧Inv h∧r=.a (h.row.map .f))∧bg tab 11 [.a (p.row.map .f)] r:=by
  refine dY rfl rfl fun Q hQ=>?_;obtain⟨g,X⟩:=Cl p W;have d9:=W.Ol;have c_:=Cm p W;have z:p.row.length=4:=rfl;have a0:0≤p.af % 40:=avO _ (by omega);have a1:p.af % 40≤39:=by have:=avG p.af (show 0<40 by omega);omega
  obtain⟨row,l⟩:=aJ (p.row);have lp:∀ K:aj,K[0]?=aa (.box (row.map .f) 0)→aR K (aa 4) (.c (.ptr 0 0 0))=aa (.a (row.map .f))∧aR K ab (.c (.ptr 0 3 0))=aa (.c (.f (sl p.og (Dc p.O)))):=fun K O=>by
   rw [l]at O ⊢;refine⟨?_,?_⟩<;>simp [aR,aE,O,aV,jd.row]
  have lh:∀(K:aj) (b:Nat) (x:dm),K[b]?=aa (.box (x.row.map .f) 0)→aR K (aa 3) (.c (.ptr b 0 0))=aa (.a (x.row.map .f)):=fun K b x O=>by
   simp [aR,aE,O,aV,dm.row]
  have sh:∀(K:aj) (b:Nat) (cs:List C) (x:dm),K[b]?=aa (.box cs 0)→cs.length=3→cX K (.ptr b 0 0) (x.row.map .f)=aa (K.set b (.box (x.row.map .f) 0)):=fun K b cs x O hl=>by
   match cs,hl with
   | [p,q,r],_=>simp [cX,O,over,dm.row]
  have y:∀ J:aj,bu J (.f (sl p.og (Dc p.O)))=aa p.O.length:=fun J=>by simp
  rw [←l]at X ⊢;rw [←l]at z;apply ai;simp [z];apply ai;simp;obtain⟨Y,m⟩:=aJ ([.box (row.map .f) 0,.box [.f (fi 0),.f (fi 0),.f .az] 0,.box (h00.row.map .f) 0]:aj);have z0:Y[0]?=aa (.box (row.map .f) 0):=by rw [m];rfl
  have z1:Y[1]?=aa (.box [.f (fi 0),.f (fi 0),.f .az] 0):=by rw [m];rfl
  have z2:Y[2]?=aa (.box (h00.row.map .f) 0):=by rw [m];rfl
  have eK:Y=[.box (row.map .f) 0,.box [.f (fi 0),.f (fi 0),.f .az] 0,.box [.f (fi 100),.f (fi 5),.f .az] 0]:=m;rw [←eK];apply an;apply ai;simp;obtain⟨n,hn⟩:=aJ (min p.O.length 12);refine gP n (fun j t J=>t.g 1=.c (.ptr 0 0 0)∧t.g 2=.c (.ptr 1 0 0)∧t.g 3=.c (.ptr 2 0 0)∧J[0]?=aa (.box (row.map .f) 0)∧J[1]?=aa (.box [.f (fi 0),.f (fi 0),.f .az] 0)∧∃ h:dm,J[2]?=aa (.box (h.row.map .f) 0)∧sX h∧h.clock≤100+29*(j:Int)∧Inv h) (by omega) rfl (by simp)
   ⟨by simp,by simp,by simp,z0,z1,h00,z2,aoY,by decide,a_⟩ ?_ ?_ ?_
  ·rintro j t J K hj ⟨s,B,E,k0,M,h,A,I,hc,N⟩ u hL;by_cases Z:j<p.O.length
   ·simp [u,s,(lp J k0).2,y,Z,-aw];exact hL _ ⟨by simp [s],by simp [B],by simp [E],k0,M,h,A,I,hc,N⟩ (by simp [u]) (by simp;omega)
   ·simp [u,s,(lp J k0).2,y,Z,-aw];exact hL _ ⟨by simp [s],by simp [B],by simp [E],k0,M,h,A,I,hc,N⟩ (by simp [u]) (by simp;omega)
  ·rintro j t J hj ⟨s,B,E,k0,M,h,A,I,hc,N⟩ u next
   have S:j<p.O.length:=by omega
   have v:=fun H:aj=>bl (H:=H) (g:=p.og) (rows:=Dc p.O) (sz:=11) (k:=.i64) (i:=(j:Int)) (by omega) (by simp;omega);have U:=fun H:aj=>bL (H:=H) (C4 W.O) (ae1 S);simp only [avr]at v;obtain⟨k,i,t',c,ho,a8,b_,hi,ht⟩:=adz (W.O _ (anc S));rw [ho]at U;obtain⟨F,b9,d_,hR,hP⟩:=apS h I (by omega) (p.af % 40) (p.qu % 3000) a0 a1 g p.l0 c_ k i t' c a8 b_ hi ht;have L:F.row.length=3:=rfl;refine aF ?_;refine aq (.inl rfl) ?_;simp [s,E,u,(lp J k0).1,(lp J k0).2,lh J 2 h A,X,v,U,hP,L,sh J 2 _ F A rfl,-aw,-bh];refine aA (next _ _ ⟨by simp [s],by simp [B],by simp [E],?_,?_,F,IN (ak A),b9,by omega,step h F k I N hR⟩ (by simp [u]))
   ·rw [AI (by decide)];exact k0
   ·rw [AI (by decide)];exact M
  ·rintro t J ⟨s,B,E,k0,M,h,A,I,hc,N⟩ u;have L:h.row.length=3:=rfl;have d:(J.set 1 (.box (h.row.map .f) 0))[1]?=aa (.box (h.row.map .f) 0):=IN (ak M);apply ai;simp [B,E,lh J 2 h A,L,sh J 1 _ h M rfl,-aw,-bh];refine aC (hQ _ _ _ ⟨h,I,by omega,N,rfl⟩ ⟨rfl,V.a (h.row.map .f),?_,by simp [iU,cD,bj,deep]⟩);simp [Km.results,cA,bj,B,lh _ 1 h d,-aw]
 exact⟨h,Z,h2,h3,hP.eq⟩
theorem auu:bg tab 10 []=Eq (vb ae):=lE (by kernel_rfl)
theorem yx(K:aj)(b:Nat)(x:dm)(d:K[b]?=aa (.box (x.row.map .f) 0)):aR K (aa 3) (.c (.ptr b 0 0))=aa (.a (x.row.map .f))∧aR K ab (.c (.ptr b 0 0))=aa (vi x.clock)∧aR K ab (.c (.ptr b 2 0))=aa (.c (.f (sl x.lg (aQ x.l)))):=by
 refine⟨?_,?_,?_⟩<;>simp [aR,aE,d,aV,dm.row]
theorem aj3{n:dm}(d:sX n){i:Nat}(hi:i<n.l.length):qz n.l[i].id n.l=aa i:=
 zH hi rfl fun q g b=>by
  have:=avV.1 (eo.1 d.v).2.2.2 q i g hi b;omega
theorem gD(a b:List bC):bB (a++b)=bB a++bB b:=by simp [bB]
theorem QR{a b:aK}(h:jc a b):jc b a:=by
 obtain⟨c,j,d,l,k,q,s,x,m,g,u⟩:=h;refine⟨d,l,c,j,-k,?_,?_,x,m,?_,g⟩
 ·unfold vr vj at *;omega
 ·unfold vr vj at *;omega
 ·rwa [show - -k=k by omega]
structure lM(h:dm):Prop where
 m:∀ x ∈ h.l,x.aU.meet≤7
 ap:gw (bB h.l)
 no:∀ s ∈ bB h.l,∀ s' ∈ bB h.l,s.room=s'.room→s.meet≠s'.meet→¬ jc s.st s'.st
theorem lM.sub{h n:dm}(d:lM h)(g:∀ x ∈ n.l,x.aU.meet≤7)(b:List.Sublist (bB n.l) (bB h.l)):lM n:=
 ⟨g,d.ap.sublist b,fun s h1 s' h2=>d.no s (b.subset h1) s' (b.subset h2)⟩
theorem wH{l0:List av}:∀ {l acc:List av},gw (acc++l)→(∀ x ∈ l0,∀ s ∈ l,bZ x s=ag)→uniq l0 acc l=acc++l
 | [],acc,_,_=>by simp [uniq]
 | s::r,acc,d,h0=>by
  have g:l0.any (fun x=>bZ x s)=ag:=by
   rw [awB];intro x b;rw [h0 x b s atI];simp
  have j:acc.any (fun x=>bZ x s)=ag:=by
   rw [awB];intro x b;have:=(av3.1 d).2.2 x b s atI;rw [this];simp
  have e:acc++s::r=(acc++[s])++r:=by simp
  rw [uniq,g,j];simp only [Bool.or_self,avk,if_false];rw [wH (by rw [←e];exact d) (fun x b y m=>h0 x b y (aul _ m)),e]
theorem vp{l0:List av}(d:qh l0){h:dm}(b:lM h){s:av}(g:s ∈ bB h.l):s ∈ kM l0 h:=by
 unfold kM;rw [(lG _).mem_iff,wH (by simpa using b.ap) fun x j y l=>?_]
 ·simp [g]
 ·obtain⟨z,m,rfl⟩:=BW l;have q:=(d.f x j).2;have u:=b.m z m;simp only [bZ,decide_eq_false_iff_not];omega
theorem adC{l:List bC}{i:Nat}(hi:i<l.length)(m:ig l[i]=ae)(y:bC)(q:y.aU=l[i].aU):List.Sublist (bB (l.set i y)) (bB l):=by
 have d:l=l.take i++([l[i]]++l.drop (i+1)):=by
  rw [List.singleton_append,←auR hi,avL]
 have g:l.set i y=l.take i++([y]++l.drop (i+1)):=by rw [List.set_eq_take_append_cons_drop,bf hi];rfl
 rw [g]
 conv=>rhs;rw [d]
 rw [gD,gD,gD,gD];refine List.Sublist.append (List.Sublist.refl _) (List.Sublist.append ?_ (List.Sublist.refl _));have j:bB [l[i]]=[l[i].aU]:=by simp [bB,m]
 rw [j];by_cases b:ig y=ae
 ·have:bB [y]=[y.aU]:=by simp [bB,b]
  rw [this,q];exact List.Sublist.refl _
 ·have:bB [y]=[]:=by simp [bB,b]
  rw [this];exact List.nil_sublist _
theorem yC(c:Int):∀ l:List bC,List.Sublist (bB (l.map (gW c))) (bB l)
 | []=>List.Sublist.refl _
 | x::r=>by
  have e:∀(y:bC) (q:List bC),bB (y::q)=bB [y]++bB q:=fun y q=>gD [y] q;rw [avl,e,e x];refine List.Sublist.append ?_ (yC c r);unfold gW;split
  ·have:bB [{ x with state:=4 }]=[]:=by simp [bB,ig]
   rw [this];exact List.nil_sublist _
  ·exact List.Sublist.refl _
theorem vF{af qu:Int}(U:0≤af){l0:List av}(L:qh l0){h n:dm}{k:Int}(l:lM h)(X:zo af qu l0 h n k):lM n:=by
 rcases X with rfl | ⟨u,id,S,g,Z,j,rfl⟩ | ⟨u,c,g,h0,B,rfl⟩ | ⟨u,g,rfl⟩ | ⟨u,x,i,g,-,O,-,-,Q,hi,-,-,rfl,v,E⟩
 ·exact l
 ·unfold eE at j;split at j
  ·omega
  cases K:qz id h.l with
  | none=>rw [K]at j;simp at j
  | some i=>
   rw [K]at j;obtain⟨hi,-⟩:=sk K;simp only [By hi]at j;split at j
   case isFalse=>omega
   rename_i N;have H:({ ji h id S with lg:=g }:dm).l=h.l.set i { h.l[i]with state:=S }:=by
    show(ji h id S).l=_;unfold ji;simp only [K,akP,By hi]
   refine l.sub (fun x A=>?_) (by rw [H];exact adC hi (by simp [ig,N]) _ rfl);rw [H]at A;rcases List.mem_or_eq_of_mem_set A with A | rfl
   ·exact l.m x A
   ·exact l.m h.l[i] (anc hi)
 ·refine l.sub (fun x A=>?_) (yC c h.l);obtain⟨y,m,rfl⟩:=avx.1 A;have:=l.m y m;unfold gW;split<;>exact this
 ·exact l.sub l.m (List.Sublist.refl _)
 ·have J:=E.apart U;have H:bB (h.l.take i++x::h.l.drop i)=bB (h.l.take i)++([x.aU]++bB (h.l.drop i)):=by
   have:h.l.take i++x::h.l.drop i=h.l.take i++([x]++h.l.drop i):=rfl;rw [this,gD,gD];have:bB [x]=[x.aU]:=by simp [bB,ig,O]
   rw [this]
  have I:bB h.l=bB (h.l.take i)++bB (h.l.drop i):=by rw [←gD,avL]
  have q:∀ s,s ∈ bB (h.l.take i++x::h.l.drop i)↔s=x.aU∨s ∈ bB h.l:=fun s=>by
   rw [H,I];simp only [avq,avh];constructor
   ·rintro(h | h | h)
    ·exact .inr (.inl h)
    ·exact .inl h
    ·exact .inr (.inr h)
   ·rintro(h | h | h)
    ·exact .inr (.inl h)
    ·exact .inl h
    ·exact .inr (.inr h)
  have F:∀ s ∈ bB h.l,bZ s x.aU=ag:=fun s M=>by
   unfold gv at v;rw [awB]at v;have:=v s (vp L l M);simpa using this
  refine⟨fun y m=>?_,?_,fun s B s' z d b=>?_⟩
  ·have:y=x∨y ∈ h.l:=by
    rcases avq.1 m with m | m
    ·exact .inr (List.mem_of_mem_take m)
    ·rcases avn.1 m with m | m
     ·exact .inl m
     ·exact .inr (List.mem_of_mem_drop m)
   rcases this with rfl | m
   ·exact Q
   ·exact l.m y m
  ·show gw (bB (h.l.take i++x::h.l.drop i));have Y:gw (x.aU::bB h.l):=avZ.2 ⟨fun s M=>by rw [pK];exact F s M,l.ap⟩;refine Y.perm ?_;rw [H,I];exact List.perm_middle
  ·rcases(q s).1 B with rfl | B
   ·rcases(q s').1 z with rfl | z
    ·exact absurd rfl b
    ·exact J s' (vp L l z) d.symm (Ne.symm b)
   ·rcases(q s').1 z with rfl | z
    ·exact fun W=>J s (vp L l B) d b (QR W)
    ·exact l.no s B s' z d b
theorem akD:lM h00:=⟨fun x d=>by simp [h00]at d,List.Pairwise.nil,fun s b=>by simp [h00,bB]at b⟩
theorem mC{x:List FC}(h:∃ m,x=[FC.int .u8 m]∧Lit.wf (.int .u8 m)):∃ m:Int,x=[FC.int .u8 m]∧(0≤m∧m≤255):=by
 obtain⟨m,rfl,b⟩:=h;simp [Lit.wf,IntKind.min,IntKind.max,IntKind.signed,IntKind.bits]at b;exact⟨m,rfl,by omega⟩
theorem asV{x:List FC}(h:∃ m,x=[FC.int .u16 m]∧Lit.wf (.int .u16 m)):∃ m:Int,x=[FC.int .u16 m]∧(0≤m∧m≤65535):=by
 obtain⟨m,rfl,b⟩:=h;simp [Lit.wf,IntKind.min,IntKind.max,IntKind.signed,IntKind.bits]at b;exact⟨m,rfl,by omega⟩
theorem adx{n:Nat}(h:n≤maxLen):n≤9223372036854775807:=avv h (by decide)
theorem Bt{n:Nat}{ys:List FC}(h:rE Tryz.prog (n+2) 28 ys):∃ c:List Int,ys=wG c∧jb 8 c:=by
 obtain⟨_,S,rfl,u,H⟩:=dH (pU (ts:=[5,5,5,5,5,5,5,5]) Tryz.underlying28 rfl h);obtain⟨b1,rfl,e⟩:=mC (fE Tryz.underlying5 u);obtain⟨_,U,rfl,v,I⟩:=dH H;obtain⟨d,rfl,f⟩:=mC (fE Tryz.underlying5 v);obtain⟨_,W,rfl,y,J⟩:=dH I;obtain⟨g,rfl,i⟩:=mC (fE Tryz.underlying5 y);obtain⟨_,X,rfl,z,K⟩:=dH J;obtain⟨j,rfl,k⟩:=mC (fE Tryz.underlying5 z);obtain⟨_,Y,rfl,A,L⟩:=dH K;obtain⟨l,rfl,o⟩:=mC (fE Tryz.underlying5 A);obtain⟨_,Z,rfl,B,M⟩:=dH L;obtain⟨m,rfl,p⟩:=mC (fE Tryz.underlying5 B);obtain⟨_,a,rfl,E,N⟩:=dH M;obtain⟨q,rfl,r⟩:=mC (fE Tryz.underlying5 E);obtain⟨_,Q,rfl,F,O⟩:=dH N;obtain⟨s,rfl,t⟩:=mC (fE Tryz.underlying5 F);obtain rfl:Q=[]:=O;refine⟨[b1,d,g,j,l,m,q,s],rfl,rfl,fun x b=>?_⟩;simp at b;rcases b with rfl | rfl | rfl | rfl | rfl | rfl | rfl | rfl<;>assumption
theorem adV{n:Nat}{ys:List FC}(h:rE Tryz.prog (n+3) 30 ys):∃ c:List Int,ys=wG c∧jb 11 c:=by
 obtain⟨_,H,rfl,l,u⟩:=dH (pU (ts:=[5,5,5,28]) Tryz.underlying30 rfl h);obtain⟨b1,rfl,B⟩:=mC (fE Tryz.underlying5 l);obtain⟨_,I,rfl,m,v⟩:=dH u;obtain⟨g,rfl,E⟩:=mC (fE Tryz.underlying5 m);obtain⟨_,J,rfl,q,y⟩:=dH v;obtain⟨j,rfl,F⟩:=mC (fE Tryz.underlying5 q);obtain⟨_,A,rfl,s,z⟩:=dH y;obtain⟨c,rfl,d⟩:=Bt s;obtain rfl:A=[]:=z;refine⟨b1::g::j::c,by simp [wG],by simp [d.1],fun x b=>?_⟩;simp at b;rcases b with rfl | rfl | rfl | b
 ·exact B
 ·exact E
 ·exact F
 ·exact d.2 x b
theorem Gk{n:Nat}{ys:List FC}(h:rE Tryz.prog (n+5) 26 ys):∃ p:jd,ys=p.row∧oM p:=by
 obtain⟨_,J,rfl,l,z⟩:=dH (pU (ts:=[5,22,23,24]) Tryz.underlying26 rfl h);obtain⟨a,rfl,g⟩:=mC (fE Tryz.underlying5 l);obtain⟨_,K,rfl,m,A⟩:=dH z;obtain⟨q,rfl,j⟩:=asV (fE Tryz.underlying22 m);obtain⟨_,M,rfl,s,B⟩:=dH A;obtain⟨lg,rows,rfl,_,y,d⟩:=yT Tryz.underlying23 s;obtain⟨L,rfl,v⟩:=Al (enc:=wG) (p:=jb 8) fun r b=>Bt (d r b);obtain⟨_,I,rfl,u,E⟩:=dH B;obtain⟨F,rows,rfl,_,H,d⟩:=yT Tryz.underlying24 u;obtain⟨O,rfl,x⟩:=Al (enc:=wG) (p:=jb 11) fun r b=>adV (d r b);obtain rfl:I=[]:=E;exact⟨⟨a,q,lg,L,F,O⟩,rfl,g.1,g.2,j.1,j.2,v,x,adx (by simpa using y),adx (by simpa using H)⟩
theorem ad5{a:V}(h:uj Tryz.prog 26 a):∃ p:jd,a=.a (p.row.map .f)∧oM p:=by
 rcases h with⟨xs,rfl,b,_⟩ | ⟨x,rfl,b⟩
 ·obtain⟨x,rfl,d⟩:=Gk (n:=35) b;exact⟨x,rfl,d⟩
 ·exfalso;obtain⟨x,e,_⟩:=Gk (n:=35) b;simp [jd.row]at e
theorem apy{a:V}(h:uj Tryz.prog 30 a):∃ o:List Int,a=.a ((wG o).map .f)∧jb 11 o:=by
 rcases h with⟨xs,rfl,b,_⟩ | ⟨x,rfl,b⟩
 ·obtain⟨x,rfl,d⟩:=adV (n:=37) b;exact⟨x,rfl,d⟩
 ·exfalso;obtain⟨x,e,d⟩:=adV (n:=37) b;have:=congrArg List.length e;simp [wG,d.1]at this
theorem Rr{x:av}(h0:1≤x.meet)(b:0≤x.room∧x.room≤2)(d:0≤x.dB∧x.dB≤2)(g:1≤x.size∧x.size≤12)(h:ea x.st=ae):gu 3 x=ae:=by
 simp [gu,bt,h];omega
theorem GF{x:av}(h:ka x):gu 3 x=ae:=by
 obtain⟨m,r,t,z,n,p,mi,le,rfl,b⟩:=h;obtain⟨k,g,d⟩:=b.i0;exact Rr b.m0 ⟨b.r0,b.r1⟩ ⟨b.t0,b.t1⟩ ⟨b.z0,b.z1⟩ (oW ⟨b.n0,b.n1,b.p0,b.p1⟩ (by omega) (by omega) (by have:=b.l0;omega) (by have:=b.l1;omega))
theorem alN(af b:Int)(d:0≤af)(a1:af≤39)(g:0≤b)(j:b≤10080):mw (b5 af b)=0:=by
 simp [mw,b5,tE,nz,gz,eL,bt,jw,mj,Af];omega
theorem ajL{x y:av}(h:gC x y):mW x y<0:=by
 unfold gC at h;rcases h with h | ⟨h,b⟩
 ·simp [mW,vL,dg,h]
 ·simp [mW,vL,dg,h,b]
theorem CS:∀ {L:List av} {b:Option av},L.Pairwise gC→(∀ s ∈ L,ka s)→(∀ m,b=aa m→∀ s ∈ L,gC m s)→fF 3 b L=ae
 | [],_,_,_,_=>rfl
 | s::r,b,u,j,q=>by
  have g:=avZ.1 u;unfold fF;rw [GF (j s atI),CS g.2 (fun x d=>j x (aul _ d)) fun m l x d=>by cases l;exact g.1 x d];cases b with
  | none=>rfl| some m=>simpa using ajL (q m rfl s atI)
theorem ape(af b:Int)(d:0≤af)(a1:af≤39)(q:0≤b)(u:b≤10080){L:List av}(v:L.length≤1000)(l:L.Pairwise gC)(g:∀ s ∈ L,ka s):oH (b5 af b) L=ae:=by
 unfold oH;rw [alN af b d a1 q u,show(b5 af b).length=3 from rfl,CS l g (fun m j=>by cases j)];simp;omega
def mL(s:aK)(x:aI):Bool:=decide (0≤x.day∧x.day≤2199023255552)&&(decide (x.day*1440+tJ s=x.fr)&&decide (x.day*1440+tJ s+s.len=x.to))&&iY s x.day
theorem QA(g:Tg)(x:aI):Kf tab 270 [.c (.f (sl g (aH []))),.a (x.row.map .f)] (vi (-1)):=by
 refine cr rfl rfl fun H Q d=>?_;have b:∀ J:aj,bu J (.f (sl g (aH [])))=aa 0:=fun J=>by cases g<;>rfl
 apply ai;simp [aI.row];apply an;apply ai;simp [b];refine bS 0 (fun _ _ J=>∃ K,J=H++K) (by omega) (by decide) (by decide) (by simp) (by simp) ⟨_,rfl⟩ (fun j t J l=>by omega) ?_;rintro t J ⟨K,rfl⟩ - -;apply ai;simp;refine aC (d _ _ ?_);simp
theorem contains_nil(g:Tg)(x:aI):bg tab 195 [.c (.f (sl g (aH []))),.a (x.row.map .f)]=Eq (vb ag):=Kf.eq (by
 refine cr rfl rfl fun H Q b=>?_;have hi:=(QA g x).eq;simp only [aI.row,avl,avs]at hi ⊢;apply ai;simp;apply ai;simp [hi];refine aC (b _ _ ?_);simp)
theorem aj_{s:aK}{n p mi:Int}(u:gY s n p mi)(x:aI):Kf tab 197 [.a [.f (sl .fs (aN [td n p])),.f (fi mi)],.c (.f (.fp x.row 0)),.c (.f (.fp s.row 0))] (vb (mL s x)):=by
 refine cr rfl rfl fun H Q B=>?_;have q:nm [td n p]=ae:=Av u.sm;have y:=(ze x.day 0 2199023255552).eq;have A:∀ K:aj,aR K ab (.c (.f (.fp x.row 0)))=aa (vi x.day):=fun K=>rfl;have F:∀ K:aj,aR K (aa 3) (.c (.f (.fp x.row 0)))=aa (.a [.f (fi x.day),.f (fi x.fr),.f (fi x.to)]):=fun K=>rfl;have E:∀ K:aj,aR K (aa 3) (.c (.f (.fp s.row 0)))=aa (.a [.f (sl s.cg (aM s.cs)),.f (fi s.len),.f (sl s.xg (aH s.xs))]):=fun K=>rfl;have Z:=u.m0;have m1:=u.m1;have l0:=u.l0;have Y:=u.l1;have g:=u.min;generalize x.row=xr at A F ⊢;generalize s.row=sr at E ⊢;apply ai;simp;apply ai;by_cases j:0≤x.day∧x.day≤2199023255552
 case neg=>
  have:bt x.day 0 2199023255552=ag:=by
   cases L:bt x.day 0 2199023255552 with
   | false=>rfl| true=>exact absurd (oh L) j
  rw [this]at y;simp [A,y];refine aC (B _ _ ?_);simp [mL,j]
 have M:bt x.day 0 2199023255552=ae:=by simp [bt,j.1,j.2]
 rw [M]at y;have b:=CB (sl s.cg (aM s.cs)) (sl s.xg (aH s.xs)) (sl .fs (aN [td n p])) s.len mi x.day (by unfold ky;omega) (by unfold ky;omega) (by unfold ky;omega);simp [cM,aI.row]at b;have m:=Gd .fs [td n p] q x.day (by unfold Day;omega);have z:B5 [td n p] x.day=iY s x.day:=by
  rw [u.has];have l:=sL (n:=n) (p:=p) j.1;have v:hasB (pd n p) x.day=pL n p x.day:=by
   unfold pL;by_cases k:x.day % n=p
   ·rw [decide_eq_true k,l.2 k]
   ·rw [decide_eq_false k];cases L:hasB (pd n p) x.day with
    | false=>rfl| true=>exact absurd (l.1 L) k
  rw [td]at q;simp [B5,q,tY,td,v]
 rw [z]at m;obtain⟨N,X⟩:=aJ (sl .fs (aN [td n p]));rw [←X]at b m ⊢;obtain⟨I,d⟩:=aJ (H++[.box [.f N,.f (fi mi)] 0]:aj);have O:I[H.length]?=aa (.box [.f N,.f (fi mi)] 0):=by rw [d];simp
 have J:aR I (aa 2) (.c (.ptr H.length 0 0))=aa (.a [.f N,.f (fi mi)]):=by simp [aR,aE,O,aV]
 have S:aR I (aa 1) (.c (.ptr H.length 0 0))=aa (.a [.f N]):=by simp [aR,aE,O,aV]
 rw [←d];by_cases l:x.day*1440+mi=x.fr
 ·by_cases v:x.day*1440+mi+s.len=x.to
  ·rw [v,l]at b;simp [A,F,E,y,S,J,b,m,-aw];refine aC (B _ _ ?_);simp [mL,j,g,l,←v,d]
  ·have W:(x.day*1440+mi+s.len == x.to)=ag:=by simpa using v
   simp [A,F,E,y,J,b,W,-aw];refine aC (B _ _ ?_);simp [mL,j,g,v,d]
 ·have U:(x.day*1440+mi == x.fr)=ag:=by simpa using l
  simp [A,F,E,y,J,b,U,-aw];refine aC (B _ _ ?_);simp [mL,j,g,l,d]
theorem zO{s:aK}{n p mi:Int}(l:gY s n p mi)(x:aI):bg tab 121 [.a (s.row.map .f),.a (x.row.map .f)]=Eq (vb (mL s x)):=bg.eq (by
 refine bI rfl rfl fun Q y=>?_;have d:=contains_nil s.xg x;rw [←l.xs]at d;have b:=(fh an8 (jF aoe (sz:=2) (ld:=aa 2) s.cs cJ.row (fun c=>.a (c.row.map .f)) (fun _=>mL s x) s.cg 197 [.fp x.row 0,.fp s.row 0] (by rw [l.cs];simp)
  (fun j z H=>bL (cK s.cs) (dI z)) (fun c v=>by
   rw [l.cs,avh]at v;rw [v];exact aj_ l x))).eq
 have g:(s.cs.any fun _=>mL s x)=mL s x:=by rw [l.cs];simp
 rw [g]at b;change bg tab 196 [.c (.f (sl s.cg (aM s.cs))),_]=_ at b;obtain⟨A,q⟩:=aJ (sl s.cg (aM s.cs));obtain⟨B,u⟩:=aJ (sl s.xg (aH s.xs));have m:s.row=[A,fi s.len,B]:=by rw [q,u];rfl
 rw [←q]at b;rw [←u]at d;rw [m]at b ⊢;simp only [aI.row]at b d ⊢;simp only [avl,avs]at d;apply ai;simp;apply ai;simp [d,deep,Ge,zZ,b];refine aC (y _ _ ?_);simp)
theorem FX{s:aK}{x:aI}(h0:0≤x.day)(d:x.day≤2199023255552)(b:x=cM s.len (tJ s) x.day)(h:iY s x.day=ae):mL s x=ae:=by
 have g:x.fr=x.day*1440+tJ s:=congrArg aI.fr b;have j:x.to=x.day*1440+tJ s+s.len:=congrArg aI.to b;simp [mL,h0,d,h,←g];omega
theorem BJ(af j i a b:Int)(m:0≤af)(a1:af≤39)(q:-1000000000000000000≤a∧a≤1000000000000000000)(s:-1000000000000000000≤b∧b≤1000000000000000000):bg tab 123 [.a ((bM af j i).row.map .f),.a [.f (fi a),.f (fi b)]]=Eq (.a [.f (fi a),.f (fi (b+af))]):=by
 have g:(bM af j i).jm=0:=by unfold bM;split<;>(try split)<;>rfl
 have d:(bM af j i).oP=af:=by unfold bM;split<;>(try split)<;>rfl
 refine bg.eq (bI rfl rfl fun Q l=>?_);generalize bM af j i=r at *;apply ai;simp [cC.row];apply ai;simp [g,d,aW (n:=a),aW (n:=b+af)];refine aC (l _ _ ?_);simp [iU,cD,bj]
theorem alO(a:Int)(h0:-4611686018427387904≤a)(b:a≤4611686018427387904):bg tab 126 [vi a]=Eq (vi (a / 10080)):=by
 refine bg.eq (bI rfl rfl fun Q d=>?_);have g:=m6 a 10080 (by omega) h0 b;apply ai;simp;apply ai;simp [g];apply ai;simp;refine aC (d _ _ ?_);simp
def F8:List (Nat × Nat × Nat):=(List.range 6).flatMap fun p=>(List.range 40).map (fun j=>(p,1180,261+j))++(List.range 20).map fun j=>(p,1160,281+j)
def amo(x:Nat × Nat × Nat):V:=.a [.f (fi (x.1*1440+x.2.1:Nat)),.f (fi (x.1*1440+x.2.1+x.2.2:Nat))]
theorem adr:F8.map (fun x=>RK 124 [mF,amo x] (.t [vb ag,vi 0]))=F8.map fun _=>((.t [vb ag,vi 0]:V)=.t [vb ag,vi 0]):=by kernel_rfl
theorem adq{p mi le:Nat}(h0:p<6)(b:∃ k:Nat,k<60∧mi=20*k)(d:1440<mi+le)(g:le≤300):(p,mi,le) ∈ F8:=by
 obtain⟨k,j,rfl⟩:=b;unfold F8;refine List.mem_flatMap.2 ⟨p,av4.2 h0,?_⟩;obtain rfl | rfl:k=59∨k=58:=by omega
 ·exact List.mem_append_left _ (avx.2 ⟨le-261,av4.2 (by omega),by simp;omega⟩)
 ·exact List.mem_append_right _ (avx.2 ⟨le-281,av4.2 (by omega),by simp;omega⟩)
theorem Bc{p mi le:Int}(h0:0≤p∧p<6)(d:∃ k:Nat,k<60∧mi=20*k)(l:1440<mi+le)(m:le≤300):bg tab 124 [mF,.a [.f (fi (p*1440+mi)),.f (fi (p*1440+mi+le))]]=Eq (.t [vb ag,vi 0]):=by
 obtain⟨k,g,j⟩:=d;have:=pW adr (adq (p:=p.toNat) (mi:=20*k) (le:=le.toNat) (by omega) ⟨k,g,rfl⟩ (by omega) (by omega));unfold amo at this;simp only at this;rw [show((p.toNat*1440+20*k:Nat):Int)=p*1440+mi by omega,show((p.toNat*1440+20*k+le.toNat:Nat):Int)=p*1440+mi+le by omega]at this;exact this
theorem aef(af b i:Int):∃ r:cC,r=bM af b i∧r.cap=10∧r.op=dM.map .f:=by
 refine⟨_,rfl,?_,?_⟩
 ·unfold bM;split<;>(try split)<;>rfl
 ·unfold bM;split<;>(try split)<;>rfl
def zi(b:Bool):bw:=.box [.f (.bool b)] 0
def Cz(b:List Int):bw:=.box (b.map fun n=>.f (fi n)) 0
theorem Fw(a b:FC)(x:av)(d:List FC)(h:d=[a,b]++x.row)(K:aj) :
  aR K ab (.c (.f (.fp d 0)))=aa (.c (.f a))∧aR K ab (.c (.f (.fp d 1)))=aa (.c (.f b))∧aR K ab (.c (.f (.fp d 2)))=aa (vi x.meet)∧aR K ab (.c (.f (.fp d 3)))=aa (vi x.room) ∧
   aR K ab (.c (.f (.fp d 5)))=aa (vi x.size)∧aR K (aa 3) (.c (.f (.fp d 6)))=aa (.a (x.st.row.map .f)):=by
 subst h;exact⟨rfl,rfl,rfl,rfl,rfl,rfl⟩
theorem Rk(af q:Int)(v:FC)(x:av)(h0:0≤x.room)(B:x.room≤2)(H:10<x.size) :
  bg tab 65 [.c (.f (cY (eO af q) v x)),jx [14,0,0,0,0,0,0,0]]=Eq (vb ae):=bg.eq (by
 refine bI rfl rfl fun Q E=>?_;have b:=mq af q v x h0 B;simp only [cY]at b ⊢;obtain⟨r,F,j,-⟩:=aef af q x.room;rw [←F]at b;have m:iX 0 ab (.a (r.row.map .f))=aa (vi 10):=by rw [←j];rfl
 generalize r.row.map C.f=A at b m;obtain⟨s,l⟩:=aJ ([eO af q,v]++x.row);have u:=Fw _ _ x s l;rw [←l]at b ⊢;obtain⟨g,d⟩:=aJ ([.box [.f (.fp s 0)] 0,Cz [14,0,0,0,0,0,0,0],zi ag]:aj);have k0:aR g ab (.c (.ptr 0 0 0))=aa (.c (.f (.fp s 0))):=by rw [d];rfl
 have z:aR g (aa 8) (.c (.ptr 1 0 0))=aa (jx [14,0,0,0,0,0,0,0]):=by rw [d];rfl
 have I:cX g (.ptr 2 0 0) [.f (.bool ae)]=aa (g.set 2 (zi ae)):=by rw [d];rfl
 have y:(g.set 2 (zi ae))[2]?=aa (zi ae):=by rw [d];rfl
 unfold Cz zi at d;simp only [jx,avl,avs]at z d ⊢;apply ai;simp;rw [←d];apply an;refine aF (ai ?_);simp [z,-aw];refine au (by simp) ?_;apply ai;simp [k0,(u _).2.2.2.2.1,b,m,H,I,-aw,-bh];refine aC (E _ _ ?_);unfold zi at y;simp [Km.results,cA,bj,zi,aR,aE,y])
theorem EH(af B:Int)(Z:FC)(x:av)(h0:0≤x.room)(t:x.room≤2){n p mi:Int}(A:gY x.st n p mi)(hk:∃ k:Nat,k<60∧mi=20*k)(hl:1440<mi+x.st.len)(J:x.st.len≤300) :
  bg tab 65 [.c (.f (cY (eO af B) Z x)),jx [16,0,p,p*1440+mi,p*1440+mi+x.st.len,0,0,0]]=Eq (vb ae):=bg.eq (by
 refine bI rfl rfl fun Q w=>?_;have d:=mq af B Z x h0 t;simp only [cY]at d ⊢;obtain⟨r,hr,-,M⟩:=aef af B x.room;rw [←hr]at d;obtain⟨p0,p1,Y,p3⟩:=A.sm;have q:=Bc (p:=p) (mi:=mi) (le:=x.st.len) ⟨Y,by omega⟩ hk hl J;have j:=zO A ⟨p,p*1440+mi,p*1440+mi+x.st.len⟩;rw [FX (s:=x.st) (x:=⟨p,p*1440+mi,p*1440+mi+x.st.len⟩) Y (by show p≤2199023255552;omega) (by rw [A.min];rfl) (by
  rw [A.has];unfold pL;rw [decide_eq_true_eq];exact Int.emod_eq_of_lt Y p3)]at j
 simp only [aI.row,avl,avs]at j;have y:∃ a b c rest,r.row.map C.f=a::b::c ::(r.op++rest):=⟨.f (fi r.cap),.f (fi r.jm),.f (fi r.oP),[.f (sl r.qg (fV r.q)),.f (sl r.pg (ints r.p))],rfl⟩
 obtain⟨h,i,o,rest,N⟩:=y;rw [N,M]at d;obtain⟨F,u⟩:=aJ ([eO af B,Z]++x.row);have X:=Fw _ _ x F u;rw [←u]at d ⊢;obtain⟨m,I⟩:=aJ (p*1440+mi);obtain⟨E,S⟩:=aJ (m+x.st.len);rw [←I,←S]at j q ⊢;have z:=fun K=>(X K).2.2.2.2.2;obtain⟨sr,O⟩:=aJ (x.st.row);rw [←O]at j z;obtain⟨l,g⟩:=aJ ([.box [.f (.fp F 0)] 0,Cz [16,0,p,m,E,0,0,0],zi ag]:aj);have k0:aR l ab (.c (.ptr 0 0 0))=aa (.c (.f (.fp F 0))):=by rw [g];rfl
 have U:aR l (aa 8) (.c (.ptr 1 0 0))=aa (jx [16,0,p,m,E,0,0,0]):=by rw [g];rfl
 have W:aR l ab (.c (.ptr 1 0 0))=aa (vi 16):=by rw [g];rfl
 have f:aR l (aa 3) (.c (.ptr 1 2 0))=aa (.a [.f (fi p),.f (fi m),.f (fi E)]):=by rw [g];rfl
 have k4:aR l (aa 2) (.c (.ptr 1 3 0))=aa (.a [.f (fi m),.f (fi E)]):=by rw [g];rfl
 have s2:cX l (.ptr 2 0 0) [.f (.bool ae)]=aa (l.set 2 (zi ae)):=by rw [g];rfl
 have e:(l.set 2 (zi ae))[2]?=aa (zi ae):=by rw [g];rfl
 unfold Cz zi at g;simp only [jx,avl,avs]at U g ⊢;apply ai;simp;rw [←g];apply an;refine aF (ai ?_);simp [U,-aw];refine aB (by simp) ?_;apply ai;simp [k0,f,z,j,-aw];refine aB (by simp) ?_;apply ai;simp [W,-aw];refine aB (by simp) ?_;apply ai;simp [U,W,f,-aw];refine aB (by simp) ?_;apply ai;simp [W,-aw];refine au (by simp) ?_;apply ai;have v:iX 3 (aa 10) (V.a (h::i::o ::(dM.map C.f++rest)))=aa mF:=rfl;generalize V.a (h::i::o ::(dM.map C.f++rest))=rv at d v;have H:cD deep l mF=aa mF:=by unfold mF;rfl
 have L:mkV deep l mF=l:=by unfold mF;rfl
 simp [k0,k4,d,v,H,L,q,-aw];apply ai;simp [s2,-bh];refine aC (w _ _ ?_);unfold zi at e;simp [Km.results,cA,bj,zi,aR,aE,e])
theorem ae5(af z:Int)(g:Tg)(ss:List av)(u:ss.length≤1000)(H:∀ s ∈ ss,ka s)(x:av)(n:Int)(A:-1≤n)(B:n≤100) :
  bg tab 127 [.c (.f (cY (eO af z) (sl g (al ss)) x)),vi n]=Eq (vi (ee (cw x.room x.dB ss) n)):=by
 obtain⟨T,l⟩:=aJ (cw x.room x.dB ss);have b:oB T:=by rw [l];exact uZ H _ _
 have E:T.length≤1000:=by
  rw [l];unfold cw;rw [avi];exact avv (av5 _ _) u
 have q:∀ s ∈ T,∃ v,bg tab 128 [.a (s.row.map .f),vi n]=Eq (.c (.f v))∧bg tab 202 [.c (.f v)]=Eq (vi (mh s n)):=fun s h=>by
  obtain⟨O,p,mi,d⟩:=b s h;obtain⟨g,F⟩:=nQ s d n A B;refine⟨_,F,?_⟩;have:=lB s n;have m:=vu g (gU s n) (by omega) fun y I=>by
   obtain⟨j,J,K,-,rfl⟩:=rb I;have M:=d.m0;have N:=d.m1;have l0:=d.l0;have L:=d.l1;rw [d.min];simp only [cM];omega
  rw [wA]at m;exact m
 have:=GM af z g ss u x n (fun s=>mh s n) (by rw [←l];exact q);rw [←l,zd T n b (by omega) (by omega) (by omega),Int.zero_add]at this;rw [←l];exact this
theorem EG(af W:Int)(q0:0≤W)(q1:W≤10080)(g:Tg)(ss:List av)(hl:ss.length≤1000)(hf:∀ s ∈ ss,ka s)(x:av)(hx:ka x)(hr:x.room=0)(ht:x.dB=1){q:Int}{B O2:List aI}{y:aI}
  (l_:0≤q) (e_:q≤100) (f:gU x.st q=B++y::O2) (d_:W<ee (cw 0 1 ss) q+eu (B++[y])) :
  bg tab 65 [.c (.f (cY (eO af W) (sl g (al ss)) x)),jx [14,0,y.day,y.fr,y.to,0,0,0]]=Eq (vb ae):=bg.eq (by
 refine bI rfl rfl fun Q hQ=>?_;obtain⟨n,p,mi,N⟩:=lS hx;have m0:=N.m0;have m1:=N.m1;have l0:=N.l0;have l1:=N.l1;have m:=BV af W (sl g (al ss)) x (dw hx).r0 (dw hx).r1;rw [amf,bf ⟨hr,ht⟩]at m;have d:=ae5 af W g ss hl hf x q (by omega) e_;rw [hr,ht]at d;obtain⟨gO,E⟩:=nQ x.st N q (by omega) e_;have i6:=lB x.st q;have r:(gU x.st q).Pairwise aI.lt:=by
  unfold gU;rw [aY (by omega)];exact ae_ _ _
 have j4:y ∈ gU x.st q:=by rw [f];simp
 have hb:=Er N q;obtain⟨j,j_,-,i_,S⟩:=rb j4;have f8:y.day=7*q+j:=by rw [S];rfl
 have m4:y.fr=(7*q+j)*1440+mi:=by rw [S,N.min];rfl
 have m9:y.to=(7*q+j)*1440+mi+x.st.len:=by rw [S,N.min];rfl
 have I:=alO y.fr (by omega) (by omega);rw [show y.fr / 10080=q by omega]at I;have u:=zO N y;rw [FX (s:=x.st) (x:=y) (by omega) (by omega) (by rw [f8];exact S) (by rw [f8];exact i_)]at u;simp only [aI.row,avl,avs]at u;have b9:=ua q (uZ hf 0 1);obtain⟨U,hU⟩:=aJ (ee (cw 0 1 ss) q);have j9:(cw 0 1 ss).length≤1000:=by
  unfold cw;rw [avi];exact avv (av5 _ _) hl
 rw [←hU]at d d_ b9;have j8:0≤U∧U≤2800000:=by omega
 clear b9;obtain⟨O,g_⟩:=aJ (gU x.st q);rw [←g_]at f E i6 r hb;have d9:∀ J:aj,bu J (.f (sl gO (aH O)))=aa O.length:=fun J=>by simp
 have k_:B.length<O.length:=by rw [f];simp
 simp only [cY]at m d ⊢;obtain⟨sd,i8⟩:=aJ (sl g (al ss));obtain⟨cd,c_⟩:=aJ ([eO af W,sd]++x.row);rw [←i8]at m d ⊢;have j6:=Fw _ _ x cd c_;rw [←c_]at m d ⊢;have w:=fun K=>(j6 K).2.2.2.2.2;obtain⟨sr,i9⟩:=aJ (x.st.row);rw [←i9]at u w E;obtain⟨A,l⟩:=aJ ([.box [.f (.fp cd 0)] 0,Cz [14,0,y.day,y.fr,y.to,0,0,0],zi ag]:aj);have b0:A[0]?=aa (.box [.f (.fp cd 0)] 0):=by rw [l];rfl
 have b1:A[1]?=aa (Cz [14,0,y.day,y.fr,y.to,0,0,0]):=by rw [l];rfl
 have b2:A[2]?=aa (zi ag):=by rw [l];rfl
 have k0:∀ K:aj,K[0]?=aa (.box [.f (.fp cd 0)] 0)→aR K ab (.c (.ptr 0 0 0))=aa (.c (.f (.fp cd 0))):=fun K h=>by simp [aR,aE,h]
 have k1:aR A (aa 8) (.c (.ptr 1 0 0))=aa (jx [14,0,y.day,y.fr,y.to,0,0,0]):=by rw [l];rfl
 have k2:aR A ab (.c (.ptr 1 0 0))=aa (vi 14):=by rw [l];rfl
 have k3:∀ K:aj,K[1]?=aa (Cz [14,0,y.day,y.fr,y.to,0,0,0])→aR K (aa 3) (.c (.ptr 1 2 0))=aa (.a [.f (fi y.day),.f (fi y.fr),.f (fi y.to)]):=fun K h=>by simp [aR,aE,h,Cz,aV]
 have k4:aR A ab (.c (.ptr 1 3 0))=aa (vi y.fr):=by rw [l];rfl
 have i5:(y.day == 0&&(y.fr == 0&&y.to == 0))=ag:=by
  by_cases h1:y.fr=0
  ·have:(y.to == 0)=ag:=by simp;omega
   simp [this]
  ·have:(y.fr == 0)=ag:=by simp;omega
   simp [this]
 unfold Cz zi at l;simp only [jx,avl,avs]at k1 l ⊢;apply ai;simp;rw [←l];apply an;refine aF (ai ?_);simp [k1,i5,-aw];refine aB (by simp) ?_;apply ai;simp [k0 A b0,k3 A b1,w,u,-aw];refine aB (by simp) ?_;apply ai;simp [k2,-aw];refine aB (by simp) ?_;apply ai;simp [k1,k2,k3 A b1,-aw];refine aB (by simp) ?_;apply ai;simp [k2,-aw];refine aB (by simp) (aP (aA ?_));apply ai;simp [k0 A b0,m,-aw];apply an;apply ai;simp [k2,-aw];refine bo (by simp) ?_;apply ai;simp [k4,I,-aw];apply ai;simp [k0 A b0,d,-aw];apply an;apply ai;simp [k0 A b0,w,E,d9,-aw];have f_:∀(t:T) (K:aj),t.g 4=.c (.ptr 2 0 0)→t.g 13=vi (U+eu (B++[y]))→t.g 10=vi W→K[2]?=aa (zi ag)→WP tab 65 ab [.code rS] ⟨t,[],K⟩ Q:=by
  intro t K g4 c L h2;have s2:cX K (.ptr 2 0 0) [.f (.bool ae)]=aa (K.set 2 (zi ae)):=by unfold zi at h2 ⊢;simp [cX,h2,over]
  have f2:(K.set 2 (zi ae))[2]?=aa (zi ae):=IN (ak h2);apply ai;simp [g4,c,L,d_,s2,-bh];refine aC (hQ _ _ ?_);unfold zi at f2;simp [Km.results,cA,bj,g4,zi,aR,aE,f2]
 refine bS O.length (fun i t K=>i≤B.length∧t.g 3=.c (.ptr 1 0 0)∧t.g 4=.c (.ptr 2 0 0)∧t.g 10=vi W∧t.g 166=.c (.f (sl gO (aH O)))∧t.g 13=vi (U+eu (O.take i))∧K[1]?=aa (Cz [14,0,y.day,y.fr,y.to,0,0,0])∧K[2]?=aa (zi ag)) (by omega) (by decide) (by decide) (by simp) (by simp)
  ⟨by omega,by simp,by simp,by simp,by simp,by simp [eu],b1,b2⟩ ?_ ?_
 ·rintro i t K hi ⟨i4,g3,g4,L,Y,c,c1,c2⟩ ha h_ next
  have Z:=fun H:aj=>bl (H:=H) (g:=gO) (rows:=aH O) (sz:=3) (k:=.i64) (i:=(i:Int)) (by omega) (by simp;omega);have a:=fun H:aj=>bL (H:=H) (bz O) (fk hi);simp only [avr]at Z;have f7:O.take (i+1)=O.take i++[O[i]]:=by rw [avK,By hi];rfl
  have i7:=ES (O:=O.take i) fun z hz=>hb z (List.mem_of_mem_take hz);rw [avA]at i7;have m_:=hb O[i] (anc hi);have j7:eu (O.take (i+1))=eu (O.take i)+(O[i].to-O[i].fr):=by rw [f7,CX];simp [eu]
  have o:(i=B.length∧O[i]=y∧O.take (i+1)=B++[y])∨(i<B.length∧O[i].lt y):=by
   by_cases e:i=B.length
   ·have hy:O[i]=y:=by
     have:O[i]?=aa y:=by rw [f,e,IS (aft _)];simp
     rw [By hi]at this;exact awN this
    refine .inl ⟨e,hy,?_⟩;rw [f7,hy,e,f,List.take_left]
   ·have v:i<B.length:=by omega
    refine .inr ⟨v,?_⟩;have e1:O[i] ∈ B:=by
     have:O[i]?=B[i]?:=by rw [f,AT v]
     rw [By hi,By v]at this;rw [awN this];exact anc v
    rw [f]at r;exact(av3.1 r).2.2 _ e1 y atI
  generalize O[i]=z at *;obtain⟨b,b_⟩:=aJ (K.length);obtain⟨X,M⟩:=aJ (K++[bw.box [.f (fi z.day),.f (fi z.fr),.f (fi z.to)] 0]);have d1:X[b]?=aa (.box [.f (fi z.day),.f (fi z.fr),.f (fi z.to)] 0):=by rw [M,b_];simp
  have z1:aR X ab (.c (.ptr b 1 0))=aa (vi z.fr):=by simp [aR,aE,d1]
  have z2:aR X ab (.c (.ptr b 2 0))=aa (vi z.to):=by simp [aR,aE,d1]
  have z3:aR X (aa 3) (.c (.ptr b 0 0))=aa (.a [.f (fi z.day),.f (fi z.fr),.f (fi z.to)]):=by simp [aR,aE,d1,aV]
  have a8:X[1]?=aa (Cz [14,0,y.day,y.fr,y.to,0,0,0]):=by rw [M,AT (ak c1)];exact c1
  have a_:X[2]?=aa (zi ag):=by rw [M,AT (ak c2)];exact c2
  simp only [aI.row,avl,avs]at a;refine aF ?_;apply ai;simp [Y,ha,Z,a,-aw];rw [←M,←b_];apply ai;simp [c,z1,z2,aW (n:=z.to-z.fr),aW (n:=U+eu (O.take i)+(z.to-z.fr)),-aw];have F:U+eu (O.take i)+(z.to-z.fr)=U+eu (O.take (i+1)):=by omega
  apply ai;simp [g3,z3,k3 X a8,-aw];rcases o with⟨e1,e2,e3⟩ | ⟨e1,e2⟩
  ·rw [e3]at F;subst e2;refine au (by simp) (bJ (k':=[.code rS]) (by simp [Km.exitTo]) ?_);exact f_ _ X (by simp [g4]) (by simp [F]) (by simp [L]) a_
  ·have j5:(z.day == y.day&&(z.fr == y.fr&&z.to == y.to))=ag:=by
    unfold aI.lt at e2;by_cases h1:z.fr=y.fr
    ·by_cases h2:z.day=y.day
     ·have:(z.to == y.to)=ag:=by simp;omega
      simp [this]
     ·have:(z.day == y.day)=ag:=by simp;omega
      simp [this]
    ·have:(z.fr == y.fr)=ag:=by simp;omega
     simp [this]
   refine aB (by simpa using j5) (aP (aA (next _ _ ⟨by omega,by simp [g3],by simp [g4],by simp [L],by simp [Y],by simp [F],a8,a_⟩ (by simp [ha]) (by simp [h_]))))
 ·rintro t K ⟨i4,-⟩ - -;omega)
theorem B8{af n p mi:Int}{s:av}(j:gY s.st n p mi){X:aI}(h:fM (fU af s .nil .nil) X):0≤X.day∧iY s.st X.day=ae∧X.fr=X.day*1440+tJ s.st∧X.to=X.fr+s.st.len+af:=by
 obtain⟨c,l,d,m,q,rfl⟩:=h;have b:(fU af s .nil .nil).cs=[jR 0 ⟨.fs,[td n p],mi⟩]:=by show s.st.cs.map (jR 0)=_;rw [j.cs];rfl
 rw [b,avh]at l;subst l;have g:d % n=p:=jl.1 q;refine⟨m,?_,?_,?_⟩
 ·show iY s.st d=ae;rw [j.has];unfold pL;rw [decide_eq_true_eq];exact g
 ·rw [j.min];show d*1440+(mi-0)=d*1440+mi;omega
 ·show d*1440+(mi-0)+(s.st.len+0+af)=d*1440+(mi-0)+s.st.len+af;omega
theorem CI(af z:Int)(a0:0≤af)(a1:af≤39)(g:Tg)(ss:List av)(hl:ss.length≤1000)(hf:∀ s ∈ ss,ka s)(x:av)(hx:ka x){F:av}(m_:F ∈ ss)(n9:Rv af z F.room x.room=ae)(b9:F.meet≠x.meet)
  {X Y:aI} (hX:fM (fU af x .nil .nil) X) (hY:fM (fU af F .nil .nil) Y) (s9:okB (-2251799813685248) X Y) :
  bg tab 65 [.c (.f (cY (eO af z) (sl g (al ss)) x)),jx (Da af F X Y ae)]=Eq (vb ae):=by
 obtain⟨n,p,mi,ho⟩:=lS hx;obtain⟨n',p',x8,O⟩:=lS (hf F m_);obtain⟨x0,x1,x2,x3⟩:=B8 ho hX;obtain⟨y0,y1,y2,y3⟩:=B8 O hY;obtain⟨k1,k2,k3⟩:=s9;unfold oD at k3;have hm:=ho.min;have v9:=O.min;have m0:=ho.m0;have m1:=ho.m1;have l0:=ho.l0;have l1:=ho.l1;have w_:=O.m0;have x6:=O.m1;have v_:=O.l0;have w9:=O.l1;have j7:Da af F X Y ae=[15,F.meet,X.day,X.fr,X.to-af,Y.day,Y.fr,Y.to-af]:=by
  unfold Da rB;simp only [if_true];rw [aW (n:=X.fr),aW (n:=X.to-af),aW (n:=Y.fr),aW (n:=Y.to-af)]
 rw [j7];have j9:mL x.st ⟨X.day,X.fr,X.to-af⟩=ae:=by
  simp [mL,x0,x1,←x2];omega
 have j_:mL F.st ⟨Y.day,Y.fr,Y.to-af⟩=ae:=by
  simp [mL,y0,y1,←y2];omega
 have e_:=BJ af z x.room X.fr (X.to-af) a0 a1 (by omega) (by omega);rw [show X.to-af+af=X.to by omega]at e_;have i7:=fun i=>BJ af z i Y.fr (Y.to-af) a0 a1 (by omega) (by omega);rw [show Y.to-af+af=Y.to by omega]at i7;have j5:X.fr<Y.to∧Y.fr<X.to:=by omega
 obtain⟨xe,n_⟩:=aJ (X.to-af);obtain⟨ye,o_⟩:=aJ (Y.to-af);rw [←n_]at j9 e_ ⊢;rw [←o_]at j_ i7 ⊢;clear n_ o_ j7;obtain⟨q,f8⟩:∃ q:av→Bool,∀ s,q s=(decide (s.meet=F.meet)&&mL s.st ⟨Y.day,Y.fr,ye⟩):=⟨_,fun _=>rfl⟩
 have q_:q F=ae:=by rw [f8,j_];simp
 have M:=zO ho ⟨X.day,X.fr,xe⟩;rw [j9]at M;have k_:∀ s ∈ ss,bg tab 121 [.a (s.st.row.map .f),.a [.f (fi Y.day),.f (fi Y.fr),.f (fi ye)]]=Eq (vb (mL s.st ⟨Y.day,Y.fr,ye⟩)):=fun s hs=>by
  obtain⟨n,p,mi,h⟩:=lS (hf s hs);exact zO h ⟨Y.day,Y.fr,ye⟩
 simp only [aI.row,avl,avs]at M;obtain⟨v,rfl,hp⟩:∃ v,v=vb ae∧bg tab 65 [.c (.f (cY (eO af z) (sl g (al ss)) x)),jx [15,F.meet,X.day,X.fr,xe,Y.day,Y.fr,ye]] v:=by
  refine sN (S:=fun v=>v=vb ae) an1 rfl fun Q hQ=>?_;have l:=mq af z (sl g (al ss)) x (dw hx).r0 (dw hx).r1;have b_:=we (eO af z) (sl g (al ss)) x.room;have a_:=fun(s:av) (h0:0≤s.room) (h1:s.room≤2) (H:aj)=>bl (H:=H) (g:=.fs) (rows:=rows (b5 af z)) (sz:=15) (k:=.i64) (i:=s.room) h0 (by simp [b5];omega);have l_:=fun(s:av) (h0:0≤s.room) (h1:s.room≤2) (H:aj)=>bL (H:=H) (fD (b5 af z)) (j:=s.room.toNat) (row:=(bM af z s.room).row) (by rw [rows,List.getElem?_map,lF af z h0 h1];rfl);change ∀(s:av),0≤s.room→s.room≤2→∀ H:aj,bH H 15 ab (.c (.f (eO af z))) (vi s.room)=_ at a_;change ∀(s:av),0≤s.room→s.room≤2→∀ H:aj,aR H (aa 15) (.c (.f (.fp (rows (b5 af z)).flatten _)))=_ at l_;simp only [cY]at l ⊢;obtain⟨sd,n8⟩:=aJ (sl g (al ss));obtain⟨cd,j6⟩:=aJ ([eO af z,sd]++x.row);rw [←n8]at l b_ ⊢;have E:=Fw _ _ x cd j6;rw [←j6]at l ⊢;have p_:=fun K=>(E K).2.2.2.2.2;obtain⟨sr,u_⟩:=aJ (x.st.row);rw [←u_]at M p_;have f_:=fun(s:av) (hs:s ∈ ss)=>Gu af z s.room x.room (dw (hf s hs)).r0 (dw (hf s hs)).r1 (dw hx).r0 (dw hx).r1;obtain⟨rm,s_⟩:=aJ (eO af z);rw [←s_]at E b_ f_ a_;obtain⟨rx,t9⟩:=aJ ((bM af z x.room).row);rw [←t9]at l e_;obtain⟨rf,m9⟩:=aJ ([15,F.meet,X.day,X.fr,xe,Y.day,Y.fr,ye]:List Int);have k0:∀ K:aj,K[0]?=aa (.box [.f (.fp cd 0)] 0)→aR K ab (.c (.ptr 0 0 0))=aa (.c (.f (.fp cd 0))):=fun K h=>by simp [aR,aE,h]
  have k1:∀ K:aj,K[1]?=aa (Cz rf)→aR K (aa 8) (.c (.ptr 1 0 0))=aa (jx rf)∧aR K ab (.c (.ptr 1 0 0))=aa (vi 15)∧aR K ab (.c (.ptr 1 1 0))=aa (vi F.meet)∧aR K (aa 3) (.c (.ptr 1 2 0))=aa (.a [.f (fi X.day),.f (fi X.fr),.f (fi xe)])∧aR K (aa 2) (.c (.ptr 1 3 0))=aa (.a [.f (fi X.fr),.f (fi xe)]) ∧
    aR K (aa 3) (.c (.ptr 1 5 0))=aa (.a [.f (fi Y.day),.f (fi Y.fr),.f (fi ye)])∧aR K (aa 2) (.c (.ptr 1 6 0))=aa (.a [.f (fi Y.fr),.f (fi ye)]):=fun K h=>by
   rw [m9]at h ⊢;refine⟨?_,?_,?_,?_,?_,?_,?_⟩<;>simp [aR,aE,h,Cz,jx,aV]
  obtain⟨I,W⟩:=aJ ([.box [.f (.fp cd 0)] 0,Cz rf,zi ag]:aj);have n0:I.length=3:=by rw [W];rfl
  have b0:I[0]?=aa (.box [.f (.fp cd 0)] 0):=by rw [W];rfl
  have b1:I[1]?=aa (Cz rf):=by rw [W];rfl
  have b2:I[2]?=aa (zi ag):=by rw [W];rfl
  obtain⟨e1,e2,e3,e4,e5,-,-⟩:=k1 I b1;have A:=W;rw [m9]at A e1;unfold Cz zi at A;simp only [jx,avl,avs]at e1 A ⊢;apply ai;simp;rw [←A];clear A;apply an;refine aF (ai ?_);simp [e1,-aw];refine aB (by simp) ?_;apply ai;simp [k0 I b0,e4,p_,M,-aw];refine aB (by simp) ?_;apply ai;simp [e2,-aw];refine au (by simp) ?_;refine an (ai ?_);simp [k0 I b0,(E _).1,(E _).2.1,(E _).2.2.2.1,b_,-aw];refine aF ?_
  suffices go:∀ u:T,u.g 2=.c (.ptr 0 0 0)→u.g 3=.c (.ptr 1 0 0)→u.g 4=.c (.ptr 2 0 0)→u.g 56=.c (.f (.fn 199 [.fp [sd] 0,.fp [rm] 0,.fp [fi x.room] 0])) →
    WP tab 65 ab [.code xE,.inBlock 1,.code xG,.inBlock 0,.code xH] ⟨u,[],I⟩ Q by
   exact go _ (by simp) (by simp) (by simp) (by simp)
  intro u g2 g3 g4 i9;obtain⟨LP,B⟩:∃ LP:ej→Option aG→bw,LP=fun st pd=>.lp 65 u [P.nat 57] jA jB st pd 3:=⟨_,rfl⟩
  obtain⟨HR,c_⟩:=aJ (I++[.eH ae,LP .ready ab]);have kR:∀ i:Nat,i<3→HR[i]?=I[i]?:=fun i hi=>by rw [c_,AT (by omega)]
  have q3:HR[3]?=aa (.eH ae):=by rw [c_,IS (by omega),n0];rfl
  have q4:HR[4]?=aa (LP .ready ab):=by rw [c_,IS (by omega),n0];rfl
  obtain⟨PP,Z⟩:∃ PP:List av→aj→Prop,PP=fun d J=>J[0]?=aa (.box [.f (.fp cd 0)] 0)∧J[1]?=aa (Cz rf)∧J[2]?=aa (zi ag)∧J[3]?=aa (.eH ae)∧J[4]?=aa (LP .ready ab)∧∀ s ∈ d,q s=ag:=⟨_,rfl⟩
  obtain⟨RR,j4⟩:∃ RR:List av→av→aj→Prop,RR=fun _ _ J=>J[2]?=aa (zi ae)∧J[3]?=aa (.eH ae)∧J[4]?=aa (LP .done (aa .ret)):=⟨_,rfl⟩
  obtain⟨H2,he,i6⟩:=tv (b:=4) (H:=HR) (PP:=PP) (RR:=RR) rm g ss hl x.room (fun s=>Rv af z s.room x.room) f_
   (by rw [Z];exact⟨(kR 0 (by omega)).trans b0,(kR 1 (by omega)).trans b1,(kR 2 (by omega)).trans b2,q3,q4,by simp⟩)
   (fun d J K h=>by
    rw [Z]at h ⊢;obtain⟨h0,h1,h2,h3,h4,h5⟩:=h;exact⟨by rw [AT (ak h0)];exact h0,by rw [AT (ak h1)];exact h1,by rw [AT (ak h2)];exact h2,by rw [AT (ak h3)];exact h3,by rw [AT (ak h4)];exact h4,h5⟩)
   (fun d s J h hs=>by
    rw [Z]at h;obtain⟨h0,h1,h2,h3,h4,h5⟩:=h;have l4:=ak h4;have a8:=f8 s;have f7:=k_ s hs;have s8:=a_ s (dw (hf s hs)).r0 (dw (hf s hs)).r1;have m4:=l_ s (dw (hf s hs)).r0 (dw (hf s hs)).r1;have j8:=i7 s.room;obtain⟨rs,t8⟩:=aJ ((bM af z s.room).row);rw [←t8]at m4 j8;refine⟨!q s,?_⟩;obtain⟨r,J',s7,rfl,hr⟩:∃ r J',Ev tab (.yield 4) [.a (s.row.map .f)] J r J'∧(r=vb (!q s)∧(if !q s then PP (d++[s]) J' else RR d s J')):=by
     have i4:=h4;rw [B]at i4;refine fj (tab:=tab) (b:=4) (args:=[.a (s.row.map .f)]) (H:=J) i4 rfl fun Q' i_=>?_;obtain⟨b,i5⟩:=aJ (J.length);have t_:s.row.length=7:=rfl;refine aq (.inr rfl) ?_;simp [t_];obtain⟨J1,d9⟩:=aJ (J++[bw.box (s.row.map .f) 0]);rw [←i5,←d9];have p1:∀ i:Nat,i<J.length→J1[i]?=J[i]?:=fun i hi=>by rw [d9,AT hi]
     have d1:J1[b]?=aa (.box (s.row.map .f) 0):=by rw [d9,i5];simp
     have n1:J1.length=b+1:=by rw [d9,i5];simp
     have e4:=(p1 4 l4).trans i4;refine ma e4 ?_;obtain⟨J2,N⟩:=aJ (J1.set 4 (LP .busy ab));have n2:J2.length=b+1:=by rw [N,List.length_set];exact n1
     have p2:∀ i:Nat,i<J.length→i≠4→J2[i]?=J[i]?:=fun i hi b9=>by rw [N,AI (Ne.symm b9),p1 i hi]
     have d2:J2[b]?=aa (.box (s.row.map .f) 0):=by rw [N,AI (by omega)];exact d1
     have f4:J2[4]?=aa (LP .busy ab):=by rw [N];exact IN (ak e4)
     rw [B]at N;rw [←N];have c0:=(p2 0 (ak h0) (by omega)).trans h0;have c1:=(p2 1 (ak h1) (by omega)).trans h1;have c2:=(p2 2 (ak h2) (by omega)).trans h2;have c3:=(p2 3 (ak h3) (by omega)).trans h3;obtain⟨-,-,-,-,w5,-,w7⟩:=k1 J2 c1;have v6:aR J2 ab (.c (.ptr b 1 0))=aa (vi s.room):=by simp [aR,aE,d2,av.row]
     obtain⟨m,U⟩:=aJ (J2++[bw.box [.f (fi X.fr),.f (fi X.to)] 0,bw.box [.f (fi Y.fr),.f (fi Y.to)] 0]);have p3:∀ i:Nat,i<J2.length→m[i]?=J2[i]?:=fun i hi=>by rw [U,AT hi]
     have n3:m.length=b+3:=by rw [U,List.length_append,n2];rfl
     have t6:m[b+1]?=aa (.box [.f (fi X.fr),.f (fi X.to)] 0):=by rw [U,IS (by omega),n2];simp
     have t7:m[b+2]?=aa (.box [.f (fi Y.fr),.f (fi Y.to)] 0):=by rw [U,IS (by omega),n2];simp
     refine aF ?_;refine an (aq (.inr rfl) ?_);simp [g2,g3,k0 J2 c0,(E _).1,l,w5,w7,e_,v6,s8,m4,j8,-aw];rw [n2,←U];have v0:=(p3 0 (ak c0)).trans c0;have v1:=(p3 1 (ak c1)).trans c1;have v2:=(p3 2 (ak c2)).trans c2;have v3:=(p3 3 (ak c3)).trans c3;have v4:=(p3 4 (ak f4)).trans f4;have v5:=(p3 b (ak d2)).trans d2;obtain⟨-,-,z3,-,-,z6,-⟩:=k1 m v1;have g_:aR m ab (.c (.ptr b 0 0))=aa (vi s.meet):=by simp [aR,aE,v5,av.row]
     have i8:aR m (aa 3) (.c (.ptr b 4 0))=aa (.a (s.st.row.map .f)):=by simp [aR,aE,v5,av.row,aK.row,aV]
     have a6:aR m ab (.c (.ptr (b+1) 0 0))=aa (vi X.fr)∧aR m ab (.c (.ptr (b+1) 1 0))=aa (vi X.to):=by refine⟨?_,?_⟩<;>simp [aR,aE,t6]
     have a7:aR m ab (.c (.ptr (b+1+1) 0 0))=aa (vi Y.fr)∧aR m ab (.c (.ptr (b+1+1) 1 0))=aa (vi Y.to):=by refine⟨?_,?_⟩<;>simp [aR,aE,t7]
     suffices h_:∀ w:T,w.g 4=.c (.ptr 2 0 0)→w.g 111=vb (q s)→WP tab 65 (aa 4) [.code xF,.inBlock 2] ⟨w,[],m⟩ Q' by
      refine an (aq (.inr rfl) ?_);by_cases m1:s.meet=F.meet
      ·have m2:s.meet≠x.meet:=by rw [m1];exact b9
       cases hb:mL s.st ⟨Y.day,Y.fr,ye⟩with
       | false=>
        rw [hb]at f7 a8;simp [g2,g3,k0 m v0,(E _).2.2.1,g_,i8,z3,z6,m1,b9,f7,-aw];exact h_ _ (by simp [g4]) (by simp [a8])
       | true=>
        rw [hb]at f7 a8;simp [g2,g3,k0 m v0,(E _).2.2.1,g_,i8,z3,z6,m1,b9,f7,a6.1,a6.2,a7.1,a7.2,j5.1,j5.2,-aw];exact h_ _ (by simp [g4]) (by simp [a8,m1])
      ·simp [g2,g3,g_,z3,m1,-aw];exact h_ _ (by simp [g4]) (by simp [a8,m1])
     clear g2 g3 g4 i9;intro w g4 L;cases hb:q s with
     | false=>
      rw [hb]at L;refine aB (by simp [L]) (aP (aA ?_));rw [B]at v4;refine cE (i_ _ _ _ _ _ _ _ _ _ _ rfl v4 ⟨by rw [hb];rfl,?_⟩);rw [hb];simp only [Bool.not_false,if_true];rw [Z];refine⟨?_,?_,?_,?_,?_,?_⟩
      ·show(m.set _ _)[0]?=_;rw [AI (by omega)];exact v0
      ·show(m.set _ _)[1]?=_;rw [AI (by omega)];exact v1
      ·show(m.set _ _)[2]?=_;rw [AI (by omega)];exact v2
      ·show(m.set _ _)[3]?=_;rw [AI (by omega)];exact v3
      ·rw [B];exact IN (ak v4)
      ·intro y hy;rcases avq.1 hy with hy | hy
       ·exact h5 y hy
       ·rw [avh.1 hy];exact hb
     | true=>
      rw [hb]at L;refine au (by simp [L]) ?_;obtain⟨J4,d_⟩:=aJ (m.set 2 (zi ae));have s2:cX m (.ptr 2 0 0) [.f (.bool ae)]=aa J4:=by rw [d_];unfold zi at v2 ⊢;simp [cX,v2,over]
      have u2:J4[2]?=aa (zi ae):=by rw [d_];exact IN (ak v2)
      have u3:J4[3]?=aa (.eH ae):=by rw [d_,AI (by omega)];exact v3
      have u4:J4[4]?=aa (LP .busy ab):=by rw [d_,AI (by omega)];exact v4
      rw [B]at u4;refine an (aq (.inr rfl) ?_);simp [g4,s2,-bh];refine aC (i_ _ _ _ _ _ _ _ _ _ _ rfl u4 ⟨by rw [hb];rfl,?_⟩);rw [hb];simp only [Bool.not_true,avk,if_false];rw [j4,B];refine⟨?_,?_,?_⟩
      ·show(J4.set _ _)[2]?=_;rw [AI (by omega)];exact u2
      ·show(J4.set _ _)[3]?=_;rw [AI (by omega)];exact u3
      ·exact IN (ak u4)
    exact⟨J',s7,hr⟩)
  rw [←n8]at he;have r_:Ev tab (.fn 199) [.c (.yl (I.length+1)),.c (.f (.fp [sd] 0)),.c (.f (.fp [rm] 0)),.c (.f (.fp [fi x.room] 0))] (I++[.eH ae,.lp 65 u [P.nat 57] jA jB .ready ab I.length]) (.t []) H2:=by
   have e:I++[.eH ae,.lp 65 u [P.nat 57] jA jB .ready ab I.length]=HR:=by rw [c_,B,n0]
   rw [e,n0];exact he
  refine iu (g:=199) (by rw [A9,i9];simp [bX]) r_ ?_;rw [n0];rcases i6 with h | ⟨d,s,rest,-,h⟩
  ·rw [Z]at h;have:=h.2.2.2.2.2 F (avW.2 ⟨m_,n9⟩);rw [q_]at this;cases this
  ·rw [j4]at h;obtain⟨h2,h3,h4⟩:=h;rw [B]at h4;refine mb h4 (by decide) ?_;obtain⟨H3,v8⟩:=aJ (H2.set 4 (.lp 65 u [P.nat 57] jA jB .exhausted (aa .ret) 3));refine aC (hQ _ _ _ rfl ⟨[3],rfl,⟨by simp,fun i hi=>?_⟩,vb ae,?_,by simp [iU,cD,bj]⟩)
   ·rw [avh.1 hi];show(H2.set 4 _)[3]?=_;rw [AI (by omega)];exact h3
   ·have:(mP [3] (H2.set 4 (bw.lp 65 u [P.nat 57] jA jB ej.exhausted (aa .ret) 3)))[2]?=aa (zi ae):=by
     rw [gS (by simp),AI (by omega)];exact h2
    unfold zi at this;simp [Km.results,cA,bj,g4,aR,aE,this]
 exact hp.eq
theorem apL(n:Int):Kf tab 88 [vi n] (vb (iM n)):=by
 refine cr rfl rfl fun H Q b=>?_;apply ai;simp;apply ai;by_cases h:0≤n
 ·simp [h];refine aC (b _ _ ?_);simp [iM,h]
 ·simp [h];refine aC (b _ _ ?_);simp [iM,h]
theorem Ai(n:Int):bg tab 88 [vi n]=Eq (vb (iM n)):=(apL n).eq
theorem Rh(h:dm)(hl:h.l.length≤30):bg tab 87 [.a (h.row.map .f)]=Eq (vb (cV h)):=bg.eq (by
 refine bI rfl rfl fun Q Z=>?_;have bad:cV h=ag→∀(t:T) (J:aj) k,WP tab 87 ab (.code (.seq (.region [⟨D 2,.aZ (.k (.c (.f (.bool ag)))),ab⟩] []) .ret)::k) ⟨t,[],J⟩ Q:=by
  intro hf t J k;apply ai;simp;refine aC (Z _ _ ?_);simp [hf]
 apply ai;simp [dm.row];apply an;apply ai;simp [Ai];cases m1:iM h.clock
 ·simp;exact au (by simp) (bad (by simp [cV,m1]) _ _ _)
 simp [Ai];cases m2:iM h.bO
 ·simp;exact au (by simp) (bad (by simp [cV,m2]) _ _ _)
 simp [show¬ (4096:Int)<h.l.length by omega];refine bo (by simp) ?_;apply an;apply ai;simp;refine gP h.l.length (fun j t H=>t.g 1=.c (.ptr 0 0 0)∧H[0]?=aa (.box [.f (fi h.clock),.f (fi h.bO),.f (sl h.lg (aQ h.l))] 0)∧∃ b,0≤b∧(j=0→b=0)∧(∀ m,j=m+1→∀ v:m<h.l.length,b=(h.l[m]'(v)).id)∧fQ h.clock 0 h.l=fQ h.clock b (h.l.drop j)) (by omega) rfl (by simp)
  ⟨by simp,rfl,0,by omega,by simp,by omega,by simp⟩ ?_ ?_ ?_
 ·rintro j t H L U ⟨g,h0,hL⟩ q hk;simp [q,g,h0];exact hk _ ⟨by simp [g],h0,hL⟩ (by simp [q]) (by simp)
 ·rintro j t H U ⟨g,h0,b,l0,lz,lp,I⟩ q next
  rw [tf U]at I;have E:=fun H:aj=>bL (H:=H) (bF h.l) (dj U);simp only [bC.row]at E;obtain⟨x,Y⟩:=aJ (h.l[j]);rw [←Y]at I E;have y:et h.clock b x=ag→cV h=ag:=fun e=>by simp [cV,I,e]
  refine aF ?_;apply ai;simp [q,g,h0,bl,U,E];obtain⟨u,l⟩:=aJ ([C.f (fi x.id),C.f (fi x.dl),C.f (fi x.state),C.f (fi x.aU.meet),C.f (fi x.aU.room),C.f (fi x.aU.dB),C.f (fi x.aU.size),C.f (sl x.aU.st.cg (aM x.aU.st.cs)),C.f (fi x.aU.st.len),C.f (sl x.aU.st.xg (aH x.aU.st.xs))]);rw [←l];obtain⟨O,B⟩:=aJ (H++[.box u 0]:aj);have F:O[0]?=aa (.box [.f (fi h.clock),.f (fi h.bO),.f (sl h.lg (aQ h.l))] 0):=by rw [B,AT (ak h0)];exact h0
  have s:O[H.length]?=aa (.box [.f (fi x.id),.f (fi x.dl),.f (fi x.state),.f (fi x.aU.meet),.f (fi x.aU.room),.f (fi x.aU.dB),.f (fi x.aU.size),.f (sl x.aU.st.cg (aM x.aU.st.cs)),.f (fi x.aU.st.len),.f (sl x.aU.st.xg (aH x.aU.st.xs))] 0):=by rw [B,l];simp
  rw [←B];have q0:u[0]?=aa (C.f (fi x.id)):=by rw [l];rfl
  have q1:u[1]?=aa (C.f (fi x.dl)):=by rw [l];rfl
  have q2:u[2]?=aa (C.f (fi x.state)):=by rw [l];rfl
  have go:∀(t:T),t.g 1=.c (.ptr 0 0 0)→t.g 3=vi j→t.g 4=.c (.ptr H.length 0 0)→b<x.id→1≤x.state→x.state≤4→iM x.dl=ae →
    WP tab 87 ab [.code xp,.inBlock 1,.code rL,.inLoop rK,.inBlock 0,.code rM] ⟨t,[],O⟩ Q:=by
   intro t g S X N z K A;have nx:et h.clock b x=ae→∀ t:T,t.g 1=.c (.ptr 0 0 0)→t.g 3=vi j→WP tab 87 ab [.inBlock 1,.code rL,.inLoop rK,.inBlock 0,.code rM] ⟨t,[],O⟩ Q:=by
    intro hb t g S;refine aA (next _ _ ⟨by simp [g],F,x.id,by omega,by omega,fun m v b9=>?_,?_⟩ (by simp [S]))
    ·have:m=j:=by omega
     subst this;rw [Y]
    ·rw [I,hb];simp [Y]
   apply ai;by_cases M:x.state=1
   ·by_cases W:x.dl<h.clock
    ·simp [g,X,s,F,M,W];refine au (by simp) ?_;exact bad (y (by simp [et,M,W])) _ _ _
    ·simp [g,X,s,F,M,W];refine bo (by simp) ?_;exact nx (by simp [et,M,W,A];omega) _ (by simp [g]) (by simp [S])
   ·simp [X,s,M];refine bo (by simp) ?_;exact nx (by simp [et,M,A];omega) _ (by simp [g]) (by simp [S])
  apply an;apply ai;by_cases k0:x.id<1
  ·simp [s,k0];refine au (by simp) ?_;exact bad (y (by simp [et,show¬ b<x.id by omega])) _ _ _
  cases j with
  | zero=>
   have a8:=lz rfl;by_cases z:x.state<1
   ·simp [s,k0,q,z];refine au (by simp) ?_;exact bad (y (by simp [et,show¬ 1≤x.state by omega])) _ _ _
   by_cases K:4<x.state
   ·simp [s,k0,q,z,K];refine au (by simp) ?_;exact bad (y (by simp [et,show¬ x.state≤4 by omega])) _ _ _
   simp [s,k0,q,z,K,Ai];cases A:iM x.dl
   ·refine au (by simp) ?_;exact bad (y (by simp [et,A])) _ _ _
   refine bo (by simp) ?_;exact go _ (by simp [g]) (by simp [q]) (by simp) (by omega) (by omega) (by omega) A
  | succ m=>
   have v:m<h.l.length:=by omega
   have a_:=lp m rfl v;have c1:((m+1:Nat):Int)-1=m:=by omega
   have d:=fun H:aj=>gq (H:=H) (k:=0) (bF h.l) (dj v) rfl;simp at d;by_cases N:x.id≤h.l[m].id
   ·simp [s,k0,q,g,F,aW (n:=(m:Int)),bl,v,d,N];refine au (by simp) ?_;exact bad (y (by simp [et,show¬ b<x.id by omega])) _ _ _
   by_cases z:x.state<1
   ·simp [s,k0,q,g,F,aW (n:=(m:Int)),bl,v,d,N,z];refine au (by simp) ?_;exact bad (y (by simp [et,show¬ 1≤x.state by omega])) _ _ _
   by_cases K:4<x.state
   ·simp [s,k0,q,g,F,aW (n:=(m:Int)),bl,v,d,N,z,K];refine au (by simp) ?_;exact bad (y (by simp [et,show¬ x.state≤4 by omega])) _ _ _
   simp [s,k0,q,g,F,aW (n:=(m:Int)),bl,v,d,N,z,K,Ai];cases A:iM x.dl
   ·refine au (by simp) ?_;exact bad (y (by simp [et,A])) _ _ _
   refine bo (by simp) ?_;exact go _ (by simp [g]) (by simp [q]) (by simp) (by omega) (by omega) (by omega) A
 ·rintro t H ⟨g,h0,b,l0,lz,lp,I⟩ q;apply ai;simp;refine aC (Z _ _ ?_);simp [cV,m1,m2,I,fQ])
theorem aed(a b:av):bg tab 116 [.a (a.row.map .f),.a (b.row.map .f)]=Eq (vb (mE a b)):=Kf.eq (by
 refine cr rfl rfl fun H Q j=>?_;apply ai;simp [av.row];apply ai;by_cases d:a.meet<b.meet
 ·simp [d];refine aC (j _ _ ?_);simp [mE,d]
 by_cases g:a.meet=b.meet
 ·simp [d,g];refine aC (j _ _ ?_);simp [mE,g]
 ·simp [d,g];refine aC (j _ _ ?_);simp [mE,d,g])
theorem Gn(g:Tg)(l:List av)(X:l.length≤1000)(s:av):bg tab 62 [.c (.f (sl g (al l))),.a (s.row.map .f)]=Eq (vb (l.any fun x=>bZ x s)):=Kf.eq (by
 refine cr rfl rfl fun H Q M=>?_;apply ai;simp [av.row];obtain⟨I,u⟩:=aJ (H++[.box [.f (fi s.meet),.f (fi s.room),.f (fi s.dB),.f (fi s.size),.f (sl s.st.cg (aM s.st.cs)),.f (fi s.st.len),.f (sl s.st.xg (aH s.st.xs))] 0]:aj);have K:I[H.length]?=aa (.box [.f (fi s.meet),.f (fi s.room),.f (fi s.dB),.f (fi s.size),.f (sl s.st.cg (aM s.st.cs)),.f (fi s.st.len),.f (sl s.st.xg (aH s.st.xs))] 0):=by rw [u];simp
 have z:∃ J,I=H++J:=⟨_,u⟩
 rw [←u];apply an;apply ai;simp;refine gP l.length (fun j t H'=>t.g 0=.c (.f (sl g (al l)))∧t.g 3=.c (.ptr H.length 0 0)∧H'=I∧∀(q:Nat) (y:q<l.length),q<j→bZ l[q] s=ag) (by omega) rfl (by simp) ⟨by simp,by simp,rfl,by simp⟩ ?_ ?_ ?_
 ·rintro j t _ L v ⟨g0,m,rfl,b⟩ d O;simp [d,g0];exact O _ ⟨by simp [g0],by simp [m],rfl,b⟩ (by simp [d]) (by simp)
 ·rintro j t _ v ⟨g0,m,rfl,b⟩ d next
  have E:=fun H:aj=>mc (H:=H) (aX l) (cQ v) rfl;have F:=fun H:aj=>gq (H:=H) (k:=1) (aX l) (cQ v) rfl
  try simp at E F
  have N:bZ l[j] s=ag→∀(q:Nat) (y:q<l.length),q<j+1→bZ l[q] s=ag:=fun S q y U=>by
   by_cases e:q=j
   ·subst e;exact S
   ·exact b q y (by omega)
  refine aF ?_;apply ai;by_cases A:l[j].meet=s.meet
  ·by_cases B:l[j].room=s.room
   ·simp [d,g0,m,K,bl,v,E,F,A,B];refine au (by simp) (ai ?_);simp;refine aC (M _ _ ?_);have:(l.any fun x=>bZ x s)=ae:=by
     rw [awd];exact⟨l[j],anc v,sF.2 ⟨A,B⟩⟩
    simp [this,z]
   ·simp [d,g0,m,K,bl,v,E,F,A,B];refine aB (by simp) (aP (aA (next _ _ ⟨by simp [g0],by simp [m],rfl,N ?_⟩ (by simp [d]))));simp [bZ,B]
  ·simp [d,g0,m,K,bl,v,E,F,A];refine aB (by simp) (aP (aA (next _ _ ⟨by simp [g0],by simp [m],rfl,N ?_⟩ (by simp [d]))));simp [bZ,A]
 ·rintro t _ ⟨g0,m,rfl,b⟩ d;apply ai;simp;refine aC (M _ _ ?_);have:(l.any fun x=>bZ x s)=ag:=by
   rw [awB];intro x W;obtain⟨q,y,rfl⟩:=avQ W;simp [b q y y]
  simp [this,z])
theorem F1{s:av}:∀ {l:List av} {i:Nat},i≤l.length→(∀ q (d:q<l.length),q<i→mE s l[q]=ag)→(∀ h:i<l.length,mE s l[i]=ae)→kY s l=l.take i++[s]++l.drop i
 | [],i,hi,_,_=>by
  have:i=0:=by simpa using hi
  subst this;rfl
 | x::r,0,_,_,h=>by
  have:=h (by simp);simp only [List.getElem_cons_zero]at this;simp [kY,this]
 | x::r,i+1,hi,h0,h=>by
  have b:=h0 0 (by simp) (by omega);simp only [List.getElem_cons_zero]at b;have m:=F1 (s:=s) (l:=r) (i:=i) (by simpa using hi) (fun q d j=>by have:=h0 (q+1) (by simpa using d) (by omega);simpa using this) (fun g=>by have:=h (by simpa using g);simpa using this);simp [kY,b,m]
theorem qP(s:av)(l:List av):(kY s l).length=l.length+1:=by simpa using (jG s l).length_eq
theorem mn(g:Tg)(l:List av)(hl:l.length≤1000)(s:av):∃ g',bg tab 60 [.c (.f (sl g (al l))),.a (s.row.map .f)]=Eq (.c (.f (sl g' (al (kY s l))))):=by
 obtain⟨r,⟨g',rfl⟩,hp⟩:∃ r,(∃ g',r=.c (.f (sl g' (al (kY s l)))))∧bg tab 60 [.c (.f (sl g (al l))),.a (s.row.map .f)] r:=by
  refine dY rfl rfl fun Q hQ=>?_;apply ai;simp [av.row];have b9:s.row.map C.f=[.f (fi s.meet),.f (fi s.room),.f (fi s.dB),.f (fi s.size),.f (sl s.st.cg (aM s.st.cs)),.f (fi s.st.len),.f (sl s.st.xg (aH s.st.xs))]:=rfl;rw [←b9];apply ai;simp;apply ai;simp;apply an;refine aF ?_;refine cI (fun m st=>∃(i:Nat) (t:T) (u:aj) (c:C),st=⟨t,[],u⟩∧m=l.length-i∧i≤l.length∧t.g 0=.c (.f (sl g (al l)))∧t.g 3=.c (.ptr 0 0 0)∧t.g 5=.c c∧t.g 6=vi i∧u[0]?=aa (.box (s.row.map .f) 0)∧LR u c 7 (al (l.take i))∧bG c≠aa 0∧(∀ q (hq:q<l.length),q<i→mE s l[q]=ag)) l.length
   ⟨0,_,_,.f .az,rfl,by omega,by omega,by simp,by simp,by simp,by simp,rfl,LR.nil _ _,by simp [bG],by simp⟩ ?_
  rintro m st ⟨i,t,u,c,rfl,rfl,hi,g0,B,L,A,z0,hL,hb,S⟩ ih;have y:aR u (aa 7) (.c (.ptr 0 0 0))=aa (.a (s.row.map .f)):=by simp [z0,aV,av.row]
  have K:(∀ h:i<l.length,mE s l[i]=ae)→∀ t:T,t.g 0=.c (.f (sl g (al l)))→t.g 3=.c (.ptr 0 0 0)→t.g 5=.c c→t.g 6=vi i→WP tab 60 ab [.code nI] ⟨t,[],u⟩ Q:=by
   intro a_ t g0 B L A;obtain⟨W,d⟩:=aJ (u++[.box (s.row.map .f) 0]:aj);have E:LR W c 7 (al (l.take i)):=by rw [d];exact hL.push _
   obtain⟨c4,Y,x,v,M,O⟩:=E.app (aX _) (by decide) (row:=s.row) rfl (bytes:=88) (rn (by simp;omega) (by decide)) (b1:=u.length) (fl1:=0) (by rw [d];simp);have Z:al (l.take i)++[s.row]=al (l.take i++[s]):=by simp [al]
   rw [Z]at v;obtain⟨g1,U⟩:=akQ (H:=Y) (g:=g) (k:=i) (aX l) (by simpa using hi) (by simp;omega);have e5:(al l).drop i=al (l.drop i):=by simp [al]
   rw [e5]at U;obtain⟨c5,H5,F,N,c_,d9⟩:=v.arP (aX _) (by decide) (aX (l.drop i)) (bytes:=88) (rn (by simp;omega) (by decide)) g1;have e6:al (l.take i++[s])++al (l.drop i)=al (kY s l):=by rw [F1 hi S a_];simp [al]
   rw [e6]at N;obtain⟨g',a8⟩:=N.ex (aX _) 63;apply ai;have b_:s.row.map C.f=[.f (fi s.meet),.f (fi s.room),.f (fi s.dB),.f (fi s.size),.f (sl s.st.cg (aM s.st.cs)),.f (fi s.st.len),.f (sl s.st.xg (aH s.st.xs))]:=rfl;have J:(s.row.map C.f).length=7:=rfl;simp [L,B,y,-aw,J];rw [←d];simp [x];apply ai;simp [g0,A,U,F];refine aC (hQ _ _ (.c (.f (sl g' (al (kY s l))))) ⟨g',rfl⟩ ?_);simp [iU,cD,deep,a8]
  apply an;apply ai;by_cases z:i<l.length
  case neg=>
   simp [g0,A,show¬ (i:Int)<(l.length:Int) by omega];refine aB (by simp) ?_;refine bJ (k':=[.code nI]) rfl ?_;exact K (fun h=>absurd h z) _ (by simp [g0]) (by simp [B]) (by simp [L]) (by simp [A])
  have j:=bl (H:=u) (g:=g) (rows:=al l) (sz:=7) (k:=.i64) (i:=(i:Int)) (by omega) (by simp;omega);have I:=bL (H:=u) (aX l) (cQ z);rw [avr]at j;have b:=aed s l[i];cases X:mE s l[i]
  case true=>
   rw [X]at b;simp [g0,B,A,z,y,j,I,b,-aw];refine aB (by simp) ?_;refine bJ (k':=[.code nI]) rfl ?_;exact K (fun _=>X) _ (by simp [g0]) (by simp [B]) (by simp [L]) (by simp [A])
  case false=>
   rw [X]at b;simp [g0,B,A,z,y,j,I,b,-aw];refine au (by simp) (aP ?_);obtain⟨W,d⟩:=aJ (u++[.box (l[i].row.map .f) 0]:aj);have E:LR W c 7 (al (l.take i)):=by rw [d];exact hL.push _
   have z3:W[0]?=aa (.box (s.row.map .f) 0):=by rw [d,AT (ak z0)];exact z0
   obtain⟨c4,Y,x,v,M,O⟩:=E.app (aX _) (by decide) (row:=l[i].row) rfl (bytes:=88) (rn (by simp;omega) (by decide)) (b1:=u.length) (fl1:=0) (by rw [d];simp);have Z:al (l.take i)++[l[i].row]=al (l.take (i+1)):=by
    rw [List.take_succ_eq_append_getElem z];simp only [al,List.map_append,avl,avs]
   rw [Z]at v;have J:(l[i].row.map C.f).length=7:=rfl;refine aF ?_;apply ai;simp [g0,L,A,j,I,J];rw [←d];simp [x];refine aq (.inl rfl) ?_;simp [A,aW (n:=(i:Int)+1)];refine aA (ih (l.length-(i+1)) _ (by omega) ⟨i+1,_,Y,c4,rfl,rfl,by omega,by simp [g0],by simp [B],by simp,by simp,M.2 0 _ z3 hb,v,?_,fun q hq d_=>?_⟩)
   ·rcases O with e | e
    ·rw [e];exact hb
    ·rw [e];have:=ak z3;simp;intro q;rw [q]at this;simp at this
   ·by_cases e:q=i
    ·subst e;exact X
    ·exact S q hq (by omega)
 exact⟨g',hp.eq⟩
def ij:List av→List bC→List av
 | acc,[]=>acc| acc,x::r=>if ig x&&!(acc.any fun y=>bZ y x.aU)then ij (kY x.aU acc) r else ij acc r
theorem acu{a a':List av}(h:a.Perm a')(p:av→Bool):a.any p=a'.any p:=by
 rw [awf,awd,awd];exact⟨fun⟨x,b,e⟩=>⟨x,h.mem_iff.1 b,e⟩,fun⟨x,b,e⟩=>⟨x,h.mem_iff.2 b,e⟩⟩
theorem rj:∀ {l:List bC} {acc u:List av},acc.Perm u→acc.Pairwise jf→(ij acc l).Perm (uniq [] u (bB l))∧(ij acc l).Pairwise jf
 | [],acc,u,h,b=>⟨h,b⟩
 | x::r,acc,u,h,b=>by
  simp only [ij,bB,List.filter_cons];by_cases g:ig x=ae
  ·simp only [g,if_true,avl,uniq,Bool.true_and,List.any_nil,Bool.false_or];rw [acu h];by_cases d:(u.any fun y=>bZ y x.aU)=ae
   ·simp only [d,if_true,Bool.not_true,avk,if_false];exact rj h b
   ·simp only [d,if_false,Bool.not_false,if_true,avk];exact rj ((jG _ _).trans (List.Perm.append_right _ h)) (tZ _ b)
  ·simp only [g,avk,if_false,Bool.false_and];exact rj h b
theorem sP:∀(l:List bC) (acc:List av),(ij acc l).length≤acc.length+l.length
 | [],acc=>by simp [ij]
 | x::r,acc=>by
  simp only [ij];split
  ·have:=sP r (kY x.aU acc);rw [qP]at this;simp;omega
  ·have:=sP r acc;simp;omega
theorem aee(h:dm)(hl:h.l.length≤30):∃ g,bg tab 61 [.a (h.row.map .f)]=Eq (.c (.f (sl g (al (if cV h then ij [] h.l else []))))):=by
 obtain⟨r,⟨g',rfl⟩,hp⟩:∃ r,(∃ g',r=.c (.f (sl g' (al (if cV h then ij [] h.l else [])))))∧bg tab 61 [.a (h.row.map .f)] r:=by
  refine dY rfl rfl fun Q hQ=>?_;have hv:=Rh h hl;simp [dm.row]at hv;apply ai;simp [dm.row];apply ai;simp;apply an;apply ai;simp [hv];cases Z:cV h
  case false=>
   refine au (by simp) (ai ?_);simp;refine aC (hQ _ _ (.c (.f (sl .nil (al [])))) ⟨.nil,by simp [Z]⟩ ?_);simp [al,sl,Tg.fc]
  refine bo (by simp) ?_;apply an;apply ai;simp;refine gP h.l.length (fun j t H=>t.g 1=.c (.ptr 0 0 0)∧H[0]?=aa (.box [.f (fi h.clock),.f (fi h.bO),.f (sl h.lg (aQ h.l))] 0)∧∃ g acc,t.g 3=.c (.f (sl g (al acc)))∧acc.length≤j∧ij acc (h.l.drop j)=ij [] h.l) (by omega) rfl (by simp)
   ⟨by simp,rfl,.nil,[],by simp [al,sl,Tg.fc],by simp,by simp⟩ ?_ ?_ ?_
  ·rintro j t H L U ⟨m,h0,hL⟩ v hk;simp [v,m,h0];exact hk _ ⟨by simp [m],h0,by simpa using hL⟩ (by simp [v]) (by simp)
  ·rintro j t H U ⟨m,h0,g,acc,l,J,s⟩ v next
   have B:=fun H:aj=>bL (H:=H) (bF h.l) (dj U);simp only [bC.row]at B;have hd:h.l.drop j=h.l[j]::h.l.drop (j+1):=auR U;rw [hd]at s;obtain⟨x,hx⟩:=aJ (h.l[j]);rw [←hx]at s B;refine aF ?_;apply ai;simp [v,m,h0,bl,U,B];obtain⟨I,u⟩:=aJ ([C.f (fi x.id),C.f (fi x.dl),C.f (fi x.state),C.f (fi x.aU.meet),C.f (fi x.aU.room),C.f (fi x.aU.dB),C.f (fi x.aU.size),C.f (sl x.aU.st.cg (aM x.aU.st.cs)),C.f (fi x.aU.st.len),C.f (sl x.aU.st.xg (aH x.aU.st.xs))]);rw [←u];obtain⟨E,A⟩:=aJ (H++[.box I 0]:aj);have n0:E[0]?=aa (.box [.f (fi h.clock),.f (fi h.bO),.f (sl h.lg (aQ h.l))] 0):=by rw [A,AT (ak h0)];exact h0
   have nr:E[H.length]?=aa (.box I 0):=by rw [A];simp
   rw [←A];have M:aR E ab (.c (.ptr H.length 2 0))=aa (vi x.state):=by simp [nr,u,aV]
   have F:aR E (aa 7) (.c (.ptr H.length 3 0))=aa (.a (x.aU.row.map .f)):=by simp [nr,u,aV,av.row]
   obtain⟨gi,K⟩:=mn g acc (by omega) x.aU;have d:=Gn g acc (by omega) x.aU;have Y:(ig x&&!(acc.any fun y=>bZ y x.aU))=ag→∀ q:T,q.g 1=.c (.ptr 0 0 0)→q.g 4=vi j→q.g 3=.c (.f (sl g (al acc)))→q.g 36=vb ag →
     WP tab 61 ab [.code rH,.inBlock 1,.code rI,.inLoop rG,.inBlock 0,.code rJ] ⟨q,[],E⟩ Q:=by
    intro X q m W l z;rw [ij,X]at s;simp at s;exact aB (by simp [z]) (aP (aA (next _ _ ⟨by simp [m],n0,g,acc,by simp [l],by omega,s⟩ (by simp [W]))))
   have S:(ig x&&!(acc.any fun y=>bZ y x.aU))=ae→∀ q:T,q.g 1=.c (.ptr 0 0 0)→q.g 4=vi j→q.g 3=.c (.f (sl g (al acc)))→q.g 5=.c (.ptr H.length 0 0)→q.g 36=vb ae →
     WP tab 61 ab [.code rH,.inBlock 1,.code rI,.inLoop rG,.inBlock 0,.code rJ] ⟨q,[],E⟩ Q:=by
    intro X q m W l g5 z;rw [ij,X]at s;simp at s;refine au (by simp [z]) ?_;refine aq (.inl rfl) ?_;simp [l,g5,F,K,-aw];exact aA (next _ _ ⟨by simp [m],n0,gi,kY x.aU acc,by simp,by rw [qP];omega,s⟩ (by simp [W]))
   apply an;refine aq (.inl rfl) ?_;by_cases N:x.state=1
   ·cases b:acc.any fun y=>bZ y x.aU
    ·rw [b]at d;simp [M,F,N,l,d,-aw];exact S (by simp [ig,N,b]) _ (by simp [m]) (by simp [v]) (by simp [l]) (by simp) (by simp)
    ·rw [b]at d;simp [M,F,N,l,d,-aw];exact Y (by simp [b]) _ (by simp [m]) (by simp [v]) (by simp [l]) (by simp)
   by_cases O:x.state=2
   ·cases b:acc.any fun y=>bZ y x.aU
    ·rw [b]at d;simp [M,F,O,l,d,-aw];exact S (by simp [ig,O,b]) _ (by simp [m]) (by simp [v]) (by simp [l]) (by simp) (by simp)
    ·rw [b]at d;simp [M,F,O,l,d,-aw];exact Y (by simp [b]) _ (by simp [m]) (by simp [v]) (by simp [l]) (by simp)
   ·simp [M,F,N,O,-aw];exact Y (by simp [ig,N,O]) _ (by simp [m]) (by simp [v]) (by simp [l]) (by simp)
  ·rintro t H ⟨m,h0,g,acc,l,J,s⟩ v;apply ai;simp [l];rw [List.drop_of_length_le (aft _),ij]at s;refine aC (hQ _ _ (.c (.f (sl g (al acc)))) ⟨g,by simp [Z,s]⟩ ?_);simp
 exact⟨g',hp.eq⟩
def dJ:List av→List av→List av
 | acc,[]=>acc| acc,s::r=>dJ (kY s acc) r
theorem vm(a:List av):∀(l acc:List av),dJ acc (l++a)=dJ (dJ acc l) a
 | [],_=>rfl| s::r,acc=>by simp only [awc,dJ];exact vm a r _
theorem sD:∀ {l acc:List av},acc.Pairwise jf→(dJ acc l).Perm (acc++l)∧(dJ acc l).Pairwise jf
 | [],acc,h=>⟨by simp [dJ],h⟩
 | s::r,acc,h=>by
  obtain⟨b,d⟩:=sD (l:=r) (tZ s h);refine⟨b.trans ?_,d⟩;have:acc++s::r=(acc++[s])++r:=by simp
  rw [this];exact List.Perm.append_right _ (jG s acc)
theorem vn(l acc:List av):(dJ acc l).length=acc.length+l.length:=by
 induction l generalizing acc with
 | nil=>simp [dJ]| cons s r b=>rw [dJ,b,qP];simp;omega
def nu(l0:List av)(s:av):Bool:=!(l0.any fun x=>bZ x s)
theorem iR(l0:List av):∀(L acc:List av),(uniq [] acc L).filter (nu l0)=uniq l0 (acc.filter (nu l0)) L
 | [],acc=>rfl
 | s::r,acc=>by
  simp only [uniq,List.any_nil,Bool.false_or];have key:nu l0 s=ae→((acc.filter (nu l0)).any fun x=>bZ x s)=(acc.any fun x=>bZ x s):=by
   intro b;rw [awf,awd,awd];constructor
   ·rintro⟨x,g,e⟩;exact⟨x,(avW.1 g).1,e⟩
   ·rintro⟨x,g,e⟩;refine⟨x,avW.2 ⟨g,?_⟩,e⟩;have j:=sF.1 e;have:nu l0 x=nu l0 s:=by
     unfold nu bZ;rw [j.1,j.2]
    rw [this];exact b
  by_cases b:nu l0 s=ae
  ·have d:(l0.any fun x=>bZ x s)=ag:=by simpa [nu]using b
   rw [d,Bool.false_or,key b];split
   ·exact iR l0 r acc
   ·rw [iR l0 r (acc++[s])];simp [b]
  ·have d:(l0.any fun x=>bZ x s)=ae:=by simpa [nu]using b
   rw [d,Bool.true_or];simp only [if_true];split
   ·exact iR l0 r acc
   ·rw [iR l0 r (acc++[s])];simp [b]
theorem akN{l0:List av}(h0:gw l0)(h:dm):dJ (dJ [] l0) ((ij [] h.l).filter (nu l0))=kM l0 h:=by
 obtain⟨d,s⟩:=rj (l:=h.l) (acc:=[]) (u:=[]) (.refl _) .nil;obtain⟨g,j⟩:=sD (l:=l0) (acc:=[]) .nil;obtain⟨m,q⟩:=sD (l:=(ij [] h.l).filter (nu l0)) j;refine yX (nO h0 h) (m.trans ?_) q;refine List.Perm.append (by simpa using g) ?_;have b:=d.filter (nu l0);rw [iR]at b;exact b
theorem C3(h:dm)(hl:h.l.length≤30)(hv:cV h=ae)(g0:Tg)(l0:List av)(h0:gw l0)(b_:l0.length≤30) :
  ∃ g,bg tab 28 [.a (h.row.map .f),.c (.f (sl g0 (al l0)))]=Eq (.c (.f (sl g (al (kM l0 h))))):=by
 obtain⟨r,⟨g,rfl⟩,hp⟩:∃ r,(∃ g:Tg,r=.c (.f (sl g (al (kM l0 h)))))∧bg tab 28 [.a (h.row.map .f),.c (.f (sl g0 (al l0)))] r:=by
  refine dY rfl rfl fun Q U=>?_;obtain⟨O,d⟩:=aee h hl;rw [hv]at d;simp only [if_true]at d;rw [←akN h0 h]at U;obtain⟨B,Z⟩:=aJ (ij [] h.l);rw [←Z]at d U;have a_:B.length≤30:=by
   rw [Z];have:=sP h.l [];simp at this;omega
  have b9:h.row.length=3:=rfl;have E:∀ J:aj,bu J (.f (sl g0 (al l0)))=aa l0.length:=fun J=>by simp
  have F:∀ J:aj,bu J (.f (sl O (al B)))=aa B.length:=fun J=>by simp
  have a8:(.f .az:C)=.f (sl .nil (al [])):=by simp [al,sl,Tg.fc]
  apply ai;simp;obtain⟨Y,K⟩:=aJ ([.box (h.row.map .f) 0]:aj);have a0:aR Y (aa 3) (.c (.ptr 0 0 0))=aa (.a (h.row.map .f)):=by rw [K];simp [aV,dm.row]
  rw [←K];apply ai;simp;apply an;apply ai;simp;refine gP l0.length (fun j t H=>t.g 1=.c (.f (sl g0 (al l0)))∧t.g 2=.c (.ptr 0 0 0)∧(∃ g:Tg,t.g 5=.c (.f (sl g (al (dJ [] (l0.take j))))))∧H=Y) (by omega) rfl (by simp) ⟨by simp,by simp,⟨.nil,by simp [dJ,al,sl,Tg.fc]⟩,rfl⟩ ?_ ?_ ?_
  ·rintro j t H L z ⟨m,I,q,rfl⟩ l W;simp [l,m,E];exact W _ ⟨by simp [m],by simp [I],by simpa using q,rfl⟩ (by simp [l]) (by simp)
  ·rintro j t H z ⟨m,I,⟨g,q⟩,rfl⟩ l next
   have b:=fun H:aj=>bl (H:=H) (g:=g0) (rows:=al l0) (sz:=7) (k:=.i64) (i:=(j:Int)) (by omega) (by simp;omega);have u:=fun H:aj=>bL (H:=H) (aX l0) (cQ z);simp only [avr]at b;obtain⟨g',s⟩:=mn g (dJ [] (l0.take j)) (by rw [vn];simp;omega) l0[j];have X:dJ [] (l0.take (j+1))=kY l0[j] (dJ [] (l0.take j)):=by
    rw [avK,By z,vm];rfl
   refine aF ?_;refine aq (.inl rfl) ?_;simp [l,m,q,b,u,s];exact aA (next _ _ ⟨by simp [m],by simp [I],⟨g',by rw [X];simp⟩,rfl⟩ (by simp [l]))
  ·rintro t H ⟨m,I,⟨g,q⟩,rfl⟩ l;rw [avH]at q;apply ai;simp [I,a0,d,-aw];apply an;apply ai;simp;refine gP B.length (fun j t H'=>t.g 1=.c (.f (sl g0 (al l0)))∧t.g 7=.c (.f (sl O (al B)))∧∃(g:Tg) (A:List av),t.g 5=.c (.f (sl g (al A)))∧A.length≤l0.length+j∧dJ (dJ [] l0) (B.filter (nu l0))=dJ A ((B.drop j).filter (nu l0))) (by omega) rfl (by simp) ⟨by simp [m],by simp,g,dJ [] l0,by simp [q],by rw [vn];simp,by simp⟩ ?_ ?_ ?_
   ·rintro j t H L z ⟨m,v,S⟩ l W;simp [l,v,F];exact W _ ⟨by simp [m],by simp [v],by simpa using S⟩ (by simp [l]) (by simp)
   ·rintro j t H z ⟨m,v,g,A,q,S,y⟩ l next
    have b:=fun H:aj=>bl (H:=H) (g:=O) (rows:=al B) (sz:=7) (k:=.i64) (i:=(j:Int)) (by omega) (by simp;omega);have u:=fun H:aj=>bL (H:=H) (aX B) (cQ z);simp only [avr]at b;obtain⟨g',s⟩:=mn g A (by omega) B[j];have M:=Gn g0 l0 (by omega) B[j];rw [auR z]at y;refine aF ?_;apply ai;cases N:(l0.any fun x=>bZ x B[j])with
    | false=>
     rw [N]at M;rw [List.filter_cons_of_pos (by simp [nu,N]),dJ]at y;simp [l,m,v,b,u,M];refine au (by simp) (aq (.inl rfl) ?_);simp [l,q,v,b,u,s];exact aA (next _ _ ⟨by simp [m],by simp [v],g',kY B[j] A,by simp,by rw [qP];omega,y⟩ (by simp [l]))
    | true=>
     rw [N]at M;rw [List.filter_cons_of_neg (by simp [nu,N])]at y;simp [l,m,v,b,u,M];exact aB (by simp) (aP (aA (next _ _ ⟨by simp [m],by simp [v],g,A,by simp [q],by omega,y⟩ (by simp [l]))))
   ·rintro t H ⟨m,v,g,A,q,S,y⟩ l;rw [List.drop_length]at y;simp only [List.filter_nil,dJ]at y;apply ai;simp [q];refine aC (U _ _ (.c (.f (sl g (al A)))) ⟨g,by rw [y]⟩ ?_);simp
 exact⟨g,hp.eq⟩
theorem aec(h:dm)(B:h.l.length≤30)(id:Int):bg tab 21 [.a (h.row.map .f),vi id]=Eq (vi (match qz id h.l with | none=>-1 | some i=>(i:Int))):=bg.eq (by
 refine bI rfl rfl fun Q z=>?_;apply ai;simp [dm.row];apply an;apply ai;simp;refine gP h.l.length (fun j t H=>t.g 1=vi id∧t.g 2=.c (.ptr 0 0 0)∧H[0]?=aa (.box [.f (fi h.clock),.f (fi h.bO),.f (sl h.lg (aQ h.l))] 0)∧∀ q (v:q<h.l.length),q<j→h.l[q].id≠id) (by omega) rfl (by simp)
  ⟨by simp,by simp,rfl,by simp⟩ ?_ ?_ ?_
 ·rintro j t H L x ⟨s,m,h0,b⟩ l u;simp [l,m,h0];exact u _ ⟨by simp [s],by simp [m],h0,b⟩ (by simp [l]) (by simp)
 ·rintro j t H x ⟨s,m,h0,b⟩ l next
  have y:aR H ab (.c (.ptr 0 2 0))=aa (.c (.f (sl h.lg (aQ h.l)))):=by simp [h0,aV]
  have d:=bl (H:=H) (g:=h.lg) (rows:=aQ h.l) (sz:=10) (k:=.i64) (i:=(j:Int)) (by omega) (by simp;omega);rw [avr]at d;have l0:=mc (H:=H) (bF h.l) (dj x) rfl;refine aF ?_;apply ai;by_cases u:h.l[j].id=id
  ·simp [l,s,m,y,d,l0,u,-aw];refine au (by simp) (ai ?_);simp [l];refine aC (z _ _ ?_);rw [zH x u b];simp
  ·simp [l,s,m,y,d,l0,u,-aw];refine aB (by simp) (aP (aA (next _ _ ⟨by simp [s],by simp [m],h0,fun q v A=>?_⟩ (by simp [l]))));by_cases e:q=j
   ·subst e;exact u
   ·exact b q v (by omega)
 ·rintro t H ⟨s,m,h0,b⟩ l;apply ai;simp;refine aC (z _ _ ?_);rw [sj fun q v=>b q v v];simp)
theorem aeS(h:dm)(q:sX h){i:Nat}(hi:i<h.l.length):bg tab 23 [.a (h.row.map .f),vi h.l[i].id]=Eq (vi h.l[i].state):=bg.eq (by
 refine bI rfl rfl fun Q u=>?_;have x:=q.len;have d:=aec h (by omega) h.l[i].id;rw [aj3 q hi]at d;simp only at d;have b:=fun H:aj=>bl (H:=H) (g:=h.lg) (rows:=aQ h.l) (sz:=10) (k:=.i64) (i:=(i:Int)) (by omega) (by simp;omega);simp only [avr]at b;have l:=fun H:aj=>gq (H:=H) (k:=2) (bF h.l) (dj hi) rfl;generalize h.l[i]=w at *;have j:h.row.length=3:=rfl;obtain⟨K,m⟩:=aJ ([.box (h.row.map .f) 0]:aj);obtain⟨a1,v,s⟩:=yx K 0 h (by rw [m];rfl);apply ai;simp [j];rw [←m];apply ai;simp [a1,d,-aw];apply an;apply ai;simp;refine bo (by simp) ?_;apply ai;simp [s,b,l,-aw];refine aC (u _ _ ?_);simp)
theorem ar_(K:aj)(b:Nat)(x:bC)(d:K[b]?=aa (.box (x.row.map .f) 0)):aR K (aa 10) (.c (.ptr b 0 0))=aa (.a (x.row.map .f)):=by
 simp [aR,aE,d,aV,bC.row]
theorem acG(af j:Int)(w:0≤af)(a1:af≤39)(q0:0≤j)(q1:j≤10080)(g:Tg)(ss:List av)(O:ss.length≤1000)(hs:ss.Pairwise gC)(N:∀ s ∈ ss,ka s)(x:av)(l:ka x)(i:gv ss x=ag){B:List Int}(h8:B.length=8)(hR:A' af j ss x B) :
  bg tab 30 [.c (.f (eO af j)),.c (.f (sl g (al ss))),.a (x.row.map .f),jx B]=Eq (vi 0):=bg.eq (by
 have d:bg tab 65 [.c (.f (cY (eO af j) (sl g (al ss)) x)),jx B]=Eq (vb ae):=by
  rcases hR with⟨u,rfl⟩ | ⟨n,p,mi,u,E,F,rfl⟩ | ⟨s,u,f,E,F,-,-,U,W,X,rfl⟩ | ⟨u,E,q,O1,y,O2,F,U,W,X,rfl⟩
  ·exact Rk af j _ x (dw l).r0 (dw l).r1 u
  ·refine EH af j _ x (dw l).r0 (dw l).r1 u E F ?_;obtain⟨m,r,t,z,n,p,mi,le,rfl,b⟩:=l;exact b.l1
  ·exact CI af j w a1 g ss O N x l u E F U W X
  ·exact EG af j q0 q1 g ss O N x l u E F U W X
 have A:=zB af j g ss O hs (fun s h=>va (N s h)) x (va l);have Z:e9 af j ss x=ae:=by
  unfold e9;rw [ape af j w a1 q0 q1 O hs N,GF l];rfl
 rw [Z,i]at A;simp only [if_true,Bool.not_false]at A;refine bI rfl rfl fun Q hQ=>?_;simp only [cY]at A d;obtain⟨cd,Y⟩:=aJ ([eO af j,sl g (al ss)]++x.row);rw [←Y]at A d;obtain⟨sd,e⟩:=aJ (sl g (al ss));obtain⟨rm,a⟩:=aJ (eO af j);rw [←e,←a]at A ⊢;obtain⟨k,L⟩:=aJ (x.row);have J:k.length=7:=by rw [L];rfl
 rw [←L]at A ⊢;obtain⟨S,I⟩:=aJ (B.map fi);have H:S.length=8:=by rw [I,avi];exact h8
 have c:jx B=.a (S.map .f):=by rw [I,jx,List.map_map];rfl
 rw [c]at d ⊢;have M:∀(K:aj) (b m:Nat) (r:List FC),K[b]?=aa (.box (r.map .f) 0)→r.length=m→aR K (aa m) (.c (.ptr b 0 0))=aa (.a (r.map .f)):=fun K b m r hK hm=>by
  simp [aR,aE,hK,aV,hm,avj]
 obtain⟨o,v⟩:=aJ ([.box (k.map .f) 0,.box (S.map .f) 0]:aj);have l0:=M o 0 7 k (by rw [v];rfl) J;have l1:=M o 1 8 S (by rw [v];rfl) H;apply ai;simp [J,H];rw [←v];apply ai;simp [l0,A,-aw];apply an;apply ai;simp;refine bo (by simp) ?_;apply an;apply ai;simp [l1,d,-aw];refine bo (by simp) ?_;apply ai;simp;refine aC (hQ _ _ ?_);simp)
theorem aep(s t:av)(h:bZ s t=ag):bg tab 29 [.a (s.row.map .f),.a (t.row.map .f)]=Eq (vb ag):=Kf.eq (by
 have g:¬ (s.meet=t.meet∧s.room=t.room):=by simpa [bZ]using h
 refine cr rfl rfl fun H Q d=>?_;apply ai;simp [av.row];apply ai;by_cases b:s.meet=t.meet
 ·have j:¬ s.room=t.room:=fun e=>g ⟨b,e⟩;simp [b,j];refine aC (d _ _ ?_);simp
 ·simp [b];refine aC (d _ _ ?_);simp)
theorem adB(h:dm)(s:sX h):∃(g:Tg) (A:List av),A.Perm (uniq [] [] (bB h.l))∧A.length≤9∧bg tab 24 [.a (h.row.map .f)]=Eq (.c (.f (sl g (al A)))):=by
 have N:=s.len;obtain⟨r,⟨g,A,E,F,rfl⟩,S⟩:∃ r,(∃(g:Tg) (A:List av),A.Perm (uniq [] [] (bB h.l))∧A.length≤9∧r=.c (.f (sl g (al A))))∧bg tab 24 [.a (h.row.map .f)] r:=by
  refine dY rfl rfl fun Q J=>?_;have z:=nT h (by omega);rw [s.v]at z;obtain⟨K,u⟩:=aJ ([.box (h.row.map .f) 0]:aj);obtain⟨a1,-,-⟩:=yx K 0 h (by rw [u];rfl);have q:h.row.length=3:=rfl;obtain⟨r,W,m,c,rfl,L,I,O⟩:=xU h (by omega) (fun x U=>tT (s.f x U).2) .nil [] (by simp) K;have m:=m.eq;have y:=nG (l0:=[]) (l:=bB h.l) (acc:=[]);have M:=vq h;obtain⟨r,B,b,rfl,-,A,H,j,-⟩:=GB I (by simp at y;omega);have b:=b.eq;obtain⟨g,v⟩:=H.ex (aX A) 63;change ey deep B c=_ at v;have d:(sl .nil (al []):FC)=.az:=rfl;rw [d]at m;apply ai;simp [q];rw [←u];apply an;apply ai;simp [a1,z,-aw];refine bo (by simp) ?_;apply ai;simp [a1,m,-aw];apply ai;simp [b];apply ai;simp;refine aC (J _ _ (.c (.f (sl g (al A)))) ⟨g,A,j,?_,rfl⟩ ?_)
  ·rw [j.length_eq];simp at y;omega
  ·simp [v]
 exact⟨g,A,E,F,S.eq⟩
theorem Cu(p:jd)(hp:oM p)(o:List Int)(ho:jb 11 o):bg tab 9 [.a (p.row.map .f),.a ((wG o).map .f)]=Eq (vb ae):=bg.eq (by
 refine bI rfl rfl fun Q hQ=>?_;have a0:0≤p.af % 40:=avO _ (by omega);have a1:p.af % 40≤39:=by have:=avG p.af (show 0<40 by omega);omega
 have q0:0≤p.qu % 3000:=avO _ (by omega);have q1:p.qu % 3000≤10080:=by have:=avG p.qu (show 0<3000 by omega);omega
 have E:=Cm p hp;obtain⟨h,hk,hc,hN,hP⟩:=Q6 p hp lM akD fun h h' k _ hn hR=>vF a0 E hn hR;obtain⟨gp,f_⟩:=Cl p hp;have i6:=auu;have z9:=hk.len;have y_:=hk.c0;have y6:=E.len;have y8:=Fo (l0:=p.l0) h;obtain⟨k,i,t,c,v6,j7,-,hi,ht⟩:=adz ho;have b_:=CA k i t h.clock c j7 hi ht (by omega) (by omega);rw [←v6]at b_;obtain⟨x,M⟩:=aJ (FZ i t h.clock c);rw [←M]at b_;obtain⟨s7,x_,s9⟩:=se j7;have Z:ka x.aU:=by rw [M];exact s7
 obtain⟨rf,x9,n,l,cc,h8,hG,Y,j5⟩:=yq h hk (p.af % 40) (p.qu % 3000) a0 a1 gp p.l0 E x Z;have d_:∀ s ∈ kM p.l0 h,ka s:=fun s hs=>by
  rcases Fp hs with hs | ⟨y,hy,rfl⟩
  ·exact(E.f s hs).1
  ·exact(hk.f y hy).2
 obtain⟨ga,hT⟩:=C3 h (by omega) hk.v gp p.l0 E.ap (by omega);obtain⟨sd,o_⟩:=aJ (sl gp (al p.l0));obtain⟨sa,n_⟩:=aJ (sl ga (al (kM p.l0 h)));have X:l.length=8:=by
  rcases hG with⟨-,-,e,-⟩ | ⟨-,-,-,e,-⟩ | ⟨-,-,-,e,-⟩
  ·rw [e];rfl
  ·rw [e];rfl
  ·rw [e];exact h8
 have F:cc=0→l.headD 0≠0→l=rf∧(∃ g,n = { h with lg:=g })∧bg tab 30 [.c (.f (eO (p.af % 40) (p.qu % 3000))),.c (.f sa),.a (x.aU.row.map .f),jx l]=Eq (vi 0):=fun v d=>by
  rcases hG with⟨B,-,-,N⟩ | ⟨-,B,-,-,N⟩ | ⟨B,N,-,e4,g,⟨e3,e5⟩ | ⟨e3,j,hj,U,e_,e5⟩⟩
  ·omega
  ·omega
  ·rw [e4]at d ⊢;obtain⟨t1,-,t3⟩:=Y N;rw [n_];exact⟨rfl,⟨g,e5⟩,acG _ _ a0 a1 q0 q1 ga (kM p.l0 h) (by omega) (aeL (nO E.ap h)) d_ x.aU Z t1 h8 (t3 d)⟩
  ·rw [e4]at d;exact absurd (by match rf,h8 with | p0::_,_=>simpa using e3) d
 have j6:cc=0→l.headD 0=0→sX n∧lM n∧x.aU ∈ bB n.l∧∃(j:Nat) (hj:j<n.l.length),n.l[j].id=x.id∧n.l[j].state=1:=fun v d=>by
  rcases hG with⟨B,-,-,N⟩ | ⟨-,B,-,-,N⟩ | ⟨B,N,-,e4,g,⟨e3,e5⟩ | ⟨e3,j,hj,U,e_,e5⟩⟩
  ·omega
  ·omega
  ·rw [e4]at d;exact absurd (by match rf,h8,d with | p0::_,_,d=>simpa using d) e3
  ·have j8:1≤x.id∧x.id≤8:=by rw [M];show 1≤1+i % 8∧1+i % 8≤8;omega
   have L:x.state=1:=by rw [M];rfl
   have z8:x.dl=h.clock+t % 50-2:=by rw [M];rfl
   have m4:Ru h.clock x:=by
    unfold dt at B;split at B
    ·omega
    ·split at B
     ·omega
     ·split at B
      ·omega
      ·rename_i hn;unfold Ru;omega
   obtain⟨t1,t2,-⟩:=Y N;rw [e4]at d;have hR:zo (p.af % 40) (p.qu % 3000) p.l0 h n 3:=.inr (.inr (.inr (.inr ⟨by omega,x,j,g,m4,L,j8,Z,by rw [M];exact s9,hj,U,e_,e5,t1,t2 d⟩)));have b9:=vF a0 E hN hR;have c_:x ∈ n.l:=by rw [e5];simp
   refine⟨by rw [e5];exact adk hk m4 (by omega) ⟨.inl j8,Z⟩ U e_ g,b9,avx.2 ⟨x,avW.2 ⟨c_,by simp [ig,L]⟩,rfl⟩,?_⟩;obtain⟨q,hq,he⟩:=avQ c_;exact⟨q,hq,by rw [he],by rw [he];exact L⟩
 have i5:cc=0→l.headD 0≠0→bg tab 12 [.a (n.row.map .f),.a (h.row.map .f)]=Eq (vb ae):=fun v d=>by
  obtain⟨-,⟨g,e⟩,-⟩:=F v d;rw [e];exact EF { h with lg:=g } h (by show h.l.length≤_;omega) (fun s hs=>(hk.f s hs).2) rfl rfl rfl
 have i8:cc≠0→n=gX∧l=jk:=fun v=>by
  rcases hG with⟨-,B,N,-⟩ | ⟨-,-,B,N,-⟩ | ⟨-,-,B,-⟩
  ·exact⟨B,N⟩
  ·exact⟨B,N⟩
  ·exact absurd B v
 clear hG Y;obtain⟨rm,m_⟩:=aJ (eO (p.af % 40) (p.qu % 3000));have W:p.row.length=4:=rfl;have f8:(wG o).length=11:=by simp [wG,ho.1]
 obtain⟨row,n8⟩:=aJ (p.row);obtain⟨ow,v8⟩:=aJ (wG o);rw [←n8]at hP W f_ ⊢;rw [←v8]at b_ f8 ⊢;rw [←m_,←o_]at f_ j5;rw [←m_]at F;rw [←o_,←n_]at hT;have s_:h.row.length=3:=rfl;have u_:n.row.length=3:=rfl;have w9:x.row.length=10:=rfl;have i9:∀(K:aj) (b m:Nat) (r:List FC),K[b]?=aa (.box (r.map .f) 0)→r.length=m→aR K (aa m) (.c (.ptr b 0 0))=aa (.a (r.map .f)):=fun K b m r hK hm=>by
  simp [aR,aE,hK,aV,hm,avj]
 obtain⟨K2,a8⟩:=aJ ([.box (row.map .f) 0,.box (ow.map .f) 0]:aj);obtain⟨K4,O⟩:=aJ ([.box (row.map .f) 0,.box (ow.map .f) 0,.box (h.row.map .f) 0,.box [.f rm,.f sd] 0]:aj);obtain⟨K5,z⟩:=aJ ([.box (row.map .f) 0,.box (ow.map .f) 0,.box (h.row.map .f) 0,.box [.f rm,.f sd] 0,.box (x.row.map .f) 0]:aj);have n2:K2.length=2:=by rw [a8];rfl
 have n4:K4.length=4:=by rw [O];rfl
 have n5:K5.length=5:=by rw [z];rfl
 have e4:K2++[.box (h.row.map .f) 0,.box [.f rm,.f sd] 0]=K4:=by rw [a8,O];rfl
 have e5:K4++[.box (x.row.map .f) 0]=K5:=by rw [O,z];rfl
 apply ai;simp [W,f8];rw [←a8];apply ai;simp [i6];apply ai;simp [i9 K2 0 4 row (by rw [a8];rfl) W,hP,f_,s_,n2,-aw];rw [e4];obtain⟨b1,b2,-⟩:=yx K4 2 h (by rw [O];rfl);apply ai;simp [i9 K4 1 11 ow (by rw [O];rfl) f8,b2,b_,w9,n4,-aw];rw [e5];obtain⟨c1,c2,-⟩:=yx K5 2 h (by rw [z];rfl);have r5:aR K5 ab (.c (.ptr 3 0 0))=aa (.c (.f rm)):=by rw [z];rfl
 have s5:aR K5 ab (.c (.ptr 3 1 0))=aa (.c (.f sd)):=by rw [z];rfl
 have x5:=ar_ K5 4 x (by rw [z];rfl);obtain⟨KD,a_⟩:=aJ (K5++[.box (n.row.map .f) 0,.box (l.map fun n=>.f (fi n)) 0]:aj);apply ai;simp [c1,r5,s5,x5,j5,u_,Re,X,n5,-aw];rw [←a_];have bD:∀ i:Nat,i<5→KD[i]?=K5[i]?:=fun i hi=>by rw [a_,AT (by omega)]
 have dn:KD[5]?=aa (.box (n.row.map .f) 0):=by rw [a_,←n5];simp
 have dr:KD[6]?=aa (.box (l.map fun n=>.f (fi n)) 0):=by rw [a_,IS (by omega),n5];rfl
 obtain⟨rr,h_⟩:=aJ (l.map fi);have n9:jx l=.a (rr.map .f):=by rw [h_,jx,List.map_map];rfl
 have v9:rr.length=8:=by rw [h_,avi];exact X
 have d9:aR KD (aa 8) (.c (.ptr 6 0 0))=aa (.a (rr.map .f)):=i9 KD 6 8 rr (by rw [dr,h_,List.map_map];rfl) v9;rw [n9]at F;have x8:aR KD ab (.c (.ptr 6 0 0))=aa (vi (l.headD 0)):=by
  obtain⟨p0,r0,m9⟩:∃ p0 r0,l=p0::r0:=by
   match l,X with
   | p0::r0,_=>exact⟨_,_,rfl⟩
  rw [m9]at dr ⊢;simp [aR,aE,dr]
 obtain⟨d1,d2,d3⟩:=yx KD 5 n dn;obtain⟨f1,-,-⟩:=yx KD 2 h (by rw [bD 2 (by omega),z];rfl);have r6:aR KD ab (.c (.ptr 3 0 0))=aa (.c (.f rm)):=by simp [aR,aE,bD 3 (by omega),z]
 have s6:aR KD ab (.c (.ptr 3 1 0))=aa (.c (.f sd)):=by simp [aR,aE,bD 3 (by omega),z]
 have dx:KD[4]?=aa (.box (x.row.map .f) 0):=by rw [bD 4 (by omega),z];rfl
 have xs:∀ K:aj,K[4]?=aa (.box (x.row.map .f) 0)→aR K (aa 7) (.c (.ptr 4 3 0))=aa (.a (x.aU.row.map .f))∧aR K ab (.c (.ptr 4 0 0))=aa (vi x.id):=fun K hK=>by
  refine⟨?_,?_⟩<;>simp [aR,aE,hK,aV,bC.row,av.row]
 suffices go:∀ u:T,u.g 5=vb ae→u.g 6=.c (.ptr 2 0 0)→u.g 7=.c (.ptr 3 0 0)→u.g 8=.c (.ptr 4 0 0)→u.g 9=.c (.ptr 5 0 0)→u.g 10=.c (.ptr 6 0 0)→u.g 11=vi cc→WP tab 9 ab [.code AS] ⟨u,[],KD⟩ Q by
  exact go _ (by simp) (by simp) (by simp) (by simp) (by simp) (by simp) (by simp)
 intro u u5 u6 u7 u8 u9 i_ q_;apply an;apply ai;by_cases v:cc=0
 case neg=>
  obtain⟨w_,x6⟩:=i8 v;rw [w_]at d3;rw [←n9,x6]at d9;simp [q_,v];refine au (by simp) ?_;apply ai;have p_:∀ J:aj,bu J (.f (sl gX.lg (aQ gX.l)))=aa 0:=fun J=>rfl;simp only [jx,jk,avl,avs]at d9;simp [u5,u9,i_,d3,p_,d9,-aw];refine aC (hQ _ _ ?_);simp
 simp [q_,v];refine bo (by simp) ?_;apply an;apply ai;simp [i_,x8,-aw];by_cases d:l.headD 0=0
 case neg=>
  obtain⟨m9,z_,s8⟩:=F v d;have hsm:=i5 v d;refine aB (by simpa using d) (aP ?_);apply ai;simp [u5,u6,u7,u8,u9,i_,d1,f1,hsm,r6,s6,hT,(xs KD dx).1,d9,s8,-aw];refine aC (hQ _ _ ?_);simp
 refine au (by simpa using d) ?_;obtain⟨l_,b9,c_,jj,t9,j9,j_⟩:=j6 v d;obtain⟨gl,A,g_,y7,hL⟩:=adB n l_;have L:=aeS n l_ t9;rw [j9,j_]at L;have v_:uniq [] [] (bB n.l)=bB n.l:=by rw [wH (by simpa using b9.ap) (by simp)];simp
 rw [v_]at g_;have r_:gw A:=b9.ap.perm g_;obtain⟨i0,t8,j4⟩:=avQ (g_.mem_iff.2 c_);have k_:∀ K:aj,bu K (.f (sl gl (al A)))=aa A.length:=fun K=>by simp [al]
 apply ai;simp [u9,d1,hL,-aw];apply an;apply ai;simp;refine gP A.length (fun j t J=>j≤i0∧t.g 5=vb ae∧t.g 8=.c (.ptr 4 0 0)∧t.g 9=.c (.ptr 5 0 0)∧t.g 12=.c (.f (sl gl (al A)))∧J=KD) (by omega) rfl (by simp) ⟨by omega,by simp [u5],by simp [u8],by simp [u9],by simp,rfl⟩ ?_ ?_ ?_
 ·rintro j t J K hj ⟨f7,g5,g8,g9,I,rfl⟩ ha t_;simp [ha,I,k_];exact t_ _ ⟨f7,by simp [g5],by simp [g8],by simp [g9],by simp [I],rfl⟩ (by simp [ha]) (by simp)
 ·rintro j t J hj ⟨f7,g5,g8,g9,I,rfl⟩ ha next
  have S:=fun H:aj=>bl (H:=H) (g:=gl) (rows:=al A) (sz:=7) (k:=.i64) (i:=(j:Int)) (by omega) (by simp [al];omega);have i4:=fun H:aj=>bL (H:=H) (aX A) (cQ hj);simp only [avr]at S;refine aF ?_;by_cases e:j=i0
  ·subst e;rw [j4]at i4;have i7:=yY x.aU Z;apply ai;simp [ha,g8,I,S,i4,(xs _ dx).1,i7,-aw];refine au (by simp) ?_;apply ai;simp [g5,g8,g9,d1,(xs _ dx).2,L,-aw];refine aC (hQ _ _ ?_);simp
  ·have U:j<i0:=by omega
   have i7:=aep A[j] x.aU (by
    have:=avV.1 r_ j i0 hj t8 U;rw [j4]at this;exact this)
   apply ai;simp [ha,g8,I,S,i4,(xs _ dx).1,i7,-aw];exact aB (by simp) (aP (aA (next _ _ ⟨by omega,by simp [g5],by simp [g8],by simp [g9],by simp [I],rfl⟩ (by simp [ha]))))
 ·rintro t J ⟨f7,-⟩ -;omega)
theorem xj(b:List V)(h:tL Tryz.prog [26,30] b):bg tab 9 b (vb ae):=by
 obtain⟨l,_,rfl,h0,a1,_,rfl,d,rfl⟩:=h;obtain⟨p,rfl,j⟩:=ad5 h0;obtain⟨o,rfl,g⟩:=apy d;rw [Cu p j o g]
end Go.Proofs.YtnaofdffomdmhaaGreat
