/-
  abI the na jS and the mB answer, for all arguments of their kind, in the small machine: part 3.
-/
import Derived.Test.YthkmdpgdicohdaaGreatS2
import Derived.Test.YthkmdpgdicohdaaGreatK5
import Derived.Test.YthkmdpgdicohdaaGreatS1
open Option renaming some → aa,none → ab
open Bool renaming true → ae,false → ag
open List renaming pairwise_iff_getElem → ajQ, pairwise_singleton → aj9, take_of_length_le → ajl, getElem?_eq_getElem → By, take_add_one → aju, pairwise_append → akd, mem_singleton → ai9, getElem_of_mem → ajn, mem_append → aja, mem_take_iff_getElem → ajY, take_length → ajr, map_cons → ajd, map_nil → ajt, getElem?_set_ne → sh, flatten_cons → ajs, map_append → akp, mem_cons_self → ajc, drop_zero → aj4, mem_of_mem_drop → ajJ, mem_of_mem_take → aj2, mem_map → ajj, getElem?_set_self → If, drop_length → akX, length_pos_iff → ajE, drop_eq_getElem_cons → ajh, getElem_map → akK, map_take → akQ, take_append_of_le_length → ajG, getElem_mem → IT, getElem_drop → akB, getElem?_drop → ajv, length_set → ajp, getElem?_append_left → AT, length_drop → ajm, length_map → ajf, length_take → ajF, length_append → ai7, mem_cons → ajB, eraseIdx_eq_take_drop_succ → aj0, map_drop → ak0, drop_append_of_le_length → aka, append_assoc → ajI, take_append_drop → ajR, flatten_append → aki, set_eq_take_append_cons_drop → akS, nil_append → ajZ, length_eraseIdx → akT, mem_append_left → ajM, mem_append_right → akx, drop_drop → akn, eraseIdx_append_of_length_le → ali, append_nil → ajP, length_replicate → ak4, mem_cons_of_mem → ajb, all_eq_true → aji, length_cons → ajL
open Nat renaming le_refl → ai8, mul_one → akL, zero_add → ajX, lt_or_ge → ajz, zero_le → akh, add_mul → ajy, one_mul → akV
open Int renaming toNat_natCast → ajA, dvd_refl → akw, dvd_trans → aj8, le_trans → akk, le_of_dvd → aj7, ediv_nonneg → ake, ediv_le_self → akm, mul_nonneg → akf, mul_le_mul → ako, le_refl → aky, dvd_of_emod_eq_zero → akr, mul_comm → aj1
open Option renaming bind_some → ajC
open List.Pairwise renaming imp → alw
open Bool renaming and_eq_true → BY
set_option linter.unusedVariables false
set_option linter.constructorNameAsVariable false
set_option linter.unusedSimpArgs false
set_option linter.unusedSectionVars false
set_option linter.unnecessarySimpa false
set_option maxRecDepth 100000
namespace Go.Proofs.YthkmdpgdicohdaaGreat
open Go Km
theorem Af{x y:Int}(h:x≤y)(b:x≠y):x<y:=by omega
theorem vX{l:List Int}(g:l.Pairwise (·≤·)){i j:Nat}(b:i<j)(d:j<l.length):(l[i]'(by omega))≤l[j]:=ajQ.1 g i j (by omega) d b
theorem Hy{l:List Int}{j:Nat}{x:Int}(b:l[j]?=aa x):(ints l)[j]?=aa [fi x]:=by simp [ints,b]
theorem uH(l:List Int):(ints l).length=l.length:=by simp [ints]
theorem Hz(l:List Int)(j:Nat)(x:Int):(ints l).set j [fi x]=ints (l.set j x):=by simp [ints,List.map_set]
theorem wC{H:an}{b d:Nat}{l:List Int}(h:RB H b 1 d (ints l)){j:Nat}{x:Int}(g:l[j]?=aa x):aU H ab (.c (.ptr b j d))=aa (vi x):=by
 have:=h.ldc (Km.Ord.bP l) (Hy g) (k:=0) rfl;simpa using this
theorem yu{H:an}{b A:Nat}{l:List Int}(hl:l.length≤1000000)(hs:l.Pairwise (·≤·))(F:RB H b 1 A (ints l)) :
  ∃ r H',Ev tab (.fn 183) [.c (.sl b 0 l.length 0 A 1)] H r H' ∧
   (∃ l' R:List Int,r=.c (.sl b 0 l'.length 0 A 1)∧Fm b H H'∧RB H' b 1 A (ints (l'++R))∧l'.length≤l.length∧l'.Pairwise (· < ·)∧∀ x,x ∈ l'↔x ∈ l):=by
 refine cM rfl rfl fun Q hQ=>?_;apply ai;simp;apply aq;apply ai;simp [F.len];by_cases h2:l.length<2
 ·refine aw (by simp;omega) ?_;apply ai;simp;refine aF (hQ _ _ _ rfl (dU (by simp)) ⟨l,[],rfl,Fm.refl _,by simpa using F,ai8 _,?_,fun _=>Iff.rfl⟩)
  match l,h2 with
  | [],_=>exact List.Pairwise.nil| [x],_=>exact aj9 _ _| x::y::r,h=>simp at h;omega
 refine aG (by simp;omega) (aP ?_);apply aq;apply ai;simp;refine az ?_;refine bJ (fun n s=>∃(k:Nat) (t:T),s=⟨t,[],H⟩∧n=l.length-k∧1≤k∧k≤l.length∧t.g 0=.c (.sl b 0 l.length 0 A 1)∧t.g 3=vi k∧(l.take k).Pairwise (· < ·)) (l.length-1)
  ⟨1,_,rfl,rfl,by omega,by omega,by simp,by simp,?_⟩ ?_
 ·cases l with
  | nil=>simp| cons x r=>simp
 rintro n s ⟨k,t,rfl,rfl,i4,i6,B,E,hp⟩ ih;apply aq;apply ai;simp [B,E,F.len];by_cases u:k<l.length
 case neg=>
  refine aG (by simp [u]) ?_;refine bw (k':=[.code mM]) rfl ?_;apply ai;simp [B];refine aF (hQ _ _ _ rfl (dU (by simp)) ⟨l,[],rfl,Fm.refl _,by simpa using F,ai8 _,?_,fun _=>Iff.rfl⟩);rwa [ajl (by omega)]at hp
 refine aw (by simp [u]) (aP ?_);obtain⟨m,rfl⟩:∃ m,k=m+1:=⟨k-1,by omega⟩
 have ix:∀ {H:an} {rows:List (List FC)} (F:RB H b 1 A rows) (o n i:Nat) (hi:i<n),bz H 1 ab (.c (.sl b o n 0 A 1)) (vi i)=aa (.c (.ptr b (o+i) A)):=by
  intro H rows F o n i hi;have:=F.idx (n:=n) (c:=0) (k:=.i64) (o:=o) (i:=(i:Int)) (by omega) (by omega);rwa [ajA,akL]at this
 have i1:=ix F 0 l.length (m+1) u;have i0:=ix F 0 l.length m (by omega);have l1:=wC F (j:=m+1) (By u);have l0:=wC F (j:=m) (By (show m<l.length by omega));rw [ajX]at i1 i0;have c1:((m+1:Nat):Int)-1=m:=by omega
 rw [show((m+1:Nat):Int)=(m:Int)+1 by omega]at i1;have d9:l.take (m+1+1)=l.take (m+1)++[l[m+1]]:=by rw [aju,By u];rfl
 apply aq;refine az ?_;apply ai;simp [B,E,i1,i0,l1,l0,-ay,aM (n:=(m:Int))];by_cases hc:¬ l[m+1]=l[m]
 ·
  refine aG (by simp [hc]) (aP (ax ?_));refine au (.inl rfl) ?_;simp [E,aM (n:=(m:Int)+1+1)];refine ih (l.length-(m+2)) _ (by omega) ⟨m+2,_,rfl,rfl,by omega,by omega,by simp [B],by simp;omega,?_⟩;show(l.take (m+1+1)).Pairwise (· < ·);have M:l[m]≠l[m+1]:=fun e=>hc e.symm;rw [d9,akd];refine⟨hp,aj9 _ _,fun y hy z hz=>?_⟩;obtain rfl:=ai9.1 hz;obtain⟨i,hi,rfl⟩:=ajn hy;have i3:i<m+1:=by simp at hi;omega
  rw [List.getElem_take];by_cases e:i=m
  ·subst e;exact Af (vX hs (by omega) u) M
  ·exact Int.lt_trans (b:=l[m]) (by
    have h1:=ajQ.1 hp i m (by simp;omega) (by simp;omega) (by omega);simpa using h1) (Af (vX hs (by omega) u) M)
 ·
  have c9:l[m+1]=l[m]:=Classical.not_not.1 hc;have c2:((m+1:Nat):Int)=(m:Int)+1:=by omega
  have N:=F.ta (k:=m+1) u;rw [c2]at N;refine aw (by simp [c9]) ?_;apply ai;simp [B,E,N];apply aq;apply ai;simp;refine az ?_;refine bJ (fun n s=>∃(i:Nat) (t:T) (I:an) (P R:List Int),s=⟨t,[],I⟩∧n=l.length-(m+2+i)∧m+2+i≤l.length∧t.g 0=.c (.sl b 0 l.length 0 A 1)∧t.g 3=vi P.length∧t.g 4=.c (.sl b (m+1) (l.length-(m+1)) 0 A 1)∧t.g 5=vi ((i:Int)+1) ∧
   Fm b H I∧RB I b 1 A (ints (P++R))∧(P++R).length=l.length∧1≤P.length∧P.length≤m+1+i∧(∀ q,m+1+i≤q→(P++R)[q]?=l[q]?)∧P.Pairwise (· < ·)∧∀ x,x ∈ P↔x ∈ l.take (m+2+i)) (l.length-(m+2))
   ⟨0,_,H,l.take (m+1),l.drop (m+1),rfl,rfl,by omega,by simp [B],by simp [E];omega,by simp,by simp,Fm.refl _,by simpa using F,by simp,by simp;omega,by simp;omega,by simp,hp,fun x=>?_⟩ ?_
  ·show x ∈ l.take (m+1)↔x ∈ l.take (m+1+1);rw [d9,aja,ai9];refine⟨.inl,fun h=>h.elim id fun e=>?_⟩;rw [e,c9];exact ajY.2 ⟨m,by omega,rfl⟩
  rintro n s ⟨i,t,I,P,R,rfl,rfl,hi,B,E,U,W,J,d,v,X,d_,hq,L,g⟩ h_;have Z:=d.len (o:=(m+1)) (l:=l.length-(m+1)) (c:=0);apply aq;apply ai;simp [U,W,Z];by_cases K:m+2+i<l.length
  case neg=>
   have b_:m+2+i=l.length:=by omega
   refine aG (by simp;omega) ?_;refine bw (k':=[.code pE,.inBlock 1,.code pF,.inLoop pD,.inBlock 0,.code mM]) rfl ?_;have a8:P.length<l.length:=by omega
   obtain⟨H3,a_,a7,f7⟩:=d.clr (Km.Ord.bP _) (zs:=[fi 0]) (by simpa using v) a8 rfl;rw [akL]at a_;have N:=d.ta a8;apply ai;simp [B,E,N,a_];have g_:=a7.Td (n:=l.length) (k:=P.length) (by omega) (by omega);apply ai;simp [B,E,g_];have e3:(ints (P++R)).take P.length++List.replicate (l.length-P.length) [fi 0]=ints (P++List.replicate (l.length-P.length) 0):=by
    simp [ints]
   rw [e3]at a7;refine aF (hQ _ _ _ rfl (dU (by simp)) ⟨P,_,rfl,J.trans f7,a7,by omega,L,fun x=>?_⟩);rw [g,b_,ajr]
  have ha:(P++R)[m+2+i]?=aa l[m+2+i]:=by rw [hq _ (by omega),By K]
  have e_:(P++R)[m+1+i]?=aa (l[m+1+i]'(by omega)):=by rw [hq _ (by omega),By]
  have j1:=ix d (m+1) (l.length-(m+1)) (i+1) (by omega);have j0:=ix d (m+1) (l.length-(m+1)) i (by omega);rw [show m+1+(i+1)=m+2+i by omega,show((i+1:Nat):Int)=(i:Int)+1 by omega]at j1;rw [show m+1+i=m+1+i by omega]at j0;have d1:=wC d ha;have d0:=wC d e_;refine aw (by simp;omega) (aP ?_);apply aq;refine az ?_;apply ai;simp [U,W,j1,j0,d1,d0,-ay,aM (n:=(i:Int))];have S:l.take (m+2+(i+1))=l.take (m+2+i)++[l[m+2+i]]:=by
   rw [show m+2+(i+1)=m+2+i+1 by omega,aju,By K];rfl
  have next:∀(t:T) (I:an) (P R:List Int),t.g 0=.c (.sl b 0 l.length 0 A 1)→t.g 3=vi P.length→t.g 4=.c (.sl b (m+1) (l.length-(m+1)) 0 A 1)→t.g 5=vi ((i:Int)+1) →
    Fm b H I→RB I b 1 A (ints (P++R))→(P++R).length=l.length→1≤P.length→P.length≤m+2+i→(∀ q,m+2+i≤q→(P++R)[q]?=l[q]?)→P.Pairwise (· < ·)→(∀ x,x ∈ P↔x ∈ l.take (m+2+(i+1))) →
    WP tab 183 ab [.inBlock 3,.code tZ,.inLoop tY,.inBlock 2,.code pE,.inBlock 1,.code pF,.inLoop pD,.inBlock 0,.code mM] ⟨t,[],I⟩ Q:=by
   intro t I P R B E U W J d v X d_ hq L g;refine ax (au (.inl rfl) ?_);simp [W,aM (n:=(i:Int)+1+1)];exact h_ (l.length-(m+2+(i+1))) _ (by omega) ⟨i+1,_,I,P,R,rfl,rfl,by omega,by simp [B],by simp [E],by simp [U],by simp,J,d,v,X,by omega,fun q h=>hq q (by omega),L,g⟩
  have f8:(l[m+1+i]'(by omega))≤l[m+2+i]:=vX hs (by omega) K;by_cases Y:¬ l[m+2+i]=l[m+1+i]
  ·have M:l[m+1+i]≠l[m+2+i]:=fun e=>Y e.symm;have c_:=Af f8 M;have kx:=ix d 0 l.length P.length (by omega);rw [ajX]at kx;obtain⟨H3,s3,r3,f3,-⟩:=d.str (Km.Ord.bP _) (j:=P.length) (by rw [uH,v];omega) (row:=[fi l[m+2+i]]) rfl;rw [Hz]at r3;rw [akL]at s3;obtain⟨x0,R',rfl⟩:∃ x0 R',R=x0::R':=by
    cases R with
    | nil=>simp at v;omega| cons x0 R'=>exact⟨_,_,rfl⟩
   rw [Cj]at r3;refine aw (by simp [Y]) ?_;apply ai;simp only [ajd,ajt]at s3;simp [B,E,U,W,j1,d1,kx,s3,-ay,-bu];refine au (.inl rfl) ?_;simp [E,aM (n:=(P.length:Int)+1)];have e5:P++l[m+2+i]::R'=(P++[l[m+2+i]])++R':=by simp
   rw [e5]at r3;refine next _ H3 (P++[l[m+2+i]]) R' (by simp [B]) (by simp) (by simp [U]) (by simp [W]) (J.trans f3) r3 (by simpa using v) (by simp) (by simp;omega) (fun q h=>?_) ?_ fun x=>?_
   ·rw [←e5,←Cj P x0,sh (by omega)];exact hq q (by omega)
   ·rw [akd];refine⟨L,aj9 _ _,fun y hy z hz=>?_⟩;obtain rfl:=ai9.1 hz;obtain⟨q,f_,rfl⟩:=ajn ((g y).1 hy);have i7:q<m+2+i:=by simp at f_;omega
    rw [List.getElem_take];by_cases e:q=m+1+i
    ·subst e;exact c_
    ·have h1:=vX hs (i:=q) (j:=m+1+i) (by omega) (by omega);omega
   ·rw [S,aja,aja,g]
  ·have O:l[m+2+i]=l[m+1+i]:=Classical.not_not.1 Y;refine a6 (by simp [O]) ?_;refine next _ I P R (by simp [B]) (by simp [E]) (by simp [U]) (by simp [W]) J d v X (by omega) (fun q h=>hq q (by omega)) L fun x=>?_
   rw [S,aja,ai9,g];refine⟨.inl,fun h=>h.elim id fun e=>?_⟩;rw [e,O];exact ajY.2 ⟨m+1+i,by omega,rfl⟩
def CR(H:an)(c:C)(l:List Int):Prop:=(l=[]∧(c=.f .aA∨c=.f .es))∨(l≠[]∧∃ b d R fl,c=.sl b 0 l.length 0 d 1∧H[b]?=aa (.cE 1 ((l++R).map fun n=>.f (fi n)) fl d .loc))
theorem Ah(l:List Int):(ints l).flatten.map C.f=l.map fun n=>.f (fi n):=by
 induction l with
 | nil=>rfl| cons a l b=>simp only [ints,ajd,ajs,akp]at b ⊢;rw [b];rfl
theorem uG(l:List Int):(ints l).flatten=l.map fi:=by
 induction l with
 | nil=>rfl| cons a l b=>simp only [ints,ajd,ajs]at b ⊢;rw [b];rfl
theorem aap{l:List Int}(h:l≠[])(g:Tg):sl g (ints l)=.fs (l.map fi) l.length:=by
 have:ints l≠[]:=by intro e;apply h;have:=congrArg List.length e;simpa [ints]using this
 rw [←uG];cases l with
 | nil=>exact absurd rfl h| cons a l=>simp [sl,ints]
theorem vM(c:C)(d:c=.f .aA∨c=.f .es)(H:an):∃ r H',Ev tab (.fn 183) [.c c] H r H'∧(r=.c c∧H'=H):=by
 have g:bg H c=aa 0:=by rcases d with rfl | rfl<;>rfl
 refine cM rfl rfl fun Q b=>?_;apply ai;simp;apply aq;apply ai;simp [g];refine aw (by simp) ?_;apply ai;simp;exact aF (b _ _ _ rfl (dU (by simp)) ⟨rfl,rfl⟩)
theorem zZ{H:an}{c:C}{l:List Int}(F:l.length≤1000000)(I:l.Pairwise (·≤·))(h:LR H c 1 (ints l)) :
  ∃ j H' d,Ev tab (.fn 183) [.c c] H (.c j) H'∧CR H' j d∧Kb H H' c∧(aS j=aS c)∧d.length≤l.length∧d.Pairwise (· < ·)∧∀ x,x ∈ d↔x ∈ l:=by
 rcases h with⟨m,v⟩ | ⟨s,b,y,rfl,z⟩
 ·have m:l=[]:=by
   cases l with
   | nil=>rfl| cons a l=>simp [ints]at m
  subst m;obtain⟨r,H',q,rfl,rfl⟩:=vM c v H;exact⟨c,H',[],q,.inl ⟨rfl,v⟩,Kb.refl _ _,rfl,ai8 _,List.Pairwise.nil,fun _=>Iff.rfl⟩
 ·rw [uH];obtain⟨r,H',q,d,R,rfl,E,g,A,B,u⟩:=yu F I z;refine⟨_,H',d,q,.inr ⟨fun e=>?_,b,y,R,0,rfl,?_⟩,Kb.agq E,rfl,A,B,u⟩
  ·subst e;cases l with
   | nil=>simp [ints]at s| cons a l=>have:=(u a).2 ajc;simp at this
  ·unfold RB at g;rw [g,Ah]
theorem CR.ex{H:an}{c:C}{l:List Int}(h:CR H c l):∃ g,∀ n,et (n+1) H c=aa (sl g (ints l)):=by
 rcases h with⟨rfl,rfl | rfl⟩ | ⟨hl,b,d,R,fl,rfl,h2⟩
 ·exact⟨.nil,fun _=>rfl⟩
 ·exact⟨.es,fun _=>rfl⟩
 ·refine⟨.fs,fun n=>?_⟩;simp only [jQ,h2];rw [ba ⟨trivial,trivial,by simp⟩,aj4,akL];have:((l++R).map fun n=>C.f (fi n)).take l.length=(l.map fi).map .f:=by simp
  rw [this,mo,aap hl];rfl
theorem CR.mk{H:an}{c:C}{l:List Int}(h:CR H c l)(n:Nat):CR (eK (n+1) c H) c l∧∀(i:Nat) (y:bZ),H[i]?=aa y→aS c≠aa i→(eK (n+1) c H)[i]?=aa y:=by
 rcases h with⟨rfl,rfl | rfl⟩ | ⟨hl,b,d,R,fl,rfl,h2⟩
 ·exact⟨.inl ⟨rfl,.inl rfl⟩,fun i y hy _=>hy⟩
 ·exact⟨.inl ⟨rfl,.inr rfl⟩,fun i y hy _=>hy⟩
 ·have e:eK (n+1) (.sl b 0 l.length 0 d 1) H=H.set b (.cE 1 ((l++R).map fun n=>.f (fi n)) (Nat.max fl (0+l.length*1)) d .loc):=by
   simp only [oT,h2];rw [iY];intro x g;have g:=ajJ (aj2 g);obtain⟨m,_,rfl⟩:=ajj.1 g;exact⟨_,rfl⟩
  rw [e];refine⟨.inr ⟨hl,b,d,R,_,rfl,If (aj h2)⟩,fun i y hy hi=>?_⟩;rw [sh (by rintro rfl;exact hi rfl)];exact hy
def VR(H:an)(c:C)(b:Option Nat)(m:List Int):Prop:=∀ H':an,(∀ i y,b=aa i→H[i]?=aa y→H'[i]?=aa y)→bg H' c=aa m.length∧∀(k:Nat) (h:k<m.length),∃ p,bz H' 1 ab (.c c) (vi k)=aa (.c p)∧aU H' ab (.c p)=aa (vi m[k])
theorem CR.cut{H:an}{c:C}{l:List Int}(h:CR H c l){i:Nat}(hi:i≤l.length):∃ g m q,vp H 1 (.c c) (vi i) (vi i)=aa (.c (.f (sl g (ints (l.take i)))),m)∧(∀ H':an,(∀ j y,aS c=aa j→m[j]?=aa y→H'[j]?=aa y)→bG H' 1 (.c c) (aa (vi i)) ab ab=aa (.c q))∧(∀ j y,H[j]?=aa y→aS c≠aa j→m[j]?=aa y)∧m.length=H.length∧VR m q (aS c) (l.drop i):=by
 rcases h with⟨rfl,hc⟩ | ⟨hl,b,x,R,fl,rfl,h2⟩
 ·have d:i=0:=by simpa using hi
  subst d;rcases hc with rfl | rfl
  ·exact⟨.nil,H,.f .aA,rfl,fun _ _=>rfl,fun _ _ h _=>h,rfl,fun H' _=>⟨rfl,fun k h=>by simp at h⟩⟩
  ·exact⟨.es,H,.f .es,rfl,fun _ _=>rfl,fun _ _ h _=>h,rfl,fun H' _=>⟨rfl,fun k h=>by simp at h⟩⟩
 ·have z:bE l.length l.length ab (aa (vi i)) (aa (vi i))=aa (0,i,i):=by simp [bE,eR hi,eR (ai8 i)]
  have A:bE l.length l.length (aa (vi i)) ab ab=aa (i,l.length,l.length):=by simp [bE,eR hi]
  have J:∀(m:an) (fl:Nat),m[b]?=aa (.cE 1 ((l++R).map fun n=>.f (fi n)) fl x .loc)→∃ q,(∀ H':an,(∀ j y,aa b=aa j→m[j]?=aa y→H'[j]?=aa y)→bG H' 1 (.c (.sl b 0 l.length 0 x 1)) (aa (vi i)) ab ab=aa (.c q))∧VR m q (aa b) (l.drop i):=fun m fl h2=>by
   by_cases s:i=l.length
   ·refine⟨.f (.fs [] 0),fun H' u=>?_,fun H' _=>⟨by rw [s,akX];rfl,fun k h=>by rw [s,akX]at h;simp at h⟩⟩;have:0<l.length:=ajE.2 hl;have h2:=u b _ rfl h2;simp only [bG,h2,and_self,if_true,A];simp [s,this]
   ·refine⟨.sl b i (l.length-i) 0 x 1,fun H' u=>?_,fun H' u=>?_⟩
    ·have h2:=u b _ rfl h2;simp only [bG,h2,and_self,if_true,A];simp [s]
    ·have v:=u b _ rfl h2;refine⟨by simp [bg,v],fun k h=>⟨.ptr b (i+k) x,?_,?_⟩⟩
     ·have u:k<l.length-i:=by simpa using h
      simp [bz,show fS (vi k)=aa (k:Int) from rfl,v,u]
     ·have u:i+k<l.length:=by simp at h;omega
      simp only [aU,aC,v,if_true,ajC];rw [ajh (by simp;omega)];have F:((l++R).map fun n=>C.f (fi n))[i+k]'(by simp;omega)=.f (fi l[i+k]):=by
       rw [akK,List.getElem_append_left u]
      rw [F];simp [aW]
  by_cases d:i=0
  ·subst d;obtain⟨q,B,E⟩:=J H fl h2;refine⟨.es,H,q,?_,B,fun _ _ h _=>h,rfl,E⟩;simp only [vp,bG,h2,and_self,if_true,z];simp [sl,ints,Tg.fc]
  ·have I:l.take i≠[]:=by
    intro e;have:=congrArg List.length e;simp at this;rcases this with h | h
    ·exact d h
    ·exact hl h
   obtain⟨q,B,E⟩:=J (H.set b (.cE 1 ((l++R).map fun n=>.f (fi n)) (Nat.max fl (i*1)) x .loc)) _ (If (aj h2));refine⟨.fs,_,q,?_,B,fun j y hy K=>?_,by simp,E⟩
   ·have M:bG H 1 (.c (.sl b 0 l.length 0 x 1)) ab (aa (vi i)) (aa (vi i))=ab:=by
     simp only [bG,h2,and_self,if_true,z];simp [d]
    have L:aZ fcC (((l++R).map fun n=>C.f (fi n)).take (i*1))=aa ((l.take i).map fi):=by
     have:((l++R).map fun n=>C.f (fi n)).take (i*1)=((l.take i).map fi).map .f:=by
      rw [akL,←akQ,ajG hi,List.map_map];rfl
     rw [this];generalize (l.take i).map fi=w;induction w with
     | nil=>rfl| cons a w N=>simp only [ajd,aZ,fcC,N]
    simp only [vp,M,h2,and_self,if_true,eR hi];rw [ba ⟨trivial,by omega,by simp;omega⟩,L,aap I];simp [Nat.min_eq_left hi]
   ·rw [sh (by rintro rfl;exact K rfl)];exact hy
theorem sC{p:aE}(j:1≤p.aJ){d d':Int}(g:p.fr≤d)(b:p.fr≤d')(h:p.aJ ∣ d'-d):bF p d'=bF p d:=by
 unfold bF;rw [ba g,ba b];have:(d'-p.fr) % p.aJ=(d-p.fr) % p.aJ:=by
  rw [show d'-p.fr=(d'-d)+(d-p.fr) by omega,Int.add_emod,Int.emod_eq_zero_of_dvd h,Int.zero_add,Int.emod_emod_of_dvd _ (akw _)]
 rw [this]
theorem acE(f:Bool→Bool→Bool){l m:aE}(X:cu l=ae)(Y:cu m=ae){st P:Int}(w:st=max l.fr m.fr)(H:xN l.aJ m.aJ P)(t:st≤1000000)(W:P≤1000000){L:List Int}(B:L.Pairwise (· < ·))(s:∀ d,d ∈ L↔0≤d∧d<st+P∧f (bF l d) (bF m d)=ae)(U:L.length≤1000000)
  {i:Nat} (A:∀ j (h:j<L.length),j<i→L[j]<st) (z:∀ j (h:j<L.length),i≤j→st≤L[j]) (M K:Tg) :
  cu ⟨M,L.take i,st,P,K,(L.drop i).map (· - st)⟩=ae∧∀ d,0≤d→bF ⟨M,L.take i,st,P,K,(L.drop i).map (· - st)⟩ d=f (bF l d) (bF m d):=by
 obtain⟨q1,q2,q3,q4,-⟩:=aV X;obtain⟨w1,w2,w3,w4,-⟩:=aV Y;have I:=H.pos;have E:∀ x ∈ L.take i,x ∈ L∧x<st:=fun x g=>by
  obtain⟨j,u,rfl⟩:=ajY.1 g;exact⟨IT _,A j (by omega) (by omega)⟩
 have q:∀ x,x ∈ L.drop i↔x ∈ L∧st≤x:=fun x=>by
  constructor
  ·intro g;obtain⟨j,u,rfl⟩:=ajn g;rw [akB];exact⟨IT _,z _ _ (by omega)⟩
  ·rintro⟨g,t⟩;obtain⟨j,u,rfl⟩:=ajn g;have a:i≤j:=by
    rcases ajz j i with k | k
    ·have:=A j u k;omega
    ·exact k
   exact List.mem_of_getElem? (i:=j-i) (by rw [ajv,show i+(j-i)=j by omega,By u])
 refine⟨oY (by show 0≤st;omega) (by show st≤_;omega) (by show 1≤P;omega) (by show P≤_;omega) (by show(L.take i).length+((L.drop i).map (· - st)).length≤_;simp;omega) (B.sublist (List.take_sublist _ _)) (fun x g=>?_) ?_ (fun x g=>?_),fun d Z=>?_⟩
 ·have:=E x g;exact⟨((s x).1 this.1).1,this.2⟩
 ·show((L.drop i).map (· - st)).Pairwise (· < ·);rw [List.pairwise_map];exact alw (fun h=>by omega) (B.sublist (List.drop_sublist i L))
 ·have g:x ∈ (L.drop i).map (· - st):=g;obtain⟨y,J,rfl⟩:=ajj.1 g;obtain⟨F,S⟩:=(q y).1 J;have:=(s y).1 F;exact⟨by omega,by show y-st<P;omega⟩
 ·unfold bF;simp only;by_cases k:st≤d
  ·rw [ba k];have o:=Int.emod_nonneg (d-st) (show P≠0 by omega);have r:=Int.emod_lt_of_pos (d-st) I;have v:P ∣ d-(st+(d-st) % P):=by
    rw [show d-(st+(d-st) % P)=(d-st)-(d-st) % P by omega];exact Int.dvd_self_sub_emod
   have N:=sC (p:=l) q3 (d:=st+(d-st) % P) (d':=d) (by omega) (by omega) (aj8 H.da v);have O:=sC (p:=m) w3 (d:=st+(d-st) % P) (d':=d) (by omega) (by omega) (aj8 H.db v);have Q:(d-st) % P ∈ (L.drop i).map (· - st)↔f (bF l d) (bF m d)=ae:=by
    rw [ajj,N,O];constructor
    ·rintro⟨y,J,e⟩;obtain⟨F,S⟩:=(q y).1 J;have:=((s y).1 F).2.2;rw [show st+(d-st) % P=y by omega];exact this
    ·intro h;exact⟨st+(d-st) % P,(q _).2 ⟨(s _).2 ⟨by omega,by omega,h⟩,by omega⟩,by omega⟩
   have b:decide ((d-st) % P ∈ (L.drop i).map (· - st))=f (bF l d) (bF m d):=by
    rw [Bool.eq_iff_iff,decide_eq_true_eq];exact Q
   unfold bF at b;exact b
  ·rw [aR k];have b:decide (d ∈ L.take i)=f (bF l d) (bF m d):=by
    rw [Bool.eq_iff_iff,decide_eq_true_eq];constructor
    ·intro h;exact((s d).1 (E d h).1).2.2
    ·intro h;have n:=(s d).2 ⟨Z,by omega,h⟩;obtain⟨j,u,rfl⟩:=ajn n;have c:j<i:=by
      rcases ajz j i with k | k'
      ·exact k
      ·have:=z j u k';omega
     exact ajY.2 ⟨j,by omega,rfl⟩
   unfold bF at b;exact b
structure nv(p:aE):Prop where
 ok:cu p=ae
 fr:p.fr≤50
 aJ:p.aJ≤12
theorem nv.head{p:aE}(h:nv p):p.head.length≤50:=by
 obtain⟨j,l,m,q,s,d,g,u,v⟩:=aV h.ok;have:=mW p.head 0 p.fr d fun x b=>by have:=g x b;omega
 have:=h.fr;omega
theorem nv.a5{p:aE}(h:nv p):p.a5.length≤12:=by
 obtain⟨j,l,m,q,s,u,v,d,g⟩:=aV h.ok;have:=mW p.a5 0 p.aJ d fun x b=>by have:=g x b;omega
 have:=h.aJ;omega
structure OQ(J5:an)(bo:Nat)(hd:FC)(st P:Int)(cq:C)(jV:List Int)(J:an):Prop where
 kp:∀ i:Nat,i<J5.length→i≠bo→J[i]?=J5[i]?
 bx:J[bo]?=aa (.box [.f hd,.f (fi st),.f (fi P),cq] 0)
 lq:LR J cq 1 (ints jV)
 qb:∀ i,aS cq=aa i→J5.length≤i
 hl:J5.length≤J.length
theorem OQ.app{v:an}{j:Nat}{u:FC}{st P:Int}{z:C}{jV:List Int}{J:an}(h:OQ v j u st P z jV J)(B:j<v.length)(hl:jV.length≤1000)(n:Int) :
  ∃ b g,bD (J++[.box [.f (fi n)] 0]) 1 8 (.c z) (.c (.sl J.length 0 1 1 0 1))=aa (.c b,g)∧di g (.ptr j 3 0) [b]=aa (g.set j (.box [.f u,.f (fi st),.f (fi P),b] 0))∧OQ v j u st P b (jV++[n]) (g.set j (.box [.f u,.f (fi st),.f (fi P),b] 0)):=by
 obtain⟨b,g,m,l,A,q,x⟩:=oN h.lq (by omega) n;have E:=h.hl;have d:=q _ _ h.bx (h.lq.bh h.bx);refine⟨b,g,m,by simp [di,d,over],fun i hi s=>?_,If (aj d),l.set (l.bh d) _,fun i hi=>?_,by rw [ajp];omega⟩
 ·rw [sh (Ne.symm s),←h.kp i hi s];have y:i<J.length:=by omega
  have hy:J[i]?=aa J[i]:=By y;rw [hy];exact q i _ hy fun e=>by have:=h.qb i e;omega
 ·rcases x with e | e
  ·rw [e]at hi;exact h.qb i hi
  ·rw [e]at hi;cases hi;omega
theorem wu(f:Bool→Bool→Bool){a b qa qb:aE}(ha:cu qa=ae)(hb:cu qb=ae){st P R:Int}(o8:st=max qa.fr qb.fr)(hP:xN qa.aJ qb.aJ P)(hs:st≤50)(r7:P≤12)(j7:P ∣ R)(t4:st≤max a.fr b.fr)(o5:∀ d,0≤d→f (bF qa d) (bF qb d)=f (bF a d) (bF b d))
  {J:an} {c cx cy:C} {L:List Int} {g:Int} {m bp:Nat} (hL:LR J c 1 (ints L)) (e_:L.length≤256) (f7:∀ d,d ∈ L↔0≤d∧d<st+P∧f (bF qa d) (bF qb d)=ae) (j2:J[2]?=aa (.box [.f .aA,.f (fi 0),.f (fi 0),.f .aA] 0)) (jp:J[bp]?=aa (.box (b7 qa qb st cx cy g m) 0)) (r9:bp≠2)
  {t:T} (g6:t.g 6=.c (.ptr 2 0 0)) (M:t.g 8=.c (.ptr bp 0 0)) (g9:t.g 9=vi P) (c9:t.g 16=.c c) {Q:Option av→St→Prop}
  (hQ:∀ j s r,(∃ q,cu q=ae∧q.fr≤max a.fr b.fr∧q.aJ ∣ R∧(∀ d,0≤d→bF q d=f (bF a d) (bF b d))∧r=.t [.a (q.row.map .f),vi 0])→nu [.cell (Km.P.nat 6) (aa 4),.tmp (Km.P.nat 7)] r s→Q j s) :
  WP tab 135 ab [.code pA] ⟨t,[],J⟩ Q:=by
 obtain⟨q1,q2,q3,q4,-⟩:=aV ha;have s_:=hP.pos;obtain⟨r,J1,a_,rfl,d9,l2,j4,u,n_⟩:=Tk hL e_;apply ai;simp [c9,a_.eq];have r_:l2.length≤256:=by rw [u.length_eq];exact e_
 obtain⟨c',J2,l,a7,X,d_,A,s7,S,i4⟩:=zZ (by omega) n_ j4;apply ai;simp [c9,a7.eq];have q_:∀(i:Nat) y,J[i]?=aa y→aS c≠aa i→J2[i]?=aa y:=fun i y H hn=>d_.2 i y (d9.2 i y H hn) hn;obtain⟨gx,a8⟩:=X.ex;have a8:=a8 63;obtain⟨N,n8⟩:=X.mk 63;obtain⟨i,hi,o4,g_,j9⟩:=fH gx l st (by omega) S;have kk:∀ k cs fl,J[k]?=aa (bZ.box cs fl)→J2[k]?=aa (bZ.box cs fl)∧(eK 64 c' J2)[k]?=aa (bZ.box cs fl):=fun k cs fl B=>by
  have h1:=q_ k _ B (hL.bh B);exact⟨h1,n8 k _ h1 (by rw [A];exact hL.bh B)⟩
 obtain⟨J3,Y⟩:=aL (eK 64 c' J2);rw [←Y]at kk N;have L2:=qx (kk bp _ _ jp).1;apply ai;simp [M,L2.jV,-ay,a8,deep,j9,←Y];obtain⟨U,J4,c2,i6,o7,n9,o0,i_⟩:=N.cut hi;have b_:∀ k cs fl,J[k]?=aa (bZ.box cs fl)→J4[k]?=aa (bZ.box cs fl):=fun k cs fl B=>n9 k _ (kk k cs fl B).2 (by rw [A];exact hL.bh B);have L3:=qx (kk bp _ _ jp).2;have L4:=qx (b_ bp _ _ jp);refine aq (eB (.inl rfl) ?_ ?_)
 case refine_2=>
  intro cc l_;have k_:cc=(5,3):=by simpa using l_
  subst k_;refine⟨by decide,_,rfl,.inr ⟨by decide,?_⟩⟩;simp [M,i6,L3.jV,L4.jV,-ay,fx,pK]
 simp [M,g9,i6,L4.jV,-ay];obtain⟨K,Z⟩:=aL (J4.length);obtain⟨I,F⟩:=aL (J4++[bZ.box [.f (sl U (ints (l.take i))),.f (fi st),.f (fi P),.f .aA] 0]);have k5:∀(k:Nat) y,J4[k]?=aa y→I[k]?=aa y:=fun k y B=>by rw [F,AT (aj B)];exact B
 have b5:I[K]?=aa (.box [.f (sl U (ints (l.take i))),.f (fi st),.f (fi P),.f .aA] 0):=by rw [F,Z];simp
 have l5:I.length=K+1:=by rw [F];simp [Z]
 rw [←F,←Z];have i7:=o7 I fun j y _ H=>k5 j y H;have o9:=i_ I fun j y _ H=>k5 j y H;have j_:∀ j,aS c'=aa j→j<K:=fun j hj=>by
  rw [A]at hj;have h1:=hL.lt hj;have h2:=d9.1;have h3:=d_.1;have h4:J3.length=J2.length:=by
   rw [Y];rcases X with⟨-,rfl | rfl⟩ | ⟨-,b,ep,R,fl,rfl,h2⟩
   ·rfl
   ·rfl
   ·simp only [oT,h2];rw [iY]
    ·simp
    ·intro x hx;have hx:=ajJ (aj2 hx);obtain⟨m,_,rfl⟩:=ajj.1 hx;exact⟨_,rfl⟩
  omega
 have q0:OQ I K (sl U (ints (l.take i))) st P (.f .aA) [] I:=⟨fun _ _ _=>rfl,b5,by simpa [ints]using LR.nil _ _,fun _ h=>(by cases h),ai8 _⟩
 apply aq;apply ai;simp [i7,o9.1];refine bU (l.drop i).length (fun j t J=>t.g 6=.c (.ptr 2 0 0)∧t.g 8=.c (.ptr bp 0 0)∧t.g 19=.c (.ptr K 0 0)∧t.g 149=.c c2∧∃ cq,OQ I K (sl U (ints (l.take i))) st P cq (((l.drop i).take j).map (· - st)) J) (by rw [ajm];omega) (by decide) (by decide) (by simp) (by simp)
  ⟨by simp [g6],by simp [M],by simp,by simp,.f .aA,by simpa using q0⟩ ?_ ?_
 ·rintro j t J' hj ⟨g6,M,E,z,cq,v⟩ f8 j8 next
  have o_:=(i_ J' fun k y B H=>by
   have:=j_ k B;rw [v.kp k (by omega) (by omega)];exact k5 k y H).2 j hj
  obtain⟨p,m_,i3⟩:=o_;have i9:(l.drop i).take (j+1)=(l.drop i).take j++[(l.drop i)[j]]:=by rw [aju,By hj];rfl
  have h_:i+j<l.length:=by rw [ajm]at hj;omega
  have p8:st≤(l.drop i)[j]∧(l.drop i)[j]<st+P:=by
   rw [akB];exact⟨g_ _ h_ (by omega),((f7 _).1 (u.mem_iff.1 ((i4 _).1 (IT h_)))).2.1⟩
  obtain⟨x,hx⟩:=aL ((l.drop i)[j]);rw [←hx]at i3 i9 p8;have n6:J'[bp]?=aa (.box (b7 qa qb st cx cy g m) 0):=by
   have h4:=b_ bp _ _ jp;have:=aj h4;rw [v.kp bp (by omega) (by omega)];exact k5 bp _ h4
  have LJ:=qx n6;have p_:aU J' ab (.c (.ptr K 3 0))=aa (.c cq):=by simp [aU,aC,v.bx]
  obtain⟨c3,H3,f_,i8,o6⟩:=v.app (by omega) (by rw [ajf,ajF];omega) (x-st);refine az ?_;apply ai;simp [f8,z,m_,i3,-ay];refine au (.inl rfl) ?_;simp [M,E,p_,LJ.jV,-ay,aM (n:=x-st),f_,i8,-bu];refine ax (next _ _ ?_ (by simp [f8]) (by simp [j8]));refine⟨by simp [g6],by simp [M],by simp [E],by simp [z],c3,?_⟩;rw [i9];simpa using o6
 ·rintro t J' ⟨g6,M,E,z,cq,v⟩ - -;rw [ajr]at v;obtain⟨W,hW⟩:=aL ((l.drop i).map (· - st));have r8:W.length≤256:=by rw [hW];simp;omega
  rw [←hW]at v;obtain⟨gc,m9⟩:=v.lq.XY (Km.Ord.bP _);have x3:=m9 J' 63 (fun i y H _=>H);obtain⟨o1,o2⟩:=acE f ha hb o8 hP (by omega) (by omega) S (fun d=>by rw [i4,u.mem_iff];exact f7 d) (by omega) o4 g_ U gc;rw [←hW]at o1 o2;obtain⟨q,⟨d1,d2,d3,d4⟩,-,-,O⟩:=lZ ⟨U,l.take i,st,P,gc,W⟩ o1 (by show W.length≤_;omega) (by show(l.take i).length≤_;simp;omega);simp only [aE.row,ajd,ajt]at O d2 d3;have p9:aU J' (aa 4) (.c (.ptr K 0 0))=aa (.a [.f (sl U (ints (l.take i))),.f (fi st),.f (fi P),cq]):=by simp [aU,aC,v.bx,aW]
  have u3:=R6 v.lq;simp only [deep]at u3;have j3:J'[2]?=aa (.box [.f .aA,.f (fi 0),.f (fi 0),.f .aA] 0):=by
   have h4:=b_ 2 _ _ j2;have:=aj h4;rw [v.kp 2 (by omega) (by omega)];exact k5 2 _ h4
  have w2:=u3 2 _ j3 (v.lq.bh j3);obtain⟨JM,c_⟩:=aL (eK 64 cq J');rw [←c_]at w2;have t2:di JM (.ptr 2 0 0) [.f (sl q.hg (ints q.head)),.f (fi q.fr),.f (fi q.aJ),.f (sl q.cg (ints q.a5))]=aa (JM.set 2 (.box [.f (sl q.hg (ints q.head)),.f (fi q.fr),.f (fi q.aJ),.f (sl q.cg (ints q.a5))] 0)):=by simp [di,w2,over]
  have n2:(JM.set 2 (.box [.f (sl q.hg (ints q.head)),.f (fi q.fr),.f (fi q.aJ),.f (sl q.cg (ints q.a5))] 0))[2]?=aa (.box [.f (sl q.hg (ints q.head)),.f (fi q.fr),.f (fi q.aJ),.f (sl q.cg (ints q.a5))] 0):=If (aj w2);apply ai;simp [g6,E,p9,-ay,x3,deep,O,←c_,t2,-bu];refine aF (hQ _ _ _ ⟨q,d1,by omega,aj8 d3 j7,fun d hd=>?_,rfl⟩ ⟨rfl,.t [.a [.f (sl q.hg (ints q.head)),.f (fi q.fr),.f (fi q.aJ),.f (sl q.cg (ints q.a5))],vi 0],?_,?_⟩)
  ·rw [d4 d hd,o2 d hd,o5 d hd]
  ·simp [Km.results,cC,aZ,g6,n2,aW]
  ·simp [aE.row,mR,dI,aZ]
theorem te{b d:aE}{st P:Int}(u:1≤b.aJ)(v:1≤d.aJ)(q:st=max b.fr d.fr){X Y:List Int}(l:xO b st X)(m:xO d st Y){k:Int}(s:0≤k):(bF b (st+k)=ae↔k % b.aJ ∈ X)∧(bF d (st+k)=ae↔k % d.aJ ∈ Y):=by
 have g:=l.2.2.2 (st+k) (by omega);have j:=m.2.2.2 (st+k) (by omega);rw [show st+k-st=k by omega]at g j;exact⟨g,j⟩
theorem sK(a b:aE)(sa:nv a)(sb:nv b){R:Int}(R0:0<R)(R1:R≤12)(Ra:a.aJ ∣ R)(Rb:b.aJ ∣ R)(j:Int)(f:Bool→Bool→Bool)(hk:(j=0∧f=fun x y=>x&&y)∨(j=1∧f=fun x y=>x||y)) :
  ∃ q,cu q=ae∧q.fr≤max a.fr b.fr∧q.aJ ∣ R∧(∀ d,0≤d→bF q d=f (bF a d) (bF b d))∧bR tab 135 [.a (a.row.map .f),.a (b.row.map .f),vi j]=Eq (.t [.a (q.row.map .f),vi 0]):=by
 have va:=pR a (lu sa.ok);have c9:=pR b (lu sb.ok);rw [sa.ok]at va;rw [sb.ok]at c9;simp only [aE.row,ajd,ajt]at va c9;have t4:=sa.aJ;have t5:=sb.aJ;have v6:=sa.fr;have v8:=sb.fr;have v9:=sa.head;have v_:=sb.head;have u9:=sa.a5;have u_:=sb.a5;obtain⟨r,⟨q,c1,c2,c3,c4,rfl⟩,h⟩:∃ r,(∃ q,cu q=ae∧q.fr≤max a.fr b.fr∧q.aJ ∣ R∧(∀ d,0≤d→bF q d=f (bF a d) (bF b d))∧r=.t [.a (q.row.map .f),vi 0])∧bR tab 135 [.a (a.row.map .f),.a (b.row.map .f),vi j] r:=by
  refine fu rfl rfl fun Q hQ=>?_;apply ai;simp [aE.row];obtain⟨HA,Z⟩:=aL ([.box [.f (sl a.hg (ints a.head)),.f (fi a.fr),.f (fi a.aJ),.f (sl a.cg (ints a.a5))] 0,.box [.f (sl b.hg (ints b.head)),.f (fi b.fr),.f (fi b.aJ),.f (sl b.cg (ints b.a5))] 0,.box [.f .aA,.f (fi 0),.f (fi 0),.f .aA] 0]:an);rw [←Z];have al:HA.length=3:=by rw [Z];rfl
  have l0:aU HA (aa 4) (.c (.ptr 0 0 0))=aa (.a [.f (sl a.hg (ints a.head)),.f (fi a.fr),.f (fi a.aJ),.f (sl a.cg (ints a.a5))]):=by rw [Z];simp [aU,aC,aW]
  have l1:aU HA (aa 4) (.c (.ptr 1 0 0))=aa (.a [.f (sl b.hg (ints b.head)),.f (fi b.fr),.f (fi b.aJ),.f (sl b.cg (ints b.a5))]):=by rw [Z];simp [aU,aC,aW]
  have a2:HA[2]?=aa (.box [.f .aA,.f (fi 0),.f (fi 0),.f .aA] 0):=by rw [Z];rfl
  apply aq;apply ai;simp [l0,l1,-ay,va,c9];refine a6 (by simp) ?_;obtain⟨r,HN,a_,s,u,st,X,Y,cx,cy,l,m,N,sA,sB,xa,xb,ya,yb,rfl,b_,hX,hY,i9,r7⟩:=AB a b sa.ok sb.ok (by omega) (by omega) (by omega) (by omega) (by omega) (by omega) HA;simp only [aE.row,ajd,ajt]at a_;obtain⟨q1,q2,q3,q4,q5,q6,q7,q8,q9⟩:=aV sA.ok;obtain⟨w1,w2,w3,w4,w5,w6,w7,w8,w9⟩:=aV sB.ok;obtain⟨g,hg⟩:=aL ((Int.gcd s.aJ u.aJ:Int):Int);rw [←hg]at a_ i9;have l_:s.aJ ∣ R:=aj8 sA.aJ Ra;have m9:u.aJ ∣ R:=aj8 sB.aJ Rb;obtain⟨P,hP⟩:=aL (s.aJ / (Int.gcd s.aJ u.aJ:Int)*u.aJ);have e_:xN s.aJ u.aJ P:=hP▸RZ q3 w3;have i_:P ∣ R:=e_.dvd R l_ m9;have E:P≤12:=akk (aj7 R0 i_) R1;have y6:=e_.pos;have t9:s.aJ≤12:=akk (aj7 R0 l_) R1;have t_:u.aJ≤12:=akk (aj7 R0 m9) R1;have u5:=sA.fr;have u6:=sB.fr;have g0:0<g:=by rw [hg];have:=Int.gcd_pos_of_ne_zero_left u.aJ (show s.aJ≠0 by omega);omega
  have r_:∀ d,0≤d→f (bF s d) (bF u d)=f (bF a d) (bF b d):=fun d hd=>by rw [sA.mem d hd,sB.mem d hd]
  have d9:=ZA q3 (by omega:s.aJ≤1000) w3 (by omega:u.aJ≤1000);rw [←hP]at d9;have p8:X.length≤12:=by have:=hX.1;omega
  have p9:Y.length≤12:=by have:=hY.1;omega
  obtain⟨bp,f_⟩:=aL (HN.length);obtain⟨A,W⟩:=aL (HN++[bZ.box (b7 s u st cx cy g m) 0]);have l4:A.length=bp+1:=by rw [W];simp [f_]
  have p4:A[bp]?=aa (.box (b7 s u st cx cy g m) 0):=by rw [W,f_];simp
  have c_:PH A N X Y g l cx cy m:=i9.bf fun i hi=>by rw [W,AT hi]
  have z2:HN[2]?=aa (.box [.f .aA,.f (fi 0),.f (fi 0),.f .aA] 0):=by rw [r7 2 (by omega)];exact a2
  have z4:A[2]?=aa (.box [.f .aA,.f (fi 0),.f (fi 0),.f .aA] 0):=by rw [W,AT (aj z2)];exact z2
  have t6:2<bp:=by have:=aj z2;omega
  apply ai;simp [l0,l1,-ay,a_.eq,vd];rw [←W,←f_]
  suffices z:∀ t:T,t.g 2=vi j→t.g 6=.c (.ptr 2 0 0)→t.g 8=.c (.ptr bp 0 0)→WP tab 135 ab [.code tO] ⟨t,[],A⟩ Q by exact z _ (by simp) (by simp) (by simp)
  clear a_ l0 l1 va c9;intro t g2 g6 B;have L4:=qx p4;apply ai;simp [B,L4.lap,L4.lbp,-ay,d9];apply aq;apply ai;simp;refine a6 (by simp) ?_;obtain⟨r,H5,j7,ch,K,rfl,i6,j9,j8,x8,t8,y4,r9⟩:=RS s u sA.ok sB.ok (by omega) (by omega) st b_ cx cy g m A;have k5:∀(i:Nat) y,A[i]?=aa y→H5[i]?=aa y:=fun i y v=>by rw [j8 i (aj v)];exact v
  have p5:=k5 _ _ p4;have o:=c_.bf j8;have L5:=qx p5;obtain⟨r,H6,I,n,rfl,n0,n1,g_,x9⟩:=G0 s u st o g0 (fun x hx=>by have:=hX.2.2.1 x hx;omega) (by omega) (by omega);have k6:∀(i:Nat) y,H5[i]?=aa y→H6[i]?=aa y:=fun i y v=>by rw [g_ i (aj v)];exact v
  have p6:=k6 _ _ p5;have L6:=qx p6;have t7:K.length≤100:=by omega
  have lh:bg H5 ch=aa K.length:=by have:=i6.len;simpa [ints]using this
  apply ai;simp [B,L4.RX,-ay,j7.eq];apply ai;simp [B,lh,L5.RX,-ay,I.eq,aM (n:=(K.length:Int)+n)];obtain⟨ka,y7,y8,f7⟩:=vf s sA.ok (by omega) (by omega) st (by omega) (by omega);obtain⟨kb,y9,y_,f8⟩:=vf u sB.ok (by omega) (by omega) st (by omega) (by omega);simp only [aE.row,ajd,ajt]at f7 f8;have lX:bg H6 cx=aa X.length:=by have:=(o.bf g_).lx.len;simpa [ints]using this
  have lY:bg H6 cy=aa Y.length:=by have:=(o.bf g_).ly.len;simpa [ints]using this
  have d1:bM .quo (vi P) (vi s.aJ)=aa (vi (P / s.aJ)):=e9 (by omega) (by omega) (by omega);have d2:bM .quo (vi P) (vi u.aJ)=aa (vi (P / u.aJ)):=e9 (by omega) (by omega) (by omega);have e1:0≤P / s.aJ∧P / s.aJ≤12:=⟨ake (by omega) (by omega),akk (akm _ (by omega)) E⟩
  have e2:0≤P / u.aJ∧P / u.aJ≤12:=⟨ake (by omega) (by omega),akk (akm _ (by omega)) E⟩
  have m1:0≤(X.length:Int)*(P / s.aJ)∧(X.length:Int)*(P / s.aJ)≤12*12:=⟨akf (by omega) e1.1,ako (by omega) e1.2 e1.1 (by omega)⟩
  have m2:0≤(Y.length:Int)*(P / u.aJ)∧(Y.length:Int)*(P / u.aJ)≤12*12:=⟨akf (by omega) e2.1,ako (by omega) e2.2 e2.1 (by omega)⟩
  obtain⟨u1,h_⟩:=aL ((X.length:Int)*(P / s.aJ));obtain⟨u2,i3⟩:=aL ((Y.length:Int)*(P / u.aJ));rw [←h_]at m1;rw [←i3]at m2;apply ai;simp [B,L6.la,L6.jV,L6.lx,L6.lap,-ay,f7,lX,d1,←h_,aM (n:=u1),aM (n:=ka+u1)];apply ai;simp [B,L6.lb,L6.jV,L6.ly,L6.lbp,-ay,f8,lY,d2,←i3,aM (n:=u2),aM (n:=kb+u2)];obtain⟨O,m_⟩:=aL ((K.length:Int)+n);obtain⟨p,n6⟩:=aL (ka+u1);obtain⟨v2,n8⟩:=aL (kb+u2);rw [←m_,←n6,←n8];have b0:0≤O∧O≤12100:=by omega
  have b1:0≤p∧p≤60000:=by omega
  have b2:0≤v2∧v2≤60000:=by omega
  suffices z:∀ t:T,t.g 2=vi j→t.g 6=.c (.ptr 2 0 0)→t.g 8=.c (.ptr bp 0 0)→t.g 9=vi P→t.g 11=.c ch→t.g 12=vi O→t.g 13=vi p→t.g 14=vi v2→WP tab 135 ab [.code tP] ⟨t,[],H6⟩ Q by exact z _ (by simp [g2]) (by simp [g6]) (by simp [B]) (by simp) (by simp) (by simp) (by simp) (by simp)
  clear f7 f8 d1 d2 e1 e2 m1 m2 h_ i3 m_ n6 n8 lX lY j7 I;clear g2 g6 B t;intro t g2 g6 B g9 o4 o5 o6 o7;apply aq;apply ai;simp [o5,o6,o7,aM (n:=p+v2),aM (n:=p+v2-O),aM (n:=p-O)];obtain⟨U,a7⟩:=aL (H6++[bZ.box [.f (fi O),.f (fi (p+v2-O)),.f (fi (p-O))] 0]);obtain⟨bc,j3⟩:=aL (H6.length);rw [←a7,←j3];have c7:U[bc]?=aa (.box [.f (fi O),.f (fi (p+v2-O)),.f (fi (p-O))] 0):=by rw [a7,j3];simp
  have k7:∀(i:Nat) y,H6[i]?=aa y→U[i]?=aa y:=fun i y v=>by rw [a7,AT (aj v)];exact v
  have i4:∀ i:Nat,i<A.length→U[i]?=A[i]?:=fun i hi=>by
   have v:A[i]?=aa A[i]:=By hi;rw [v];exact k7 i _ (k6 i _ (k5 i _ v))
  have l7:A.length≤U.length:=by rw [a7,ai7];omega
  have o0:∃ w:Int,bz U 1 (aa 3) (.c (.ptr bc 0 0)) (vi j)=aa (.c (.ptr bc j.toNat 0))∧aU U ab (.c (.ptr bc j.toNat 0))=aa (vi w)∧w≤1048576:=by
   rcases hk with⟨rfl,-⟩ | ⟨rfl,-⟩
   ·exact⟨O,by simp [bz,c7,fS],by simp [aU,aC,c7,aW],by omega⟩
   ·exact⟨p+v2-O,by simp [bz,c7,fS],by simp [aU,aC,c7,aW],by omega⟩
  obtain⟨w,ci,cl,cw⟩:=o0;apply ai;simp [g2,ci,cl,-ay,show¬ 1048576<w by omega];refine a6 (by simp) ?_;apply ai;simp;apply aq;apply ai;simp;refine az ?_;have p7:=k7 _ _ p6;have L7:=qx p7;have rest:∀(t:T) (J:an) (c:C) (L:List Int),t.g 6=.c (.ptr 2 0 0)→t.g 8=.c (.ptr bp 0 0)→t.g 9=vi P→t.g 16=.c c→LR J c 1 (ints L)→L.length≤256→(∀ d,d ∈ L↔0≤d∧d<st+P∧f (bF s d) (bF u d)=ae)→(∀ i:Nat,i<A.length→J[i]?=A[i]?)→WP tab 135 ab [.code pA] ⟨t,[],J⟩ Q:=by
   intro t J c L g6 B g9 o8 hL o9 o_ hJ;exact wu f sA.ok sB.ok b_ e_ (by omega) E i_ (by omega) r_ hL o9 o_ (by rw [hJ 2 (by omega)];exact z4) (by rw [hJ bp (by omega)];exact p4) (by omega) g6 B g9 o8 hQ
  rcases hk with⟨rfl,rfl⟩ | ⟨rfl,rfl⟩
  ·
   obtain⟨r,H8,r8,c,M,rfl,e,-,p_,x_,u7,i7,i8⟩:=Sc (L0:=K) (ch:=ch) (H:=U) s u st c_ i4 l7 (i6.bf fun i y v _=>k7 i y (k6 i y v)) j9 hg q3 w3 hP E (fun x hx=>hX.2.2.1 x hx) (fun y v=>hY.2.2.1 y v) p8 p9 (by omega) (by omega) (by omega);apply ai;simp [g2];refine aw (by simp) (au (.inl rfl) ?_);simp [B,o4,L7.RX,-ay,r8.eq];refine ax (rest _ H8 c (K++M) (by simp [g6]) (by simp [B]) (by simp [g9]) (by simp) e (by rw [ai7];omega) (fun d=>?_) p_);rw [aja,r9];simp only [BY];constructor
   ·rintro(⟨h0,h1,S,h3⟩ | h)
    ·exact⟨h0,by omega,S,h3⟩
    ·obtain⟨k,rfl,k0,k1,ka,kb⟩:=i7 d h;obtain⟨s1,s2⟩:=te (P:=P) q3 w3 b_ hX hY k0;exact⟨by omega,by omega,s1.2 ka,s2.2 kb⟩
   ·rintro⟨h0,h1,S,h3⟩;by_cases hd:d<st
    ·exact .inl ⟨h0,hd,S,h3⟩
    ·obtain⟨s1,s2⟩:=te (P:=P) q3 w3 b_ hX hY (k:=d-st) (by omega);rw [show st+(d-st)=d by omega]at s1 s2;have:=i8 (d-st) (by omega) (by omega) (s1.1 S) (s2.1 h3);rw [show st+(d-st)=d by omega]at this;exact .inr this
  ·
   obtain⟨L1,g1,n9,s7,j_⟩:=vt s sA.ok (by omega) (by omega) 0 (st+P) (by omega) (by omega) (by omega);obtain⟨L2,d_,n_,s_,k_⟩:=vt u sB.ok (by omega) (by omega) 0 (st+P) (by omega) (by omega) (by omega);simp only [aE.row,ajd,ajt]at n9 n_;have w_:L1.length≤62:=by
    have:=mW L1 0 (st+P) s7 fun x hx=>by have:=(j_ x).1 hx;unfold SW at this;omega
    omega
   have x6:L2.length≤62:=by
    have:=mW L2 0 (st+P) s_ fun x hx=>by have:=(k_ x).1 hx;unfold SW at this;omega
    omega
   apply ai;simp [g2];refine aG (by simp) ?_;apply ai;simp;refine aw (by simp) (au (.inl rfl) ?_);obtain⟨H8,a8⟩:=aL (U++[bZ.box [.f (sl g1 (ints L1)),.f (sl d_ (ints L2))] 0]);have c8:H8[U.length]?=aa (.box [.f (sl g1 (ints L1)),.f (sl d_ (ints L2))] 0):=by rw [a8];simp
   have j4:(ints L1++ints L2)=ints (L1++L2):=by simp [ints]
   obtain⟨r,H9,I,c,rfl,e,q_,-,-⟩:=ui (tab:=tab) (H:=H8) (F:=180) (G:=219) (sz:=1) (bytes:=8) (zs:=[fi 0]) abC abG (by decide) rfl (b:=U.length) [(.f (sl g1 (ints L1)),ints L1),(.f (sl d_ (ints L2)),ints L2)] c8 (by simp)
    (fun x hx=>by
     simp only [ajB,List.not_mem_nil,or_false]at hx;rcases hx with rfl | rfl
     ·exact⟨Km.Ord.bP _,fun H' _=>⟨by simp,oi (Km.Ord.bP _)⟩⟩
     ·exact⟨Km.Ord.bP _,fun H' _=>⟨by simp,oi (Km.Ord.bP _)⟩⟩)
    (by simp [ints];omega) (dF (by simp [ints];omega) (by decide))
   have e:LR H9 c 1 (ints (L1++L2)):=by
    rw [←j4];simpa using e
   have I:Ev tab (.fn 180) [.c (.sl U.length 0 2 2 0 1)] H8 (.c c) H9:=I;simp [B,g9,L7.la,L7.lb,L7.jV,-ay,aM (n:=st+P),n9,n_,←a8,I.eq];refine ax (rest _ H9 c (L1++L2) (by simp [g6]) (by simp [B]) (by simp [g9]) (by simp) e (by rw [ai7];omega) (fun d=>?_) fun i hi=>?_)
   ·rw [aja,j_,k_];unfold SW;simp only [Bool.or_eq_true];constructor
    ·rintro(⟨h0,h1,S⟩ | ⟨h0,h1,S⟩)
     ·exact⟨h0,h1,.inl S⟩
     ·exact⟨h0,h1,.inr S⟩
    ·rintro⟨h0,h1,S | S⟩
     ·exact .inl ⟨h0,h1,S⟩
     ·exact .inr ⟨h0,h1,S⟩
   ·rw [q_ i (by rw [a8,ai7];omega),a8,AT (by omega)];exact i4 i hi
 exact⟨q,c1,c2,c3,c4,h.eq⟩
theorem aa9(a b:aE)(E:nv a)(F:nv b){R:Int}(j:0<R)(l:R≤12)(m:a.aJ ∣ R)(s:b.aJ ∣ R) :
  ∃ q,cu q=ae∧q.fr≤max a.fr b.fr∧q.aJ ∣ R∧(∀ d,0≤d→bF q d=(bF a d&&bF b d))∧bR tab 155 [.a (a.row.map .f),.a (b.row.map .f)]=Eq (.t [.a (q.row.map .f),vi 0]):=by
 obtain⟨q,u,v,z,A,g⟩:=sK a b E F j l m s 0 (fun x y=>x&&y) (.inl ⟨rfl,rfl⟩);refine⟨q,u,v,z,A,bR.eq (bY rfl rfl fun Q B=>?_)⟩;simp only [aE.row,ajd,ajt]at g ⊢;apply ai;simp;apply ai;simp [g];refine aF (B _ _ ?_);simp [aE.row]
theorem afr(a b:aE)(E:nv a)(F:nv b){R:Int}(j:0<R)(l:R≤12)(m:a.aJ ∣ R)(s:b.aJ ∣ R) :
  ∃ q,cu q=ae∧q.fr≤max a.fr b.fr∧q.aJ ∣ R∧(∀ d,0≤d→bF q d=(bF a d||bF b d))∧bR tab 113 [.a (a.row.map .f),.a (b.row.map .f)]=Eq (.t [.a (q.row.map .f),vi 0]):=by
 obtain⟨q,u,v,z,A,g⟩:=sK a b E F j l m s 1 (fun x y=>x||y) (.inr ⟨rfl,rfl⟩);refine⟨q,u,v,z,A,bR.eq (bY rfl rfl fun Q B=>?_)⟩;simp only [aE.row,ajd,ajt]at g ⊢;apply ai;simp;apply ai;simp [g];refine aF (B _ _ ?_);simp [aE.row]
def cN(p:aE):List C:=[.f (sl p.hg (ints p.head)),.f (fi p.fr),.f (fi p.aJ),.f (sl p.cg (ints p.a5))]
theorem ed(p:aE):cN p=p.row.map .f:=rfl
theorem oA(n:Nat)(J:an)(p:aE):aZ (et n J) (cN p)=aa p.row:=by rw [ed,mo]
theorem oS(n:Nat)(J:an)(p:aE):List.foldl (fun H x=>eK n x H) J (cN p)=J:=by
 rw [ed,iY];intro x b;obtain⟨y,-,rfl⟩:=ajj.1 b;exact⟨y,rfl⟩
def cZ(ps:List aE):List (List C):=ps.map cN
theorem ef(ps:List aE):(cZ ps).length=ps.length:=by simp [cZ]
theorem dZ(ps:List aE):qf 4 (cZ ps):=fun r b=>by
 obtain⟨p,-,rfl⟩:=ajj.1 b;rfl
theorem nV(ps:List aE):(cZ ps).flatten=(aH ps).flatten.map .f:=by
 induction ps with
 | nil=>rfl
 | cons p ps g=>
  have b:cZ (p::ps)=cN p::cZ ps:=rfl;have d:aH (p::ps)=p.row::aH ps:=rfl;rw [b,d,ajs,ajs,akp,g,ed]
theorem pV(a b:List aE):cZ (a++b)=cZ a++cZ b:=by simp [cZ]
theorem It(ps:List aE)(j:Nat):(cZ ps).eraseIdx j=cZ (ps.eraseIdx j):=by
 rw [aj0,aj0,pV];simp [cZ,akQ,ak0]
def zp:aE:=⟨.nil,[],0,0,.nil,[]⟩
def BX(J:an)(b cap:Nat)(ps:List aE):Prop:=∃ rest,J[b]?=aa (.box ((cZ ps).flatten++rest) 0)∧((cZ ps).flatten++rest).length=cap*4
section
variable{J:an}{b cap:Nat}{ps:List aE}
theorem BX.lt(h:BX J b cap ps):b<J.length:=by obtain⟨_,h,_⟩:=h;exact aj h
theorem BX.push(h:BX J b cap ps)(L:an):BX (J++L) b cap ps:=by
 have:=h.lt;obtain⟨r,h1,h2⟩:=h;exact⟨r,by rw [AT this];exact h1,h2⟩
theorem BX.len(h:BX J b cap ps):bg J (.sl b 0 ps.length cap 0 4)=aa ps.length:=by
 obtain⟨r,h1,h2⟩:=h;simp [bg,h1]
theorem adR{rest:List C}{i:Nat}(hi:i<ps.length):(((cZ ps).flatten++rest).drop (i*4)).take 4=cN ps[i]:=by
 have b:=cX (dZ ps);rw [ef]at b;rw [aka (by omega),kU i (dZ ps)];have e:(cZ ps).drop i=cN ps[i] ::(cZ ps).drop (i+1):=by
  rw [ajh (by rw [ef];exact hi)];simp [cZ]
 rw [e,ajs,ajI,ajG (by simp [cN])];exact ajl (by simp [cN])
theorem BX.at(h:BX J b cap ps){i:Nat}(hi:i<ps.length):bz J 4 ab (.c (.sl b 0 ps.length cap 0 4)) (vi i)=aa (.c (.ptr b (i*4) 0))∧aU J (aa 4) (.c (.ptr b (i*4) 0))=aa (.a (cN ps[i])):=by
 obtain⟨r,h1,h2⟩:=h;refine⟨?_,?_⟩
 ·simp [bz,show fS (vi i)=aa (i:Int) from rfl,h1,hi]
 ·have hl:=cX (dZ ps);rw [ef]at hl;have:=adR (rest:=r) hi;simp only [aU,aC,h1,ajC,aW];rw [ba (by rw [ajm,ai7];omega),this]
theorem BX.st(h:BX J b cap ps){i:Nat}(hi:i<ps.length)(q:aE):∃ J',di J (.ptr b (i*4) 0) (cN q)=aa J'∧BX J' b cap (ps.set i q)∧J'.length=J.length∧∀ k:Nat,k≠b→J'[k]?=J[k]?:=by
 obtain⟨r,h1,h2⟩:=h;have hl:=cX (dZ ps);rw [ef]at hl;have ho:over ((cZ ps).flatten++r) (i*4) (cN q)=(cZ (ps.set i q)).flatten++r:=by
  have d:(cZ ps).flatten=(cZ (ps.take i)).flatten++cN ps[i]++(cZ (ps.drop (i+1))).flatten:=by
   have:ps=ps.take i++ps[i]::ps.drop (i+1):=by rw [←ajh hi,ajR]
   conv=>lhs;rw [this]
   rw [pV,aki,ajI];rfl
  have g:(cZ (ps.set i q)).flatten=(cZ (ps.take i)).flatten++cN q++(cZ (ps.drop (i+1))).flatten:=by
   rw [akS,ba hi,pV,aki,ajI];rfl
  have j:((cZ (ps.take i)).flatten).length=i*4:=by rw [cX (dZ _),ef,ajF];omega
  rw [d,g,←j,ajI,ajI,zf];rw [aka (by simp [cN])];have:(cN ps[i]).drop (cN q).length=[]:=by simp [cN]
  rw [this,ajZ];simp only [ajI]
 refine⟨_,?_,⟨r,If (aj h1),?_⟩,by simp,fun k l=>sh (Ne.symm l)⟩
 ·simp only [di,h1];rw [ba ⟨akh _,by rw [ai7,hl];simp [cN];omega⟩,ho]
 ·rw [ai7,cX (dZ _),ef,ajp];rw [ai7,hl]at h2;exact h2
theorem BX.del(h:BX J b cap ps){j:Nat}(q:j<ps.length)(g:cap≤1000000) :
  ∃ r H',Ev tab (.fn 156) [.c (.sl b 0 ps.length cap 0 4),vi j,vi (j+1:Nat)] J r H'∧(r=.c (.sl b 0 (ps.eraseIdx j).length cap 0 4)∧BX H' b cap (ps.eraseIdx j)∧H'.length=J.length∧∀ k:Nat,k≠b→H'[k]?=J[k]?):=by
 obtain⟨rest,h1,h2⟩:=h;obtain⟨r,H',m,s,d,rfl,hl⟩:=XM (tab:=tab) (F:=156) (sz:=4) (bytes:=64) (zs:=[.aA,fi 0,fi 0,.aA]) abE (by decide) rfl (dZ ps) h1 h2 (j:=j) (by rw [ef];exact q) g;rw [ef]at m s;have e:(cZ ps).eraseIdx j=cZ (ps.eraseIdx j):=It ps j;rw [e]at hl;rw [e]at m;have l:(ps.eraseIdx j).length=ps.length-1:=by rw [akT,ba q]
 exact⟨r,_,m,by rw [s,l],⟨d,If (aj h1),hl⟩,by simp,fun k u=>sh (Ne.symm u)⟩
theorem BX.ex(h:BX J b cap ps)(h0:ps≠[])(n:Nat):et (n+1) J (.sl b 0 ps.length cap 0 4)=aa (sl .fs (aH ps)):=by
 obtain⟨r,h1,h2⟩:=h;have hl:=cX (dZ ps);rw [ef]at hl;simp only [jQ,h1];rw [ba (by rw [ai7];omega),aj4,ajG (by omega),ajl (by omega),nV,mo];cases ps with
 | nil=>exact absurd rfl h0| cons p ps=>simp [sl,aH]
end
theorem rJ(p q:aE)(j:1≤p.aJ)(l:p.aJ≤1000000)(m:1≤q.aJ)(s:q.aJ≤1000000):bR tab 112 [.a (cN p),.a (cN q)]=Eq (vb (decide (p.aJ % q.aJ=0)||decide (q.aJ % p.aJ=0))):=by
 have d:bM .rem (vi p.aJ) (vi q.aJ)=aa (vi (p.aJ % q.aJ)):=eP (by omega) (by omega);have g:bM .rem (vi q.aJ) (vi p.aJ)=aa (vi (q.aJ % p.aJ)):=eP (by omega) (by omega);refine bR.eq (bY rfl rfl fun Q b=>?_);apply ai;simp [cN];apply ai;by_cases h:p.aJ % q.aJ=0
 ·simp [d,h];refine aF (b _ _ ?_);simp [h]
 ·simp [d,g,h];refine aF (b _ _ ?_);simp [h]
def fh(ps:List aE)(d:Int):Prop:=∀ p ∈ ps,bF p d=ae
theorem eE(a b:List aE)(d:Int):fh (a++b) d↔fh a d∧fh b d:=by
 unfold fh;constructor
 ·intro h;exact⟨fun p g=>h p (ajM _ g),fun p g=>h p (akx _ g)⟩
 ·rintro⟨j,l⟩ p g;rcases aja.1 g with h | h
  ·exact j p h
  ·exact l p h
theorem nv.can{p q:aE}(h:nv p)(b:lL p q):nv q:=⟨b.ok,by have:=b.fr;have:=h.fr;omega,by have:=aj7 (by have:=(aV h.ok).2.2.1;omega) b.aJ;have:=h.aJ;omega⟩
theorem H7{ps:List aE}{i j:Nat}(y:i<j)(z:j<ps.length){q:aE}(E:∀ d,0≤d→bF q d=(bF (ps[i]'(by omega)) d&&bF ps[j] d))(d:Int)(v:0≤d):fh ((ps.set i q).eraseIdx j) d↔fh ps d:=by
 have hi:i<ps.length:=by omega
 have m:ps=ps.take i++ps[i] ::((ps.drop (i+1)).take (j-(i+1))++ps[j]::ps.drop (j+1)):=by
  conv=>lhs;rw [←ajR i ps,ajh hi]
  congr 2
  conv=>lhs;rw [←ajR (j-(i+1)) (ps.drop (i+1)),akn]
  rw [show i+1+(j-(i+1))=j by omega,ajh z]
 have s:(ps.set i q).eraseIdx j=ps.take i++q ::((ps.drop (i+1)).take (j-(i+1))++ps.drop (j+1)):=by
  have u:ps.set i q=ps.take i++q::ps.drop (i+1):=by rw [akS,ba hi]
  have B:(ps.take i).length=i:=by rw [ajF];omega
  rw [u,ali (by omega),B]
  congr 1
  obtain⟨k,A⟩:∃ k,j-i=k+1:=⟨j-i-1,by omega⟩
  rw [A,List.eraseIdx_cons_succ,aj0,akn];rw [show j-(i+1)=k by omega,show i+1+(k+1)=j+1 by omega]
 have F:=E d v;rw [s]
 conv=>rhs;rw [m]
 rw [eE,eE];have c:∀(x:aE) l,fh (x::l) d↔bF x d=ae∧fh l d:=fun x l=>by simp [fh]
 rw [c,c,eE,eE,c,F,BY];constructor
 ·rintro⟨a,⟨b,e⟩,f,g⟩;exact⟨a,b,f,e,g⟩
 ·rintro⟨a,b,f,e,g⟩;exact⟨a,⟨b,e⟩,f,g⟩
theorem H_{ps:List aE}{i j:Nat}{q:aE}(g:∀ p ∈ ps,nv p)(d:nv q):∀ p ∈ (ps.set i q).eraseIdx j,nv p:=fun p b=>by
 have:=List.mem_of_mem_eraseIdx b;rcases List.mem_or_eq_of_mem_set this with h | rfl
 ·exact g p h
 ·exact d
structure MG(us ps:List aE):Prop where
 ne:ps≠[]
 le:ps.length≤us.length
 sm:∀ p ∈ ps,nv p
 mem:∀ d,0≤d→(fh ps d↔fh us d)
theorem Ia(g:Tg)(us:List aE)(j7:∀ u ∈ us,nv u)(h0:us≠[])(hl:us.length≤64):∃ ps,MG us ps∧bR tab 111 [.c (.f (sl g (aH us)))]=Eq (.c (.f (sl .fs (aH ps)))):=by
 obtain⟨r,⟨ps,i4,rfl⟩,h⟩:∃ r,(∃ ps,MG us ps∧r=.c (.f (sl .fs (aH ps))))∧bR tab 111 [.c (.f (sl g (aH us)))] r:=by
  refine fu rfl rfl fun Q hQ=>?_;have m_:=ajE.2 h0;obtain⟨n,hn⟩:=aL (us.length);have Y:∀ H:an,bg H (.f (sl g (aH us)))=aa n:=fun H=>by rw [hn];simp
  apply ai;simp;refine jU (ai ?_);have j4:∀(t:T) (H:an),t.g 11=vi n→bC t H (.dD 4 64 [.aA,fi 0,fi 0,.aA] (R 11) (R 11))=aa (.c (.sl H.length 0 n n 0 4),H++[.box ((cB n [FC.aA,fi 0,fi 0,.aA]).map .f) 0]):=by
   intro t H ht;simp only [bC,ry,ht];have hi:fS (vi n)=aa (n:Int):=rfl;simp only [hi];rw [ba ⟨by omega,aky _,dF (by simp;omega) (by decide),rfl⟩,aR (by omega)];simp
  simp [Y,j4];obtain⟨HA,e_⟩:=aL ([bZ.box (List.replicate n [C.f FC.aA,C.f (fi 0),C.f (fi 0),C.f FC.aA]).flatten 0]);have i8:BX HA 0 n ([]++List.replicate n zp):=by
   refine⟨[],?_,?_⟩
   ·rw [e_,ajZ,ajP];have:cZ (List.replicate n zp)=List.replicate n [C.f FC.aA,C.f (fi 0),C.f (fi 0),C.f FC.aA]:=by
     rw [cZ,List.map_replicate];rfl
    rw [this];rfl
   ·rw [ajZ,ajP,cX (dZ _),ef,ak4]
  rw [←e_];apply aq;apply ai;simp [Y];refine bU n (fun j t J=>t.g 3=.c (.sl 0 0 n n 0 4)∧t.g 13=.c (.f (sl g (aH us)))∧∃ qs,qs.length=j∧BX J 0 n (qs++List.replicate (n-j) zp)∧(∀ q ∈ qs,nv q)∧∀ d,0≤d→(fh qs d↔fh (us.take j) d)) (by omega) (by decide) (by decide) (by simp) (by simp)
   ⟨by simp,by simp,[],rfl,by simpa using i8,by simp,fun d _=>by simp⟩ ?_ ?_
  ·rintro j t J hj ⟨y,a8,qs,v,K,c9,O⟩ ha hb next
   have b_:j<us.length:=by omega
   have F:=fun H:an=>bH (H:=H) (g:=g) (rows:=aH us) (sz:=4) (k:=.i64) (i:=(j:Int)) (by omega) (by simp;omega);have c_:=fun H:an=>dr (H:=H) (bA us) (cF b_);simp only [ajA]at F;have E:=j7 _ (IT b_);have i6:us.take (j+1)=us.take j++[us[j]]:=by rw [aju,By b_];rfl
   obtain⟨u,hu⟩:=aL (us[j]);rw [←hu]at c_ E i6;obtain⟨q,hq,-,-,U⟩:=QW u E.ok (by have:=E.a5;omega) (by have:=E.head;omega);simp only [aE.row,ajd,ajt]at c_ U;obtain⟨Z,l⟩:=aL (J++[bZ.box [C.f (sl u.hg (ints u.head)),C.f (fi u.fr),C.f (fi u.aJ),C.f (sl u.cg (ints u.a5))] 0]);have A:BX Z 0 n (qs++List.replicate (n-j) zp):=by rw [l];exact K.push _
   have j3:(qs++List.replicate (n-j) zp).length=n:=by rw [ai7,ak4];omega
   have b1:Z[J.length]?=aa (.box [C.f (sl u.hg (ints u.head)),C.f (fi u.fr),C.f (fi u.aJ),C.f (sl u.cg (ints u.a5))] 0):=by rw [l];simp
   have l1:aU Z (aa 4) (.c (.ptr J.length 0 0))=aa (.a [C.f (sl u.hg (ints u.head)),C.f (fi u.fr),C.f (fi u.aJ),C.f (sl u.cg (ints u.a5))]):=by simp [aU,aC,b1,aW]
   obtain⟨i7,-⟩:=A.at (i:=j) (by omega);obtain⟨J2,s2,a_,-,-⟩:=A.st (i:=j) (by omega) q;rw [j3]at i7;simp only [cN]at s2;refine az ?_;apply ai;simp [ha,a8,F,c_,-ay];rw [←l];refine au (.inl rfl) ?_;simp [y,l1,-ay,U,i7,s2,-bu];refine ax (next _ _ ?_ (by simp [ha]) (by simp [hb]));refine⟨by simp [y],by simp [a8],qs++[q],by simp [v],?_,fun x hx=>?_,fun d hd=>?_⟩
   ·have e:(qs++List.replicate (n-j) zp).set j q=qs++[q]++List.replicate (n-(j+1)) zp:=by
     obtain⟨k,hk⟩:∃ k,n-j=k+1:=⟨n-j-1,by omega⟩
     rw [List.set_append_right _ _ (by omega),v,Nat.sub_self,hk,List.replicate_succ,List.set_cons_zero,show n-(j+1)=k by omega,ajI];rfl
    rw [←e];exact a_
   ·rcases aja.1 hx with h | h
    ·exact c9 x h
    ·rw [ai9]at h;rw [h];exact E.can hq
   ·rw [i6,eE,eE,O d hd];simp only [fh,ai9,forall_eq];rw [hq.mem d hd]
  ·rintro t J ⟨y,a8,qs,v,K,c9,O⟩ - -;rw [Nat.sub_self,List.replicate_zero,ajP]at K;rw [hn,ajr]at O;have a7:∀(N:Nat) (ps:List aE) (t:T) (J:an),ps.length=N→t.g 3=.c (.sl 0 0 ps.length n 0 4)→BX J 0 n ps→MG us ps→WP tab 111 ab [.code xB,.inScope Be] ⟨t,[],J⟩ Q:=by
    intro N;induction N using Nat.strongRecOn with
    | ind N ih=>
    intro ps t J hN y K hG;have i4:=hG.le;obtain⟨M,hM⟩:=aL (ps.length);rw [←hM]at y;have I:=K.len;rw [←hM]at I;apply aq;apply ai;simp [y,I];refine bU M (fun i t J'=>J'=J∧t.g 3=.c (.sl 0 0 M n 0 4)) (by omega) (by decide) (by decide) (by simp) (by simp) ⟨rfl,by simp [y]⟩ ?_ ?_
    ·rintro i t J' hi ⟨rfl,y⟩ ha hb next
     refine az ?_;apply ai;simp [ha];apply ai;simp [aM (n:=(i:Int)+1)];refine az ?_;refine bJ (fun m s=>∃(j:Nat) (t':T),s=⟨t',[],J'⟩∧m=M-j∧i<j∧j≤M∧t'.g 3=.c (.sl 0 0 M n 0 4)∧t'.g 6=vi i∧t'.g 7=vi j∧t'.g 30=t.g 30∧t'.g 31=t.g 31) (M-(i+1))
      ⟨i+1,_,rfl,rfl,by omega,by omega,by simp [y],by simp,by simp,by simp,by simp⟩ ?_
     rintro m s ⟨j,t',rfl,rfl,i_,m9,b,L,z,d9,d_⟩ j8;apply aq;apply ai;simp [b,z,I];by_cases hj:j<M
     ·refine aw (by simp [hj]) (aP ?_);obtain⟨xi,li⟩:=K.at (i:=i) (by omega);obtain⟨xj,lj⟩:=K.at (i:=j) (by omega);rw [←hM]at xi xj;have h_:i<ps.length:=by omega
      have i3:j<ps.length:=by omega
      have si:=hG.sm _ (IT h_);have sj:=hG.sm _ (IT i3);have j9:=(aV si.ok).2.2.1;have k_:=(aV sj.ok).2.2.1;have j_:=si.aJ;have l_:=sj.aJ;have W:=rJ ps[i] ps[j] j9 (by omega) k_ (by omega);obtain⟨dv,f8⟩:=aL ((decide (ps[i].aJ % ps[j].aJ=0)||decide (ps[j].aJ % ps[i].aJ=0)):Bool);rw [←f8]at W;apply aq;refine az ?_;apply aq;apply ai;simp [b,L,z,xi,xj,li,lj,-ay,oA,oS,←ed,W];cases dv with
      | true=>
       have hd:ps[i].aJ % ps[j].aJ=0∨ps[j].aJ % ps[i].aJ=0:=by simpa using f8.symm
       have hR:∃ R:Int,0<R∧R≤12∧ps[i].aJ ∣ R∧ps[j].aJ ∣ R:=by
        rcases hd with h | h
        ·exact⟨ps[i].aJ,by omega,j_,akw _,akr h⟩
        ·exact⟨ps[j].aJ,by omega,l_,akr h,akw _⟩
       obtain⟨R,R0,R1,Ra,Rb⟩:=hR;obtain⟨q,c1,c2,c3,c4,S⟩:=aa9 ps[i] ps[j] si sj R0 R1 Ra Rb;have sq:nv q:=⟨c1,by have:=si.fr;have:=sj.fr;omega,akk (aj7 R0 c3) R1⟩
       simp only [←ed]at S;obtain⟨Z,l⟩:=aL (J'++[bZ.box (cN q) 0]);have A:BX Z 0 n ps:=by rw [l];exact K.push _
       have b1:Z[J'.length]?=aa (.box (cN q) 0):=by rw [l];simp
       have l1:aU Z (aa 4) (.c (.ptr J'.length 0 0))=aa (.a (cN q)):=by simp [aU,aC,b1,aW,cN]
       obtain⟨F,-⟩:=A.at (i:=i) (by omega);rw [←hM]at F;obtain⟨J2,s2,a_,-,-⟩:=A.st h_ q;obtain⟨r,J3,B,rfl,i9,-,-⟩:=a_.del (j:=j) (by rw [ajp];omega) (by omega);rw [ajp,←hM]at B;have g_:(cN q).length=4:=rfl;refine a6 (by simp) ?_;apply ai;simp [b,L,z,xi,xj,li,lj,-ay,oA,oS,←ed,S,g_];rw [←l];apply ai;simp;refine aw (by simp) ?_;apply ai;simp [b,L,l1,F,s2,g_,-ay,-bu];apply ai;have ej:((j+1:Nat):Int)=(j:Int)+1:=by omega
       rw [ej]at B;simp [b,z,aM (n:=(j:Int)+1),B.eq];refine Yr rfl (aq (aP ?_));have X:((ps.set i q).eraseIdx j).length=ps.length-1:=by rw [akT,ba (by rw [ajp];omega),ajp]
       refine ih _ (by omega) ((ps.set i q).eraseIdx j) _ J3 rfl ?_ i9 ⟨fun e=>by rw [e]at X;simp at X;omega,by omega,H_ hG.sm sq,fun d f7=>by rw [H7 i_ i3 c4 d f7];exact hG.mem d f7⟩;simp
      | false=>
       refine aw (by simp) ?_;refine bw rfl ?_;refine au (.inl rfl) ?_;simp [z,aM (n:=(j:Int)+1)];exact j8 (M-(j+1)) _ (by omega) ⟨j+1,_,rfl,rfl,by omega,by omega,by simp [b],by simp [L],by simp,by simp [d9],by simp [d_]⟩
     ·refine aG (by simp [hj]) ?_;refine bw rfl ?_;refine ax (next _ _ ⟨rfl,by simp [b]⟩ (by simp [d_,ha]) (by simp [d9,hb]))
    ·rintro t J' ⟨rfl,y⟩ - -;have f_:=K.ex hG.ne 63;rw [←hM]at f_;apply ai;simp [y];refine aF (hQ _ _ _ ⟨ps,hG,rfl⟩ ⟨rfl,.c (.sl 0 0 M n 0 4),dU (by simp),?_⟩);simp [mR,deep,f_]
   refine aq (oK ?_);exact a7 _ qs _ J rfl (by simp [y,v]) K ⟨by intro e;rw [e]at v;simp at v;omega,by omega,c9,O⟩
 exact⟨ps,i4,h.eq⟩
theorem oy(g g':Tg)(a b:List Int)(N:a.length≤1000000):bR tab 157 [.c (.f (sl g (ints a))),.c (.f (sl g' (ints b)))]=Eq (vb (decide (a=b))):=by
 have d:∀(H:an) (g:Tg) (l:List Int),bg H (.f (sl g (ints l)))=aa l.length:=fun H g l=>by simp [ints]
 refine bR.eq (bY rfl rfl fun Q z=>?_);apply ai;simp;apply aq;apply ai;simp [d];by_cases B:a.length=b.length
 ·refine a6 (by simp [B]) ?_;apply aq;apply ai;simp [d];refine bU a.length (fun j t J=>t.g 0=.c (.f (sl g (ints a)))∧t.g 1=.c (.f (sl g' (ints b)))∧∀(k:Nat) (h:k<j) (y:k<a.length),a[k]=b[k]'(by omega)) (by omega) (by decide) (by decide) (by simp) (by simp)
   ⟨by simp,by simp,fun k h=>by omega⟩ ?_ ?_
  ·rintro j t J M ⟨v,x,m⟩ K L next
   have A:j<b.length:=by omega
   have q:=fun H:an=>bH (H:=H) (g:=g) (rows:=ints a) (sz:=1) (k:=.i64) (i:=(j:Int)) (by omega) (by simp [ints];omega);have E:=fun H:an=>dY (H:=H) M;have s:=fun H:an=>bH (H:=H) (g:=g') (rows:=ints b) (sz:=1) (k:=.i64) (i:=(j:Int)) (by omega) (by simp [ints];omega);have F:=fun H:an=>dY (H:=H) A;simp at q s;refine az ?_;apply ai;simp [K];apply aq;refine au (.inl rfl) ?_;simp [v,x,q,s,E,F];by_cases u:a[j]=b[j]
   ·refine a6 (by simp [u]) ?_;refine ax (next _ _ ⟨by simp [v],by simp [x],fun k h y=>?_⟩ (by simp [K]) (by simp [L]));by_cases e:k=j
    ·subst e;exact u
    ·exact m k (by omega) y
   ·refine aw (by simp [u]) ?_;apply ai;simp;refine aF (z _ _ ?_);have:¬ a=b:=by intro e;subst e;exact u rfl
    simp [this]
  ·rintro t J ⟨v,x,m⟩ - -;have:a=b:=List.ext_getElem B fun k I y=>m k I I;apply ai;simp;refine aF (z _ _ ?_);simp [this]
 ·refine aw (by simp;omega) ?_;apply ai;simp;refine aF (z _ _ ?_);have:¬ a=b:=fun e=>B (by rw [e]);simp [this]
def qt(p q:aE):Bool:=decide (p.fr=q.fr∧p.aJ=q.aJ∧p.head=q.head∧p.a5=q.a5)
theorem RM(p q:aE)(y:p.head.length≤1000000)(z:p.a5.length≤1000000):Kf tab 117 [.a (cN p),.a (cN q)] (vb (qt p q)):=by
 have s:=fun g g'=>oy g g' p.head q.head y;have v:=fun g g'=>oy g g' p.a5 q.a5 z;refine dO rfl rfl fun H Q j=>?_;apply ai;simp [cN];apply ai;obtain⟨u,m⟩:=aL (decide (p.head=q.head));obtain⟨x,l⟩:=aL (decide (p.a5=q.a5));rw [←m]at s;rw [←l]at v;have A:qt p q=(decide (p.fr=q.fr)&&(decide (p.aJ=q.aJ)&&(u&&x))):=by
  rw [m,l];simp [qt]
 rw [A]at j;by_cases b:p.fr=q.fr
 ·by_cases d:p.aJ=q.aJ
  ·cases u with
   | true=>
    simp [b,d,s,v];refine aF (j _ _ ?_);simp [b,d]
   | false=>
    simp [b,d,s];refine aF (j _ _ ?_);simp [b,d]
  ·simp [b,d];refine aF (j _ _ ?_);simp [b,d]
 ·simp [b];refine aF (j _ _ ?_);simp [b]
theorem Hn{p q:aE}(h:qt p q=ae)(d:Int):bF p d=bF q d:=by
 obtain⟨b,g,j,l⟩:=of_decide_eq_true h;unfold bF;rw [b,g,j,l]
def fI:List aE→List aE→Bool
 | [],[]=>ae| p::s,q::t=>qt p q&&fI s t| _,_=>ag
theorem rQ:∀ {s t:List aE},fI s t=ae→∀ d,fh s d↔fh t d
 | [],[],_,d=>Iff.rfl
 | p::s,q::t,h,d=>by
  simp only [fI,BY]at h;have b:=rQ h.2 d;have c:∀(x:aE) l,fh (x::l) d↔bF x d=ae∧fh l d:=fun x l=>by simp [fh]
  rw [c,c,b,Hn h.1]
theorem kP:∀(s t:List aE),fI s t=ae↔∃ h:s.length=t.length,∀(k:Nat) (b:k<s.length),qt s[k] (t[k]'(by omega))=ae
 | [],[]=>⟨fun _=>⟨rfl,fun k b=>by simp at b⟩,fun _=>rfl⟩
 | [],q::t=>⟨fun h=>(by cases h),fun⟨h,_⟩=>(by simp at h)⟩
 | p::s,[]=>⟨fun h=>(by cases h),fun⟨h,_⟩=>(by simp at h)⟩
 | p::s,q::t=>by
  simp only [fI,BY,kP s t];constructor
  ·rintro⟨g,d,j⟩;refine⟨by simp [d],fun k b=>?_⟩;cases k with
   | zero=>exact g| succ k=>exact j k (by simpa using b)
  ·rintro⟨g,d⟩;exact⟨d 0 (by simp),by simpa using g,fun k b=>d (k+1) (by simpa using b)⟩
theorem Ho(g g':Tg)(s t:List aE)(hs:s.length≤1000000)(U:∀ p ∈ s,p.head.length≤1000000∧p.a5.length≤1000000):bR tab 116 [.c (.f (sl g (aH s))),.c (.f (sl g' (aH t))),.c (.f (.fn 117 []))]=Eq (vb (fI s t)):=by
 have d:∀(H:an) (g:Tg) (l:List aE),bg H (.f (sl g (aH l)))=aa l.length:=fun H g l=>by simp
 refine bR.eq (bY rfl rfl fun Q L=>?_);apply ai;simp;apply aq;apply ai;simp [d];by_cases S:s.length=t.length
 ·refine a6 (by simp [S]) ?_;apply aq;apply ai;simp [d];refine bU s.length (fun j x J=>x.g 1=.c (.f (sl g' (aH t)))∧x.g 2=.c (.f (.fn 117 []))∧x.g 15=.c (.f (sl g (aH s)))∧∀(k:Nat) (h:k<j) (F:k<s.length),qt s[k] (t[k]'(by omega))=ae) (by omega) (by decide) (by decide) (by simp) (by simp)
   ⟨by simp,by simp,by simp,fun k h=>by omega⟩ ?_ ?_
  ·rintro j x J N ⟨I,K,m,u⟩ W hb next
   have O:j<t.length:=by omega
   have z:=fun H:an=>bH (H:=H) (g:=g) (rows:=aH s) (sz:=4) (k:=.i64) (i:=(j:Int)) (by omega) (by simp;omega);have B:=fun H:an=>dr (H:=H) (bA s) (cF N);have A:=fun H:an=>bH (H:=H) (g:=g') (rows:=aH t) (sz:=4) (k:=.i64) (i:=(j:Int)) (by omega) (by simp;omega);have E:=fun H:an=>dr (H:=H) (bA t) (cF O);simp only [ajA]at z A;simp only [←ed]at B E;have Y:=U _ (IT N);have v:=RM s[j] t[j] Y.1 Y.2;have b:∀ p,(cN p).length=4:=fun _=>rfl;have Z:∀ p,List.take 4 (cN p)=cN p:=fun _=>rfl;refine az ?_;apply ai;simp [W,m,z,B,-ay,b];apply ai;simp [I,A,E,-ay,b];obtain⟨y,q⟩:=aL (J++[bZ.box (cN s[j]) 0,bZ.box (cN t[j]) 0]);have b8:y[J.length]?=aa (.box (cN s[j]) 0):=by rw [q];simp
   have b9:y[J.length+1]?=aa (.box (cN t[j]) 0):=by rw [q,List.getElem?_append_right (by omega)];simp
   have l8:aU y (aa 4) (.c (.ptr J.length 0 0))=aa (.a (cN s[j])):=by simp [aU,aC,b8,aW,b,Z]
   have l9:aU y (aa 4) (.c (.ptr (J.length+1) 0 0))=aa (.a (cN t[j])):=by simp [aU,aC,b9,aW,b,Z]
   rw [←q];obtain⟨JK,v⟩:=v y;apply ai;simp [K,l8,l9,-ay,v.eq];cases M:qt s[j] t[j]with
   | true=>
    refine a6 (by simp) ?_;refine ax (next _ _ ⟨by simp [I],by simp [K],by simp [m],fun k h F=>?_⟩ (by simp [W]) (by simp [hb]));by_cases e:k=j
    ·subst e;exact M
    ·exact u k (by omega) F
   | false=>
    refine aw (by simp) ?_;apply ai;simp;refine aF (L _ _ ?_);have:fI s t=ag:=by
     cases h:fI s t with
     | false=>rfl
     | true=>
      obtain⟨_,F⟩:=(kP s t).1 h;rw [F j N]at M;cases M
    simp [this]
  ·rintro x J ⟨I,K,m,u⟩ - -;apply ai;simp;refine aF (L _ _ ?_);have:fI s t=ae:=(kP s t).2 ⟨S,fun k X=>u k X X⟩;simp [this]
 ·refine aw (by simp;omega) ?_;apply ai;simp;refine aF (L _ _ ?_);have:fI s t=ag:=by
   cases h:fI s t with
   | false=>rfl| true=>exact absurd ((kP s t).1 h).1 S
  simp [this]
theorem acs(s t:List aE)(j:s.length≤1000000)(b:∀ p ∈ s,p.head.length≤1000000∧p.a5.length≤1000000)(g g':Tg):Kf tab 115 [.c (.f (sl g (aH s))),.c (.f (.fp [sl g' (aH t)] 0))] (vb (fI s t)):=by
 have h:=Ho g g' s t j b;refine dO rfl rfl fun H Q d=>?_;apply ai;simp;apply ai;simp [BW,h];refine aF (d _ _ ?_);simp
theorem RA(g g':Tg)(l:List (List aE))(u:l.length≤1000000)(b:∀ s ∈ l,s.length≤1000000∧∀ p ∈ s,p.head.length≤1000000∧p.a5.length≤1000000)(t:List aE) :
  bR tab 74 [.c (.f (sl g (l.map fun s=>[sl .fs (aH s)]))),.c (.f (.fn 115 [.fp [sl g' (aH t)] 0]))]=Eq (vb (l.any fun s=>fI s t)):=
 (gU zN (jT zO l (fun s=>[sl .fs (aH s)]) (fun s=>.c (.f (sl .fs (aH s)))) (fun s=>fI s t) g 115 [.fp [sl g' (aH t)] 0] (by omega)
  (fun j q H=>by
   have m:bK 1 (l.map fun s=>[sl .fs (aH s)]):=bK.map fun _=>rfl;have:=fZ (H:=H) m (j:=j) (row:=[sl .fs (aH l[j])]) (by simp [q]) rfl;simpa using this)
  (fun s d=>acs s t (b s d).1 (b s d).2 .fs g'))).eq
theorem GS(g:Tg)(ps:List aE)(q:∀ p ∈ ps,Mod p)(m:1≤ps.length)(u:ps.length≤64):∃ b,(b=ae↔(∀ d,¬ iK ps 0 ps d)∧¬ lP [] ps)∧bR tab 76 [.c (.f (sl g (aH ps)))]=Eq (vb b):=by
 obtain⟨e,f,j,z⟩:=yx g ps (fun p A=>(q p A).ok) u 0;obtain⟨b,y,B⟩:=vm g ps q m u;refine⟨!f&&!b,?_,bR.eq (bY rfl rfl fun Q s=>?_)⟩
 ·rw [←y];rcases j with⟨l,-,x⟩ | ⟨l,v,-⟩
  ·subst l;simp [x]
  ·subst l;simp only [Bool.not_true,Bool.false_and,Bool.false_eq_true,false_iff];rintro⟨h,-⟩;exact h _ v
 ·apply ai;simp;apply ai;simp [z];apply ai;cases f
  ·simp [B];refine aF (s _ _ ?_);simp
  ·simp;refine aF (s _ _ ?_);simp
theorem nv.mod{p:aE}(h:nv p):Mod p:=⟨h.ok,by have:=h.aJ;omega⟩
theorem zT{ps:List aE}(s:∀ p ∈ ps,nv p)(u:∀ d,¬ iK ps 0 ps d)(v:¬ lP [] ps)(d:Int)(j:0≤d):¬ fh ps d:=by
 intro b;have m:tD ps d=ae:=(iu j).2 b;by_cases x:cA ps≤d
 ·refine v (qX (d:=d) ps [] (by simp) fun p g=>?_);exact(mw (s p g).mod (by
   have:∀ l:List aE,p ∈ l→p.fr≤cA l:=by
    intro l;induction l with
    | nil=>intro h;cases h
    | cons a l y=>
     intro h;simp only [cA];rcases ajB.1 h with rfl | h
     ·omega
     ·have:=y h;omega
   have:=this ps g;omega)).1 (b p g)
 ·obtain⟨p,g,q⟩:=pZ (l:=ps) j (by omega);refine u d ⟨j,m,p,g,?_⟩;exact(head_mem (s p g).ok d).2 ⟨j,q,b p g⟩
def B4(J J':an):Prop:=∀(i:Nat) (cs:List C) (fl:Nat),4≤cs.length→J[i]?=aa (bZ.box cs fl)→∃ b,J'[i]?=aa (bZ.box cs b)
def TC(J:an)(c:C)(ps:List aE):Prop:=(c=.f (sl .fs (aH ps))∧ps≠[])∨(ps≠[]∧∃ b fl,c=.sl b 0 ps.length ps.length 0 4∧J[b]?=aa (.box (cZ ps).flatten fl))
theorem lD(ps:List aE):(cZ ps).flatten.length=ps.length*4:=by rw [cX (dZ ps),ef]
theorem zr{ps:List aE}(h:ps≠[]):4≤(cZ ps).flatten.length:=by
 have:=ajE.2 h;rw [lD];omega
theorem lF{ps:List aE}(h:ps≠[])(g:Tg):sl g (aH ps)=.fs (aH ps).flatten ps.length:=by
 cases ps with
 | nil=>exact absurd rfl h| cons p l=>simp [sl,aH]
section
variable{J:an}{c:C}{ps:List aE}
theorem TC.len(h:TC J c ps):bg J c=aa ps.length:=by
 rcases h with⟨rfl,h⟩ | ⟨h,b,fl,rfl,hb⟩
 ·simp
 ·simp [bg,hb]
theorem TC.one{p:aE}(h:TC J c [p]):∃ q,bz J 4 ab (.c c) (vi 0)=aa (.c q)∧aU J (aa 4) (.c q)=aa (.a (cN p)):=by
 rcases h with⟨rfl,h⟩ | ⟨h,b,fl,rfl,hb⟩
 ·have d:=bH (H:=J) (g:=.fs) (rows:=aH [p]) (sz:=4) (k:=.i64) (i:=(0:Int)) (by omega) (by simp);have m:=dr (H:=J) (bA [p]) (cF (l:=[p]) (j:=0) (by simp));exact⟨_,d,by simpa [ed]using m⟩
 ·have hb:J[b]?=aa (.box (cN p) fl):=hb;exact⟨.ptr b 0 0,by simp [bz,show fS (vi 0)=aa (0:Int) from rfl,hb],by simp [aU,aC,hb,aW,cN]⟩
theorem TC.ex(h:TC J c ps)(n:Nat):et (n+1) J c=aa (sl .fs (aH ps)):=by
 rcases h with⟨rfl,h⟩ | ⟨h,b,fl,rfl,hb⟩
 ·rfl
 ·have hl:=lD ps;simp only [jQ,hb];rw [ba (by omega),aj4,ajl (by omega),nV,mo,lF h];rfl
theorem TC.bf{J':an}(h:TC J c ps)(j:B4 J J'):TC J' c ps:=by
 rcases h with h | ⟨h,b,fl,h1,hb⟩
 ·exact .inl h
 ·obtain⟨d,g⟩:=j b _ fl (zr h) hb;exact .inr ⟨h,b,d,h1,g⟩
theorem TC.mk(h:TC J c ps)(n:Nat):∀(i:Nat) (y:bZ),J[i]?=aa y→(eK (n+1) c J)[i]?=aa y∨∃ cs fl g,4≤cs.length∧y=.box cs fl∧(eK (n+1) c J)[i]?=aa (.box cs g):=by
 rcases h with⟨rfl,h⟩ | ⟨h,b,fl,rfl,hb⟩
 ·intro i y hy;exact .inl hy
 ·intro i y hy;have e:eK (n+1) (.sl b 0 ps.length ps.length 0 4) J=J.set b (.box (cZ ps).flatten (Nat.max fl (0+ps.length*4))):=by
   simp only [oT,hb];rw [iY];intro x d;have d:=ajJ (aj2 d);rw [nV]at d;obtain⟨y,-,rfl⟩:=ajj.1 d;exact⟨y,rfl⟩
  rw [e];by_cases hi:b=i
  ·subst hi;rw [hb]at hy;cases hy;exact .inr ⟨_,_,_,zr h,rfl,If (aj hb)⟩
  ·exact .inl (by rw [sh hi];exact hy)
end
def LJ(J:an)(cl:C)(ts:List (List aE)):Prop:=(ts=[]∧cl=.f .aA)∨(∃ b d cs rest,cl=.sl b 0 ts.length 0 d 1∧J[b]?=aa (.cE 1 (cs++rest) 0 d .loc)∧cs.length=ts.length∧∀(k:Nat) (h:k<ts.length) (g:k<cs.length),TC J cs[k] ts[k])
section
variable{J:an}{cl:C}{ts:List (List aE)}
theorem LJ.len(h:LJ J cl ts):bg J cl=aa ts.length:=by
 rcases h with⟨rfl,rfl⟩ | ⟨b,d,cs,rest,rfl,hb,-,-⟩
 ·rfl
 ·simp [bg,hb]
theorem LJ.at(h:LJ J cl ts){k:Nat}(g:k<ts.length):∃ b d c,cl=.sl b 0 ts.length 0 d 1∧bz J 1 ab (.c cl) (vi k)=aa (.c (.ptr b k d))∧aU J ab (.c (.ptr b k d))=aa (.c c)∧TC J c ts[k]:=by
 rcases h with⟨rfl,rfl⟩ | ⟨b,d,cs,rest,rfl,hb,hl,j⟩
 ·simp at g
 ·refine⟨b,d,cs[k],rfl,?_,?_,j k g (by omega)⟩
  ·simp [bz,show fS (vi k)=aa (k:Int) from rfl,hb,g]
  ·simp only [aU,aC,hb,if_true,ajC];rw [aka (by omega),ajh (by omega)];rfl
theorem LJ.bf{J':an}(h:LJ J cl ts)(j:B4 J J')(ho:∀(i:Nat) y,aS cl=aa i→J[i]?=aa y→J'[i]?=aa y):LJ J' cl ts:=by
 rcases h with h | ⟨b,d,cs,rest,rfl,hb,hl,g⟩
 ·exact .inl h
 ·exact .inr ⟨b,d,cs,rest,rfl,ho b _ rfl hb,hl,fun k h h2=>(g k h h2).bf j⟩
theorem LJ.push(h:LJ J cl ts)(K:an):LJ (J++K) cl ts:=h.bf (fun i cs fl _ hi=>⟨fl,by rw [AT (aj hi)];exact hi⟩) fun i y _ hy=>by rw [AT (aj hy)];exact hy
theorem LJ.bh(h:LJ J cl ts){i:Nat}{cs:List C}{fl:Nat}(hi:J[i]?=aa (.box cs fl)):aS cl≠aa i:=by
 rcases h with⟨-,rfl⟩ | ⟨b,d,cs',rest,rfl,hb,-,-⟩
 ·simp [aS]
 ·intro e;cases e;rw [hi]at hb;cases hb
theorem LJ.agi(h:LJ J cl ts){i:Nat}{y:bZ}(hi:J[i]?=aa y)(hy:ld y=ae):aS cl≠aa i:=by
 rcases h with⟨-,rfl⟩ | ⟨b,d,cs',rest,rfl,hb,-,-⟩
 ·simp [aS]
 ·intro e;cases e;rw [hi]at hb;cases hb;cases hy
theorem LJ.st(h:LJ J cl ts){i:Nat}(hi:i<ts.length){p:aE}{bn:Nat}(l:J[bn]?=aa (.box (cN p) 0)):∃ b d J',bz J 1 ab (.c cl) (vi i)=aa (.c (.ptr b i d))∧di J (.ptr b i d) [.sl bn 0 1 1 0 4]=aa J'∧LJ J' cl (ts.set i [p])∧J'.length=J.length∧∀ k,aS cl≠aa k→J'[k]?=J[k]?:=by
 rcases h with⟨rfl,rfl⟩ | ⟨b,d,cs,rest,rfl,hb,hl,q⟩
 ·simp at hi
 ·have j:∀ k y fl,J[k]?=aa (.box y fl)→k≠b:=fun k y fl m e=>by rw [e,hb]at m;cases m
  have ho:over (cs++rest) i [.sl bn 0 1 1 0 4]=cs.set i (.sl bn 0 1 1 0 4)++rest:=by
   rw [sN (by rw [ai7];omega),List.set_append_left _ _ (by omega)]
  refine⟨b,d,J.set b (.cE 1 (cs.set i (.sl bn 0 1 1 0 4)++rest) 0 d .loc),?_,?_,.inr ⟨b,d,cs.set i (.sl bn 0 1 1 0 4),rest,by simp,If (aj hb),by simp [hl],fun k h1 h2=>?_⟩,by simp,fun k s=>sh (by rintro rfl;exact s rfl)⟩
  ·simp [bz,show fS (vi i)=aa (i:Int) from rfl,hb,hi]
  ·simp only [bu,hb,akh,true_and];rw [ba (by simp;omega),ho]
  ·rw [List.getElem_set,List.getElem_set];by_cases e:i=k
   ·rw [ba e,ba e];exact .inr ⟨by simp,bn,0,rfl,by rw [sh (Ne.symm (j _ _ _ l))];exact l⟩
   ·rw [aR e,aR e];refine(q k (by simpa using h1) (by simpa using h2)).bf fun u cs' fl _ g=>⟨fl,?_⟩
    rw [sh (Ne.symm (j _ _ _ g))];exact g
theorem LJ.del(h:LJ J cl ts){j:Nat}(v:j<ts.length)(x:0<j)(N:ts.length≤1000000) :
  ∃ u H',Ev tab (.fn 114) [.c cl,vi j,vi (j+1:Nat)] J (.c u) H'∧LJ H' u (ts.eraseIdx j)∧aS u=aS cl∧H'.length=J.length∧∀ k,aS cl≠aa k→H'[k]?=J[k]?:=by
 rcases h with⟨rfl,rfl⟩ | ⟨b,M,cs,rest,rfl,hb,hl,E⟩
 ·simp at v
 ·have hg:qf 1 (cs.map fun c=>[c]):=fun r O=>by
   obtain⟨c,-,rfl⟩:=ajj.1 O;rfl
  have q:∀ l:List C,(l.map fun c=>[c]).flatten=l:=fun l=>by induction l with
   | nil=>rfl| cons a l Q=>simp only [ajd,ajs,Q];rfl
  have d:(cs.map fun c=>[c]).length=ts.length:=by rw [ajf,hl]
  obtain⟨r,H',H,rfl,g,m,s,I⟩:=XN (tab:=tab) (F:=114) (sz:=1) (bytes:=24) (zs:=[.aA]) abD (by decide) rfl (rows:=cs.map fun c=>[c]) (rest:=rest) hg (by rw [q];exact hb) (j:=j) (by rw [d];exact v) x (by rw [d];exact N);rw [d]at H;have L:((cs.map fun c=>[c]).eraseIdx j).flatten=cs.eraseIdx j:=by
   rw [aj0,←akQ,←ak0,←akp,q,←aj0]
  rw [L]at m;have B:(ts.eraseIdx j).length=ts.length-1:=by rw [akT,ba v]
  have A:∀ k y fl,J[k]?=aa (.box y fl)→k≠b:=fun k y fl K e=>by rw [e,hb]at K;cases K
  refine⟨_,H',H,.inr ⟨b,M,cs.eraseIdx j,g,by rw [B],m,by rw [B,akT,ba (by omega),hl],fun k h1 h2=>?_⟩,rfl,s,fun k z=>I k (by rintro rfl;exact z rfl)⟩;have kp:B4 J H':=fun i cs fl _ hi=>⟨fl,by rw [I i (A _ _ _ hi)];exact hi⟩
  rw [List.getElem_eraseIdx,List.getElem_eraseIdx];by_cases e:k<j
  ·rw [dif_pos e,dif_pos e];exact(E _ _ _).bf kp
  ·rw [dif_neg e,dif_neg e];exact(E _ _ _).bf kp
end
def TV(J:an)(c:C)(fs:List aE):Prop:=(∃ g,c=.f (sl g (aH fs)))∨LR J c 4 (aH fs)
theorem acm{J:an}{c:C}{sz:Nat}{rows:List (List FC)}(h:LR J c sz rows)(n:Nat):∀(i:Nat) (y:bZ),J[i]?=aa y→aS c≠aa i→(eK (n+1) c J)[i]?=aa y:=by
 rcases h with⟨_,rfl | rfl⟩ | ⟨s,b,q,rfl,l⟩
 ·intro i y d _;exact d
 ·intro i y d _;exact d
 ·unfold RB at l;intro i y d hi;have g:b≠i:=fun e=>hi (by rw [e];rfl);have e:∃ z,eK (n+1) (.sl b 0 rows.length 0 q sz) J=J.set b z:=by
   simp only [oT,l];rw [iY]
   ·exact⟨_,rfl⟩
   ·intro x j;have j:=ajJ (aj2 j);obtain⟨m,_,rfl⟩:=ajj.1 j;exact⟨_,rfl⟩
  obtain⟨z,u⟩:=e;rw [u,sh g];exact d
section
variable{J:an}{c:C}{fs:List aE}
theorem TV.ex(h:TV J c fs):∃ g,∀ n,et (n+1) J c=aa (sl g (aH fs)):=by
 rcases h with⟨g,rfl⟩ | h
 ·exact⟨g,fun n=>rfl⟩
 ·obtain⟨g,hg⟩:=h.XY (bA fs);exact⟨g,fun n=>hg J n fun _ _ h _=>h⟩
theorem TV.mk(h:TV J c fs)(n:Nat):∀(i:Nat) (y:bZ),J[i]?=aa y→aS c≠aa i→(eK (n+1) c J)[i]?=aa y:=by
 rcases h with⟨g,rfl⟩ | h
 ·intro i y hy _;exact hy
 ·exact acm h n
end
def Bo(f:Nat)(g:List FC)(L:List (List aE)):Prop:=∀(b:Nat) (H:an) (PP:Nat→an→Prop),PP 0 H →
 (∀(j:Nat) (m:j<L.length) (d J:an) (c:C),PP j d→(∀ i:Nat,i<d.length→J[i]?=d[i]?)→d.length≤J.length→TV J c L[j]→(∀ i,aS c=aa i→d.length≤i)→∃ H',Ev tab (.yield b) [.c c] J (vb ae) H'∧PP (j+1) H') →
 ∃ l,Ev tab (.fn f) (.c (.yl b)::g.map fun x=>.c (.f x)) H (.t []) l∧PP L.length l
theorem zD(g:Tg)(ts:List cz)(x:ts.length≤1000000):Bo 119 [.fp [sl g (aD ts)] 0] (ts.map (·.fs)):=by
 intro b H PP q y;obtain⟨r,m,u,rfl,d⟩:=ID (b:=b) (H:=H) g ts x PP q fun j v J s=>by
  obtain⟨H',l,d⟩:=y j (by simpa using v) J J (.f (sl ts[j].tg (aH ts[j].fs))) s (fun _ _=>rfl) (ai8 _) (.inl ⟨ts[j].tg,by simp⟩) (fun _ h=>by cases h);exact⟨_,H',l,rfl,d⟩
 exact⟨m,u,by rw [ajf];exact d⟩
def Br(m:Nat)(t:List aE):Prop:=t≠[]∧t.length≤m∧∀ p ∈ t,nv p
def gB(ts:List (List aE))(d:Int):Prop:=∃ t ∈ ts,fh t d
structure NT(m:Nat)(L ts:List (List aE)):Prop where
 len:ts.length≤L.length
 ok:∀ t ∈ ts,Br m t
 mem:∀ d,0≤d→(gB ts d↔gB L d)
def bW(ts:List (List aE)):List (List FC):=ts.map fun s=>[sl .fs (aH s)]
theorem ti(ts:List (List aE)):bK 1 (bW ts):=bK.map fun _=>rfl
structure zH(s:T)(cl:C)(ts:List (List aE))(st:dz)(J:an):Prop where
 h0:J[0]?=aa (.box [.f .aA] 0)
 h1:J[1]?=aa (.box [cl] 0)
 lr:LR J cl 1 (bW ts)
 ne:cl≠.f .es
 lo:∀ i,aS cl=aa i→3<i
 df:J[2]?=aa (.fg ae)
 lp:J[3]?=aa (.lp 73 s [P.nat 15] mN jq st ab 2)
theorem zH.three{s:T}{cl:C}{ts:List (List aE)}{st st':dz}{J:an}(h:zH s cl ts st J):zH s cl ts st' (J.set 3 (.lp 73 s [P.nat 15] mN jq st' ab 2)):=by
 refine⟨?_,?_,h.lr.set (fun e=>by have:=h.lo 3 e;omega) _,h.ne,h.lo,?_,If (aj h.lp)⟩
 ·rw [sh (by omega)];exact h.h0
 ·rw [sh (by omega)];exact h.h1
 ·rw [sh (by omega)];exact h.df
theorem zH.bf{s:T}{cl:C}{ts:List (List aE)}{st:dz}{J J':an}(h:zH s cl ts st J)(b:∀(i:Nat) y,i<J.length→J[i]?=aa y→J'[i]?=aa y):zH s cl ts st J':=
 ⟨b _ _ (aj h.h0) h.h0,b _ _ (aj h.h1) h.h1,h.lr.bf fun i y hy _=>b i y (aj hy) hy,h.ne,h.lo,b _ _ (aj h.df) h.df,b _ _ (aj h.lp) h.lp⟩
theorem zH.mark{s:T}{cl c:C}{ts:List (List aE)}{st:dz}{J J':an}(h:zH s cl ts st J)(hc:∀ i,aS c=aa i→3<i)(d:∀ i,aS c=aa i→aS cl≠aa i)(b:∀(i:Nat) y,J[i]?=aa y→aS c≠aa i→J'[i]?=aa y):zH s cl ts st J':=
 ⟨b _ _ h.h0 (fun e=>by have:=hc 0 e;omega),b _ _ h.h1 (fun e=>by have:=hc 1 e;omega),h.lr.bf fun i y hy hi=>b i y hy fun e=>d i e hi,h.ne,h.lo,b _ _ h.df (fun e=>by have:=hc 2 e;omega),b _ _ h.lp (fun e=>by have:=hc 3 e;omega)⟩
theorem zH.app{s:T}{cl:C}{ts:List (List aE)}{st:dz}{J:an}(h:zH s cl ts st J)(H:ts.length≤1000)(ps:List aE) :
  ∃ j m,bD (J++[.box [.f (sl .fs (aH ps))] 0]) 1 24 (.c cl) (.c (.sl J.length 0 1 1 0 1))=aa (.c j,m)∧di m (.ptr 1 0 0) [j]=aa (m.set 1 (.box [j] 0))∧zH s j (ts++[ps]) st (m.set 1 (.box [j] 0)):=by
 obtain⟨q,d⟩:=aL (J++[.box ([sl .fs (aH ps)].map .f) 0]:an);have up:∀(i:Nat) y,J[i]?=aa y→q[i]?=aa y:=fun i y hy=>by rw [d,AT (aj hy)];exact hy
 have x:LR q cl 1 (bW ts):=by rw [d];exact h.lr.push _
 have z:q[J.length]?=aa (.box ([sl .fs (aH ps)].map .f) 0):=by rw [d];simp
 have h2:q.length=J.length+1:=by rw [d];simp
 have K:=aj h.lp;obtain⟨j,m,l,g,v,A⟩:=x.app (ti ts) (by decide) (row:=[sl .fs (aH ps)]) rfl (bytes:=24) (dF (by simp [bW];omega) (by decide)) z;have F:bW ts++[[sl .fs (aH ps)]]=bW (ts++[ps]):=by simp [bW]
 rw [F]at g;have u:∀(i:Nat) y,i≤3→J[i]?=aa y→m[i]?=aa y:=fun i y hi hy=>v.2 i y (up i y hy) fun e=>by have:=h.lo i e;omega
 have E:=u 1 _ (by omega) h.h1;have B:j≠.f .es:=by
  rcases g with⟨h0,_⟩ | ⟨_,b,I,rfl,_⟩
  ·simp [bW]at h0
  ·intro e;cases e
 refine⟨j,m,by rw [d]at l;exact l,by simp [di,E,over],?_,If (aj E),g.set (g.bh E) _,B,fun i hi=>?_,?_,?_⟩
 ·rw [sh (by omega)];exact u 0 _ (by omega) h.h0
 ·rcases A with e | e
  ·rw [e]at hi;exact h.lo i hi
  ·rw [e]at hi;cases hi;omega
 ·rw [sh (by omega)];exact u 2 _ (by omega) h.df
 ·rw [sh (by omega)];exact u 3 _ (by omega) h.lp
theorem wm{s:T}(W:s.g 4=.c (.ptr 1 0 0)){cl:C}{ts:List (List aE)}(K:ts.length≤1000){m:Nat}(hm:m≤64){fs:List aE}(j:Br m fs){J:an}{c:C}(h:zH s cl ts .ready J)(Y:TV J c fs)(M:∀ i,aS c=aa i→3<i)(E:∀ i,aS c=aa i→aS cl≠aa i) :
  ∃ r H',Ev tab (.yield 3) [.c c] J r H'∧(r=vb ae∧∃ B u,zH s B u .ready H'∧((u=ts∧∀ d,0≤d→¬ fh fs d)∨∃ t,u=ts++[t]∧Br m t∧∀ d,0≤d→(fh t d↔fh fs d))):=by
 refine ey (tab:=tab) (b:=3) (args:=[.c c]) (H:=J) h.lp rfl fun Q' y=>?_;refine au (.inr rfl) ?_;simp;refine ja h.lp ?_;have L:=h.three (st':=.busy);have l:TV (J.set 3 (.lp 73 s [P.nat 15] mN jq .busy ab 2)) c fs:=by
  rcases Y with h | h
  ·exact .inl h
  ·exact .inr (h.set (fun e=>by have:=M 3 e;omega) _)
 generalize J.set 3 (.lp 73 s [P.nat 15] mN jq .busy ab 2)=Q at L l ⊢;obtain⟨gx,q⟩:=l.ex;have q:=q 63;obtain⟨ps,g,F⟩:=Ia gx fs j.2.2 j.1 (by have:=j.2.1;omega);obtain⟨b,Z,A⟩:=GS .fs ps (fun p hp=>(g.sm p hp).mod) (ajE.2 g.ne) (by have:=g.le;have:=j.2.1;omega);have x:=L.mark M E (l.mk 63);obtain⟨S,v⟩:=aL (eK 64 c Q);rw [←v]at x;refine az ?_;refine aq (au (.inr rfl) ?_);simp [q,deep,F,←v];apply aq;refine au (.inr rfl) ?_;simp [A];cases b with
 | true=>
  refine a6 (by simp) ?_;obtain⟨k1,k2⟩:=Z.1 rfl;exact ax (dh (y _ _ _ _ _ _ _ _ _ _ rfl x.lp ⟨rfl,cl,ts,x.three,.inl ⟨rfl,fun d N X=>zT g.sm k1 k2 d N ((g.mem d N).2 X)⟩⟩))
 | false=>
  refine aw (by simp) ?_;obtain⟨U,H3,z,I,O⟩:=x.app K ps;have l1:aU S ab (.c (.ptr 1 0 0))=aa (.c cl):=by simp [aU,aC,x.h1]
  refine au (.inr rfl) ?_;simp [W,l1,-ay,z,I,-bu];exact ax (dh (y _ _ _ _ _ _ _ _ _ _ rfl O.lp ⟨rfl,U,ts++[ps],O.three,.inr ⟨ps,rfl,⟨g.ne,by have:=g.le;have:=j.2.1;omega,g.sm⟩,g.mem⟩⟩))
theorem RW{ts:List (List aE)}{i j:Nat}(H:i<j)(I:j<ts.length){p y q:aE}(s:ts[i]'(by omega)=[p])(u:ts[j]=[y])(L:∀ d,0≤d→bF q d=(bF p d||bF y d))(d:Int)(F:0≤d):gB ((ts.set i [q]).eraseIdx j) d↔gB ts d:=by
 have hi:i<ts.length:=by omega
 have A:ts=ts.take i++[p] ::((ts.drop (i+1)).take (j-(i+1))++[y]::ts.drop (j+1)):=by
  rw [←s,←u]
  conv=>lhs;rw [←ajR i ts,ajh hi]
  congr 2
  conv=>lhs;rw [←ajR (j-(i+1)) (ts.drop (i+1)),akn]
  rw [show i+1+(j-(i+1))=j by omega,ajh I]
 have B:(ts.set i [q]).eraseIdx j=ts.take i++[q] ::((ts.drop (i+1)).take (j-(i+1))++ts.drop (j+1)):=by
  have E:ts.set i [q]=ts.take i++[q]::ts.drop (i+1):=by rw [akS,ba hi]
  have K:(ts.take i).length=i:=by rw [ajF];omega
  rw [E,ali (by omega),K]
  congr 1
  obtain⟨k,J⟩:∃ k,j-i=k+1:=⟨j-i-1,by omega⟩
  rw [J,List.eraseIdx_cons_succ,aj0,akn];rw [show j-(i+1)=k by omega,show i+1+(k+1)=j+1 by omega]
 have g:∀(a b:List (List aE)),gB (a++b) d↔gB a d∨gB b d:=fun a b=>by
  unfold gB;constructor
  ·rintro⟨t,v,h⟩;rcases aja.1 v with k | k
   ·exact .inl ⟨t,k,h⟩
   ·exact .inr ⟨t,k,h⟩
  ·rintro(⟨t,k,h⟩ | ⟨t,k,h⟩)
   ·exact⟨t,ajM _ k,h⟩
   ·exact⟨t,akx _ k,h⟩
 have m:∀(x:aE) l,gB ([x]::l) d↔bF x d=ae∨gB l d:=fun x l=>by
  unfold gB;constructor
  ·rintro⟨t,v,h⟩;rcases ajB.1 v with rfl | k
   ·exact .inl (h x (by simp))
   ·exact .inr ⟨t,k,h⟩
  ·rintro(h | ⟨t,k,h⟩)
   ·exact⟨[x],by simp,fun p z=>by rw [ai9]at z;rw [z];exact h⟩
   ·exact⟨t,ajb _ k,h⟩
 rw [B]
 conv=>rhs;rw [A]
 rw [g,g,m,m,g,g,m,L d F,Bool.or_eq_true];constructor
 ·rintro(a | (b | c) | e | f)
  ·exact .inl a
  ·exact .inr (.inl b)
  ·exact .inr (.inr (.inr (.inl c)))
  ·exact .inr (.inr (.inl e))
  ·exact .inr (.inr (.inr (.inr f)))
 ·rintro(a | b | e | c | f)
  ·exact .inl a
  ·exact .inr (.inl (.inl b))
  ·exact .inr (.inr (.inl e))
  ·exact .inr (.inl (.inr c))
  ·exact .inr (.inr (.inr f))
structure SJ(J:an)(cl:C)(ts:List (List aE)):Prop where
 h0:J[0]?=aa (.box [.f .aA] 0)
 h1:J[1]?=aa (.box [cl] 0)
 df:J[2]?=aa (.fg ae)
 lj:LJ J cl ts
theorem SJ.push{J:an}{cl:C}{ts:List (List aE)}(h:SJ J cl ts)(K:an):SJ (J++K) cl ts:=
 ⟨by rw [AT (aj h.h0)];exact h.h0,by rw [AT (aj h.h1)];exact h.h1,by rw [AT (aj h.df)];exact h.df,h.lj.push K⟩
theorem R4{J:an}{cl:C}{ts:List (List aE)}(u:∀ t ∈ ts,t≠[])(h:LR J cl 1 (bW ts))(d:cl≠.f .es):LJ J cl ts:=by
 rcases h with⟨m,rfl | rfl⟩ | ⟨v,b,j,rfl,g⟩
 ·have:ts=[]:=by
   cases ts with
   | nil=>rfl| cons a l=>simp [bW]at m
  exact .inl ⟨this,rfl⟩
 ·exact absurd rfl d
 ·have s:(bW ts).length=ts.length:=by simp [bW]
  have q:∀ l:List (List aE),(bW l).flatten.map C.f=l.map fun t=>C.f (sl .fs (aH t)):=fun l=>by
   induction l with
   | nil=>rfl
   | cons a l x=>
    have:bW (a::l)=[sl .fs (aH a)]::bW l:=rfl;rw [this,ajs,akp,x];rfl
  unfold RB at g;refine .inr ⟨b,j,ts.map fun t=>C.f (sl .fs (aH t)),[],by rw [s],by rw [g,q,ajP],by simp,fun k y d=>?_⟩;rw [akK];exact .inl ⟨rfl,u _ (IT _)⟩
theorem SJ.join{J:an}{cl:C}{ts:List (List aE)}(h:SJ J cl ts){i j:Nat}(H:i<j)(I:j<ts.length)(Q:ts.length≤1000){p:aE}{bn:Nat}(hb:J[bn]?=aa (.box (cN p) 0)) :
  ∃ b x l m d,aU J ab (.c (.ptr 1 0 0))=aa (.c cl)∧bz J 1 ab (.c cl) (vi i)=aa (.c (.ptr b i x))∧di J (.ptr b i x) [.sl bn 0 1 1 0 4]=aa l∧aU l ab (.c (.ptr 1 0 0))=aa (.c cl)∧Ev tab (.fn 114) [.c cl,vi j,vi (j+1:Nat)] l (.c m) d∧di d (.ptr 1 0 0) [m]=aa (d.set 1 (.box [m] 0)) ∧
   SJ (d.set 1 (.box [m] 0)) m ((ts.set i [p]).eraseIdx j):=by
 obtain⟨b,x,l,O,M,g,K,q⟩:=h.lj.st (i:=i) (by omega) hb;have A:l[0]?=aa (.box [.f .aA] 0):=by rw [q 0 (h.lj.bh h.h0)];exact h.h0
 have a1:l[1]?=aa (.box [cl] 0):=by rw [q 1 (h.lj.bh h.h1)];exact h.h1
 have B:l[2]?=aa (.fg ae):=by rw [q 2 (h.lj.agi h.df rfl)];exact h.df
 obtain⟨m,d,F,u,N,L,s⟩:=g.del (j:=j) (by rw [ajp];exact I) (by omega) (by rw [ajp];omega);have b0:d[0]?=aa (.box [.f .aA] 0):=by rw [s 0 (g.bh A)];exact A
 have b1:d[1]?=aa (.box [cl] 0):=by rw [s 1 (g.bh a1)];exact a1
 have E:d[2]?=aa (.fg ae):=by rw [s 2 (g.agi B rfl)];exact B
 refine⟨b,x,l,m,d,by simp [aU,aC,h.h1],O,M,by simp [aU,aC,a1],F,by simp [di,b1,over],?_,If (aj b1),?_,u.bf (fun k cs fl z v=>⟨fl,?_⟩) fun k y v hy=>?_⟩
 ·rw [sh (by omega)];exact b0
 ·rw [sh (by omega)];exact E
 ·rw [sh (by rintro rfl;rw [b1]at v;cases v;simp at z)];exact v
 ·rw [sh (by rintro rfl;exact u.bh b1 v)];exact hy
def M4(J J':an):Prop:=∀(i:Nat) (y:bZ),J[i]?=aa y→J'[i]?=aa y∨∃(cs:List C) (fl b:Nat),4≤cs.length∧y=bZ.box cs fl∧J'[i]?=aa (bZ.box cs b)
theorem M4.refl(J:an):M4 J J:=fun _ _ h=>.inl h
theorem M4.trans{J J' b:an}(h:M4 J J')(j:M4 J' b):M4 J b:=fun i y hy=>by
 rcases h i y hy with k | ⟨cs,fl,g,hc,rfl,k⟩
 ·exact j i y k
 ·rcases j i _ k with k' | ⟨l,m,d,q,e,k'⟩
  ·exact .inr ⟨cs,fl,g,hc,rfl,k'⟩
  ·cases e;exact .inr ⟨cs,fl,d,hc,rfl,k'⟩
theorem M4.b4{J J':an}(h:M4 J J'):B4 J J':=fun i cs fl hc hy=>by
 rcases h i _ hy with k | ⟨d,g,b,j,e,k⟩
 ·exact⟨fl,k⟩
 ·cases e;exact⟨b,k⟩
theorem M4.get{J J':an}(h:M4 J J'){i:Nat}{y:bZ}(hy:J[i]?=aa y)(l:∀ cs fl,y=bZ.box cs fl→cs.length<4):J'[i]?=aa y:=by
 rcases h i _ hy with k | ⟨b,g,d,j,e,k⟩
 ·exact k
 ·have:=l _ _ e;omega
theorem TC.m4{J:an}{c:C}{ps:List aE}(h:TC J c ps)(n:Nat):M4 J (eK (n+1) c J):=fun i y hy=>h.mk n i y hy
theorem yh(n:Nat):∀(cs:List C) (ts:List (List aE)) (J:an),cs.length=ts.length→(∀(k:Nat) (h:k<ts.length) (b:k<cs.length),TC J cs[k] ts[k])→M4 J (cs.foldl (fun H x=>eK (n+1) x H) J)
 | [],_,J,_,_=>M4.refl J| c::cs,[],_,h,_=>by simp at h
 | c::cs,t::ts,J,l,h=>by
  have g:TC J c t:=h 0 (by simp) (by simp);have d:=g.m4 n;refine M4.trans d (yh n cs ts _ (by simpa using l) fun k j b=>?_);exact(h (k+1) (by simpa using j) (by simpa using b)).bf d.b4
theorem yg(n:Nat){J:an}:∀(cs:List C) (ts:List (List aE)),cs.length=ts.length→(∀(k:Nat) (h:k<ts.length) (b:k<cs.length),TC J cs[k] ts[k])→aZ (et (n+1) J) cs=aa (bW ts).flatten
 | [],[],_,_=>rfl| [],_::_,h,_=>by simp at h
 | c::cs,[],h,_=>by simp at h
 | c::cs,t::ts,j,h=>by
  have d:TC J c t:=h 0 (by simp) (by simp);have l:=yg n (J:=J) cs ts (by simpa using j) fun k g b=>h (k+1) (by simpa using g) (by simpa using b);simp only [aZ,d.ex n,l];rfl
def LO(J:an)(cl:C)(ts:List (List aE)):Prop:=(ts=[]∧cl=.f .aA)∨(ts≠[]∧∃ b d cs fl,cl=.sl b 0 ts.length 0 d 1∧J[b]?=aa (.cE 1 cs fl d .loc)∧cs.length=ts.length∧fl≤cs.length∧∀(k:Nat) (h:k<ts.length) (g:k<cs.length),TC J cs[k] ts[k])
section
variable{J:an}{cl:C}{ts:List (List aE)}
theorem LO.bf{J':an}(h:LO J cl ts)(m:B4 J J')(ho:∀(i:Nat) y,aS cl=aa i→J[i]?=aa y→J'[i]?=aa y):LO J' cl ts:=by
 rcases h with h | ⟨d,b,g,cs,fl,rfl,hb,hl,l,j⟩
 ·exact .inl h
 ·exact .inr ⟨d,b,g,cs,fl,rfl,ho b _ rfl hb,hl,l,fun k h h2=>(j k h h2).bf m⟩
theorem LO.push(h:LO J cl ts)(K:an):LO (J++K) cl ts:=h.bf (fun i cs fl _ hi=>⟨fl,by rw [AT (aj hi)];exact hi⟩) fun i y _ hy=>by rw [AT (aj hy)];exact hy
theorem LO.ex(h:LO J cl ts)(n:Nat):∃ g,et (n+2) J cl=aa (sl g (bW ts)):=by
 rcases h with⟨rfl,rfl⟩ | ⟨d,b,m,cs,fl,rfl,hb,hl,q,j⟩
 ·exact⟨.nil,rfl⟩
 ·refine⟨.fs,?_⟩;simp only [jQ,hb];rw [ba ⟨trivial,trivial,by omega⟩,aj4,ajl (by omega),yg n cs ts hl j];cases ts with
  | nil=>exact absurd rfl d| cons a l=>simp [sl,bW]
theorem LO.mk(h:LO J cl ts)(n:Nat):LO (eK (n+2) cl J) cl ts∧∀(i:Nat) (y:bZ),J[i]?=aa y→aS cl≠aa i→(eK (n+2) cl J)[i]?=aa y∨∃(cs:List C) (fl g:Nat),4≤cs.length∧y=bZ.box cs fl∧(eK (n+2) cl J)[i]?=aa (bZ.box cs g):=by
 rcases h with⟨rfl,rfl⟩ | ⟨v,b,s,cs,fl,rfl,hb,hl,A,z⟩
 ·exact⟨.inl ⟨rfl,rfl⟩,fun i y hy _=>.inl hy⟩
 ·obtain⟨q,d⟩:=aL (J.set b (.cE 1 cs (Nat.max fl (0+ts.length*1)) s .loc));have u:B4 J q:=fun i cs' g _ hi=>⟨g,by rw [d,sh (by rintro rfl;rw [hb]at hi;cases hi)];exact hi⟩
  have j:∀(k:Nat) (h:k<ts.length) (h2:k<cs.length),TC q cs[k] ts[k]:=fun k h h2=>(z k h h2).bf u;have e:eK (n+2) (.sl b 0 ts.length 0 s 1) J=cs.foldl (fun H x=>eK (n+1) x H) q:=by
   simp only [oT,hb];rw [aj4,ajl (by omega),d]
  have m:=yh n cs ts q hl j;rw [e];refine⟨.inr ⟨v,b,s,cs,Nat.max fl (0+ts.length*1),rfl,m.get (by rw [d];exact If (aj hb)) (fun _ _ e=>by cases e),hl,by have:Nat.max fl (0+ts.length*1)=max fl (0+ts.length*1):=rfl;omega,fun k h h2=>(j k h h2).bf m.b4⟩,fun i y hy hi=>?_⟩;have l:b≠i:=by rintro rfl;exact hi rfl
  exact m i y (by rw [d,sh l];exact hy)
theorem LO.bh(h:LO J cl ts){i:Nat}{cs:List C}{fl:Nat}(hi:J[i]?=aa (.box cs fl)):aS cl≠aa i:=by
 rcases h with⟨-,rfl⟩ | ⟨-,b,d,cs',f,rfl,hb,-⟩
 ·simp [aS]
 ·intro e;cases e;rw [hi]at hb;cases hb
theorem LO.app(h:LO J cl ts)(K:ts.length≤1000){c:C}{t:List aE}(F:TC J c t) :
  ∃ x v,bD (J++[.box [c] 0]) 1 24 (.c cl) (.c (.sl J.length 0 1 1 0 1))=aa (.c x,v)∧LO v x (ts++[t])∧J.length<v.length∧(∀(i:Nat) y,J[i]?=aa y→aS cl≠aa i→v[i]?=aa y)∧(aS x=aS cl∨aS x=aa (J.length+1)):=by
 obtain⟨g,d⟩:=aL (J++[.box [c] 0]:an);have E:g.length=J.length+1:=by rw [d];simp
 have A:g[J.length]?=aa (.box [c] 0):=by rw [d];simp
 have j:de g 1 (.c (.sl J.length 0 1 1 0 1))=aa (1,[c]):=by simp [de,bg,cH,A]
 have s:TC g c t:=F.bf fun i cs fl _ hi=>⟨fl,by rw [d,AT (aj hi)];exact hi⟩
 rw [←d];rcases h with⟨rfl,rfl⟩ | ⟨I,b,q,cs,fl,rfl,hb,hl,H,z⟩
 ·refine⟨.sl g.length 0 1 0 0 1,g++[.cE 1 [c] 0 0 .loc],?_,.inr ⟨by simp,g.length,0,[c],0,rfl,by simp,rfl,by omega,fun k h h2=>?_⟩,by rw [ai7];omega,fun i y hy _=>?_,.inr (by rw [E];rfl)⟩
  ·simp only [bD,j];rw [aR (by omega),aR (by omega),ba (dF (by decide) (by decide))]
  ·have:k=0:=by simpa using h
   subst this;exact s.bf fun i cs fl _ hi=>⟨fl,by rw [AT (aj hi)];exact hi⟩
  ·have:=aj hy;rw [AT (by omega),d,AT this];exact hy
 ·have m:g[b]?=aa (.cE 1 cs fl q .loc):=by rw [d,AT (aj hb)];exact hb
  have u:B4 g (g.set b (.cE 1 (cs++[c]) fl (q+1) .loc)):=fun i cs' l _ hi=>⟨l,by rw [sh (by rintro rfl;rw [m]at hi;cases hi)];exact hi⟩
  have B:B4 J g:=fun i cs' l _ hi=>⟨l,by rw [d,AT (aj hi)];exact hi⟩
  refine⟨.sl b 0 (ts.length+1) 0 (q+1) 1,g.set b (.cE 1 (cs++[c]) fl (q+1) .loc),?_,.inr ⟨by simp,b,q+1,cs++[c],fl,by simp,If (aj m),by simp [hl],by simp;omega,fun k h h2=>?_⟩,by rw [ajp];omega,fun i y hy hi=>?_,.inl rfl⟩
  ·simp only [bD,j,m,and_self,if_true];rw [aR (by omega),aR (by omega),ba ⟨trivial,by omega,H⟩,ba (dF (by omega) (by decide))]
  ·rw [List.getElem_append,List.getElem_append];by_cases e:k<ts.length
   ·rw [dif_pos (by omega),dif_pos e];exact((z k e (by omega)).bf B).bf u
   ·rw [dif_neg (by omega),dif_neg e];simp only [List.getElem_singleton];exact s.bf u
  ·rw [sh (by rintro rfl;exact hi rfl),d,AT (aj hy)];exact hy
end
theorem iM(a b:List (List aE))(d:Int):gB (a++b) d↔gB a d∨gB b d:=by
 unfold gB;constructor
 ·rintro⟨t,g,h⟩;rcases aja.1 g with k | k
  ·exact .inl ⟨t,k,h⟩
  ·exact .inr ⟨t,k,h⟩
 ·rintro(⟨t,k,h⟩ | ⟨t,k,h⟩)
  ·exact⟨t,ajM _ k,h⟩
  ·exact⟨t,akx _ k,h⟩
theorem lT(t:List aE)(d:Int):gB [t] d↔fh t d:=⟨fun⟨x,b,h⟩=>by rw [ai9]at b;rwa [b]at h,fun h=>⟨t,by simp,h⟩⟩
theorem Tr{m:Nat}{ts:List (List aE)}(h:∀ t ∈ ts,Br m t)(g:1≤m){i j:Nat}{q:aE}(l:nv q):∀ t ∈ (ts.set i [q]).eraseIdx j,Br m t:=fun t s=>by
 rcases List.mem_or_eq_of_mem_set (List.mem_of_mem_eraseIdx s)with d | rfl
 ·exact h t d
 ·exact⟨by simp,by simpa using g,fun p b=>by rw [ai9]at b;rw [b];exact l⟩
def jc(ts:List (List aE))(g:Tg):V:=.t [.a [.f (sl g (bW ts))],vi 0]
theorem HX{J:an}{g:C}{us:List (List aE)}(N:LO J g us){b:Nat}{u:C}(U:J[b]?=aa (.box [u] 0)){t:List aE}(X:TC J u t){F:Nat} :
  LO (eK 64 (.cl F [.ptr b 0 0]) (eK 64 g J)) g us∧B4 J (eK 64 (.cl F [.ptr b 0 0]) (eK 64 g J))∧(∀(i:Nat) y,J[i]?=aa y→aS g≠aa i→i≠b→(∀ cs fl,y=bZ.box cs fl→cs.length<4)→(eK 64 (.cl F [.ptr b 0 0]) (eK 64 g J))[i]?=aa y)∧(eK 64 (.cl F [.ptr b 0 0]) (eK 64 g J))[b]?=aa (.box [u] 1):=by
 obtain⟨M,K⟩:=N.mk 62;obtain⟨z,H⟩:=aL (eK (62+2) g J);rw [←H]at M K;have E:B4 J z:=fun i cs fl q d=>by
  rcases K i _ d (N.bh d)with k | ⟨v,B,A,_,e,k⟩
  ·exact⟨fl,k⟩
  ·cases e;exact⟨A,k⟩
 have l:z[b]?=aa (.box [u] 0):=by
  rcases K b _ U (N.bh U)with k | ⟨v,B,A,q,e,k⟩
  ·exact k
  ·cases e;simp at q
 obtain⟨I,j⟩:=aL (z.set b (.box [u] 1));have x:B4 z I:=fun i cs fl q d=>⟨fl,by rw [j,sh (by rintro rfl;rw [l]at d;cases d;simp at q)];exact d⟩
 have O:TC I u t:=(X.bf E).bf x;have e:eK 64 (.cl F [.ptr b 0 0]) (eK 64 g J)=eK (61+1) u I:=by
  show eK (63+1) (.cl F [.ptr b 0 0]) (eK (62+2) g J)=_;rw [←H,Sf];show eK (62+1) (.ptr b 0 0) z=_;rw [Ay,l,j];rfl
 have m:=O.m4 61;rw [e];have s:LO I g us:=M.bf x fun i y hi d=>by rw [j,sh (by rintro rfl;exact M.bh l hi)];exact d
 refine⟨s.bf m.b4 fun i y hi d=>?_,fun i cs fl q d=>?_,fun i y d hi Q W=>?_,m.get (by rw [j];exact If (aj l)) (fun cs fl e=>by cases e;simp)⟩
 ·rcases m i y d with k | ⟨v,B,A,_,L,k⟩
  ·exact k
  ·subst L;exact absurd hi (s.bh d)
 ·obtain⟨B,S⟩:=E i cs fl q d;obtain⟨A,Y⟩:=x i cs B q S;exact m.b4 i cs A q Y
 ·have S:z[i]?=aa y:=by
   rcases K i _ d hi with k | ⟨v,B,A,q,L,k⟩
   ·exact k
   ·have:=W _ _ L;omega
  exact m.get (by rw [j,sh (Ne.symm Q)];exact S) W
theorem uY(f:Nat)(e_:List FC)(L:List (List aE))(hI:Bo f e_ L){m:Nat}(y6:1≤m)(hm:m≤4)(hL:∀ s ∈ L,Br m s)(hLl:L.length≤64) :
  ∃ ts g,NT m L ts∧bR tab 73 [.c (.f (.fn f e_))]=Eq (jc ts g):=by
 obtain⟨r,⟨ts,g,hts,rfl⟩,h⟩:∃ r,(∃ ts g,NT m L ts∧r=jc ts g)∧bR tab 73 [.c (.f (.fn f e_))] r:=by
  refine sR afv rfl fun Q hQ=>?_;apply ai;simp;apply ai;simp;apply aq;apply ai;simp;refine az ?_;have u_:∀(t:T) (J:an) (cl:C) (ts:List (List aE)),t.g 2=.c (.ptr 0 0 0)→t.g 4=.c (.ptr 1 0 0)→SJ J cl ts→NT m L ts→WP tab 73 ab [.code nZ] ⟨t,[.er 2],J⟩ Q:=by
   intro t J cl ts H S I hN;have y8:=hN.len;obtain⟨M,hM⟩:=aL (ts.length);apply ai;simp;obtain⟨l,i8⟩:=aL (J.length);obtain⟨J1,a8⟩:=aL (J++[bZ.box [.f .aA] 0]);have d_:SJ J1 cl ts:=by rw [a8];exact I.push _
   have c1:J1[l]?=aa (.box [.f .aA] 0):=by rw [a8,i8];simp
   have l1:aU J1 ab (.c (.ptr 1 0 0))=aa (.c cl):=by simp [aU,aC,d_.h1]
   have ll:=d_.lj.len;have lJ1:J1.length=l+1:=by rw [a8];simp [i8]
   have m_:∀ i,aS cl=aa i→i<l+1:=fun i hi=>by
    rcases d_.lj with⟨-,rfl⟩ | ⟨b,ep,cs,rest,rfl,hb,-,-⟩
    ·cases hi
    ·cases hi;have:=aj hb;omega
   have hb2:2<l:=by have:=aj I.df;omega
   rw [←hM]at ll;rw [←a8,←i8];apply aq;apply ai;simp [S,l1,ll,-ay];refine bU M (fun k t J=>t.g 2=.c (.ptr 0 0 0)∧t.g 11=.c (.ptr l 0 0)∧t.g 98=.c cl∧∃ z us,SJ J cl ts∧J[l]?=aa (.box [z] 0)∧LO J z us∧(∀ i,aS z=aa i→l+1≤i)∧us.length≤k∧(∀ t ∈ us,Br m t)∧∀ d,0≤d→(gB us d↔gB (ts.take k) d)) (by omega) (by decide) (by decide) (by simp) (by simp)
    ⟨by simp [H],by simp,by simp,.f .aA,[],d_,c1,.inl ⟨rfl,rfl⟩,(fun i h=>by cases h),by simp,by simp,fun d _=>by simp [gB]⟩ ?_ ?_
   ·rintro k t J' hk ⟨H,d9,k_,z,us,I,K,g_,A,t9,c_,i3⟩ ha hb next
    have o8:k<ts.length:=by omega
    obtain⟨bk,ek,ck,-,xk,lk,q_⟩:=I.lj.at o8;have j4:ts.take (k+1)=ts.take k++[ts[k]]:=by rw [aju,By o8];rfl
    have n8:=hN.ok _ (IT o8);obtain⟨E,htt⟩:=aL (ts[k]);rw [←htt]at q_ j4 n8;refine az ?_;apply ai;simp [ha,k_,xk,lk,-ay];obtain⟨X,m9⟩:=aL (J'.length);obtain⟨W,v⟩:=aL (J'++[bZ.box [ck] 0]);have N:SJ W cl ts:=by rw [v];exact I.push _
    have b_:LO W z us:=by rw [v];exact g_.push _
    have n_:W[l]?=aa (.box [z] 0):=by rw [v,AT (aj K)];exact K
    have o0:W[X]?=aa (.box [ck] 0):=by rw [v,m9];simp
    have i7:TC W ck E:=q_.bf fun i cs fl _ hi=>⟨fl,by rw [v,AT (aj hi)];exact hi⟩
    have t6:l≠X:=by have:=aj K;omega
    rw [←v,←m9];obtain⟨go,o7⟩:=b_.ex 62;have x8:et 63 W (.ptr X 0 0)=aa (.fp [sl .fs (aH E)] 0):=by
     have:=i7.ex 61;simp only [RO,o0,aZ,this];rfl
    have lus:us.length≤64:=by omega
    have f8:=RA go .fs us (by omega) (fun s hs=>⟨by have:=(c_ s hs).2.1;omega,fun p hp=>by have:=((c_ s hs).2.2 p hp).head;have:=((c_ s hs).2.2 p hp).a5;omega⟩) E;obtain⟨dv,i9⟩:=aL (us.any fun s=>fI s E:Bool);rw [←i9]at f8;have f8:bR tab 74 [.c (.f (sl go (bW us))),.c (.f (.fn 115 [.fp [sl .fs (aH E)] 0]))]=Eq (vb dv):=f8;obtain⟨n1,n2,n3,n4⟩:=HX (F:=115) b_ o0 i7;obtain⟨J3,a_⟩:=aL (eK 64 (.cl 115 [.ptr X 0 0]) (eK 64 z W));rw [←a_]at n1 n2 n3 n4;have m0:0≠X:=by have:=aj I.h0;omega
    have m1:1≠X:=by have:=aj I.h1;omega
    have m2:2≠X:=by have:=aj I.df;omega
    have p9:aS z≠aa 2:=fun e=>by have:=A 2 e;omega
    have c9:SJ J3 cl ts:=⟨n3 0 _ N.h0 (b_.bh N.h0) m0 (fun cs fl e=>by cases e;simp),n3 1 _ N.h1 (b_.bh N.h1) m1 (fun cs fl e=>by cases e;simp),n3 2 _ N.df p9 m2 (fun cs fl e=>by cases e),N.lj.bf n2 fun i y hi u=>n3 i y u (fun e=>by have:=A i e;have:=m_ i hi;omega) (by rintro rfl;exact N.lj.bh o0 hi) fun cs fl e=>by subst e;exact absurd hi (N.lj.bh u)⟩
    have O:J3[l]?=aa (.box [z] 0):=n3 l _ n_ (b_.bh n_) t6 (fun cs fl e=>by cases e;simp);have p8:aU W ab (.c (.ptr l 0 0))=aa (.c z):=by simp [aU,aC,n_]
    apply ai;simp [d9,p8,-ay,o7,deep,aZ,x8,f8,-RO,←a_];cases dv with
    | true=>
     refine a6 (by simp) ?_;refine ax (next _ _ ⟨by simp [H],by simp [d9],by simp [k_],z,us,c9,O,n1,A,by omega,c_,fun d hd=>?_⟩ (by simp [ha]) (by simp [hb]));rw [j4,iM,lT,i3 d hd];refine⟨.inl,fun h=>h.elim id fun h=>(i3 d hd).1 ?_⟩;obtain⟨s,hs,w_⟩:=List.any_eq_true.1 i9.symm;exact⟨s,hs,(rQ w_ d).2 h⟩
    | false=>
     refine aw (by simp) ?_;have j8:aU J3 ab (.c (.ptr l 0 0))=aa (.c z):=by simp [aU,aC,O]
     have t_:aU J3 ab (.c (.ptr X 0 0))=aa (.c ck):=by simp [aU,aC,n4]
     have r7:=i7.bf n2;obtain⟨c3,H3,r8,f7,y4,h_,v_⟩:=n1.app (by omega) r7;have aiN:l<J3.length:=aj O;have j9:=h_ l _ O (n1.bh O);have s11:di H3 (.ptr l 0 0) [c3]=aa (H3.set l (.box [c3] 0)):=by simp [di,j9,over]
     refine au (.inl rfl) ?_;simp [d9,j8,t_,-ay,r8,s11,-bu];have v8:B4 J3 (H3.set l (.box [c3] 0)):=fun i cs fl hc u=>⟨fl,by rw [sh (by rintro rfl;rw [O]at u;cases u;simp at hc)];exact h_ i _ u (n1.bh u)⟩
     refine ax (next _ _ ⟨by simp [H],by simp [d9],by simp [k_],c3,us++[E],⟨?_,?_,?_,?_⟩,If (aj j9),?_,fun i hi=>?_,by rw [ai7,List.length_singleton];omega,fun x hx=>?_,fun d hd=>?_⟩ (by simp [ha]) (by simp [hb]))
     ·rw [sh (by omega)];exact h_ 0 _ c9.h0 (n1.bh c9.h0)
     ·rw [sh (by omega)];exact h_ 1 _ c9.h1 (n1.bh c9.h1)
     ·rw [sh (by omega)];exact h_ 2 _ c9.df p9
     ·refine c9.lj.bf v8 fun i y hi u=>?_;have:=m_ i hi;have y7:l≠i:=by rintro rfl;exact c9.lj.bh O hi
      rw [sh y7];exact h_ i y u fun e=>by have:=A i e;omega
     ·refine f7.bf (fun i cs fl hc u=>⟨fl,by rw [sh (by rintro rfl;rw [j9]at u;cases u;simp at hc)];exact u⟩) fun i y hi u=>?_;rw [sh (by rintro rfl;exact f7.bh j9 hi)];exact u
     ·rcases v_ with e | e
      ·rw [e]at hi;exact A i hi
      ·rw [e]at hi;cases hi;omega
     ·rcases aja.1 hx with h | h
      ·exact c_ x h
      ·rw [ai9]at h;rw [h];exact n8
     ·rw [j4,iM,iM,i3 d hd]
   ·rintro t J' ⟨H,d9,k_,z,us,I,K,g_,A,t9,c_,i3⟩ - -;rw [hM,ajr]at i3;have lus:us.length≤64:=by omega
    obtain⟨go,o7⟩:=g_.ex 62;have j3:ij (us.map fun s=>⟨.fs,s⟩)=ae:=by
     simp only [ij,BY,decide_eq_true_eq,aji,ajf];refine⟨by omega,fun x hx=>?_⟩;obtain⟨s,hs,rfl⟩:=ajj.1 hx;obtain⟨h1,h2,h3⟩:=c_ s hs;have:=ajE.2 h1;simp only [il,BY,decide_eq_true_eq,aji];exact⟨⟨by omega,by omega⟩,fun p hp=>(h3 p hp).ok⟩
    have j7:=(mu go (us.map fun s=>⟨.fs,s⟩) (by simp;omega) (mv j3)).eq;rw [j3]at j7;have etr:aD (us.map fun s=>⟨.fs,s⟩)=bW us:=by simp [aD,bW,cz.row]
    rw [etr]at j7;obtain⟨n1,n2⟩:=g_.mk 62;have p8:aU J' (aa 1) (.c (.ptr l 0 0))=aa (.a [z]):=by simp [aU,aC,K,aW]
    apply aq;apply ai;simp [d9,p8,-ay,o7,deep,aZ,j7];refine a6 (by simp) ?_;obtain⟨W,v⟩:=aL (eK 64 z J');have n1:LO W z us:=by rw [v];exact n1
    have n2:∀(i:Nat) (y:bZ),J'[i]?=aa y→aS z≠aa i→(∀ cs fl,y=bZ.box cs fl→cs.length<4)→W[i]?=aa y:=fun i y u hi hn=>by
     rw [v];rcases n2 i y u hi with k | ⟨cs,f1,f2,hc,e,k⟩
     ·exact k
     ·have:=hn _ _ e;omega
    rw [←v];have e0:=n2 0 _ I.h0 (g_.bh I.h0) (fun cs fl e=>by cases e;simp);have e2:=n2 2 _ I.df (fun e=>by have:=A 2 e;omega) (fun cs fl e=>by cases e);have O:=n2 l _ K (g_.bh K) (fun cs fl e=>by cases e;simp);have j8:aU W (aa 1) (.c (.ptr l 0 0))=aa (.a [z]):=by simp [aU,aC,O,aW]
    have s0:di W (.ptr 0 0 0) [z]=aa (W.set 0 (.box [z] 0)):=by simp [di,e0,over]
    obtain⟨J3,a_⟩:=aL (W.set 0 (.box [z] 0));have f0:J3[0]?=aa (.box [z] 0):=by rw [a_];exact If (aj e0)
    have f2:J3[2]?=aa (.fg ae):=by rw [a_,sh (by omega)];exact e2
    have f7:LO J3 z us:=n1.bf (fun i cs fl hc u=>⟨fl,by rw [a_,sh (by rintro rfl;rw [e0]at u;cases u;simp at hc)];exact u⟩) fun i y hi u=>by rw [a_,sh (by rintro rfl;exact n1.bh e0 hi)];exact u
    have p_:LO (J3.set 2 (.fg ag)) z us:=f7.bf (fun i cs fl hc u=>⟨fl,by rw [sh (by rintro rfl;rw [f2]at u;cases u)];exact u⟩) fun i y hi u=>by rw [sh (by rintro rfl;have:=A 2 hi;omega)];exact u
    obtain⟨gz,x9⟩:=p_.ex 62;apply ai;simp [H,d9,j8,-ay,s0,-bu];rw [←a_];refine aF (hQ _ _ _ ⟨us,gz,⟨by omega,c_,fun d hd=>by rw [i3 d hd];exact hN.mem d hd⟩,rfl⟩ (.inr ⟨2,rfl,f2,.t [.a [z],vi 0],?_,?_⟩))
    ·have u9:(J3.set 2 (.fg ag))[0]?=aa (.box [z] 0):=by rw [sh (by omega)];exact f0
     simp [Km.results,cC,aZ,H,u9,aW]
    ·simp [mR,dI,aZ,deep,x9,jc]
  have o_:∀(t:T) (J:an) (cl:C) (ts:List (List aE)),t.g 2=.c (.ptr 0 0 0)→t.g 4=.c (.ptr 1 0 0)→SJ J cl ts→NT m L ts→WP tab 73 ab [.code ri] ⟨t,[.er 2],J⟩ Q:=by
   intro t J cl ts H S I hN;apply aq;apply ai;simp;refine az ?_;refine bJ (fun n s=>∃(t:T) (J:an) (cl:C) (ts:List (List aE)) (jn:Bool),s=⟨t,[.er 2],J⟩∧n=(if jn then ts.length+1 else 0)∧t.g 2=.c (.ptr 0 0 0)∧t.g 4=.c (.ptr 1 0 0)∧t.g 6=vb jn∧SJ J cl ts∧NT m L ts) (ts.length+1)
    ⟨_,J,cl,ts,ae,rfl,rfl,by simp [H],by simp [S],by simp,I,hN⟩ ?_
   clear I hN H S;rintro n s ⟨t,J,cl,ts,jn,rfl,rfl,H,S,g6,I,hN⟩ ih;apply aq;apply ai;simp [g6];cases jn with
   | false=>
    refine aG (by simp) ?_;exact bw rfl (u_ _ J cl ts (by simp [H]) (by simp [S]) I hN)
   | true=>
    refine aw (by simp) (aP ?_);refine az (jU ?_);apply ai;simp;refine aq (oK ?_);have y8:=hN.len;obtain⟨M,hM⟩:=aL (ts.length);have l1:aU J ab (.c (.ptr 1 0 0))=aa (.c cl):=by simp [aU,aC,I.h1]
    have ll:=I.lj.len;rw [←hM]at ll;apply ai;simp [S,l1,ll,-ay];refine bU M (fun i t J'=>J'=J∧t.g 2=.c (.ptr 0 0 0)∧t.g 4=.c (.ptr 1 0 0)∧t.g 6=vb ag) (by omega) (by decide) (by decide) (by simp) (by simp) ⟨rfl,by simp [H],by simp [S],by simp⟩ ?_ ?_
    ·rintro i t J' hi ⟨rfl,H,S,g6⟩ ha hb next
     refine az ?_;apply ai;simp [ha];apply ai;simp [aM (n:=(i:Int)+1)];refine az ?_;refine bJ (fun n s=>∃(j:Nat) (t':T),s=⟨t',[.er 2],J'⟩∧n=M-j∧i<j∧j≤M∧t'.g 2=.c (.ptr 0 0 0)∧t'.g 4=.c (.ptr 1 0 0)∧t'.g 6=vb ag∧t'.g 7=vi i∧t'.g 8=vi j∧t'.g 27=t.g 27∧t'.g 28=t.g 28) (M-(i+1))
      ⟨i+1,_,rfl,rfl,by omega,by omega,by simp [H],by simp [S],by simp [g6],by simp,by simp,by simp,by simp⟩ ?_
     rintro n s ⟨j,t',rfl,rfl,r_,hjM,i4,B,j_,f_,a7,Y,Z⟩ ih2;have s7:i<ts.length:=by omega
     obtain⟨bi,ei,ci,-,xi,li,o4⟩:=I.lj.at s7;have u5:=o4.len;apply aq;apply ai;have i_:∀ E:T,E.g 2=.c (.ptr 0 0 0)→E.g 4=.c (.ptr 1 0 0)→E.g 6=vb ag→E.g 27=t.g 27→E.g 28=t.g 28→WP tab 73 ab [.inBlock 5,.code (qN 28 97),.inLoop (ik 4 28 27 29 97 rm),.inBlock 4,.inScope rk,.inBlock 3,.inLoop rj,.inBlock 2,.code nZ] ⟨E,[.er 2],J'⟩ Q:=by
      intro E H S g6 Y Z;exact ax (next _ _ ⟨rfl,by simp [H],by simp [S],by simp [g6]⟩ (by rw [Z,ha]) (by rw [Y,hb]))
     have skip:∀ E:T,E.g 2=.c (.ptr 0 0 0)→E.g 4=.c (.ptr 1 0 0)→E.g 6=vb ag→E.g 7=vi i→E.g 8=vi j→E.g 27=t.g 27→E.g 28=t.g 28→j<M→WP tab 73 ab [.code xD,.inLoop xC,.inBlock 6,.inBlock 5,.code (qN 28 97),.inLoop (ik 4 28 27 29 97 rm),.inBlock 4,.inScope rk,.inBlock 3,.inLoop rj,.inBlock 2,.code nZ] ⟨E,[.er 2],J'⟩ Q:=by
      intro E H S g6 g7 g8 Y Z hlt;refine au (.inl rfl) ?_;simp [g8,aM (n:=(j:Int)+1)];exact ih2 (M-(j+1)) _ (by omega) ⟨j+1,_,rfl,rfl,by omega,by omega,by simp [H],by simp [S],by simp [g6],by simp [g7],by simp,by simp [Y],by simp [Z]⟩
     by_cases hj:j<M
     ·have ai0:(decide ((ts[i].length:Int)=1))=decide (ts[i].length=1):=by
       apply decide_eq_decide.2;omega
      simp [B,f_,a7,l1,ll,hj,xi,li,u5,-ay];by_cases h1:ts[i].length=1
      ·obtain⟨p,hp⟩:∃ p,ts[i]=[p]:=List.length_eq_one_iff.1 h1;rw [hp]at o4;obtain⟨qi,yi,zi⟩:=o4.one;have l_:j<ts.length:=by omega
       obtain⟨bj,ej,cj,-,xj,lj,o5⟩:=I.lj.at l_;have n9:=o5.len;refine aw (by simp [h1]) (aP ?_);apply aq;refine az ?_;apply aq;apply ai;by_cases h2:ts[j].length=1
       ·obtain⟨p',o9⟩:∃ p',ts[j]=[p']:=List.length_eq_one_iff.1 h2;rw [o9]at o5;obtain⟨qj,yj,zj⟩:=o5.one;have si:nv p:=(hN.ok _ (IT s7)).2.2 p (by rw [hp];simp);have sj:nv p':=(hN.ok _ (IT l_)).2.2 p' (by rw [o9];simp);have pi1:=(aV si.ok).2.2.1;have pj1:=(aV sj.ok).2.2.1;have pi2:=si.aJ;have pj2:=sj.aJ;have n6:=rJ p p' pi1 (by omega) pj1 (by omega);obtain⟨dv,i9⟩:=aL ((decide (p.aJ % p'.aJ=0)||decide (p'.aJ % p.aJ=0)):Bool);rw [←i9]at n6;simp [B,f_,a7,l1,xi,li,xj,lj,n9,h2,yi,zi,yj,zj,-ay,oA,oS,←ed,n6];cases dv with
        | false=>
         refine aw (by simp) ?_;refine bw rfl ?_;exact skip _ (by simp [i4]) (by simp [B]) (by simp [j_]) (by simp [f_]) (by simp [a7]) (by simp [Y]) (by simp [Z]) hj
        | true=>
         have hd:p.aJ % p'.aJ=0∨p'.aJ % p.aJ=0:=by simpa using i9.symm
         have hR:∃ R:Int,0<R∧R≤12∧p.aJ ∣ R∧p'.aJ ∣ R:=by
          rcases hd with h | h
          ·exact⟨p.aJ,by omega,pi2,akw _,akr h⟩
          ·exact⟨p'.aJ,by omega,pj2,akr h,akw _⟩
         obtain⟨R,R0,R1,Ra,Rb⟩:=hR;obtain⟨q,c1,c2,c3,c4,t7⟩:=afr p p' si sj R0 R1 Ra Rb;have sq:nv q:=⟨c1,by have:=si.fr;have:=sj.fr;omega,akk (aj7 R0 c3) R1⟩
         simp only [←ed]at t7;have t8:(cN q).length=4:=rfl;obtain⟨J1,a8⟩:=aL (J'++[bZ.box (cN q) 0]);have b1:J1[J'.length]?=aa (.box (cN q) 0):=by rw [a8];simp
         have l9:aU J1 (aa 4) (.c (.ptr J'.length 0 0))=aa (.a (cN q)):=by simp [aU,aC,b1,aW,cN]
         refine a6 (by simp) ?_;apply ai;simp [B,f_,a7,l1,xi,li,xj,lj,yi,zi,yj,zj,-ay,oA,oS,←ed,t7,t8];rw [←a8];apply ai;simp;refine aw (by simp) ?_;have d_:SJ J1 cl ts:=by rw [a8];exact I.push _
         obtain⟨W,v⟩:=aL (J1++[bZ.box (cN q) 0]);have N:SJ W cl ts:=by rw [v];exact d_.push _
         have b2:W[J1.length]?=aa (.box (cN q) 0):=by rw [v];simp
         obtain⟨bb,ee,J3,c2,J4,m1,m2,m3,m4,m5,m6,v9⟩:=N.join r_ l_ (by omega) b2;have l1a:aU J1 ab (.c (.ptr 1 0 0))=aa (.c cl):=by simp [aU,aC,d_.h1]
         apply ai;simp [B,f_,l1a,l9,t8,-ay,←v,m2,m3,-bu];have u7:((j+1:Nat):Int)=(j:Int)+1:=by omega
         rw [u7]at m5;apply ai;simp [B,a7,m4,-ay,aM (n:=(j:Int)+1),m5.eq,m6,-bu];apply ai;simp;have s_:((ts.set i [q]).eraseIdx j).length=ts.length-1:=by rw [akT,ba (by rw [ajp];omega),ajp]
         refine bw rfl (sk (ax (ih (((ts.set i [q]).eraseIdx j).length+1) _ (by simp;omega) ⟨_,_,c2,(ts.set i [q]).eraseIdx j,ae,rfl,by simp,by simp [i4],by simp [B],by simp,v9,⟨by omega,Tr hN.ok y6 sq,fun d r9=>?_⟩⟩)));rw [RW r_ l_ hp o9 c4 d r9];exact hN.mem d r9
       ·simp [B,a7,l1,xj,lj,n9,show¬ (ts[j].length:Int)=1 by omega,-ay];refine aw (by simp) ?_;refine bw rfl ?_;exact skip _ (by simp [i4]) (by simp [B]) (by simp [j_]) (by simp [f_]) (by simp [a7]) (by simp [Y]) (by simp [Z]) hj
      ·refine aG (by simp;omega) ?_;refine bw rfl ?_;exact i_ _ (by simp [i4]) (by simp [B]) (by simp [j_]) (by simp [Y]) (by simp [Z])
     ·simp [B,a7,l1,ll,hj,-ay];refine aG (by simp) ?_;refine bw rfl ?_;exact i_ _ (by simp [i4]) (by simp [B]) (by simp [j_]) (by simp [Y]) (by simp [Z])
    ·rintro t J' ⟨rfl,H,S,g6⟩ - -;refine sk (ax (ih 0 _ (by simp) ⟨_,J',cl,ts,ag,rfl,rfl,by simp [H],by simp [S],by simp [g6],I,hN⟩))
  suffices go:∀ s:T,s.g 2=.c (.ptr 0 0 0)→s.g 4=.c (.ptr 1 0 0)→s.g 14=.c (.f (.fn f e_))→WP tab 73 ab [.code Bf,.inBlock 0,.code ri] ⟨s,[],[.box [.f .aA] 0,.box [.f .aA] 0]⟩ Q by exact go _ (by simp) (by simp) (by simp)
  intro s H S v6;obtain⟨HR,i6⟩:=aL ([.box [.f .aA] 0,.box [.f .aA] 0,.fg ae,.lp 73 s [P.nat 15] mN jq .ready ab 2]:an);obtain⟨H2,he,cl,ts,hq,U⟩:=hI 3 HR (fun j J=>∃ cl ts,zH s cl ts .ready J∧NT m (L.take j) ts)
   ⟨.f .aA,[],⟨by rw [i6];rfl,by rw [i6];rfl,LR.nil _ _,(fun h=>by cases h),(fun i h=>by cases h),by rw [i6];rfl,by rw [i6];rfl⟩,⟨by simp,by simp,fun d _=>by simp [gB]⟩⟩
   (fun j hj J0 J c ⟨cl,ts,hq,U⟩ hk s_ hT hc=>by
    have j4:L.take (j+1)=L.take j++[L[j]]:=by rw [aju,By hj];rfl
    have y_:zH s cl ts .ready J:=hq.bf fun i y hi u=>by rw [hk i hi];exact u
    have l3:=aj hq.lp;have t4:=U.len;rw [ajF]at t4;obtain⟨r,H',x6,rfl,u6,ts',hq2,o6⟩:=wm S (by omega) (show m≤64 by omega) (hL _ (IT hj)) y_ hT (fun i hi=>by have:=hc i hi;omega) (fun i hi x_=>by have:=hc i hi;have:=hq.lr.lt x_;omega);refine⟨H',x6,u6,ts',hq2,?_⟩;rw [j4];have hl2:(L.take j++[L[j]]).length=min j L.length+1:=by rw [ai7,ajF];rfl
    rcases o6 with⟨rfl,y9⟩ | ⟨t,rfl,ht,t5⟩
    ·refine⟨by omega,U.ok,fun d hd=>?_⟩;rw [iM,lT,U.mem d hd];exact⟨.inl,fun h=>h.elim id fun h=>absurd h (y9 d hd)⟩
    ·refine⟨by rw [ai7,List.length_singleton];omega,fun x hx=>?_,fun d hd=>?_⟩
     ·rcases aja.1 hx with h | h
      ·exact U.ok x h
      ·rw [ai9]at h;rw [h];exact ht
     ·rw [iM,iM,lT,lT,U.mem d hd,t5 d hd])
  rw [ajr]at U;rw [i6]at he;refine fO (g:=f) (by rw [ry,v6];simp [bS]) he ?_;refine gW hq.lp (by decide) (ax ?_);have h3:=hq.three (st':=.exhausted);exact o_ s _ cl ts H S ⟨h3.h0,h3.h1,h3.df,R4 (fun t ht=>(U.ok t ht).1) h3.lr h3.ne⟩ U
 exact⟨ts,g,hts,h.eq⟩
def qJ(ts:List cz):Prop:=ts.length≤2∧∀ t ∈ ts,Br 2 t.fs
theorem qJ.mix{ts:List cz}(h:qJ ts):ij ts=ae:=by
 simp only [ij,BY,decide_eq_true_eq,aji];refine⟨by have:=h.1;omega,fun t d=>?_⟩;obtain⟨h1,h2,h3⟩:=h.2 t d;have:=ajE.2 h1;simp only [il,BY,decide_eq_true_eq,aji];exact⟨⟨by omega,by omega⟩,fun p b=>(h3 p b).ok⟩
structure SQ(row:FC)(by':Int)(N:Nat)(cl:C)(us:List (List aE))(t:T)(J:an):Prop where
 b0:J[0]?=aa (.box [.f row] 0)
 b1:J[1]?=aa (.box [.f .aA] 0)
 g1:t.g 1=vi by'
 g2:t.g 2=.c (.ptr 0 0 0)
 g4:t.g 4=.c (.ptr 1 0 0)
 g6:t.g 6=.c cl
 lo:LO J cl us
theorem Tq{J:an}{b:Nat}{ps:List aE}(h:BX J b ps.length ps)(g:ps≠[]):TC J (.sl b 0 ps.length ps.length 0 4) ps:=by
 obtain⟨rest,d,j⟩:=h;have:rest=[]:=List.length_eq_zero_iff.1 (by rw [ai7,lD]at j;omega);subst this;rw [ajP]at d;exact .inr ⟨g,b,0,rfl,d⟩
theorem uX(g:Tg)(ts:List cz)(S:qJ ts)(b:Int)(p9:-1000≤b)(n_:b≤0) :
  ∃ us g',(us.length≤2∧∀ u ∈ us,Br 2 u)∧(∀ d,0≤d→(gB us d↔∃ t ∈ ts,fh t.fs (d-b)))∧bR tab 67 [.a [.f (sl g (aD ts))],vi b]=Eq (.t [.a [.f (sl g' (bW us))],vi 0]):=by
 obtain⟨r,⟨us,g',h1,h2,rfl⟩,h⟩:∃ r,(∃ us g',(us.length≤2∧∀ u ∈ us,Br 2 u)∧(∀ d,0≤d→(gB us d↔∃ t ∈ ts,fh t.fs (d-b)))∧r=.t [.a [.f (sl g' (bW us))],vi 0])∧bR tab 67 [.a [.f (sl g (aD ts))],vi b] r:=by
  have I:=(mu g ts (by have:=S.1;omega) (mv S.mix)).eq;rw [S.mix]at I;have r9:=S.1;refine fu rfl rfl fun Q hQ=>?_;apply ai;simp;apply aq;apply ai;simp [I];refine a6 (by simp) ?_;apply ai;simp;have k_:∀ H:an,bg H (.f (sl g (aD ts)))=aa ts.length:=fun H=>by simp
  apply aq;apply ai;simp [k_];refine bU ts.length (fun k t J=>t.g 19=.c (.f (sl g (aD ts)))∧∃ cl us,SQ (sl g (aD ts)) b 0 cl us t J∧us.length=k∧(∀ u ∈ us,Br 2 u)∧∀ d,0≤d→(gB us d↔∃ t ∈ ts.take k,fh t.fs (d-b))) (by omega) (by decide) (by decide) (by simp) (by simp)
   ⟨by simp,.f .aA,[],⟨rfl,rfl,by simp,by simp,by simp,by simp,.inl ⟨rfl,rfl⟩⟩,rfl,by simp,fun d _=>by simp [gB]⟩ ?_ ?_
  ·rintro k t J hk ⟨a_,cl,us,z,j8,f8,c⟩ ha hb next
   have F:=fun H:an=>fZ (H:=H) (eM ts) (fQ (l:=ts) (j:=k) hk) rfl;have o:=fun H:an=>bH (H:=H) (g:=g) (rows:=aD ts) (sz:=1) (k:=.i64) (i:=k) (by omega) (by simpa using hk);simp at F o;have j7:ts.take (k+1)=ts.take k++[ts[k]]:=by rw [aju,By hk];rfl
   have B:=S.2 _ (IT hk);obtain⟨tm,o9⟩:=aL (ts[k]);rw [←o9]at F j7 B;obtain⟨ps,j3⟩:=aL (tm.fs);rw [←j3]at F B;obtain⟨n,hn⟩:=aL (ps.length);have r7:0<n:=by rw [hn];exact ajE.2 B.1
   have r8:n≤2:=by have:=B.2.1;omega
   have a8:∀ H:an,bg H (.f (sl tm.tg (aH ps)))=aa n:=fun H=>by rw [hn];simp
   have o8:∀(t:T) (H:an),t.g 26=vi n→bC t H (.dD 4 64 [.aA,fi 0,fi 0,.aA] (R 26) (R 26))=aa (.c (.sl H.length 0 n n 0 4),H++[.box ((cB n [FC.aA,fi 0,fi 0,.aA]).map .f) 0]):=by
    intro t H ht;simp only [bC,ry,ht];have hi:fS (vi n)=aa (n:Int):=rfl;simp only [hi];rw [ba ⟨by omega,aky _,dF (by simp;omega) (by decide),rfl⟩,aR (by omega)];simp
   refine az ?_;apply ai;simp [ha,a_,o,F];apply ai;simp [a8,o8];obtain⟨b9,d9⟩:=aL (J.length);obtain⟨J1,Y⟩:=aL (J++[bZ.box (List.replicate n [C.f FC.aA,C.f (fi 0),C.f (fi 0),C.f FC.aA]).flatten 0]);have n8:BX J1 b9 n ([]++List.replicate n zp):=by
    refine⟨[],?_,?_⟩
    ·rw [Y,d9,ajZ,ajP];have:cZ (List.replicate n zp)=List.replicate n [C.f FC.aA,C.f (fi 0),C.f (fi 0),C.f FC.aA]:=by
      rw [cZ,List.map_replicate];rfl
     rw [this];simp
    ·rw [ajZ,ajP,lD,ak4]
   rw [←Y,←d9];have k1:∀(i:Nat) y,J[i]?=aa y→J1[i]?=aa y:=fun i y X=>by rw [Y,AT (aj X)];exact X
   have r_:J1.length=b9+1:=by rw [Y];simp [d9]
   apply aq;apply ai;simp [a8];refine bU n (fun j U J'=>U.g 1=vi b∧U.g 2=.c (.ptr 0 0 0)∧U.g 4=.c (.ptr 1 0 0)∧U.g 6=.c cl∧U.g 9=.c (.sl b9 0 n n 0 4)∧U.g 19=.c (.f (sl g (aD ts)))∧U.g 20=t.g 20∧U.g 21=t.g 21∧U.g 28=.c (.f (sl tm.tg (aH ps)))∧(∀(i:Nat) y,J[i]?=aa y→J'[i]?=aa y)∧b9<J'.length∧∃ qs,qs.length=j∧BX J' b9 n (qs++List.replicate (n-j) zp)∧(∀ q ∈ qs,nv q)∧∀ d,0≤d→(fh qs d↔fh (ps.take j) (d-b))) (by omega) (by decide) (by decide) (by simp) (by simp)
    ⟨by simp [z.g1],by simp [z.g2],by simp [z.g4],by simp [z.g6],by simp,by simp [a_],by simp,by simp,by simp,k1,by omega,[],rfl,by simpa using n8,by simp,fun d _=>by simp [fh]⟩ ?_ ?_
   ·rintro j U J' hj ⟨g1,g2,g4,g6,g9,M,b_,c9,c_,v,i9,qs,K,hX,f7,a⟩ i7 n9 h_;have d_:j<ps.length:=by omega
    have j9:=fun H:an=>bH (H:=H) (g:=tm.tg) (rows:=aH ps) (sz:=4) (k:=.i64) (i:=(j:Int)) (by omega) (by simp;omega);have g_:=fun H:an=>dr (H:=H) (bA ps) (cF d_);simp only [ajA]at j9;have E:=B.2.2 _ (IT d_);have a7:ps.take (j+1)=ps.take j++[ps[j]]:=by rw [aju,By d_];rfl
    obtain⟨u,hu⟩:=aL (ps[j]);rw [←hu]at g_ E a7;obtain⟨q,c1,c2,c3,-,-,c4,j4⟩:=Im u E.ok (by have:=E.a5;omega) (by have:=E.head;omega) b (by omega) n_;have s7:=(aV E.ok).2.2.1;have sq:nv q:=⟨c1,by have:=E.fr;omega,akk (aj7 (by omega) c3) E.aJ⟩
    simp only [←ed]at g_ j4;have O:∀ p,(cN p).length=4:=fun _=>rfl;have tk:∀ p,List.take 4 (cN p)=cN p:=fun _=>rfl;obtain⟨W,A⟩:=aL (J'++[bZ.box (cN u) 0]);have l_:W[J'.length]?=aa (.box (cN u) 0):=by rw [A];simp
    have o_:aU W (aa 4) (.c (.ptr J'.length 0 0))=aa (.a (cN u)):=by simp [aU,aC,l_,aW,O,tk]
    obtain⟨J3,Z⟩:=aL (W++[bZ.box (cN q) 0]);have m9:J3[W.length]?=aa (.box (cN q) 0):=by rw [Z];simp
    have p8:aU J3 (aa 4) (.c (.ptr W.length 0 0))=aa (.a (cN q)):=by simp [aU,aC,m9,aW,O,tk]
    have i4:BX J3 b9 n (qs++List.replicate (n-j) zp):=by rw [Z,A];exact(hX.push _).push _
    have o6:(qs++List.replicate (n-j) zp).length=n:=by rw [ai7,ak4];omega
    obtain⟨j_,-⟩:=i4.at (i:=j) (by omega);obtain⟨J4,s4,i6,q_,o4⟩:=i4.st (i:=j) (by omega) q;rw [o6]at j_;refine az ?_;apply ai;simp [i7,c_,j9,g_,-ay,O];rw [←A];apply ai;simp [g1,o_,-ay,oA,oS,←ed,j4,O];rw [←Z];apply aq;apply ai;simp;refine a6 (by simp) ?_;refine au (.inl rfl) ?_;simp [g9,p8,j_,s4,O,-ay,-bu];have o5:∀(i:Nat) y,J[i]?=aa y→J4[i]?=aa y:=fun i y X=>by
     have h1:=aj X;have h2:=aj (v i y X);rw [o4 i (by omega),Z,AT (by rw [A,ai7];omega),A,AT h2];exact v i y X
    refine ax (h_ _ _ ?_ (by simp [i7]) (by simp [n9]));refine⟨by simp [g1],by simp [g2],by simp [g4],by simp [g6],by simp [g9],by simp [M],by simp [b_],by simp [c9],by simp [c_],o5,by have:=i6.lt;omega,qs++[q],by simp [K],?_,fun x L=>?_,fun d f=>?_⟩
    ·have e:(qs++List.replicate (n-j) zp).set j q=qs++[q]++List.replicate (n-(j+1)) zp:=by
      obtain⟨k,hk⟩:∃ k,n-j=k+1:=⟨n-j-1,by omega⟩
      rw [List.set_append_right _ _ (by omega),K,Nat.sub_self,hk,List.replicate_succ,List.set_cons_zero,show n-(j+1)=k by omega,ajI];rfl
     rw [←e];exact i6
    ·rcases aja.1 L with h | h
     ·exact f7 x h
     ·rw [ai9]at h;rw [h];exact sq
    ·rw [a7,eE,eE,a d f];simp only [fh,ai9,forall_eq];rw [c4 d f]
   ·rintro U J' ⟨g1,g2,g4,g6,g9,M,b_,c9,c_,v,i9,qs,K,hX,f7,a⟩ - -;rw [Nat.sub_self,List.replicate_zero,ajP]at hX;rw [hn,ajr]at a;have w:qs≠[]:=by intro e;rw [e]at K;simp at K;omega
    rw [←K]at hX g9;have n6:=Tq hX w;have m_:B4 J J':=fun i cs fl _ X=>⟨fl,v i _ X⟩
    have N:LO J' cl us:=z.lo.bf m_ fun i y _ X=>v i y X;obtain⟨c3,H3,i8,i3,o7,i_,p_⟩:=N.app (by omega) n6;refine au (.inl rfl) ?_;simp [g6,g9,i8];refine ax (next _ _ ⟨by simp [M],c3,us++[qs],⟨i_ 0 _ (v 0 _ z.b0) (N.bh (v 0 _ z.b0)),i_ 1 _ (v 1 _ z.b1) (N.bh (v 1 _ z.b1)),by simp [g1],by simp [g2],by simp [g4],by simp,i3⟩,by simp [j8],fun x L=>?_,fun d f=>?_⟩ (by simp [c9,ha]) (by simp [b_,hb]))
    ·rcases aja.1 L with h | h
     ·exact f8 x h
     ·rw [ai9]at h;rw [h];exact⟨w,by omega,f7⟩
    ·rw [j7,iM,lT,c d f,a d f,j3];constructor
     ·rintro(⟨x,L,h⟩ | h)
      ·exact⟨x,ajM _ L,h⟩
      ·exact⟨tm,by simp,h⟩
     ·rintro⟨x,L,h⟩;rcases aja.1 L with L | L
      ·exact .inl ⟨x,L,h⟩
      ·rw [ai9]at L;rw [L]at h;exact .inr h
  ·rintro t J ⟨a_,cl,us,z,j8,f8,c⟩ - -;rw [ajr]at c;obtain⟨go,o0⟩:=z.lo.ex 62;obtain⟨n1,n2⟩:=z.lo.mk 62;have I:=IE (sl go (bW us));obtain⟨vs,gv,f_,e_⟩:=uY 119 [.fp [sl go (bW us)] 0] us (by
    have:=zD go (us.map fun s=>⟨.fs,s⟩) (by simp;omega);have e:aD (us.map fun s=>⟨.fs,s⟩)=bW us:=by simp [aD,bW,cz.row]
    have e2:(us.map fun s=>(⟨.fs,s⟩:cz)).map (·.fs)=us:=by rw [List.map_map];exact List.map_id _
    rw [e,e2]at this;exact this) (m:=2) (by omega) (by omega) f8 (by omega)
   obtain⟨W,A⟩:=aL (eK 64 cl J);have e1:W[1]?=aa (.box [.f .aA] 0):=by
    rw [A];rcases n2 1 _ z.b1 (z.lo.bh z.b1)with k | ⟨cs,f1,f2,hc,e,k⟩
    ·exact k
    ·cases e;simp at hc
   have s1:di W (.ptr 1 0 0) [.f (sl gv (bW vs))]=aa (W.set 1 (.box [.f (sl gv (bW vs))] 0)):=by simp [di,e1,over]
   have f1:(W.set 1 (.box [.f (sl gv (bW vs))] 0))[1]?=aa (.box [.f (sl gv (bW vs))] 0):=If (aj e1);apply ai;simp [z.g4,z.g6,o0,deep,I,e_,jc,←A,s1,-bu];refine aF (hQ _ _ _ ⟨vs,gv,⟨by have:=f_.len;omega,f_.ok⟩,fun d f=>by rw [f_.mem d f];exact c d f,rfl⟩ ⟨rfl,.t [.a [.f (sl gv (bW vs))],vi 0],?_,by simp [mR,dI,aZ]⟩);simp [Km.results,cC,aZ,z.g4,f1,aW]
 exact⟨us,g',h1,h2,h.eq⟩
def TW(J:an)(c:C)(fs:List aE):Prop:=(∃ g,c=.f (sl g (aH fs)))∨(∃ b d fl,c=.sl b 0 fs.length 0 d 4∧J[b]?=aa (.cE 4 ((aH fs).flatten.map .f) fl d .loc))
section
variable{J:an}{c:C}{fs:List aE}
theorem TV.tw(h:TV J c fs):TW J c fs:=by
 rcases h with⟨g,rfl⟩ | ⟨h0,rfl | rfl⟩ | ⟨j,b,d,rfl,hb⟩
 ·exact .inl ⟨g,rfl⟩
 ·exact .inl ⟨.nil,by rw [h0];rfl⟩
 ·exact .inl ⟨.es,by rw [h0];rfl⟩
 ·unfold RB at hb;exact .inr ⟨b,d,0,by rw [zk],hb⟩
theorem TW.ex(h:TW J c fs)(h0:fs≠[])(n:Nat):et (n+1) J c=aa (sl .fs (aH fs)):=by
 rcases h with⟨g,rfl⟩ | ⟨b,d,fl,rfl,hb⟩
 ·show aa (sl g (aH fs))=_;rw [lF h0,lF h0]
 ·have hl:(aH fs).flatten.length=fs.length*4:=by have:=cG (bA fs);simpa using this
  simp only [jQ,hb];rw [ba ⟨trivial,trivial,by rw [ajf];omega⟩,aj4,ajl (by rw [ajf];omega),mo,lF h0];rfl
theorem TW.mk(h:TW J c fs)(n:Nat):TW (eK (n+1) c J) c fs∧∀(i:Nat) (y:bZ),J[i]?=aa y→aS c≠aa i→(eK (n+1) c J)[i]?=aa y:=by
 rcases h with⟨g,rfl⟩ | ⟨b,d,fl,rfl,hb⟩
 ·exact⟨.inl ⟨g,rfl⟩,fun i y hy _=>hy⟩
 ·have e:eK (n+1) (.sl b 0 fs.length 0 d 4) J=J.set b (.cE 4 ((aH fs).flatten.map .f) (Nat.max fl (0+fs.length*4)) d .loc):=by
   simp only [oT,hb];rw [iY];intro x j;have j:=ajJ (aj2 j);obtain⟨m,_,rfl⟩:=ajj.1 j;exact⟨_,rfl⟩
  rw [e];exact⟨.inr ⟨b,d,_,rfl,If (aj hb)⟩,fun i y hy hi=>by rw [sh (by rintro rfl;exact hi rfl)];exact hy⟩
theorem TW.set(h:TW J c fs){i:Nat}(hi:aS c≠aa i)(x:bZ):TW (J.set i x) c fs:=by
 rcases h with h | ⟨b,d,fl,rfl,hb⟩
 ·exact .inl h
 ·exact .inr ⟨b,d,fl,rfl,by rw [sh (by rintro rfl;exact hi rfl)];exact hb⟩
end
theorem wc(ps:List aE)(h:ob ps)(n:Int)(hn:0≤n)(b_:n≤1000000000000):∃ d f,eX (QZ ps n) d f∧(0≤d∧d≤1000001000000)∧∀ H g found c,QH H n g found→TW H c ps→(∀ i,aS c=aa i→4<i) →
  ∃ r H',Ev tab (.yield 4) [.c c] H r H'∧(r=vb ae∧QH H' n (if f=ae∧(found=ag∨d<g)then d else g) (found||f)):=by
 obtain⟨d,f,e0,f0,hm,hd,he,hc⟩:=ZX .fs ps h n hn b_;refine⟨d,f,hm,hd,?_⟩;rintro H g found c ⟨h0,h1,h2,h3,s,h4,u,K,L⟩ v N;refine ey (tab:=tab) (b:=4) h4 rfl fun Q' M=>?_;have a_:=aj h4;have F:∀(t:T) (j:an),j[0]?=aa (.box [.f (fi n)] 0)→j[1]?=aa (.box [.f (fi g)] 0)→j[2]?=aa (.box [.f (.bool found)] 0)→j[3]?=aa (.fg ae)→j[4]?=aa (.lp 69 s [P.nat 12] dp cL .busy ab 3) →
   t.g 3=.c (.ptr 0 0 0)→t.g 6=.c (.ptr 1 0 0)→t.g 7=.c (.ptr 2 0 0)→t.g 9=vi d→t.g 10=vb f→WP tab 69 (aa 4) [.code xy,.inBlock 1] ⟨t,[],j⟩ Q':=by
  rintro t j q0 U A q3 q4 e3 I y J q;have l1:=aj U;have l2:=aj A;have bf:(f=ae∧(found=ag∨d<g)→False)→QH (j.set 4 (.lp 69 s [P.nat 12] dp cL .ready ab 3)) n (if f=ae∧(found=ag∨d<g)then d else g) (found||f):=by
   intro x;have hf:(found||f)=found:=by
    cases f<;>cases found<;>simp at x ⊢
   rw [aR x,hf];exact⟨by rw [sh (by decide)];exact q0,by rw [sh (by decide)];exact U,by rw [sh (by decide)];exact A,by rw [sh (by decide)];exact q3,s,If (aj q4),u,K,L⟩
  have c9:(j.set 1 (.box [.f (fi d)] 0))[2]?=aa (.box [.f (.bool found)] 0):=by rw [sh (by decide)];exact A
  have Q:(f=ae∧(found=ag∨d<g))→QH (((j.set 1 (.box [.f (fi d)] 0)).set 2 (.box [.f (.bool ae)] 0)).set 4 (.lp 69 s [P.nat 12] dp cL .ready ab 3)) n (if f=ae∧(found=ag∨d<g)then d else g) (found||f):=by
   intro l;have hf:(found||f)=ae:=by rw [l.1];simp
   rw [ba l,hf];refine⟨?_,?_,?_,?_,s,If (by simp;exact aj q4),u,K,L⟩
   ·rw [sh (by decide),sh (by decide),sh (by decide)];exact q0
   ·rw [sh (by decide),sh (by decide),If l1]
   ·rw [sh (by decide),If (by simpa using l2)]
   ·rw [sh (by decide),sh (by decide),sh (by decide)];exact q3
  have done:∀ B:T,(f=ae∧(found=ag∨d<g)→False)→WP tab 69 (aa 4) [.inBlock 1] ⟨B,[],j⟩ Q':=by
   intro B x;refine ax (dh (M _ _ _ _ _ _ _ _ _ _ rfl q4 ⟨rfl,?_⟩));have:=bf x;rw [show(j.set 4 (.lp 69 s [P.nat 12] dp cL .ready ab 3))=j.set 4 (.lp 69 s [P.nat 12] dp cL (if(ab:Option av).isNone=ae then .ready else .done) ab 3) from rfl]at this;exact this
  have m:∀ B:T,B.g 6=.c (.ptr 1 0 0)→B.g 7=.c (.ptr 2 0 0)→B.g 9=vi d→(f=ae∧(found=ag∨d<g))→WP tab 69 (aa 4) [.code xz,.inBlock 1] ⟨B,[],j⟩ Q':=by
   intro B I y J l;refine au (.inr rfl) ?_;simp [I,y,J,U,A,c9];refine ax (dh (M _ _ _ _ _ _ _ _ _ _ rfl (by rw [sh (by decide),sh (by decide)];exact q4) ⟨rfl,?_⟩));exact Q l
  apply aq;cases f with
  | false=>
   refine au (.inr rfl) ?_;simp [y,q,A];refine aG (by simp) (aP (done _ (by simp)))
  | true=>
   cases found with
   | false=>
    refine au (.inr rfl) ?_;simp [y,q,A];refine aw (by simp) (m _ (by simp [I]) (by simp [y]) (by simp [J]) (by simp))
   | true=>
    by_cases k:d<g
    ·refine au (.inr rfl) ?_;simp [I,y,J,q,U,A,k];refine aw (by simp) (m _ (by simp [I]) (by simp [y]) (by simp [J]) (by simp [k]))
    ·refine au (.inr rfl) ?_;simp [I,y,J,q,U,A,k];refine aG (by simp) (aP (done _ (by simp [k])))
 refine au (.inr rfl) ?_;simp;refine ja h4 ?_;have b0:(H.set 4 (.lp 69 s [P.nat 12] dp cL .busy ab 3))[0]?=aa (.box [.f (fi n)] 0):=by rw [sh (by decide)];exact h0
 have X:(H.set 4 (.lp 69 s [P.nat 12] dp cL .busy ab 3))[1]?=aa (.box [.f (fi g)] 0):=by rw [sh (by decide)];exact h1
 have Y:(H.set 4 (.lp 69 s [P.nat 12] dp cL .busy ab 3))[2]?=aa (.box [.f (.bool found)] 0):=by rw [sh (by decide)];exact h2
 have Z:(H.set 4 (.lp 69 s [P.nat 12] dp cL .busy ab 3))[3]?=aa (.fg ae):=by rw [sh (by decide)];exact h3
 have b4:(H.set 4 (.lp 69 s [P.nat 12] dp cL .busy ab 3))[4]?=aa (.lp 69 s [P.nat 12] dp cL .busy ab 3):=If a_;have v:=v.set (i:=4) (fun e=>by have:=N 4 e;omega) (.lp 69 s [P.nat 12] dp cL .busy ab 3);generalize H.set 4 (.lp 69 s [P.nat 12] dp cL .busy ab 3)=j at b0 X Y Z b4 v ⊢;have S:∀ i:Nat,i≤4→aS c≠aa i:=fun i hi e=>by have:=N i e;omega
 have step:∀ j:an,j[0]?=aa (.box [.f (fi n)] 0)→j[1]?=aa (.box [.f (fi g)] 0)→j[2]?=aa (.box [.f (.bool found)] 0)→j[3]?=aa (.fg ae)→j[4]?=aa (.lp 69 s [P.nat 12] dp cL .busy ab 3)→TW j c ps →
   ∃ E:an,E=eK 64 c j∧et 64 j c=aa (sl .fs (aH ps))∧E[0]?=aa (.box [.f (fi n)] 0)∧E[1]?=aa (.box [.f (fi g)] 0)∧E[2]?=aa (.box [.f (.bool found)] 0)∧E[3]?=aa (.fg ae)∧E[4]?=aa (.lp 69 s [P.nat 12] dp cL .busy ab 3)∧TW E c ps:=by
  intro j b0 X Y Z b4 hT;obtain⟨m1,O⟩:=hT.mk 63;exact⟨_,rfl,hT.ex (ajE.1 h.l1) 63,O 0 _ b0 (S 0 (by omega)),O 1 _ X (S 1 (by omega)),O 2 _ Y (S 2 (by omega)),O 3 _ Z (S 3 (by omega)),O 4 _ b4 (S 4 (by omega)),m1⟩
 obtain⟨H1,e1,x1,W,a1,a2,a3,a4,a7⟩:=step j b0 X Y Z b4 v;obtain⟨H2,e2,x2,c0,c1,c2,c3,c4,a8⟩:=step H1 W a1 a2 a3 a4 a7;obtain⟨H3,e3,x3,d0,d1,d2,d3,d4,c_⟩:=step H2 c0 c1 c2 c3 c4 a8;refine az ?_;refine aq (au (.inr rfl) ?_);simp [u,b0,x1,deep,he,←e1];apply aq;rcases hc with⟨rfl,rfl,rfl⟩ | ⟨rfl,rfl,b,z,hc⟩
 ·refine aq (au (.inr rfl) ?_);simp;refine a6 (by simp) ?_;exact F _ _ W a1 a2 a3 a4 (by simp [u]) (by simp [K]) (by simp [L]) (by simp) (by simp)
 ·rcases hc with⟨rfl,rfl,rfl⟩ | ⟨rfl,hl⟩
  ·refine aq (au (.inr rfl) ?_);simp [u,W,x2,deep,z,←e2,show n≤1152921504606846976 by omega];refine a6 (by simp) ?_;exact F _ _ c0 c1 c2 c3 c4 (by simp [u]) (by simp [K]) (by simp [L]) (by simp) (by simp)
  ·refine aq (au (.inr rfl) ?_);simp [u,W,x2,deep,z,←e2,show n≤1152921504606846976 by omega];refine aw (by simp) ?_;refine au (.inr rfl) ?_;simp [u,c0,x3,deep,hl,←e3];exact F _ _ d0 d1 d2 d3 d4 (by simp [u]) (by simp [K]) (by simp [L]) (by simp) (by simp)
def I2(L:List (List aE))(n x:Int):Prop:=∃ t ∈ L,QZ t n x
theorem ZC{H H':an}{n b:Int}{found:Bool}(h:QH H n b found)(v:∀ i:Nat,i<H.length→H'[i]?=H[i]?):QH H' n b found:=by
 obtain⟨g,j,l,m,s,q,u⟩:=h;have k:∀(i:Nat) y,H[i]?=aa y→H'[i]?=aa y:=fun i y d=>by rw [v i (aj d)];exact d
 exact⟨k _ _ g,k _ _ j,k _ _ l,k _ _ m,s,k _ _ q,u⟩
theorem HP(F:Nat)(l:List FC)(L:List (List aE))(o:Bo F l L)(k:∀ t ∈ L,ob t)(n:Int)(hn:0≤n)(K:n≤1000000000000):∃ d f,eX (I2 L n) d f∧(0≤d∧d≤1000001000000) ∧
  bR tab 69 [.c (.f (.fn F l)),vi n]=Eq (.t [vi d,vb f]):=by
 have key:∃ r,(∃ d f,eX (I2 L n) d f∧(0≤d∧d≤1000001000000)∧r=.t [vi d,vb f])∧bR tab 69 [.c (.f (.fn F l)),vi n] r:=by
  refine sR afu rfl fun Q p=>?_;have z:∀ s:T,s.g 3=.c (.ptr 0 0 0)→s.g 6=.c (.ptr 1 0 0)→s.g 7=.c (.ptr 2 0 0)→s.g 11=.c (.f (.fn F l)) →
    WP tab 69 ab [.code Ba,.inBlock 0,.code xA] ⟨s,[],[.box [.f (fi n)] 0,.box [.f (fi 0)] 0,.box [.f (.bool ag)] 0]⟩ Q:=by
   intro s a O S A;obtain⟨y,Z,b,found,⟨-,w1,w2,w3,N,w4,-⟩,q,U⟩:=o 4 [.box [.f (fi n)] 0,.box [.f (fi 0)] 0,.box [.f (.bool ag)] 0,.fg ae,.lp 69 s [P.nat 12] dp cL .ready ab 3]
    (fun j H=>∃ b found,QH H n b found∧eX (I2 (L.take j) n) b found∧(0≤b∧b≤1000001000000))
    ⟨0,ag,⟨rfl,rfl,rfl,rfl,s,rfl,a,O,S⟩,.inl ⟨rfl,rfl,fun d v=>by obtain⟨t,m,-⟩:=v;simp at m⟩,by omega,by omega⟩ fun j W Y J c ⟨b,found,u,q,U⟩ hk X w hc=>by
     obtain⟨d,f,I,v,hy⟩:=wc L[j] (k _ (IT W)) n hn K;have l4:4<Y.length:=by obtain⟨-,-,-,-,s',e,-⟩:=u;exact aj e
     obtain⟨r,H',E,rfl,B⟩:=hy J b found c (ZC u hk) w.tw (fun i hi=>by have:=hc i hi;omega);have M:L.take (j+1)=L.take j++[L[j]]:=by rw [aju,By W];rfl
     refine⟨H',E,_,_,B,eX.join q I fun x=>?_,?_⟩
     ·unfold I2;rw [M];constructor
      ·rintro⟨t,m,h⟩;rcases aja.1 m with m | m
       ·exact .inl ⟨t,m,h⟩
       ·rw [ai9.1 m]at h;exact .inr h
      ·rintro(⟨t,m,h⟩ | h)
       ·exact⟨t,ajM _ m,h⟩
       ·exact⟨_,akx _ (ai9.2 rfl),h⟩
     ·split<;>omega
   rw [ajr]at q;refine fO (g:=F) (by rw [ry,A];simp [bS]) Z ?_;refine gW w4 (by decide) ?_;refine ax ?_;apply ai;have v1:(y.set 4 (.lp 69 N [P.nat 12] dp cL .exhausted ab 3))[1]?=aa (.box [.f (fi b)] 0):=by rw [sh (by decide)];exact w1
   have v2:(y.set 4 (.lp 69 N [P.nat 12] dp cL .exhausted ab 3))[2]?=aa (.box [.f (.bool found)] 0):=by rw [sh (by decide)];exact w2
   have v3:(y.set 4 (.lp 69 N [P.nat 12] dp cL .exhausted ab 3))[3]?=aa (.fg ae):=by rw [sh (by decide)];exact w3
   simp [O,S,v1,v2];refine aF (p _ _ _ ⟨b,found,q,U,rfl⟩ (.inr ⟨3,rfl,v3,.t [vi b,vb found],?_,by simp [mR,dI,aZ]⟩));simp [Km.results,cC,aZ]
  apply ai;simp;apply ai;simp;apply aq;apply ai;simp;refine az ?_;exact z _ (by simp) (by simp) (by simp) (by simp)
 obtain⟨r,⟨d,f,q,v,rfl⟩,h⟩:=key;exact⟨d,f,q,v,h.eq⟩
def nF(ss ts:List (List aE)):List (List aE):=(ss.map fun s=>ts.map fun t=>s++t).flatten
theorem iH{ss ts:List (List aE)}{x:List aE}:x ∈ nF ss ts↔∃ s ∈ ss,∃ t ∈ ts,x=s++t:=by
 unfold nF;rw [List.mem_flatten];constructor
 ·rintro⟨l,g,j⟩;obtain⟨s,b,rfl⟩:=ajj.1 g;obtain⟨t,d,rfl⟩:=ajj.1 j;exact⟨s,b,t,d,rfl⟩
 ·rintro⟨s,b,t,d,rfl⟩;exact⟨_,ajj.2 ⟨s,b,rfl⟩,ajj.2 ⟨t,d,rfl⟩⟩
theorem ve(ss ts:List (List aE)):(nF ss ts).length=ss.length*ts.length:=by
 unfold nF;induction ss with
 | nil=>simp| cons s ss b=>rw [ajd,ajs,ai7,b,ajf,ajL,Nat.succ_mul,Nat.add_comm]
theorem Sw{ss ts:List (List aE)}{i k:Nat}(hi:i<ss.length)(d:k<ts.length):(nF ss ts)[i*ts.length+k]?=aa (ss[i]++ts[k]):=by
 have h:=rU (rows:=ss.map fun s=>ts.map fun t=>s++t) (sz:=ts.length) (j:=i) (row:=ts.map fun t=>ss[i]++t) (fun r g=>by
  obtain⟨s,-,rfl⟩:=ajj.1 g;simp) (by simp [hi])
 have b:(ts.map fun t=>ss[i]++t)[k]?=aa (ss[i]++ts[k]):=by simp [d]
 rw [←h,List.getElem?_take,ba d,ajv]at b;exact b
theorem zg(x y:FC):bR tab 70 [.a [.f x],.a [.f y]]=Eq (.c (.f (.fn 109 [.fp [x] 0,.fp [y] 0]))):=by
 refine bR.eq (bY rfl rfl fun Q b=>?_);apply ai;simp;apply ai;simp;refine aF (b _ _ ?_);simp [deep]
theorem sO(g g':Tg)(ss ts:List cz)(hs:ss.length≤1000)(ht:ts.length≤1000)(c9:∀ s ∈ ss,s.fs.length≤1000)(c_:∀ t ∈ ts,t.fs.length≤1000) :
  Bo 109 [.fp [sl g (aD ss)] 0,.fp [sl g' (aD ts)] 0] (nF (ss.map (·.fs)) (ts.map (·.fs))):=by
 intro b H PP h0 hy;have y:(nF (ss.map (·.fs)) (ts.map (·.fs))).length=ss.length*ts.length:=by rw [ve,ajf,ajf]
 have W:∀ H:an,bg H (.f (sl g (aD ss)))=aa ss.length:=fun H=>by simp
 have X:∀ H:an,bg H (.f (sl g' (aD ts)))=aa ts.length:=fun H=>by simp
 obtain⟨r,Y,he,rfl,h⟩:∃ r Y,Ev tab (.fn 109) [.c (.yl b),.c (.f (.fp [sl g (aD ss)] 0)),.c (.f (.fp [sl g' (aD ts)] 0))] H r Y∧(r=.t []∧PP (ss.length*ts.length) Y):=by
  refine cM rfl rfl fun Q hQ=>?_;apply ai;simp [BW,W];refine bU ss.length (fun i s J=>s.g 0=.c (.yl b)∧s.g 2=.c (.f (.fp [sl g' (aD ts)] 0))∧s.g 9=.c (.f (sl g (aD ss)))∧PP (i*ts.length) J) (by omega) (by decide) (by decide) (by simp) (by simp) ⟨by simp,by simp,by simp,by simpa using h0⟩ ?_ ?_
  ·rintro i s J hi ⟨A,I,K,L⟩ n hb next
   have z:=fun H:an=>fZ (H:=H) (eM ss) (fQ (l:=ss) (j:=i) hi) rfl;have v:=fun H:an=>bH (H:=H) (g:=g) (rows:=aD ss) (sz:=1) (k:=.i64) (i:=i) (by omega) (by simpa using hi);simp at z v;refine az ?_;apply ai;simp [K,n,v,z];apply ai;simp [I,BW,X];refine bU ts.length (fun k u J=>u.g 0=.c (.yl b)∧u.g 2=.c (.f (.fp [sl g' (aD ts)] 0))∧u.g 9=.c (.f (sl g (aD ss)))∧u.g 5=.c (.f (sl ss[i].tg (aH ss[i].fs)))∧u.g 16=.c (.f (sl g' (aD ts)))∧u.g 10=s.g 10∧u.g 11=s.g 11∧PP (i*ts.length+k) J) (by omega) (by decide) (by decide) (by simp) (by simp)
    ⟨by simp [A],by simp [I],by simp [K],by simp,by simp,by simp,by simp,by simpa using L⟩ ?_ ?_
   ·rintro k u J a ⟨A,I,K,f,E,eo,B,L⟩ U o O;have m:=fun H:an=>fZ (H:=H) (eM ts) (fQ (l:=ts) (j:=k) a) rfl;have d:=fun H:an=>bH (H:=H) (g:=g') (rows:=aD ts) (sz:=1) (k:=.i64) (i:=k) (by omega) (by simpa using a);simp at m d;have a_:i*ts.length+k<(nF (ss.map (·.fs)) (ts.map (·.fs))).length:=by
     rw [y];have:(i+1)*ts.length≤ss.length*ts.length:=Nat.mul_le_mul_right _ hi;rw [ajy,akV]at this;omega
    have w:(nF (ss.map (·.fs)) (ts.map (·.fs)))[i*ts.length+k]=ss[i].fs++ts[k].fs:=by
     have:=Sw (ss:=ss.map (·.fs)) (ts:=ts.map (·.fs)) (i:=i) (k:=k) (by simpa using hi) (by simpa using a);simp only [ajf,akK]at this;exact(List.getElem?_eq_some_iff.1 this).2
    have e_:=c9 _ (IT hi);have f7:=c_ _ (IT a);obtain⟨Z,q⟩:=aL (J++[bZ.box [.f (sl ss[i].tg (aH ss[i].fs)),.f (sl ts[k].tg (aH ts[k].fs))] 0]);have b1:Z[J.length]?=aa (.box [.f (sl ss[i].tg (aH ss[i].fs)),.f (sl ts[k].tg (aH ts[k].fs))] 0):=by rw [q];simp
    have b_:aH (ss[i].fs++ts[k].fs)=aH ss[i].fs++aH ts[k].fs:=by simp [aH]
    obtain⟨r,e,N,c,rfl,M,a8,d_,p⟩:=ui (tab:=tab) (H:=Z) (F:=110) (G:=154) (sz:=4) (bytes:=64) (zs:=[.aA,fi 0,fi 0,.aA]) abB abF (by decide) rfl (b:=J.length) [(.f (sl ss[i].tg (aH ss[i].fs)),aH ss[i].fs),(.f (sl ts[k].tg (aH ts[k].fs)),aH ts[k].fs)] b1 (by simp)
     (fun x S=>by
      simp only [ajB,List.not_mem_nil,or_false]at S;rcases S with rfl | rfl
      ·exact⟨bA _,fun H' _=>⟨by simp,oi (bA _)⟩⟩
      ·exact⟨bA _,fun H' _=>⟨by simp,oi (bA _)⟩⟩)
     (by simp;omega) (dF (by simp;omega) (by decide))
    have M:LR e c 4 (aH (ss[i].fs++ts[k].fs)):=by
     rw [b_];simpa using M
    have d9:Z.length=J.length+1:=by rw [q];simp
    obtain⟨J3,a7,h⟩:=hy (i*ts.length+k) a_ J e c L (fun x S=>by rw [a8 x (by omega),q,AT S]) (by omega) (by rw [w];exact .inr M) (fun x S=>by have:=p x S;omega);have N:Ev tab (.fn 110) [.c (.sl J.length 0 2 2 0 1)] Z (.c c) e:=N;refine az ?_;apply ai;simp [U,E,d,m];apply aq;refine au (.inl rfl) ?_;simp [A,f,←q,N.eq,a7.eq];refine a6 (by simp) ?_;refine ax (O _ _ ?_ (by simp [U]) (by simp [o]));exact⟨by simp [A],by simp [I],by simp [K],by simp [f],by simp [E],by simp [eo],by simp [B],h⟩
   ·rintro u J ⟨A,I,K,f,E,eo,B,L⟩ - -;refine ax (next _ _ ⟨by simp [A],by simp [I],by simp [K],?_⟩ (by simp [B,n]) (by simp [eo,hb]));rw [ajy,akV];exact L
  ·rintro s J ⟨A,I,K,L⟩ n hb;exact dh (hQ _ _ _ rfl rfl ⟨rfl,L⟩)
 exact⟨Y,he,by rw [y];exact h⟩
def dQ(ts:List cz)(d:Int):Prop:=∃ t ∈ ts,fh t.fs d
theorem Bu(us:List (List aE))(d:Int):dQ (us.map fun s=>⟨.fs,s⟩) d↔gB us d:=by
 unfold gB dQ;constructor
 ·rintro⟨t,b,h⟩;obtain⟨x,g,rfl⟩:=ajj.1 b;exact⟨x,g,h⟩
 ·rintro⟨t,b,h⟩;exact⟨_,ajj.2 ⟨t,b,rfl⟩,h⟩
theorem vj:∀ {l:List aE},(∀ p ∈ l,nv p)→1≤ea l∧ea l≤12 ^ l.length
 | [],_=>by simp [ea]
 | p::l,h=>by
  have b:=h p ajc;have g:=(aV b.ok).2.2.1;have d:=b.aJ;obtain⟨j,m⟩:=vj fun q u=>h q (ajb _ u);simp only [ea,ajL];have v:=ako g j (by decide) (by omega);have s:=ako d m (by omega) (by decide);rw [Int.pow_succ,aj1];refine⟨by rw [aj1];omega,by rw [aj1];rw [aj1 (12 ^ l.length)];exact s⟩
theorem tc:∀ {l:List aE},(∀ p ∈ l,nv p)→cA l≤50
 | [],_=>by simp [cA]
 | p::l,h=>by
  have d:=(h p ajc).fr;have g:=tc fun q b=>h q (ajb _ b);simp only [cA];omega
theorem Hq{fs:List aE}(b:fs≠[])(g:fs.length≤4)(h:∀ p ∈ fs,nv p):ob fs:=by
 have m:=ajE.2 b;refine⟨by omega,by omega,fun p d=>(h p d).mod,?_,by have:=tc h;omega⟩;have j:=(vj h).2;have l:(12:Int) ^ fs.length≤12 ^ 4:=by
  have:fs.length=1∨fs.length=2∨fs.length=3∨fs.length=4:=by omega
  rcases this with e | e | e | e<;>rw [e]<;>decide
 have:(12:Int) ^ 4=20736:=by decide
 omega
theorem Ib(g g':Tg)(ss ts:List cz)(l:qJ ss)(m:qJ ts)(n:Int)(e:-1000000000000≤n)(O:n≤1000000000000) :
  ∃ d f,eX (fun x=>max n 0≤x∧dQ ss x∧dQ ts x) d f∧(0≤d∧d≤1000001000000)∧bR tab 36 [.a [.f (sl g (aD ss))],.a [.f (sl g' (aD ts))],vi n]=Eq (.t [vi d,vb f]):=by
 have v:=(mu g ss (by have:=l.1;omega) (mv l.mix)).eq;rw [l.mix]at v;have z:=(mu g' ts (by have:=m.1;omega) (mv m.mix)).eq;rw [m.mix]at z;have H:=zg (sl g (aD ss)) (sl g' (aD ts));have E:=sO g g' ss ts (by have:=l.1;omega) (by have:=m.1;omega) (fun s h=>by have:=(l.2 s h).2.1;omega) (fun t h=>by have:=(m.2 t h).2.1;omega);obtain⟨d,f,N,M,F⟩:=HP _ _ _ E (fun x U=>by
  obtain⟨s,b,t,j,rfl⟩:=iH.1 U;obtain⟨s,q,rfl⟩:=ajj.1 b;obtain⟨t,u,rfl⟩:=ajj.1 j;obtain⟨a1,Z,I⟩:=l.2 s q;obtain⟨a,c,J⟩:=m.2 t u;refine Hq (by simp [a1]) (by rw [ai7];omega) fun p S=>?_;rcases aja.1 S with h | h
  ·exact I p h
  ·exact J p h) (max n 0) (by omega) (by omega)
 refine⟨d,f,N.iff fun x=>?_,M,bR.eq (bY rfl rfl fun Q L=>?_)⟩
 ·unfold I2 QZ;constructor
  ·rintro⟨A,⟨s,q,u⟩,⟨t,B,K⟩⟩;refine⟨_,iH.2 ⟨_,ajj.2 ⟨s,q,rfl⟩,_,ajj.2 ⟨t,B,rfl⟩,rfl⟩,A,(iu (by omega)).2 ((eE s.fs t.fs x).2 ⟨u,K⟩)⟩
  ·rintro⟨y,W,A,q⟩;obtain⟨s,b,t,j,rfl⟩:=iH.1 W;obtain⟨s,u,rfl⟩:=ajj.1 b;obtain⟨t,B,rfl⟩:=ajj.1 j;obtain⟨X,Y⟩:=(eE s.fs t.fs x).1 ((iu (by omega)).1 q);exact⟨A,⟨s,u,X⟩,⟨t,B,Y⟩⟩
 ·apply ai;simp;apply aq;apply ai;simp [v,z];refine a6 (by simp) ?_;apply ai;simp [H,F];refine aF (L _ _ ?_);simp
def Xx(m n:Nat)(us:List (List aE)):Prop:=us.length≤n∧∀ u ∈ us,Br m u
theorem etr(us:List (List aE)):aD (us.map fun s=>⟨.fs,s⟩)=bW us:=by simp [aD,bW,cz.row]
theorem yV{us:List (List aE)}(h:Xx 4 64 us):ij (us.map fun s=>⟨.fs,s⟩)=ae:=by
 simp only [ij,BY,decide_eq_true_eq,aji];refine⟨by rw [ajf];have:=h.1;omega,fun t j=>?_⟩;obtain⟨u,l,rfl⟩:=ajj.1 j;obtain⟨b,m,d⟩:=h.2 u l;have:=ajE.2 b;simp only [il,BY,decide_eq_true_eq,aji];exact⟨⟨by omega,by omega⟩,fun p g=>(d p g).ok⟩
theorem YI(g:Tg){us:List (List aE)}(h:Xx 4 64 us):bR tab 50 [.a [.f (sl g (bW us))]]=Eq (vb ae):=by
 have b:=(mu g (us.map fun s=>⟨.fs,s⟩) (by rw [ajf];have:=h.1;omega) (mv (yV h))).eq;rw [yV h,etr]at b;exact b
theorem YC(g g':Tg)(ss ts:List cz)(j:qJ ss)(q:qJ ts) :
  ∃ us b,Xx 4 4 us∧(∀ d,0≤d→(gB us d↔dQ ss d∧dQ ts d))∧bR tab 41 [.a [.f (sl g (aD ss))],.a [.f (sl g' (aD ts))]]=Eq (jc us b):=by
 have A:=(mu g ss (by have:=j.1;omega) (mv j.mix)).eq;rw [j.mix]at A;have B:=(mu g' ts (by have:=q.1;omega) (mv q.mix)).eq;rw [q.mix]at B;have J:=zg (sl g (aD ss)) (sl g' (aD ts));have H:=sO g g' ss ts (by have:=j.1;omega) (by have:=q.1;omega) (fun s h=>by have:=(j.2 s h).2.1;omega) (fun t h=>by have:=(q.2 t h).2.1;omega);have K:(nF (ss.map (·.fs)) (ts.map (·.fs))).length≤4:=by
  rw [ve,ajf,ajf];exact Nat.mul_le_mul j.1 q.1
 obtain⟨us,b,F,I⟩:=uY _ _ _ H (m:=4) (by omega) (by omega) (fun x W=>by
  obtain⟨s,l,t,u,rfl⟩:=iH.1 W;obtain⟨s,v,rfl⟩:=ajj.1 l;obtain⟨t,z,rfl⟩:=ajj.1 u;obtain⟨a1,a,L⟩:=j.2 s v;obtain⟨c,e,M⟩:=q.2 t z;refine⟨by simp [a1],by rw [ai7];omega,fun p U=>?_⟩;rcases aja.1 U with h | h
  ·exact L p h
  ·exact M p h) (by omega)
 refine⟨us,b,⟨by have:=F.len;omega,F.ok⟩,fun d S=>(F.mem d S).trans ?_,bR.eq (bY rfl rfl fun Q O=>?_)⟩
 ·constructor
  ·rintro⟨y,X,v⟩;obtain⟨s,l,t,u,rfl⟩:=iH.1 X;obtain⟨s,z,rfl⟩:=ajj.1 l;obtain⟨t,E,rfl⟩:=ajj.1 u;obtain⟨Y,Z⟩:=(eE s.fs t.fs d).1 v;exact⟨⟨s,z,Y⟩,⟨t,E,Z⟩⟩
  ·rintro⟨⟨s,v,z⟩,⟨t,E,N⟩⟩;exact⟨_,iH.2 ⟨_,ajj.2 ⟨s,v,rfl⟩,_,ajj.2 ⟨t,E,rfl⟩,rfl⟩,(eE s.fs t.fs d).2 ⟨z,N⟩⟩
 ·apply ai;simp;apply aq;apply ai;simp [A,B];refine a6 (by simp) ?_;apply ai;simp [J,I,jc];refine aF (O _ _ ?_);simp [jc]
structure Pr where
 c:cm
 d:cm
 k:Int
 gx:Tg
 xs:List cz
 gy:Tg
 ys:List cz
def Pr.row(p:Pr):List C:=[.f (sl p.c.mg (aD p.c.ts)),.f (fi p.c.min),.f (sl p.d.mg (aD p.d.ts)),.f (fi p.d.min),.f (fi p.k),.f (sl p.gx (aD p.xs)),.f (sl p.gy (aD p.ys)),.f (fi (max 0 (-p.k)))]
def uN(la b:Int)(c d:cm):Int:=(c.min-d.min-b) / 1440+1
def uB(la b:Int)(c d:cm):Int:=(c.min-d.min+la-1) / 1440
structure oe(a b:aQ)(p:Pr):Prop where
 ca:p.c ∈ a.cs
 db:p.d ∈ b.cs
 lo:uN a.len b.len p.c p.d≤p.k
 hi:p.k≤uB a.len b.len p.c p.d
 xo:qJ p.xs
 yo:qJ p.ys
 xm:∀ e,0≤e→(dQ p.xs e↔dQ p.c.ts (e+max 0 (-p.k)))
 ym:∀ e,0≤e→(dQ p.ys e↔dQ p.d.ts (e+max 0 p.k))
structure iL(s:aQ):Prop where
 ok:oh s
 few:∀ c ∈ s.cs,qJ c.ts
 ex:∀ x ∈ s.xs,-1000000≤x.fr∧x.to≤1000000∧x.fr<x.to
theorem iL.cn{s:aQ}(h:iL s):s.cs.length≤3:=h.ok.cn
theorem Bz{us:List (List aE)}(h:us.length≤2∧∀ u ∈ us,Br 2 u):qJ (us.map fun s=>⟨.fs,s⟩):=⟨by rw [ajf];exact h.1,fun t b=>by
 obtain⟨u,d,rfl⟩:=ajj.1 b;exact h.2 u d⟩
theorem uo(a b:aQ):bR tab 34 [.a (a.row.map .f),.a (b.row.map .f)]=Eq (.c (.f (.fn 66 [.fp a.row 0,.fp b.row 0]))):=by
 refine bR.eq (bY rfl rfl fun Q d=>?_);apply ai;simp [aQ.row];apply ai;simp;refine aF (d _ _ ?_);simp [deep,aQ.row]
theorem rN{bb:Nat}{H:an}(a b:aQ)(ha:iL a)(hb:iL b)(PP:List Pr→an→Prop)(RR:Pr→an→Prop)(h0:PP [] H)
  (hk:∀ ps J J',PP ps J→(∀ i:Nat,i<H.length→J'[i]?=J[i]?)→J.length≤J'.length→PP ps J')
  (hy:∀ ps p J,PP ps J→H.length≤J.length→oe a b p→∃(r:Bool) (J':an),Ev tab (.yield bb) [.a p.row] J (vb r) J'∧(if r then PP (ps++[p]) J'∧J.length≤J'.length∧∀ i:Nat,H.length≤i→i<J.length→J'[i]?=J[i]? else RR p J')) :
  ∃ H2,Ev tab (.fn 66) [.c (.yl bb),.c (.f (.fp a.row 0)),.c (.f (.fp b.row 0))] H (.t []) H2∧((∃ ps,PP ps H2∧(∀ p ∈ ps,oe a b p)∧∀ c ∈ a.cs,∀ d ∈ b.cs,∀ k,uN a.len b.len c d≤k→k≤uB a.len b.len c d→∃ p ∈ ps,p.c=c∧p.d=d∧p.k=k)∨∃ p,oe a b p∧RR p H2):=by
 obtain⟨v6,v8⟩:=ha.ok.len;obtain⟨v9,v_⟩:=hb.ok.len;have t9:=ha.cn;have t_:=hb.cn;have oL:∀ H:an,bg H (.f (sl a.cg (aX a.cs)))=aa a.cs.length:=fun H=>by simp
 have o6:∀ H:an,bg H (.f (sl b.cg (aX b.cs)))=aa b.cs.length:=fun H=>by simp
 have o4:∀(J:an),aU J ab (.c (.f (.fp a.row 0)))=aa (.c (.f (sl a.cg (aX a.cs))))∧aU J ab (.c (.f (.fp a.row 1)))=aa (vi a.len):=fun J=>⟨rfl,rfl⟩
 have o5:∀(J:an),aU J ab (.c (.f (.fp b.row 0)))=aa (.c (.f (sl b.cg (aX b.cs))))∧aU J ab (.c (.f (.fp b.row 1)))=aa (vi b.len):=fun J=>⟨rfl,rfl⟩
 obtain⟨r,H2,he,rfl,hP⟩:∃ r H2,Ev tab (.fn 66) [.c (.yl bb),.c (.f (.fp a.row 0)),.c (.f (.fp b.row 0))] H r H2∧(r=.t []∧((∃ ps,PP ps H2∧(∀ p ∈ ps,oe a b p)∧∀ c ∈ a.cs,∀ d ∈ b.cs,∀ k,uN a.len b.len c d≤k→k≤uB a.len b.len c d→∃ p ∈ ps,p.c=c∧p.d=d∧p.k=k)∨∃ p,oe a b p∧RR p H2)):=by
  refine cM rfl rfl fun Q hQ=>?_;apply ai;simp [o4,oL];refine bU a.cs.length (fun i t J=>t.g 0=.c (.yl bb)∧t.g 1=.c (.f (.fp a.row 0))∧t.g 2=.c (.f (.fp b.row 0))∧t.g 13=.c (.f (sl a.cg (aX a.cs)))∧H.length≤J.length∧∃ ps,PP ps J∧(∀ p ∈ ps,oe a b p)∧∀(A:Nat) (hi:A<a.cs.length),A<i→∀ d ∈ b.cs,∀ k,uN a.len b.len a.cs[A] d≤k→k≤uB a.len b.len a.cs[A] d→∃ p ∈ ps,p.c=a.cs[A]∧p.d=d∧p.k=k) (by omega) (by decide) (by decide) (by simp) (by simp)
   ⟨by simp,by simp,by simp,by simp,ai8 _,[],h0,by simp,fun A _ h=>by omega⟩ ?_ ?_
  ·rintro i t J hi ⟨Y,Z,W,v,o8,ps,hP,z,l⟩ hc p8 next
   have n9:=fun H:an=>bH (H:=H) (g:=a.cg) (rows:=aX a.cs) (sz:=2) (k:=.i64) (i:=(i:Int)) (by omega) (by simp;omega);have j3:=fun H:an=>dr (H:=H) (dL a.cs) (fX hi);simp only [ajA]at n9;have p9:=ha.ok.min (IT hi);have d_:=ha.few _ (IT hi);have L:=IT hi;obtain⟨c,j_⟩:=aL (a.cs[i]);rw [←j_]at j3 p9 d_ L;simp only [cm.row,ajd,ajt]at j3;refine az ?_;apply ai;simp [hc,v,n9,j3,-ay];obtain⟨O,i3⟩:=aL (J.length);obtain⟨J1,y⟩:=aL (J++[bZ.box [.f (sl c.mg (aD c.ts)),.f (fi c.min)] 0]);have c5:J1[O]?=aa (.box [.f (sl c.mg (aD c.ts)),.f (fi c.min)] 0):=by rw [y,i3];simp
   have b_:PP ps J1:=hk ps J J1 hP (fun i hi=>by rw [y,AT (by omega)]) (by rw [y,ai7];omega);have o0:J1.length=O+1:=by rw [y,ai7,i3];rfl
   rw [←y,←i3];apply ai;simp [W,o5,o6];refine bU b.cs.length (fun j t' J=>t'.g 0=.c (.yl bb)∧t'.g 1=.c (.f (.fp a.row 0))∧t'.g 2=.c (.f (.fp b.row 0))∧t'.g 13=.c (.f (sl a.cg (aX a.cs)))∧t'.g 14=t.g 14∧t'.g 15=t.g 15∧t'.g 5=.c (.ptr O 0 0)∧t'.g 20=.c (.f (sl b.cg (aX b.cs)))∧O<J.length∧J[O]?=aa (.box [.f (sl c.mg (aD c.ts)),.f (fi c.min)] 0)∧∃ ps,PP ps J∧(∀ p ∈ ps,oe a b p)∧(∀(A:Nat) (hi:A<a.cs.length),A<i→∀ d ∈ b.cs,∀ k,uN a.len b.len a.cs[A] d≤k→k≤uB a.len b.len a.cs[A] d→∃ p ∈ ps,p.c=a.cs[A]∧p.d=d∧p.k=k) ∧
     ∀(N:Nat) (hj:N<b.cs.length),N<j→∀ k,uN a.len b.len c b.cs[N]≤k→k≤uB a.len b.len c b.cs[N]→∃ p ∈ ps,p.c=c∧p.d=b.cs[N]∧p.k=k) (by omega) (by decide) (by decide) (by simp) (by simp)
    ⟨by simp [Y],by simp [Z],by simp [W],by simp [v],by simp,by simp,by simp,by simp,by omega,c5,ps,b_,z,l,fun N _ h=>by omega⟩ ?_ ?_
   ·clear hP z l b_ c5 o0 y;rintro j t' J hj ⟨Y,Z,W,v,E,F,g5,I,n6,c5,ps,hP,z,l,q⟩ j9 j8 j7;have n_:=fun H:an=>bH (H:=H) (g:=b.cg) (rows:=aX b.cs) (sz:=2) (k:=.i64) (i:=(j:Int)) (by omega) (by simp;omega);have j4:=fun H:an=>dr (H:=H) (dL b.cs) (fX hj);simp only [ajA]at n_;have q_:=hb.ok.min (IT hj);have e_:=hb.few _ (IT hj);have M:=IT hj;obtain⟨d,k_⟩:=aL (b.cs[j]);rw [←k_]at j4 q_ e_ M;simp only [cm.row,ajd,ajt]at j4;obtain⟨U,i4⟩:=aL (J.length);obtain⟨J1,y⟩:=aL (J++[bZ.box [.f (sl d.mg (aD d.ts)),.f (fi d.min)] 0]);have c7:J1[U]?=aa (.box [.f (sl d.mg (aD d.ts)),.f (fi d.min)] 0):=by rw [y,i4];simp
    have f_:J1[O]?=aa (.box [.f (sl c.mg (aD c.ts)),.f (fi c.min)] 0):=by rw [y,AT n6];exact c5
    have b_:PP ps J1:=hk ps J J1 hP (fun i hi=>by rw [y,AT (by omega)]) (by rw [y,ai7];omega);have o0:J1.length=U+1:=by rw [y,ai7,i4];rfl
    obtain⟨lo,r_⟩:=aL (uN a.len b.len c d);obtain⟨u,r8⟩:=aL (uB a.len b.len c d);have n8:(c.min-d.min-b.len) / 1440+1=lo:=r_.symm;have l_:(c.min-d.min+a.len-1) / 1440=u:=r8.symm;have f1:=oD (c.min-d.min-b.len) (by omega) (by omega);have f2:=oD (c.min-d.min+a.len-1) (by omega) (by omega);rw [l_]at f2;have w_:-20≤lo∧lo≤20:=by omega
    have u5:-20≤u∧u≤20:=by omega
    have m5:∀ J:an,J[O]?=aa (.box [.f (sl c.mg (aD c.ts)),.f (fi c.min)] 0)→aU J ab (.c (.ptr O 1 0))=aa (vi c.min)∧aU J (aa 2) (.c (.ptr O 0 0))=aa (.a [.f (sl c.mg (aD c.ts)),.f (fi c.min)])∧aU J (aa 1) (.c (.ptr O 0 0))=aa (.a [.f (sl c.mg (aD c.ts))]):=fun J h=>by refine⟨?_,?_,?_⟩<;>simp [aU,aC,h,aW]
    have m7:∀ J:an,J[U]?=aa (.box [.f (sl d.mg (aD d.ts)),.f (fi d.min)] 0)→aU J ab (.c (.ptr U 1 0))=aa (vi d.min)∧aU J (aa 2) (.c (.ptr U 0 0))=aa (.a [.f (sl d.mg (aD d.ts)),.f (fi d.min)])∧aU J (aa 1) (.c (.ptr U 0 0))=aa (.a [.f (sl d.mg (aD d.ts))]):=fun J h=>by refine⟨?_,?_,?_⟩<;>simp [aU,aC,h,aW]
    obtain⟨v5,-,-⟩:=m5 J1 f_;obtain⟨v7,-,-⟩:=m7 J1 c7;refine az ?_;apply ai;simp [j9,I,n_,j4,-ay];rw [←y,←i4];apply ai;simp [W,g5,v5,v7,o5,-ay,aM (n:=c.min-d.min),aM (n:=c.min-d.min-b.len),f1,n8,aM (n:=lo)];apply ai;simp [Z,g5,v5,v7,o4,-ay,aM (n:=c.min-d.min),aM (n:=c.min-d.min+a.len),aM (n:=c.min-d.min+a.len-1),f2];apply ai;simp;refine az ?_;refine bJ (fun n s=>∃(k:Int) (m:T) (J:an),s=⟨m,[],J⟩∧n=(u+1-k).toNat∧lo≤k∧(k=lo∨k≤u+1)∧m.g 0=.c (.yl bb)∧m.g 1=.c (.f (.fp a.row 0))∧m.g 2=.c (.f (.fp b.row 0))∧m.g 13=.c (.f (sl a.cg (aX a.cs)))∧m.g 14=t.g 14∧m.g 15=t.g 15∧m.g 5=.c (.ptr O 0 0)∧m.g 7=.c (.ptr U 0 0)∧m.g 9=vi u∧m.g 10=vi k∧m.g 20=.c (.f (sl b.cg (aX b.cs)))∧m.g 21=t'.g 21∧m.g 22=t'.g 22∧U<J.length∧J[O]?=aa (.box [.f (sl c.mg (aD c.ts)),.f (fi c.min)] 0)∧J[U]?=aa (.box [.f (sl d.mg (aD d.ts)),.f (fi d.min)] 0)∧∃ ps,PP ps J∧(∀ p ∈ ps,oe a b p)∧(∀(A:Nat) (hi:A<a.cs.length),A<i→∀ d ∈ b.cs,∀ k,uN a.len b.len a.cs[A] d≤k→k≤uB a.len b.len a.cs[A] d→∃ p ∈ ps,p.c=a.cs[A]∧p.d=d∧p.k=k) ∧
     (∀(N:Nat) (hj:N<b.cs.length),N<j→∀ k,uN a.len b.len c b.cs[N]≤k→k≤uB a.len b.len c b.cs[N]→∃ p ∈ ps,p.c=c∧p.d=b.cs[N]∧p.k=k)∧∀ k',lo≤k'→k'<k→∃ p ∈ ps,p.c=c∧p.d=d∧p.k=k') (u+1-lo).toNat
     ⟨lo,_,J1,rfl,rfl,by omega,.inl rfl,by simp [Y],by simp [Z],by simp [W],by simp [v],by simp [E],by simp [F],by simp [g5],by simp,by simp,by simp,by simp [I],by simp,by simp,by omega,f_,c7,ps,b_,z,l,q,fun k' _ _=>by omega⟩ ?_
    clear hP z l q b_ c5 f_ c7 v5 v7;rintro n s ⟨k,m,J2,rfl,rfl,k0,k1,Y,Z,W,v,E,F,g5,g7,g9,eo,I,a7,a8,u_,c5,c7,ps,hP,z,l,q,c9⟩ ih;apply aq;apply ai;simp [g9,eo];by_cases r9:k≤u
    ·refine aw (by simp [r9]) (aP ?_);obtain⟨v5,w5,x5⟩:=m5 J2 c5;obtain⟨v7,w7,x7⟩:=m7 J2 c7;have f8:unV .neg (vi k)=aa (vi (-k)):=by
      show aa (vi (IntKind.i64.wrap (0-k)))=_;rw [Int.zero_sub,aM]
     obtain⟨S,f7⟩:=aL (J2.length);have h_:∀(m:T) (B:an) (p:Pr),oe a b p→p.c=c→p.d=d→p.k=k→m.g 0=.c (.yl bb)→m.g 1=.c (.f (.fp a.row 0))→m.g 2=.c (.f (.fp b.row 0))→m.g 13=.c (.f (sl a.cg (aX a.cs)))→m.g 14=t.g 14→m.g 15=t.g 15→m.g 5=.c (.ptr O 0 0)→m.g 7=.c (.ptr U 0 0)→m.g 9=vi u→m.g 10=vi k→m.g 11=.c (.ptr S 0 0)→m.g 20=.c (.f (sl b.cg (aX b.cs)))→m.g 21=t'.g 21→m.g 22=t'.g 22 →
       B[S]?=aa (.box p.row 0)→(∀ i:Nat,i<J2.length→B[i]?=J2[i]?)→B.length=J2.length+1 →
       WP tab 66 ab [.code xh,.inBlock 5,.code xl,.inLoop xf,.inBlock 4,.inBlock 3,.code (qN 22 88),.inLoop (ik 2 22 21 23 88 xe),.inBlock 2,.inBlock 1,.code (qN 15 89),.inLoop (ik 0 15 14 16 89 A9),.inBlock 0] ⟨m,[],B⟩ Q:=by
      intro m B p i7 s_ t4 t5 Y Z W v E F g5 g7 g9 eo o7 I a7 a8 s7 i6 u7;have o9:PP ps B:=hk ps J2 B hP (fun i hi=>i6 i (by omega)) (by omega);obtain⟨r,J4,r7,hr⟩:=hy ps p B o9 (by omega) i7;have t6:p.row.length=8:=rfl;have tk:List.take 8 p.row=p.row:=rfl;have l8:aU B (aa 8) (.c (.ptr S 0 0))=aa (.a p.row):=by simp [aU,aC,s7,aW,t6,tk]
      apply aq;refine au (.inl rfl) ?_;simp [Y,o7,l8,-ay,r7.eq];cases r with
      | false=>exact aw (by simp) (aF (hQ _ _ (.t []) rfl rfl ⟨rfl,.inr ⟨p,i7,by simpa using hr⟩⟩))
      | true=>
      obtain⟨o_,u9,m_⟩:PP (ps++[p]) J4∧B.length≤J4.length∧∀ i:Nat,H.length≤i→i<B.length→J4[i]?=B[i]?:=by simpa using hr
      refine aG (by simp) (aP (ax ?_));refine au (.inl rfl) ?_;simp [eo,aM (n:=k+1)];have n5:J4[O]?=J2[O]?:=by rw [m_ O (by omega) (by omega),i6 O (by omega)]
      have n7:J4[U]?=J2[U]?:=by rw [m_ U (by omega) (by omega),i6 U (by omega)]
      refine ih (u+1-(k+1)).toNat _ (by omega) ⟨k+1,_,J4,rfl,rfl,by omega,.inr (by omega),by simp [Y],by simp [Z],by simp [W],by simp [v],by simp [E],by simp [F],by simp [g5],by simp [g7],by simp [g9],by simp,by simp [I],by simp [a7],by simp [a8],by omega,by rw [n5];exact c5,by rw [n7];exact c7,ps++[p],o_,fun x X=>?_,fun A m9 c_ d' p_ k' h1 h2=>?_,fun N a_ c_ k' h1 h2=>?_,fun k' h1 h2=>?_⟩
      ·rcases aja.1 X with h | h
       ·exact z x h
       ·rw [ai9]at h;rw [h];exact i7
      ·obtain⟨x,X,h⟩:=l A m9 c_ d' p_ k' h1 h2;exact⟨x,ajM _ X,h⟩
      ·obtain⟨x,X,h⟩:=q N a_ c_ k' h1 h2;exact⟨x,ajM _ X,h⟩
      ·by_cases e:k'=k
       ·exact⟨p,by simp,s_,t4,by rw [t5,e]⟩
       ·obtain⟨x,X,h⟩:=c9 k' h1 (by omega);exact⟨x,ajM _ X,h⟩
     obtain⟨B,d9⟩:=aL (J2++[bZ.box [.f (sl c.mg (aD c.ts)),.f (fi c.min),.f (sl d.mg (aD d.ts)),.f (fi d.min),.f (fi k),.f (sl c.mg (aD c.ts)),.f (sl d.mg (aD d.ts)),.f (fi (max 0 (-k)))] 0]);have g_:B[S]?=aa (.box [.f (sl c.mg (aD c.ts)),.f (fi c.min),.f (sl d.mg (aD d.ts)),.f (fi d.min),.f (fi k),.f (sl c.mg (aD c.ts)),.f (sl d.mg (aD d.ts)),.f (fi (max 0 (-k)))] 0):=by rw [d9,f7];simp
     have k3:∀ i:Nat,i<J2.length→B[i]?=J2[i]?:=fun i hi=>by rw [d9,AT hi]
     have l3:B.length=J2.length+1:=by rw [d9,ai7];rfl
     obtain⟨-,-,t7⟩:=m5 B (by rw [k3 O (by omega)];exact c5);obtain⟨-,-,t8⟩:=m7 B (by rw [k3 U (by omega)];exact c7);apply aq;refine az ?_;apply ai;simp [g5,g7,eo,w5,x5,w7,x7,-ay,f8];rw [←d9,←f7];apply aq;apply ai;simp [eo];by_cases kp:0<k
     ·obtain⟨us,g',i_,i9,i8⟩:=uX d.mg d.ts e_ (-k) (by omega) (by omega);obtain⟨J4,K⟩:=aL (B.set S (.box [.f (sl c.mg (aD c.ts)),.f (fi c.min),.f (sl d.mg (aD d.ts)),.f (fi d.min),.f (fi k),.f (sl c.mg (aD c.ts)),.f (sl g' (bW us)),.f (fi (max 0 (-k)))] 0));have s6:di B (.ptr S 6 0) [.f (sl g' (bW us))]=aa J4:=by rw [K];simp [di,g_,over]
      refine aw (by simp [kp]) ?_;refine au (.inl rfl) ?_;simp [g7,eo,t8,-ay,f8,i8,s6,-bu];apply aq;apply ai;simp [eo,show¬ k<0 by omega];refine a6 (by simp) ?_;have e:aD (us.map fun s=>⟨.fs,s⟩)=bW us:=by simp [aD,bW,cz.row]
      refine h_ _ J4 ⟨c,d,k,c.mg,c.ts,g',us.map fun s=>⟨.fs,s⟩⟩ ⟨L,M,by show uN a.len b.len c d≤k;omega,by show k≤uB a.len b.len c d;omega,d_,Bz i_,fun x X=>?_,fun x X=>?_⟩ rfl rfl rfl (by simp [Y]) (by simp [Z]) (by simp [W]) (by simp [v]) (by simp [E]) (by simp [F]) (by simp [g5]) (by simp [g7]) (by simp [g9]) (by simp [eo]) (by simp) (by simp [I]) (by simp [a7]) (by simp [a8]) ?_ (fun i hi=>by rw [K,sh (by omega)];exact k3 i hi) (by rw [K,ajp];exact l3)
      ·show dQ c.ts x↔dQ c.ts (x+max 0 (-k));rw [show x+max 0 (-k)=x by omega]
      ·show dQ (us.map fun s=>⟨.fs,s⟩) x↔dQ d.ts (x+max 0 k);rw [Bu,i9 x X,show x+max 0 k=x - -k by omega];rfl
      ·rw [K,If (by omega)];simp [Pr.row,e]
     ·refine a6 (by simp [kp]) ?_;apply aq;apply ai;simp [eo];by_cases kn:k<0
      ·obtain⟨us,g',i_,i9,i8⟩:=uX c.mg c.ts d_ k (by omega) (by omega);obtain⟨J4,K⟩:=aL (B.set S (.box [.f (sl c.mg (aD c.ts)),.f (fi c.min),.f (sl d.mg (aD d.ts)),.f (fi d.min),.f (fi k),.f (sl g' (bW us)),.f (sl d.mg (aD d.ts)),.f (fi (max 0 (-k)))] 0));have s5:di B (.ptr S 5 0) [.f (sl g' (bW us))]=aa J4:=by rw [K];simp [di,g_,over]
       refine aw (by simp [kn]) ?_;refine au (.inl rfl) ?_;simp [g5,eo,t7,-ay,i8,s5,-bu];have e:aD (us.map fun s=>⟨.fs,s⟩)=bW us:=by simp [aD,bW,cz.row]
       refine h_ _ J4 ⟨c,d,k,g',us.map fun s=>⟨.fs,s⟩,d.mg,d.ts⟩ ⟨L,M,by show uN a.len b.len c d≤k;omega,by show k≤uB a.len b.len c d;omega,Bz i_,e_,fun x X=>?_,fun x X=>?_⟩ rfl rfl rfl (by simp [Y]) (by simp [Z]) (by simp [W]) (by simp [v]) (by simp [E]) (by simp [F]) (by simp [g5]) (by simp [g7]) (by simp [g9]) (by simp [eo]) (by simp) (by simp [I]) (by simp [a7]) (by simp [a8]) ?_ (fun i hi=>by rw [K,sh (by omega)];exact k3 i hi) (by rw [K,ajp];exact l3)
       ·show dQ (us.map fun s=>⟨.fs,s⟩) x↔dQ c.ts (x+max 0 (-k));rw [Bu,i9 x X,show x+max 0 (-k)=x-k by omega];rfl
       ·show dQ d.ts x↔dQ d.ts (x+max 0 k);rw [show x+max 0 k=x by omega]
       ·rw [K,If (by omega)];simp [Pr.row,e]
      ·refine a6 (by simp [kn]) ?_;have u6:k=0:=by omega
       refine h_ _ B ⟨c,d,k,c.mg,c.ts,d.mg,d.ts⟩ ⟨L,M,by show uN a.len b.len c d≤k;omega,by show k≤uB a.len b.len c d;omega,d_,e_,fun x X=>?_,fun x X=>?_⟩ rfl rfl rfl (by simp [Y]) (by simp [Z]) (by simp [W]) (by simp [v]) (by simp [E]) (by simp [F]) (by simp [g5]) (by simp [g7]) (by simp [g9]) (by simp [eo]) (by simp) (by simp [I]) (by simp [a7]) (by simp [a8]) g_ k3 l3
       ·show dQ c.ts x↔dQ c.ts (x+max 0 (-k));rw [show x+max 0 (-k)=x by omega]
       ·show dQ d.ts x↔dQ d.ts (x+max 0 k);rw [show x+max 0 k=x by omega]
    ·refine aG (by simp;omega) ?_;refine bw rfl ?_;refine ax (j7 _ _ ⟨by simp [Y],by simp [Z],by simp [W],by simp [v],by simp [E],by simp [F],by simp [g5],by simp [I],by omega,c5,ps,hP,z,l,fun N a_ c_ k' h1 h2=>?_⟩ (by simp [a8,j9]) (by simp [a7,j8]));by_cases e:N=j
     ·subst e;rw [←k_]at h1 h2 ⊢;exact c9 k' (by omega) (by omega)
     ·exact q N a_ (by omega) k' h1 h2
   ·rintro t' J ⟨Y,Z,W,v,E,F,g5,I,n6,c5,ps,hP,z,l,q⟩ - -;refine ax (next _ _ ⟨by simp [Y],by simp [Z],by simp [W],by simp [v],by omega,ps,hP,z,fun A u c_ d hd k h1 h2=>?_⟩ (by simp [F,hc]) (by simp [E,p8]));by_cases e:A=i
    ·subst e;rw [←j_]at h1 h2 ⊢;obtain⟨N,a_,rfl⟩:=ajn hd;exact q N a_ a_ k h1 h2
    ·exact l A u (by omega) d hd k h1 h2
  ·rintro t J ⟨Y,Z,W,v,o8,ps,hP,z,l⟩ - -;exact dh (hQ _ _ _ rfl rfl ⟨rfl,.inl ⟨ps,hP,z,fun c hc d hd k h1 h2=>by
    obtain⟨A,u,rfl⟩:=ajn hc;exact l A u u d hd k h1 h2⟩⟩)
 exact⟨H2,he,hP⟩
theorem Hl{bb:Nat}{H:an}(a b:aQ)(v:iL a)(x:iL b)(PP:List Pr→an→Prop)(j:PP [] H)
  (z:∀ ps J J',PP ps J→(∀ i:Nat,i<H.length→J'[i]?=J[i]?)→J.length≤J'.length→PP ps J')
  (A:∀ ps p J,PP ps J→H.length≤J.length→oe a b p→∃ J',Ev tab (.yield bb) [.a p.row] J (vb ae) J'∧PP (ps++[p]) J'∧J.length≤J'.length∧∀ i:Nat,H.length≤i→i<J.length→J'[i]?=J[i]?) :
  ∃ g,Ev tab (.fn 66) [.c (.yl bb),.c (.f (.fp a.row 0)),.c (.f (.fp b.row 0))] H (.t []) g∧∃ ps,PP ps g∧(∀ p ∈ ps,oe a b p)∧∀ c ∈ a.cs,∀ d ∈ b.cs,∀ k,uN a.len b.len c d≤k→k≤uB a.len b.len c d→∃ p ∈ ps,p.c=c∧p.d=d∧p.k=k:=by
 obtain⟨g,y,h | ⟨_,_,h⟩⟩:=rN a b v x PP (fun _ _=>False) j z fun ps p J l m q=>by
  obtain⟨J',s,u⟩:=A ps p J l m q;exact⟨ae,J',s,by simpa using u⟩
 ·exact⟨g,y,h⟩
 ·exact h.elim
end Go.Proofs.YthkmdpgdicohdaaGreat
