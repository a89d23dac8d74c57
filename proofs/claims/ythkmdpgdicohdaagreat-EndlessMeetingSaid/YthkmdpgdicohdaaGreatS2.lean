/-
  afT the nL jY and the ng answer, for all arguments of their kind, in the small machine: part 2.
-/
import Derived.Test.YthkmdpgdicohdaaGreatS1
import Derived.Test.YthkmdpgdicohdaaGreatK3
import Derived.Test.YthkmdpgdicohdaaGreatK4
import Derived.KernelRfl
open Option renaming some → aa,none → ab
open Bool renaming true → ae,false → ag
open Bool renaming and_eq_true → If, true_and → aol
open List renaming pairwise_cons → aoQ, mem_cons → anK, map_cons → ano, map_nil → anC, getElem?_append_left → AT, getElem?_set_ne → sh, getElem?_set_self → BY, getElem_mem → IS, take_add_one → anu, getElem?_eq_getElem → By, getElem_of_mem → anB, mem_take_iff_getElem → an0, pairwise_iff_getElem → anP, mem_append → anm, mem_singleton → OF, take_length → ant, mem_append_left → anO, getElem?_eq_none_iff → aoY, mem_cons_self → anr, mem_cons_of_mem → anp, pairwise_append → an9, pairwise_singleton → an1, drop_zero → aod, append_assoc → anV, all_eq_true → anx, length_map → anq, mem_map → anv, length_pos_iff → anU, length_cons → an2, mem_of_mem_take → aoi, mem_of_mem_drop → anY, length_drop → anE, length_take → anW, length_nil → aoU, map_take → ao9, map_drop → api, length_eq_zero_iff → aoe, getElem?_append_right → ann, getElem_drop → aoT, length_set → anD
open Int renaming toNat_natCast → anJ, mul_le_mul → aoG, mul_comm → aoh, le_refl → aoP, tmod_eq_emod_of_nonneg → aoK, lt_or_le → aoH, emod_eq_of_lt → aoz, ediv_nonneg → aou, emod_add_mul_ediv → an7, dvd_refl → aoN, ediv_le_self → aoC, mul_le_mul_of_nonneg_left → anG, mul_neg → apu, mul_one → apC, emod_nonneg → aoc, emod_lt_of_pos → an8, le_of_dvd → aom, gcd → aob, gcd_pos_of_ne_zero_left → aow, mul_nonneg → aov, le_trans → aoA
open Nat renaming add_mul → anM, lt_or_ge → anQ, eq_zero_or_pos → aoJ, le_refl → anl, mul_one → ao2, gcd → aor
open List.Pairwise renaming imp → apK
open Option renaming map_some → anZ
set_option linter.unusedVariables false
set_option linter.constructorNameAsVariable false
set_option linter.unusedSimpArgs false
set_option linter.unusedSectionVars false
set_option linter.unnecessarySimpa false
set_option maxRecDepth 100000
namespace Go.Proofs.YthkmdpgdicohdaaGreat
open Go Km
def sY(S:aB→Prop)(x:aB)(f:Bool):Prop:=(f=ag∧x=⟨0,0,0⟩∧∀ y,¬ S y)∨(f=ae∧S x∧∀ y,S y→x.le y)
theorem sY.iff{S S':aB→Prop}{l:aB}{f:Bool}(h:sY S l f)(g:∀ d,S' d↔S d):sY S' l f:=by
 rcases h with⟨a,b,c⟩ | ⟨a,b,c⟩
 ·exact .inl ⟨a,b,fun d hd=>c d ((g d).1 hd)⟩
 ·exact .inr ⟨a,(g _).2 b,fun d hd=>c d ((g d).1 hd)⟩
theorem sY.step{S S':aB→Prop}{l x:aB}{f:Bool}(h:sY S l f)(j:S' x)(hi:∀ d,S d→S' d)(g:∀ d,S' d→S d∨x.le d):sY S' (if f=ag∨eM x l<0 then x else l) ae:=by
 have m:x.le x:=aB.V1;right;rcases h with⟨rfl,rfl,c⟩ | ⟨rfl,b,c⟩
 ·refine⟨rfl,by simpa using j,fun d hd=>?_⟩;rcases g d hd with h | h
  ·exact absurd h (c d)
  ·simpa using h
 ·by_cases k:x.lt l
  ·rw [bf (.inr ((gJ _ _).2 k))];refine⟨rfl,j,fun d hd=>?_⟩;rcases g d hd with h | h
   ·exact aB.le_trans (aB.ad_ k) (c d h)
   ·exact h
  ·rw [aT (by rw [gJ];simpa using k)];refine⟨rfl,hi l b,fun d hd=>?_⟩;rcases g d hd with h | h
   ·exact c d h
   ·exact aB.le_trans k h
def vK(c:cm)(len:Int)(x:aB):Prop:=∃ d,qN c.ts 0 d∧x=cJ len c.min d
def gE(s:aN)(x:aB):Prop:=(∃ c ∈ s.cs,vK c s.len x)∨x ∈ s.xs
theorem vY:∀ {l:List aB} {o:Option aB},fS o l=ae→l.Pairwise aB.lt∧∀ m,o=aa m→∀ x ∈ l,m.lt x
 | [],_,_=>⟨List.Pairwise.nil,by simp⟩
 | x::l,o,h=>by
  simp only [fS,If]at h;obtain⟨⟨u,d⟩,q⟩:=h;obtain⟨s,g⟩:=vY q;refine⟨aoQ.2 ⟨g x rfl,s⟩,?_⟩;rintro m rfl y b;have j:m.lt x:=by
   simp at d;exact(gJ _ _).1 d
  rcases anK.1 b with rfl | b
  ·exact j
  ·exact aB.lt_trans j (g x rfl y b)
theorem jx.xpw{s:aN}(h:jx s):s.xs.Pairwise aB.lt:=by
 have:=h.v;simp only [fZ,If]at this;exact(vY this.2).1
theorem adR(x b:aB)(found:Bool)(H:an)(q:H[2]?=aa (.box (b.row.map .f) 0))(v:H[3]?=aa (.box [.f (.bool found)] 0)) :
  ∃ r H',Ev tab (.fn 43) [.a (x.row.map .f),.c (.ptr 3 0 0),.c (.ptr 2 0 0)] H r H'∧(r=.t []∧H'[2]?=aa (.box ((if found=ag∨eM x b<0 then x else b).row.map .f) 0)∧H'[3]?=aa (.box [.f (.bool ae)] 0) ∧
   H.length≤H'.length∧∀ i:Nat,i<H.length→i≠2→i≠3→H'[i]?=H[i]?):=by
 refine cM rfl rfl fun Q A=>?_;have K:=aj v;have J:=aj q;simp only [aB.row,ano,anC]at q ⊢;have d:=qd x b;simp only [aB.row,ano,anC]at d;apply ai;simp;have j:(H++[bV.box [.f (fi x.day),.f (fi x.fr),.f (fi x.to)] 0])[2]?=aa (.box [.f (fi b.day),.f (fi b.fr),.f (fi b.to)] 0):=by rw [AT J];exact q
 have l:(H++[bV.box [.f (fi x.day),.f (fi x.fr),.f (fi x.to)] 0])[3]?=aa (.box [.f (.bool found)] 0):=by rw [AT K];exact v
 have u:(H++[bV.box [.f (fi x.day),.f (fi x.fr),.f (fi x.to)] 0])[H.length]?=aa (.box [.f (fi x.day),.f (fi x.fr),.f (fi x.to)] 0):=by simp
 have y:∀ i:Nat,i<H.length→(H++[bV.box [.f (fi x.day),.f (fi x.fr),.f (fi x.to)] 0])[i]?=H[i]?:=fun i hi=>AT hi;have z:H.length≤(H++[bV.box [.f (fi x.day),.f (fi x.fr),.f (fi x.to)] 0]).length:=by simp
 generalize H++[bV.box [.f (fi x.day),.f (fi x.fr),.f (fi x.to)] 0]=g at j l u y z ⊢;have m:(g.set 2 (.box [.f (fi x.day),.f (fi x.fr),.f (fi x.to)] 0))[3]?=aa (.box [.f (.bool found)] 0):=by rw [sh (by decide)];exact l
 have s:∀ t:T,t.g 1=.c (.ptr 3 0 0)→t.g 2=.c (.ptr 2 0 0)→t.g 3=.c (.ptr H.length 0 0)→(found=ag∨eM x b<0)→WP tab 43 ab [.code CE] ⟨t,[],g⟩ Q:=by
  intro t B E F I;have L:cZ g (.ptr 2 0 0) [.f (fi x.day),.f (fi x.fr),.f (fi x.to)]=aa (g.set 2 (.box [.f (fi x.day),.f (fi x.fr),.f (fi x.to)] 0)):=by simp [cZ,j,over]
  have M:cZ (g.set 2 (.box [.f (fi x.day),.f (fi x.fr),.f (fi x.to)] 0)) (.ptr 3 0 0) [.f (.bool ae)]=aa ((g.set 2 (.box [.f (fi x.day),.f (fi x.fr),.f (fi x.to)] 0)).set 3 (.box [.f (.bool ae)] 0)):=by simp [cZ,m,over]
  refine aq (.inl rfl) ?_;simp [B,E,F,u,L,M,-a6];refine cK (A _ _ _ rfl rfl ⟨rfl,?_,?_,by simpa using z,fun i hi q v=>?_⟩)
  ·rw [sh (by decide),BY (aj j),bf I];rfl
  ·exact BY (aj m)
  ·rw [sh (by omega),sh (by omega)];exact y i hi
 apply au;cases found with
 | false=>
  refine aq (.inl rfl) ?_;simp [l];refine av (by simp) (s _ (by simp) (by simp) (by simp) (.inl rfl))
 | true=>
  by_cases k:eM x b<0
  ·refine aq (.inl rfl) ?_;simp [l,j,u,d,k];refine av (by simp) (s _ (by simp) (by simp) (by simp) (.inr k))
  ·refine aq (.inl rfl) ?_;simp [l,j,u,d,k];refine aX (by simp) ?_;refine cK (A _ _ _ rfl rfl ⟨rfl,?_,l,z,fun i hi q v=>y i hi⟩);rw [aT (by simp [k])];exact j
theorem acE(s:aN)(hs:jx s)(m:Int)(m9:-1000000000≤m)(m_:m≤1000000000) :
  ∃ x f,sY (fun y=>gE s y∧m≤y.fr) x f∧bW tab 15 [.a (s.row.map .f),vi m]=Eq (.t [.a (x.row.map .f),vb f]):=by
 have key:∃ r,(∃ x f,sY (fun y=>gE s y∧m≤y.fr) x f∧r=.t [.a (x.row.map .f),vb f])∧bW tab 15 [.a (s.row.map .f),vi m] r:=by
  refine eV rfl rfl fun Q hQ=>?_;have a_:=(jj s hs.sm).eq;rw [hs.v]at a_;simp [aN.row]at a_;obtain⟨i9,i_⟩:=hs.len;have l_:=hs.cn;have n6:=hs.xn;have j4:max m (-2251799813685248)=m:=by omega
  apply ai;simp [aN.row];apply au;apply ai;simp [a_,show¬ 2251799813685248<m by omega];refine aX (by simp) ?_;apply ai;simp [j4];apply ai;simp;apply ai;simp;apply ai;simp;obtain⟨Hd,N⟩:∃ Hd:an→aB→Bool→Prop,Hd=fun H x f=>H[0]?=aa (.box [C.f (sl s.cg (aQ s.cs)),C.f (fi s.len),C.f (sl s.xg (aD s.xs))] 0)∧H[1]?=aa (.box [.f (fi 0),.f (fi 0),.f (fi 0)] 0)∧H[2]?=aa (.box (x.row.map .f) 0)∧H[3]?=aa (.box [.f (.bool f)] 0):=⟨_,rfl⟩
  have a7:∀ H x f J,Hd H x f→Hd (H++J) x f:=by
   intro H x f J h;rw [N]at h ⊢;obtain⟨a,b,c,d⟩:=h;exact⟨by rw [AT (aj a)];exact a,by rw [AT (aj b)];exact b,by rw [AT (aj c)];exact c,by rw [AT (aj d)];exact d⟩
  have a8:∀ H x f y,Hd H x f→∃ r H',Ev tab (.fn 43) [.a (y.row.map .f),.c (.ptr 3 0 0),.c (.ptr 2 0 0)] H r H'∧r=.t []∧Hd H' (if f=ag∨eM y x<0 then y else x) ae:=by
   intro H x f y h;rw [N]at h ⊢;obtain⟨a,b,c,d⟩:=h;obtain⟨r,H',e,h1,W,h3,h4,h5⟩:=adR y x f H c d;exact⟨r,H',e,h1,by rw [h5 0 (aj a) (by decide) (by decide)];exact a,by rw [h5 1 (aj b) (by decide) (by decide)];exact b,W,h3⟩
  have f_:∀(t:T) (H:an) (x:aB) (f:Bool),t.g 4=.c (.ptr 1 0 0)→t.g 6=.c (.ptr 2 0 0)→t.g 7=.c (.ptr 3 0 0)→Hd H x f→sY (fun y=>gE s y∧m≤y.fr) x f→WP tab 15 ab [.code zn] ⟨t,[],H⟩ Q:=by
   intro t H x f F L M h O;rw [N]at h;obtain⟨h0,h1,W,h3⟩:=h;simp only [aB.row,ano,anC]at W;have s1:cZ H (.ptr 1 0 0) [.f (fi x.day),.f (fi x.fr),.f (fi x.to)]=aa (H.set 1 (.box [.f (fi x.day),.f (fi x.fr),.f (fi x.to)] 0)):=by simp [cZ,h1,over]
   have n1:(H.set 1 (.box [.f (fi x.day),.f (fi x.fr),.f (fi x.to)] 0))[1]?=aa (.box [.f (fi x.day),.f (fi x.fr),.f (fi x.to)] 0):=BY (aj h1);have n3:(H.set 1 (.box [.f (fi x.day),.f (fi x.fr),.f (fi x.to)] 0))[3]?=aa (.box [.f (.bool f)] 0):=by rw [sh (by decide)];exact h3
   refine au (ew (.inl rfl) ?_ ?_)
   case refine_2=>
    intro cc i7;have i6:cc=(1,4):=by simpa using i7
    subst i6;refine⟨by decide,_,rfl,.inl ⟨by decide,?_⟩⟩;simp [F,L,M,W,h3,s1,n3,fE,-a6];cases f<;>rfl
   simp [F,L,M,W,h3,s1,-a6];refine aE (hQ _ _ _ ⟨x,f,O,rfl⟩ ?_);simp [F,n1,aB.row]
  have b_:∀(t:T) (H:an) (x:aB) (f:Bool),t.g 1=vi m→t.g 2=.c (.ptr 0 0 0)→t.g 4=.c (.ptr 1 0 0)→t.g 6=.c (.ptr 2 0 0)→t.g 7=.c (.ptr 3 0 0)→t.g 8=.c (.cl 43 [.ptr 3 0 0,.ptr 2 0 0])→Hd H x f→sY (fun y=>(∃ c ∈ s.cs,vK c s.len y)∧m≤y.fr) x f →
    WP tab 15 ab [.code zm] ⟨t,[],H⟩ Q:=by
   intro t H x f S g2 F L M U h O;have h0:H[0]?=aa (.box [C.f (sl s.cg (aQ s.cs)),C.f (fi s.len),C.f (sl s.xg (aD s.xs))] 0):=by rw [N]at h;exact h.1
   apply au;apply ai;simp [g2,h0];refine b7 s.xs.length (fun j t H=>t.g 1=vi m∧t.g 4=.c (.ptr 1 0 0)∧t.g 6=.c (.ptr 2 0 0)∧t.g 7=.c (.ptr 3 0 0)∧t.g 8=.c (.cl 43 [.ptr 3 0 0,.ptr 2 0 0])∧t.g 62=.c (.f (sl s.xg (aD s.xs)))∧Hd H x f∧∀ y ∈ s.xs.take j,¬ m≤y.fr) (by omega) (by decide) (by decide) (by simp) (by simp)
    ⟨by simp [S],by simp [F],by simp [L],by simp [M],by simp [U],by simp,h,by simp⟩ ?_ ?_
   ·rintro j t H hj ⟨S,F,L,M,U,e_,h,Z⟩ ha hb next
    obtain⟨y,K⟩:=aM (s.xs[j]);have j_:y ∈ s.xs:=K▸IS hj;have u:=fun H:an=>cH (H:=H) (bw s.xs) (cD hj);rw [←K]at u;simp [aB.row]at u;have I:s.xs.take (j+1)=s.xs.take j++[y]:=by rw [anu,By hj,K];rfl
    refine ay ?_;apply ai;simp [e_,ha,bG,hj,u];have kN:(H++[bV.box [.f (fi y.day),.f (fi y.fr),.f (fi y.to)] 0])[H.length]?=aa (.box [.f (fi y.day),.f (fi y.fr),.f (fi y.to)] 0):=by simp
    have kh:=a7 H x f [bV.box [.f (fi y.day),.f (fi y.fr),.f (fi y.to)] 0] h;generalize H++[bV.box [.f (fi y.day),.f (fi y.fr),.f (fi y.to)] 0]=HA at kN kh ⊢;apply ai;simp [S,kN];by_cases k:m≤y.fr
    ·obtain⟨r,H2,B,rfl,W⟩:=a8 HA x f y kh;have B:=B.eq;simp only [aB.row,ano,anC]at B;refine av (by simp [k]) ?_;apply ai;simp [U,kN,bO,B];refine bh rfl ?_;refine f_ _ _ _ _ (by simp [F]) (by simp [L]) (by simp [M]) W (O.step ⟨.inr j_,k⟩ (fun z v=>⟨.inl v.1,v.2⟩) fun z v=>?_);rcases v.1 with h | h
     ·exact .inl ⟨h,v.2⟩
     ·right;obtain⟨i,hi,rfl⟩:=anB h;rcases Nat.lt_trichotomy i j with q | rfl | q
      ·exact absurd v.2 (Z _ (an0.2 ⟨i,by omega,rfl⟩))
      ·rw [K];exact aB.V1
      ·rw [K];exact aB.ad_ (anP.1 hs.xpw j i hj hi q)
    ·refine aF (by simp [k]) (aR (ax (next _ _ ?_ (by simp [ha]) (by simp [hb]))));refine⟨by simp [S],by simp [F],by simp [L],by simp [M],by simp [U],by simp [e_],kh,fun z v=>?_⟩;rw [I]at v;rcases anm.1 v with v | v
     ·exact Z z v
     ·rw [OF.1 v];exact k
   ·rintro t H ⟨S,F,L,M,U,e_,h,Z⟩ - -;rw [ant]at Z;refine f_ _ _ _ _ (by simp [F]) (by simp [L]) (by simp [M]) h (O.iff fun z=>⟨fun v=>?_,fun v=>⟨.inl v.1,v.2⟩⟩);rcases v.1 with q | q
    ·exact⟨q,v.2⟩
    ·exact absurd v.2 (Z z q)
  apply au;apply ai;simp;refine b7 s.cs.length (fun j t H=>t.g 1=vi m∧t.g 2=.c (.ptr 0 0 0)∧t.g 4=.c (.ptr 1 0 0)∧t.g 6=.c (.ptr 2 0 0)∧t.g 7=.c (.ptr 3 0 0)∧t.g 8=.c (.cl 43 [.ptr 3 0 0,.ptr 2 0 0])∧t.g 27=.c (.f (sl s.cg (aQ s.cs)))∧∃ x f,Hd H x f∧sY (fun y=>(∃ c ∈ s.cs.take j,vK c s.len y)∧m≤y.fr) x f) (by omega) (by decide) (by decide) (by simp) (by simp)
   ⟨by simp,by simp,by simp,by simp,by simp,by simp,by simp,⟨0,0,0⟩,ag,by rw [N];exact⟨rfl,rfl,rfl,rfl⟩,.inl ⟨rfl,rfl,fun y K=>by obtain⟨⟨c,A,_⟩,_⟩:=K;simp at A⟩⟩ ?_ ?_
  ·rintro j t H hj ⟨S,g2,F,L,M,U,c9,x,f,h,O⟩ ha hb next
   obtain⟨cl,f7⟩:=aM (s.cs[j]);have c_:cl ∈ s.cs:=f7▸IS hj;have k_:=hs.min c_;have d_:=hs.cl cl c_;have u:=fun H:an=>cH (H:=H) (dh s.cs) (eU (l:=s.cs) (j:=j) hj);have d9:=fun H:an=>bG (H:=H) (g:=s.cg) (rows:=aQ s.cs) (sz:=2) (k:=.i64) (i:=j) (by omega) (by simpa using hj);rw [←f7]at u;simp [cm.row]at u d9;have I:s.cs.take (j+1)=s.cs.take j++[cl]:=by rw [anu,By hj,f7];rfl
   obtain⟨n0,j7⟩:=aM (max 0 ((m-cl.min-1) / 1440+1));obtain⟨d,ok,f8,hd,j9⟩:=Dy cl.mg cl.ts d_.v d_.f n0 (by omega) (by omega);have i3:=lK (sl s.cg (aQ s.cs)) (sl s.xg (aD s.xs)) (sl cl.mg (aA cl.ts)) s.len cl.min d (by omega) (by omega) (by omega) (by omega);have Y:=mj (sl s.cg (aQ s.cs)) (sl s.xg (aD s.xs)) (sl cl.mg (aA cl.ts)) s.len cl.min d (by unfold jR;omega) (by unfold jR;omega) (by unfold jR;omega);simp [aB.row]at Y;have i8:=jW (m-cl.min-1) (by omega) (by omega);have i4:d≤(2251799813685248-cl.min-s.len) / 1440:=by omega
   have h_:max 0 ((m-cl.min-1) / 1440+1)=n0:=j7.symm;have X:∀ y,vK cl s.len y∧m≤y.fr↔∃ e,qN cl.ts n0 e∧y=cJ s.len cl.min e:=by
    intro y;constructor
    ·rintro⟨⟨e,he,rfl⟩,W⟩;have h3:m≤e*1440+cl.min:=W;have h4:0≤e:=by obtain⟨_,_,h,_⟩:=he;exact h
     exact⟨e,(lu (by omega) (by omega)).1 he,rfl⟩
    ·rintro⟨e,he,rfl⟩;have h4:n0≤e:=by obtain⟨_,_,h,_⟩:=he;exact h
     refine⟨⟨e,(lu (by omega) h4).2 he,rfl⟩,?_⟩;show m≤e*1440+cl.min;omega
   refine ay ?_;apply ai;simp [c9,ha,d9,u];obtain⟨bc,g_⟩:=aM (H.length);have kc:(H++[bV.box [.f (sl cl.mg (aA cl.ts)),.f (fi cl.min)] 0])[bc]?=aa (.box [.f (sl cl.mg (aA cl.ts)),.f (fi cl.min)] 0):=by simp [g_]
   have kh:=a7 H x f [bV.box [.f (sl cl.mg (aA cl.ts)),.f (fi cl.min)] 0] h;rw [←g_];generalize H++[bV.box [.f (sl cl.mg (aA cl.ts)),.f (fi cl.min)] 0]=HA at kc kh ⊢;have k0:HA[0]?=aa (.box [C.f (sl s.cg (aQ s.cs)),C.f (fi s.len),C.f (sl s.xg (aD s.xs))] 0):=by rw [N]at kh;exact kh.1
   apply ai;simp [S,kc,aP (n:=m-cl.min),aP (n:=m-cl.min-1),i8,aP (n:=(m-cl.min-1) / 1440+1),h_,j9];apply au;rcases f8 with⟨rfl,rfl,j8⟩ | ⟨rfl,hS,f8⟩
   ·refine aq (.inl rfl) ?_;simp;refine aF (by simp) (aR (ax (next _ _ ?_ (by simp [ha]) (by simp [hb]))));refine⟨by simp [S],by simp [g2],by simp [F],by simp [L],by simp [M],by simp [U],by simp [c9],x,f,kh,O.iff fun y=>⟨fun K=>?_,fun K=>?_⟩⟩
    ·obtain⟨⟨c,A,hi⟩,E⟩:=K;rw [I]at A;rcases anm.1 A with A | A
     ·exact⟨⟨c,A,hi⟩,E⟩
     ·obtain rfl:=OF.1 A;obtain⟨e,he,-⟩:=(X y).1 ⟨hi,E⟩;exact absurd he (j8 e)
    ·obtain⟨⟨c,A,hi⟩,E⟩:=K;exact⟨⟨c,by rw [I];exact anO _ A,hi⟩,E⟩
   ·obtain⟨r,H2,B,rfl,W⟩:=a8 HA x f (cJ s.len cl.min d) kh;have B:=B.eq;simp only [aB.row,ano,anC]at B;refine aq (.inl rfl) ?_;simp [g2,k0,kc,i3,i4];refine av (by simp) (aq (.inl rfl) ?_);simp [g2,U,k0,kc,Y,bO,B];refine ax (next _ _ ?_ (by simp [ha]) (by simp [hb]));refine⟨by simp [S],by simp [g2],by simp [F],by simp [L],by simp [M],by simp [U],by simp [c9],_,ae,W,O.step ?_ (fun y K=>?_) fun y K=>?_⟩
    ·obtain⟨a,b⟩:=(X _).2 ⟨d,hS,rfl⟩;exact⟨⟨cl,by rw [I];exact List.mem_append_right _ (OF.2 rfl),a⟩,b⟩
    ·obtain⟨⟨c,A,hi⟩,E⟩:=K;exact⟨⟨c,by rw [I];exact anO _ A,hi⟩,E⟩
    ·obtain⟨⟨c,A,hi⟩,E⟩:=K;rw [I]at A;rcases anm.1 A with A | A
     ·exact .inl ⟨⟨c,A,hi⟩,E⟩
     ·right;obtain rfl:=OF.1 A;obtain⟨e,he,rfl⟩:=(X y).1 ⟨hi,E⟩;have:=f8 e he;unfold aB.le aB.lt cJ;simp only;omega
  ·rintro t H ⟨S,g2,F,L,M,U,c9,x,f,h,O⟩ - -;rw [ant]at O;exact b_ _ _ x f (by simp [S]) (by simp [g2]) (by simp [F]) (by simp [L]) (by simp [M]) (by simp [U]) h O
 obtain⟨r,⟨x,f,O,rfl⟩,h⟩:=key;exact⟨x,f,O,h.eq⟩
abbrev u8(n:Nat):FC:=.int .u8 n
def dL(l:List Nat):List (List FC):=l.map fun n=>[u8 n]
@[simp] theorem aih (l:List Nat):(dL l).length=l.length:=by simp [dL]
theorem Bu(l:List Nat):bP 1 (dL l):=bP.map fun _=>rfl
theorem Aw{j:Nat}{l:List Nat}(b:j<l.length){H:an}:aU H ab (.c (.f (.fp (dL l).flatten j)))=aa (.c (.f (u8 l[j]))):=by
 have:=gG (H:=H) (rows:=dL l) (j:=j) (sz:=1) (row:=[u8 l[j]]) (x:=u8 l[j]) (Bu l) (by simp [dL,b]) rfl;simpa using this
theorem wh{j:Nat}{l:List Nat}{g:Tg}(b:j<l.length){H:an}:bC H 1 ab (.c (.f (sl g (dL l)))) (vi j)=aa (.c (.f (.fp (dL l).flatten j))):=by
 have:=bG (H:=H) (g:=g) (rows:=dL l) (sz:=1) (k:=.i64) (i:=(j:Int)) (by omega) (by simp;omega);simpa using this
def uN(b:List Nat)(i:Nat):Nat:=b[i]?.getD 0
theorem xB{b:List Nat}(h:∀ n ∈ b,n<256)(i:Nat):uN b i<256:=by
 unfold uN;by_cases hi:i<b.length
 ·rw [By hi];exact h _ (IS hi)
 ·rw [aoY.2 (by omega)];decide
theorem vN(g:Tg)(b:List Nat)(m:∀ n ∈ b,n<256)(s:b.length≤9223372036854775807)(i:Nat)(hi:i≤1000):bW tab 60 [.c (.f (sl g (dL b))),vi i]=Eq (vi (uN b i:Nat)):=bW.eq (by
 refine cd rfl rfl fun Q d=>?_;apply ai;simp;refine au (ai ?_);simp;by_cases h:i<b.length
 ·have j:=wh (g:=g) h (H:=[]);have l:=Aw h (H:=[]);have q:=m _ (IS h);have w:IntKind.i64.wrap ((b[i]:Nat):Int)=((b[i]:Nat):Int):=aP;refine av (by simp [h]) (ai ?_);simp [j,l,w];refine aE (d _ _ ?_);simp [uN,By h]
 ·refine aX (by simp [h]) ?_;apply ai;simp;refine aE (d _ _ ?_);simp [uN,aoY.2 (show b.length≤i by omega)])
theorem nM{limit:Int}:∀ {l:List Int} {last:Int},(∀ x ∈ l,last<x∧x<limit)→l.Pairwise (· < ·)→dC limit last l=ae
 | [],_,_,_=>rfl
 | n::r,last,h,b=>by
  have d:=h n anr;rw [aoQ]at b;simp only [dC,decide_eq_true d.1,decide_eq_true d.2,aol];exact nM (fun x g=>⟨b.1 x g,(h x (anp _ g)).2⟩) b.2
def Up(l:List Int)(n:Nat):Prop:=(∀ x ∈ l,0≤x∧x<n)∧l.Pairwise (· < ·)∧l.length≤n
theorem Up.nil:Up [] 0:=⟨by simp,List.Pairwise.nil,by simp⟩
theorem Up.skip{l:List Int}{n:Nat}(h:Up l n):Up l (n+1):=⟨fun x b=>by have:=h.1 x b;omega,h.2.1,by have:=h.2.2;omega⟩
theorem Up.app{l:List Int}{n:Nat}(h:Up l n):Up (l++[(n:Int)]) (n+1):=by
 refine⟨fun x d=>?_,?_,by simp;exact h.2.2⟩
 ·rcases anm.1 d with d | d
  ·have:=h.1 x d;omega
  ·simp at d;subst d;omega
 ·rw [an9];exact⟨h.2.1,an1 _ _,fun a g b hb=>by simp at hb;subst hb;have:=h.1 a g;omega⟩
theorem Up.rising{l:List Int}{n:Nat}(h:Up l n):dC n (-1) l=ae:=nM (fun x b=>by have:=h.1 x b;omega) h.2.1
theorem kW(l:List Int):bP 1 (ints l):=bP.map fun _=>rfl
structure FI(b:V)(fr aL:Nat)(hd cy:List Int)(ch cc:C)(t:T)(J:an):Prop where
 res:J[0]?=aa (.box [.f .aC,.f (fi 0),.f (fi 0),.f .aC] 0)
 pb:J[1]?=aa (.box [ch,.f (fi fr),.f (fi aL),cc] 0)
 lh:LR J ch 1 (ints hd)
 lc:LR J cc 1 (ints cy)
 ne:∀ i,aV ch=aa i→aV cc≠aa i
 g0:t.g 0=b
 g2:t.g 2=.c (.ptr 0 0 0)
 g3:t.g 3=.c (.ptr 1 0 0)
section
variable{b:V}{fr aL:Nat}{hd cy:List Int}{ch cc:C}{t:T}{J:an}
theorem FI.to(k:FI b fr aL hd cy ch cc t J){d:T}(g0:d.g 0=b)(g2:d.g 2=.c (.ptr 0 0 0))(g3:d.g 3=.c (.ptr 1 0 0)):FI b fr aL hd cy ch cc d J:=⟨k.res,k.pb,k.lh,k.lc,k.ne,g0,g2,g3⟩
theorem FI.abL(k:FI b fr aL hd cy ch cc t J)(hl:cy.length≤1000)(n:Int) :
  ∃ m j,bF (J++[.box [.f (fi n)] 0]) 1 8 (.c cc) (.c (.sl J.length 0 1 1 0 1))=aa (.c m,j)∧cZ j (.ptr 1 3 0) [m]=aa (j.set 1 (.box [ch,.f (fi fr),.f (fi aL),m] 0)) ∧
   ∀ x:T,x.g 0=b→x.g 2=.c (.ptr 0 0 0)→x.g 3=.c (.ptr 1 0 0)→FI b fr aL hd (cy++[n]) ch m x (j.set 1 (.box [ch,.f (fi fr),.f (fi aL),m] 0)):=by
 obtain⟨A,d⟩:=aM (J++[.box ([fi n].map .f) 0]:an);have up:∀ i y,J[i]?=aa y→A[i]?=aa y:=fun i y hy=>by rw [d,AT (aj hy)];exact hy
 have u:LR A cc 1 (ints cy):=by rw [d];exact k.lc.push _
 have B:A[J.length]?=aa (.box ([fi n].map .f) 0):=by rw [d];simp
 obtain⟨m,j,l,q,s,E⟩:=u.app (kW cy) (by decide) (row:=[fi n]) rfl (bytes:=8) (dH (by simp [ints];omega) (by decide)) B;have z:∀(i:Nat) (cs:List C) (fl:Nat),J[i]?=aa (.box cs fl)→j[i]?=aa (.box cs fl):=fun i cs fl hy=>s.2 i _ (up _ _ hy) (u.bA (up _ _ hy));have g:=z _ _ _ k.pb;have H:ints cy++[[fi n]]=ints (cy++[n]):=by simp [ints]
 rw [H]at q;have v:LR j ch 1 (ints hd):=k.lh.ba fun i y hy hi=>s.2 i y (up _ _ hy) (k.ne i hi);refine⟨m,j,by rw [d]at l;exact l,by simp [cZ,g,over],fun x g0 g2 g3=>⟨?_,BY (aj g),v.set (v.bA g) _,q.set (q.bA g) _,?_,g0,g2,g3⟩⟩
 ·rw [sh (by decide)];exact z _ _ _ k.res
 ·intro i hi;rcases E with e | e
  ·rw [e];exact k.ne i hi
  ·rw [e];intro F;cases F;have:=k.lh.lt hi;have h2:A.length=J.length+1:=by rw [d];simp
   omega
theorem FI.VL(k:FI b fr aL hd cy ch cc t J)(hl:hd.length≤1000)(n:Int) :
  ∃ m j,bF (J++[.box [.f (fi n)] 0]) 1 8 (.c ch) (.c (.sl J.length 0 1 1 0 1))=aa (.c m,j)∧cZ j (.ptr 1 0 0) [m]=aa (j.set 1 (.box [m,.f (fi fr),.f (fi aL),cc] 0)) ∧
   ∀ z:T,z.g 0=b→z.g 2=.c (.ptr 0 0 0)→z.g 3=.c (.ptr 1 0 0)→FI b fr aL (hd++[n]) cy m cc z (j.set 1 (.box [m,.f (fi fr),.f (fi aL),cc] 0)):=by
 obtain⟨B,d⟩:=aM (J++[.box ([fi n].map .f) 0]:an);have up:∀ i y,J[i]?=aa y→B[i]?=aa y:=fun i y hy=>by rw [d,AT (aj hy)];exact hy
 have u:LR B ch 1 (ints hd):=by rw [d];exact k.lh.push _
 have E:B[J.length]?=aa (.box ([fi n].map .f) 0):=by rw [d];simp
 obtain⟨m,j,l,q,s,F⟩:=u.app (kW hd) (by decide) (row:=[fi n]) rfl (bytes:=8) (dH (by simp [ints];omega) (by decide)) E;have A:∀(i:Nat) (cs:List C) (fl:Nat),J[i]?=aa (.box cs fl)→j[i]?=aa (.box cs fl):=fun i cs fl hy=>s.2 i _ (up _ _ hy) (u.bA (up _ _ hy));have g:=A _ _ _ k.pb;have H:ints hd++[[fi n]]=ints (hd++[n]):=by simp [ints]
 rw [H]at q;have v:LR j cc 1 (ints cy):=k.lc.ba fun i y hy hi=>s.2 i y (up _ _ hy) (fun e=>k.ne i e hi);refine⟨m,j,by rw [d]at l;exact l,by simp [cZ,g,over],fun z g0 g2 g3=>⟨?_,BY (aj g),q.set (q.bA g) _,v.set (v.bA g) _,?_,g0,g2,g3⟩⟩
 ·rw [sh (by decide)];exact A _ _ _ k.res
 ·intro i hi x;rcases F with e | e
  ·rw [e]at hi;exact k.ne i hi x
  ·rw [e]at hi;cases hi;have:=k.lc.lt x;have h2:B.length=J.length+1:=by rw [d];simp
   omega
end
theorem WU(a:Int)(j:Nat):bR .shr (vi a) (vi j)=aa (vi (a.fdiv (2 ^ (min j 64)))):=by
 have:¬ ((j:Int)<0):=by omega
 simp only [bR,this,if_false];rw [anJ];rfl
theorem DY(a:Int)(j:Nat):bR .rem (vi (a.fdiv (2 ^ (min j 64)))) (vi 2)=aa (vi ((a.fdiv (2 ^ (min j 64))).tmod 2)):=by
 simp [bR,kI,V.int]
def aI.eF(p:aI):Prop:=cL p=ae∧p.fr≤8∧p.aL≤12
theorem uX(g:Tg){b:List Nat}(s:∀ n ∈ b,n<256)(m:b.length≤9223372036854775807) :
  ∃ p:aI,p.eF∧bW tab 59 [.c (.f (sl g (dL b)))]=Eq (.a (p.row.map .f)):=by
 obtain⟨rr,⟨p,hp,rfl⟩,N⟩:∃ rr,(∃ p:aI,p.eF∧rr=.a (p.row.map .f))∧bW tab 59 [.c (.f (sl g (dL b)))] rr:=by
  refine eV rfl rfl fun Q o=>?_;have S:bW tab 60 [.c (.f (sl g (dL b))),vi 0]=Eq (vi (uN b 0:Nat)):=vN g b s m 0 (by decide);have a1:bW tab 60 [.c (.f (sl g (dL b))),vi 1]=Eq (vi (uN b 1:Nat)):=vN g b s m 1 (by decide);have U:bW tab 60 [.c (.f (sl g (dL b))),vi 2]=Eq (vi (uN b 2:Nat)):=vN g b s m 2 (by decide);have W:bW tab 60 [.c (.f (sl g (dL b))),vi 3]=Eq (vi (uN b 3:Nat)):=vN g b s m 3 (by decide);have X:bW tab 60 [.c (.f (sl g (dL b))),vi 4]=Eq (vi (uN b 4:Nat)):=vN g b s m 4 (by decide);have b0:=xB s 0;have b1:=xB s 1;have b2:=xB s 2;have b3:=xB s 3;obtain⟨fr,F⟩:=aM (uN b 1 % 9:Nat);obtain⟨aL,B⟩:=aM (1+uN b 0 % 12:Nat);have r1:bR .rem (vi (uN b 1:Nat)) (vi 9)=aa (vi fr):=by rw [fu (by omega) (by decide),F];simp
  have r0:bR .rem (vi (uN b 0:Nat)) (vi 12)=aa (vi (uN b 0 % 12:Nat)):=by rw [fu (by omega) (by decide)];simp
  have w0:IntKind.i64.wrap (1+(uN b 0:Int) % 12)=aL:=by rw [aP,B];simp
  have w3:=aP (n:=256*(uN b 3:Int));obtain⟨bits,x⟩:=aM (IntKind.i64.wrap ((uN b 2:Int)+256*(uN b 3:Int)));apply ai;simp;apply ai;simp [S,a1,r0,r1,w0];apply ai;simp [U,W,w3,←x];refine au (ai ?_);simp;refine jC aL (fun j t J=>∃ cy cc,Up cy j∧FI (.c (.f (sl g (dL b)))) fr aL [] cy (.f .aC) cc t J∧t.g 4=vi bits) (by omega) (by decide) (by simp)
   ⟨[],.f .aC,Up.nil,⟨rfl,rfl,LR.nil _ _,LR.nil _ _,(fun i h=>by cases h),by simp,by simp,by simp⟩,by simp⟩ ?_ ?_ ?_
  ·rintro j t J L H ⟨cy,cc,u,k,q⟩ d M;simp [d,k.g3,k.pb,aW];exact M _ ⟨cy,cc,u,k.to (by simp [k.g0]) (by simp [k.g2]) (by simp [k.g3]),by simp [q]⟩ (by simp [d]) (by simp)
  ·rintro j t J H ⟨cy,cc,u,k,q⟩ d nx;refine ay (ai ?_);simp [d,q,WU,DY];by_cases A:(bits.fdiv (2 ^ (min j 64))).tmod 2=1
   ·simp [A];refine av (by simp) (aq (.inl rfl) ?_);obtain⟨Y,O,l,z,I⟩:=k.abL (by have:=u.2.2;omega) j;simp [d,k.g3,k.pb,aW,l,z,-a6];refine ax (nx _ _ ⟨_,_,u.app,I _ (by simp [k.g0]) (by simp [k.g2]) (by simp [k.g3]),by simp [q]⟩ (by simp [d]))
   ·simp [A];refine aX (by simp) ?_;refine ax (nx _ _ ⟨_,_,u.skip,k.to (by simp [k.g0]) (by simp [k.g2]) (by simp [k.g3]),by simp [q]⟩ (by simp [d]))
  rintro t J ⟨cy,cc,u,k,q⟩ d;refine au (ai ?_);simp;refine jC fr (fun j t J=>∃ hd ch,Up hd j∧FI (.c (.f (sl g (dL b)))) fr aL hd cy ch cc t J) (by omega) (by decide) (by simp)
   ⟨[],.f .aC,Up.nil,k.to (by simp [k.g0]) (by simp [k.g2]) (by simp [k.g3])⟩ ?_ ?_ ?_
  ·clear k q d;rintro j t J L H ⟨hd,ch,v,k⟩ d M;simp [d,k.g3,k.pb,aW];exact M _ ⟨hd,ch,v,k.to (by simp [k.g0]) (by simp [k.g2]) (by simp [k.g3])⟩ (by simp [d]) (by simp)
  ·clear k q d;rintro j t J H ⟨hd,ch,v,k⟩ d nx;refine ay (ai ?_);simp [d,k.g0,X,WU,DY];by_cases A:((uN b 4:Int).fdiv (2 ^ (min j 64))).tmod 2=1
   ·simp [A];refine av (by simp) (aq (.inl rfl) ?_);obtain⟨Y,O,l,z,I⟩:=k.VL (by have:=v.2.2;omega) j;simp [d,k.g3,k.pb,aW,l,z,-a6];refine ax (nx _ _ ⟨_,_,v.app,I _ (by simp [k.g0]) (by simp [k.g2]) (by simp [k.g3])⟩ (by simp [d]))
   ·simp [A];refine aX (by simp) ?_;refine ax (nx _ _ ⟨_,_,v.skip,k.to (by simp [k.g0]) (by simp [k.g2]) (by simp [k.g3])⟩ (by simp [d]))
  clear k q d;rintro t J ⟨hd,ch,v,k⟩ d;apply ai;simp [k.g2,k.g3,k.pb,k.res,aW];obtain⟨w,hh⟩:=k.lh.Xl (kW _);obtain⟨Z,r⟩:=k.lc.Xl (kW _);have K:=aj k.res;have a:=hh (J.set 0 (.box [ch,.f (fi fr),.f (fi aL),cc] 0)) 63 fun i y hi E=>by
   rw [sh (by rintro rfl;exact k.lh.bA k.res E)];exact hi
  have c:=r (J.set 0 (.box [ch,.f (fi fr),.f (fi aL),cc] 0)) 63 fun i y hi E=>by
   rw [sh (by rintro rfl;exact k.lc.bA k.res E)];exact hi
  refine aE (o _ _ _ ⟨⟨w,hd,fr,aL,Z,cy⟩,?_,rfl⟩ ⟨rfl,.a [ch,.f (fi fr),.f (fi aL),cc],?_,?_⟩)
  ·have A:=u.2.2;have h2:=v.2.2;have e:=u.rising;have f:=v.rising;refine⟨?_,by show(fr:Int)≤8;omega,by show(aL:Int)≤12;omega⟩;simp [cL,e,f];omega
  ·simp [Km.results,cr,aZ,k.g2,K,aW]
  ·simp [kM,dE,aZ,deep,a,c,aI.row]
 exact⟨p,hp,N.eq⟩
def gR(J:an)(c:C)(fs:List aI):Prop:=
 (∃ p m,fs=[p]∧c=.sl m 0 1 1 0 4∧J[m]?=aa (.box (p.row.map .f) 0))∨(fs≠[]∧LR J c 4 (aJ fs))
theorem yy(fs:List aI)(q:aI):aJ fs++[q.row]=aJ (fs++[q]):=by simp [aJ]
section
variable{J J':an}{c:C}{fs:List aI}
theorem gR.ba(h:gR J c fs)(b:∀ i y,J[i]?=aa y→aV c=aa i→J'[i]?=aa y):gR J' c fs:=by
 rcases h with⟨p,m,rfl,rfl,h⟩ | ⟨h,h2⟩
 ·exact .inl ⟨p,m,rfl,rfl,b m _ h rfl⟩
 ·exact .inr ⟨h,h2.ba b⟩
theorem gR.push(h:gR J c fs)(L:an):gR (J++L) c fs:=h.ba fun i y hy _=>by rw [AT (aj hy)];exact hy
theorem gR.len(h:gR J c fs):bu J c=aa fs.length:=by
 rcases h with⟨p,m,rfl,rfl,h⟩ | ⟨h,h2⟩
 ·simp [bu,h]
 ·simpa using h2.len
theorem gR.bX(h:gR J c fs):∃ m,aV c=aa m∧m<J.length∧∀ cs fl d st,J[m]?≠aa (.cS 1 cs fl d st):=by
 rcases h with⟨p,m,rfl,rfl,h⟩ | ⟨h,⟨h1,_⟩ | ⟨_,b,d,rfl,hb⟩⟩
 ·exact⟨m,rfl,aj h,fun cs fl d st e=>by rw [h]at e;cases e⟩
 ·exact absurd (by simpa [aJ]using h1) h
 ·unfold RB at hb;exact⟨b,rfl,aj hb,fun cs fl d st e=>by rw [hb]at e;cases e⟩
theorem gR.app(h:gR J c fs)(hl:fs.length≤10)(q:aI){b1:Nat}(j:J[b1]?=aa (.box (q.row.map .f) 0)) :
  ∃ l H',bF J 4 64 (.c c) (.c (.sl b1 0 1 1 0 4))=aa (.c l,H')∧gR H' l (fs++[q])∧Kb J H' c∧(aV l=aV c∨aV l=aa J.length):=by
 rcases h with⟨p,m,rfl,rfl,h⟩ | ⟨h,h2⟩
 ·have d:de J 4 (.c (.sl b1 0 1 1 0 4))=aa (1,q.row.map .f):=nC j rfl;have b:cR 2 64=ae:=dH (by decide) (by decide);refine⟨.sl J.length 0 2 0 0 4,J++[.cS 4 (p.row.map .f++q.row.map .f) 0 0 .loc],?_,.inr ⟨by simp,.inr ⟨by simp [aJ],J.length,0,rfl,?_⟩⟩,Kb.push _ _ _,.inr rfl⟩
  ·simp [bF,d,h,b,aI.row]
  ·unfold RB;simp [aJ]
 ·obtain⟨y,x,g,u,s,v⟩:=h2.app (bD fs) (by decide) (row:=q.row) rfl (bytes:=64) (dH (by simp;omega) (by decide)) j;exact⟨y,x,g,.inr ⟨by simp,yy fs q▸u⟩,s,v⟩
theorem gR.ex(h:gR J c fs)(n:Nat):eL (n+1) J c=aa (sl .fs (aJ fs)):=by
 rcases h with⟨p,m,rfl,rfl,h⟩ | ⟨h,h2⟩
 ·simp [jz,h,aJ,sl,aI.row,aZ]
 ·obtain⟨g,e⟩:=h2.ex (bD fs) n;rw [e,WX (g':=.fs) (by simpa [aJ]using h)]
end
inductive CW{α β:Type}(R:α→β→Prop):List α→List β→Prop
 | nil:CW R [] []
 | cons {a b l m}:R a b→CW R l m→CW R (a::l) (b::m)
def TL(J:an)(ct:C)(ts:List (List aI)):Prop:=(ts=[]∧ct=.f .aC) ∨
 (ts≠[]∧∃ b d cs,ct=.sl b 0 ts.length 0 d 1∧J[b]?=aa (.cS 1 cs 0 d .loc)∧CW (gR J) cs ts∧cs.Pairwise (fun a b=>aV a≠aV b))
theorem iA{d g:Type}{R S:d→g→Prop}:∀ {l:List d} {m:List g},CW R l m→(∀ a b,a ∈ l→R a b→S a b)→CW S l m
 | [],[],_,_=>.nil| a::l,b::m,.cons h t,hi=>.cons (hi a b anr h) (iA t fun x y j=>hi x y (anp _ j))
theorem jB{b d:Type}{R:b→d→Prop}:∀ {l:List b} {m:List d},CW R l m→l.length=m.length
 | [],[],_=>rfl| _::_,_::_,.cons _ t=>by simp [jB t]
theorem kQ{d g:Type}{R:d→g→Prop}:∀ {l:List d} {m:List g},CW R l m→∀ {a b},R a b→CW R (l++[a]) (m++[b])
 | [],[],_,a,b,h=>.cons h .nil| _::_,_::_,.cons h t,a,b,j=>.cons h (kQ t j)
theorem mR{j g:Type}{R:j→g→Prop}:∀ {l:List j} {m:List g} {b:g},CW R l (m++[b])→∃ d a,l=d++[a]∧CW R d m∧R a b
 | _,[],b,h=>by
  cases h with
  | cons h t=>cases t;exact⟨[],_,rfl,.nil,h⟩
 | _,y::m,b,h=>by
  cases h with
  | cons h t=>
   obtain⟨d,a,rfl,q,s⟩:=mR t;exact⟨_::d,a,rfl,.cons h q,s⟩
theorem mQ{g j:Type}{R:g→j→Prop}:∀ {l:List g} {m:List j},CW R l m→∀ a ∈ l,∃ b,R a b
 | [],[],_,a,h=>by cases h
 | x::_,y::_,.cons h t,a,d=>by
  rcases anK.1 d with rfl | d
  ·exact⟨y,h⟩
  ·exact mQ t a d
section
variable{J J':an}{ct:C}{ts:List (List aI)}
theorem TL.ba(h:TL J ct ts)(l:∀ i y,J[i]?=aa y→i≠0→i≠1→J'[i]?=aa y)(h0:∃ x fl,J[0]?=aa (.box [x] fl))(h1:∃ x fl,J[1]?=aa (.box [x] fl)):TL J' ct ts:=by
 obtain⟨A,f0,h0⟩:=h0;obtain⟨B,z,h1⟩:=h1;rcases h with h | ⟨h,b,q,cs,rfl,hb,u,v⟩
 ·exact .inl h
 ·refine .inr ⟨h,b,q,cs,rfl,l _ _ hb (by rintro rfl;rw [h0]at hb;cases hb) (by rintro rfl;rw [h1]at hb;cases hb),iA u fun c fs _ hi=>hi.ba fun i y hy g=>l i y hy ?_ ?_,v⟩
  all_goals
   rintro rfl;rcases hi with⟨p,m,rfl,rfl,d⟩ | ⟨j,⟨e,_⟩ | ⟨_,m,s,rfl,d⟩⟩
   ·cases g
    first | (rw [h0]at d;simp [aI.row]at d) | (rw [h1]at d;simp [aI.row]at d)
   ·exact j (by simpa [aJ]using e)
   ·cases g;unfold RB at d
    first | (rw [h0]at d;cases d) | (rw [h1]at d;cases d)
theorem TL.push(h:TL J ct ts)(L:an):TL (J++L) ct ts:=by
 rcases h with h | ⟨h,b,d,cs,rfl,hb,g,j⟩
 ·exact .inl h
 ·exact .inr ⟨h,b,d,cs,rfl,by rw [AT (aj hb)];exact hb,iA g fun c fs _ hi=>hi.push L,j⟩
theorem TL.len(h:TL J ct ts):bu J ct=aa ts.length:=by
 rcases h with⟨rfl,rfl⟩ | ⟨h,b,d,cs,rfl,hb,g,j⟩
 ·rfl
 ·simp [bu,hb]
theorem pT{d j s:Type}{R:d→j→Prop}{g:d→Option s}{k:j→s}(q:∀ a b,R a b→g a=aa (k b)):∀ {l:List d} {m:List j},CW R l m→aZ g l=aa (m.map k)
 | [],[],_=>rfl| _::_,_::_,.cons h t=>by simp only [aZ,q _ _ h,pT q t,ano]
theorem lS:∀ {l:List (List aI)},(l.map fun fs=>[sl .fs (aJ fs)]).flatten=l.map fun fs=>sl .fs (aJ fs)
 | []=>rfl| x::l=>by simp [lS (l:=l)]
theorem TL.ex(h:TL J ct ts)(n:Nat):∃ g,eL (n+2) J ct=aa (sl g (aA (ts.map fun fs=>⟨.fs,fs⟩))):=by
 rcases h with⟨rfl,rfl⟩ | ⟨h,b,m,cs,rfl,hb,j,q⟩
 ·exact⟨.nil,rfl⟩
 ·refine⟨.fs,?_⟩;have hl:=jB j;have l:=pT (g:=eL (n+1) J) (k:=fun fs=>sl .fs (aJ fs)) (fun c fs hi=>hi.ex n) j;simp only [jz,hb];rw [bf ⟨trivial,trivial,by omega⟩,aod,List.take_of_length_le (by omega),l];have d:¬ (aA (ts.map fun fs=>(⟨.fs,fs⟩:cu))).isEmpty=ae:=by simpa [aA]using h
  have e:(aA (ts.map fun fs=>(⟨.fs,fs⟩:cu))).flatten=ts.map fun fs=>sl .fs (aJ fs):=by
   simp only [aA,List.map_map];exact lS
  have el:(aA (ts.map fun fs=>(⟨.fs,fs⟩:cu))).length=ts.length:=by simp
  have es:sl .fs (aA (ts.map fun fs=>(⟨.fs,fs⟩:cu)))=.fs (ts.map fun fs=>sl .fs (aJ fs)) ts.length:=by
   rw [←e,←el];unfold sl;rw [aT d]
  rw [es];rfl
end
structure SI(J:an)(ct:C)(ts:List (List aI)):Prop where
 res:J[0]?=aa (.box [.f .aC] 0)
 out:J[1]?=aa (.box [ct] 0)
 tl:TL J ct ts
theorem SI.push{J:an}{ct:C}{ts:List (List aI)}(h:SI J ct ts)(L:an):SI (J++L) ct ts:=
 ⟨by rw [AT (aj h.res)];exact h.res,by rw [AT (aj h.out)];exact h.out,h.tl.push L⟩
theorem DN{R:C→C→Prop}{l:List C}{a:C}(h:l.Pairwise R)(d:∀ x ∈ l,R x a):(l++[a]).Pairwise R:=by
 rw [an9];exact⟨h,an1 _ _,fun x g y b=>by simp at b;subst b;exact d x g⟩
theorem SI.new{J:an}{ct:C}{ts:List (List aI)}(h:SI J ct ts)(hl:ts.length≤10)(q:aI) :
  ∃ A H',bF (J++[.box (q.row.map .f) 0]++[.box [.sl J.length 0 1 1 0 4] 0]) 1 24 (.c ct) (.c (.sl (J.length+1) 0 1 1 0 1))=aa (.c A,H')∧cZ H' (.ptr 1 0 0) [A]=aa (H'.set 1 (.box [A] 0))∧SI (H'.set 1 (.box [A] 0)) A (ts++[[q]]):=by
 obtain⟨O,s⟩:=aM (J++[.box (q.row.map .f) 0]:an);obtain⟨l,j⟩:=aM (O++[.box [.sl J.length 0 1 1 0 4] 0]:an);rw [←s,←j];have l1:O.length=J.length+1:=by rw [s];simp
 have l2:l.length=J.length+2:=by rw [j];simp [l1]
 have u:SI l ct ts:=by rw [j,s];exact(h.push _).push _
 have I:l[J.length]?=aa (.box (q.row.map .f) 0):=by rw [j,AT (by omega),s];simp
 have bx:l[J.length+1]?=aa (.box [.sl J.length 0 1 1 0 4] 0):=by rw [j,←l1];simp
 have v:de l 1 (.c (.sl (J.length+1) 0 1 1 0 1))=aa (1,[.sl J.length 0 1 1 0 4]):=by simp [de,bu,cV,bx]
 have g:cR (ts.length+1) 24=ae:=dH (by omega) (by decide);have h0:=aj h.res;have h1:=aj h.out;rcases u.tl with⟨U,W⟩ | ⟨x,b,E,cs,rfl,hb,Q,X⟩
 ·subst U W;have g:cR 1 24=ae:=dH (by decide) (by decide);refine⟨.sl l.length 0 1 0 0 1,l++[.cS 1 [.sl J.length 0 1 1 0 4] 0 0 .loc],?_,?_,?_,?_,?_⟩
  ·simp [bF,v,g]
  ·have:(l++[.cS 1 [.sl J.length 0 1 1 0 4] 0 0 .loc])[1]?=aa (.box [.f .aC] 0):=by rw [AT (by omega)];exact u.out
   simp [cZ,this,over]
  ·rw [sh (by decide),AT (by omega)];exact u.res
  ·rw [BY (by simp;omega)]
  ·refine .inr ⟨by simp,l.length,0,[.sl J.length 0 1 1 0 4],rfl,?_,.cons (.inl ⟨q,J.length,rfl,rfl,?_⟩) .nil,an1 _ _⟩
   ·rw [sh (by omega)];simp
   ·rw [sh (by omega),AT (by omega)];exact I
 ·have M:=jB Q;have b1:b≠1:=by rintro rfl;rw [u.out]at hb;cases hb
  have b0:b≠0:=by rintro rfl;rw [u.res]at hb;cases hb
  have bl:=aj hb;obtain⟨H',d⟩:=aM (l.set b (.cS 1 (cs++[.sl J.length 0 1 1 0 4]) 0 (E+1) .loc):an);have L:H'[1]?=aa (.box [.sl b 0 ts.length 0 E 1] 0):=by rw [d,sh b1];exact u.out
  have lH:H'.length=l.length:=by rw [d];simp
  refine⟨.sl b 0 (ts.length+1) 0 (E+1) 1,H',?_,?_,?_,?_,?_⟩
  ·simp [bF,v,g,hb,M,d]
  ·simp [cZ,L,over]
  ·rw [sh (by decide),d,sh b0];exact u.res
  ·rw [BY (by omega)]
  ·refine .inr ⟨by simp,b,E+1,cs++[.sl J.length 0 1 1 0 4],by simp,?_,kQ (iA Q fun c fs hc hi=>?_) (.inl ⟨q,J.length,rfl,rfl,?_⟩),DN X fun c hc=>?_⟩
   ·rw [sh (Ne.symm b1),d,BY bl]
   ·obtain⟨m,B,lm,S⟩:=hi.bX;refine hi.ba fun i y hy H=>?_;rw [B]at H;cases H;have m1:1≠m:=by
     rintro rfl;rcases hi with⟨p,m,rfl,rfl,z⟩ | ⟨x,⟨e,_⟩ | ⟨_,m,K,rfl,z⟩⟩
     ·cases B;rw [u.out]at z;simp [aI.row]at z
     ·exact x (by simpa [aJ]using e)
     ·cases B;unfold RB at z;rw [u.out]at z;cases z
    have Y:b≠m:=by rintro rfl;exact S _ _ _ _ hb
    rw [sh m1,d,sh Y];exact hy
   ·rw [sh (by omega),d,sh (by rintro rfl;rw [I]at hb;cases hb)];exact I
   ·have h3:CW (gR J) cs ts:=by
     rcases h.tl with⟨e,_⟩ | ⟨_,Z,K,cs',e,F,N,_⟩
     ·exact absurd e x
     ·cases e;have:l[b]?=aa (.cS 1 cs' 0 E .loc):=by rw [j,s,anV,AT (aj F)];exact F
      rw [hb]at this;cases this;exact N
    obtain⟨fs,hi⟩:=mQ h3 c hc;obtain⟨m,B,lm,S⟩:=hi.bX;rw [B];intro e;cases e;omega
theorem SI.more{J:an}{ct:C}{ts:List (List aI)}{fs:List aI}(h:SI J ct (ts++[fs]))(hl:fs.length≤10)(q:aI) :
  ∃ b l c,bC J 1 ab (.c ct) (vi ts.length)=aa (.c (.ptr b ts.length l))∧aU J ab (.c (.ptr b ts.length l))=aa (.c c)∧bu J c=aa fs.length ∧
   ∃ B H',bF (J++[.box (q.row.map .f) 0]) 4 64 (.c c) (.c (.sl J.length 0 1 1 0 4))=aa (.c B,H')∧bC H' 1 ab (.c ct) (vi ts.length)=aa (.c (.ptr b ts.length l))∧H'[1]?=aa (.box [ct] 0) ∧
    ∃ Y,cZ H' (.ptr b ts.length l) [B]=aa Y∧SI Y ct (ts++[fs++[q]]):=by
 rcases h.tl with⟨e,_⟩ | ⟨_,b,l,cs,rfl,hb,hf,Z⟩
 ·simp at e
 obtain⟨cs',c,rfl,z,hi⟩:=mR hf;have F:=jB z;obtain⟨E,d⟩:=aM (J++[.box (q.row.map .f) 0]:an);have l1:E.length=J.length+1:=by rw [d];simp
 have k1:SI E (.sl b 0 (ts++[fs]).length 0 l 1) (ts++[fs]):=by rw [d];exact h.push _
 have bq:E[J.length]?=aa (.box (q.row.map .f) 0):=by rw [d];simp
 have Q:gR E c fs:=by rw [d];exact hi.push _
 obtain⟨m,L,lm,om⟩:=hi.bX;obtain⟨B,H',x,H,hK,O⟩:=Q.app hl q bq;have up:∀ i y,J[i]?=aa y→E[i]?=aa y:=fun i y hy=>by rw [d,AT (aj hy)];exact hy
 have v:∀ i y,J[i]?=aa y→i≠m→H'[i]?=aa y:=fun i y hy A=>hK.2 i y (up i y hy) (by rw [L];intro e;cases e;exact A rfl);have mb:b≠m:=by rintro rfl;exact om _ _ _ _ hb
 have s:=v _ _ hb mb;have I:m≠0∧m≠1:=by
  rcases hi with⟨p,U,rfl,rfl,j⟩ | ⟨A,⟨e,_⟩ | ⟨_,U,a7,rfl,j⟩⟩
  ·cases L;exact⟨by rintro rfl;rw [h.res]at j;simp [aI.row]at j,by rintro rfl;rw [h.out]at j;simp [aI.row]at j⟩
  ·exact absurd (by simpa [aJ]using e) A
  ·cases L;unfold RB at j;exact⟨(by rintro rfl;rw [h.res]at j;cases j),(by rintro rfl;rw [h.out]at j;cases j)⟩
 have r0:=v _ _ h.res (Ne.symm I.1);have r1:=v _ _ h.out (Ne.symm I.2);have b0:b≠0:=by rintro rfl;rw [h.res]at hb;cases hb
 have b1:b≠1:=by rintro rfl;rw [h.out]at hb;cases hb
 obtain⟨U,N,a8,X⟩:=H.bX;have W:b≠U:=by rintro rfl;exact X _ _ _ _ s
 rw [an9]at Z;obtain⟨p1,-,p3⟩:=Z;refine⟨b,l,c,?_,?_,hi.len,B,H',by rw [d]at x;exact x,?_,r1,H'.set b (.cS 1 (cs'++[B]) 0 l .loc),?_,?_,?_,?_⟩
 ·simp [bC,gA,hb];omega
 ·simp [aU,aH,hb,←F,aW]
 ·simp [bC,gA,s];omega
 ·simp [cZ,s,over,←F]
 ·rw [sh b0];exact r0
 ·rw [sh b1];simpa using r1
 ·refine .inr ⟨by simp,b,l,cs'++[B],by simp,BY (aj s),kQ (iA z fun a f M u=>?_) (H.ba fun i y hy g=>?_),DN p1 fun a M=>?_⟩
  ·obtain⟨k,K,lk,ok⟩:=u.bX;refine u.ba fun i y hy g=>?_;rw [K]at g;cases g;have S:k≠m:=by
    have:=p3 a M c (by simp);rw [K,L]at this;exact fun e=>this (by rw [e])
   rw [sh (by rintro rfl;exact ok _ _ _ _ hb)];exact v _ _ hy S
  ·rw [N]at g;cases g;rw [sh W];exact hy
  ·rcases O with e | e
   ·rw [e];exact p3 a M c (by simp)
   ·obtain⟨f,u⟩:=mQ z a M;obtain⟨k,K,lk,ok⟩:=u.bX;rw [e,K];intro e2;cases e2;omega
abbrev Xp:=Tg × List Nat
def ae9(b:Xp):Prop:=b.2.length≤9223372036854775807∧∀ n ∈ b.2,n<256
def dD(l:List Xp):List (List FC):=l.map fun b=>[sl b.1 (dL b.2)]
@[simp] theorem Bt (l:List Xp):(dD l).length=l.length:=by simp [dD]
theorem rv(l:List Xp):bP 1 (dD l):=bP.map fun _=>rfl
theorem akj{j:Nat}{l:List Xp}(b:j<l.length){H:an}:aU H ab (.c (.f (.fp (dD l).flatten j)))=aa (.c (.f (sl l[j].1 (dL l[j].2)))):=by
 have:=gG (H:=H) (rows:=dD l) (j:=j) (sz:=1) (row:=[sl l[j].1 (dL l[j].2)]) (x:=sl l[j].1 (dL l[j].2)) (rv l) (by simp [dD,b]) rfl;simpa using this
theorem agn{j:Nat}{l:List Xp}{g:Tg}(b:j<l.length){H:an}:bC H 1 ab (.c (.f (sl g (dD l)))) (vi j)=aa (.c (.f (.fp (dD l).flatten j))):=by
 have:=bG (H:=H) (g:=g) (rows:=dD l) (sz:=1) (k:=.i64) (i:=(j:Int)) (by omega) (by simp;omega);simpa using this
def mc(ts:List (List aI)):Prop:=ts.length≤3∧∀ fs ∈ ts,fs≠[]∧fs.length≤3∧∀ p ∈ fs,p.eF
theorem mc.new{ts:List (List aI)}(h:mc ts)(hl:ts.length<3){p:aI}(g:p.eF):mc (ts++[[p]]):=by
 refine⟨by simp;omega,fun fs b=>?_⟩;rcases anm.1 b with b | b
 ·exact h.2 fs b
 ·simp at b;subst b;exact⟨by simp,by simp,fun q d=>by simp at d;subst d;exact g⟩
theorem mc.more{ts:List (List aI)}{fs:List aI}(h:mc (ts++[fs]))(hl:fs.length<3){p:aI}(g:p.eF):mc (ts++[fs++[p]]):=by
 refine⟨by have:=h.1;simpa using this,fun d hg=>?_⟩;rcases anm.1 hg with hg | hg
 ·exact h.2 d (anO _ hg)
 ·simp at hg;subst hg;have h2:=(h.2 fs (by simp)).2.2;refine⟨by simp,by simp;omega,fun q b=>?_⟩;rcases anm.1 b with b | b
  ·exact h2 q b
  ·simp at b;subst b;exact g
theorem mc.mix{ts:List (List aI)}(h:mc ts):iD (ts.map fun fs=>⟨.fs,fs⟩)=ae:=by
 have h1:=h.1;simp only [iD,If,decide_eq_true_eq,anx,anq];refine⟨by omega,fun t j=>?_⟩;obtain⟨fs,d,rfl⟩:=anv.1 j;obtain⟨a,b,c⟩:=h.2 fs d;have:=anU.2 a;simp only [iS,If,decide_eq_true_eq,anx];exact⟨⟨by omega,by omega⟩,fun p g=>(c p g).1⟩
theorem uf:∀ {l:List aI},(∀ p ∈ l,p.eF)→1≤eA l∧eA l≤12 ^ l.length
 | [],_=>by simp [eA]
 | p::l,h=>by
  obtain⟨b,-,d⟩:=h p anr;have g:=(aY b).2.2.1;obtain⟨j,m⟩:=uf fun q u=>h q (anp _ u);simp only [eA,an2];have v:=aoG g j (by decide) (by omega);have s:=aoG d m (by omega) (by decide);rw [Int.pow_succ,aoh];refine⟨by rw [aoh];omega,by rw [aoh];rw [aoh (12 ^ l.length)];exact s⟩
theorem BD{fs:List aI}(d:fs≠[])(g:fs.length≤5)(h:∀ p ∈ fs,p.eF):lO fs:=by
 have u:=anU.2 d;refine⟨by omega,by omega,fun p b=>⟨(h p b).1,by have:=(h p b).2.2;omega⟩,?_,?_⟩
 ·have j:=(uf h).2;have q:(12:Int) ^ fs.length≤12 ^ 5:=by
   have:fs.length=1∨fs.length=2∨fs.length=3∨fs.length=4∨fs.length=5:=by omega
   rcases this with e | e | e | e | e<;>rw [e]<;>decide
  have s:(12:Int) ^ 5=248832:=by decide
  omega
 ·have:=Cx (l:=fs) (m:=8) (by decide) fun p b=>(h p b).2.1;omega
theorem mc.ok{ts:List (List aI)}(h:mc ts):zK (ts.map fun fs=>⟨.fs,fs⟩):=⟨h.mix,fun t g=>by
 obtain⟨fs,d,rfl⟩:=anv.1 g;obtain⟨a,b,c⟩:=h.2 fs d;exact BD a (show fs.length≤5 by omega) c⟩
def nW(ts:List (List aI)):Nat:=(ts.map List.length).sum
theorem Ac(a:List (List aI))(fs:List aI):nW (a++[fs])=nW a+fs.length:=by simp [nW]
theorem C8:∀ {ts:List (List aI)},(∀ fs ∈ ts,fs≠[])→ts.length≤nW ts
 | [],_=>Nat.zero_le _
 | f::ts,h=>by
  have b:=C8 fun g d=>h g (anp _ d);have j:=anU.2 (h f anr);simp only [nW,ano,List.sum_cons,an2]at b ⊢;omega
theorem Ad:∀ {ts:List (List aI)} {fs:List aI},fs ∈ ts→fs.length≤nW ts
 | f::ts,g,h=>by
  simp only [nW,ano,List.sum_cons];rcases anK.1 h with rfl | h
  ·omega
  ·have:=Ad h;simp only [nW]at this;omega
theorem V5(g:Tg){l:List Xp}(hl:l.length≤9223372036854775807)(hb:∀ b ∈ l,ae9 b) :
  ∃ tg ts,(mc ts∧nW ts≤l.length)∧bW tab 22 [.c (.f (sl g (dD l)))]=Eq (.a [.f (sl tg (aA (ts.map fun fs=>⟨.fs,fs⟩)))]):=by
 obtain⟨rr,⟨tg,ts,hm,rfl⟩,hp⟩:∃ rr,(∃ tg ts,(mc ts∧nW ts≤l.length)∧rr=.a [.f (sl tg (aA (ts.map fun fs=>⟨.fs,fs⟩)))])∧bW tab 22 [.c (.f (sl g (dD l)))] rr:=by
  refine eV rfl rfl fun Q hQ=>?_;obtain⟨N,hN⟩:=aM (min l.length 9);apply ai;simp;apply ai;simp;refine au (ai ?_);simp;refine jC N (fun j t J=>∃ ct ts,(mc ts∧nW ts≤j)∧SI J ct ts∧t.g 0=.c (.f (sl g (dD l)))∧t.g 2=.c (.ptr 0 0 0)∧t.g 3=.c (.ptr 1 0 0)) (by omega) (by decide) (by simp)
   ⟨.f .aC,[],⟨⟨by simp,by simp⟩,by simp [nW]⟩,⟨rfl,rfl,.inl ⟨rfl,rfl⟩⟩,by simp,by simp,by simp⟩ ?_ ?_ ?_
  ·rintro j t J L hj ⟨ct,ts,M,k,m,v,d⟩ z hn;by_cases c1:(j:Int)<l.length
   ·simp [z,m,c1];exact hn _ ⟨ct,ts,M,k,by simp [m],by simp [v],by simp [d]⟩ (by simp [z]) (by simp;omega)
   ·simp [z,m,c1];exact hn _ ⟨ct,ts,M,k,by simp [m],by simp [v],by simp [d]⟩ (by simp [z]) (by simp;omega)
  ·rintro j t J hj ⟨ct,ts,⟨M,c9⟩,k,m,v,d⟩ z nx;have Z:j<l.length:=by omega
   obtain⟨bl,bb⟩:=hb _ (IS Z);obtain⟨p,d9,i4⟩:=uX l[j].1 bb bl;have B:bW tab 60 [.c (.f (sl l[j].1 (dL l[j].2))),vi 0]=Eq (vi (uN l[j].2 0:Nat)):=vN l[j].1 l[j].2 bb bl 0 (by decide);obtain⟨a,f_⟩:=aM ((uN l[j].2 0:Int));rw [←f_]at B;have ii:=fun H=>agn (g:=g) Z (H:=H);have dd:=fun H=>akj Z (H:=H);have f7:=k.tl.len;have a8:aU J ab (.c (.ptr 1 0 0))=aa (.c ct):=by simp [aU,aH,k.out,aW]
   refine ay (ai ?_);simp [d,a8,-az,f7];apply ai;simp [m,z,ii,dd,i4,aI.row,-az];obtain⟨E,F⟩:=aM (J++[.box (p.row.map .f) 0]:an);have k1:SI E ct ts:=by rw [F];exact k.push _
   have l1:E.length=J.length+1:=by rw [F];simp
   have bx:E[J.length]?=aa (.box (p.row.map .f) 0):=by rw [F];simp
   have a_:aU E (aa 4) (.c (.ptr J.length 0 0))=aa (.a [.f (sl p.hg (ints p.head)),.f (fi p.fr),.f (fi p.aL),.f (sl p.cg (ints p.bg))]):=by simp [aU,aH,bx,aW,aI.row]
   have x:aU E ab (.c (.ptr 1 0 0))=aa (.c ct):=by simp [aU,aH,k1.out,aW]
   simp only [aI.row,ano,anC]at F;rw [←F];have e_:∀ t:T,t.g 0=.c (.f (sl g (dD l)))→t.g 2=.c (.ptr 0 0 0)→t.g 3=.c (.ptr 1 0 0)→t.g 4=vi j→t.g 5=vi ts.length→t.g 6=.c (.ptr J.length 0 0) →
     WP tab 22 ab [.code qE,.inBlock 1,.code (tI 4 16 17),.inLoop oU,.inBlock 0,.code ny] ⟨t,[],E⟩ Q:=by
    intro t m v d g4 W g6;apply ai;by_cases h3:ts.length<3
    ·simp [W,show(ts.length:Int)<3 by omega];refine av (by simp) (aq (.inl rfl) ?_);obtain⟨c',H',s,a7,hk⟩:=k1.new (by omega) p;simp only [aI.row,ano,anC]at s;have Y:bF (E++[.box [.f (sl p.hg (ints p.head)),.f (fi p.fr),.f (fi p.aL),.f (sl p.cg (ints p.bg))] 0,.box [.sl E.length 0 1 1 0 4] 0]) 1 24 (.c ct) (.c (.sl (E.length+1) 0 1 1 0 1))=aa (.c c',H'):=by
      rw [←s,anV];rfl
     simp [d,g6,x,a_,-az,Y,a7,-a6];refine ax (nx _ _ ⟨c',_,⟨M.new h3 d9,by rw [Ac];simp;omega⟩,hk,by simp [m],by simp [v],by simp [d]⟩ (by simp [g4]))
    ·simp [W,show¬ (ts.length:Int)<3 by omega];refine aX (by simp) ?_;refine ax (nx _ _ ⟨ct,ts,⟨M,by omega⟩,k1,by simp [m],by simp [v],by simp [d]⟩ (by simp [g4]))
   have w0:IntKind.i64.wrap 0=0:=by decide
   apply ai;rcases List.eq_nil_or_concat ts with rfl | ⟨q,fs,rfl⟩
   ·simp;refine aF (by simp) ?_;exact e_ _ (by simp [m]) (by simp [v]) (by simp [d]) (by simp [z]) (by simp) (by simp)
   rw [List.concat_eq_append]at *;have f8:=M.1;simp at f8;have h3:=(M.2 fs (by simp)).2.1;obtain⟨b,ep,c,O,A,u,c',H',s,d_,c_,H2,a7,k2⟩:=k1.more (by omega) p;simp only [aI.row,ano,anC]at s;have U:IntKind.i64.wrap (q.length:Int)=q.length:=aP;have i6:aU H' ab (.c (.ptr 1 0 0))=aa (.c ct):=by simp [aU,aH,c_,aW]
   have b_:(V.c ct).beq (.c ct)=ae:=by
    rcases k1.tl with⟨e,_⟩ | ⟨_,b,ep,cs,rfl,_⟩
    ·simp at e
    ·simp [V.beq,C.beq]
   have S:∀ t:T,fs.length<3→t.g 0=.c (.f (sl g (dD l)))→t.g 2=.c (.ptr 0 0 0)→t.g 3=.c (.ptr 1 0 0)→t.g 4=vi j→t.g 5=vi ((q.length:Int)+1)→t.g 6=.c (.ptr J.length 0 0) →
     WP tab 22 ab [.code vA,.inBlock 1,.code (tI 4 16 17),.inLoop oU,.inBlock 0,.code ny] ⟨t,[],E⟩ Q:=by
    intro t h3 m v d g4 W g6;refine ew (.inl rfl) ?_ ?_
    case refine_2=>
     intro c h_;have g_:c=(1,14):=by simpa using h_
     subst g_;refine⟨by decide,_,rfl,.inl ⟨by decide,?_⟩⟩;simp [d,W,g6,x,a_,O,A,U,s,d_,i6,fE,-az];exact b_
    simp [d,W,g6,x,a_,O,A,U,s,d_,a7,-az,-a6];refine ax (nx _ _ ⟨ct,_,⟨M.more h3 d9,by rw [Ac]at c9 ⊢;simp;omega⟩,k2,by simp [m],by simp [v],by simp [d]⟩ (by simp [g4]))
   have K:∀ t:T,t.g 0=.c (.f (sl g (dD l)))→t.g 2=.c (.ptr 0 0 0)→t.g 3=.c (.ptr 1 0 0)→t.g 4=vi j→t.g 5=vi ((q.length:Int)+1)→t.g 6=.c (.ptr J.length 0 0) →
     WP tab 22 ab [.code qE,.inBlock 1,.code (tI 4 16 17),.inLoop oU,.inBlock 0,.code ny] ⟨t,[],E⟩ Q:=fun t m v d g4 W g6=>e_ t m v d g4 (by rw [W];simp) g6
   by_cases I:a<128
   ·by_cases X:fs.length<3
    ·simp [m,d,z,ii,dd,B,I,x,-az,U,O,A,u,show(fs.length:Int)<3 by omega,show(0:Int)<(q.length:Int)+1 by omega];refine av (by simp) ?_;exact S _ X (by simp [m]) (by simp [v]) (by simp [d]) (by simp [z]) (by simp) (by simp)
    ·simp [m,d,z,ii,dd,B,I,x,-az,U,O,A,u,show¬ (fs.length:Int)<3 by omega,show(0:Int)<(q.length:Int)+1 by omega];refine aF (by simp) ?_;exact K _ (by simp [m]) (by simp [v]) (by simp [d]) (by simp [z]) (by simp) (by simp)
   ·by_cases h4:(q.length:Int)+1=3
    ·by_cases X:fs.length<3
     ·simp [m,d,z,ii,dd,B,I,x,-az,U,O,A,u,show(fs.length:Int)<3 by omega,show(0:Int)<(q.length:Int)+1 by omega];rw [decide_eq_true h4];simp [d,x,-az,U,O,A,u,show(fs.length:Int)<3 by omega];refine av (by simp) ?_;exact S _ X (by simp [m]) (by simp [v]) (by simp [d]) (by simp [z]) (by simp) (by simp)
     ·simp [m,d,z,ii,dd,B,I,x,-az,U,O,A,u,show¬ (fs.length:Int)<3 by omega,show(0:Int)<(q.length:Int)+1 by omega];rw [decide_eq_true h4];simp [d,x,-az,U,O,A,u,show¬ (fs.length:Int)<3 by omega];refine aF (by simp) ?_;exact K _ (by simp [m]) (by simp [v]) (by simp [d]) (by simp [z]) (by simp) (by simp)
    ·simp [m,d,z,ii,dd,B,I,h4,show(0:Int)<(q.length:Int)+1 by omega];refine aF (by simp) ?_;exact K _ (by simp [m]) (by simp [v]) (by simp [d]) (by simp [z]) (by simp) (by simp)
  rintro t J ⟨ct,ts,⟨M,c9⟩,k,m,v,d⟩ z;have h0:=aj k.res;have a8:aU J (aa 1) (.c (.ptr 1 0 0))=aa (.a [ct]):=by simp [aU,aH,k.out,aW]
  have i7:cZ J (.ptr 0 0 0) [ct]=aa (J.set 0 (.box [ct] 0)):=by simp [cZ,k.res,over]
  apply ai;simp [v,d,a8,i7,-az,-a6];have kl:TL (J.set 0 (.box [ct] 0)) ct ts:=k.tl.ba (fun i y hy hi _=>by rw [sh (Ne.symm hi)];exact hy) ⟨_,_,k.res⟩ ⟨_,_,k.out⟩;obtain⟨tg,i3⟩:=kl.ex 62;refine aE (hQ _ _ _ ⟨tg,_,⟨M,by omega⟩,rfl⟩ ⟨rfl,.a [ct],?_,?_⟩)
  ·simp [Km.results,cr,aZ,v,h0,aW]
  ·simp [kM,dE,aZ,deep,i3]
 exact⟨tg,ts,hm,hp.eq⟩
def iT(l:List Nat):List (List FC):=l.map fun n:Nat=>[.int .u16 (n:Int)]
@[simp] theorem aiA (l:List Nat):(iT l).length=l.length:=by simp [iT]
theorem CA(l:List Nat):bP 1 (iT l):=bP.map fun _=>rfl
theorem VU{j:Nat}{l:List Nat}(b:j<l.length){H:an}:aU H ab (.c (.f (.fp (iT l).flatten j)))=aa (.c (.f (.int .u16 l[j]))):=by
 have:=gG (H:=H) (rows:=iT l) (j:=j) (sz:=1) (row:=[.int .u16 l[j]]) (x:=.int .u16 l[j]) (CA l) (by simp [iT,b]) rfl;simpa using this
theorem Kr{j:Nat}{l:List Nat}{g:Tg}(b:j<l.length){H:an}:bC H 1 ab (.c (.f (sl g (iT l)))) (vi j)=aa (.c (.f (.fp (iT l).flatten j))):=by
 have:=bG (H:=H) (g:=g) (rows:=iT l) (sz:=1) (k:=.i64) (i:=(j:Int)) (by omega) (by simp;omega);simpa using this
theorem ah3{H:an}{sz:Nat}{g:Tg}{rows:List (List FC)}{k m:Nat}(s:bP sz rows)(I:k≤m)(J:m≤rows.length)(F:rows≠[]) :
  bM H sz (.c (.f (sl g rows))) (aa (vi k)) (aa (vi m)) ab=aa (.c (.f (sl .fs ((rows.take m).drop k)))):=by
 cases rows with
 | nil=>exact absurd rfl F
 | cons x r=>
  have B:yR (vi k) m=aa k:=by
   have:(0:Int)≤(k:Int)∧(k:Int)≤(m:Int):=⟨by omega,by omega⟩
   show(if(0:Int)≤(k:Int)∧(k:Int)≤(m:Int)then aa (k:Int).toNat else ab)=aa k;rw [bf this,anJ]
  have b:yR (vi m) (x::r).length=aa m:=by
   have:(0:Int)≤(m:Int)∧(m:Int)≤((x::r).length:Int):=⟨by omega,by omega⟩
   show(if(0:Int)≤(m:Int)∧(m:Int)≤((x::r).length:Int)then aa (m:Int).toNat else ab)=aa m;rw [bf this,anJ]
  have l:bH (x::r).length (x::r).length (aa (vi k)) (aa (vi m)) ab=aa (k,m,(x::r).length):=by
   simp only [an2]at b;simp [bH,B,b]
  show bM H sz (.c (.f (.fs (x::r).flatten (x::r).length))) _ _ _=_;simp only [bM,l];have v:bP sz ((x::r).take m):=fun y j=>s y (aoi j);have E:bP sz (((x::r).take m).drop k):=fun y j=>v y (anY j);have d:(((x::r).take m).drop k).length=m-k:=by rw [anE,anW];omega
  have z:((x::r).flatten.drop (k*sz)).take ((m-k)*sz)=(((x::r).take m).drop k).flatten:=by
   rw [nE k s];have e:(((x::r).take m).drop k)=((x::r).drop k).take (m-k):=by rw [List.drop_take]
   rw [e];have u:bP sz ((x::r).drop k):=fun y j=>s y (anY j);rw [nQ (m-k) u]
  rw [z];have A:sl .fs (((x::r).take m).drop k)=.fs (((x::r).take m).drop k).flatten (m-k):=by
   cases hd:((x::r).take m).drop k with
   | nil=>rw [hd]at d;simp at d;rw [←d];rfl| cons y q=>rw [hd]at d;rw [←d];rfl
  rw [A];simp
structure oZ where
 dg:Tg
 ds:List Xp
 mg:Tg
 ms:List Nat
 len:Nat
 eg:Tg
 ex:List Nat
def oZ.row(x:oZ):List FC:=[sl x.dg (dD x.ds),sl x.mg (dL x.ms),u8 x.len,sl x.eg (iT x.ex)]
structure oZ.OK(x:oZ):Prop where
 dl:x.ds.length≤9223372036854775807
 d:∀ b ∈ x.ds,ae9 b
 ml:x.ms.length≤9223372036854775807
 m:∀ n ∈ x.ms,n<256
 l:x.len<256
 el:x.ex.length≤9223372036854775807
 e:∀ n ∈ x.ex,n<65536
def C7(d:Tg)(ts:List (List aI))(b:Int):cm:=⟨d,ts.map fun fs=>⟨.fs,fs⟩,b⟩
structure rT(cs:List cm)(j:Nat)(mi:Int):Prop where
 n:cs.length≤j
 lo:-1500≤mi
 ok:∀ c ∈ cs,(∃ tg ts,(mc ts∧nW ts≤2)∧c=C7 tg ts c.min)∧-1500<c.min∧c.min≤4320∧c.min≤mi
 up:cs.Pairwise fun a b=>a.min<b.min
theorem rT.skip{cs:List cm}{j:Nat}{mi b:Int}(h:rT cs j mi)(d:mi≤b):rT cs (j+1) b:=
 ⟨by have:=h.n;omega,by have:=h.lo;omega,fun c hc=>by have:=h.ok c hc;exact⟨this.1,this.2.1,this.2.2.1,by omega⟩,h.up⟩
theorem rT.more{cs:List cm}{j:Nat}{mi d:Int}(h:rT cs j mi)(m:mi<d)(h2:d≤4320){tg:Tg}{ts:List (List aI)}(l:mc ts∧nW ts≤2):rT (cs++[C7 tg ts d]) (j+1) d:=by
 refine⟨by have:=h.n;simp;omega,by have:=h.lo;omega,fun c hc=>?_,?_⟩
 ·rcases anm.1 hc with hc | hc
  ·have:=h.ok c hc;exact⟨this.1,this.2.1,this.2.2.1,by omega⟩
  ·rw [OF.1 hc];have:=h.lo;exact⟨⟨tg,ts,l,rfl⟩,by show -1500<d;omega,h2,aoP _⟩
 ·rw [an9];refine⟨h.up,an1 _ _,fun a g b hb=>?_⟩;rw [OF.1 hb];have:=(h.ok a g).2.2.2;show a.min<d;omega
theorem rT.abH{cs:List cm}{j:Nat}{mi:Int}(h:rT cs j mi):dM ab cs=ae∧∀ c ∈ cs,zK c.ts:=by
 have g:∀ c ∈ cs,zK c.ts:=fun c hc=>by
  obtain⟨⟨tg,ts,v,e⟩,-⟩:=h.ok c hc;rw [e];exact v.1.ok
 refine⟨?_,g⟩;have key:∀(l:List cm) (o:Option Int),l.Pairwise (fun a b=>a.min<b.min)→(∀ c ∈ l,iD c.ts=ae∧-4320≤c.min∧c.min≤4320)→(∀ m,o=aa m→∀ c ∈ l,m<c.min)→dM o l=ae:=by
  intro l;induction l with
  | nil=>intros;rfl
  | cons c l y=>
   intro o q hc ho;rw [aoQ]at q;obtain⟨h1,h2,h3⟩:=hc c anr;have u:(o.all fun m=>decide (m<c.min))=ae:=by
    cases o with
    | none=>rfl| some m=>simpa using ho m rfl c anr
   have x:dn c.min (-4320) 4320=ae:=by simp [dn,h2,h3]
   simp only [dM,h1,x,u,aol];exact y _ q.2 (fun c d=>hc c (anp _ d)) fun m g s d=>by cases g;exact q.1 s d
 exact key cs ab h.up (fun c hc=>⟨(g c hc).v,by have:=h.ok c hc;omega,by have:=h.ok c hc;omega⟩) (by simp)
structure ExP(xs:List aB)(j:Nat):Prop where
 n:xs.length≤j
 up:xs.Pairwise aB.lt
 ok:∀ x ∈ xs,0≤x.day∧x.day≤7∧-2880≤x.fr∧x.fr≤90000∧x.fr<x.to∧x.to≤x.fr+2000
theorem ExP.extra{xs:List aB}{j:Nat}(h:ExP xs j):fS ab xs=ae:=by
 have key:∀(l:List aB) (o:Option aB),l.Pairwise aB.lt→(∀ x ∈ l,0≤x.day∧x.day≤7∧-2880≤x.fr∧x.fr≤90000∧x.fr<x.to∧x.to≤x.fr+2000)→(∀ m,o=aa m→∀ x ∈ l,m.lt x)→fS o l=ae:=by
  intro l;induction l with
  | nil=>intros;rfl
  | cons c l v=>
   intro o d hc ho;rw [aoQ]at d;obtain⟨h1,h2,h3,h4,h5,h6⟩:=hc c anr;have s:(o.all fun m=>decide (eM m c<0))=ae:=by
    cases o with
    | none=>rfl
    | some m=>
     have:=(gJ _ _).2 (ho m rfl c anr);simp [this]
   have u:mS c=ae:=by simp [mS,dn];omega
   simp only [fS,u,s,aol];exact v _ d.2 (fun c b=>hc c (anp _ b)) fun m q g b=>by cases q;exact d.1 g b
 exact key xs ab h.up h.ok (by simp)
structure pc(s:aN):Prop where
 ok:jx s
 few:∀ c ∈ s.cs,∃ tg ts,(mc ts∧nW ts≤2)∧c=C7 tg ts c.min
 lo:∀ c ∈ s.cs,-1500<c.min∧c.min≤4320
 ex:∀ x ∈ s.xs,0≤x.day∧x.day≤7∧-2880≤x.fr∧x.fr≤90000∧x.fr<x.to∧x.to≤x.fr+2000
theorem Cz{g u:Tg}{cs:List cm}{s len:Int}{xs:List aB}(b:rT cs 3 s)(d:ExP xs 4)(v:1≤len)(x:len≤10080):jx ⟨g,cs,len,u,xs⟩:=by
 have j:=b.n;have l:=d.n;obtain⟨m,q⟩:=b.abH;refine⟨?_,j,q,l⟩;unfold fZ;simp only [m,d.extra];simp [dn];omega
theorem Lc{g q:Tg}{cs:List cm}{m len:Int}{xs:List aB}(b:rT cs 3 m)(d:ExP xs 4)(j:1≤len)(l:len≤10080):pc ⟨g,cs,len,q,xs⟩:=
 ⟨Cz b d j l,fun c h=>(b.ok c h).1,fun c h=>⟨(b.ok c h).2.1,(b.ok c h).2.2.1⟩,d.ok⟩
theorem eight(i:Nat)(h:i<8):∃(len:Int) (rest:List C),[C.f (fi 30),C.f (fi 60),C.f (fi 90),C.f (fi 600),C.f (fi 1440),C.f (fi 1500),C.f (fi 3000),C.f (fi 10080)].drop i=C.f (fi len)::rest∧1≤len∧len≤10080:=by
 match i,h with
 | 0,_=>exact⟨_,_,rfl,by omega,by omega⟩
 | 1,_=>exact⟨_,_,rfl,by omega,by omega⟩
 | 2,_=>exact⟨_,_,rfl,by omega,by omega⟩
 | 3,_=>exact⟨_,_,rfl,by omega,by omega⟩
 | 4,_=>exact⟨_,_,rfl,by omega,by omega⟩
 | 5,_=>exact⟨_,_,rfl,by omega,by omega⟩
 | 6,_=>exact⟨_,_,rfl,by omega,by omega⟩
 | 7,_=>exact⟨_,_,rfl,by omega,by omega⟩
structure SM(x:oZ)(len:Int)(J:an)(cc:C)(cs:List cm)(xc:FC):Prop where
 raw:J[0]?=aa (.box [.f (sl x.dg (dD x.ds)),.f (sl x.mg (dL x.ms)),.f (u8 x.len),.f (sl x.eg (iT x.ex))] 0)
 res:J[1]?=aa (.box [.f .aC,.f (fi 0),.f .aC] 0)
 st:J[3]?=aa (.box [cc,.f (fi len),.f xc] 0)
 lr:LR J cc 2 (aQ cs)
theorem SM.push{x:oZ}{len:Int}{J:an}{cc:C}{cs:List cm}{xc:FC}(h:SM x len J cc cs xc)(L:an):SM x len (J++L) cc cs xc:=
 ⟨by rw [AT (aj h.raw)];exact h.raw,by rw [AT (aj h.res)];exact h.res,by rw [AT (aj h.st)];exact h.st,h.lr.push L⟩
section
variable{x:oZ}{len:Int}{J:an}{cc:C}{cs:List cm}{xc:FC}
theorem ak6(h:J[0]?=aa (.box [.f (sl x.dg (dD x.ds)),.f (sl x.mg (dL x.ms)),.f (u8 x.len),.f (sl x.eg (iT x.ex))] 0)):aU J ab (.c (.ptr 0 0 0))=aa (.c (.f (sl x.dg (dD x.ds)))):=by simp [aU,aH,h]
theorem ak7(h:J[0]?=aa (.box [.f (sl x.dg (dD x.ds)),.f (sl x.mg (dL x.ms)),.f (u8 x.len),.f (sl x.eg (iT x.ex))] 0)):aU J ab (.c (.ptr 0 1 0))=aa (.c (.f (sl x.mg (dL x.ms)))):=by simp [aU,aH,h]
theorem amz(h:J[0]?=aa (.box [.f (sl x.dg (dD x.ds)),.f (sl x.mg (dL x.ms)),.f (u8 x.len),.f (sl x.eg (iT x.ex))] 0)):aU J ab (.c (.ptr 0 2 0))=aa (.c (.f (u8 x.len))):=by simp [aU,aH,h]
theorem ak8(h:J[0]?=aa (.box [.f (sl x.dg (dD x.ds)),.f (sl x.mg (dL x.ms)),.f (u8 x.len),.f (sl x.eg (iT x.ex))] 0)):aU J ab (.c (.ptr 0 3 0))=aa (.c (.f (sl x.eg (iT x.ex)))):=by simp [aU,aH,h]
theorem SM.cls(h:SM x len J cc cs xc):aU J ab (.c (.ptr 3 0 0))=aa (.c cc):=by simp [aU,aH,h.st]
theorem SM.ext(h:SM x len J cc cs xc):aU J ab (.c (.ptr 3 2 0))=aa (.c (.f xc)):=by simp [aU,aH,h.st]
theorem SM.all(h:SM x len J cc cs xc):aU J (aa 3) (.c (.ptr 3 0 0))=aa (.a [cc,.f (fi len),.f xc]):=by simp [aU,aH,h.st,aW]
theorem SM.stx(h:SM x len J cc cs xc)(y:FC):cZ J (.ptr 3 2 0) [.f y]=aa (J.set 3 (.box [cc,.f (fi len),.f y] 0))∧SM x len (J.set 3 (.box [cc,.f (fi len),.f y] 0)) cc cs y:=by
 refine⟨by simp [cZ,h.st,over],?_,?_,BY (aj h.st),h.lr.set (h.lr.bA h.st) _⟩
 ·rw [sh (by decide)];exact h.raw
 ·rw [sh (by decide)];exact h.res
theorem tn(cs:List cm)(c:cm):aQ cs++[c.row]=aQ (cs++[c]):=by simp [aQ]
theorem SM.app(h:SM x len J cc cs xc)(hl:cs.length≤100)(c:cm):∃ g d,bF (J++[.box (c.row.map .f) 0]) 2 32 (.c cc) (.c (.sl J.length 0 1 1 0 2))=aa (.c g,d)∧cZ d (.ptr 3 0 0) [g]=aa (d.set 3 (.box [g,.f (fi len),.f xc] 0)) ∧
  SM x len (d.set 3 (.box [g,.f (fi len),.f xc] 0)) g (cs++[c]) xc:=by
 obtain⟨q,j⟩:=aM (J++[.box (c.row.map .f) 0]:an);have h2:SM x len q cc cs xc:=by rw [j];exact h.push _
 have u:q[J.length]?=aa (.box (c.row.map .f) 0):=by rw [j];simp
 obtain⟨g,d,b,l,s,v⟩:=h2.lr.app (dh cs) (by decide) (row:=c.row) rfl (bytes:=32) (dH (by simp;omega) (by decide)) u;rw [tn]at l;have up:∀(i:Nat) (cs:List C) (fl:Nat),q[i]?=aa (.box cs fl)→d[i]?=aa (.box cs fl):=fun i cs fl hy=>s.2 i _ hy (h2.lr.bA hy);have m:=up _ _ _ h2.st;rw [j]at b;refine⟨g,d,b,by simp [cZ,m,over],?_,?_,BY (aj m),l.set (l.bA m) _⟩
 ·rw [sh (by decide)];exact up _ _ _ h2.raw
 ·rw [sh (by decide)];exact up _ _ _ h2.res
end
theorem wC(x:oZ)(hx:x.OK):∃ s:aN,pc s∧bW tab 8 [.a (x.row.map .f)]=Eq (.a (s.row.map .f)):=by
 obtain⟨rr,⟨s,hs,rfl⟩,hp⟩:∃ rr,(∃ s:aN,pc s∧rr=.a (s.row.map .f))∧bW tab 8 [.a (x.row.map .f)] rr:=by
  refine eV rfl rfl fun Q hQ=>?_;have l_:=hx.l;obtain⟨len,rest,c,l1,l2⟩:=eight (x.len % 8) (by omega);have i6:bR .rem (.c (.f (u8 x.len))) (.c (.f (.int .u8 8)))=aa (.c (.f (u8 (x.len % 8)))):=by
   have:((x.len:Int)).tmod 8=((x.len % 8:Nat):Int):=by rw [aoK (by omega)];omega
   simp [bR,kI,V.int,this]
  have a8:∀ H:an,H[2]?=aa (.box [C.f (fi 30),C.f (fi 60),C.f (fi 90),C.f (fi 600),C.f (fi 1440),C.f (fi 1500),C.f (fi 3000),C.f (fi 10080)] 0)→bC H 1 ab (.c (.sl 2 0 8 8 0 1)) (.c (.f (u8 (x.len % 8))))=aa (.c (.ptr 2 (x.len % 8) 0)):=fun H h=>by
   simp [bC,gA,h];omega
  have a_:∀ H:an,H[2]?=aa (.box [C.f (fi 30),C.f (fi 60),C.f (fi 90),C.f (fi 600),C.f (fi 1440),C.f (fi 1500),C.f (fi 3000),C.f (fi 10080)] 0)→aU H ab (.c (.ptr 2 (x.len % 8) 0))=aa (vi len):=fun H h=>by
   simp only [aU,aH,h,Option.bind_some,c];rfl
  apply ai;simp [oZ.row];apply ai;have i4:=fun(H:an) h=>amz (x:=x) (J:=H) h;simp [i4,i6,a8,a_,-az];apply ai;simp;have dl:=hx.dl;have ml:=hx.ml;have el:=hx.el;have S:∀(t:T) (J:an) (cc:C) (cs:List cm) (A:Int),t.g 1=.c (.ptr 0 0 0)→t.g 2=.c (.ptr 1 0 0)→t.g 3=.c (.ptr 3 0 0)→SM x len J cc cs .aC→rT cs 3 A→WP tab 8 ab [.code vE] ⟨t,[],J⟩ Q:=by
   intro t J cc cs A d z v q E;obtain⟨N,hN⟩:=aM (min x.ex.length 4);refine au (ai ?_);simp;refine jC N (fun j t J=>t.g 1=.c (.ptr 0 0 0)∧t.g 2=.c (.ptr 1 0 0)∧t.g 3=.c (.ptr 3 0 0)∧∃ B xs,SM x len J cc cs (sl B (aD xs))∧ExP xs j) (by omega) (by decide) (by simp)
    ⟨by simp [d],by simp [z],by simp [v],.nil,[],q,⟨by simp,by simp,by simp⟩⟩ ?_ ?_ ?_
   ·rintro j t J L hj ⟨d,z,v,B,xs,q,I⟩ u w;have r3:=ak8 q.raw;by_cases Y:(j:Int)<x.ex.length
    ·simp [u,d,r3,-az,Y];exact w _ ⟨by simp [d],by simp [z],by simp [v],B,xs,q,I⟩ (by simp [u]) (by simp;omega)
    ·simp [u,d,r3,-az,Y];exact w _ ⟨by simp [d],by simp [z],by simp [v],B,xs,q,I⟩ (by simp [u]) (by simp;omega)
   ·rintro j t J hj ⟨d,z,v,B,xs,q,I⟩ u nx;have f:j<x.ex.length:=by omega
    have r3:=ak8 q.raw;have rx:=q.ext;have ii:=fun H=>Kr (g:=x.eg) f (H:=H);have dd:=fun H=>VU f (H:=H);obtain⟨n,w⟩:=aM (x.ex[j]);have k_:n<65536:=w▸hx.e _ (IS f);rw [←w]at dd;have q1:bR .rem (.c (.f (.int .u16 (n:Int)))) (.c (.f (.int .u16 5760)))=aa (.c (.f (.int .u16 ((n:Int) % 5760)))):=by
     have:(n:Int).tmod 5760=(n:Int) % 5760:=aoK (by omega);simp [bR,kI,V.int,this]
    have q2:bR .rem (vi n) (vi 7)=aa (vi ((n:Int) % 7)):=fu (by omega) (by decide);have q3:bR .quo (vi n) (vi 5760)=aa (vi ((n:Int) / 5760)):=fH (by omega) (by decide) (by omega);obtain⟨fr,f_⟩:=aM (15*((n:Int) % 5760)-2880);obtain⟨to,i9⟩:=aM (fr+15*(1+(n:Int) / 5760*7));obtain⟨c9,c_,j8,⟨i3,g_⟩,X⟩:=Ks B xs ⟨(n:Int) % 7,fr,to⟩ (by have:=I.n;omega) I.up;simp only [aB.row,ano,anC]at X;obtain⟨j4,Z⟩:=q.stx (sl c9 (aD c_));refine ay (ai ?_);simp [u,d,r3,-az,ii,dd,q1,aP (n:=(n:Int) % 5760),aP (n:=15*((n:Int) % 5760)),←f_,aP (n:=fr)];refine aq (.inl rfl) ?_;simp [u,d,v,r3,rx,-az,ii,dd,aP (n:=(n:Int)),q2,q3,aP (n:=(n:Int) / 5760*7),aP (n:=1+(n:Int) / 5760*7),aP (n:=15*(1+(n:Int) / 5760*7)),←i9,aP (n:=to),X,j4,-a6];refine ax (nx _ _ ⟨by simp [d],by simp [z],by simp [v],c9,c_,Z,?_⟩ (by simp [u]));refine⟨by have:=I.n;omega,i3,fun y hy=>?_⟩;rcases(g_ y).1 hy with rfl | hy
    ·show 0≤(n:Int) % 7∧(n:Int) % 7≤7∧-2880≤fr∧fr≤90000∧fr<to∧to≤fr+2000;omega
    ·exact I.ok y hy
   rintro t J ⟨d,z,v,B,xs,q,I⟩ u;have ra:=q.all;have s1:cZ J (.ptr 1 0 0) [cc,.f (fi len),.f (sl B (aD xs))]=aa (J.set 1 (.box [cc,.f (fi len),.f (sl B (aD xs))] 0)):=by simp [cZ,q.res,over]
   have n1:(J.set 1 (.box [cc,.f (fi len),.f (sl B (aD xs))] 0))[1]?=aa (.box [cc,.f (fi len),.f (sl B (aD xs))] 0):=BY (aj q.res);obtain⟨cg,f8⟩:=q.lr.Xl (dh cs);have e1:=f8 (J.set 1 (.box [cc,.f (fi len),.f (sl B (aD xs))] 0)) 63 fun i y hi he=>by
    rw [sh (by rintro rfl;exact q.lr.bA q.res he)];exact hi
   apply ai;simp [z,v,ra,s1,-az,-a6];refine aE (hQ _ _ _ ⟨⟨cg,cs,len,B,xs⟩,Lc E ⟨by have:=I.n;omega,I.up,I.ok⟩ l1 l2,rfl⟩ ⟨rfl,.a [cc,.f (fi len),.f (sl B (aD xs))],?_,?_⟩)
   ·simp [Km.results,cr,aZ,z,n1,aW]
   ·simp [kM,dE,aZ,deep,e1,aN.row]
  obtain⟨N,hN⟩:=aM (min (min x.ms.length 3) x.ds.length);refine au (ai ?_);simp;refine jC N (fun j t J=>t.g 1=.c (.ptr 0 0 0)∧t.g 2=.c (.ptr 1 0 0)∧t.g 3=.c (.ptr 3 0 0)∧∃ cc cs A,t.g 4=vi A∧SM x len J cc cs .aC∧rT cs j A∧A≤-1500+4000*(j:Int)) (by omega) (by decide) (by simp)
   ⟨by simp,by simp,by simp,.f .aC,[],-1500,by simp,⟨rfl,rfl,rfl,LR.nil _ _⟩,⟨by simp,by omega,by simp,by simp⟩,by omega⟩ ?_ ?_ ?_
  ·rintro j t J L hj ⟨d,z,v,cc,cs,A,M,q,E,r⟩ u w;have r0:=ak6 q.raw;have r1:=ak7 q.raw;have K:∀ U:T,U.g 1=.c (.ptr 0 0 0)→U.g 2=.c (.ptr 1 0 0)→U.g 3=.c (.ptr 3 0 0)→U.g 4=vi A→U.g 5=vi j→U.g 31=vb (decide ((j:Int)<(N:Int)))→L ⟨U,[],J⟩:=fun U d z v M g5 d9=>w U ⟨d,z,v,cc,cs,A,M,q,E,r⟩ g5 d9;by_cases Y:(j:Int)<x.ms.length
   ·by_cases c2:(j:Int)<3
    ·by_cases c3:(j:Int)<x.ds.length
     ·simp [u,d,r0,r1,-az,Y,c2,c3];exact K _ (by simp [d]) (by simp [z]) (by simp [v]) (by simp [M]) (by simp [u]) (by simp;omega)
     ·simp [u,d,r0,r1,-az,Y,c2,c3];exact K _ (by simp [d]) (by simp [z]) (by simp [v]) (by simp [M]) (by simp [u]) (by simp;omega)
    ·simp [u,d,r0,r1,-az,Y,c2];exact K _ (by simp [d]) (by simp [z]) (by simp [v]) (by simp [M]) (by simp [u]) (by simp;omega)
   ·simp [u,d,r0,r1,-az,Y];exact K _ (by simp [d]) (by simp [z]) (by simp [v]) (by simp [M]) (by simp [u]) (by simp;omega)
  ·rintro j t J hj ⟨d,z,v,cc,cs,A,M,q,E,r⟩ u nx;have o:j<x.ms.length:=by omega
   have j7:j<x.ds.length:=by omega
   have r0:=ak6 q.raw;have r1:=ak7 q.raw;have ii:=fun H=>wh (g:=x.mg) o (H:=H);have dd:=fun H=>Aw o (H:=H);obtain⟨m,hm⟩:=aM (x.ms[j]);have j_:m<256:=hm▸hx.m _ (IS o);rw [←hm]at dd;have j9:=E.lo;obtain⟨F,b_⟩:=aM (A+1+15*(m:Int));obtain⟨e,he⟩:=aM (min (j+2) x.ds.length);have h_:min ((j:Int)+2) (x.ds.length:Int)=(e:Int):=by omega
   have W:=fun H:an=>ah3 (H:=H) (sz:=1) (g:=x.dg) (rows:=dD x.ds) (k:=j) (m:=e) (rv _) (by omega) (by simp;omega) (fun h=>by have:=congrArg List.length h;rw [Bt,aoU]at this;omega);have i7:((dD x.ds).take e).drop j=dD ((x.ds.take e).drop j):=by simp [dD,ao9,api]
   rw [i7]at W;obtain⟨tg,ts,⟨e_,f7⟩,p⟩:=V5 .fs (l:=(x.ds.take e).drop j) (by simp;omega) fun b hb=>hx.d b (aoi (anY hb));have hT:mc ts∧nW ts≤2:=⟨e_,by simp only [anE,anW]at f7;omega⟩
   refine ay (ai ?_);simp [u,d,M,r1,-az,ii,dd,aP (n:=A+1),aP (n:=(m:Int)),aP (n:=15*(m:Int)),←b_,aP (n:=F)];apply ai;simp [u,d,r0,-az,aP (n:=(j:Int)+2),h_,W,p];have O:=q.push [.box [.f (sl tg (aA (ts.map fun fs=>⟨.fs,fs⟩)))] 0];have bx:(J++[bV.box [.f (sl tg (aA (ts.map fun fs=>⟨.fs,fs⟩)))] 0])[J.length]?=aa (.box [.f (sl tg (aA (ts.map fun fs=>⟨.fs,fs⟩)))] 0):=by simp
   obtain⟨J1,d_⟩:=aM (J++[bV.box [.f (sl tg (aA (ts.map fun fs=>⟨.fs,fs⟩)))] 0]:an);rw [←d_]at O bx ⊢;have i_:aU J1 (aa 1) (.c (.ptr J.length 0 0))=aa (.a [.f (sl tg (aA (ts.map fun fs=>⟨.fs,fs⟩)))]):=by simp [aU,aH,bx,aW]
   apply ai;by_cases k:F≤4320
   ·simp [k];obtain⟨c3,H3,a7,i8,Z⟩:=O.app (by have:=E.n;omega) (C7 tg ts F);have a:bF (J1++[.box [.f (sl tg (aA (ts.map fun fs=>⟨.fs,fs⟩))),.f (fi F)] 0]) 2 32 (.c cc) (.c (.sl J1.length 0 1 1 0 2))=aa (.c c3,H3):=a7;have rc:=O.cls;refine av (by simp) (aq (.inl rfl) ?_);simp [v,rc,i_,a,i8,-az,-a6];refine ax (nx _ _ ⟨by simp [d],by simp [z],by simp [v],c3,_,F,by simp,Z,E.more (by omega) k hT,by omega⟩ (by simp [u]))
   ·simp [k];refine aX (by simp) ?_;refine ax (nx _ _ ⟨by simp [d],by simp [z],by simp [v],cc,cs,F,by simp,O,E.skip (by omega),by omega⟩ (by simp [u]))
  rintro t J ⟨d,z,v,cc,cs,A,M,q,E,r⟩ u;exact S t J cc cs A d z v q ⟨by have:=E.n;omega,E.lo,E.ok,E.up⟩
 exact⟨s,hs,hp.eq⟩
theorem AZ(n m:Int)(g:0<m)(j:m≤4611686018427387904):bW tab 205 [vi n,vi m]=Eq (vi (n % m)):=Kf.eq (by
 have u:=Int.lt_tmod_of_pos n g;have v:=Int.tmod_lt_of_pos n g;have b:bR .rem (vi n) (vi m)=aa (vi (n.tmod m)):=ik (by omega);have e:n % m=if n.tmod m<0 then n.tmod m+m else n.tmod m:=by
  rw [Int.emod_eq_tmod];have l:((m.natAbs:Nat):Int)=m:=by omega
  by_cases h:0≤n∨m ∣ n
  ·rw [bf h];rcases h with h | h
   ·have:=Int.tmod_nonneg m h;rw [aT (by omega)];omega
   ·rw [Int.tmod_eq_zero_of_dvd h];simp
  ·rw [aT h];have q:n.tmod m≠0:=fun k=>h (.inr (Int.dvd_of_tmod_eq_zero k));have s:n.tmod m≤0:=by
    have:=Int.tmod_nonneg m (show 0≤-n by omega);rw [Int.neg_tmod]at this;omega
   rw [bf (by omega)];omega
 refine dF rfl rfl fun H Q d=>?_;apply ai;simp;refine au (ai ?_);simp [b];apply ai;by_cases k:n.tmod m<0
 ·simp [k];refine av (by simp) (aq (.inl rfl) ?_);simp [aP (n:=n.tmod m+m)];apply ai;simp;refine aE (d _ _ ?_);simp [e,k]
 ·simp [k];refine aX (by simp) ?_;apply ai;simp;refine aE (d _ _ ?_);simp [e,k])
theorem akk:U1 tab eC 256:=Du
theorem Wm:Bl tab eC:=Km.Ord.Bl.of (by kernel_rfl) (by kernel_rfl)
theorem W3{H:an}{v:C}{l:List Int}(j:LR H v 1 (ints l))(g:l.length≤256) :
  ∃ r H',Ev tab (.fn 95) [.c v] H r H'∧(r=.t []∧Kb H H' v∧∃ d,LR H' v 1 (ints d)∧d.Perm l∧d.Pairwise (·≤·)):=
 Km.Ord.W4 (N:=256) afF Wm (fun a b H=>rH a b H) (by omega) akk j g
structure U4(l:List Int)(k:Nat)(d:Int):Prop where
 rep:∀ i,k≤i→(h:i<l.length)→l[i]=l[i-k]'(by omega)+d
 last:∀ h:k-1<l.length,l[k-1]<d
theorem DW{l:List Int}{k:Nat}{d:Int}(y:0<k)(v:U4 l k d):∀(t j:Nat),j<k→(h:t*k+j<l.length)→l[t*k+j]=l[j]'(Nat.lt_of_le_of_lt (Nat.le_add_left _ _) h)+t*d:=by
 intro t;induction t with
 | zero=>intro j b h;simp
 | succ t x=>
  intro j b h;have e:(t+1)*k+j=t*k+j+k:=by rw [anM];omega
  have q:t*k+j<l.length:=by omega
  have s:=v.rep (t*k+j+k) (by omega) (by omega);have u:=x j b q;have g:l[(t+1)*k+j]=l[t*k+j+k]'(by omega):=by congr 1
  have m:l[t*k+j+k-k]'(by omega)=l[t*k+j]:=by congr 1;omega
  rw [g,s,m,u,Int.natCast_add,Int.add_mul];omega
theorem ir{l:List Int}(g:l.Pairwise (· < ·)){i j:Nat}(b:i≤j)(d:j<l.length):l[i]≤l[j]:=by
 rcases anQ i j with h | h
 ·exact Int.le_of_lt (anP.1 g i j (by omega) d h)
 ·have:i=j:=by omega
  subst this;exact aoP _
structure ta(aL:Int)(l:List Int)(AV:Int)(l':List Int):Prop where
 p1:1≤AV
 dvd:AV ∣ aL
 ne:l'≠[]
 len:l'.length≤l.length
 up:l'.Pairwise (· < ·)
 mem:∀ x ∈ l',0≤x∧x<AV
 iff:∀ r,0≤r→r<aL→(r ∈ l↔r % AV ∈ l')
theorem Cp{l:List Int}{aL d:Int}{k g:Nat}(J:l.Pairwise (· < ·))(N:∀ x ∈ l,0≤x∧x<aL)(Y:1≤aL)(A:0<k)(E:l.length=g*k)(hd:aL=g*d)(I:U4 l k d)(c:0<l.length):ta aL l d (l.take k):=by
 have F:0<g:=by
  rcases aoJ g with h | h
  ·rw [h,Nat.zero_mul]at E;omega
  ·exact h
 have M:k≤l.length:=by rw [E];exact Nat.le_mul_of_pos_left k F
 have y:1≤d:=by
  rcases aoH d 1 with h | h
  ·have:=Int.mul_nonneg_of_nonpos_of_nonpos (a:=-(g:Int)) (b:=d) (by omega) (by omega);rw [Int.neg_mul]at this;omega
  ·exact h
 have B:=I.last (by omega);have v:∀ j,(h:j<k)→0≤l[j]'(by omega)∧l[j]'(by omega)<d:=fun j h=>by
  have a:=(N _ (IS (l:=l) (n:=j) (by omega))).1;have b:=ir J (i:=j) (j:=k-1) (by omega) (by omega);exact⟨a,by omega⟩
 refine⟨y,⟨g,by rw [hd,aoh]⟩,?_,by simp;omega,J.sublist (List.take_sublist k l),?_,?_⟩
 ·intro h;have:=congrArg List.length h;rw [anW,aoU]at this;omega
 ·intro x S;obtain⟨j,L,rfl⟩:=an0.1 S;exact v j (by omega)
 ·intro r W X;constructor
  ·intro H;obtain⟨i,hi,rfl⟩:=anB H;have u:=Nat.div_add_mod i k;have q:=Nat.mod_lt i A;have Z:i / k*k+i % k=i:=by rw [Nat.mul_comm];exact u
   have s:=DW A I (i / k) (i % k) q (by omega);have e:l[i / k*k+i % k]'(by omega)=l[i]:=by congr 1
   rw [e]at s;obtain⟨a,b⟩:=v (i % k) q;rw [s,Int.add_mul_emod_self_right,aoz a b];exact an0.2 ⟨i % k,by omega,rfl⟩
  ·intro H;obtain⟨j,L,e⟩:=an0.1 H;have z:j<k:=by omega
   have U:0≤r / d:=aou W (by omega);have f:r / d<g:=Int.ediv_lt_of_lt_mul (by omega) (by rw [←hd];exact X);obtain⟨t,O⟩:∃ t:Nat,(t:Int)=r / d:=⟨(r / d).toNat,Int.toNat_of_nonneg U⟩
   have Q:t<g:=by omega
   have m:t*k+j<l.length:=by
    rw [E];have:(t+1)*k≤g*k:=Nat.mul_le_mul_right k (by omega);rw [anM]at this;omega
   have s:=DW A I t j z m;have K:=an7 r d;rw [e,O]at s;have:l[t*k+j]=r:=by rw [s,aoh];exact K
   exact this▸IS m
theorem Co{l:List Int}{aL:Int}(j:l.Pairwise (· < ·))(g:∀ x ∈ l,0≤x∧x<aL)(b:1≤aL)(d:0<l.length):ta aL l aL l:=
 ⟨b,aoN _,anU.1 d,anl _,j,g,fun r m q=>by rw [aoz m q]⟩
theorem ady(g:Tg)(l:List Int)(aL:Int)(q:Nat)(H:an)(w:H[0]?=aa (.box [.f (fi aL)] 0))(N:H[1]?=aa (.box [.f (sl g (ints l))] 0))(O:H[2]?=aa (.box [.f (fi l.length)] 0))
  (d_:1≤aL) (e_:aL≤4611686018427387904) (hl:l.length≤1000000) (W:∀ x ∈ l,0≤x∧x<aL) (f7:1≤q) (X:q≤l.length) :
  ∃ r H',Ev tab (.fn 213) [vi q,.c (.ptr 0 0 0),.c (.ptr 2 0 0),.c (.ptr 1 0 0)] H r H'∧(∃ b,r=vb b∧H'=H∧(b=ae→U4 l (l.length / q) (aL / q))):=by
 obtain⟨d,hd⟩:=aM (aL / (q:Int));obtain⟨k,I⟩:=aM (l.length / q);have a8:0≤d:=by rw [hd];exact aou (by omega) (by omega)
 have a_:d≤aL:=by rw [hd];exact aoC _ (by omega)
 have c_:1≤k:=by rw [I];exact Nat.div_pos X (by omega)
 have U:k≤l.length:=by rw [I];exact Nat.div_le_self _ _
 have Y:bR .quo (vi aL) (vi q)=aa (vi d):=by rw [fH (by omega) (by omega) (by omega),hd]
 have Z:bR .quo (vi l.length) (vi q)=aa (vi k):=by rw [fH (by omega) (by omega) (by omega),I];rfl
 refine cM rfl rfl fun Q o=>?_;apply ai;simp;apply ai;simp [w,O,Y,Z];apply au;apply ai;simp;refine ay ?_;refine bI (fun m s=>∃(i:Nat) (t:T),s=⟨t,[],H⟩∧m=l.length-i∧k≤i∧i≤l.length∧t.g 1=.c (.ptr 0 0 0)∧t.g 2=.c (.ptr 2 0 0)∧t.g 3=.c (.ptr 1 0 0)∧t.g 6=vi d∧t.g 7=vi k∧t.g 8=vi i ∧
  ∀ j,k≤j→j<i→(h:j<l.length)→l[j]=l[j-k]'(by omega)+d) (l.length-k)
  ⟨k,_,rfl,rfl,by omega,U,by simp,by simp,by simp,by simp,by simp,by simp,fun j N O=>by omega⟩ ?_
 rintro m s ⟨i,t,rfl,rfl,d9,c9,p,f,J,K,L,M,z⟩ ih;apply au;apply ai;simp [f,M,O];by_cases v:i<l.length
 ·refine av (by simp [v]) (aR ?_);apply au;refine ay ?_;have a7:=W _ (IS v);have E:i-k<l.length:=by omega
  have S:=W _ (IS E);have u:=fun H:an=>bG (H:=H) (g:=g) (rows:=ints l) (sz:=1) (k:=.i64) (i:=(i:Int)) (by omega) (by simp [ints];omega);have F:=fun H:an=>bG (H:=H) (g:=g) (rows:=ints l) (sz:=1) (k:=.i64) (i:=((i:Int)-k)) (by omega) (by simp [ints];omega);have B:=fun H:an=>ey (H:=H) v;have c:=fun H:an=>ey (H:=H) E;simp at u F;apply ai;simp [J,K,L,M,N,u,B,aP (n:=(i:Int)-k),F,c,aP (n:=l[i-k]+d)];by_cases A:l[i]=l[i-k]+d
  ·refine aX (by simp [A]) ?_;refine ax (aq (.inl rfl) ?_);simp [M,aP (n:=(i:Int)+1)];refine ih (l.length-(i+1)) _ (by omega) ⟨i+1,_,rfl,rfl,by omega,by omega,by simp [p],by simp [f],by simp [J],by simp [K],by simp [L],by simp,fun j a b h=>?_⟩;by_cases e:j=i
   ·subst e;exact A
   ·exact z j a (by omega) h
  ·refine av (by simp [A]) ?_;apply ai;simp;exact aE (o _ _ _ rfl (dB (by simp)) ⟨ag,rfl,rfl,by simp⟩)
 ·have b_:i=l.length:=by omega
  refine aF (by simp [v]) ?_;refine bh rfl ?_;have y:k-1<l.length:=by omega
  have S:=W _ (IS y);have u:=fun H:an=>bG (H:=H) (g:=g) (rows:=ints l) (sz:=1) (k:=.i64) (i:=((k:Int)-1)) (by omega) (by simp [ints];omega);have B:=fun H:an=>ey (H:=H) y;simp at u;apply ai;simp [J,K,L,N,u,B,aP (n:=(k:Int)-1)];refine aE (o _ _ _ rfl (dB (by simp)) ⟨decide (l[k-1]<d),rfl,rfl,fun hb=>?_⟩);rw [←I,←hd];exact⟨fun j a h=>z j a (by omega) h,fun _=>by simpa using hb⟩
theorem aem{H:an}{sz:Nat}{g:Tg}{rows:List (List FC)}{m:Nat}(u:bP sz rows)(z:m≤rows.length)(v:rows≠[]) :
  bM H sz (.c (.f (sl g rows))) ab (aa (vi m)) ab=aa (.c (.f (sl .fs (rows.take m)))):=by
 cases rows with
 | nil=>exact absurd rfl v
 | cons x r=>
  have b:yR (vi m) (x::r).length=aa m:=by
   have:(0:Int)≤(m:Int)∧(m:Int)≤((x::r).length:Int):=⟨by omega,by omega⟩
   show(if(0:Int)≤(m:Int)∧(m:Int)≤((x::r).length:Int)then aa (m:Int).toNat else ab)=aa m;rw [bf this,anJ]
  have j:bH (x::r).length (x::r).length ab (aa (vi m)) ab=aa (0,m,(x::r).length):=by
   simp only [an2]at b;simp [bH,b]
  show bM H sz (.c (.f (.fs (x::r).flatten (x::r).length))) _ _ _=_;simp only [bM,j];have l:((x::r).flatten.drop (0*sz)).take ((m-0)*sz)=((x::r).take m).flatten:=by
   rw [Nat.zero_mul,aod,Nat.sub_zero,nQ m u]
  have d:((x::r).take m).length=m:=by rw [anW];omega
  rw [l];have s:sl .fs ((x::r).take m)=.fs ((x::r).take m).flatten (m-0):=by
   rw [Nat.sub_zero];cases hd:(x::r).take m with
   | nil=>rw [hd]at d;simp at d;rw [←d];rfl| cons y q=>rw [hd]at d;rw [←d];rfl
  rw [s];simp
theorem wo(l:List Int)(k:Nat):(ints l).take k=ints (l.take k):=by simp [ints,ao9]
theorem Dm{l:List Int}(h:0<l.length):ints l≠[]:=by cases l with
 | nil=>simp at h| cons a l=>simp [ints]
theorem Cq(g:Tg)(l:List Int)(aL:Int)(E:1≤aL)(a7:aL≤4611686018427387904)(B:0<l.length)(hl:l.length≤1000000)(M:l.Pairwise (· < ·))(X:∀ x ∈ l,0≤x∧x<aL) :
  ∃ j g' F,ta aL l j F∧bW tab 168 [vi aL,.c (.f (sl g (ints l)))]=Eq (.t [vi j,.c (.f (sl g' (ints F)))]):=by
 have key:∃ r,(∃ j g' F,ta aL l j F∧r=.t [vi j,.c (.f (sl g' (ints F)))])∧bW tab 168 [vi aL,.c (.f (sl g (ints l)))] r:=by
  refine eV rfl rfl fun Q hQ=>?_;apply ai;simp;apply ai;simp;apply ai;simp;apply au;apply ai;simp;obtain⟨H,N⟩:=aM ([.box [.f (fi aL)] 0,.box [.f (sl g (ints l))] 0,.box [.f (fi l.length)] 0]:an);have K:H[0]?=aa (.box [.f (fi aL)] 0):=by rw [N];rfl
  have U:H[1]?=aa (.box [.f (sl g (ints l))] 0):=by rw [N];rfl
  have L:H[2]?=aa (.box [.f (fi l.length)] 0):=by rw [N];rfl
  rw [←N];refine ay ?_;refine bI (fun m s=>∃ t:T,s=⟨t,[],H⟩∧1≤m∧m≤l.length∧t.g 2=.c (.ptr 0 0 0)∧t.g 3=.c (.ptr 1 0 0)∧t.g 6=.c (.ptr 2 0 0)∧t.g 7=.c (.cl 213 [.ptr 0 0 0,.ptr 2 0 0,.ptr 1 0 0])∧t.g 8=vi m) l.length
   ⟨_,rfl,by omega,anl _,by simp,by simp,by simp,by simp,by simp⟩ ?_
  rintro m s ⟨t,rfl,Y,Z,q,z,v,J,u⟩ ih;apply au;apply ai;simp [u];by_cases c_:1<m
  ·refine av (by simp;omega) (aR ?_);apply au;refine ay ?_;have next:∀ I:T,I.g 2=.c (.ptr 0 0 0)→I.g 3=.c (.ptr 1 0 0)→I.g 6=.c (.ptr 2 0 0)→I.g 7=.c (.cl 213 [.ptr 0 0 0,.ptr 2 0 0,.ptr 1 0 0])→I.g 8=vi m →
     WP tab 168 ab [.code vw,.inLoop vt,.inBlock 0,.code vz] ⟨I,[],H⟩ Q:=by
    intro I q z v J u;refine aq (.inl rfl) ?_;simp [u,aP (n:=(m:Int)-1)];exact ih (m-1) _ (by omega) ⟨_,rfl,by omega,by omega,by simp [q],by simp [z],by simp [v],by simp [J],by simp;omega⟩
   have q1:bR .rem (vi l.length) (vi m)=aa (vi ((l.length % m:Nat):Int)):=by rw [fu (by omega) (by omega)];rfl
   have q2:bR .rem (vi aL) (vi m)=aa (vi (aL % m)):=fu (by omega) (by omega);by_cases k1:l.length % m=0
   ·by_cases k2:aL % (m:Int)=0
    ·obtain⟨r,H',A,b,rfl,rfl,hb⟩:=ady g l aL m H K U L E a7 hl X Y Z;have A:=A.eq;apply ai;simp [q,v,J,u,K,L,q1,q2,k1,k2,bO,A];cases b with
     | false=>
      refine aF (by simp) (aR (ax ?_));exact next _ (by simp [q]) (by simp [z]) (by simp [v]) (by simp [J]) (by simp [u])
     | true=>
      obtain⟨d,hd⟩:=aM (aL / (m:Int));obtain⟨k,O⟩:=aM (l.length / m);have S:=hb rfl;rw [←hd,←O]at S;have e1:l.length=m*k:=by rw [O];have:=Nat.div_add_mod l.length m;omega
      have e2:aL=m*d:=by rw [hd];have:=an7 aL m;omega
      have W:0<k:=by
       rcases aoJ k with h | h
       ·rw [h,Nat.mul_zero]at e1;omega
       ·exact h
      have c9:k≤l.length:=by rw [O];exact Nat.div_le_self _ _
      have a8:bR .quo (vi aL) (vi m)=aa (vi d):=by rw [fH (by omega) (by omega) (by omega),hd]
      have a_:bR .quo (vi l.length) (vi m)=aa (vi k):=by rw [fH (by omega) (by omega) (by omega),O];rfl
      have y:=fun H:an=>aem (H:=H) (g:=g) (m:=k) (Km.Ord.bY l) (by simp [ints];omega) (Dm B);simp only [wo]at y;refine av (by simp) ?_;apply ai;simp [q,z,v,u,K,U,L,a8,a_,y];refine aE (hQ _ _ _ ⟨d,.fs,l.take k,Cp M X E W e1 e2 S B,rfl⟩ ?_);simp
    ·apply ai;simp [q,v,u,K,L,q1,q2,k1,k2];refine aF (by simp) (aR (ax ?_));exact next _ (by simp [q]) (by simp [z]) (by simp [v]) (by simp [J]) (by simp [u])
   ·have b_:¬ ((l.length:Int) % (m:Int)=0):=by rw [←Int.natCast_emod];omega
    apply ai;simp [q,v,u,K,L,q1,b_];refine aF (by simp) (aR (ax ?_));exact next _ (by simp [q]) (by simp [z]) (by simp [v]) (by simp [J]) (by simp [u])
  ·refine aF (by simp;omega) ?_;refine bh rfl ?_;apply ai;simp [q,z,K,U];refine aE (hQ _ _ _ ⟨aL,g,l,Co M X E B,rfl⟩ ?_);simp
 obtain⟨r,⟨j,g',F,S,rfl⟩,h⟩:=key;exact⟨j,g',F,S,h.eq⟩
def sU(fr aL:Int)(bg:List Int)(d:Int):Prop:=(d-fr) % aL ∈ bg
structure lU(hd:List Int)(fr aL:Int)(bg:List Int)(m:Nat)(T base:Int)(j:Nat):Prop where
 ml:m≤hd.length
 tf:T≤fr
 lo:∀ i,(h:i<hd.length)→i<m→hd[i]<T
 hi:∀ i,(h:i<hd.length)→m≤i→T≤hd[i]
 iff:∀ d,T≤d→d<fr→(d ∈ hd↔sU fr aL bg d)
 bs:aL ∣ base-fr
 jl:j<bg.length
 nx:∀ d,d<T→sU fr aL bg d→d≤base+bg[j]
 bt:base+bg[j]<T
section
variable{hd bg:List Int}{fr aL:Int}
theorem ph(m:1≤aL)(l:∀ x ∈ bg,0≤x∧x<aL){base:Int}(j:aL ∣ base-fr)(d:Int):sU fr aL bg d↔∃ c ∈ bg,∃ t:Int,d=base+c+aL*t:=by
 unfold sU;constructor
 ·intro h;obtain⟨k,g⟩:=j;have e:=an7 (d-fr) aL;refine⟨_,h,(d-fr) / aL-k,?_⟩;rw [Int.mul_sub,←g];omega
 ·rintro⟨c,b,t,rfl⟩;obtain⟨k,g⟩:=j;have:(base+c+aL*t-fr) % aL=c:=by
   have e:base+c+aL*t-fr=c+aL*(k+t):=by rw [Int.mul_add,←g];omega
   rw [e,Int.add_mul_emod_self_left,aoz (l c b).1 (l c b).2]
  rw [this];exact b
theorem DH{aL t:Int}(b:1≤aL):(t≤-1∧aL*t≤-aL)∨(t=0∧aL*t=0)∨(1≤t∧aL≤aL*t):=by
 rcases Int.lt_trichotomy t 0 with h | h | h
 ·left;have:=anG (show t≤-1 by omega) (show 0≤aL by omega);rw [apu,apC]at this;exact⟨by omega,this⟩
 ·exact .inr (.inl ⟨h,by rw [h,Int.mul_zero]⟩)
 ·right;right;have:=anG (show 1≤t by omega) (show 0≤aL by omega);rw [apC]at this;exact⟨by omega,this⟩
theorem lU.start(m:1≤aL)(hc:∀ x ∈ bg,0≤x∧x<aL)(g:bg.Pairwise (· < ·))(q:∀ x ∈ hd,x<fr)(hl:0<bg.length):lU hd fr aL bg hd.length fr (fr-aL) (bg.length-1) where
 ml:=anl _
 tf:=aoP _
 lo:=fun i h _=>q _ (IS h)
 hi:=fun i h s=>by omega
 iff:=fun d h1 h2=>by omega
 bs:=⟨-1,by rw [apu,apC];omega⟩
 jl:=by omega
 nx:=fun d h1 h2=>by
  obtain⟨c,b,t,rfl⟩:=(ph m hc (base:=fr-aL) ⟨-1,by rw [apu,apC];omega⟩ d).1 h2;obtain⟨i,hi,rfl⟩:=anB b;have:=ir g (i:=i) (j:=bg.length-1) (by omega) (by omega);have h3:=hc _ (IS hi);rcases DH (t:=t) m with h | h | h<;>omega
 bt:=by have:=hc _ (IS (l:=bg) (n:=bg.length-1) (by omega));omega
theorem lU.off{m:Nat}{T base:Int}{j:Nat}(h:lU hd fr aL bg (m+1) T base j)(g:hd.Pairwise (· < ·))(F:1≤aL)(hc:∀ x ∈ bg,0≤x∧x<aL)(s:m<hd.length)(B:hd[m]=base+bg[j]'(h.jl)){b:Int}{u:Nat}(A:u<bg.length)
  (v:aL ∣ b-fr) (E:∀ d,d<hd[m]→sU fr aL bg d→d≤b+bg[u]) (H:b+bg[u]<hd[m]):lU hd fr aL bg m hd[m] b u where
 ml:=by have:=h.ml;omega
 tf:=by have:=h.bt;have:=h.tf;omega
 lo:=fun i hi l=>anP.1 g i m hi s l
 hi:=fun i hi l=>ir g l hi
 iff:=fun d h1 h2=>by
  rcases aoH d T with k | k
  ·by_cases e:d=hd[m]
   ·rw [e];refine⟨fun _=>?_,fun _=>IS s⟩;rw [B];exact(ph F hc h.bs _).2 ⟨bg[j]'(h.jl),IS h.jl,0,by rw [Int.mul_zero];omega⟩
   ·constructor
    ·intro z;obtain⟨i,hi,rfl⟩:=anB z;rcases anQ i (m+1)with q | q
     ·have:=ir g (i:=i) (j:=m) (by omega) s;omega
     ·have:=h.hi i hi q;omega
    ·intro y;have:=h.nx d k y;omega
  ·exact h.iff d k h2
 bs:=v
 jl:=A
 nx:=E
 bt:=H
theorem lU.down{m:Nat}{T base:Int}{j:Nat}(h:lU hd fr aL bg (m+1) T base (j+1))(s:hd.Pairwise (· < ·))(b:bg.Pairwise (· < ·))(v:1≤aL)(hc:∀ x ∈ bg,0≤x∧x<aL)(u:m<hd.length)(A:hd[m]=base+bg[j+1]'(h.jl)):lU hd fr aL bg m hd[m] base j:=by
 have y:=h.jl;have B:=anP.1 b j (j+1) (by omega) y (by omega);refine h.off s v hc u A (by omega) h.bs (fun d z g=>?_) (by omega);obtain⟨c,l,t,rfl⟩:=(ph v hc h.bs d).1 g;obtain⟨i,hi,rfl⟩:=anB l;have h3:=hc _ (IS hi);have h4:=hc _ (IS y);have h5:=hc _ (IS (show j<bg.length by omega));rcases DH (t:=t) v with q | q | q
 ·omega
 ·rcases anQ j i with r | r
  ·have:=ir b (i:=j+1) (j:=i) (by omega) hi;omega
  ·have:=ir b r (show j<bg.length by omega);omega
 ·omega
theorem lU.wrap{m:Nat}{T base:Int}(h:lU hd fr aL bg (m+1) T base 0)(u:hd.Pairwise (· < ·))(b:bg.Pairwise (· < ·))(y:1≤aL)(hc:∀ x ∈ bg,0≤x∧x<aL)(v:m<hd.length)(A:hd[m]=base+bg[0]'(h.jl)):lU hd fr aL bg m hd[m] (base-aL) (bg.length-1):=by
 have B:=h.jl;have g:aL ∣ base-aL-fr:=by
  have:=Int.dvd_sub h.bs (aoN aL);rwa [show base-fr-aL=base-aL-fr by omega]at this
 have h4:=hc _ (IS B);have h5:=hc _ (IS (show bg.length-1<bg.length by omega));refine h.off u y hc v A (by omega) g (fun d z l=>?_) (by omega);obtain⟨c,s,t,rfl⟩:=(ph y hc h.bs d).1 l;obtain⟨i,hi,rfl⟩:=anB s;have h3:=hc _ (IS hi);have h6:=ir b (i:=0) (j:=i) (by omega) hi;have h7:=ir b (i:=i) (j:=bg.length-1) (by omega) (by omega);rcases DH (t:=t) y with q | q | q<;>omega
structure Stop(hd:List Int)(fr aL:Int)(bg:List Int)(m:Nat)(s:Int):Prop where
 ml:m≤hd.length
 s0:0≤s
 sf:s≤fr
 lo:∀ i,(h:i<hd.length)→i<m→hd[i]<s
 hi:∀ i,(h:i<hd.length)→m≤i→s≤hd[i]
 iff:∀ d,s≤d→d<fr→(d ∈ hd↔sU fr aL bg d)
theorem lU.stop{m:Nat}{T base:Int}{j:Nat}(h:lU hd fr aL bg m T base j)(z:hd.Pairwise (· < ·))(h0:∀ x ∈ hd,0≤x)(F:0≤fr){last s:Int}(b:(m=0∧last = -1)∨∃ l:m-1<hd.length,0<m∧last=hd[m-1])
  (J:(base+bg[j]'(h.jl)<0∧last<0∧s=0)∨(¬ (base+bg[j]'(h.jl)<0∧last<0)∧base+bg[j]'(h.jl)≠last∧s=max (base+bg[j]'(h.jl)) last+1)):Stop hd fr aL bg m s:=by
 have E:=h.bt;have K:=h.tf;have I:last<T∨last = -1:=by
  rcases b with⟨_,e⟩ | ⟨l,h1,e⟩
  ·exact .inr e
  ·rw [e];exact .inl (h.lo _ l (by omega))
 have v:∀ i,(hi:i<hd.length)→i<m→hd[i]≤last:=fun i hi g=>by
  rcases b with⟨e,_⟩ | ⟨l,h1,e⟩
  ·omega
  ·rw [e];exact ir z (by omega) l
 rcases J with⟨L,M,rfl⟩ | ⟨L,M,rfl⟩
 ·have A:m=0:=by
   rcases b with⟨e,_⟩ | ⟨l,h1,e⟩
   ·exact e
   ·have:=h0 _ (IS l);omega
  subst A;refine⟨by omega,by omega,F,fun i hi g=>by omega,fun i hi _=>h0 _ (IS hi),fun d B y=>?_⟩;rcases aoH d T with q | q
  ·constructor
   ·intro u;obtain⟨i,hi,rfl⟩:=anB u;have:=h.hi i hi (by omega);omega
   ·intro hc;have:=h.nx d q hc;omega
  ·exact h.iff d q y
 ·have H:-1≤last:=by
   rcases b with⟨_,e⟩ | ⟨l,h1,e⟩
   ·omega
   ·have:=h0 _ (IS l);omega
  refine⟨h.ml,by omega,by omega,fun i hi g=>by have:=v i hi g;omega,fun i hi g=>by have:=h.hi i hi g;omega,fun d B y=>?_⟩;rcases aoH d T with q | q
  ·constructor
   ·intro u;obtain⟨i,hi,rfl⟩:=anB u;rcases anQ i m with r | r
    ·have:=v i hi r;omega
    ·have:=h.hi i hi r;omega
   ·intro hc;have:=h.nx d q hc;omega
  ·exact h.iff d q y
end
structure lQ(p q:aI):Prop where
 ok:cL q=ae
 fr:q.fr≤p.fr
 aL:q.aL ∣ p.aL
 mem:∀ d,0≤d→bK q d=bK p d
def eK(fr s aL:Int)(bg:List Int):List Int:=bg.map fun c=>(fr+c-s) % aL
theorem qf{p:aI}(m:0≤p.fr)(q:p.fr≤1099511627776)(s:1≤p.aL)(u:p.aL≤1099511627776)(z:p.head.length+p.bg.length≤1048576)(v:p.head.Pairwise (· < ·))(g:∀ x ∈ p.head,0≤x∧x<p.fr)(y:p.bg.Pairwise (· < ·))(j:∀ x ∈ p.bg,0≤x∧x<p.aL):cL p=ae:=by
 have a:=nM (limit:=p.fr) (last:=-1) (l:=p.head) (fun x d=>⟨by have:=g x d;omega,(g x d).2⟩) v;have b:=nM (limit:=p.aL) (last:=-1) (l:=p.bg) (fun x d=>⟨by have:=j x d;omega,(j x d).2⟩) y;simp only [cL,a,b,Bool.and_true,If,decide_eq_true_eq];exact⟨⟨⟨⟨m,q⟩,s⟩,u⟩,by omega⟩
theorem VE{fr s aL c d:Int}(l:0≤c∧c<aL)(j:0≤d∧d<aL)(h:(fr+c-s) % aL=(fr+d-s) % aL):c=d:=by
 have g:=(pX (a:=fr+c-s) (b:=fr+d-s) (n:=aL)).1 h;rw [show fr+c-s-(fr+d-s)=c-d by omega]at g;obtain⟨k,m⟩:=g;rcases DH (aL:=aL) (t:=k) (by omega)with q | q | q<;>omega
theorem uH{fr s aL:Int}{bg:List Int}(q:1≤aL)(l:∀ x ∈ bg,0≤x∧x<aL)(d:Int):(d-s) % aL ∈ eK fr s aL bg↔sU fr aL bg d:=by
 unfold eK sU;rw [anv];constructor
 ·rintro⟨c,g,h⟩;have j:=(pX (a:=fr+c-s) (b:=d-s) (n:=aL)).1 h;rw [show fr+c-s-(d-s) = -(d-fr-c) by omega,Int.dvd_neg]at j;have m:=(aku (l c g).1 (l c g).2).2 j;rw [m];exact g
 ·intro h;refine⟨_,h,?_⟩;rw [pX];have e:=an7 (d-fr) aL;exact⟨-((d-fr) / aL),by rw [apu];omega⟩
theorem ox{fr s aL:Int}{bg g:List Int}(B:1≤aL)(q:bg.Pairwise (· < ·))(u:∀ x ∈ bg,0≤x∧x<aL)(d:g.Perm (eK fr s aL bg))(l:g.Pairwise (·≤·)):g.Pairwise (· < ·)∧(∀ x ∈ g,0≤x∧x<aL)∧g.length=bg.length:=by
 have m:(eK fr s aL bg).Nodup:=by
  unfold eK;rw [List.nodup_iff_pairwise_ne,List.pairwise_map];refine List.Pairwise.imp_of_mem ?_ q;intro a b v z y e;have:=VE (u a v) (u b z) e;omega
 have j:g.Nodup:=d.nodup_iff.2 m;refine⟨?_,fun x A=>?_,by rw [d.length_eq];simp [eK]⟩
 ·have:=List.Pairwise.and l (List.nodup_iff_pairwise_ne.1 j);exact apK (fun h=>by omega) this
 ·have:=d.mem_iff.1 A;unfold eK at this;obtain⟨c,-,rfl⟩:=anv.1 this;exact⟨aoc _ (by omega),an8 _ (by omega)⟩
theorem JE{p:aI}(M:cL p=ae){b:Int}{g:List Int}(j:ta p.aL p.bg b g){m:Nat}{s:Int}(u:Stop p.head p.fr b g m s){v:List Int}(l:v.Perm (eK p.fr s b g))(y:v.Pairwise (·≤·))(K H:Tg) :
  lQ p ⟨K,p.head.take m,s,b,H,v⟩:=by
 obtain⟨W,X,Y,Z,c,I,J,e,f⟩:=aY M;obtain⟨Q,S,U⟩:=ox j.p1 j.up j.mem l y;have N:b≤p.aL:=aom (by omega) j.dvd;have E:=j.len;have L:=u.ml;have A:=u.sf;have z:=u.s0;refine⟨qf z (by show s≤_;omega) j.p1 (by show b≤_;omega) (by show(p.head.take m).length+v.length≤_;rw [anW,U];omega) (I.sublist (List.take_sublist _ _)) (fun x O=>?_) Q S,A,j.dvd,fun d hd=>?_⟩
 ·obtain⟨i,hi,rfl⟩:=an0.1 O;have a:=J _ (IS (show i<p.head.length by omega));exact⟨by omega,u.lo i (by omega) (by omega)⟩
 ·have q:∀ d,p.fr≤d→((d-p.fr) % p.aL ∈ p.bg↔sU p.fr b g d):=fun d hd=>by
   have:=j.iff ((d-p.fr) % p.aL) (aoc _ (by omega)) (an8 _ (by omega));rw [this,Int.emod_emod_of_dvd _ j.dvd];rfl
  have F:(d-s) % b ∈ v↔sU p.fr b g d:=by rw [l.mem_iff];exact uH j.p1 j.mem d
  unfold bK;simp only;by_cases k:s≤d
  ·rw [bf k];by_cases B:p.fr≤d
   ·rw [bf B];apply decide_eq_decide.2;rw [F,q d B]
   ·rw [aT B];apply decide_eq_decide.2;rw [F,u.iff d k (by omega)]
  ·rw [aT k,aT (by omega)];apply decide_eq_decide.2;constructor
   ·exact fun h=>aoi h
   ·intro h;obtain⟨i,hi,rfl⟩:=anB h;refine an0.2 ⟨i,?_,rfl⟩;rcases anQ i m with r | r
    ·omega
    ·have:=u.hi i hi r;omega
theorem JD{p:aI}(A:cL p=ae)(y:p.bg=[]){s:Int}(u:(p.head=[]∧s=0)∨∃ h:p.head.length-1<p.head.length,s=p.head[p.head.length-1]+1)(z v:Tg):lQ p ⟨z,p.head,s,1,v,[]⟩:=by
 obtain⟨B,E,F,H,I,m,q,J,K⟩:=aY A;have b:∀ x ∈ p.head,0≤x∧x<s:=fun x l=>by
  have a:=q x l;rcases u with⟨e,-⟩ | ⟨h,e⟩
  ·rw [e]at l;simp at l
  ·obtain⟨i,hi,rfl⟩:=anB l;have:=ir m (i:=i) (j:=p.head.length-1) (by omega) h;omega
 have g:0≤s∧s≤p.fr:=by
  rcases u with⟨e,rfl⟩ | ⟨h,e⟩
  ·omega
  ·have:=q _ (IS h);omega
 refine⟨qf g.1 (by show s≤_;omega) (aoP _) (show(1:Int)≤1099511627776 by decide) (by simp;omega) m b List.Pairwise.nil (by simp),g.2,Int.one_dvd _,fun d hd=>?_⟩;unfold bK;simp only [y];by_cases k:s≤d
 ·rw [bf k];have:d ∉ p.head:=fun h=>by have:=b d h;omega
  split<;>simp [this]
 ·rw [aT k,aT (by omega)]
theorem pM{tab:TB}{fn:Nat}{k:List cT}{t:T}{q:List fB}{H:an}{Q:Option aw→St→Prop}{u:Option Nat}{b s d:Nat}{v:T}{ps:List P}{l bd:aw}{st:dw}{j:Nat}(x:H[b]?=aa (.lp s v ps l bd st (aa (.exit j)) d))(g:st≠.busy)
  (h:WP tab fn u (.code (.exit j)::k) ⟨t,q,H.set b (.lp s v ps l bd .exhausted (aa (.exit j)) d)⟩ Q):WP tab fn u (.jq b::k) ⟨t,q,H⟩ Q:=by
 refine iB h fun m d n=>?_;simp only [run,x,aT g]
theorem zW(x:FC)(H:an):∃ r H',Ev tab (.fn 169) [.c (.f x)] H r H'∧(r=.c (.cl 214 [.ptr H.length 0 0])∧H'=H++[.box [.f x] 0]):=by
 refine cM rfl rfl fun Q b=>?_;apply ai;simp;apply ai;simp;exact aE (b _ _ _ rfl (dB (by simp)) ⟨rfl,rfl⟩)
theorem zX{b bx:Nat}{g:Tg}{l:List Int}{PP:Nat→an→Prop}{EX:an→Prop}(U:l.length≤1000000)(q:∀ i H,PP i H→∃ a,H[bx]?=aa (.box [.f (sl g (ints l))] a)){H:an}(F:PP l.length H)
  (O:∀ i (h:i<l.length) H,PP (i+1) H→∃ r H',Ev tab (.yield b) [vi i,vi l[i]] H r H'∧((r=vb ae∧PP i H')∨(r=vb ag∧EX H'))) :
  ∃ r H',Ev tab (.fn 214) [.c (.yl b),.c (.ptr bx 0 0)] H r H'∧(r=.t []∧(PP 0 H'∨EX H')):=by
 refine cM rfl rfl fun Q I=>?_;obtain⟨a,y⟩:=q _ _ F;apply ai;simp [y,aP (n:=(l.length:Int)-1)];refine ay ?_;refine bI (fun m s=>∃(t:T) (J:an),s=⟨t,[],J⟩∧m≤l.length∧t.g 0=.c (.yl b)∧t.g 1=.c (.ptr bx 0 0)∧t.g 3=vi ((m:Int)-1)∧PP m J) l.length
  ⟨_,H,rfl,anl _,by simp,by simp,by simp,F⟩ ?_
 rintro m s ⟨t,J,rfl,W,z,A,j,B⟩ S;apply au;apply ai;simp [j];by_cases M:0<m
 ·obtain⟨i,rfl⟩:∃ i,m=i+1:=⟨m-1,by omega⟩
  have v:i<l.length:=by omega
  obtain⟨a,y⟩:=q _ _ B;have K:((i+1:Nat):Int)-1=(i:Int):=by omega
  have d:=fun H:an=>bG (H:=H) (g:=g) (rows:=ints l) (sz:=1) (k:=.i64) (i:=(i:Int)) (by omega) (by simp [ints];omega);have x:=fun H:an=>ey (H:=H) v;simp at d;rw [K]at j;obtain⟨r,J',u,N⟩:=O i v J B;refine av (by simp;omega) (aR ?_);apply au;refine ay ?_;rcases N with⟨rfl,E⟩ | ⟨rfl,L⟩
  ·apply ai;simp [z,A,j,y,d,x,u.eq];refine aF (by simp) (aR (ax (aq (.inl rfl) ?_)));simp [j,aP (n:=(i:Int)-1)];exact S i _ (by omega) ⟨_,_,rfl,by omega,by simp [z],by simp [A],by simp,E⟩
  ·apply ai;simp [z,A,j,y,d,x,u.eq];refine av (by simp) ?_;exact aE (I _ _ _ rfl rfl ⟨rfl,.inr L⟩)
 ·have:m=0:=by omega
  subst this;refine aF (by simp) ?_;refine bh rfl ?_;exact cK (I _ _ _ rfl rfl ⟨rfl,.inl B⟩)
structure CH(p:aI)(bs:List Nat)(bb:Nat)(base s:Int)(m:Nat)(J:an):Prop where
 h0:J[0]?=aa (.box [.f (sl p.hg (ints p.head)),.f (fi p.fr),.f (fi p.aL),.f (sl p.cg (ints p.bg))] 0)
 h1:J[1]?=aa (.box [.f .aC,.f (fi 0),.f (fi 0),.f .aC] 0)
 h2:∃ g,J[2]?=aa (.box [.f (sl g (ints (p.head.take m)))] 0)
 h3:J[3]?=aa (.box [.f (fi s)] 0)
 b4:4≤bb
 hb:J[bb]?=aa (.box [.f (fi base)] 0)
 cl:eb bs J
section
variable{p:aI}{bs:List Nat}{bb:Nat}{base s:Int}{m:Nat}{J:an}
theorem CH.push(h:CH p bs bb base s m J)(L:an):CH p bs bb base s m (J++L):=by
 obtain⟨h0,h1,⟨g,h2⟩,h3,b4,hb,cl⟩:=h;refine⟨?_,?_,⟨g,?_⟩,?_,b4,?_,cl.push L⟩
 ·rw [AT (aj h0)];exact h0
 ·rw [AT (aj h1)];exact h1
 ·rw [AT (aj h2)];exact h2
 ·rw [AT (aj h3)];exact h3
 ·rw [AT (aj hb)];exact hb
theorem CH.set(h:CH p bs bb base s m J){i:Nat}{y z:bV}(hi:J[i]?=aa y)(hy:iQ y=ae)(hb:∀ cs fl,y≠.box cs fl)(hd:y≠.eo ae):CH p bs bb base s m (J.set i z):=by
 obtain⟨h0,h1,⟨g,h2⟩,h3,b4,b,cl⟩:=h;have ne:∀ k cs fl,J[k]?=aa (.box cs fl)→i≠k:=fun k cs fl d e=>by
  subst e;rw [d]at hi;cases hi;exact hb _ _ rfl
 refine⟨?_,?_,⟨g,?_⟩,?_,b4,?_,cl.set hi hd⟩
 ·rw [sh (ne _ _ _ h0)];exact h0
 ·rw [sh (ne _ _ _ h1)];exact h1
 ·rw [sh (ne _ _ _ h2)];exact h2
 ·rw [sh (ne _ _ _ h3)];exact h3
 ·rw [sh (ne _ _ _ b)];exact b
theorem CH.head(h:CH p bs bb base s m J)(g:Tg)(d:Nat):CH p bs bb base s d (J.set 2 (.box [.f (sl g (ints (p.head.take d)))] 0)):=by
 obtain⟨h0,h1,⟨g',h2⟩,h3,b4,b,cl⟩:=h;refine⟨?_,?_,⟨g,BY (aj h2)⟩,?_,b4,?_,cl.set h2 (by simp)⟩
 ·rw [sh (by decide)];exact h0
 ·rw [sh (by decide)];exact h1
 ·rw [sh (by decide)];exact h3
 ·rw [sh (by omega)];exact b
theorem CH.start(h:CH p bs bb base s m J)(d:Int):CH p bs bb base d m (J.set 3 (.box [.f (fi d)] 0)):=by
 obtain⟨h0,h1,⟨g',h2⟩,h3,b4,b,cl⟩:=h;refine⟨?_,?_,⟨g',?_⟩,BY (aj h3),b4,?_,cl.set h3 (by simp)⟩
 ·rw [sh (by decide)];exact h0
 ·rw [sh (by decide)];exact h1
 ·rw [sh (by decide)];exact h2
 ·rw [sh (by omega)];exact b
end
structure CT(t:T)(bb:Nat)(AV:Int)(g':Tg)(amp:List Int):Prop where
 g1:t.g 1=.c (.ptr 0 0 0)
 g2:t.g 2=.c (.ptr 1 0 0)
 g3:t.g 3=.c (.ptr 2 0 0)
 g5:t.g 5=vi AV
 g6:t.g 6=.c (.f (sl g' (ints amp)))
 g7:t.g 7=.c (.ptr 3 0 0)
 g8:t.g 8=.c (.ptr bb 0 0)
theorem Bq{p:aI}(hp:cL p=ae){l:Int}{g':Tg}{d:List Int}(hS:ta p.aL p.bg l d){bs:List Nat}{bb B:Nat}{base:Int}{A:T}(q:CT A bb l g' d)(hB:bb<B)(g_:-4398046511104≤base){J:an}{m:Nat}{T0:Int}{j:Nat}
  (hC:CH p bs bb base 0 m J) (K:lU p.head p.fr l d m T0 base j) (M:J[B]?=aa (.lp 130 A [P.nat 54,P.nat 55] cO cP .ready ab (B-1))) (i:Int) :
  ∃ r H',Ev tab (.yield B) [vi i,vi (d[j]'(K.jl))] J r H' ∧
   ((r=vb ae∧∃ u,m=u+1∧(∃ h:u<p.head.length,p.head[u]=base+d[j]'(K.jl))∧CH p bs bb base 0 u H'∧H'[B]?=aa (.lp 130 A [P.nat 54,P.nat 55] cO cP .ready ab (B-1))∧∀ k cs fl,k≠2→J[k]?=aa (.box cs fl)→H'[k]?=aa (.box cs fl)) ∨
   (r=vb ag∧∃ s,CH p bs bb base s m H'∧Stop p.head p.fr l d m s∧H'[B]?=aa (.lp 130 A [P.nat 54,P.nat 55] cO cP .done (aa (.exit 0)) (B-1)))):=by
 obtain⟨q1,q2,q3,q4,q5,q6,q7,q8,q9⟩:=aY hp;obtain⟨c,hc⟩:=aM (d[j]'(K.jl));have h_:0≤c∧c<l:=by rw [hc];exact hS.mem _ (IS _)
 have i7:l≤p.aL:=aom (by omega) hS.dvd;have d9:=K.bt;have i8:=K.tf;have i6:=K.ml;rw [←hc]at d9;rw [←hc];refine dr (tab:=tab) (b:=B) (args:=[vi i,vi c]) (H:=J) M rfl fun Q' f=>?_;refine aq (.inr rfl) ?_;simp;refine fW M ?_;have F:=hC.set (z:=(.lp 130 A [P.nat 54,P.nat 55] cO cP .busy ab (B-1))) M rfl (by simp) (by simp);have Y:(J.set B (.lp 130 A [P.nat 54,P.nat 55] cO cP .busy ab (B-1)))[B]?=aa (.lp 130 A [P.nat 54,P.nat 55] cO cP .busy ab (B-1)):=BY (aj M);have W:∀(k:Nat) (cs:List C) (fl:Nat),J[k]?=aa (bV.box cs fl)→(J.set B (.lp 130 A [P.nat 54,P.nat 55] cO cP .busy ab (B-1)))[k]?=aa (bV.box cs fl):=fun k cs fl hk=>by
  rw [sh (by rintro rfl;rw [M]at hk;cases hk)];exact hk
 generalize J.set B (.lp 130 A [P.nat 54,P.nat 55] cO cP .busy ab (B-1))=U at F Y W ⊢;obtain⟨w,h2⟩:=F.h2;have h3:=F.h3;have c_:=F.hb;have b4:=F.b4;have a7:(p.head.take m).length=m:=by rw [anW];omega
 have N:∀ H:an,bu H (.f (sl w (ints (p.head.take m))))=aa m:=fun H=>by simp [ints];omega
 obtain⟨n,hn⟩:=aM (base+c);have wn:IntKind.i64.wrap (base+c)=n:=by rw [aP,hn]
 have rest:∀(t:T) (last:Int),CT t bb l g' d→t.g 10=vi c→t.g 11=vi last→((m=0∧last = -1)∨∃ hm:m-1<p.head.length,0<m∧last=p.head[m-1])→WP tab 130 (aa B) [.code vm,.inBlock 3] ⟨t,[],U⟩ Q':=by
  intro t last q eh E v;have i3:-1≤last∧last<p.fr+1:=by
   rcases v with⟨_,e⟩ | ⟨hm,h1,e⟩
   ·omega
   ·have:=q7 _ (IS hm);omega
  have stop:∀ s:Int,((n<0∧last<0∧s=0)∨(¬ (n<0∧last<0)∧n≠last∧s=max n last+1))→Stop p.head p.fr l d m s:=fun s hs=>by
   refine K.stop q6 (fun x hx=>by have:=q7 x hx;omega) q1 v ?_;rw [←hc,←hn];exact hs
  apply au;refine au (aq (.inr rfl) ?_);simp [q.g8,eh,c_,wn];refine ay ?_;by_cases o:n<0∧last<0
  ·refine au (aq (.inr rfl) ?_);simp [E,o.1,o.2];refine av (by simp) ?_;refine mT rfl (f _ _ _ _ _ _ _ _ _ _ rfl Y (.inr ⟨rfl,0,?_,stop 0 (.inl ⟨o.1,o.2,rfl⟩),BY (aj Y)⟩));exact F.set Y rfl (by simp) (by simp)
  ·have go:∀ t:T,CT t bb l g' d→t.g 11=vi last→t.g 12=vi n→WP tab 130 (aa B) [.code vn,.inBlock 4,.code vo,.inBlock 3] ⟨t,[],U⟩ Q':=by
    intro t q E a;refine au (aq (.inr rfl) ?_);by_cases k2:n=last
    ·simp [E,a,k2];refine aF (by simp) (aR (ax ?_));have i4:0<m:=by
      rcases v with⟨O,Z⟩ | ⟨_,h,_⟩
      ·exfalso;exact o ⟨by omega,by omega⟩
      ·exact h
     obtain⟨u,rfl⟩:∃ u,m=u+1:=⟨m-1,by omega⟩
     have Q:∃ hm:u<p.head.length,last=p.head[u]:=by
      rcases v with⟨O,Z⟩ | ⟨hm,_,e⟩
      ·omega
      ·exact⟨hm,e⟩
     obtain⟨f7,e_⟩:=Q;have X:=fun H:an=>aem (H:=H) (g:=w) (m:=u) (Km.Ord.bY (p.head.take (u+1))) (by simp [ints];omega) (Dm (by rw [a7];omega));simp only [wo,List.take_take,Nat.min_eq_left (Nat.le_succ u)]at X;have O:((u+1:Nat):Int)-1=(u:Int):=by omega
     have s2:cZ U (.ptr 2 0 0) [.f (sl .fs (ints (p.head.take u)))]=aa (U.set 2 (.box [.f (sl .fs (ints (p.head.take u)))] 0)):=by simp [cZ,h2,over]
     have S:aU U ab (.c (.ptr 2 0 0))=aa (.c (.f (sl w (ints (p.head.take (u+1)))))):=by simp [aU,aH,h2]
     have I:(U.set 2 (.box [.f (sl .fs (ints (p.head.take u)))] 0))[B]?=aa (.lp 130 A [P.nat 54,P.nat 55] cO cP .busy ab (B-1)):=by rw [sh (by omega)];exact Y
     refine aq (.inr rfl) ?_;simp [q.g3,S,N,-az,O,aP (n:=(u:Int)),X,s2,-a6];have b_:=F.head .fs u;refine ax (cK (f _ _ _ _ _ _ _ _ _ _ rfl I (.inl ⟨rfl,u,rfl,⟨f7,?_⟩,?_,BY (aj I),fun k cs fl hk d_=>?_⟩)))
     ·rw [←e_,←k2,hn]
     ·exact b_.set I rfl (by simp) (by simp)
     ·have:=W k cs fl d_;rw [sh (by rintro rfl;rw [Y]at this;cases this),sh (Ne.symm hk)];exact this
    ·simp [E,a,k2];refine av (by simp) (au (aq (.inr rfl) ?_));simp [q.g7,E,a,h3,aP (n:=max n last+1)];have c9:=F.start (max n last+1);have I:(U.set 3 (.box [.f (fi (max n last+1))] 0))[B]?=aa (.lp 130 A [P.nat 54,P.nat 55] cO cP .busy ab (B-1)):=by rw [sh (by omega)];exact Y
     refine mT rfl (f _ _ _ _ _ _ _ _ _ _ rfl I (.inr ⟨rfl,max n last+1,?_,stop _ (.inr ⟨o,k2,rfl⟩),BY (aj I)⟩));exact c9.set I rfl (by simp) (by simp)
   have L:∀ y:T,y.g 1=t.g 1→y.g 2=t.g 2→y.g 3=t.g 3→y.g 5=t.g 5→y.g 6=t.g 6→y.g 7=t.g 7→y.g 8=t.g 8→CT y bb l g' d:=fun y O Z e3 e5 e6 e7 e8=>⟨O.trans q.g1,Z.trans q.g2,e3.trans q.g3,e5.trans q.g5,e6.trans q.g6,e7.trans q.g7,e8.trans q.g8⟩
   by_cases k3:n<0
   ·have k4:¬ last<0:=fun h=>o ⟨k3,h⟩;refine au (aq (.inr rfl) ?_);simp [E,k3,k4];refine aF (by simp) ?_;exact go _ (L _ (by simp) (by simp) (by simp) (by simp) (by simp) (by simp) (by simp)) (by simp [E]) (by simp)
   ·refine au (aq (.inr rfl) ?_);simp [k3];refine aF (by simp) ?_;exact go _ (L _ (by simp) (by simp) (by simp) (by simp) (by simp) (by simp) (by simp)) (by simp [E]) (by simp)
 refine ay ?_;refine au (aq (.inr rfl) ?_);simp;have L:∀ y:T,y.g 1=A.g 1→y.g 2=A.g 2→y.g 3=A.g 3→y.g 5=A.g 5→y.g 6=A.g 6→y.g 7=A.g 7→y.g 8=A.g 8→CT y bb l g' d:=fun y O Z e3 e5 e6 e7 e8=>⟨O.trans q.g1,Z.trans q.g2,e3.trans q.g3,e5.trans q.g5,e6.trans q.g6,e7.trans q.g7,e8.trans q.g8⟩
 apply au;have S:aU U ab (.c (.ptr 2 0 0))=aa (.c (.f (sl w (ints (p.head.take m))))):=by simp [aU,aH,h2]
 refine au (aq (.inr rfl) ?_);simp [q.g3,S,N,-az];by_cases k0:0<m
 ·have f8:m-1<p.head.length:=by omega
  have f_:m-1<(p.head.take m).length:=by omega
  have O:((m:Int)-1)=((m-1:Nat):Int):=by omega
  have a8:=fun H:an=>bG (H:=H) (g:=w) (rows:=ints (p.head.take m)) (sz:=1) (k:=.i64) (i:=((m-1:Nat):Int)) (by omega) (by simp [ints];omega);have a_:=fun H:an=>ey (H:=H) f_;have Z:(p.head.take m)[m-1]=p.head[m-1]:=by simp
  rw [Z]at a_;simp at a8;refine av (by simp [k0]) (aq (.inr rfl) ?_);simp [q.g3,S,N,-az,O,aP (n:=((m-1:Nat):Int)),a8,a_];exact rest _ _ (L _ (by simp) (by simp) (by simp) (by simp) (by simp) (by simp) (by simp)) (by simp) (by simp) (.inr ⟨f8,k0,rfl⟩)
 ·refine aX (by simp [k0]) ?_;exact rest _ _ (L _ (by simp) (by simp) (by simp) (by simp) (by simp) (by simp) (by simp)) (by simp) (by simp) (.inl ⟨by omega,rfl⟩)
theorem qR{H:an}{g:Tg}(l:List Int)(m:l.length≤1000000):∃ c J,Ev tab (.fn 167) [.c (.f (sl g (ints l)))] H=E2 (.c c) (H++J)∧LR (H++J) c 1 (ints l)∧∀ i,aV c=aa i→H.length≤i:=by
 obtain⟨r,H',j,c,J,rfl,rfl,b,d⟩:=Vq (F:=167) (sz:=1) (zs:=[fi 0]) (bytes:=8) (H:=H) (g:=g) (rows:=ints l) afw (by decide) (Km.Ord.bY l) (dH (by simp [ints];omega) (by decide));exact⟨c,J,j.eq,b,d⟩
theorem JF(p:aI)(f:cL p=ae)(e:p.bg=[])(hl:p.head.length≤1000000):∃ q,lQ p q∧q.bg.length≤p.bg.length∧q.head.length≤p.head.length∧bW tab 130 [.a (p.row.map .f)] (.a (q.row.map .f)):=by
 obtain⟨q1,q2,q3,q4,q5,q6,q7,q8,q9⟩:=aY f;obtain⟨r,⟨q,hq,ha,hb,rfl⟩,h⟩:∃ r,(∃ q,lQ p q∧q.bg.length≤p.bg.length∧q.head.length≤p.head.length∧r=.a (q.row.map .f))∧bW tab 130 [.a (p.row.map .f)] r:=by
  refine eV rfl rfl fun Q hQ=>?_;obtain⟨H,z⟩:=aM ([.box [.f (sl p.hg (ints p.head)),.f (fi p.fr),.f (fi p.aL),.f (sl p.cg (ints p.bg))] 0,.box [.f .aC,.f (fi 0),.f (fi 0),.f .aC] 0,.box [.f (sl p.hg (ints p.head))] 0]:an);obtain⟨c,J,M,B,a⟩:=qR (H:=H) (g:=p.hg) p.head hl;have l:∀ H:an,bu H (.f (sl p.hg (ints p.head)))=aa p.head.length:=fun H=>by simp [ints]
  have K:∀ H:an,bu H (.f (sl p.cg (ints p.bg)))=aa 0:=fun H=>by simp [ints,e]
  apply ai;simp [aI.row];refine jZ (ai ?_);simp;rw [←z];have h0:H[0]?=aa (.box [.f (sl p.hg (ints p.head)),.f (fi p.fr),.f (fi p.aL),.f (sl p.cg (ints p.bg))] 0):=by rw [z];rfl
  have h1:H[1]?=aa (.box [.f .aC,.f (fi 0),.f (fi 0),.f .aC] 0):=by rw [z];rfl
  have Z:H[2]?=aa (.box [.f (sl p.hg (ints p.head))] 0):=by rw [z];rfl
  apply au;apply ai;simp [h0,K];refine av (by simp) ?_;apply ai;simp [Z,M];obtain⟨b,d⟩:=aM (H++J:an);obtain⟨v,j⟩:=aM (b.length);have E:H.length+J.length=v:=by rw [j,d];simp
  have a7:H.length=3:=by rw [z];rfl
  rw [←d]at B;have w:∀ i:Nat,i<H.length→b[i]?=H[i]?:=fun i hi=>by rw [d,AT hi]
  have x:∀(t:T) (s:Int),t.g 2=.c (.ptr 1 0 0)→t.g 4=.c (.ptr v 0 0)→((p.head=[]∧s=0)∨∃ h:p.head.length-1<p.head.length,s=p.head[p.head.length-1]+1) →
    WP tab 130 ab [.code vh,.code vj,.inScope sJ] ⟨t,[],b++[.box [c,.f (fi s),.f (fi 1),.f .aC] 0]⟩ Q:=by
   intro t s Y g4 hs;have o:(b++[bV.box [c,.f (fi s),.f (fi 1),.f .aC] 0])[v]?=aa (.box [c,.f (fi s),.f (fi 1),.f .aC] 0):=by rw [j];simp
   have L:(b++[bV.box [c,.f (fi s),.f (fi 1),.f .aC] 0])[1]?=aa (.box [.f .aC,.f (fi 0),.f (fi 0),.f .aC] 0):=by
    rw [AT (by omega),w 1 (by omega)];exact h1
   have S:=B.push [bV.box [c,.f (fi s),.f (fi 1),.f .aC] 0];generalize b++[bV.box [c,.f (fi s),.f (fi 1),.f .aC] 0]=u at o L S ⊢;have X:aU u (aa 4) (.c (.ptr v 0 0))=aa (.a [c,.f (fi s),.f (fi 1),.f .aC]):=by simp [aU,aH,o,aW]
   have s1:cZ u (.ptr 1 0 0) [c,.f (fi s),.f (fi 1),.f .aC]=aa (u.set 1 (.box [c,.f (fi s),.f (fi 1),.f .aC] 0)):=by simp [cZ,L,over]
   have n1:(u.set 1 (.box [c,.f (fi s),.f (fi 1),.f .aC] 0))[1]?=aa (.box [c,.f (fi s),.f (fi 1),.f .aC] 0):=BY (aj L);have U:=S.set (S.bA L) (.box [c,.f (fi s),.f (fi 1),.f .aC] 0);obtain⟨y,N⟩:=U.ex (Km.Ord.bY _) 63;apply ai;simp [Y,g4,X,s1,-az,-a6];refine aE (hQ _ _ _ ⟨⟨y,p.head,s,1,.nil,[]⟩,JD f e hs y .nil,by simp,anl _,rfl⟩ ⟨rfl,.a [c,.f (fi s),.f (fi 1),.f .aC],?_,?_⟩)
   ·simp [Km.results,cr,aZ,Y,n1,aW]
   ·simp [kM,dE,aZ,deep,N,aI.row,sl,ints,Tg.fc]
  rw [←anV,←d,E];have v2:(b++[bV.box [c,.f (fi 0),.f (fi 1),.f .aC] 0])[2]?=aa (.box [.f (sl p.hg (ints p.head))] 0):=by
   rw [AT (by omega),w 2 (by omega)];exact Z
  have v4:(b++[bV.box [c,.f (fi 0),.f (fi 1),.f .aC] 0])[v]?=aa (.box [c,.f (fi 0),.f (fi 1),.f .aC] 0):=by rw [j];simp
  have m:∀ s:Int,(b++[bV.box [c,.f (fi 0),.f (fi 1),.f .aC] 0]).set v (.box [c,.f (fi s),.f (fi 1),.f .aC] 0)=b++[.box [c,.f (fi s),.f (fi 1),.f .aC] 0]:=fun s=>by rw [j];simp
  apply au;obtain⟨u,A⟩:=aM (b++[bV.box [c,.f (fi 0),.f (fi 1),.f .aC] 0]);rw [←A]at v2 v4 m ⊢;have I:aU u ab (.c (.ptr 2 0 0))=aa (.c (.f (sl p.hg (ints p.head)))):=by simp [aU,aH,v2]
  apply au;refine aq (.inl rfl) ?_;simp [I,l,-az];by_cases k:0<p.head.length
  ·have O:p.head.length-1<p.head.length:=by omega
   have a8:=q7 _ (IS O);have e1:((p.head.length:Int)-1)=((p.head.length-1:Nat):Int):=by omega
   have F:=fun H:an=>bG (H:=H) (g:=p.hg) (rows:=ints p.head) (sz:=1) (k:=.i64) (i:=((p.head.length-1:Nat):Int)) (by omega) (by simp [ints];omega);have W:=fun H:an=>ey (H:=H) O;simp at F;have s4:cZ u (.ptr v 1 0) [.f (fi (p.head[p.head.length-1]+1))]=aa (b++[.box [c,.f (fi (p.head[p.head.length-1]+1)),.f (fi 1),.f .aC] 0]):=by
    rw [←m];simp [cZ,v4,over]
   refine av (by simp [k]) (aq (.inl rfl) ?_);simp [I,l,-az,e1,aP (n:=((p.head.length-1:Nat):Int)),F,W,aP (n:=p.head[p.head.length-1]+1),s4,-a6];exact x _ _ (by simp) (by simp) (.inr ⟨O,rfl⟩)
  ·refine aX (by simp [k]) ?_;rw [A];exact x _ 0 (by simp) (by simp) (.inl ⟨aoe.1 (by omega),rfl⟩)
 exact⟨q,hq,ha,hb,h⟩
theorem kX{H:an}{c:C}{sz:Nat}{rows:List (List FC)}(h:LR H c sz rows){i:Nat}{y:bV}(g:H[i]?=aa y)(j:iQ y=ae):aV c≠aa i:=by
 rcases h with⟨_,rfl | rfl⟩ | ⟨h,b,l,rfl,d⟩
 ·simp [aV]
 ·simp [aV]
 ·intro e;cases e;unfold RB at d;rw [g]at d;cases d;cases j
theorem CH.ba{p:aI}{bs:List Nat}{bb:Nat}{base s:Int}{m:Nat}{J J':an}(h:CH p bs bb base s m J)(b:∀(i:Nat) y,J[i]?=aa y→iQ y=ae→J'[i]?=aa y):CH p bs bb base s m J':=by
 obtain⟨h0,h1,⟨g,h2⟩,h3,b4,hb,cl⟩:=h;exact⟨b _ _ h0 rfl,b _ _ h1 rfl,⟨g,b _ _ h2 rfl⟩,b _ _ h3 rfl,b4,b _ _ hb rfl,cl.ba b⟩
structure QI(p:aI)(bs:List Nat)(bb:Nat)(base s AV:Int)(m bq:Nat)(c cq:C)(ke:List Int)(J:an):Prop where
 ch:CH p bs bb base s m J
 bx:J[bq]?=aa (.box [c,.f (fi s),.f (fi AV),cq] 0)
 lc:LR J c 1 (ints (p.head.take m))
 lq:LR J cq 1 (ints ke)
 ne:∀ i,aV c=aa i→aV cq≠aa i
 big:4<bq∧bq≠bb
theorem QI.app{p:aI}{bs:List Nat}{bb:Nat}{base s b:Int}{m z:Nat}{c I:C}{ke:List Int}{J:an}(h:QI p bs bb base s b m z c I ke J)(hl:ke.length≤1000)(n:Int) :
  ∃ v q,bF (J++[.box [.f (fi n)] 0]) 1 8 (.c I) (.c (.sl J.length 0 1 1 0 1))=aa (.c v,q)∧cZ q (.ptr z 3 0) [v]=aa (q.set z (.box [c,.f (fi s),.f (fi b),v] 0))∧QI p bs bb base s b m z c v (ke++[n]) (q.set z (.box [c,.f (fi s),.f (fi b),v] 0)):=by
 obtain⟨H,d⟩:=aM (J++[.box ([fi n].map .f) 0]:an);have up:∀(i:Nat) y,J[i]?=aa y→H[i]?=aa y:=fun i y hy=>by rw [d,AT (aj hy)];exact hy
 have B:LR H I 1 (ints ke):=by rw [d];exact h.lq.push _
 have L:H[J.length]?=aa (.box ([fi n].map .f) 0):=by rw [d];simp
 obtain⟨v,q,u,x,A,M⟩:=B.app (Km.Ord.bY ke) (by decide) (row:=[fi n]) rfl (bytes:=8) (dH (by simp [ints];omega) (by decide)) L;have F:∀(i:Nat) y,J[i]?=aa y→iQ y=ae→q[i]?=aa y:=fun i y hy O=>A.2 i y (up _ _ hy) (kX B (up _ _ hy) O);have j:=F _ _ h.bx rfl;have N:ints ke++[[fi n]]=ints (ke++[n]):=by simp [ints]
 rw [N]at x;have E:LR q c 1 (ints (p.head.take m)):=h.lc.ba fun i y hy hi=>A.2 i y (up _ _ hy) (h.ne i hi);have K:=h.ch.ba F;refine⟨v,q,by rw [d]at u;exact u,by simp [cZ,j,over],?_,BY (aj j),E.set (E.bA j) _,x.set (x.bA j) _,?_,h.big⟩
 ·obtain⟨h0,h1,⟨g,h2⟩,h3,b4,hb,cl⟩:=K;have hg:=h.big;refine⟨?_,?_,⟨g,?_⟩,?_,b4,?_,cl.set j (by simp)⟩
  all_goals (rw [sh (by omega)];assumption)
 ·intro i hi l;rcases M with e | e
  ·rw [e]at l;exact h.ne i hi l
  ·rw [e]at l;cases l;have:=h.lc.lt hi;have h2:H.length=J.length+1:=by rw [d];simp
   omega
theorem qP(n:Int):(vi n).beq (vi n)=ae:=by simp [V.beq,C.beq,FC.beq]
theorem Bv{p:aI}(hp:cL p=ae)(hl:p.head.length≤1000000){b:Int}{g':Tg}{d:List Int}(hS:ta p.aL p.bg b d)(o9:d.length≤256){bs:List Nat}{bb:Nat}{base s:Int}{m:Nat}{J:an}(hC:CH p bs bb base s m J)(hT:Stop p.head p.fr b d m s)
  {t:T} (N:CT t bb b g' d) {k:List cT} {Q:Option aw→St→Prop} (hQ:∀ j s r,(∃ q,lQ p q∧q.bg.length≤p.bg.length∧q.head.length≤p.head.length∧r=.a (q.row.map .f))→UX [.cell (P.nat 2) (aa 4)] r s→Q j s) :
  WP tab 130 ab (.code qB::k) ⟨t,bs.map .dN,J⟩ Q:=by
 obtain⟨q1,q2,q3,q4,q5,q6,q7,q8,q9⟩:=aY hp;have n8:=hT.ml;have p_:=hT.sf;have p9:=hT.s0;have p8:b≤p.aL:=aom (by omega) hS.dvd;have o_:=hS.p1;obtain⟨gh,h2⟩:=hC.h2;have h0:=hC.h0;have h1:=hC.h1;have h3:=hC.h3;have i4:(p.head.take m).length=m:=by rw [anW];omega
 obtain⟨c,Jc,u,U,h_⟩:=qR (H:=J) (g:=gh) (p.head.take m) (by omega);obtain⟨HJ,e_⟩:=aM (J++Jc:an);have F:CH p bs bb base s m HJ:=by rw [e_];exact hC.push Jc
 rw [←e_]at u U;have b_:∀ H:an,H[3]?=aa (.box [.f (fi s)] 0)→aU H ab (.c (.ptr 3 0 0))=aa (vi s):=fun H h=>by simp [aU,aH,h]
 have j4:aU J ab (.c (.ptr 2 0 0))=aa (.c (.f (sl gh (ints (p.head.take m))))):=by simp [aU,aH,h2]
 have i9:=b_ J h3;have a_:=b_ HJ F.h3;refine au (ew (.inl rfl) ?_ ?_)
 case refine_2=>
  intro cc k_;have j_:cc=(2,1):=by simpa using k_
  subst j_;refine⟨by decide,_,rfl,.inr ⟨by decide,?_⟩⟩;simp [N.g3,N.g7,j4,-az,u,i9,a_,fE,qP]
 simp [N.g3,N.g5,N.g7,j4,-az,u,a_];obtain⟨O,a7⟩:=aM (HJ.length);have i3:4<O:=by have:=aj F.hb;have:=F.b4;omega
 obtain⟨HK,S⟩:=aM (HJ++[bV.box [c,.f (fi s),.f (fi b),.f .aC] 0]);have d_:CH p bs bb base s m HK:=by rw [S];exact F.push _
 have i6:HK[O]?=aa (.box [c,.f (fi s),.f (fi b),.f .aC] 0):=by rw [S,a7];simp
 have f8:LR HK c 1 (ints (p.head.take m)):=by rw [S];exact U.push _
 have o8:∀ i,aV c=aa i→i<O:=fun i hi=>by rw [a7];exact U.lt hi
 rw [←a7,←S];have j8:QI p bs bb base s b m O c (.f .aC) [] HK:=⟨d_,i6,f8,LR.nil _ _,(fun i hi h=>by cases h),i3,by have:=aj F.hb;omega⟩
 clear u U h_ a_ i9 d_ i6 f8;apply au;apply ai;simp [N.g6];refine b7 d.length (fun i t J=>t.g 1=.c (.ptr 0 0 0)∧t.g 2=.c (.ptr 1 0 0)∧t.g 5=vi b∧t.g 7=.c (.ptr 3 0 0)∧t.g 13=.c (.ptr O 0 0)∧t.g 94=.c (.f (sl g' (ints d)))∧∃ l,QI p bs bb base s b m O c l (eK p.fr s b (d.take i)) J) (by omega) (by decide) (by decide) (by simp) (by simp [ints])
  ⟨by simp [N.g1],by simp [N.g2],by simp [N.g5],by simp [N.g7],by simp,by simp,.f .aC,by simpa [eK]using j8⟩ ?_ ?_
 ·rintro i t J hi ⟨g1,g2,g5,g7,E,Z,l,B⟩ ha hb next
  have l_:=hS.mem _ (IS hi);have i8:=fun H:an=>bG (H:=H) (g:=g') (rows:=ints d) (sz:=1) (k:=.i64) (i:=(i:Int)) (by omega) (by simp [ints];omega);have i_:=fun H:an=>ey (H:=H) hi;simp at i8;obtain⟨x,hx⟩:=aM (d[i]);rw [←hx]at l_ i_;have o0:d.take (i+1)=d.take i++[x]:=by rw [anu,By hi,hx];rfl
  have i7:bR .rem (vi (p.fr+x-s)) (vi b)=aa (vi ((p.fr+x-s) % b)):=fu (by omega) (by omega);obtain⟨c3,H3,g_,n_,n9⟩:=B.app (by simp [eK];omega) ((p.fr+x-s) % b);have c9:aU J ab (.c (.ptr O 3 0))=aa (.c l):=by simp [aU,aH,B.bx]
  have o5:aU J ab (.c (.ptr 0 1 0))=aa (vi p.fr):=by simp [aU,aH,B.ch.h0]
  have o6:=b_ J B.ch.h3;refine ay ?_;apply ai;simp [ha,Z,i8,i_];refine aq (.inl rfl) ?_;simp [g1,g5,g7,E,c9,o5,o6,-az,aP (n:=p.fr+x),aP (n:=p.fr+x-s),i7,g_,n_,-a6];refine ax (next _ _ ?_ (by simp [ha]) (by simp [hb]));refine⟨by simp [g1],by simp [g2],by simp [g5],by simp [g7],by simp [E],by simp [Z],c3,?_⟩;rw [o0];simpa [eK]using n9
 ·rintro t J ⟨g1,g2,g5,g7,E,Z,l,B⟩ - -;rw [ant]at B;obtain⟨r,X,he,rfl,hK,l2,f7,L,n6⟩:=W3 B.lq (by simp [eK];omega);have up:∀(i:Nat) y,J[i]?=aa y→iQ y=ae→X[i]?=aa y:=fun i y W hn=>hK.2 i y W (kX B.lq W hn);have A:=B.ch.ba up;have j9:=up _ _ B.bx rfl;have f_:LR X c 1 (ints (p.head.take m)):=B.lc.ba fun i y W hi=>hK.2 i y W (B.ne i hi);have c9:aU J ab (.c (.ptr O 3 0))=aa (.c l):=by simp [aU,aH,B.bx]
  have o4:aU X (aa 4) (.c (.ptr O 0 0))=aa (.a [c,.f (fi s),.f (fi b),l]):=by simp [aU,aH,j9,aW]
  have s1:cZ X (.ptr 1 0 0) [c,.f (fi s),.f (fi b),l]=aa (X.set 1 (.box [c,.f (fi s),.f (fi b),l] 0)):=by simp [cZ,A.h1,over]
  have n1:(X.set 1 (.box [c,.f (fi s),.f (fi b),l] 0))[1]?=aa (.box [c,.f (fi s),.f (fi b),l] 0):=BY (aj A.h1);have v:=A.cl.set (z:=.box [c,.f (fi s),.f (fi b),l] 0) A.h1 (by simp);have I:=f_.set (f_.bA A.h1) (.box [c,.f (fi s),.f (fi b),l] 0);have K:=f7.set (f7.bA A.h1) (.box [c,.f (fi s),.f (fi b),l] 0);generalize o7:X.set 1 (.box [c,.f (fi s),.f (fi b),l] 0)=Y at s1 n1 v I K;have j7:∀(i:Nat) y,i ∉ bs→Y[i]?=aa y→(oL bs Y)[i]?=aa y:=fun i y hi W=>(iF hi).trans W;obtain⟨c_,m9⟩:=I.Xl (Km.Ord.bY _);obtain⟨d9,m_⟩:=K.Xl (Km.Ord.bY _);have M:∀(c:C) (rows:List (List FC)),LR Y c 1 rows→∀ i y,Y[i]?=aa y→aV c=aa i→(oL bs Y)[i]?=aa y:=fun c rows hL i y W hi=>j7 i y (fun hb=>kX hL (v.on i hb) rfl hi) W;have e5:=m9 (oL bs Y) 63 (M _ _ I);have e6:=m_ (oL bs Y) 63 (M _ _ K);have m1:=j7 1 _ (v.not n1 (by simp)) n1;apply ai;simp [E,c9,-az,he.eq];apply ai;simp [g2,E,o4,s1,-az,-a6];have a8:l2.length=d.length:=by rw [L.length_eq];simp [eK]
  refine aE (hQ _ _ _ ⟨⟨c_,p.head.take m,s,b,d9,l2⟩,JE hp hS hT L n6 c_ d9,by show l2.length≤_;rw [a8];exact hS.len,by show(p.head.take m).length≤_;rw [i4];exact n8,rfl⟩ ⟨bs,rfl,v,.a [c,.f (fi s),.f (fi b),l],?_,?_⟩)
  ·simp [Km.results,cr,aZ,g2,m1,aW]
  ·simp [kM,dE,aZ,deep,e5,e6,aI.row]
theorem JC(p:aI)(hp:cL p=ae)(e:0<p.bg.length)(i6:p.bg.length≤256)(hl:p.head.length≤1000000):∃ q,lQ p q∧q.bg.length≤p.bg.length∧q.head.length≤p.head.length∧bW tab 130 [.a (p.row.map .f)] (.a (q.row.map .f)):=by
 obtain⟨q1,q2,q3,q4,q5,q6,q7,q8,q9⟩:=aY hp;obtain⟨r,⟨q,hq,ha,a,rfl⟩,h⟩:∃ r,(∃ q,lQ p q∧q.bg.length≤p.bg.length∧q.head.length≤p.head.length∧r=.a (q.row.map .f))∧bW tab 130 [.a (p.row.map .f)] r:=by
  refine ko afu rfl fun Q hQ=>?_;obtain⟨j,g',d,v,e_⟩:=Cq p.cg p.bg p.aL (by omega) (by omega) e (by omega) q8 (fun x hx=>by have:=q9 x hx;omega);have i9:j≤p.aL:=aom (by omega) v.dvd;have W:=v.p1;have i7:=v.len;have f:0<d.length:=anU.2 v.ne;have w:∀ H:an,bu H (.f (sl p.cg (ints p.bg)))=aa p.bg.length:=fun H=>by simp [ints]
  apply ai;simp [aI.row];refine jZ (ai ?_);simp;apply au;apply ai;simp [w];refine aF (by simp;exact anU.1 e) (aR ?_);apply ai;simp [e_];apply ai;simp;refine au (pO ?_);apply au;apply ai;simp [aP (n:=p.fr-j)];refine ay ?_;refine bI (fun mm st=>∃(t:T) (bs:List Nat) (bb:Nat) (J:an) (T0 base:Int),st=⟨t,bs.map .dN,J⟩∧CT t bb j g' d∧CH p bs bb base 0 mm J∧lU p.head p.fr j d mm T0 base (d.length-1)∧-4398046511104≤base) p.head.length
   ⟨_,[],4,_,_,_,rfl,⟨by simp,by simp,by simp,by simp,by simp,by simp,by simp⟩,⟨rfl,rfl,⟨p.hg,by rw [ant];rfl⟩,rfl,by decide,rfl,⟨by simp,by simp⟩⟩,lU.start W v.mem v.up (fun x hx=>(q7 x hx).2) f,by omega⟩ ?_
  rintro mm st ⟨t,bs,bb,J,T0,base,rfl,L,hC,c9,b_⟩ ih;apply au;refine ay ?_;obtain⟨r,H',c_,rfl,rfl⟩:=zW (sl g' (ints d)) J;apply ai;simp [L.g6,c_.eq];refine ay ?_;have a_:∀ K:T,K.g 1=t.g 1→K.g 2=t.g 2→K.g 3=t.g 3→K.g 5=t.g 5→K.g 6=t.g 6→K.g 7=t.g 7→K.g 8=t.g 8→CT K bb j g' d:=fun K e1 e2 e3 e5 e6 e7 e8=>⟨e1.trans L.g1,e2.trans L.g2,e3.trans L.g3,e5.trans L.g5,e6.trans L.g6,e7.trans L.g7,e8.trans L.g8⟩
  obtain⟨bx,E⟩:=aM (J.length);rw [←E];have i4:=aj hC.hb;have i3:=hC.b4;have range:∀ y:T,CT y bb j g' d→y.g 53=.c (.cl 214 [.ptr bx 0 0])→WP tab 130 ab [.code vl,.inBlock 2,.inBlock 1,.code vp,.inLoop vk,.inBlock 0,.code qB,.inScope sJ] ⟨y,bs.map .dN,J++[.box [.f (sl g' (ints d))] 0]⟩ Q:=by
   intro y u a7;obtain⟨Y,A⟩:=aM (J++[.box [.f (sl g' (ints d))] 0]++[.eo ae,.lp 130 y [P.nat 54,P.nat 55] cO cP .ready ab (bx+2-1)]:an);have M:CH p bs bb base 0 mm Y:=by rw [A,anV];exact hC.push _
   have rx:Y[bx]?=aa (.box [.f (sl g' (ints d))] 0):=by rw [A,E];simp
   have rd:Y[bx+1]?=aa (.eo ae):=by rw [A,E,ann (by simp)];simp
   have rl:Y[bx+2]?=aa (.lp 130 y [P.nat 54,P.nat 55] cO cP .ready ab (bx+2-1)):=by rw [A,E,ann (by simp)];simp
   have a8:CH p ((bx+1)::bs) bb base 0 mm Y:=⟨M.h0,M.h1,M.h2,M.h3,M.b4,M.hb,List.nodup_cons.2 ⟨fun hm=>by have:=aj (hC.cl.on _ hm);omega,M.cl.nd⟩,fun b a=>by
    rcases anK.1 a with rfl | a
    ·exact rd
    ·exact M.cl.on b a⟩
   obtain⟨r,H',he,rfl,O⟩:=zX (b:=bx+2) (bx:=bx) (g:=g') (l:=d) (H:=Y)
    (PP:=fun i H=>∃ m T,CH p ((bx+1)::bs) bb base 0 m H∧H[bx]?=aa (.box [.f (sl g' (ints d))] 0)∧H[bx+2]?=aa (.lp 130 y [P.nat 54,P.nat 55] cO cP .ready ab (bx+2-1))∧i≤d.length∧m+(d.length-i)=mm ∧
     (0<i→lU p.head p.fr j d m T base (i-1))∧(i=0→lU p.head p.fr j d m T (base-j) (d.length-1)∧-1099511627776≤base))
    (EX:=fun H=>∃ m s,CH p ((bx+1)::bs) bb base s m H∧Stop p.head p.fr j d m s∧H[bx+2]?=aa (.lp 130 y [P.nat 54,P.nat 55] cO cP .done (aa (.exit 0)) (bx+2-1)))
    (by omega) (fun i H h=>by obtain⟨m,T,-,h,-⟩:=h;exact⟨_,h⟩)
    ⟨mm,T0,a8,rx,rl,anl _,by omega,fun _=>c9,fun h=>by omega⟩
    (fun i hi H1 ⟨m,T,h1,h2,h3,h4,h5,h6,h7⟩=>by
     have N:=h6 (by omega);obtain⟨r,H2,d_,hr⟩:=Bq hp v u (B:=bx+2) (by omega) b_ h1 N h3 i;refine⟨r,H2,d_,?_⟩;rcases hr with⟨rfl,m',rfl,⟨U,S⟩,X,Z,I⟩ | ⟨rfl,s,X,Z,I⟩
     ·refine .inl ⟨rfl,m',p.head[m'],X,I bx _ _ (by omega) h2,Z,by omega,by omega,fun k=>?_,fun k=>?_⟩
      ·obtain⟨i',rfl⟩:∃ i',i=i'+1:=⟨i-1,by omega⟩
       exact N.down q6 v.up W v.mem U S
      ·subst k;have hx:=(q7 _ (IS U)).1;have hy:=v.mem _ (IS (l:=d) (n:=0) f);refine⟨N.wrap q6 v.up W v.mem U S,?_⟩;have h_:p.head[m']=base+d[0]:=S;omega
     ·exact .inr ⟨rfl,m,s,X,Z,I⟩)
   have F:(J++[bV.box [.f (sl g' (ints d))] 0]).length=bx+1:=by simp [E]
   have d9:Ev tab (.fn 214) [.c (.yl ((J++[bV.box [.f (sl g' (ints d))] 0]).length+1)),.c (.ptr bx 0 0)] (J++[.box [.f (sl g' (ints d))] 0]++[.eo ae,.lp 130 y [P.nat 54,P.nat 55] cO cP .ready ab (J++[bV.box [.f (sl g' (ints d))] 0]).length]) (.t []) H':=by
    rw [F];rw [A]at he;exact he
   refine dZ (g:=214) (by rw [oA,a7];simp [bO]) d9 ?_;rw [F];rcases O with⟨m,T,X,Z,I,-,k5,-,k7⟩ | ⟨m,s,X,Z,I⟩
   ·obtain⟨k8,k9⟩:=k7 rfl;refine ff I (by decide) ?_;have kC:=X.set (z:=.lp 130 y [P.nat 54,P.nat 55] cO cP .exhausted ab (bx+2-1)) I rfl (by simp) (by simp);generalize H'.set (bx+2) (.lp 130 y [P.nat 54,P.nat 55] cO cP .exhausted ab (bx+2-1))=HE at kC ⊢;refine ax (ax (au ?_));have c:=kC.hb;have f7:aU HE ab (.c (.ptr bb 0 0))=aa (vi base):=by simp [aU,aH,c]
    have i8:=aj c;apply ai;simp [u.g8,f7,-az];refine aq (.inl rfl) ?_;simp;refine aq (.inl rfl) ?_;have f_:=k8.bt;have f8:=k8.tf;have g_:=(v.mem _ (IS (l:=d) (n:=d.length-1) (by omega))).1;simp [u.g5,aP (n:=base-j)];have o:=kC.push [.box [.f (fi (base-j))] 0];refine ih m _ (by omega) ⟨_,(bx+1)::bs,HE.length,_,T,base-j,rfl,⟨by simp [u.g1],by simp [u.g2],by simp [u.g3],by simp [u.g5],by simp [u.g6],by simp [u.g7],by simp⟩,⟨o.h0,o.h1,o.h2,o.h3,by omega,by simp,o.cl⟩,k8,by omega⟩
   ·refine pM I (by decide) ?_;have kC:=X.set (z:=.lp 130 y [P.nat 54,P.nat 55] cO cP .exhausted (aa (.exit 0)) (bx+2-1)) I rfl (by simp) (by simp);refine bh rfl ?_;exact Bv hp hl v (by omega) kC Z u hQ
  exact range _ (a_ _ (by simp) (by simp) (by simp) (by simp) (by simp) (by simp) (by simp)) (by simp)
 exact⟨q,hq,ha,a,h⟩
theorem mh(p:aI)(s:cL p=ae)(l:p.bg.length≤256)(m:p.head.length≤1000000):∃ q,lQ p q∧q.bg.length≤p.bg.length∧q.head.length≤p.head.length∧bW tab 130 [.a (p.row.map .f)]=Eq (.a (q.row.map .f)):=by
 rcases aoJ p.bg.length with h | h
 ·obtain⟨q,b,d,g,j⟩:=JF p s (aoe.1 h) m;exact⟨q,b,d,g,j.eq⟩
 ·obtain⟨q,b,d,g,j⟩:=JC p s h l m;exact⟨q,b,d,g,j.eq⟩
theorem UW(p:aI)(d:cL p=ae)(b:p.bg.length≤256)(v:p.head.length≤1000000):∃ q,lQ p q∧q.bg.length≤p.bg.length∧q.head.length≤p.head.length∧bW tab 85 [.a (p.row.map .f)]=Eq (.t [.a (q.row.map .f),vi 0]):=by
 obtain⟨q,l,m,s,j⟩:=mh p d b v;have g:=qW p (jF d);rw [d]at g;refine⟨q,l,m,s,bW.eq (cd rfl rfl fun Q u=>?_)⟩;simp only [aI.row,ano,anC]at g j ⊢;apply ai;simp;apply au;apply ai;simp [g];refine aX (by simp) ?_;apply ai;simp [j];refine aE (u _ _ ?_);simp [aI.row]
theorem Kx{p:aI}(X:cL p=ae){g:Int}(S:0≤g){i:Nat}(hi:i≤p.head.length)(A:∀ j (h:j<p.head.length),j<i→p.head[j]<g)(y:∀ j (h:j<p.head.length),i≤j→g≤p.head[j]){fr:Int}(U:fr=max p.fr g){q:List Int}(l:q.Perm (eK p.fr fr p.aL p.bg))(z:q.Pairwise (·≤·))(H:g≤1099511627776)(I E:Tg) :
  cL ⟨I,p.head.drop i,fr,p.aL,E,q⟩=ae∧(∀ d,0≤d→bK ⟨I,p.head.drop i,fr,p.aL,E,q⟩ d=(decide (g≤d)&&bK p d))∧q.length=p.bg.length:=by
 obtain⟨e,f,v,M,n,N,F,O,Q⟩:=aY X;have s:∀ x ∈ p.bg,0≤x∧x<p.aL:=fun x B=>by have:=Q x B;omega
 obtain⟨Z,c,K⟩:=ox v O s l z;refine⟨qf (by show 0≤fr;omega) (by show fr≤_;omega) v M (by show(p.head.drop i).length+q.length≤_;rw [anE,K];omega) (N.sublist (List.drop_sublist _ _)) (fun x B=>?_) Z c,fun d hd=>?_,K⟩
 ·have:=F x (anY B);exact⟨by omega,by show x<fr;omega⟩
 ·have Y:(d-fr) % p.aL ∈ q↔sU p.fr p.aL p.bg d:=by rw [l.mem_iff];exact uH v s d
  have m:d ∈ p.head.drop i↔g≤d∧d ∈ p.head:=by
   constructor
   ·intro h;obtain⟨j,u,rfl⟩:=anB h;rw [aoT];exact⟨y _ (by simp at u;omega) (by omega),IS _⟩
   ·rintro⟨h,L⟩;obtain⟨j,u,rfl⟩:=anB L;have W:i≤j:=by
     rcases anQ j i with k | k
     ·have:=A j u k;omega
     ·exact k
    refine List.mem_of_getElem? (i:=j-i) ?_;rw [List.getElem?_drop,show i+(j-i)=j by omega,By u]
  unfold bK;simp only;rw [Bool.eq_iff_iff];simp only [If,decide_eq_true_eq];by_cases k:fr≤d
  ·rw [bf k,bf (by omega),decide_eq_true_eq,decide_eq_true_eq,Y];exact⟨fun h=>⟨by omega,h⟩,fun h=>h.2⟩
  ·rw [aT k,decide_eq_true_eq,m];by_cases J:p.fr≤d
   ·rw [bf J,decide_eq_true_eq];constructor
    ·rintro⟨a,b⟩;have:=F d b;omega
    ·rintro⟨a,b⟩;omega
   ·rw [aT J,decide_eq_true_eq]
structure LQ(p:aI)(H:an)(b0 bq:Nat)(fr:Int)(c cq:C)(hd ke:List Int)(J:an):Prop where
 hb:b0=H.length
 kp:∀ i:Nat,i<b0→J[i]?=H[i]?
 bp:J[b0]?=aa (.box [.f (sl p.hg (ints p.head)),.f (fi p.fr),.f (fi p.aL),.f (sl p.cg (ints p.bg))] 0)
 br:J[b0+1]?=aa (.box [.f .aC,.f (fi 0),.f (fi 0),.f .aC] 0)
 bx:J[bq]?=aa (.box [c,.f (fi fr),.f (fi p.aL),cq] 0)
 big:b0+1<bq
 lc:LR J c 1 (ints hd)
 lq:LR J cq 1 (ints ke)
 ne:∀ i,aV c=aa i→aV cq≠aa i
 cb:∀ i,aV c=aa i→b0+1<i
 qb:∀ i,aV cq=aa i→b0+1<i
theorem LQ.app{p:aI}{H:an}{b0 v:Nat}{fr:Int}{c E:C}{hd ke:List Int}{J:an}(h:LQ p H b0 v fr c E hd ke J)(hl:ke.length≤1000)(n:Int) :
  ∃ m j,bF (J++[.box [.f (fi n)] 0]) 1 8 (.c E) (.c (.sl J.length 0 1 1 0 1))=aa (.c m,j)∧cZ j (.ptr v 3 0) [m]=aa (j.set v (.box [c,.f (fi fr),.f (fi p.aL),m] 0))∧LQ p H b0 v fr c m hd (ke++[n]) (j.set v (.box [c,.f (fi fr),.f (fi p.aL),m] 0)):=by
 obtain⟨B,b⟩:=aM (J++[.box ([fi n].map .f) 0]:an);have M:=aj h.bx;have hg:=h.big;have up:∀(i:Nat) y,J[i]?=aa y→B[i]?=aa y:=fun i y hy=>by rw [b,AT (aj hy)];exact hy
 have x:LR B E 1 (ints ke):=by rw [b];exact h.lq.push _
 have F:B[J.length]?=aa (.box ([fi n].map .f) 0):=by rw [b];simp
 obtain⟨m,j,l,s,q,A⟩:=x.app (Km.Ord.bY ke) (by decide) (row:=[fi n]) rfl (bytes:=8) (dH (by simp [ints];omega) (by decide)) F;have h2:B.length=J.length+1:=by rw [b];simp
 have u:∀(i:Nat) y,J[i]?=aa y→iQ y=ae→j[i]?=aa y:=fun i y hy L=>q.2 i y (up _ _ hy) (kX x (up _ _ hy) L);have d:=u _ _ h.bx rfl;have K:ints ke++[[fi n]]=ints (ke++[n]):=by simp [ints]
 rw [K]at s;have z:LR j c 1 (ints hd):=h.lc.ba fun i y hy hi=>q.2 i y (up _ _ hy) (h.ne i hi);refine⟨m,j,by rw [b]at l;exact l,by simp [cZ,d,over],h.hb,fun i hi=>?_,?_,?_,BY (aj d),hg,z.set (z.bA d) _,s.set (s.bA d) _,?_,h.cb,?_⟩
 ·rw [sh (by omega),←h.kp i hi];have I:i<J.length:=by omega
  have hy:J[i]?=aa J[i]:=By I;rw [hy];exact q.2 i _ (up _ _ hy) (fun e=>by have:=h.qb i e;omega)
 ·rw [sh (by omega)];exact u _ _ h.bp rfl
 ·rw [sh (by omega)];exact u _ _ h.br rfl
 ·intro i hi g;rcases A with e | e
  ·rw [e]at g;exact h.ne i hi g
  ·rw [e]at g;cases g;have:=h.lc.lt hi;omega
 ·intro i hi;rcases A with e | e
  ·rw [e]at hi;exact h.qb i hi
  ·rw [e]at hi;cases hi;omega
theorem tK(p:aI)(hp:cL p=ae)(n9:p.bg.length≤256)(hl:p.head.length≤1000000)(m:Int)(i9:0≤m)(i_:m≤1099511627776)(H:an) :
  ∃ r H',Ev tab (.fn 150) [.a (p.row.map .f),vi m] H r H'∧(∃ fr c b hd l2,r=.a [c,.f (fi fr),.f (fi p.aL),b]∧fr=max p.fr m∧H.length≤H'.length∧(∀ i:Nat,i<H.length→H'[i]?=H[i]?)∧LR H' c 1 (ints hd)∧LR H' b 1 (ints l2)∧(∀ i,aV c=aa i→aV b≠aa i)∧(∀ i,aV c=aa i→H.length≤i)∧(∀ i,aV b=aa i→H.length≤i) ∧
   hd.length≤p.head.length∧l2.length=p.bg.length∧∀ S L:Tg,cL ⟨S,hd,fr,p.aL,L,l2⟩=ae∧∀ d,0≤d→bK ⟨S,hd,fr,p.aL,L,l2⟩ d=(decide (m≤d)&&bK p d)):=by
 obtain⟨q1,q2,q3,q4,q5,q6,q7,q8,q9⟩:=aY hp;obtain⟨i,hi,j_,j7,i3⟩:=gd p.hg p.head m (by omega) q6;obtain⟨fr,O⟩:=aM (max p.fr m);have f7:max p.fr m=fr:=O.symm;refine cM rfl rfl fun Q hQ=>?_;apply ai;simp [aI.row];obtain⟨A,s⟩:=aM (H++[.box [.f (sl p.hg (ints p.head)),.f (fi p.fr),.f (fi p.aL),.f (sl p.cg (ints p.bg))] 0,.box [.f .aC,.f (fi 0),.f (fi 0),.f .aC] 0]:an);obtain⟨b0,v⟩:=aM (H.length);rw [←s,←v];have a0:A[b0]?=aa (.box [.f (sl p.hg (ints p.head)),.f (fi p.fr),.f (fi p.aL),.f (sl p.cg (ints p.bg))] 0):=by rw [s,v];simp
 have a1:A[b0+1]?=aa (.box [.f .aC,.f (fi 0),.f (fi 0),.f .aC] 0):=by rw [s,v,ann (by omega)];simp
 have al:A.length=b0+2:=by rw [s,v];simp
 have ak:∀ i:Nat,i<b0→A[i]?=H[i]?:=fun i hi=>by rw [s,AT (by omega)]
 have I:∀ J:an,J[b0]?=aa (.box [.f (sl p.hg (ints p.head)),.f (fi p.fr),.f (fi p.aL),.f (sl p.cg (ints p.bg))] 0)→aU J ab (.c (.ptr b0 0 0))=aa (.c (.f (sl p.hg (ints p.head))))∧aU J ab (.c (.ptr b0 1 0))=aa (vi p.fr)∧aU J ab (.c (.ptr b0 2 0))=aa (vi p.aL)∧aU J ab (.c (.ptr b0 3 0))=aa (.c (.f (sl p.cg (ints p.bg)))):=fun J h=>by
  refine⟨?_,?_,?_,?_⟩<;>simp [aU,aH,h]
 obtain⟨e0,e1,e2,e3⟩:=I A a0;obtain⟨g1,F⟩:=yI (H:=A) (g:=p.hg) (k:=i) (Km.Ord.bY p.head) (by simp [ints];omega) (by simp [ints];omega);have j4:(ints p.head).drop i=ints (p.head.drop i):=by simp [ints,api]
 rw [j4]at F;obtain⟨c,Jc,E,a_,d_⟩:=qR (H:=A) (g:=g1) (p.head.drop i) (by simp;omega);obtain⟨HJ,N⟩:=aM (A++Jc:an);rw [←N]at E a_;have u:∀ k:Nat,k<b0+2→HJ[k]?=A[k]?:=fun k q=>by rw [N,AT (by omega)]
 have lJ:b0+2≤HJ.length:=by rw [N,List.length_append];omega
 obtain⟨f0,f1,f2,f3⟩:=I HJ (by rw [u b0 (by omega)];exact a0);apply ai;simp [e0,-az,i3];refine au (ew (.inl rfl) ?_ ?_)
 case refine_2=>
  intro cc i7;have i6:cc=(6,4)∨cc=(10,4):=by simpa using i7
  rcases i6 with rfl | rfl
  ·refine⟨by decide,_,rfl,.inr ⟨by decide,?_⟩⟩;simp [e0,e1,f1,-az,F,E,fE,qP]
  ·refine⟨by decide,_,rfl,.inr ⟨by decide,?_⟩⟩;simp [e0,e1,e2,f1,f2,-az,F,E,f7,fE,qP]
 simp [e0,f1,f2,-az,F,E,f7];obtain⟨K,e_⟩:=aM (HJ.length);obtain⟨HK,B⟩:=aM (HJ++[bV.box [c,.f (fi fr),.f (fi p.aL),.f .aC] 0]);have a8:LQ p H b0 K fr c (.f .aC) (p.head.drop i) [] HK:=by
  have w:∀ k:Nat,k<b0+2→HK[k]?=A[k]?:=fun k q=>by rw [B,AT (by omega),u k q]
  refine⟨v,fun k q=>by rw [w k (by omega),ak k q],by rw [w b0 (by omega)];exact a0,by rw [w (b0+1) (by omega)];exact a1,by rw [B,e_];simp,by omega,by rw [B];exact a_.push _,LR.nil _ _,(fun i hi h=>by cases h),fun k q=>by have:=d_ k q;omega,(fun k q=>by cases q)⟩
 rw [←e_,←B];have h_:∀ H:an,bu H (.f (sl p.cg (ints p.bg)))=aa p.bg.length:=fun H=>by simp [ints]
 have j8:=(I HK a8.bp).2.2.2;apply au;apply ai;simp [j8,-az,h_];refine b7 p.bg.length (fun i' t J=>t.g 2=.c (.ptr b0 0 0)∧t.g 4=.c (.ptr (b0+1) 0 0)∧t.g 7=.c (.ptr K 0 0)∧t.g 30=.c (.f (sl p.cg (ints p.bg)))∧∃ b,LQ p H b0 K fr c b (p.head.drop i) (eK p.fr fr p.aL (p.bg.take i')) J) (by omega) (by decide) (by decide) (by simp) (by simp)
  ⟨by simp,by simp,by simp,by simp,.f .aC,by simpa [eK]using a8⟩ ?_ ?_
 ·rintro j t J hj ⟨g2,g4,g7,M,b,l⟩ ha hb next
  have i8:=q9 _ (IS hj);have f_:=fun H:an=>bG (H:=H) (g:=p.cg) (rows:=ints p.bg) (sz:=1) (k:=.i64) (i:=(j:Int)) (by omega) (by simp [ints];omega);have g_:=fun H:an=>ey (H:=H) hj;simp at f_;obtain⟨x,hx⟩:=aM (p.bg[j]);rw [←hx]at i8 g_;have m_:p.bg.take (j+1)=p.bg.take j++[x]:=by rw [anu,By hj,hx];rfl
  have f8:=AZ (p.fr+x-fr) p.aL (by omega) (by omega);obtain⟨c3,H3,d9,m9,l_⟩:=l.app (by simp [eK];omega) ((p.fr+x-fr) % p.aL);have Y:aU J ab (.c (.ptr K 3 0))=aa (.c b):=by simp [aU,aH,l.bx]
  have n8:aU J ab (.c (.ptr K 1 0))=aa (vi fr):=by simp [aU,aH,l.bx]
  obtain⟨-,j1,j2,-⟩:=I J l.bp;refine ay ?_;apply ai;simp [ha,M,f_,g_];refine aq (.inl rfl) ?_;simp [g2,g7,Y,n8,j1,j2,-az,aP (n:=p.fr+x),aP (n:=p.fr+x-fr),f8,d9,m9,-a6];refine ax (next _ _ ?_ (by simp [ha]) (by simp [hb]));refine⟨by simp [g2],by simp [g4],by simp [g7],by simp [M],c3,?_⟩;rw [m_];simpa [eK]using l_
 ·rintro t J ⟨g2,g4,g7,M,b,l⟩ - -;rw [ant]at l;obtain⟨r,Z,he,rfl,hK,l2,a7,W,j9⟩:=W3 l.lq (by simp [eK];omega);have up:∀(k:Nat) y,J[k]?=aa y→iQ y=ae→Z[k]?=aa y:=fun k y X hn=>hK.2 k y X (kX l.lq X hn);have i4:=up _ _ l.bx rfl;have z:=up _ _ l.br rfl;have b_:LR Z c 1 (ints (p.head.drop i)):=l.lc.ba fun k y X q=>hK.2 k y X (l.ne k q);have Y:aU J ab (.c (.ptr K 3 0))=aa (.c b):=by simp [aU,aH,l.bx]
  have n6:aU Z (aa 4) (.c (.ptr K 0 0))=aa (.a [c,.f (fi fr),.f (fi p.aL),b]):=by simp [aU,aH,i4,aW]
  have s1:cZ Z (.ptr (b0+1) 0 0) [c,.f (fi fr),.f (fi p.aL),b]=aa (Z.set (b0+1) (.box [c,.f (fi fr),.f (fi p.aL),b] 0)):=by simp [cZ,z,over]
  have n1:(Z.set (b0+1) (.box [c,.f (fi fr),.f (fi p.aL),b] 0))[b0+1]?=aa (.box [c,.f (fi fr),.f (fi p.aL),b] 0):=BY (aj z);have c9:=b_.set (b_.bA z) (.box [c,.f (fi fr),.f (fi p.aL),b] 0);have c_:=a7.set (a7.bA z) (.box [c,.f (fi fr),.f (fi p.aL),b] 0);have n_:=aj z;apply ai;simp [g7,Y,-az,he.eq];apply ai;simp [g4,g7,n6,s1,-az,-a6];have U:=fun S L=>Kx hp i9 hi j_ j7 O W j9 i_ S L;refine aE (hQ _ _ (.a [c,.f (fi fr),.f (fi p.aL),b]) rfl ?_ ⟨fr,c,b,p.head.drop i,l2,rfl,O,by simp;omega,fun k q=>?_,c9,c_,l.ne,fun k q=>by have:=l.cb k q;omega,fun k q=>by have:=l.qb k q;omega,by simp,(U .nil .nil).2.2,fun S L=>⟨(U S L).1,(U S L).2.1⟩⟩)
  ·simp [Km.results,cr,aZ,g4,n1,aW]
  ·rw [sh (by omega),←l.kp k (by omega)];have k_:k<J.length:=by have:=aj l.bp;omega
   have X:J[k]?=aa J[k]:=By k_;rw [X];exact hK.2 k _ X (fun e=>by have:=l.qb k e;omega)
theorem tM{J:an}{c:C}{l:List Int}(h:LR J c 1 (ints l)){j:Nat}(B:j<l.length):∃ b g,aV c=aa b∧bC J 1 ab (.c c) (vi j)=aa (.c (.ptr b j g))∧aU J ab (.c (.ptr b j g))=aa (vi l[j]) ∧
  ∀ x:Int,∃ J',cZ J (.ptr b j g) [.f (fi x)]=aa J'∧LR J' c 1 (ints (l.set j x))∧J'.length=J.length∧∀ i:Nat,i≠b→i<J.length→J'[i]?=J[i]?:=by
 rcases h with⟨A,_⟩ | ⟨s,b,g,rfl,q⟩
 ·cases l with
  | nil=>simp at B| cons a l=>simp [ints]at A
 ·have d:j<(ints l).length:=by simp [ints];omega
  have u:=q.at d;have m:(ints l)[j]=[fi l[j]]:=by simp [ints]
  have v:=q.ldc (Km.Ord.bY l) (By d) (k:=0) (x:=fi l[j]) (by rw [m];rfl);rw [ao2]at u v;refine⟨b,g,rfl,u,v,fun x=>?_⟩
  ·obtain⟨J',y,z,F,H⟩:=q.str (row:=[fi x]) (Km.Ord.bY l) d rfl;rw [ao2]at y;have e:(ints l).set j [fi x]=ints (l.set j x):=by simp [ints,List.map_set]
   rw [e]at z;refine⟨J',y,.inr ⟨?_,b,g,by simp [ints],z⟩,H,fun i hi E=>F.2 i hi E⟩;intro h;apply s;have:=congrArg List.length h;simp [ints]at this;rw [this];rfl
theorem K7{p:aI}{hd u:List Int}{fr g:Int}(K:g≤0)(q m:Tg)(J:cL ⟨q,hd,fr,p.aL,m,u⟩=ae)(N:∀ d,0≤d→bK ⟨q,hd,fr,p.aL,m,u⟩ d=(decide (-g≤d)&&bK p d))(M:-g≤fr)(j:∀ x ∈ hd,-g≤x) :
  cL ⟨q,hd.map (· + g),fr+g,p.aL,m,u⟩=ae∧∀ d,0≤d→bK ⟨q,hd.map (· + g),fr+g,p.aL,m,u⟩ d=bK p (d-g):=by
 obtain⟨O,Q,z,A,B,E,F,H,I⟩:=aY J;simp only at O Q z A B E F H I;refine⟨qf (by show 0≤fr+g;omega) (by show fr+g≤_;omega) z A (by simpa using B) ?_ ?_ H (fun x l=>by have:=I x l;exact⟨by omega,by show x<p.aL;omega⟩),fun d L=>?_⟩
 ·show(hd.map (· + g)).Pairwise (· < ·);rw [List.pairwise_map];exact apK (fun h=>by omega) E
 ·intro x l;have l:x ∈ hd.map (· + g):=l;obtain⟨y,s,rfl⟩:=anv.1 l;have a:=F y s;have b:=j y s;exact⟨by omega,by show y+g<fr+g;omega⟩
 ·have v:=N (d-g) (by omega);rw [decide_eq_true (show -g≤d-g by omega),aol]at v;rw [←v];unfold bK;simp only;by_cases k:fr+g≤d
  ·rw [bf k,bf (by omega),show d-(fr+g)=d-g-fr by omega]
  ·rw [aT k,aT (by omega)];apply decide_eq_decide.2;rw [anv];constructor
   ·rintro⟨y,s,e⟩;rw [show d-g=y by omega];exact s
   ·intro h;exact⟨_,h,by omega⟩
theorem V0{J:an}{c:C}{l:List Int}(h:LR J c 1 (ints l)):∀(i:Nat) (y:bV),J[i]?=aa y→aV c≠aa i→(fo deep c J)[i]?=aa y:=by
 rcases h with⟨_,rfl | rfl⟩ | ⟨u,b,s,rfl,q⟩
 ·intro i y d _;exact d
 ·intro i y d _;exact d
 ·unfold RB at q;intro i y d hi;have g:b≠i:=fun e=>hi (by rw [e];rfl);have e:∃ z,fo deep (.sl b 0 (ints l).length 0 s 1) J=J.set b z:=by
   simp only [deep,pW,q];rw [jA]
   ·exact⟨_,rfl⟩
   ·intro x j;have j:=anY (aoi j);obtain⟨m,_,rfl⟩:=anv.1 j;exact⟨_,rfl⟩
  obtain⟨z,v⟩:=e;rw [v,sh g];exact d
theorem KZ(p:aI)(hp:cL p=ae)(d_:p.bg.length≤256)(hl:p.head.length≤1000000)(g:Int)(j9:-1000000≤g)(d9:g≤0) :
  ∃ q,cL q=ae∧q.fr≤p.fr∧q.aL ∣ p.aL∧q.bg.length≤p.bg.length∧q.head.length≤p.head.length∧(∀ d,0≤d→bK q d=bK p (d-g))∧bW tab 106 [.a (p.row.map .f),vi g]=Eq (.t [.a (q.row.map .f),vi 0]):=by
 obtain⟨q1,q2,q3,q4,q5,q6,q7,q8,q9⟩:=aY hp;have hv:=qW p (jF hp);rw [hp]at hv;obtain⟨rr,⟨q,c1,c2,c3,c4,c5,c6,rfl⟩,h⟩:∃ rr,(∃ q,cL q=ae∧q.fr≤p.fr∧q.aL ∣ p.aL∧q.bg.length≤p.bg.length∧q.head.length≤p.head.length∧(∀ d,0≤d→bK q d=bK p (d-g))∧rr=.t [.a (q.row.map .f),vi 0])∧bW tab 106 [.a (p.row.map .f),vi g] rr:=by
  refine eV rfl rfl fun Q hQ=>?_;obtain⟨HA,L⟩:=aM ([.box [.f (sl p.hg (ints p.head)),.f (fi p.fr),.f (fi p.aL),.f (sl p.cg (ints p.bg))] 0,.box [.f .aC,.f (fi 0),.f (fi 0),.f .aC] 0]:an);obtain⟨r,HL,u,fr,c,E,hd,l2,rfl,k_,j4,g_,c9,c_,w,j_,m_,l_,m9,m⟩:=tK p hp d_ hl (-g) (by omega) (by omega) HA;have u:=u.eq;simp only [aI.row,ano,anC]at u hv ⊢;have j7:HA.length=2:=by rw [L];rfl
  have N:∀ x ∈ hd,-g≤x:=fun x hx=>by
   obtain⟨a,b⟩:=m .nil .nil;obtain⟨-,-,-,-,-,-,k7,-,-⟩:=aY a;have h7:=k7 x hx;simp only at h7;have hb:=b x (by omega);have hm:bK ⟨.nil,hd,fr,p.aL,.nil,l2⟩ x=ae:=by
    unfold bK;simp only;rw [aT (by omega)];simpa using hx
   rw [hm]at hb;have:=hb.symm;rw [If,decide_eq_true_eq]at this;exact this.1
  have i3:∀ x ∈ hd,x≤2000000000000:=fun x hx=>by
   obtain⟨-,-,-,-,-,-,k7,-,-⟩:=aY (m .nil .nil).1;have h7:=k7 x hx;simp only at h7;omega
  apply ai;simp;apply au;apply ai;simp [hv,show¬ g < -1099511627776 by omega,show¬ 1099511627776<g by omega];refine aX (by simp) ?_;rw [←L];have a0:HA[0]?=aa (.box [.f (sl p.hg (ints p.head)),.f (fi p.fr),.f (fi p.aL),.f (sl p.cg (ints p.bg))] 0):=by rw [L];rfl
  have a1:HA[1]?=aa (.box [.f .aC,.f (fi 0),.f (fi 0),.f .aC] 0):=by rw [L];rfl
  have h_:max (-g) 0 = -g:=by omega
  have a7:unV .neg (vi g)=aa (vi (-g)):=by
   show aa (vi (IntKind.i64.wrap (0-g)))=_;rw [Int.zero_sub,aP]
  apply ai;simp [a0,aW,a7,h_,u];obtain⟨l,k⟩:=aM (HL.length);rw [←k];obtain⟨K,U⟩:∃ K:Int→List Int→an→Prop,K=fun f h J=>J[1]?=aa (.box [.f .aC,.f (fi 0),.f (fi 0),.f .aC] 0)∧J[l]?=aa (.box [c,.f (fi f),.f (fi p.aL),E] 0)∧LR J c 1 (ints h)∧LR J E 1 (ints l2):=⟨_,rfl⟩
  have k0:K fr hd (HL++[.box [c,.f (fi fr),.f (fi p.aL),E] 0]):=by
   rw [U];exact⟨by rw [AT (by omega),g_ 1 (by omega)];exact a1,by rw [k];simp,c9.push _,c_.push _⟩
  generalize HL++[bV.box [c,.f (fi fr),.f (fi p.aL),E] 0]=H1 at k0 ⊢;have o:∀ f h J,K f h J→∀ Y,cZ J (.ptr l 1 0) [.f (fi Y)]=aa (J.set l (.box [c,.f (fi Y),.f (fi p.aL),E] 0))∧K Y h (J.set l (.box [c,.f (fi Y),.f (fi p.aL),E] 0)):=by
   intro f h J z Y;rw [U]at z ⊢;obtain⟨F,s,v,H⟩:=z;refine⟨by simp [cZ,s,over],by rw [sh (by omega)];exact F,BY (aj s),v.set (v.bA s) _,H.set (H.bA s) _⟩
  have M:∀ f h J,K f h J→aU J ab (.c (.ptr l 0 0))=aa (.c c)∧aU J ab (.c (.ptr l 1 0))=aa (vi f)∧aU J (aa 4) (.c (.ptr l 0 0))=aa (.a [c,.f (fi f),.f (fi p.aL),E])∧bu J c=aa h.length:=by
   intro f h J z;rw [U]at z;obtain⟨F,s,v,H⟩:=z;refine⟨?_,?_,?_,?_⟩
   ·simp [aU,aH,s]
   ·simp [aU,aH,s]
   ·simp [aU,aH,s,aW]
   ·have:=v.len;simpa [ints]using this
  obtain⟨-,e1,-,-⟩:=M _ _ _ k0;obtain⟨s1,k1⟩:=o _ _ _ k0 (fr+g);apply ai;simp [e1,-az,aP (n:=fr+g),s1,-a6];generalize H1.set l (.box [c,.f (fi (fr+g)),.f (fi p.aL),E] 0)=H2 at k1 ⊢;obtain⟨f0,-,-,fl⟩:=M _ _ _ k1;apply au;apply ai;simp [f0,-az,fl];refine b7 hd.length (fun j t J=>t.g 1=vi g∧t.g 4=.c (.ptr 1 0 0)∧t.g 6=.c (.ptr l 0 0)∧K (fr+g) ((hd.take j).map (· + g)++hd.drop j) J) (by omega) (by decide) (by decide) (by simp) (by simp) ⟨by simp,by simp,by simp,by simpa using k1⟩ ?_ ?_
  ·rintro j t J hj ⟨g1,g4,S,z⟩ ha hb next
   have f_:j<((hd.take j).map (· + g)++hd.drop j).length:=by simp;omega
   have a_:((hd.take j).map (· + g)).length=j:=by simp;omega
   have f8:((hd.take j).map (· + g)++hd.drop j)[j]=hd[j]:=by
    rw [List.getElem_append_right (by omega)];simp only [a_,Nat.sub_self,aoT,Nat.add_zero]
   have n6:=N _ (IS hj);have n8:=i3 _ (IS hj);obtain⟨i4,-,-,-⟩:=M _ _ _ z;have B:=z;rw [U]at B;obtain⟨F,s,v,H⟩:=B;obtain⟨b,ep,ub,ix,b_,i_⟩:=tM v f_;rw [f8]at b_;obtain⟨J',us,uL,ul,uk⟩:=i_ (hd[j]+g);have a8:((hd.take j).map (· + g)++hd.drop j).set j (hd[j]+g)=(hd.take (j+1)).map (· + g)++hd.drop (j+1):=by
    rw [List.set_append_right _ _ (by omega),a_,Nat.sub_self,anu,By hj,List.drop_eq_getElem_cons hj];simp only [List.set_cons_zero,Option.toList_some,List.map_append,ano,anC,anV,List.cons_append,List.nil_append]
   rw [a8]at uL;refine ay ?_;apply ai;simp [ha];refine aq (.inl rfl) ?_;simp [g1,S,i4,ix,b_,-az,aP (n:=hd[j]+g),us,-a6];refine ax (next _ _ ?_ (by simp [ha]) (by simp [hb]));refine⟨by simp [g1],by simp [g4],by simp [S],?_⟩;rw [U];refine⟨?_,?_,uL,H.ba fun i y O hi=>?_⟩
   ·rw [uk 1 (fun e=>by have:=v.bA F;exact this (e▸ub)) (aj F)];exact F
   ·rw [uk l (fun e=>by have:=v.bA s;exact this (e▸ub)) (aj s)];exact s
   ·rw [uk i (fun e=>w b ub (e▸hi)) (aj O)];exact O
  ·rintro t J ⟨g1,g4,S,z⟩ - -;rw [ant,List.drop_length,List.append_nil]at z;obtain⟨-,-,i6,-⟩:=M _ _ _ z;have B:=z;rw [U]at B;obtain⟨F,s,v,H⟩:=B;obtain⟨g3,e_⟩:=v.Xl (Km.Ord.bY _);obtain⟨I,f7⟩:=H.Xl (Km.Ord.bY _);have x3:=e_ J 63 (fun i y O _=>O);have x4:=f7 J 63 (fun i y O _=>O);obtain⟨i8,i9⟩:=K7 (p:=p) d9 g3 I (m g3 I).1 (m g3 I).2 (by omega) N;obtain⟨q,⟨d1,d2,d3,d4⟩,d5,d6,A⟩:=mh ⟨g3,hd.map (· + g),fr+g,p.aL,I,l2⟩ i8 (by show l2.length≤_;omega) (by show(hd.map (· + g)).length≤_;simp;omega);simp only [aI.row,ano,anC]at A d2 d3 d5 d6;simp only [anq]at d6;have u3:∀(i:Nat) (y:bV),J[i]?=aa y→aV c≠aa i→(fo deep c J)[i]?=aa y:=V0 v;apply au;apply ai;simp only [deep]at u3 A;have i7:LR (fo 64 c J) E 1 (ints l2):=H.ba fun i y O hi=>u3 i y O (fun e=>w i e hi);have u4:=V0 i7;simp only [deep]at u4;have w1:=u4 1 _ (u3 1 _ F (v.bA F)) (H.bA F);have w2:=u4 l _ (u3 l _ s (v.bA s)) (H.bA s);obtain⟨W,Z⟩:=aM (fo 64 E (fo 64 c J));rw [←Z]at w1 w2;obtain⟨QC,j8⟩:=aM ([.f (sl q.hg (ints q.head)),.f (fi q.fr),.f (fi q.aL),.f (sl q.cg (ints q.bg))]:List C);have t1:cZ W (.ptr l 0 0) [.f (sl q.hg (ints q.head)),.f (fi q.fr),.f (fi q.aL),.f (sl q.cg (ints q.bg))]=aa (W.set l (.box [.f (sl q.hg (ints q.head)),.f (fi q.fr),.f (fi q.aL),.f (sl q.cg (ints q.bg))] 0)):=by simp [cZ,w2,over]
   have t2:(W.set l (.box [.f (sl q.hg (ints q.head)),.f (fi q.fr),.f (fi q.aL),.f (sl q.cg (ints q.bg))] 0))[l]?=aa (.box [.f (sl q.hg (ints q.head)),.f (fi q.fr),.f (fi q.aL),.f (sl q.cg (ints q.bg))] 0):=BY (aj w2);have t3:(W.set l (.box [.f (sl q.hg (ints q.head)),.f (fi q.fr),.f (fi q.aL),.f (sl q.cg (ints q.bg))] 0))[1]?=aa (.box [.f .aC,.f (fi 0),.f (fi 0),.f .aC] 0):=by rw [sh (by omega)];exact w1
   simp [S,i6,-az,x3,x4,deep,A,←Z,t1,-a6];generalize W.set l (.box [.f (sl q.hg (ints q.head)),.f (fi q.fr),.f (fi q.aL),.f (sl q.cg (ints q.bg))] 0)=X at t2 t3 ⊢;have l1:aU X ab (.c (.ptr l 1 0))=aa (vi q.fr):=by simp [aU,aH,t2]
   have l4:aU X (aa 4) (.c (.ptr l 0 0))=aa (.a [.f (sl q.hg (ints q.head)),.f (fi q.fr),.f (fi q.aL),.f (sl q.cg (ints q.bg))]):=by simp [aU,aH,t2,aW]
   have s4:cZ X (.ptr 1 0 0) [.f (sl q.hg (ints q.head)),.f (fi q.fr),.f (fi q.aL),.f (sl q.cg (ints q.bg))]=aa (X.set 1 (.box [.f (sl q.hg (ints q.head)),.f (fi q.fr),.f (fi q.aL),.f (sl q.cg (ints q.bg))] 0)):=by simp [cZ,t3,over]
   have n1:(X.set 1 (.box [.f (sl q.hg (ints q.head)),.f (fi q.fr),.f (fi q.aL),.f (sl q.cg (ints q.bg))] 0))[1]?=aa (.box [.f (sl q.hg (ints q.head)),.f (fi q.fr),.f (fi q.aL),.f (sl q.cg (ints q.bg))] 0):=BY (aj t3);apply ai;simp [S,l1,-az,show¬ 1099511627776<q.fr by omega];refine aX (by simp) ?_;apply ai;simp [g4,S,l4,s4,-az,-a6];refine aE (hQ _ _ _ ⟨q,d1,by omega,d3,by omega,by omega,fun d hd=>?_,rfl⟩ ?_)
   ·rw [d4 d hd];exact i9 d hd
   ·simp [g4,n1,aI.row]
 exact⟨q,c1,c2,c3,c4,c5,c6,h.eq⟩
theorem adu{a b:Int}(x:1≤a)(a1:a≤1000)(b0:1≤b)(b1:b≤1000):bW tab 137 [vi a,vi b]=Eq (.t [vi (a / (aob a b:Int)*b),vi 0]):=by
 obtain⟨g,l⟩:=aM ((aob a b:Int):Int);have j:aob a b=aor a.toNat b.toNat:=by
  show aor a.natAbs b.natAbs=_;rw [show a.natAbs=a.toNat by omega,show b.natAbs=b.toNat by omega]
 have m:0<g:=by have:=aow b (show a≠0 by omega);omega
 have d:bW tab 122 [vi a,vi b]=Eq (vi g):=by
  have h:=xO (a:=a.toNat) (b:=b.toNat) (by omega) (by omega);rw [show((a.toNat:Nat):Int)=a by omega,show((b.toNat:Nat):Int)=b by omega,←j,←l]at h;exact h
 rw [←l];have u:bR .quo (vi a) (vi g)=aa (vi (a / g)):=fH (by omega) m (by omega);have v:bR .quo (vi 1099511627776) (vi b)=aa (vi (1099511627776 / b)):=fH (by omega) (by omega) (by omega);have q:0≤a / g:=aou (by omega) (by omega);have y:a / g≤a:=aoC _ (by omega);have z:a / g≤1099511627776 / b:=by
  have:1000≤1099511627776 / b:=by rw [Int.le_ediv_iff_mul_le (by omega)];omega
  omega
 have A:0≤a / g*b:=aov q (by omega);have B:a / g*b≤1000*1000:=aoG (by omega) b1 (by omega) (by omega);refine bW.eq (cd rfl rfl fun Q s=>?_);apply ai;simp;apply au;apply ai;simp [show¬ a<1 by omega,show¬ b<1 by omega];refine aX (by simp) ?_;apply ai;simp [d,u];apply au;apply ai;simp [v,show¬ 1099511627776 / b<a / g by omega];refine aX (by simp) ?_;apply ai;simp [aP (n:=a / g*b)];refine aE (s _ _ ?_);simp
theorem wR(p:aI)(s:cL p=ae)(A:p.bg.length≤1000)(B:p.head.length≤1000)(n:Int)(q:0≤n)(E:n≤1000000):∃ k:Int,0≤k∧k≤2000+n*1000∧bW tab 178 [.a (p.row.map .f),vi n]=Eq (vi k):=by
 obtain⟨F,H,I,J,K,u,L,v,M⟩:=aY s;by_cases k:n≤p.fr
 ·obtain⟨i,l,-,-,b⟩:=gd p.hg p.head n (by omega) u;refine⟨i,by omega,by omega,bW.eq (cd rfl rfl fun Q d=>?_)⟩;apply ai;simp [aI.row];apply au;apply ai;simp [k];refine av (by simp) ?_;apply ai;simp [b];apply ai;simp;refine aE (d _ _ ?_);simp
 ·obtain⟨i,l,-,-,b⟩:=gd p.cg p.bg ((n-p.fr) % p.aL) (by omega) v;have g:bR .rem (vi (n-p.fr)) (vi p.aL)=aa (vi ((n-p.fr) % p.aL)):=fu (by omega) (by omega);have j:bR .quo (vi (n-p.fr)) (vi p.aL)=aa (vi ((n-p.fr) / p.aL)):=fH (by omega) (by omega) (by omega);have m:0≤(n-p.fr) / p.aL:=aou (by omega) (by omega);have x:(n-p.fr) / p.aL≤n-p.fr:=aoC _ (by omega);have y:0≤(n-p.fr) / p.aL*(p.bg.length:Int):=aov m (by omega);have z:(n-p.fr) / p.aL*(p.bg.length:Int)≤n*1000:=aoG (by omega) (by omega) (by omega) (by omega);refine⟨p.head.length+(n-p.fr) / p.aL*(p.bg.length:Int)+i,by omega,by omega,bW.eq (cd rfl rfl fun Q d=>?_)⟩;apply ai;simp [aI.row];apply au;apply ai;simp [k];refine aX (by simp) ?_;apply ai;simp [aP (n:=n-p.fr),g,b];apply ai;simp [aP (n:=n-p.fr),j,aP (n:=(n-p.fr) / p.aL*(p.bg.length:Int)),aP (n:=(p.head.length:Int)+(n-p.fr) / p.aL*(p.bg.length:Int)),aP (n:=(p.head.length:Int)+(n-p.fr) / p.aL*(p.bg.length:Int)+i)];refine aE (d _ _ ?_);simp
theorem tc{b:Type}{f:b→b→Bool}:∀ {xs:List b},(∀ x ∈ xs,f x x=ae)→ou f xs xs=ae
 | [],_=>rfl| x::xs,h=>by simp only [ou,h x anr,tc fun y d=>h y (anp _ d),Bool.and_self]
def Rf(n:Nat)(x:FC):Prop:=FC.beq n x x=ae
theorem Cn(n:Nat)(k:IntKind)(m:Int):Rf n (.int k m):=by unfold Rf;cases n<;>simp [FC.beq]
theorem alc{n:Nat}{xs:List FC}{l:Nat}(h:∀ x ∈ xs,Rf n x):Rf (n+1) (.fs xs l):=by unfold Rf;simp [FC.beq,tc h]
theorem ald{n:Nat}{rows:List (List FC)}(g:Tg)(h:∀ r ∈ rows,∀ x ∈ r,Rf n x):Rf (n+1) (sl g rows):=by
 unfold sl;split
 ·unfold Rf;cases g<;>rfl
 ·exact alc fun x b=>by
   obtain⟨r,d,b⟩:=List.mem_flatten.1 b;exact h r d x b
theorem DS(n:Nat)(g:Tg)(l:List Int):Rf (n+1) (sl g (ints l)):=ald g fun r d x b=>by
 obtain⟨k,-,rfl⟩:=anv.1 d;simp at b;subst b;exact Cn _ _ _
theorem ahW{n:Nat}(p:aI):∀ x ∈ p.row,Rf (n+1) x:=by
 intro x b;simp [aI.row]at b;rcases b with rfl | rfl | rfl | rfl
 ·exact DS _ _ _
 ·exact Cn _ _ _
 ·exact Cn _ _ _
 ·exact DS _ _ _
theorem abA:∀ {xs:List FC},(∀ x ∈ xs,Rf 64 x)→V.beq (.a (xs.map .f)) (.a (xs.map .f))=ae:=by
 intro xs h;simp only [V.beq,If,beq_self_eq_true,true_and,anx];intro q b;obtain⟨i,hi,rfl⟩:=anB b;rw [List.getElem_zip];simp only [List.getElem_map,C.beq];exact h _ (IS _)
theorem C2(p:aI):V.beq (.a [.f (sl p.hg (ints p.head)),.f (fi p.fr),.f (fi p.aL),.f (sl p.cg (ints p.bg))]) (.a [.f (sl p.hg (ints p.head)),.f (fi p.fr),.f (fi p.aL),.f (sl p.cg (ints p.bg))])=ae:=abA (xs:=p.row) (ahW (n:=63) p)
def B0(l:List (Int × C)):List (FC × C):=l.map fun e=>(fi e.1,e.2)
def Kz(k:Int):List (Int × C)→Option C
 | []=>ab| e::b=>if k=e.1 then aa e.2 else Kz k b
def ug(k:Int)(c:C):List (Int × C)→List (Int × C)
 | []=>[(k,c)]| e::b=>if k=e.1 then(k,c)::b else e::ug k c b
theorem Db(a b:Int):eqK .int (fi a) (fi b)=aa (decide (a=b)):=by
 simp only [eqK,if_true];by_cases h:a=b
 ·simp [h]
 ·simp [h]
theorem Dg(k:Int):∀ l,oH .int (fi k) (B0 l)=aa (Kz k l)
 | []=>rfl
 | e::d=>by
  have b:=Dg k d;simp only [B0,ano,oH,Db,Kz]at b ⊢;by_cases h:k=e.1
  ·rw [bf h,decide_eq_true h]
  ·rw [aT h,decide_eq_false h];exact b
theorem WG(k:Int)(c:C):∀ l,rM .int (fi k) c (B0 l)=aa (B0 (ug k c l))
 | []=>rfl
 | e::d=>by
  have b:=WG k c d;simp only [B0,ano,rM,Db,ug]at b ⊢;by_cases h:k=e.1
  ·rw [bf h,decide_eq_true h];rfl
  ·rw [aT h,decide_eq_false h];simp only [b];rfl
theorem VZ(k k':Int)(c:C):∀ l,Kz k' (ug k c l)=if k'=k then aa c else Kz k' l
 | []=>by simp [ug,Kz]
 | e::d=>by
  have g:=VZ k k' c d;unfold ug;by_cases h:k=e.1
  ·rw [bf h];by_cases b:k'=k
   ·simp [Kz,b]
   ·have:¬ k'=e.1:=by omega
    simp [Kz,b,this]
  ·rw [aT h];unfold Kz;rw [g];by_cases b:k'=e.1
   ·have:¬ k'=k:=by omega
    simp [b,this];intro e;omega
   ·simp [b]
def nV(l:List (Int × C))(k:Int):C:=(Kz k l).getD (.f .aC)
theorem xD(l:List (Int × C))(k k':Int)(c:C):nV (ug k c l) k'=if k'=k then c else nV l k':=by
 unfold nV;rw [VZ];by_cases h:k'=k<;>simp [h]
structure jP(J:an)(N:Nat)(l:List (Int × C))(F:Int→List Int):Prop where
 lr:∀ k,LR J (nV l k) 1 (ints (F k))
 lo:∀ k i,aV (nV l k)=aa i→N≤i
 ne:∀ k k' i,k≠k'→aV (nV l k)=aa i→aV (nV l k')≠aa i
theorem jP.ba{J J':an}{N:Nat}{l:List (Int × C)}{F:Int→List Int}(h:jP J N l F)(b:∀ i y,N≤i→J[i]?=aa y→J'[i]?=aa y):jP J' N l F:=
 ⟨fun k=>(h.lr k).ba fun i y hy hi=>b i y (h.lo k i hi) hy,h.lo,h.ne⟩
theorem ad'{J:an}{c:C}{l:List Int}(h:LR J c 1 (ints l)):mV c=.c c∧ry (.c c)=aa c:=by
 rcases h with⟨_,rfl | rfl⟩ | ⟨_,b,d,rfl,_⟩<;>exact⟨rfl,rfl⟩
theorem jP.look{J:an}{N:Nat}{l:List (Int × C)}{F:Int→List Int}(h:jP J N l F){J':an}{m:Nat}(b:J'[m]?=aa (.map (B0 l)))(k:Int):iq J' .int .aC (.c (.mp m)) (vi k)=aa (.c (nV l k)):=by
 have h2:=(ad' (h.lr k)).1;unfold iq;simp only [b,isKey,if_true,Dg,anZ,lkR,qS,nV];unfold nV at h2;cases hc:Kz k l with
 | none=>rfl| some c=>rw [hc]at h2;simpa using h2
theorem jP.nil(J:an)(N:Nat):jP J N [] (fun _=>[]):=⟨fun _=>LR.nil _ _,fun _ _ h=>by simp [nV,Kz,aV]at h,fun _ _ _ _ h=>by simp [nV,Kz,aV]at h⟩
theorem pQ{J:an}{c:C}{l:List Int}(h:LR J c 1 (ints l))(F:l.length≤1000000)(n:Int) :
  ∃ j g,bF (J++[.box [.f (fi n)] 0]) 1 8 (.c c) (.c (.sl J.length 0 1 1 0 1))=aa (.c j,g)∧LR g j 1 (ints (l++[n]))∧J.length<g.length∧(∀(i:Nat) y,J[i]?=aa y→aV c≠aa i→g[i]?=aa y)∧(aV j=aV c∨aV j=aa (J.length+1)):=by
 obtain⟨u,b⟩:=aM (J++[.box ([fi n].map .f) 0]:an);have E:∀(i:Nat) y,J[i]?=aa y→u[i]?=aa y:=fun i y v=>by rw [b,AT (aj v)];exact v
 have x:LR u c 1 (ints l):=by rw [b];exact h.push _
 have z:u[J.length]?=aa (.box ([fi n].map .f) 0):=by rw [b];simp
 have B:u.length=J.length+1:=by rw [b];simp
 obtain⟨j,g,d,q,m,s⟩:=x.app (Km.Ord.bY l) (by decide) (row:=[fi n]) rfl (bytes:=8) (dH (by simp [ints];omega) (by decide)) z;have A:ints l++[[fi n]]=ints (l++[n]):=by simp [ints]
 rw [A]at q;refine⟨j,g,by rw [b]at d;exact d,q,by have:=m.1;omega,fun i y v hi=>m.2 i y (E i y v) hi,?_⟩;rw [B]at s;exact s
theorem jP.app{J:an}{N m:Nat}{l:List (Int × C)}{F:Int→List Int}(h:jP J N l F)(W:J[m]?=aa (.map (B0 l)))(O:m<N)(X:N≤J.length)(k:Int)(hl:(F k).length≤1000000)(n:Int) :
  ∃ g j,bF (J++[.box [.f (fi n)] 0]) 1 8 (.c (nV l k)) (.c (.sl J.length 0 1 1 0 1))=aa (.c g,j)∧ry (.c g)=aa g∧j[m]?=aa (.map (B0 l))∧(∀ i:Nat,i<N→j[i]?=J[i]?) ∧
   jP (j.set m (.map (B0 (ug k g l)))) N (ug k g l) (fun k'=>if k'=k then F k++[n]else F k')∧N≤(j.set m (.map (B0 (ug k g l)))).length:=by
 obtain⟨g,j,v,u,S,A,z⟩:=pQ (h.lr k) hl n;have U:∀ i:Nat,i<N→j[i]?=J[i]?:=fun i hi=>by
  have L:i<J.length:=by omega
  have hy:J[i]?=aa J[i]:=By L;rw [hy];exact A i _ hy fun e=>by have:=h.lo k i e;omega
 have d:∀ i,aV g=aa i→N≤i:=fun i hi=>by
  rcases z with e | e
  ·rw [e]at hi;exact h.lo k i hi
  ·rw [e]at hi;cases hi;omega
 have M:j[m]?=aa (.map (B0 l)):=by rw [U m O];exact W
 refine⟨g,j,v,(ad' u).2,M,U,⟨fun k'=>?_,fun k' i hi=>?_,fun Q I i B hi=>?_⟩,by rw [anD];omega⟩
 ·rw [xD];by_cases e:k'=k
  ·rw [bf e,bf e];exact u.set (fun x=>by have:=d m x;omega) _
  ·rw [aT e,aT e];refine LR.set ((h.lr k').ba fun i y hy hi=>A i y hy (h.ne k' k i e hi)) (fun x=>by have:=h.lo k' m x;omega) _
 ·rw [xD]at hi;by_cases e:k'=k
  ·rw [bf e]at hi;exact d i hi
  ·rw [aT e]at hi;exact h.lo k' i hi
 ·rw [xD]at hi ⊢;have b:∀ E,E≠k→∀ i,aV (nV l E)=aa i→aV g≠aa i:=fun E K i hi e=>by
   rcases z with q | q
   ·rw [q]at e;exact h.ne E k i K hi e
   ·rw [q]at e;cases e;have:=(h.lr E).lt hi;omega
  by_cases H:Q=k
  ·have s:¬ I=k:=fun e=>B (H.trans e.symm);rw [bf H]at hi;rw [aT s];exact fun q=>b I s i q hi
  ·rw [aT H]at hi;by_cases s:I=k
   ·rw [bf s];exact b Q H i hi
   ·rw [aT s];exact h.ne Q I i B hi
theorem adW(t:T)(H:an):bE t H .kj=aa (.c (.mp H.length),H++[.map []]):=rfl
theorem nv(t:T)(H:an)(b:CK)(z:FC)(m k:Arg):bE t H (.lookup b z m k)=(iq H b z (m.ev t) (k.ev t)).map (·,H):=rfl
def ye(H:an)(g:CK):V→V→V→Option (V × an)
 | .c (.mp b),.c (.f k),v=>match ry v,H[b]? with
  | some v,aa (.map d)=>if isKey g k then(rM g k v d).map fun d=>(.top,H.set b (.map d))else ab
  | _,_=>ab
 | _,_,_=>ab
theorem adV(t:T)(H:an)(b:CK)(m k v:Arg):bE t H (.lT b m k v)=ye H b (m.ev t) (k.ev t) (v.ev t):=by
 simp only [bE];unfold ye;split<;>split<;>simp_all
 all_goals (split<;>simp_all)
def cE(b d:aI)(st:Int)(j cy:C)(g:Int)(m:Nat):List C:=[.f (sl b.hg (ints b.head)),.f (fi b.fr),.f (fi b.aL),.f (sl b.cg (ints b.bg)),.f (sl d.hg (ints d.head)),.f (fi d.fr),.f (fi d.aL),.f (sl d.cg (ints d.bg)),.f (fi st),j,cy,.f (fi g),.mp m]
def Bg:List C:=[.f .aC,.f (fi 0),.f (fi 0),.f .aC,.f .aC,.f (fi 0),.f (fi 0),.f .aC,.f (fi 0),.f .aC,.f .aC,.f (fi 0),.f .pZ]
def jU(g:Int)(Y:List Int)(k:Int):List Int:=Y.filter fun y=>decide (y % g=k)
structure PH(J:an)(N:Nat)(X Y:List Int)(g:Int)(l:List (Int × C))(cx cy:C)(m:Nat):Prop where
 lx:LR J cx 1 (ints X)
 ly:LR J cy 1 (ints Y)
 mp:J[m]?=aa (.map (B0 l))
 ok:jP J N l (jU g Y)
theorem PH.ba{J J':an}{N:Nat}{X Y:List Int}{g:Int}{l:List (Int × C)}{d cy:C}{m:Nat}(h:PH J N X Y g l d cy m)(j:∀ i:Nat,i<J.length→J'[i]?=J[i]?):PH J' N X Y g l d cy m:=by
 have b:∀(i:Nat) y,J[i]?=aa y→J'[i]?=aa y:=fun i y hy=>by rw [j i (aj hy)];exact hy
 exact⟨h.lx.ba fun i y hy _=>b i y hy,h.ly.ba fun i y hy _=>b i y hy,b _ _ h.mp,h.ok.ba fun i y _ hy=>b i y hy⟩
def zM(q:aI)(st:Int)(X:List Int):Prop:=X.length=q.bg.length∧X.Pairwise (· < ·)∧(∀ x ∈ X,0≤x∧x<q.aL)∧∀ d,st≤d→(bK q d=ae↔(d-st) % q.aL ∈ X)
theorem rO{q:aI}{st fr:Int}{hd b:List Int}(v:q.fr≤st)(B:0≤st)(s:fr=max q.fr st)(u:b.length=q.bg.length)(h:∀ j g:Tg,cL ⟨j,hd,fr,q.aL,g,b⟩=ae∧∀ d,0≤d→bK ⟨j,hd,fr,q.aL,g,b⟩ d=(decide (st≤d)&&bK q d)):zM q st b:=by
 obtain⟨l,m⟩:=h .nil .nil;obtain⟨E,F,H,I,J,K,L,z,A⟩:=aY l;have e:fr=st:=by omega
 subst e;refine⟨u,z,fun x y=>by have:=A x y;exact⟨by omega,this.2⟩,fun d hd=>?_⟩;have:=m d (by omega);rw [decide_eq_true hd,aol]at this;rw [←this];unfold bK;simp only;rw [bf hd,decide_eq_true_eq]
structure NQ(H:an)(qa qb:aI)(st:Int)(X Y:List Int)(g:Int)(N bp m j:Nat)(cx cy:C)(l:List (Int × C))(J:an):Prop where
 kp:∀ i:Nat,i<H.length→J[i]?=H[i]?
 br:J[H.length+2]?=aa (.box Bg 0)
 bp:J[bp]?=aa (.box (cE qa qb st cx cy g m) 0)
 lx:LR J cx 1 (ints X)
 ly:LR J cy 1 (ints Y)
 mp:J[m]?=aa (.map (B0 l))
 ok:jP J N l (jU g (Y.take j))
 len:N≤J.length
theorem wH{a b c:Int}:yg ag [vi a,vi b,vi c]=aa (vi (max (max a b) c)):=by
 have d:(if a<b then b else a)=max a b:=by split<;>omega
 have g:(if max a b<c then c else max a b)=max (max a b) c:=by split<;>omega
 simp only [yg,rK,wG];simp [d,g,V.int]
structure LdP(J:an)(bp:Nat)(qa qb:aI)(st:Int)(cx cy:C)(g:Int)(m:Nat):Prop where
 la:aU J (aa 4) (.c (.ptr bp 0 0))=aa (.a [.f (sl qa.hg (ints qa.head)),.f (fi qa.fr),.f (fi qa.aL),.f (sl qa.cg (ints qa.bg))])
 lb:aU J (aa 4) (.c (.ptr bp 4 0))=aa (.a [.f (sl qb.hg (ints qb.head)),.f (fi qb.fr),.f (fi qb.aL),.f (sl qb.cg (ints qb.bg))])
 laf:aU J ab (.c (.ptr bp 1 0))=aa (vi qa.fr)
 lap:aU J ab (.c (.ptr bp 2 0))=aa (vi qa.aL)
 lbf:aU J ab (.c (.ptr bp 5 0))=aa (vi qb.fr)
 lbp:aU J ab (.c (.ptr bp 6 0))=aa (vi qb.aL)
 ke:aU J ab (.c (.ptr bp 8 0))=aa (vi st)
 lx:aU J ab (.c (.ptr bp 9 0))=aa (.c cx)
 ly:aU J ab (.c (.ptr bp 10 0))=aa (.c cy)
 lg:aU J ab (.c (.ptr bp 11 0))=aa (vi g)
 lm:aU J ab (.c (.ptr bp 12 0))=aa (.c (.mp m))
 VQ:aU J (aa 13) (.c (.ptr bp 0 0))=aa (.a (cE qa qb st cx cy g m))
 s8:∀ z:Int,cZ J (.ptr bp 8 0) [.f (fi z)]=aa (J.set bp (.box (cE qa qb z cx cy g m) 0))
 s9:∀ z:C,cZ J (.ptr bp 9 0) [z]=aa (J.set bp (.box (cE qa qb st z cy g m) 0))
 s10:∀ z:C,cZ J (.ptr bp 10 0) [z]=aa (J.set bp (.box (cE qa qb st cx z g m) 0))
 s11:∀ z:Int,cZ J (.ptr bp 11 0) [.f (fi z)]=aa (J.set bp (.box (cE qa qb st cx cy z m) 0))
theorem rF{J:an}{bp:Nat}{d j:aI}{st:Int}{b cy:C}{g:Int}{m:Nat}(h:J[bp]?=aa (.box (cE d j st b cy g m) 0)):LdP J bp d j st b cy g m:=by
 unfold cE at h;constructor<;>simp [aU,aH,h,aW,cZ,over,cE]
theorem wP{d j:aI}{st:Int}{b cy:C}{g:Int}{m:Nat}:(cE d j st b cy g m).length=13:=rfl
theorem BF{w x y z:C}:tC 3 ab (.a [w,x,y,z])=aa (.c z):=rfl
theorem Cc(a b:aI)(ha:cL a=ae)(hb:cL b=ae)(ca:a.bg.length≤256)(cb:b.bg.length≤256)(la:a.head.length≤1000000)(lb:b.head.length≤1000000)(pa:a.aL≤1000000)(pb:b.aL≤1000000)(H:an) :
  ∃ r H',Ev tab (.fn 175) [.a (a.row.map .f),.a (b.row.map .f),vi 0] H r H'∧(∃ d s st X Y v cy l m N,lQ a d∧lQ b s∧d.bg.length≤a.bg.length∧s.bg.length≤b.bg.length∧d.head.length≤a.head.length∧s.head.length≤b.head.length∧r=.a (cE d s st v cy (aob d.aL s.aL:Int) m) ∧
   st=max d.fr s.fr∧zM d st X∧zM s st Y∧PH H' N X Y (aob d.aL s.aL:Int) l v cy m∧∀ i:Nat,i<H.length→H'[i]?=H[i]?):=by
 obtain⟨d,sa,xa,ya,i_⟩:=mh a ha ca la;obtain⟨s,sb,xb,yb,j4⟩:=mh b hb cb lb;obtain⟨f7,o9,n8,o_⟩:=sa;refine cM rfl rfl fun Q hQ=>?_;apply ai;simp [aI.row];simp only [aI.row,ano,anC]at i_ j4;obtain⟨HA,z⟩:=aM (H++[.box [.f (sl a.hg (ints a.head)),.f (fi a.fr),.f (fi a.aL),.f (sl a.cg (ints a.bg))] 0,.box [.f (sl b.hg (ints b.head)),.f (fi b.fr),.f (fi b.aL),.f (sl b.cg (ints b.bg))] 0,.box Bg 0]:an);obtain⟨b0,x⟩:=aM (H.length);have a0:HA[b0]?=aa (.box [.f (sl a.hg (ints a.head)),.f (fi a.fr),.f (fi a.aL),.f (sl a.cg (ints a.bg))] 0):=by rw [z,x];simp
 have a1:HA[b0+1]?=aa (.box [.f (sl b.hg (ints b.head)),.f (fi b.fr),.f (fi b.aL),.f (sl b.cg (ints b.bg))] 0):=by rw [z,x,ann (by omega)];simp
 have a2:HA[b0+2]?=aa (.box Bg 0):=by rw [z,x,ann (by omega)];simp
 have al:HA.length=b0+3:=by rw [z,x];simp
 have ak:∀ i:Nat,i<b0→HA[i]?=H[i]?:=fun i hi=>by rw [z,AT (by omega)]
 unfold Bg at z;rw [←z,←x];have l0:aU HA (aa 4) (.c (.ptr b0 0 0))=aa (.a [.f (sl a.hg (ints a.head)),.f (fi a.fr),.f (fi a.aL),.f (sl a.cg (ints a.bg))]):=by simp [aU,aH,a0,aW]
 have l1:aU HA (aa 4) (.c (.ptr (b0+1) 0 0))=aa (.a [.f (sl b.hg (ints b.head)),.f (fi b.fr),.f (fi b.aL),.f (sl b.cg (ints b.bg))]):=by simp [aU,aH,a1,aW]
 apply ai;simp [l0,l1,-az,i_,j4,adW,al];obtain⟨m,hm⟩:=aM (b0+3);obtain⟨bp,i9⟩:=aM (m+1);obtain⟨HB,F⟩:=aM (HA++[bV.map [],.box (cE d s 0 (.f .aC) (.f .aC) 0 m) 0]);have b1:HB[m]?=aa (.map []):=by rw [F,hm,ann (by omega),al];simp
 have b2:HB[bp]?=aa (.box (cE d s 0 (.f .aC) (.f .aC) 0 m) 0):=by rw [F,i9,hm,ann (by omega),al];simp
 have bk:∀ i:Nat,i<b0+3→HB[i]?=HA[i]?:=fun i hi=>by rw [F,AT (by omega)]
 have bl:HB.length=b0+5:=by rw [F];simp [al]
 unfold cE at F;rw [←hm,←F,←i9]
 suffices e_:∀ t:T,t.g 2=vi 0→t.g 6=.c (.ptr (b0+2) 0 0)→t.g 7=.c (.ptr bp 0 0)→WP tab 175 ab [.code yW] ⟨t,[],HB⟩ Q by exact e_ _ (by simp) (by simp) (by simp)
 intro t g2 g6 B;obtain⟨st,o6⟩:=aM (max d.fr s.fr);obtain⟨q1,q2,q3,q4,q5,q6,q7,q8,q9⟩:=aY f7;obtain⟨w1,w2,w3,w4,w5,w6,w7,w8,w9⟩:=aY sb.ok;have o4:max (max d.fr s.fr) 0=st:=by omega
 have L1:=rF b2;apply ai;simp [g2,B,L1.laf,L1.lbf,L1.s8,wH,o4,-az,-a6];obtain⟨HC,I⟩:=aM (HB.set bp (.box (cE d s st (.f .aC) (.f .aC) 0 m) 0));rw [←I];have c1:HC[m]?=aa (.map []):=by rw [I,sh (by omega)];exact b1
 have c2:HC[bp]?=aa (.box (cE d s st (.f .aC) (.f .aC) 0 m) 0):=by rw [I,BY (by omega)]
 have ck:∀ i:Nat,i<b0+3→HC[i]?=HA[i]?:=fun i hi=>by rw [I,sh (by omega),bk i hi]
 have cl:HC.length=b0+5:=by rw [I,anD];exact bl
 have L2:=rF c2;obtain⟨r1,HD,a8,r7,p8,v,s7,X,rfl,j8,dl,dk,-,i6,-,-,p_,-,i3,hX⟩:=tK d f7 (by omega) (by omega) st (by omega) (by omega) HC;have d2:HD[bp]?=aa (.box (cE d s st (.f .aC) (.f .aC) 0 m) 0):=by rw [dk bp (by omega)];exact c2
 have L3:=rF d2;obtain⟨r2,HE,j7,r8,p9,cy,s_,Y,rfl,j9,el,ek,-,i7,-,-,q_,-,i4,hY⟩:=tK s sb.ok (by omega) (by omega) st (by omega) (by omega) HD;have e2:HE[bp]?=aa (.box (cE d s st (.f .aC) (.f .aC) 0 m) 0):=by rw [ek bp (by omega)];exact d2
 have L4:=rF e2;simp only [aI.row,ano,anC]at a8 j7;refine au (ew (.inl rfl) ?_ ?_)
 case refine_2=>
  intro cc S;have c9:cc=(7,4)∨cc=(9,4):=by simpa using S
  rcases c9 with rfl | rfl
  ·refine⟨by decide,_,rfl,.inr ⟨by decide,?_⟩⟩;simp [B,L2.la,L2.ke,L2.lb,L3.lb,-az,a8.eq,BF,fE,C2]
  ·refine⟨by decide,_,rfl,.inr ⟨by decide,?_⟩⟩;simp [B,L2.la,L2.ke,L3.lb,L3.ke,-az,a8.eq,BF,fE,qP]
 obtain⟨HF,K⟩:=aM (HE.set bp (.box (cE d s st v (.f .aC) 0 m) 0));have f2:HF[bp]?=aa (.box (cE d s st v (.f .aC) 0 m) 0):=by rw [K,BY (aj e2)]
 have L5:=rF f2;obtain⟨HG,L⟩:=aM (HF.set bp (.box (cE d s st v cy 0 m) 0));have h2:HG[bp]?=aa (.box (cE d s st v cy 0 m) 0):=by rw [L,BY (aj f2)]
 have L6:=rF h2;simp [B,L2.la,L2.ke,L3.lb,L3.ke,-az,a8.eq,j7.eq,BF,L4.s9,←K,L5.s10,←L,-a6];obtain⟨g,hg⟩:=aM ((aob d.aL s.aL:Int):Int);have t5:d.aL≤1000000:=aoA (aom (by have:=(aY ha).2.2.1;omega) n8) pa;have t6:s.aL≤1000000:=aoA (aom (by have:=(aY hb).2.2.1;omega) sb.aL) pb;have o0:aob d.aL s.aL=aor d.aL.toNat s.aL.toNat:=by
  show aor d.aL.natAbs s.aL.natAbs=_;rw [show d.aL.natAbs=d.aL.toNat by omega,show s.aL.natAbs=s.aL.toNat by omega]
 have g0:0<g:=by have:=aow s.aL (show d.aL≠0 by omega);omega
 have j_:bW tab 122 [vi d.aL,vi s.aL]=Eq (vi g):=by
  have h:=xO (a:=d.aL.toNat) (b:=s.aL.toNat) (by omega) (by omega);rw [show((d.aL.toNat:Nat):Int)=d.aL by omega,show((s.aL.toNat:Nat):Int)=s.aL by omega,←o0,←hg]at h;exact h
 apply ai;simp [B,L6.lap,L6.lbp,L6.s11,j_,-az,-a6];obtain⟨E,M⟩:=aM (HG.set bp (.box (cE d s st v cy g m) 0));have i2:E[bp]?=aa (.box (cE d s st v cy g m) 0):=by rw [M,BY (aj h2)]
 have L7:=rF i2;rw [←M];have kE:∀ i:Nat,i<b0+5→i≠bp→E[i]?=HC[i]?:=fun i hi o5=>by
  rw [M,sh (by omega),L,sh (by omega),K,sh (by omega),ek i (by omega),dk i (by omega)]
 have m_:∀(i:Nat) y,HE[i]?=aa y→i≠bp→E[i]?=aa y:=fun i y A o5=>by
  rw [M,sh (by omega),L,sh (by omega),K,sh (by omega)];exact A
 have d_:LR E cy 1 (ints Y):=i7.ba fun i y A hi=>m_ i y A fun e=>i7.bA e2 (e▸hi);have m9:LR E v 1 (ints X):=i6.ba fun i y A hi=>m_ i y (by rw [ek i (aj A)];exact A) fun e=>i6.bA d2 (e▸hi);have iN:E.length=HE.length:=by rw [M,L,K];simp
 have n0:NQ H d s st X Y g E.length bp m 0 v cy [] E:=by
  refine⟨fun i hi=>?_,?_,i2,m9,d_,?_,by rw [List.take_zero];exact jP.nil _ _,anl _⟩
  ·rw [kE i (by omega) (by omega),ck i (by omega),ak i (by omega)]
  ·rw [←x,kE (b0+2) (by omega) (by omega),ck _ (by omega)];exact a2
  ·rw [kE m (by omega) (by omega)];exact c1
 have f8:bp<E.length:=aj i2;have o7:bu E cy=aa Y.length:=by have:=d_.len;simpa [ints]using this
 have n9:=rO (st:=st) (by omega) (by omega) j8 i3 hX;have i8:=rO (st:=st) (by omega) (by omega) j9 i4 hY;have r_:Y.length≤256:=by omega
 apply au;apply ai;simp [B,L7.ly,-az,o7];have g_:∀ i,aV v=aa i→i<E.length:=fun i hi=>m9.lt hi;have h_:∀ i,aV cy=aa i→i<E.length:=fun i hi=>d_.lt hi;generalize r9:E.length=N at n0 f8 g_ h_;refine b7 Y.length (fun j t J=>t.g 6=.c (.ptr (b0+2) 0 0)∧t.g 7=.c (.ptr bp 0 0)∧t.g 48=.c cy∧∃ l,NQ H d s st X Y g N bp m j v cy l J) (by omega) (by decide) (by decide) (by simp) (by simp)
  ⟨by simp [g6],by simp [B],by simp,[],n0⟩ ?_ ?_
 ·rintro j t J hj ⟨g6,B,a_,l,u⟩ ha hb next
  obtain⟨yb,t7,t8,o8,n6,-⟩:=tM u.ly hj;have L8:=rF u.bp;obtain⟨y,A⟩:=aM (Y[j]);have yb:=i8.2.2.1 _ (IS hj);rw [←A]at n6 yb;have Z:bR .rem (vi y) (vi g)=aa (vi (y % g)):=fu (by omega) g0;obtain⟨c3,H3,O,S,l_,U,W,k_⟩:=u.ok.app u.mp (by omega) u.len (y % g) (by unfold jU;exact Nat.le_trans (List.length_filter_le _ _) (by rw [anW];omega)) y;have d9:=fun J' (h:J'[m]?=aa (bV.map (B0 l)))=>u.ok.look (J':=J') h (y % g);have c_:=d9 J u.mp;have m4:ye H3 .int (.c (.mp m)) (vi (y % g)) (.c c3)=aa (.top,H3.set m (.map (B0 (ug (y % g) c3 l)))):=by
   simp only [ye,S,l_,isKey,if_true,WG,anZ]
  have f_:=U bp f8;have L9:=rF (J:=H3) (by rw [f_];exact u.bp);refine ay ?_;apply ai;simp [ha,a_,o8,n6,-az];refine ew (.inl rfl) ?_ ?_
  case refine_2=>
   intro cc S;have c9:cc=(1,16)∨cc=(4,16):=by simpa using S
   rcases c9 with rfl | rfl
   ·refine⟨by decide,_,rfl,.inl ⟨by decide,?_⟩⟩;simp [B,L8.lm,L8.lg,Z,-az,nv,c_,O,L9.lm,fE,V.beq,C.beq]
   ·refine⟨by decide,_,rfl,.inl ⟨by decide,?_⟩⟩;simp [B,L8.lm,L8.lg,Z,-az,nv,c_,O,L9.lg,fE,qP]
  simp [B,L8.lm,L8.lg,Z,-az,nv,c_,O,adV,m4];have n_:jU g (Y.take (j+1))=fun k'=>if k'=y % g then jU g (Y.take j) (y % g)++[y]else jU g (Y.take j) k':=by
   funext k';unfold jU;rw [anu,By hj,←A,List.filter_append];by_cases e:k'=y % g
   ·subst e;simp
   ·have:¬ y % g=k':=fun q=>e q.symm;simp [e,this]
  rw [←n_]at W;have t4:m<N:=by omega
  refine ax (next _ _ ?_ (by simp [ha]) (by simp [hb]));refine⟨by simp [g6],by simp [B],by simp [a_],_,⟨fun i hi=>?_,?_,?_,?_,?_,?_,W,k_⟩⟩
  ·rw [sh (by omega),U i (by omega)];exact u.kp i hi
  ·rw [sh (by omega),U _ (by omega)];exact u.br
  ·rw [sh (by omega),f_];exact u.bp
  ·exact LR.set (u.lx.ba fun i y A hi=>by rw [U i (g_ i hi)];exact A) (kX u.lx u.mp rfl) _
  ·exact LR.set (u.ly.ba fun i y A hi=>by rw [U i (h_ i hi)];exact A) (kX u.ly u.mp rfl) _
  ·exact BY (by have:=aj l_;omega)
 ·rintro t J ⟨g6,B,a_,l,u⟩ - -;have L8:=rF u.bp;have W:=u.ok;rw [ant]at W;obtain⟨HZ,a7⟩:=aM (J.set (b0+2) (.box (cE d s st v cy g m) 0));have s2:cZ J (.ptr (b0+2) 0 0) (cE d s st v cy g m)=aa HZ:=by
   have:=u.br;rw [←x]at this;rw [a7];simp [cZ,this,over,cE,Bg]
  have z2:HZ[b0+2]?=aa (.box (cE d s st v cy g m) 0):=by rw [a7];exact BY (by have:=aj u.br;omega)
  have nm:b0+2≠m:=by omega
  apply ai;simp [g6,B,L8.VQ,s2,-az,-a6,wP];have b_:=u.br;rw [←x]at b_;refine aE (hQ _ _ (.a (cE d s st v cy g m)) (by rfl) ?_ ⟨d,s,st,X,Y,v,cy,l,m,N,⟨f7,o9,n8,o_⟩,sb,xa,xb,ya,yb,by rw [hg],o6,n9,i8,?_,fun i hi=>?_⟩)
  ·have:=(rF (bp:=b0+2) z2).VQ;simp [Km.results,cr,aZ,g6,this,-az]
  ·rw [←hg,a7];refine⟨u.lx.set (u.lx.bA b_) _,u.ly.set (u.ly.bA b_) _,by rw [sh nm];exact u.mp,W.ba fun i y hi A=>?_⟩;rw [sh (by omega)];exact A
  ·show HZ[i]?=_;rw [a7,sh (by omega)];exact u.kp i hi
end Go.Proofs.YthkmdpgdicohdaaGreat
