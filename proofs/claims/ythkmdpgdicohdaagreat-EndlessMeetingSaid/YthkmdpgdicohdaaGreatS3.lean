/-
  afT the nL jY and the ng answer, for all arguments of their kind, in the small machine: part 3.
-/
import Derived.Test.YthkmdpgdicohdaaGreatS2
import Derived.KernelRfl
import Derived.Test.YthkmdpgdicohdaaGreatS1
import Derived.Test.YthkmdpgdicohdaaGreatK5
open Option renaming some → aa,none → ab
open Bool renaming true → ae,false → ag
open List renaming getElem?_append_left → AT, getElem?_append_right → ann, getElem_mem → IS, take_add_one → anu, getElem?_eq_getElem → By, map_cons → ano, map_nil → anC, length_filter_le → ao6, length_take → anW, take_length → ant, getElem?_set_self → BY, getElem?_set_ne → sh, all_eq_true → anx, append_nil → an5, length_append → ank, append_assoc → anV, mem_append → anm, mem_singleton → OF, mem_append_left → anO, pairwise_append → an9, pairwise_singleton → an1, map_drop → api, length_drop → anE, getElem_drop → aoT, pairwise_iff_getElem → anP, mem_of_mem_drop → anY, getElem_of_mem → anB, length_pos_iff → anU, take_of_length_le → anA, mem_take_iff_getElem → an0, flatten_cons → anH, map_append → aop, drop_zero → aod, mem_of_mem_take → aoi, mem_map → anv, drop_length → apf, drop_eq_getElem_cons → anw, getElem_map → aoR, map_take → ao9, take_append_of_le_length → anS, length_set → anD, length_map → anq, mem_cons → anK, eraseIdx_eq_take_drop_succ → aog, drop_append_of_le_length → aoq, take_append_drop → an6, flatten_append → aoy, set_eq_take_append_cons_drop → apb, nil_append → aof, length_eraseIdx → apc, mem_append_right → aoo, drop_drop → aoF, eraseIdx_append_of_length_le → apz, length_replicate → apm
open Nat renaming le_trans → anL, gcd → aor, mul_one → ao2, le_refl → anl, zero_add → aoa, lt_or_ge → anQ, zero_le → aox
open Bool renaming and_eq_true → If, or_eq_true → aoO, eq_iff_iff → aoW
open Int renaming gcd → aob, eq_ofNat_of_zero_le → aoS, natAbs_dvd_natAbs → apD, dvd_of_emod_eq_zero → aoI, emod_emod_of_dvd → aoB, dvd_refl → aoN, emod_eq_of_lt → aoz, le_trans → aoA, le_of_dvd → aom, gcd_pos_of_ne_zero_left → aow, le_refl → aoP, toNat_natCast → anJ, emod_nonneg → aoc, emod_lt_of_pos → an8, mul_nonneg → aov, ediv_nonneg → aou, dvd_trans → aon, ediv_le_self → aoC, mul_le_mul → aoG
open Option renaming bind_some → anR
open List.Pairwise renaming imp → apK
set_option linter.unusedVariables false
set_option linter.constructorNameAsVariable false
set_option linter.unusedSimpArgs false
set_option linter.unusedSectionVars false
set_option linter.unnecessarySimpa false
set_option maxRecDepth 100000
namespace Go.Proofs.YthkmdpgdicohdaaGreat
open Go Km
structure HQ(H:an)(p2:aI)(b2:Nat)(c:C)(L:List Int)(J:an):Prop where
 kp:∀ i:Nat,i<H.length→J[i]?=H[i]?
 bx:J[b2]?=aa (.box [.f (sl p2.hg (ints p2.head)),.f (fi p2.fr),.f (fi p2.aL),.f (sl p2.cg (ints p2.bg))] 0)
 lc:LR J c 1 (ints L)
 lo:∀ i,aV c=aa i→H.length≤i
 hl:H.length≤J.length
theorem head_mem{p:aI}(g:cL p=ae)(d:Int):d ∈ p.head↔0≤d∧d<p.fr∧bK p d=ae:=by
 obtain⟨q,s,u,v,x,y,j,z,A⟩:=aY g;constructor
 ·intro h;have:=j d h;refine⟨by omega,by omega,?_⟩;unfold bK;rw [aT (by omega)];exact decide_eq_true h
 ·rintro⟨l,m,b⟩;unfold bK at b;rw [aT (by omega)]at b;exact of_decide_eq_true b
theorem VM(l b:aI)(X:cL l=ae)(hb:cL b=ae)(la:l.head.length≤1000000)(lb:b.head.length≤1000000)(st:Int)(i8:st=max l.fr b.fr)(cx cy:C)(g:Int)(m:Nat)(H:an) :
  ∃ r H',Ev tab (.fn 176) [.a (cE l b st cx cy g m)] H r H'∧∃ c L,r=.c c∧LR H' c 1 (ints L)∧(∀ i,aV c=aa i→H.length≤i)∧(∀ i:Nat,i<H.length→H'[i]?=H[i]?)∧H.length≤H'.length∧L.Pairwise (· < ·)∧L.length≤l.head.length+b.head.length∧∀ d,d ∈ L↔0≤d∧d<st∧bK l d=ae∧bK b d=ae:=by
 refine cM rfl rfl fun Q hQ=>?_;apply ai;simp [cE];obtain⟨b0,N⟩:=aM (H.length);obtain⟨S,z⟩:=aM (H++[.box (cE l b st cx cy g m) 0]:an);have a0:S[b0]?=aa (.box (cE l b st cx cy g m) 0):=by rw [z,N];simp
 have al:S.length=b0+1:=by rw [z,N];simp
 have ak:∀ i:Nat,i<b0→S[i]?=H[i]?:=fun i hi=>by rw [z,AT (by omega)]
 unfold cE at z;rw [←z,←N];have L1:=rF a0;obtain⟨za,i9⟩:=aM ([.f (sl l.hg (ints l.head)),.f (fi l.fr),.f (fi l.aL),.f (sl l.cg (ints l.bg))]:List C);obtain⟨zb,i_⟩:=aM ([.f (sl b.hg (ints b.head)),.f (fi b.fr),.f (fi b.aL),.f (sl b.cg (ints b.bg))]:List C);have L2:∀ J:an,aU (S++J) (aa 4) (.c (.ptr b0 4 0))=aa (.a [.f (sl b.hg (ints b.head)),.f (fi b.fr),.f (fi b.aL),.f (sl b.cg (ints b.bg))]):=fun J=>(rF (bp:=b0) (by rw [AT (by omega)];exact a0)).lb;refine au (ew (.inl rfl) ?_ ?_)
 case refine_2=>
  intro cc f7;have e_:cc=(3,7):=by simpa using f7
  subst e_;refine⟨by decide,_,rfl,.inl ⟨by decide,?_⟩⟩;simp [L1.la,L1.lb,L2,-az,fE,C2]
 simp [L1.la,L1.lb,-az];obtain⟨y,v⟩:=aM (S++[bV.box [.f (sl l.hg (ints l.head)),.f (fi l.fr),.f (fi l.aL),.f (sl l.cg (ints l.bg))] 0,.box [.f (sl b.hg (ints b.head)),.f (fi b.fr),.f (fi b.aL),.f (sl b.cg (ints b.bg))] 0]);obtain⟨b1,I⟩:=aM (S.length);have c0:y[b0]?=aa (.box (cE l b st cx cy g m) 0):=by rw [v,AT (by omega)];exact a0
 have c1:y[b1]?=aa (.box [.f (sl l.hg (ints l.head)),.f (fi l.fr),.f (fi l.aL),.f (sl l.cg (ints l.bg))] 0):=by rw [v,I];simp
 have c2:y[b1+1]?=aa (.box [.f (sl b.hg (ints b.head)),.f (fi b.fr),.f (fi b.aL),.f (sl b.cg (ints b.bg))] 0):=by rw [v,I,ann (by omega)];simp
 have ck:∀ i:Nat,i<b0→y[i]?=H[i]?:=fun i hi=>by rw [v,AT (by omega)];exact ak i hi
 have cl:y.length=b0+3:=by rw [v];simp [al]
 have i4:b1=b0+1:=by rw [I,al]
 rw [←v,←I]
 suffices O:∀ t:T,t.g 1=.c (.ptr b0 0 0)→t.g 3=.c (.ptr b1 0 0)→t.g 4=.c (.ptr (b1+1) 0 0)→WP tab 176 ab [.code zd] ⟨t,[],y⟩ Q by exact O _ (by simp) (by simp) (by simp)
 intro t g1 W B;have Y:∀(q s:aI) (t:T) (J:an),cL q=ae→cL s=ae→q.fr=st→q.head.length≤1000000→q.head.length≤l.head.length+b.head.length→(∀ d,(bK q d=ae∧bK s d=ae)↔(bK l d=ae∧bK b d=ae))→t.g 3=.c (.ptr b1 0 0)→t.g 4=.c (.ptr (b1+1) 0 0) →
   J[b1]?=aa (.box [.f (sl q.hg (ints q.head)),.f (fi q.fr),.f (fi q.aL),.f (sl q.cg (ints q.bg))] 0)→J[b1+1]?=aa (.box [.f (sl s.hg (ints s.head)),.f (fi s.fr),.f (fi s.aL),.f (sl s.cg (ints s.bg))] 0)→(∀ i:Nat,i<b0→J[i]?=H[i]?) →
   WP tab 176 ab [.code ze] ⟨t,[],J⟩ Q:=by
  intro q s t J h1 h2 f8 i7 f_ a_ W B j1 j2 jk;obtain⟨q1,q2,q3,q4,q5,q6,q7,q8,q9⟩:=aY h1;have K:aU J ab (.c (.ptr b1 0 0))=aa (.c (.f (sl q.hg (ints q.head)))):=by simp [aU,aH,j1]
  have c_:bu J (.f (sl q.hg (ints q.head)))=aa q.head.length:=by simp [ints]
  apply ai;simp;apply au;apply ai;simp [W,K,-az,c_];have jl:=aj j2;refine b7 q.head.length (fun j t J=>t.g 4=.c (.ptr (b1+1) 0 0)∧t.g 20=.c (.f (sl q.hg (ints q.head)))∧∃ c,t.g 5=.c c∧HQ H s (b1+1) c ((q.head.take j).filter fun d=>bK s d) J) (by omega) (by decide) (by decide) (by simp) (by simp)
   ⟨by simp [B],by simp,.f .aC,by simp,fun i hi=>jk i (by omega),j2,by simpa [ints]using LR.nil _ _,(fun _ h=>by cases h),by omega⟩ ?_ ?_
  ·rintro j t J hj ⟨B,E,c,g5,u⟩ X hb next
   have h_:=q7 _ (IS hj);have c9:=fun H:an=>bG (H:=H) (g:=q.hg) (rows:=ints q.head) (sz:=1) (k:=.i64) (i:=(j:Int)) (by omega) (by simp [ints];omega);have K:=fun H:an=>ey (H:=H) hj;simp at c9;obtain⟨x,hx⟩:=aM (q.head[j]);rw [←hx]at h_ K;have b_:q.head.take (j+1)=q.head.take j++[x]:=by rw [anu,By hj,hx];rfl
   have i3:aU J (aa 4) (.c (.ptr (b1+1) 0 0))=aa (.a [.f (sl s.hg (ints s.head)),.f (fi s.fr),.f (fi s.aL),.f (sl s.cg (ints s.bg))]):=by simp [aU,aH,u.bx,aW]
   have M:=wJ s h2 x (by omega) (by unfold Day;omega);simp only [aI.row,ano,anC]at M;refine ay ?_;apply ai;simp [X,E,c9,K];apply au;refine aq (.inl rfl) ?_;simp [B,i3,-az,M];cases a8:bK s x with
   | false=>
    refine aX (by simp) ?_;refine ax (next _ _ ?_ (by simp [X]) (by simp [hb]));refine⟨by simp [B],by simp [E],c,by simp [g5],?_⟩;rw [b_,List.filter_append];simpa [a8]using u
   | true=>
    obtain⟨c3,H3,Z,d9,i6,a7,d_⟩:=pQ u.lc (by refine anL (ao6 _ _) ?_;rw [anW];omega) x;refine av (by simp) ?_;refine aq (.inl rfl) ?_;simp [g5,Z];refine ax (next _ _ ?_ (by simp [X]) (by simp [hb]));refine⟨by simp [B],by simp [E],c3,by simp,fun i hi=>?_,a7 _ _ u.bx (u.lc.bA u.bx),?_,fun i hi=>?_,by have:=u.hl;omega⟩
    ·rw [←u.kp i hi];have g_:i<J.length:=by have:=u.hl;omega
     have hy:J[i]?=aa J[i]:=By g_;rw [hy];exact a7 i _ hy fun e=>by have:=u.lo i e;omega
    ·rw [b_,List.filter_append];simpa [a8]using d9
    ·have:=u.hl;rcases d_ with e | e
     ·rw [e]at hi;exact u.lo i hi
     ·rw [e]at hi;cases hi;omega
  ·rintro t J ⟨B,E,c,g5,u⟩ - -;rw [ant]at u;apply ai;simp [g5];refine aE (hQ _ _ (.c c) rfl (dB (by simp)) ⟨c,_,rfl,u.lc,u.lo,u.kp,u.hl,q6.sublist List.filter_sublist,anL (ao6 _ _) f_,fun d=>?_⟩);rw [List.mem_filter,head_mem h1,f8];constructor
   ·rintro⟨⟨k0,k1,k2⟩,k3⟩;obtain⟨k4,k5⟩:=(a_ d).1 ⟨k2,k3⟩;exact⟨k0,k1,k4,k5⟩
   ·rintro⟨k0,k1,k4,k5⟩;obtain⟨k2,k3⟩:=(a_ d).2 ⟨k4,k5⟩;exact⟨⟨k0,k1,k2⟩,k3⟩
 have l1:aU y ab (.c (.ptr b1 1 0))=aa (vi l.fr):=by simp [aU,aH,c1]
 have l0:=(rF c0).ke;apply au;apply ai;simp [g1,W,l0,l1,-az];by_cases hf:l.fr=st
 ·refine aX (by simp [hf]) ?_;exact Y l b _ _ X hb hf la (by omega) (fun d=>Iff.rfl) (by simp [W]) (by simp [B]) c1 c2 ck
 ·refine av (by simp [hf]) ?_;have l4:aU y (aa 4) (.c (.ptr (b1+1) 0 0))=aa (.a [.f (sl b.hg (ints b.head)),.f (fi b.fr),.f (fi b.aL),.f (sl b.cg (ints b.bg))]):=by simp [aU,aH,c2,aW]
  have l3:aU y (aa 4) (.c (.ptr b1 0 0))=aa (.a [.f (sl l.hg (ints l.head)),.f (fi l.fr),.f (fi l.aL),.f (sl l.cg (ints l.bg))]):=by simp [aU,aH,c1,aW]
  obtain⟨U,A⟩:=aM (y.set b1 (.box [.f (sl b.hg (ints b.head)),.f (fi b.fr),.f (fi b.aL),.f (sl b.cg (ints b.bg))] 0));have s1:cZ y (.ptr b1 0 0) [.f (sl b.hg (ints b.head)),.f (fi b.fr),.f (fi b.aL),.f (sl b.cg (ints b.bg))]=aa U:=by rw [A];simp [cZ,c1,over]
  have d1:U[b1]?=aa (.box [.f (sl b.hg (ints b.head)),.f (fi b.fr),.f (fi b.aL),.f (sl b.cg (ints b.bg))] 0):=by rw [A];exact BY (by omega)
  have d2:U[b1+1]?=aa (.box [.f (sl b.hg (ints b.head)),.f (fi b.fr),.f (fi b.aL),.f (sl b.cg (ints b.bg))] 0):=by rw [A,sh (by omega)];exact c2
  have dl:U.length=y.length:=by rw [A];simp
  obtain⟨HD,F⟩:=aM (U.set (b1+1) (.box [.f (sl l.hg (ints l.head)),.f (fi l.fr),.f (fi l.aL),.f (sl l.cg (ints l.bg))] 0));have s2:cZ U (.ptr (b1+1) 0 0) [.f (sl l.hg (ints l.head)),.f (fi l.fr),.f (fi l.aL),.f (sl l.cg (ints l.bg))]=aa HD:=by rw [F];simp [cZ,d2,over]
  refine aq (.inl rfl) ?_;simp [W,B,l3,l4,-az,s1,s2,-a6];refine Y b l _ _ hb X (by omega) lb (by omega) (fun d=>And.comm) (by simp [W]) (by simp [B]) ?_ ?_ fun i hi=>?_
  ·rw [F,sh (by omega)];exact d1
  ·rw [F];exact BY (by omega)
  ·rw [F,sh (by omega),A,sh (by omega)];exact ck i hi
def yK(m n x y:Nat):Option (V × an)→Bool
 | some (.t [.c (.f (.int .i64 (.ofNat k))),.c (.f (.int .i64 _)),.c (.f (.int .i64 (.ofNat 0)))],_)=>Nat.beq (k % m) x&&(Nat.beq (k % n) y&&Nat.ble (k+1) (Nat.lcm m n))| _=>ag
def aj1(m n:Nat):Bool:=Nat.ble (Nat.lcm m n) 12
noncomputable def gK (m:Nat):Bool:=(List.range 12).all fun b=>!aj1 m (b+1)||(List.range m).all fun x=>(List.range (b+1)).all fun y=>!Nat.beq (x % (aor m (b+1))) (y % (aor m (b+1))) ||
  yK m (b+1) x y (CF tab 60 60 (.fn 218) [vi x,vi m,vi y,vi (b+1:Nat)] [])
theorem adF:gK 1=ae:=by kernel_rfl
theorem adG:gK 2=ae:=by kernel_rfl
theorem adH:gK 3=ae:=by kernel_rfl
theorem adI:gK 4=ae:=by kernel_rfl
theorem adJ:gK 5=ae:=by kernel_rfl
theorem adK:gK 6=ae:=by kernel_rfl
theorem adL:gK 7=ae:=by kernel_rfl
theorem adM:gK 8=ae:=by kernel_rfl
theorem adN:gK 9=ae:=by kernel_rfl
theorem WZ:gK 10=ae:=by kernel_rfl
theorem W0:gK 11=ae:=by kernel_rfl
theorem W1:gK 12=ae:=by kernel_rfl
theorem K_(m:Nat)(b:1≤m)(d:m≤12):gK m=ae:=by
 have:m=1∨m=2∨m=3∨m=4∨m=5∨m=6∨m=7∨m=8∨m=9∨m=10∨m=11∨m=12:=by omega
 rcases this with rfl | rfl | rfl | rfl | rfl | rfl | rfl | rfl | rfl | rfl | rfl | rfl
 ·exact adF
 ·exact adG
 ·exact adH
 ·exact adI
 ·exact adJ
 ·exact adK
 ·exact adL
 ·exact adM
 ·exact adN
 ·exact WZ
 ·exact W0
 ·exact W1
theorem yL{m n x y:Nat}{o:Option (V × an)}(h:yK m n x y o=ae):∃(k u:Nat) (v:Int) (J:an),o=aa (.t [vi k,vi v,vi 0],J)∧k % m=x∧k % n=y∧k<Nat.lcm m n∧u=0:=by
 unfold yK at h;split at h
 ·rename_i o k w J;simp only [If,Nat.ble_eq]at h;exact⟨k,0,w,J,rfl,Nat.eq_of_beq_eq_true h.1,Nat.eq_of_beq_eq_true h.2.1,by omega,rfl⟩
 ·cases h
structure zJ(a b P:Int):Prop where
 pos:0<P
 da:a ∣ P
 db:b ∣ P
 dvd:∀ k,a ∣ k→b ∣ k→P ∣ k
theorem Ds{m n:Nat}(d:1≤m)(g:1≤n):(m:Int) / (aob (m:Int) (n:Int):Int)*n=(Nat.lcm m n:Int):=by
 have b:aob (m:Int) (n:Int)=aor m n:=rfl;rw [b,←Int.natCast_ediv,←Int.natCast_mul,Nat.lcm,Nat.mul_comm m n,Nat.mul_div_assoc _ (Nat.gcd_dvd_left m n),Nat.mul_comm]
theorem VT{a b:Int}(a1:1≤a)(b1:1≤b):zJ a b (a / (aob a b:Int)*b):=by
 obtain⟨m,rfl⟩:=aoS (show 0≤a by omega);obtain⟨n,rfl⟩:=aoS (show 0≤b by omega);rw [Ds (by omega) (by omega)];refine⟨?_,Int.ofNat_dvd.2 (Nat.dvd_lcm_left m n),Int.ofNat_dvd.2 (Nat.dvd_lcm_right m n),fun k j l=>?_⟩
 ·have:=Nat.lcm_pos (m:=m) (n:=n) (by omega) (by omega);omega
 ·have d:=apD.2 j;have g:=apD.2 l;rw [Int.natAbs_natCast]at d g;rw [←apD,Int.natAbs_natCast];exact Nat.lcm_dvd d g
theorem zJ.uniq{a b P:Int}(h:zJ a b P){k k':Int}(h0:0≤k)(h1:k<P)(d:0≤k')(g:k'<P)(l:k % a=k' % a)(hb:k % b=k' % b):k=k':=by
 have:=h.dvd (k-k') (aoI (by rw [Int.sub_emod,l,Int.sub_self,Int.zero_emod])) (aoI (by rw [Int.sub_emod,hb,Int.sub_self,Int.zero_emod]));have e:(k-k') % P=0:=Int.emod_eq_zero_of_dvd this;have j:k % P=k' % P:=by
  have:=aoB k (aoN P);rw [←Int.sub_add_cancel k k',Int.add_emod,e,Int.zero_add,aoB _ (aoN P)]
 rw [aoz h0 h1,aoz d g]at j;exact j
theorem La{m n x y:Nat}(A:1≤m)(E:1≤n)(b:Nat.lcm m n≤12)(u:x<m)(z:y<n)(d:x % aor m n=y % aor m n) :
  ∃(k:Nat) (v:Int),k % m=x∧k % n=y∧k<Nat.lcm m n∧bW tab 218 [vi x,vi m,vi y,vi n]=Eq (.t [vi k,vi v,vi 0]):=by
 have j:=Nat.lcm_pos (m:=m) (n:=n) (by omega) (by omega);have B:m≤12:=anL (Nat.le_of_dvd j (Nat.dvd_lcm_left m n)) b;have F:n≤12:=anL (Nat.le_of_dvd j (Nat.dvd_lcm_right m n)) b;obtain⟨g,rfl⟩:∃ g,n=g+1:=⟨n-1,by omega⟩
 have h:=K_ m A B;unfold gK at h;rw [anx]at h;have h:=h g (List.mem_range.2 (by omega));rw [aoO]at h;rcases h with h | h
 ·exfalso;rw [Bool.not_eq_true']at h;unfold aj1 at h;rw [Nat.ble_eq_true_of_le b]at h;cases h
 rw [anx]at h;have h:=h x (List.mem_range.2 u);rw [anx]at h;have h:=h y (List.mem_range.2 z);rw [aoO]at h;rcases h with h | h
 ·exfalso;rw [d]at h;simp at h
 obtain⟨k,-,v,J,e,l,q,s,-⟩:=yL h;refine⟨k,v,l,q,s,bW.eq ⟨_,J,⟨60,60,e⟩,by simp [kM,dE,aZ]⟩⟩
theorem W2{a b x y P:Int}(a1:1≤a)(b1:1≤b)(j:P=a / (aob a b:Int)*b)(B:P≤12)(q:0≤x)(E:x<a)(s:0≤y)(F:y<b)(d:x % (aob a b:Int)=y % (aob a b:Int)) :
  ∃ k v:Int,0≤k∧k<P∧k % a=x∧k % b=y∧bW tab 218 [vi x,vi a,vi y,vi b]=Eq (.t [vi k,vi v,vi 0]):=by
 obtain⟨m,rfl⟩:=aoS (show 0≤a by omega);obtain⟨n,rfl⟩:=aoS (show 0≤b by omega);obtain⟨x,rfl⟩:=aoS q;obtain⟨y,rfl⟩:=aoS s;rw [Ds (by omega) (by omega)]at j;have l:aob (m:Int) (n:Int)=aor m n:=rfl;rw [l]at d;obtain⟨k,v,u,z,A,g⟩:=La (m:=m) (n:=n) (x:=x) (y:=y) (by omega) (by omega) (by omega) (by omega) (by omega) (by omega);exact⟨k,v,by omega,by omega,by omega,by omega,g⟩
theorem JH{X Y:List Int}{g:Int}{l:List (Int × C)}{d y:C}{m N:Nat}(M O:aI)(st:Int){H:an}(h:PH H N X Y g l d y m)(f:0<g)(I:∀ x ∈ X,0≤x∧x≤1000000)(hX:X.length≤1000)(o:Y.length≤1000) :
  ∃ r H',Ev tab (.fn 177) [.a (cE M O st d y g m)] H r H'∧∃ n:Int,r=vi n∧0≤n∧n≤(X.length:Int)*1000∧(∀ i:Nat,i<H.length→H'[i]?=H[i]?)∧H.length≤H'.length:=by
 refine cM rfl rfl fun Q k=>?_;apply ai;simp [cE];obtain⟨b0,s⟩:=aM (H.length);obtain⟨q,b⟩:=aM (H++[.box (cE M O st d y g m) 0]:an);have e:q[b0]?=aa (.box (cE M O st d y g m) 0):=by rw [b,s];simp
 have U:∀ i:Nat,i<H.length→q[i]?=H[i]?:=fun i hi=>by rw [b,AT (by omega)]
 have al:q.length=H.length+1:=by rw [b];simp
 unfold cE at b;rw [←b,←s];have h:=h.ba U;have L:=rF e;have lx:bu q d=aa X.length:=by have:=h.lx.len;simpa [ints]using this
 apply ai;simp;apply au;apply ai;simp [L.lx,-az,lx];refine b7 X.length (fun j t J=>J=q∧t.g 1=.c (.ptr b0 0 0)∧t.g 7=.c d∧∃ n:Int,t.g 3=vi n∧0≤n∧n≤(j:Int)*1000) (by omega) (by decide) (by decide) (by simp) (by simp)
  ⟨rfl,by simp,by simp,0,by simp,by omega,by omega⟩ ?_ ?_
 ·rintro j t J Z ⟨rfl,z,B,n,A,a,c⟩ W p next
  obtain⟨xb,a7,a8,S,v,-⟩:=tM h.lx Z;have K:=I _ (IS Z);obtain⟨x,I⟩:=aM (X[j]);rw [←I]at K v;have u:bR .rem (vi x) (vi g)=aa (vi (x % g)):=fu (by omega) f;have E:=h.ok.look h.mp (x % g);have F:bu J (nV l (x % g))=aa (jU g Y (x % g)).length:=by have:=(h.ok.lr (x % g)).len;simpa [ints]using this
  have w:(jU g Y (x % g)).length≤1000:=anL (ao6 _ _) o;refine ay ?_;apply ai;simp [W,B,S,v,-az];refine aq (.inl rfl) ?_;simp [z,A,L.lm,L.lg,u,-az,nv,E,F,aP (n:=n+((jU g Y (x % g)).length:Int))];refine ax (next _ _ ?_ (by simp [W]) (by simp [p]));exact⟨rfl,by simp [z],by simp [B],n+((jU g Y (x % g)).length:Int),by simp,by omega,by omega⟩
 ·rintro t J ⟨rfl,z,B,n,A,a,c⟩ - -;apply ai;simp [A];exact aE (k _ _ (vi n) rfl (dB (by simp)) ⟨n,rfl,a,c,U,by show H.length≤J.length;omega⟩)
structure MQ(H0:an)(qa qb:aI)(st g:Int)(cx cy:C)(m b0:Nat)(c:C)(L:List Int)(J:an):Prop where
 kp:∀ i:Nat,i<H0.length→J[i]?=H0[i]?
 bx:J[b0]?=aa (.box (cE qa qb st cx cy g m) 0)
 lc:LR J c 1 (ints L)
 lo:∀ i,aV c=aa i→H0.length≤i
 hl:H0.length≤J.length
theorem MQ.app{H0:an}{z qb:aI}{st g:Int}{v x:C}{m b0:Nat}{c:C}{L:List Int}{J:an}(h:MQ H0 z qb st g v x m b0 c L J)(hl:L.length≤1000000)(n:Int) :
  ∃ l j,bF (J++[.box [.f (fi n)] 0]) 1 8 (.c c) (.c (.sl J.length 0 1 1 0 1))=aa (.c l,j)∧MQ H0 z qb st g v x m b0 l (L++[n]) j:=by
 obtain⟨l,j,b,q,y,d,s⟩:=pQ h.lc hl n;have A:=h.hl;refine⟨l,j,b,fun i hi=>?_,d _ _ h.bx (h.lc.bA h.bx),q,fun i hi=>?_,by omega⟩
 ·rw [←h.kp i hi];have u:i<J.length:=by omega
  have hy:J[i]?=aa J[i]:=By u;rw [hy];exact d i _ hy fun e=>by have:=h.lo i e;omega
 ·rcases s with e | e
  ·rw [e]at hi;exact h.lo i hi
  ·rw [e]at hi;cases hi;omega
structure MM(X Y XS YS:List Int)(x0 pa pb P st:Int)(M:List Int):Prop where
 of:∀ d ∈ M,∃ k,d=st+k∧0≤k∧k<P∧k % pa ∈ X∧k % pb ∈ Y
 to:∀ k,0≤k→k<P→k % pb ∈ Y→(k % pa ∈ XS∨(k % pa=x0∧k % pb ∈ YS))→st+k ∈ M
theorem V9{X Y L0:List Int}{g:Int}{l:List (Int × C)}{K f ch:C}{m N:Nat}(b s:aI)(st:Int){H0 H:an}(h:PH H0 N X Y g l K f m)(U:∀ i:Nat,i<H0.length→H[i]?=H0[i]?)(n9:H0.length≤H.length)(j9:LR H ch 1 (ints L0))(m9:∀ i,aV ch=aa i→H0.length≤i)
  (hg:g=(aob b.aL s.aL:Int)) {P:Int} (a1:1≤b.aL) (b1:1≤s.aL) (hP:P=b.aL / (aob b.aL s.aL:Int)*s.aL) (E:P≤12) (hx:∀ x ∈ X,0≤x∧x<b.aL) (hy:∀ y ∈ Y,0≤y∧y<s.aL) (hX:X.length≤12) (hY:Y.length≤12) (n_:L0.length≤100000) (s0:0≤st) (s1:st≤2000000000000) :
  ∃ r H',Ev tab (.fn 179) [.a (cE b s st K f g m),.c ch] H r H'∧∃ c M,r=.c c∧LR H' c 1 (ints (L0++M))∧(∀ i,aV c=aa i→H0.length≤i)∧(∀ i:Nat,i<H0.length→H'[i]?=H0[i]?)∧H0.length≤H'.length∧M.length≤12*12∧(∀ d ∈ M,∃ k,d=st+k∧0≤k∧k<P∧k % b.aL ∈ X∧k % s.aL ∈ Y) ∧
   ∀ k,0≤k→k<P→k % b.aL ∈ X→k % s.aL ∈ Y→st+k ∈ M:=by
 have F:=(hP▸VT a1 b1:zJ b.aL s.aL P)
 have a2:b.aL≤12:=aoA (aom F.pos F.da) E;have b2:s.aL≤12:=aoA (aom F.pos F.db) E;have g0:0<g:=by rw [hg];have:=aow s.aL (show b.aL≠0 by omega);omega
 have j7:g ∣ b.aL:=by rw [hg];exact Int.gcd_dvd_left ..
 have j8:g ∣ s.aL:=by rw [hg];exact Int.gcd_dvd_right ..
 refine cM rfl rfl fun Q hQ=>?_;apply ai;simp [cE];obtain⟨b0,f7⟩:=aM (H.length);obtain⟨HA,B⟩:=aM (H++[.box (cE b s st K f g m) 0]:an);have a0:HA[b0]?=aa (.box (cE b s st K f g m) 0):=by rw [B,f7];simp
 have ak:∀ i:Nat,i<H.length→HA[i]?=H[i]?:=fun i hi=>by rw [B,AT (by omega)]
 have al:HA.length=H.length+1:=by rw [B];simp
 have q0:MQ H0 b s st g K f m b0 ch (L0++[]) HA:=⟨fun i hi=>by rw [ak i (by omega)];exact U i hi,a0,by rw [an5,B];exact j9.push _,m9,by omega⟩
 unfold cE at B;rw [←B,←f7];have hA:=h.ba (J':=HA) fun i hi=>q0.kp i hi;have L:=rF a0;have lx:bu HA K=aa X.length:=by have:=hA.lx.len;simpa [ints]using this
 apply au;apply ai;simp [L.lx,-az,lx];refine b7 X.length (fun j t J=>t.g 2=.c (.ptr b0 0 0)∧t.g 13=.c K∧∃ c M,t.g 1=.c c∧MQ H0 b s st g K f m b0 c (L0++M) J∧M.length≤j*12∧MM X Y (X.take j) [] 0 b.aL s.aL P st M) (by omega) (by decide) (by decide) (by simp) (by simp)
  ⟨by simp,by simp,ch,[],by simp,q0,by simp,⟨fun _ h=>(by cases h),fun k _ _ _ h=>(by simp at h)⟩⟩ ?_ ?_
 ·rintro j t J hj ⟨S,u,c,M,o,A,a8,z⟩ ha hb next
  have hJ:=h.ba (J':=J) A.kp;obtain⟨xb,o4,o5,n6,i_,-⟩:=tM hJ.lx hj;have a_:=hx _ (IS hj);have i7:=IS hj;have i6:X.take (j+1)=X.take j++[X[j]]:=by rw [anu,By hj];rfl
  obtain⟨x,hx⟩:=aM (X[j]);rw [←hx]at a_ i_ i6 i7;have i3:bR .rem (vi x) (vi g)=aa (vi (x % g)):=fu (by omega) g0;have g_:=hJ.ok.look hJ.mp (x % g);obtain⟨ys,b_⟩:=aM (jU g Y (x % g));have i8:∀ y,y ∈ ys↔y ∈ Y∧y % g=x % g:=fun y=>by rw [b_];simp [jU]
  obtain⟨cc,f_⟩:=aM (nV l (x % g));have f8:∀ J':an,(∀ i:Nat,i<H0.length→J'[i]?=H0[i]?)→LR J' cc 1 (ints ys):=fun J' W=>by rw [b_,f_];exact(h.ba W).ok.lr (x % g)
  have l_:bu J cc=aa ys.length:=by have:=(f8 J A.kp).len;simpa [ints]using this
  have o0:ys.length≤12:=by rw [b_];exact anL (ao6 _ _) hY
  rw [←f_]at g_;have LJ:=rF A.bx;refine ay ?_;apply ai;simp [ha,u,n6,i_,-az];apply ai;simp [S,LJ.lm,LJ.lg,i3,-az,nv,g_,l_];refine b7 ys.length (fun i a J=>a.g 2=.c (.ptr b0 0 0)∧a.g 13=.c K∧a.g 15=vi j∧a.g 14=t.g 14∧a.g 6=vi x∧a.g 25=.c cc∧∃ c M,a.g 1=.c c∧MQ H0 b s st g K f m b0 c (L0++M) J∧M.length≤j*12+i∧MM X Y (X.take j) (ys.take i) x b.aL s.aL P st M) (by omega) (by decide) (by decide) (by simp) (by simp)
   ⟨by simp [S],by simp [u],by simp [ha],by simp,by simp,by simp,c,M,by simp [o],A,by omega,⟨z.of,fun k k0 Z O U=>by
    rcases U with U | U
    ·exact z.to k k0 Z O (.inl U)
    ·simp at U⟩⟩ ?_ ?_
  ·rintro i a J' hi ⟨S,u,w,p,g6,a7,c,M,o,A,a8,z⟩ d_ j_ d9;obtain⟨yb,o6,o7,n8,j4,-⟩:=tM (f8 J' A.kp) hi;have I:=(i8 _).1 (IS hi);have e:ys.take (i+1)=ys.take i++[ys[i]]:=by rw [anu,By hi];rfl
   obtain⟨y,m_⟩:=aM (ys[i]);rw [←m_]at j4 I e;obtain⟨k,v,k0,Z,ka,O,i4⟩:=W2 a1 b1 hP E a_.1 a_.2 (hy y I.1).1 (hy y I.1).2 (by rw [←hg];exact I.2.symm);have LJ:=rF A.bx;obtain⟨c3,H3,e_,h_⟩:=A.app (by rw [ank];omega) (st+k);rw [anV]at h_;refine ay ?_;apply ai;simp [d_,a7,n8,j4,-az];apply ai;simp [S,g6,LJ.lap,LJ.lbp,-az,i4];refine aq (.inl rfl) ?_;simp [o,S,LJ.ke,-az,aP (n:=st+k),e_];refine ax (d9 _ _ ?_ (by simp [d_]) (by simp [j_]));refine⟨by simp [S],by simp [u],by simp [w],by simp [p],by simp [g6],by simp [a7],c3,M++[st+k],by simp,h_,by simp;omega,⟨fun d k_=>?_,fun k' c9 c_ i9 W=>?_⟩⟩
   ·rcases anm.1 k_ with q | q
    ·exact z.of d q
    ·rw [OF]at q;exact⟨k,q,k0,Z,by rw [ka];exact i7,by rw [O];exact I.1⟩
   ·rw [e,anm,OF]at W;rcases W with q | ⟨q1,q | q⟩
    ·exact anO _ (z.to k' c9 c_ i9 (.inl q))
    ·exact anO _ (z.to k' c9 c_ i9 (.inr ⟨q1,q⟩))
    ·have:k'=k:=zJ.uniq F c9 c_ k0 Z (by rw [q1,ka]) (by rw [q,O]);rw [this];simp
  ·rintro a J' ⟨S,u,w,p,g6,a7,c,M,o,A,a8,z⟩ - -;rw [ant]at z;refine ax (next _ _ ?_ (by simp [w]) (by simp [p,hb]));refine⟨by simp [S],by simp [u],c,M,by simp [o],A,by omega,⟨z.of,fun k k0 Z O U=>?_⟩⟩;rcases U with q | q
   ·rw [i6,anm,OF]at q;rcases q with q | q
    ·exact z.to k k0 Z O (.inl q)
    ·refine z.to k k0 Z O (.inr ⟨q,(i8 _).2 ⟨O,?_⟩⟩);rw [aoB _ j8,←q,aoB _ j7]
   ·simp at q
 ·rintro t J ⟨S,u,c,M,o,A,a8,z⟩ - -;rw [ant]at z;apply ai;simp [o];refine aE (hQ _ _ (.c c) rfl (dB (by simp)) ⟨c,M,rfl,A.lc,A.lo,A.kp,A.hl,by omega,z.of,fun k k0 Z ka O=>z.to k k0 Z O (.inl ka)⟩)
structure jm(S:Int→Prop)(U:Int)(ds:List Int):Prop where
 lt:∀ d ∈ ds,d<U
 iff:∀ d,d<U→(d ∈ ds↔S d)
 pw:ds.Pairwise (· < ·)
section
variable{S:Int→Prop}{U:Int}{ds:List Int}
theorem jm.skip(h:jm S U ds){V:Int}(j:U≤V)(g:∀ d,U≤d→d<V→¬ S d):jm S V ds:=
 ⟨fun d b=>by have:=h.lt d b;omega,fun d b=>by
  by_cases k:d<U
  ·exact h.iff d k
  ·exact⟨fun x=>absurd (h.lt d x) k,fun x=>absurd x (g d (by omega) b)⟩,h.pw⟩
theorem jm.more(h:jm S U ds){n:Int}(j:U≤n)(b:∀ d,U≤d→d<n→¬ S d)(l:S n):jm S (n+1) (ds++[n]):=by
 have h:=h.skip j b;refine⟨fun d g=>?_,fun d g=>?_,?_⟩
 ·rcases anm.1 g with q | q
  ·have:=h.lt d q;omega
  ·rw [OF]at q;omega
 ·rw [anm,OF];by_cases k:d=n
  ·subst k;simp [l]
  ·rw [←h.iff d (by omega)];simp [k]
 ·rw [an9];exact⟨h.pw,an1 _ _,fun x m y hy=>by rw [OF]at hy;subst hy;exact h.lt x m⟩
theorem jm.all(h:jm S U ds)(b:∀ d,U≤d→¬ S d)(d:Int):d ∈ ds↔S d:=by
 by_cases k:d<U
 ·exact h.iff d k
 ·exact⟨fun x=>absurd (h.lt d x) k,fun x=>absurd x (b d (by omega))⟩
end
def SW(p:aI)(lo hi d:Int):Prop:=lo≤d∧d<hi∧bK p d=ae
theorem yk{p:aI}{base c:Int}(j:p.fr≤base)(g:(base-p.fr) % p.aL=0)(b:0≤c)(d:c<p.aL):bK p (base+c)=ae↔c ∈ p.bg:=by
 unfold bK;rw [bf (by omega),decide_eq_true_eq];have:(base+c-p.fr) % p.aL=c:=by
  rw [show base+c-p.fr=c+(base-p.fr) by omega,Int.add_emod,g,Int.add_zero,aoB _ (aoN _),aoz b d]
 rw [this]
theorem ab0(p:aI)(lo:Int)(H:an):∃ r H',Ev tab (.fn 139) [.a (p.row.map .f),vi lo] H r H'∧(r=.c (.cl 188 [.ptr H.length 0 0,.ptr (H.length+1) 0 0])∧H'=H++[.box [.f (sl p.hg (ints p.head)),.f (fi p.fr),.f (fi p.aL),.f (sl p.cg (ints p.bg))] 0,.box [.f (fi lo)] 0]):=by
 refine cM rfl rfl fun Q b=>?_;apply ai;simp [aI.row];apply ai;simp;exact aE (b _ _ _ rfl (dB (by simp)) ⟨rfl,rfl⟩)
theorem ab1{b bp bl:Nat}(p:aI)(hp:cL p=ae)(p_:p.head.length≤1000000)(p8:p.bg.length≤1000000)(lo hi:Int)(l0:0≤lo)(l1:lo≤1099511627776)(r7:hi≤2199023255552){PP:Int→List Int→an→Prop}{RR:List Int→an→Prop}
  (hb:∀ z ds J,PP z ds J→J[bp]?=aa (.box [.f (sl p.hg (ints p.head)),.f (fi p.fr),.f (fi p.aL),.f (sl p.cg (ints p.bg))] 0)∧J[bl]?=aa (.box [.f (fi z)] 0))
  (k_:∀ z z' ds J,PP z ds J→PP z' ds (J.set bl (.box [.f (fi z')] 0)))
  (hy:∀ z ds J n,PP z ds J→lo≤n→n<hi→(∀ d ∈ ds,d<n)→ds.Pairwise (· < ·)→(∀ d ∈ ds,SW p lo hi d)→∃ J',Ev tab (.yield b) [vi n] J (vb ae) J'∧PP z (ds++[n]) J')
  (hn:∀ z ds J n,PP z ds J→hi≤n→n≤4611686018427387904→∃ J',Ev tab (.yield b) [vi n] J (vb ag) J'∧RR ds J') {H:an} (h0:PP lo [] H) :
  ∃ r H',Ev tab (.fn 188) [.c (.yl b),.c (.ptr bp 0 0),.c (.ptr bl 0 0)] H r H'∧(r=.t []∧∃ ds,((∃ z,PP z ds H')∨RR ds H')∧ds.Pairwise (· < ·)∧∀ d,d ∈ ds↔SW p lo hi d):=by
 obtain⟨q1,q2,q3,q4,q5,q6,q7,q8,q9⟩:=aY hp;obtain⟨i,q_,j8,o5,n9⟩:=gd p.hg p.head lo (by omega) q6;have Z:∀ z ds J,PP z ds J→aU J ab (.c (.ptr bp 0 0))=aa (.c (.f (sl p.hg (ints p.head))))∧aU J ab (.c (.ptr bp 1 0))=aa (vi p.fr)∧aU J ab (.c (.ptr bp 2 0))=aa (vi p.aL)∧aU J ab (.c (.ptr bp 3 0))=aa (.c (.f (sl p.cg (ints p.bg))))∧aU J ab (.c (.ptr bl 0 0))=aa (vi z)∧∀ z':Int,cZ J (.ptr bl 0 0) [.f (fi z')]=aa (J.set bl (.box [.f (fi z')] 0)):=fun z ds J h=>by
  obtain⟨h1,h2⟩:=hb z ds J h;refine⟨?_,?_,?_,?_,?_,fun z'=>?_⟩<;>simp [aU,aH,cZ,over,h1,h2]
 obtain⟨e0,e1,e2,e3,e4,e5⟩:=Z _ _ _ h0;have i_:∀(l:List Int) (k:Nat),(ints l).drop k=ints (l.drop k):=fun l k=>by simp [ints,api]
 refine cM rfl rfl fun Q hQ=>?_;apply ai;simp [e0,e4,-az,n9];obtain⟨g1,l_⟩:=yI (H:=H) (g:=p.hg) (k:=i) (Km.Ord.bY p.head) (by simp [ints];omega) (by simp [ints];omega);rw [i_]at l_;have a_:∀(J:an) (g:Tg) (l:List Int),bu J (.f (sl g (ints l)))=aa l.length:=fun J g l=>by simp [ints]
 have f_:∀ d,d<p.fr→0≤d→(bK p d=ae↔d ∈ p.head):=fun d L h0=>by unfold bK;rw [aT (by omega),decide_eq_true_eq]
 apply au;apply ai;simp [e0,-az,l_,a_];refine b7 (p.head.drop i).length (fun j t J=>t.g 0=.c (.yl b)∧t.g 1=.c (.ptr bp 0 0)∧t.g 2=.c (.ptr bl 0 0)∧t.g 21=.c (.f (sl g1 (ints (p.head.drop i))))∧∃ ds,PP lo ds J∧(∃ U,jm (SW p lo hi) U ds∧(lo≤U∧U≤max lo p.fr)∧(∀(k:Nat) (h:k<(p.head.drop i).length),k<j→(p.head.drop i)[k]<U)∧∀(k:Nat) (h:k<(p.head.drop i).length),j≤k→U≤(p.head.drop i)[k])∧∀ d ∈ ds,SW p lo hi d) (by rw [anE];omega) (by decide) (by decide) (by simp) (by simp)
  ⟨by simp,by simp,by simp,by simp,[],h0,⟨lo,⟨by simp,fun d L=>⟨fun h=>(by simp at h),fun h=>(by have:=h.1;omega)⟩,List.Pairwise.nil⟩,⟨aoP _,by omega⟩,fun k _ h=>(by omega),fun k h _=>(by rw [aoT];exact o5 _ (by simp at h;omega) (by omega))⟩,by simp⟩ ?_ ?_
 ·rintro j t J M ⟨X,v,g2,d_,ds,I,⟨U,F,hU,E,a⟩,y⟩ ha f8 next
  have a7:=fun H:an=>bG (H:=H) (g:=g1) (rows:=ints (p.head.drop i)) (sz:=1) (k:=.i64) (i:=(j:Int)) (by omega) (by simpa [ints]using M);have a8:=fun H:an=>ey (H:=H) M;simp only [ao2,anJ]at a7;have j9:(p.head.drop i).Pairwise (· < ·):=q6.sublist (List.drop_sublist _ _);have x:∀(k:Nat) (h:k<(p.head.drop i).length),j+1≤k→(p.head.drop i)[j]<(p.head.drop i)[k]:=fun k h Y=>anP.1 j9 j k M h (by omega);have A:∀(k:Nat) (h:k<(p.head.drop i).length),k<j→(p.head.drop i)[k]<(p.head.drop i)[j]:=fun k h Y=>anP.1 j9 k j h M Y;have o:=a j M (anl _);have f:(p.head.drop i)[j] ∈ p.head:=anY (IS M);have i3:∀ d,d ∈ p.head→d<lo∨∃(k:Nat) (h:k<(p.head.drop i).length),d=(p.head.drop i)[k]:=fun d L=>by
   obtain⟨k,Y,rfl⟩:=anB L;by_cases g_:k<i
   ·exact .inl (j8 k Y g_)
   ·refine .inr ⟨k-i,by rw [anE];omega,?_⟩;rw [aoT]
    congr 1;omega
  obtain⟨n,hx⟩:=aM ((p.head.drop i)[j]);rw [←hx]at a8 x A o f;have s7:=q7 n f;have K:∀ d,U≤d→d<n→¬ SW p lo hi d:=fun d h1 h2 B=>by
   have:=(f_ d (by omega) (by omega)).1 B.2.2;rcases i3 d this with h | ⟨k,Y,rfl⟩
   ·omega
   ·by_cases W:k<j
    ·have:=E k Y W;omega
    ·by_cases j7:k=j
     ·subst j7;omega
     ·have:=x k Y (by omega);omega
  have o9:=Z _ _ _ I;refine ay ?_;apply ai;simp [ha,d_,a7,a8];by_cases w:n<hi
  ·obtain⟨J',O,f7⟩:=hy lo ds J n I (by omega) w (fun d L=>by have:=F.lt d L;omega) F.pw y;apply ai;simp [X,O.eq];refine aX (by simp) ?_;have B:SW p lo hi n:=⟨by omega,w,(f_ n (by omega) (by omega)).2 f⟩
   refine ax (next _ _ ?_ (by simp [ha]) (by simp [f8]));refine⟨by simp [X],by simp [v],by simp [g2],by simp [d_],ds++[n],f7,⟨n+1,F.more o K B,⟨by omega,by omega⟩,fun k h Y=>?_,fun k h Y=>by have:=x k h Y;omega⟩,fun d L=>?_⟩
   ·by_cases e:k=j
    ·subst e;omega
    ·have:=A k h (by omega);omega
   ·rcases anm.1 L with q | q
    ·exact y d q
    ·rw [OF]at q;rw [q];exact B
  ·obtain⟨J',O,hR⟩:=hn lo ds J n I (by omega) (by omega);apply ai;simp [X,O.eq];refine av (by simp) ?_;exact aE (hQ _ _ _ rfl rfl ⟨rfl,ds,.inr hR,F.pw,F.all fun d L B=>by
    by_cases h:d<n
    ·exact K d L h B
    ·have:=B.2.1;omega⟩)
 ·rintro t J ⟨X,v,g2,d_,ds,I,⟨U,F,hU,E,-⟩,y⟩ - -;obtain⟨V,hV⟩:=aM (max lo p.fr);have b_:jm (SW p lo hi) V ds:=F.skip (by omega) fun d h1 h2 B=>by
   have o0:d<p.fr:=by omega
   have o4:=(f_ d o0 (by omega)).1 B.2.2;obtain⟨k,Y,rfl⟩:=anB o4;by_cases g_:k<i
   ·have:=j8 k Y g_;omega
   ·have j4:k-i<(p.head.drop i).length:=by rw [anE];omega
    have:=E (k-i) j4 j4;rw [aoT]at this;simp only [show i+(k-i)=k by omega]at this;omega
  obtain⟨-,e1,e2,e3,e4,e5⟩:=Z _ _ _ I;apply au;apply ai;simp [v,e3,-az,a_];by_cases hc:p.bg=[]
  ·refine av (by simp [hc]) ?_;refine aE (hQ _ _ _ rfl rfl ⟨rfl,ds,.inl ⟨lo,I⟩,b_.pw,b_.all fun d L B=>?_⟩);have:=B.2.2;unfold bK at this;rw [bf (by omega),hc]at this;simp at this
  have p9:0<p.bg.length:=anU.2 hc;refine aX (by simp [hc]) ?_;have o8:max lo p.fr=V:=hV.symm;have s2:=e5 V;have c9:=k_ lo V ds J I;generalize J.set bl (.box [.f (fi V)] 0)=J2 at s2 c9;obtain⟨-,f1,f2,f3,f4,-⟩:=Z _ _ _ c9;apply ai;simp [v,g2,e1,e4,-az,o8,s2,-a6];have r8:=aoc (V-p.fr) (show p.aL≠0 by omega);have r9:=an8 (V-p.fr) (show 0<p.aL by omega);have r_:(V-p.fr) % p.aL≤V-p.fr:=by
   have h1:=Int.emod_add_mul_ediv (V-p.fr) p.aL;have h2:0≤p.aL*((V-p.fr) / p.aL):=aov (by omega) (aou (by omega) (by omega));omega
  have d9:bR .rem (vi (V-p.fr)) (vi p.aL)=aa (vi ((V-p.fr) % p.aL)):=fu (by omega) (by omega);obtain⟨base,N⟩:=aM (V-(V-p.fr) % p.aL);have i6:(base-p.fr) % p.aL=0:=by
   rw [N,show V-(V-p.fr) % p.aL-p.fr=(V-p.fr)-(V-p.fr) % p.aL by omega,Int.sub_emod,aoB _ (aoN _),Int.sub_self,Int.zero_emod]
  apply ai;simp [v,g2,f1,f2,f4,-az,aP (n:=V-p.fr),d9,←N,aP (n:=base)];obtain⟨k0,c_,n6,m_,m9⟩:=gd p.cg p.bg (V-base) (by omega) q8;apply ai;simp [v,g2,f3,f4,-az,aP (n:=V-base),m9];refine ay ?_;refine bI (fun m s=>∃(T0:T) (J:an) (ds:List Int) (base U:Int) (k:Nat),s=⟨T0,[],J⟩∧m=(hi-base).toNat+(if k=0 then 0 else 1)∧T0.g 0=.c (.yl b)∧T0.g 1=.c (.ptr bp 0 0)∧T0.g 4=vi k∧T0.g 8=vi base∧PP V ds J∧jm (SW p lo hi) U ds∧(∀ d ∈ ds,SW p lo hi d) ∧
   p.fr≤base∧(base-p.fr) % p.aL=0∧base≤U∧U≤base+p.aL∧V≤U∧k≤p.bg.length∧(∀(j:Nat) (h:j<p.bg.length),j<k→base+p.bg[j]<U)∧(∀(j:Nat) (h:j<p.bg.length),k≤j→U≤base+p.bg[j])∧(k=0∨base≤1099511627776)∧base≤4398046511104) ((hi-base).toNat+(if k0=0 then 0 else 1))
   ⟨_,J2,ds,base,V,k0,rfl,rfl,by simp [X],by simp [v],by simp,by simp,c9,b_,y,by omega,i6,by omega,by omega,aoP _,c_,fun j h M=>by have:=n6 j h M;omega,fun j h M=>by have:=m_ j h M;omega,by omega,by omega⟩ ?_
  clear b_ c9 i6 I N n6 m_ m9 d9 f1 f2 f3 f4 s2 e1 e2 e3 e4 e5;rintro m s ⟨t,J,ds,base,U,k,rfl,rfl,X,v,g4,g8,I,F,y,b1,b2,b3,b4,b5,Y,E,a,o6,b6⟩ ih;obtain⟨-,e1,e2,e3,e4,-⟩:=Z _ _ _ I;obtain⟨g3,j_⟩:=yI (H:=J) (g:=p.cg) (k:=k) (Km.Ord.bY p.bg) (by simp [ints];omega) (by simp [ints];omega);rw [i_]at j_;refine ay ?_;apply au;apply ai;simp [v,g4,e3,-az,j_,a_];refine b7 (p.bg.drop k).length (fun j t' J=>t'.g 0=.c (.yl b)∧t'.g 1=.c (.ptr bp 0 0)∧t'.g 8=vi base∧t'.g 61=.c (.f (sl g3 (ints (p.bg.drop k))))∧∃ ds U,PP V ds J∧jm (SW p lo hi) U ds∧(∀ d ∈ ds,SW p lo hi d)∧base≤U∧U≤base+p.aL∧V≤U∧(∀(i:Nat) (h:i<p.bg.length),i<k+j→base+p.bg[i]<U)∧(∀(i:Nat) (h:i<p.bg.length),k+j≤i→U≤base+p.bg[i])∧(0<j→base<hi)) (by rw [anE];omega) (by decide) (by decide) (by simp) (by simp)
   ⟨by simp [X],by simp [v],by simp [g8],by simp,ds,U,I,F,y,b3,b4,b5,E,a,by omega⟩ ?_ ?_
  ·rintro j t' J M ⟨X,v,g8,e_,ds,U,I,F,y,b3,b4,b5,E,a,-⟩ ha f8 next
   have W:k+j<p.bg.length:=by rw [anE]at M;omega
   have a7:=fun H:an=>bG (H:=H) (g:=g3) (rows:=ints (p.bg.drop k)) (sz:=1) (k:=.i64) (i:=(j:Int)) (by omega) (by simpa [ints]using M);have a8:=fun H:an=>ey (H:=H) M;simp only [ao2,anJ]at a7;have n_:(p.bg.drop k)[j]=p.bg[k+j]:=by rw [aoT]
   have i7:=q9 _ (IS W);have i9:=IS W;have o:=a (k+j) W (anl _);have x:∀(i:Nat) (h:i<p.bg.length),k+j+1≤i→p.bg[k+j]<p.bg[i]:=fun i h hi=>anP.1 q8 (k+j) i W h (by omega);have A:∀(i:Nat) (h:i<p.bg.length),i<k+j→p.bg[i]<p.bg[k+j]:=fun i h hi=>anP.1 q8 i (k+j) h W hi;obtain⟨c,i8⟩:=aM (p.bg[k+j]);rw [n_,←i8]at a8;rw [←i8]at i7 i9 o x A;have h_:bK p (base+c)=ae:=(yk b1 b2 (by omega) i7.2).2 i9;have K:∀ d,U≤d→d<base+c→¬ SW p lo hi d:=fun d h1 h2 B=>by
    have h3:=B.2.2;rw [show d=base+(d-base) by omega,yk b1 b2 (by omega) (by omega)]at h3;obtain⟨i',S,e⟩:=anB h3;by_cases u:i'<k+j
    ·have:=E i' S u;omega
    ·by_cases u2:i'=k+j
     ·subst u2;omega
     ·have:=x i' S (by omega);omega
   refine ay ?_;apply ai;simp [ha,e_,a7,a8];by_cases w:base+c<hi
   ·obtain⟨J',O,f7⟩:=hy V ds J (base+c) I (by omega) w (fun d L=>by have:=F.lt d L;omega) F.pw y;apply ai;simp [X,g8,aP (n:=base+c),O.eq];refine aX (by simp) ?_;have B:SW p lo hi (base+c):=⟨by omega,w,h_⟩
    refine ax (next _ _ ?_ (by simp [ha]) (by simp [f8]));refine⟨by simp [X],by simp [v],by simp [g8],by simp [e_],ds++[base+c],base+c+1,f7,F.more o K B,fun d L=>?_,by omega,by omega,by omega,fun i' h S=>?_,fun i' h S=>?_,fun _=>by omega⟩
    ·rcases anm.1 L with q | q
     ·exact y d q
     ·rw [OF]at q;rw [q];exact B
    ·by_cases e:i'=k+j
     ·subst e;omega
     ·have:=A i' h (by omega);omega
    ·have:=x i' h (by omega);omega
   ·obtain⟨J',O,hR⟩:=hn V ds J (base+c) I (by omega) (by omega);apply ai;simp [X,g8,aP (n:=base+c),O.eq];refine av (by simp) ?_;exact aE (hQ _ _ _ rfl rfl ⟨rfl,ds,.inr hR,F.pw,F.all fun d L B=>by
     by_cases h:d<base+c
     ·exact K d L h B
     ·have:=B.2.1;omega⟩)
  ·rintro t' J ⟨X,v,g8,e_,ds,U,I,F,y,b3,b4,b5,E,-,i4⟩ - -;have o7:k+(p.bg.drop k).length=p.bg.length:=by rw [anE];omega
   rw [o7]at E;obtain⟨-,e1,e2,e3,e4,-⟩:=Z _ _ _ I;have n8:jm (SW p lo hi) (base+p.aL) ds:=F.skip b4 fun d h1 h2 B=>by
    have h3:=B.2.2;rw [show d=base+(d-base) by omega,yk b1 b2 (by omega) (by omega)]at h3;obtain⟨i',S,e⟩:=anB h3;have:=E i' S S;omega
   have o_:base≤2199023255552:=by
    rcases o6 with rfl | h
    ·have:=i4 (by rw [anE];omega);omega
    ·omega
   apply ai;simp;refine aq (.inl rfl) ?_;simp [v,g8,e2,-az,aP (n:=base+p.aL)];refine ax (ih ((hi-(base+p.aL)).toNat+0) _ ?_ ⟨_,J,ds,base+p.aL,base+p.aL,0,rfl,by simp,by simp [X],by simp [v],by simp,by simp,I,n8,y,by omega,?_,aoP _,by omega,by omega,by omega,fun j h M=>by omega,fun j h M=>by have:=q9 _ (IS h);omega,.inl rfl,by omega⟩)
   ·by_cases c_:k=0
    ·rw [bf c_];have:=i4 (by rw [anE];omega);omega
    ·rw [aT c_];omega
   ·rw [show base+p.aL-p.fr=base-p.fr+p.aL by omega,Int.add_emod_right];exact b2
structure WQ(p:aI)(hi:Int)(tm:T)(st:dw)(pd:Option aw)(z:Int)(ds:List Int)(J:an):Prop where
 h1:J[1]?=aa (.box [.f (fi hi)] 0)
 bp:J[3]?=aa (.box [.f (sl p.hg (ints p.head)),.f (fi p.fr),.f (fi p.aL),.f (sl p.cg (ints p.bg))] 0)
 bl:J[4]?=aa (.box [.f (fi z)] 0)
 df:J[5]?=aa (.eo ae)
 lp:J[6]?=aa (.lp 181 tm [P.nat 12] jN jc st pd 5)
 ls:∃ c,J[2]?=aa (.box [c] 0)∧LR J c 1 (ints ds)∧∀ i,aV c=aa i→6<i
theorem WQ.six{p:aI}{hi:Int}{b:T}{st st':dw}{g pd':Option aw}{z:Int}{ds:List Int}{J:an}(h:WQ p hi b st g z ds J):WQ p hi b st' pd' z ds (J.set 6 (.lp 181 b [P.nat 12] jN jc st' pd' 5)):=by
 obtain⟨h1,h3,h4,h5,h6,c,h2,d,hc⟩:=h;refine⟨?_,?_,?_,?_,BY (aj h6),c,?_,d.set (fun e=>by have:=hc 6 e;omega) _,hc⟩
 all_goals (rw [sh (by omega)];assumption)
theorem WQ.low{p:aI}{hi:Int}{d:T}{st:dw}{b:Option aw}{z:Int}{ds:List Int}{J:an}(h:WQ p hi d st b z ds J)(g:Int):WQ p hi d st b g ds (J.set 4 (.box [.f (fi g)] 0)):=by
 obtain⟨h1,h3,h4,h5,h6,c,h2,j,hc⟩:=h;refine⟨?_,?_,BY (aj h4),?_,?_,c,?_,j.set (fun e=>by have:=hc 4 e;omega) _,hc⟩
 all_goals (rw [sh (by omega)];assumption)
theorem qy{p:aI}{hi:Int}{j:T}(L:j.g 5=.c (.ptr 1 0 0))(M:j.g 7=.c (.ptr 2 0 0)){z:Int}{ds:List Int}{J:an}(h:WQ p hi j .ready ab z ds J)(n:Int)(O:n<hi→ds.length≤1000000) :
  ∃ r H',Ev tab (.yield 6) [vi n] J r H'∧((n<hi∧r=vb ae∧WQ p hi j .ready ab z (ds++[n]) H')∨(hi≤n∧r=vb ag∧WQ p hi j .done (aa (.exit 0)) z ds H')):=by
 refine dr (tab:=tab) (b:=6) (args:=[vi n]) (H:=J) h.lp rfl fun X m=>?_;refine aq (.inr rfl) ?_;simp;refine fW h.lp ?_;have d:=h.six (st':=.busy) (pd':=ab);generalize J.set 6 (.lp 181 j [P.nat 12] jN jc .busy ab 5)=v at d ⊢;have U:aU v ab (.c (.ptr 1 0 0))=aa (vi hi):=by simp [aU,aH,d.h1]
 obtain⟨c,E,N,F⟩:=d.ls;refine ay ?_;apply au;refine au (aq (.inr rfl) ?_);simp [L,U,-az];by_cases k:n<hi
 ·refine aF (by simp;omega) (aR ?_);obtain⟨u,s,q,l,I,A,x⟩:=pQ N (O k) n;have g:∀(i:Nat) y,i≤6→v[i]?=aa y→s[i]?=aa y:=fun i y hi Q=>A i y Q fun e=>by have:=F i e;omega
  have S:aU v ab (.c (.ptr 2 0 0))=aa (.c c):=by simp [aU,aH,E]
  have B:=g 2 _ (by omega) E;have W:cZ s (.ptr 2 0 0) [u]=aa (s.set 2 (.box [u] 0)):=by simp [cZ,B,over]
  refine aq (.inr rfl) ?_;simp [M,S,-az,q,W,-a6];have K:WQ p hi j .busy ab z (ds++[n]) (s.set 2 (.box [u] 0)):=by
   have Y:=aj (g 6 _ (by omega) d.lp);refine⟨?_,?_,?_,?_,?_,u,BY (aj B),l.set (l.bA B) _,fun i hi=>?_⟩
   ·rw [sh (by omega)];exact g 1 _ (by omega) d.h1
   ·rw [sh (by omega)];exact g 3 _ (by omega) d.bp
   ·rw [sh (by omega)];exact g 4 _ (by omega) d.bl
   ·rw [sh (by omega)];exact g 5 _ (by omega) d.df
   ·rw [sh (by omega)];exact g 6 _ (by omega) d.lp
   ·rcases x with e | e
    ·rw [e]at hi;exact F i hi
    ·rw [e]at hi;cases hi;have:=aj d.lp;omega
  exact ax (cK (m _ _ _ _ _ _ _ _ _ _ rfl K.lp (.inl ⟨k,rfl,K.six⟩)))
 ·refine av (by simp;omega) ?_;exact mT rfl (m _ _ _ _ _ _ _ _ _ _ rfl d.lp (.inr ⟨by omega,rfl,d.six⟩))
theorem xl(p:aI)(W:cL p=ae)(U:p.head.length≤1000000)(N:p.bg.length≤1000000)(lo hi:Int)(l0:0≤lo)(l1:lo≤1099511627776)(hh:hi≤lo+1000000) :
  ∃ L g,bW tab 181 [.a (p.row.map .f),vi lo,vi hi]=Eq (.c (.f (sl g (ints L))))∧L.Pairwise (· < ·)∧∀ d,d ∈ L↔SW p lo hi d:=by
 obtain⟨r,⟨L,g,rfl,I,K⟩,h⟩:∃ r,(∃ L g,r=.c (.f (sl g (ints L)))∧L.Pairwise (· < ·)∧∀ d,d ∈ L↔SW p lo hi d)∧bW tab 181 [.a (p.row.map .f),vi lo,vi hi] r:=by
  refine qn afv rfl fun Q w=>?_;apply ai;simp [aI.row];apply ai;simp;obtain⟨m,q⟩:=aM ([.box [.f (sl p.hg (ints p.head)),.f (fi p.fr),.f (fi p.aL),.f (sl p.cg (ints p.bg))] 0,.box [.f (fi hi)] 0,.box [.f .aC] 0]:an);rw [←q];have la:aU m (aa 4) (.c (.ptr 0 0 0))=aa (.a [.f (sl p.hg (ints p.head)),.f (fi p.fr),.f (fi p.aL),.f (sl p.cg (ints p.bg))]):=by rw [q];simp [aU,aH,aW]
  obtain⟨r0,H0,S,rfl,rfl⟩:=ab0 p lo m;simp only [aI.row,ano,anC]at S;have a:m.length=3:=by rw [q];rfl
  rw [a]at S;apply au;apply ai;simp [la,-az,S.eq];refine ay ?_
  suffices go:∀ j:T,j.g 5=.c (.ptr 1 0 0)→j.g 7=.c (.ptr 2 0 0)→j.g 11=.c (.cl 188 [.ptr 3 0 0,.ptr 4 0 0])→WP tab 181 ab [.code zf,.inBlock 0,.code qD] ⟨j,[],m++[.box [.f (sl p.hg (ints p.head)),.f (fi p.fr),.f (fi p.aL),.f (sl p.cg (ints p.bg))] 0,.box [.f (fi lo)] 0]⟩ Q by exact go _ (by simp) (by simp) (by simp)
  intro j f F E;obtain⟨o,y⟩:=aM (m++[.box [.f (sl p.hg (ints p.head)),.f (fi p.fr),.f (fi p.aL),.f (sl p.cg (ints p.bg))] 0,.box [.f (fi lo)] 0]++[.eo ae,.lp 181 j [P.nat 12] jN jc .ready ab 5]:an);have q0:WQ p hi j .ready ab lo [] o:=by
   rw [y,q];refine⟨rfl,rfl,rfl,rfl,rfl,.f .aC,rfl,?_,fun i h=>by cases h⟩;exact LR.nil _ _
  obtain⟨r,H',he,rfl,ds,s,X,B⟩:=ab1 (b:=6) (bp:=3) (bl:=4) p W U N lo hi l0 l1 (by omega) (PP:=fun z ds J=>WQ p hi j .ready ab z ds J) (RR:=fun ds J=>∃ z,WQ p hi j .done (aa (.exit 0)) z ds J)
   (fun z ds J h=>⟨h.bp,h.bl⟩) (fun z z' ds J h=>h.low z')
   (fun z ds J n h a7 hn a8 W hS=>by
    have A:ds.length≤1000000:=by
     have:=kU ds lo (hi-lo) W fun x hx=>by have:=hS x hx;unfold SW at this;omega
     omega
    obtain⟨r,H',u,Z⟩:=qy f F h n fun _=>A;rcases Z with⟨_,rfl,Y⟩ | ⟨H,_,_⟩
    ·exact⟨H',u,Y⟩
    ·omega)
   (fun z ds J n h hn _=>by
    obtain⟨r,H',u,Z⟩:=qy f F h n fun h=>by omega
    rcases Z with⟨H,_,_⟩ | ⟨_,rfl,Y⟩
    ·omega
    ·exact⟨H',u,z,Y⟩)
   q0
  have l:(m++[bV.box [.f (sl p.hg (ints p.head)),.f (fi p.fr),.f (fi p.aL),.f (sl p.cg (ints p.bg))] 0,.box [.f (fi lo)] 0]).length=5:=by simp [a]
  have O:Ev tab (.fn 188) [.c (.yl ((m++[bV.box [.f (sl p.hg (ints p.head)),.f (fi p.fr),.f (fi p.aL),.f (sl p.cg (ints p.bg))] 0,.box [.f (fi lo)] 0]).length+1)),.c (.ptr 3 0 0),.c (.ptr 4 0 0)] (m++[bV.box [.f (sl p.hg (ints p.head)),.f (fi p.fr),.f (fi p.aL),.f (sl p.cg (ints p.bg))] 0,.box [.f (fi lo)] 0]++[.eo ae,.lp 181 j [P.nat 12] jN jc .ready ab (m++[bV.box [.f (sl p.hg (ints p.head)),.f (fi p.fr),.f (fi p.aL),.f (sl p.cg (ints p.bg))] 0,.box [.f (fi lo)] 0]).length]) (.t []) H':=by
   rw [l,←y];exact he
  refine dZ (g:=188) (by rw [oA,E];simp [bO]) O ?_;rw [l];have v:∀(J:an) (st:dw) (k:Option aw) (z:Int),WQ p hi j st k z ds J→WP tab 181 ab [.code qD] ⟨j,[.dN 5],J⟩ Q:=by
   intro J st k z h;obtain⟨c,H,t,hc⟩:=h.ls;have l2:aU J ab (.c (.ptr 2 0 0))=aa (.c c):=by simp [aU,aH,H]
   have M:=t.set (fun e=>by have:=hc 5 e;omega) (.eo ag);obtain⟨g,hg⟩:=M.ex (Km.Ord.bY _) 63;apply ai;simp [F,l2,-az];refine aE (w _ _ _ ⟨ds,g,rfl,X,B⟩ (.inr ⟨5,rfl,h.df,.c c,?_,?_⟩))
   ·exact dB (by simp)
   ·simp [kM,deep,hg]
  rcases s with⟨z,h⟩ | ⟨z,h⟩
  ·refine ff h.lp (by decide) (ax (v _ _ _ z h.six))
  ·refine pM h.lp (by decide) (bh rfl (v _ _ _ z h.six))
 exact⟨L,g,h.eq,I,K⟩
theorem BJ{x y:Int}(h:x≤y)(b:x≠y):x<y:=by omega
theorem xS{l:List Int}(g:l.Pairwise (·≤·)){i j:Nat}(b:i<j)(d:j<l.length):(l[i]'(by omega))≤l[j]:=anP.1 g i j (by omega) d b
theorem Kt{l:List Int}{j:Nat}{x:Int}(b:l[j]?=aa x):(ints l)[j]?=aa [fi x]:=by simp [ints,b]
theorem wm(l:List Int):(ints l).length=l.length:=by simp [ints]
theorem Ku(l:List Int)(j:Nat)(x:Int):(ints l).set j [fi x]=ints (l.set j x):=by simp [ints,List.map_set]
theorem yD{H:an}{b d:Nat}{l:List Int}(h:RB H b 1 d (ints l)){j:Nat}{x:Int}(g:l[j]?=aa x):aU H ab (.c (.ptr b j d))=aa (vi x):=by
 have:=h.ldc (Km.Ord.bY l) (Kt g) (k:=0) rfl;simpa using this
theorem Ae{H:an}{b A:Nat}{l:List Int}(hl:l.length≤1000000)(hs:l.Pairwise (·≤·))(F:RB H b 1 A (ints l)) :
  ∃ r H',Ev tab (.fn 183) [.c (.sl b 0 l.length 0 A 1)] H r H' ∧
   (∃ l' R:List Int,r=.c (.sl b 0 l'.length 0 A 1)∧Fm b H H'∧RB H' b 1 A (ints (l'++R))∧l'.length≤l.length∧l'.Pairwise (· < ·)∧∀ x,x ∈ l'↔x ∈ l):=by
 refine cM rfl rfl fun Q hQ=>?_;apply ai;simp;apply au;apply ai;simp [F.len];by_cases h2:l.length<2
 ·refine av (by simp;omega) ?_;apply ai;simp;refine aE (hQ _ _ _ rfl (dB (by simp)) ⟨l,[],rfl,Fm.refl _,by simpa using F,anl _,?_,fun _=>Iff.rfl⟩)
  match l,h2 with
  | [],_=>exact List.Pairwise.nil| [x],_=>exact an1 _ _| x::y::r,h=>simp at h;omega
 refine aF (by simp;omega) (aR ?_);apply au;apply ai;simp;refine ay ?_;refine bI (fun n s=>∃(k:Nat) (t:T),s=⟨t,[],H⟩∧n=l.length-k∧1≤k∧k≤l.length∧t.g 0=.c (.sl b 0 l.length 0 A 1)∧t.g 3=vi k∧(l.take k).Pairwise (· < ·)) (l.length-1)
  ⟨1,_,rfl,rfl,by omega,by omega,by simp,by simp,?_⟩ ?_
 ·cases l with
  | nil=>simp| cons x r=>simp
 rintro n s ⟨k,t,rfl,rfl,i4,i6,B,E,hp⟩ ih;apply au;apply ai;simp [B,E,F.len];by_cases u:k<l.length
 case neg=>
  refine aF (by simp [u]) ?_;refine bh (k':=[.code nA]) rfl ?_;apply ai;simp [B];refine aE (hQ _ _ _ rfl (dB (by simp)) ⟨l,[],rfl,Fm.refl _,by simpa using F,anl _,?_,fun _=>Iff.rfl⟩);rwa [anA (by omega)]at hp
 refine av (by simp [u]) (aR ?_);obtain⟨m,rfl⟩:∃ m,k=m+1:=⟨k-1,by omega⟩
 have ix:∀ {H:an} {rows:List (List FC)} (F:RB H b 1 A rows) (o n i:Nat) (hi:i<n),bC H 1 ab (.c (.sl b o n 0 A 1)) (vi i)=aa (.c (.ptr b (o+i) A)):=by
  intro H rows F o n i hi;have:=F.idx (n:=n) (c:=0) (k:=.i64) (o:=o) (i:=(i:Int)) (by omega) (by omega);rwa [anJ,ao2]at this
 have i1:=ix F 0 l.length (m+1) u;have i0:=ix F 0 l.length m (by omega);have l1:=yD F (j:=m+1) (By u);have l0:=yD F (j:=m) (By (show m<l.length by omega));rw [aoa]at i1 i0;have c1:((m+1:Nat):Int)-1=m:=by omega
 rw [show((m+1:Nat):Int)=(m:Int)+1 by omega]at i1;have d9:l.take (m+1+1)=l.take (m+1)++[l[m+1]]:=by rw [anu,By u];rfl
 apply au;refine ay ?_;apply ai;simp [B,E,i1,i0,l1,l0,-az,aP (n:=(m:Int))];by_cases hc:¬ l[m+1]=l[m]
 ·
  refine aF (by simp [hc]) (aR (ax ?_));refine aq (.inl rfl) ?_;simp [E,aP (n:=(m:Int)+1+1)];refine ih (l.length-(m+2)) _ (by omega) ⟨m+2,_,rfl,rfl,by omega,by omega,by simp [B],by simp;omega,?_⟩;show(l.take (m+1+1)).Pairwise (· < ·);have M:l[m]≠l[m+1]:=fun e=>hc e.symm;rw [d9,an9];refine⟨hp,an1 _ _,fun y hy z hz=>?_⟩;obtain rfl:=OF.1 hz;obtain⟨i,hi,rfl⟩:=anB hy;have i3:i<m+1:=by simp at hi;omega
  rw [List.getElem_take];by_cases e:i=m
  ·subst e;exact BJ (xS hs (by omega) u) M
  ·exact Int.lt_trans (b:=l[m]) (by
    have h1:=anP.1 hp i m (by simp;omega) (by simp;omega) (by omega);simpa using h1) (BJ (xS hs (by omega) u) M)
 ·
  have c9:l[m+1]=l[m]:=Classical.not_not.1 hc;have c2:((m+1:Nat):Int)=(m:Int)+1:=by omega
  have N:=F.lI (k:=m+1) u;rw [c2]at N;refine av (by simp [c9]) ?_;apply ai;simp [B,E,N];apply au;apply ai;simp;refine ay ?_;refine bI (fun n s=>∃(i:Nat) (t:T) (I:an) (P R:List Int),s=⟨t,[],I⟩∧n=l.length-(m+2+i)∧m+2+i≤l.length∧t.g 0=.c (.sl b 0 l.length 0 A 1)∧t.g 3=vi P.length∧t.g 4=.c (.sl b (m+1) (l.length-(m+1)) 0 A 1)∧t.g 5=vi ((i:Int)+1) ∧
   Fm b H I∧RB I b 1 A (ints (P++R))∧(P++R).length=l.length∧1≤P.length∧P.length≤m+1+i∧(∀ q,m+1+i≤q→(P++R)[q]?=l[q]?)∧P.Pairwise (· < ·)∧∀ x,x ∈ P↔x ∈ l.take (m+2+i)) (l.length-(m+2))
   ⟨0,_,H,l.take (m+1),l.drop (m+1),rfl,rfl,by omega,by simp [B],by simp [E];omega,by simp,by simp,Fm.refl _,by simpa using F,by simp,by simp;omega,by simp;omega,by simp,hp,fun x=>?_⟩ ?_
  ·show x ∈ l.take (m+1)↔x ∈ l.take (m+1+1);rw [d9,anm,OF];refine⟨.inl,fun h=>h.elim id fun e=>?_⟩;rw [e,c9];exact an0.2 ⟨m,by omega,rfl⟩
  rintro n s ⟨i,t,I,P,R,rfl,rfl,hi,B,E,U,W,J,d,v,X,d_,hq,L,g⟩ h_;have Z:=d.len (o:=(m+1)) (l:=l.length-(m+1)) (c:=0);apply au;apply ai;simp [U,W,Z];by_cases K:m+2+i<l.length
  case neg=>
   have b_:m+2+i=l.length:=by omega
   refine aF (by simp;omega) ?_;refine bh (k':=[.code qJ,.inBlock 1,.code qK,.inLoop qI,.inBlock 0,.code nA]) rfl ?_;have a8:P.length<l.length:=by omega
   obtain⟨H3,a_,a7,f7⟩:=d.clr (Km.Ord.bY _) (zs:=[fi 0]) (by simpa using v) a8 rfl;rw [ao2]at a_;have N:=d.lI a8;apply ai;simp [B,E,N,a_];have g_:=a7.A9 (n:=l.length) (k:=P.length) (by omega) (by omega);apply ai;simp [B,E,g_];have e3:(ints (P++R)).take P.length++List.replicate (l.length-P.length) [fi 0]=ints (P++List.replicate (l.length-P.length) 0):=by
    simp [ints]
   rw [e3]at a7;refine aE (hQ _ _ _ rfl (dB (by simp)) ⟨P,_,rfl,J.trans f7,a7,by omega,L,fun x=>?_⟩);rw [g,b_,ant]
  have ha:(P++R)[m+2+i]?=aa l[m+2+i]:=by rw [hq _ (by omega),By K]
  have e_:(P++R)[m+1+i]?=aa (l[m+1+i]'(by omega)):=by rw [hq _ (by omega),By]
  have j1:=ix d (m+1) (l.length-(m+1)) (i+1) (by omega);have j0:=ix d (m+1) (l.length-(m+1)) i (by omega);rw [show m+1+(i+1)=m+2+i by omega,show((i+1:Nat):Int)=(i:Int)+1 by omega]at j1;rw [show m+1+i=m+1+i by omega]at j0;have d1:=yD d ha;have d0:=yD d e_;refine av (by simp;omega) (aR ?_);apply au;refine ay ?_;apply ai;simp [U,W,j1,j0,d1,d0,-az,aP (n:=(i:Int))];have S:l.take (m+2+(i+1))=l.take (m+2+i)++[l[m+2+i]]:=by
   rw [show m+2+(i+1)=m+2+i+1 by omega,anu,By K];rfl
  have next:∀(t:T) (I:an) (P R:List Int),t.g 0=.c (.sl b 0 l.length 0 A 1)→t.g 3=vi P.length→t.g 4=.c (.sl b (m+1) (l.length-(m+1)) 0 A 1)→t.g 5=vi ((i:Int)+1) →
    Fm b H I→RB I b 1 A (ints (P++R))→(P++R).length=l.length→1≤P.length→P.length≤m+2+i→(∀ q,m+2+i≤q→(P++R)[q]?=l[q]?)→P.Pairwise (· < ·)→(∀ x,x ∈ P↔x ∈ l.take (m+2+(i+1))) →
    WP tab 183 ab [.inBlock 3,.code vI,.inLoop vH,.inBlock 2,.code qJ,.inBlock 1,.code qK,.inLoop qI,.inBlock 0,.code nA] ⟨t,[],I⟩ Q:=by
   intro t I P R B E U W J d v X d_ hq L g;refine ax (aq (.inl rfl) ?_);simp [W,aP (n:=(i:Int)+1+1)];exact h_ (l.length-(m+2+(i+1))) _ (by omega) ⟨i+1,_,I,P,R,rfl,rfl,by omega,by simp [B],by simp [E],by simp [U],by simp,J,d,v,X,by omega,fun q h=>hq q (by omega),L,g⟩
  have f8:(l[m+1+i]'(by omega))≤l[m+2+i]:=xS hs (by omega) K;by_cases Y:¬ l[m+2+i]=l[m+1+i]
  ·have M:l[m+1+i]≠l[m+2+i]:=fun e=>Y e.symm;have c_:=BJ f8 M;have kx:=ix d 0 l.length P.length (by omega);rw [aoa]at kx;obtain⟨H3,s3,r3,f3,-⟩:=d.str (Km.Ord.bY _) (j:=P.length) (by rw [wm,v];omega) (row:=[fi l[m+2+i]]) rfl;rw [Ku]at r3;rw [ao2]at s3;obtain⟨x0,R',rfl⟩:∃ x0 R',R=x0::R':=by
    cases R with
    | nil=>simp at v;omega| cons x0 R'=>exact⟨_,_,rfl⟩
   rw [sG]at r3;refine av (by simp [Y]) ?_;apply ai;simp only [ano,anC]at s3;simp [B,E,U,W,j1,d1,kx,s3,-az,-a6];refine aq (.inl rfl) ?_;simp [E,aP (n:=(P.length:Int)+1)];have e5:P++l[m+2+i]::R'=(P++[l[m+2+i]])++R':=by simp
   rw [e5]at r3;refine next _ H3 (P++[l[m+2+i]]) R' (by simp [B]) (by simp) (by simp [U]) (by simp [W]) (J.trans f3) r3 (by simpa using v) (by simp) (by simp;omega) (fun q h=>?_) ?_ fun x=>?_
   ·rw [←e5,←sG P x0,sh (by omega)];exact hq q (by omega)
   ·rw [an9];refine⟨L,an1 _ _,fun y hy z hz=>?_⟩;obtain rfl:=OF.1 hz;obtain⟨q,f_,rfl⟩:=anB ((g y).1 hy);have i7:q<m+2+i:=by simp at f_;omega
    rw [List.getElem_take];by_cases e:q=m+1+i
    ·subst e;exact c_
    ·have h1:=xS hs (i:=q) (j:=m+1+i) (by omega) (by omega);omega
   ·rw [S,anm,anm,g]
  ·have O:l[m+2+i]=l[m+1+i]:=Classical.not_not.1 Y;refine aX (by simp [O]) ?_;refine next _ I P R (by simp [B]) (by simp [E]) (by simp [U]) (by simp [W]) J d v X (by omega) (fun q h=>hq q (by omega)) L fun x=>?_
   rw [S,anm,OF,g];refine⟨.inl,fun h=>h.elim id fun e=>?_⟩;rw [e,O];exact an0.2 ⟨m+1+i,by omega,rfl⟩
def CR(H:an)(c:C)(l:List Int):Prop:=(l=[]∧(c=.f .aC∨c=.f .es))∨(l≠[]∧∃ b d R fl,c=.sl b 0 l.length 0 d 1∧H[b]?=aa (.cS 1 ((l++R).map fun n=>.f (fi n)) fl d .loc))
theorem BL(l:List Int):(ints l).flatten.map C.f=l.map fun n=>.f (fi n):=by
 induction l with
 | nil=>rfl| cons a l b=>simp only [ints,ano,anH,aop]at b ⊢;rw [b];rfl
theorem wk(l:List Int):(ints l).flatten=l.map fi:=by
 induction l with
 | nil=>rfl| cons a l b=>simp only [ints,ano,anH]at b ⊢;rw [b];rfl
theorem ael{l:List Int}(h:l≠[])(g:Tg):sl g (ints l)=.fs (l.map fi) l.length:=by
 have:ints l≠[]:=by intro e;apply h;have:=congrArg List.length e;simpa [ints]using this
 rw [←wk];cases l with
 | nil=>exact absurd rfl h| cons a l=>simp [sl,ints]
theorem xE(c:C)(d:c=.f .aC∨c=.f .es)(H:an):∃ r H',Ev tab (.fn 183) [.c c] H r H'∧(r=.c c∧H'=H):=by
 have g:bu H c=aa 0:=by rcases d with rfl | rfl<;>rfl
 refine cM rfl rfl fun Q b=>?_;apply ai;simp;apply au;apply ai;simp [g];refine av (by simp) ?_;apply ai;simp;exact aE (b _ _ _ rfl (dB (by simp)) ⟨rfl,rfl⟩)
theorem Bx{H:an}{c:C}{l:List Int}(F:l.length≤1000000)(I:l.Pairwise (·≤·))(h:LR H c 1 (ints l)) :
  ∃ j H' d,Ev tab (.fn 183) [.c c] H (.c j) H'∧CR H' j d∧Kb H H' c∧(aV j=aV c)∧d.length≤l.length∧d.Pairwise (· < ·)∧∀ x,x ∈ d↔x ∈ l:=by
 rcases h with⟨m,v⟩ | ⟨s,b,y,rfl,z⟩
 ·have m:l=[]:=by
   cases l with
   | nil=>rfl| cons a l=>simp [ints]at m
  subst m;obtain⟨r,H',q,rfl,rfl⟩:=xE c v H;exact⟨c,H',[],q,.inl ⟨rfl,v⟩,Kb.refl _ _,rfl,anl _,List.Pairwise.nil,fun _=>Iff.rfl⟩
 ·rw [wm];obtain⟨r,H',q,d,R,rfl,E,g,A,B,u⟩:=Ae F I z;refine⟨_,H',d,q,.inr ⟨fun e=>?_,b,y,R,0,rfl,?_⟩,Kb.akD E,rfl,A,B,u⟩
  ·subst e;cases l with
   | nil=>simp [ints]at s| cons a l=>have:=(u a).2 List.mem_cons_self;simp at this
  ·unfold RB at g;rw [g,BL]
theorem CR.ex{H:an}{c:C}{l:List Int}(h:CR H c l):∃ g,∀ n,eL (n+1) H c=aa (sl g (ints l)):=by
 rcases h with⟨rfl,rfl | rfl⟩ | ⟨hl,b,d,R,fl,rfl,h2⟩
 ·exact⟨.nil,fun _=>rfl⟩
 ·exact⟨.es,fun _=>rfl⟩
 ·refine⟨.fs,fun n=>?_⟩;simp only [jz,h2];rw [bf ⟨trivial,trivial,by simp⟩,aod,ao2];have:((l++R).map fun n=>C.f (fi n)).take l.length=(l.map fi).map .f:=by simp
  rw [this,ld,ael hl];rfl
theorem CR.mk{H:an}{c:C}{l:List Int}(h:CR H c l)(n:Nat):CR (fo (n+1) c H) c l∧∀(i:Nat) (y:bV),H[i]?=aa y→aV c≠aa i→(fo (n+1) c H)[i]?=aa y:=by
 rcases h with⟨rfl,rfl | rfl⟩ | ⟨hl,b,d,R,fl,rfl,h2⟩
 ·exact⟨.inl ⟨rfl,.inl rfl⟩,fun i y hy _=>hy⟩
 ·exact⟨.inl ⟨rfl,.inr rfl⟩,fun i y hy _=>hy⟩
 ·have e:fo (n+1) (.sl b 0 l.length 0 d 1) H=H.set b (.cS 1 ((l++R).map fun n=>.f (fi n)) (Nat.max fl (0+l.length*1)) d .loc):=by
   simp only [pW,h2];rw [jA];intro x g;have g:=anY (aoi g);obtain⟨m,_,rfl⟩:=anv.1 g;exact⟨_,rfl⟩
  rw [e];refine⟨.inr ⟨hl,b,d,R,_,rfl,BY (aj h2)⟩,fun i y hy hi=>?_⟩;rw [sh (by rintro rfl;exact hi rfl)];exact hy
def VR(H:an)(c:C)(b:Option Nat)(m:List Int):Prop:=∀ H':an,(∀ i y,b=aa i→H[i]?=aa y→H'[i]?=aa y)→bu H' c=aa m.length∧∀(k:Nat) (h:k<m.length),∃ p,bC H' 1 ab (.c c) (vi k)=aa (.c p)∧aU H' ab (.c p)=aa (vi m[k])
theorem CR.cut{H:an}{c:C}{l:List Int}(h:CR H c l){i:Nat}(hi:i≤l.length):∃ g m q,wZ H 1 (.c c) (vi i) (vi i)=aa (.c (.f (sl g (ints (l.take i)))),m)∧(∀ H':an,(∀ j y,aV c=aa j→m[j]?=aa y→H'[j]?=aa y)→bM H' 1 (.c c) (aa (vi i)) ab ab=aa (.c q))∧(∀ j y,H[j]?=aa y→aV c≠aa j→m[j]?=aa y)∧m.length=H.length∧VR m q (aV c) (l.drop i):=by
 rcases h with⟨rfl,hc⟩ | ⟨hl,b,x,R,fl,rfl,h2⟩
 ·have d:i=0:=by simpa using hi
  subst d;rcases hc with rfl | rfl
  ·exact⟨.nil,H,.f .aC,rfl,fun _ _=>rfl,fun _ _ h _=>h,rfl,fun H' _=>⟨rfl,fun k h=>by simp at h⟩⟩
  ·exact⟨.es,H,.f .es,rfl,fun _ _=>rfl,fun _ _ h _=>h,rfl,fun H' _=>⟨rfl,fun k h=>by simp at h⟩⟩
 ·have z:bH l.length l.length ab (aa (vi i)) (aa (vi i))=aa (0,i,i):=by simp [bH,fx hi,fx (anl i)]
  have A:bH l.length l.length (aa (vi i)) ab ab=aa (i,l.length,l.length):=by simp [bH,fx hi]
  have J:∀(m:an) (fl:Nat),m[b]?=aa (.cS 1 ((l++R).map fun n=>.f (fi n)) fl x .loc)→∃ q,(∀ H':an,(∀ j y,aa b=aa j→m[j]?=aa y→H'[j]?=aa y)→bM H' 1 (.c (.sl b 0 l.length 0 x 1)) (aa (vi i)) ab ab=aa (.c q))∧VR m q (aa b) (l.drop i):=fun m fl h2=>by
   by_cases s:i=l.length
   ·refine⟨.f (.fs [] 0),fun H' u=>?_,fun H' _=>⟨by rw [s,apf];rfl,fun k h=>by rw [s,apf]at h;simp at h⟩⟩;have:0<l.length:=anU.2 hl;have h2:=u b _ rfl h2;simp only [bM,h2,and_self,if_true,A];simp [s,this]
   ·refine⟨.sl b i (l.length-i) 0 x 1,fun H' u=>?_,fun H' u=>?_⟩
    ·have h2:=u b _ rfl h2;simp only [bM,h2,and_self,if_true,A];simp [s]
    ·have v:=u b _ rfl h2;refine⟨by simp [bu,v],fun k h=>⟨.ptr b (i+k) x,?_,?_⟩⟩
     ·have u:k<l.length-i:=by simpa using h
      simp [bC,show gA (vi k)=aa (k:Int) from rfl,v,u]
     ·have u:i+k<l.length:=by simp at h;omega
      simp only [aU,aH,v,if_true,anR];rw [anw (by simp;omega)];have F:((l++R).map fun n=>C.f (fi n))[i+k]'(by simp;omega)=.f (fi l[i+k]):=by
       rw [aoR,List.getElem_append_left u]
      rw [F];simp [aW]
  by_cases d:i=0
  ·subst d;obtain⟨q,B,E⟩:=J H fl h2;refine⟨.es,H,q,?_,B,fun _ _ h _=>h,rfl,E⟩;simp only [wZ,bM,h2,and_self,if_true,z];simp [sl,ints,Tg.fc]
  ·have I:l.take i≠[]:=by
    intro e;have:=congrArg List.length e;simp at this;rcases this with h | h
    ·exact d h
    ·exact hl h
   obtain⟨q,B,E⟩:=J (H.set b (.cS 1 ((l++R).map fun n=>.f (fi n)) (Nat.max fl (i*1)) x .loc)) _ (BY (aj h2));refine⟨.fs,_,q,?_,B,fun j y hy K=>?_,by simp,E⟩
   ·have M:bM H 1 (.c (.sl b 0 l.length 0 x 1)) ab (aa (vi i)) (aa (vi i))=ab:=by
     simp only [bM,h2,and_self,if_true,z];simp [d]
    have L:aZ fcC (((l++R).map fun n=>C.f (fi n)).take (i*1))=aa ((l.take i).map fi):=by
     have:((l++R).map fun n=>C.f (fi n)).take (i*1)=((l.take i).map fi).map .f:=by
      rw [ao2,←ao9,anS hi,List.map_map];rfl
     rw [this];generalize (l.take i).map fi=w;induction w with
     | nil=>rfl| cons a w N=>simp only [ano,aZ,fcC,N]
    simp only [wZ,M,h2,and_self,if_true,fx hi];rw [bf ⟨trivial,by omega,by simp;omega⟩,L,ael I];simp [Nat.min_eq_left hi]
   ·rw [sh (by rintro rfl;exact K rfl)];exact hy
theorem tP{p:aI}(j:1≤p.aL){d d':Int}(g:p.fr≤d)(b:p.fr≤d')(h:p.aL ∣ d'-d):bK p d'=bK p d:=by
 unfold bK;rw [bf g,bf b];have:(d'-p.fr) % p.aL=(d-p.fr) % p.aL:=by
  rw [show d'-p.fr=(d'-d)+(d-p.fr) by omega,Int.add_emod,Int.emod_eq_zero_of_dvd h,Int.zero_add,aoB _ (aoN _)]
 rw [this]
theorem agN(f:Bool→Bool→Bool){l m:aI}(X:cL l=ae)(Y:cL m=ae){st P:Int}(w:st=max l.fr m.fr)(H:zJ l.aL m.aL P)(t:st≤1000000)(W:P≤1000000){L:List Int}(B:L.Pairwise (· < ·))(s:∀ d,d ∈ L↔0≤d∧d<st+P∧f (bK l d) (bK m d)=ae)(U:L.length≤1000000)
  {i:Nat} (A:∀ j (h:j<L.length),j<i→L[j]<st) (z:∀ j (h:j<L.length),i≤j→st≤L[j]) (M K:Tg) :
  cL ⟨M,L.take i,st,P,K,(L.drop i).map (· - st)⟩=ae∧∀ d,0≤d→bK ⟨M,L.take i,st,P,K,(L.drop i).map (· - st)⟩ d=f (bK l d) (bK m d):=by
 obtain⟨q1,q2,q3,q4,-⟩:=aY X;obtain⟨w1,w2,w3,w4,-⟩:=aY Y;have I:=H.pos;have E:∀ x ∈ L.take i,x ∈ L∧x<st:=fun x g=>by
  obtain⟨j,u,rfl⟩:=an0.1 g;exact⟨IS _,A j (by omega) (by omega)⟩
 have q:∀ x,x ∈ L.drop i↔x ∈ L∧st≤x:=fun x=>by
  constructor
  ·intro g;obtain⟨j,u,rfl⟩:=anB g;rw [aoT];exact⟨IS _,z _ _ (by omega)⟩
  ·rintro⟨g,t⟩;obtain⟨j,u,rfl⟩:=anB g;have a:i≤j:=by
    rcases anQ j i with k | k
    ·have:=A j u k;omega
    ·exact k
   exact List.mem_of_getElem? (i:=j-i) (by rw [List.getElem?_drop,show i+(j-i)=j by omega,By u])
 refine⟨qf (by show 0≤st;omega) (by show st≤_;omega) (by show 1≤P;omega) (by show P≤_;omega) (by show(L.take i).length+((L.drop i).map (· - st)).length≤_;simp;omega) (B.sublist (List.take_sublist _ _)) (fun x g=>?_) ?_ (fun x g=>?_),fun d Z=>?_⟩
 ·have:=E x g;exact⟨((s x).1 this.1).1,this.2⟩
 ·show((L.drop i).map (· - st)).Pairwise (· < ·);rw [List.pairwise_map];exact apK (fun h=>by omega) (B.sublist (List.drop_sublist i L))
 ·have g:x ∈ (L.drop i).map (· - st):=g;obtain⟨y,J,rfl⟩:=anv.1 g;obtain⟨F,S⟩:=(q y).1 J;have:=(s y).1 F;exact⟨by omega,by show y-st<P;omega⟩
 ·unfold bK;simp only;by_cases k:st≤d
  ·rw [bf k];have o:=aoc (d-st) (show P≠0 by omega);have r:=an8 (d-st) I;have v:P ∣ d-(st+(d-st) % P):=by
    rw [show d-(st+(d-st) % P)=(d-st)-(d-st) % P by omega];exact Int.dvd_self_sub_emod
   have N:=tP (p:=l) q3 (d:=st+(d-st) % P) (d':=d) (by omega) (by omega) (aon H.da v);have O:=tP (p:=m) w3 (d:=st+(d-st) % P) (d':=d) (by omega) (by omega) (aon H.db v);have Q:(d-st) % P ∈ (L.drop i).map (· - st)↔f (bK l d) (bK m d)=ae:=by
    rw [anv,N,O];constructor
    ·rintro⟨y,J,e⟩;obtain⟨F,S⟩:=(q y).1 J;have:=((s y).1 F).2.2;rw [show st+(d-st) % P=y by omega];exact this
    ·intro h;exact⟨st+(d-st) % P,(q _).2 ⟨(s _).2 ⟨by omega,by omega,h⟩,by omega⟩,by omega⟩
   have b:decide ((d-st) % P ∈ (L.drop i).map (· - st))=f (bK l d) (bK m d):=by
    rw [aoW,decide_eq_true_eq];exact Q
   unfold bK at b;exact b
  ·rw [aT k];have b:decide (d ∈ L.take i)=f (bK l d) (bK m d):=by
    rw [aoW,decide_eq_true_eq];constructor
    ·intro h;exact((s d).1 (E d h).1).2.2
    ·intro h;have n:=(s d).2 ⟨Z,by omega,h⟩;obtain⟨j,u,rfl⟩:=anB n;have c:j<i:=by
      rcases anQ j i with k | k'
      ·exact k
      ·have:=z j u k';omega
     exact an0.2 ⟨j,by omega,rfl⟩
   unfold bK at b;exact b
structure nT(p:aI):Prop where
 ok:cL p=ae
 fr:p.fr≤50
 aL:p.aL≤12
theorem nT.head{p:aI}(h:nT p):p.head.length≤50:=by
 obtain⟨j,l,m,q,s,d,g,u,v⟩:=aY h.ok;have:=kU p.head 0 p.fr d fun x b=>by have:=g x b;omega
 have:=h.fr;omega
theorem nT.bg{p:aI}(h:nT p):p.bg.length≤12:=by
 obtain⟨j,l,m,q,s,u,v,d,g⟩:=aY h.ok;have:=kU p.bg 0 p.aL d fun x b=>by have:=g x b;omega
 have:=h.aL;omega
structure OQ(J5:an)(bo:Nat)(hd:FC)(st P:Int)(cq:C)(ke:List Int)(J:an):Prop where
 kp:∀ i:Nat,i<J5.length→i≠bo→J[i]?=J5[i]?
 bx:J[bo]?=aa (.box [.f hd,.f (fi st),.f (fi P),cq] 0)
 lq:LR J cq 1 (ints ke)
 qb:∀ i,aV cq=aa i→J5.length≤i
 hl:J5.length≤J.length
theorem OQ.app{v:an}{j:Nat}{u:FC}{st P:Int}{z:C}{ke:List Int}{J:an}(h:OQ v j u st P z ke J)(B:j<v.length)(hl:ke.length≤1000)(n:Int) :
  ∃ b g,bF (J++[.box [.f (fi n)] 0]) 1 8 (.c z) (.c (.sl J.length 0 1 1 0 1))=aa (.c b,g)∧cZ g (.ptr j 3 0) [b]=aa (g.set j (.box [.f u,.f (fi st),.f (fi P),b] 0))∧OQ v j u st P b (ke++[n]) (g.set j (.box [.f u,.f (fi st),.f (fi P),b] 0)):=by
 obtain⟨b,g,m,l,A,q,x⟩:=pQ h.lq (by omega) n;have E:=h.hl;have d:=q _ _ h.bx (h.lq.bA h.bx);refine⟨b,g,m,by simp [cZ,d,over],fun i hi s=>?_,BY (aj d),l.set (l.bA d) _,fun i hi=>?_,by rw [anD];omega⟩
 ·rw [sh (Ne.symm s),←h.kp i hi s];have y:i<J.length:=by omega
  have hy:J[i]?=aa J[i]:=By y;rw [hy];exact q i _ hy fun e=>by have:=h.qb i e;omega
 ·rcases x with e | e
  ·rw [e]at hi;exact h.qb i hi
  ·rw [e]at hi;cases hi;omega
theorem yw(f:Bool→Bool→Bool){a b qa qb:aI}(ha:cL qa=ae)(hb:cL qb=ae){st P R:Int}(o9:st=max qa.fr qb.fr)(hP:zJ qa.aL qb.aL P)(hs:st≤50)(r8:P≤12)(j8:P ∣ R)(t5:st≤max a.fr b.fr)(o6:∀ d,0≤d→f (bK qa d) (bK qb d)=f (bK a d) (bK b d))
  {J:an} {c cx cy:C} {L:List Int} {g:Int} {m bp:Nat} (hL:LR J c 1 (ints L)) (e_:L.length≤256) (f7:∀ d,d ∈ L↔0≤d∧d<st+P∧f (bK qa d) (bK qb d)=ae) (j2:J[2]?=aa (.box [.f .aC,.f (fi 0),.f (fi 0),.f .aC] 0)) (jp:J[bp]?=aa (.box (cE qa qb st cx cy g m) 0)) (r_:bp≠2)
  {t:T} (g6:t.g 6=.c (.ptr 2 0 0)) (M:t.g 8=.c (.ptr bp 0 0)) (g9:t.g 9=vi P) (c9:t.g 16=.c c) {Q:Option aw→St→Prop}
  (hQ:∀ j s r,(∃ q,cL q=ae∧q.fr≤max a.fr b.fr∧q.aL ∣ R∧(∀ d,0≤d→bK q d=f (bK a d) (bK b d))∧r=.t [.a (q.row.map .f),vi 0])→sW [.cell (Km.P.nat 6) (aa 4),.tmp (Km.P.nat 7)] r s→Q j s) :
  WP tab 135 ab [.code qC] ⟨t,[],J⟩ Q:=by
 obtain⟨q1,q2,q3,q4,-⟩:=aY ha;have t4:=hP.pos;obtain⟨r,J1,a_,rfl,d9,l2,j7,u,o0⟩:=W3 hL e_;apply ai;simp [c9,a_.eq];have s7:l2.length≤256:=by rw [u.length_eq];exact e_
 obtain⟨c',J2,l,a7,X,d_,A,s_,S,i4⟩:=Bx (by omega) o0 j7;apply ai;simp [c9,a7.eq];have r7:∀(i:Nat) y,J[i]?=aa y→aV c≠aa i→J2[i]?=aa y:=fun i y H hn=>d_.2 i y (d9.2 i y H hn) hn;obtain⟨gx,a8⟩:=X.ex;have a8:=a8 63;obtain⟨N,n9⟩:=X.mk 63;obtain⟨i,hi,o5,g_,j_⟩:=gd gx l st (by omega) S;have kk:∀ k cs fl,J[k]?=aa (bV.box cs fl)→J2[k]?=aa (bV.box cs fl)∧(fo 64 c' J2)[k]?=aa (bV.box cs fl):=fun k cs fl B=>by
  have h1:=r7 k _ B (hL.bA B);exact⟨h1,n9 k _ h1 (by rw [A];exact hL.bA B)⟩
 obtain⟨J3,Y⟩:=aM (fo 64 c' J2);rw [←Y]at kk N;have L2:=rF (kk bp _ _ jp).1;apply ai;simp [M,L2.ke,-az,a8,deep,j_,←Y];obtain⟨U,J4,c2,i6,o8,n_,o4,i_⟩:=N.cut hi;have b_:∀ k cs fl,J[k]?=aa (bV.box cs fl)→J4[k]?=aa (bV.box cs fl):=fun k cs fl B=>n_ k _ (kk k cs fl B).2 (by rw [A];exact hL.bA B);have L3:=rF (kk bp _ _ jp).2;have L4:=rF (b_ bp _ _ jp);refine au (ew (.inl rfl) ?_ ?_)
 case refine_2=>
  intro cc m9;have l_:cc=(5,3):=by simpa using m9
  subst l_;refine⟨by decide,_,rfl,.inr ⟨by decide,?_⟩⟩;simp [M,i6,L3.ke,L4.ke,-az,fE,qP]
 simp [M,g9,i6,L4.ke,-az];obtain⟨K,Z⟩:=aM (J4.length);obtain⟨I,F⟩:=aM (J4++[bV.box [.f (sl U (ints (l.take i))),.f (fi st),.f (fi P),.f .aC] 0]);have k5:∀(k:Nat) y,J4[k]?=aa y→I[k]?=aa y:=fun k y B=>by rw [F,AT (aj B)];exact B
 have b5:I[K]?=aa (.box [.f (sl U (ints (l.take i))),.f (fi st),.f (fi P),.f .aC] 0):=by rw [F,Z];simp
 have l5:I.length=K+1:=by rw [F];simp [Z]
 rw [←F,←Z];have i7:=o8 I fun j y _ H=>k5 j y H;have o_:=i_ I fun j y _ H=>k5 j y H;have k_:∀ j,aV c'=aa j→j<K:=fun j hj=>by
  rw [A]at hj;have h1:=hL.lt hj;have h2:=d9.1;have h3:=d_.1;have h4:J3.length=J2.length:=by
   rw [Y];rcases X with⟨-,rfl | rfl⟩ | ⟨-,b,ep,R,fl,rfl,h2⟩
   ·rfl
   ·rfl
   ·simp only [pW,h2];rw [jA]
    ·simp
    ·intro x hx;have hx:=anY (aoi hx);obtain⟨m,_,rfl⟩:=anv.1 hx;exact⟨_,rfl⟩
  omega
 have q0:OQ I K (sl U (ints (l.take i))) st P (.f .aC) [] I:=⟨fun _ _ _=>rfl,b5,by simpa [ints]using LR.nil _ _,fun _ h=>(by cases h),anl _⟩
 apply au;apply ai;simp [i7,o_.1];refine b7 (l.drop i).length (fun j t J=>t.g 6=.c (.ptr 2 0 0)∧t.g 8=.c (.ptr bp 0 0)∧t.g 19=.c (.ptr K 0 0)∧t.g 149=.c c2∧∃ cq,OQ I K (sl U (ints (l.take i))) st P cq (((l.drop i).take j).map (· - st)) J) (by rw [anE];omega) (by decide) (by decide) (by simp) (by simp)
  ⟨by simp [g6],by simp [M],by simp,by simp,.f .aC,by simpa using q0⟩ ?_ ?_
 ·rintro j t J' hj ⟨g6,M,E,z,cq,v⟩ f8 j9 next
  have p8:=(i_ J' fun k y B H=>by
   have:=k_ k B;rw [v.kp k (by omega) (by omega)];exact k5 k y H).2 j hj
  obtain⟨p,n6,i3⟩:=p8;have i9:(l.drop i).take (j+1)=(l.drop i).take j++[(l.drop i)[j]]:=by rw [anu,By hj];rfl
  have h_:i+j<l.length:=by rw [anE]at hj;omega
  have p9:st≤(l.drop i)[j]∧(l.drop i)[j]<st+P:=by
   rw [aoT];exact⟨g_ _ h_ (by omega),((f7 _).1 (u.mem_iff.1 ((i4 _).1 (IS h_)))).2.1⟩
  obtain⟨x,hx⟩:=aM ((l.drop i)[j]);rw [←hx]at i3 i9 p9;have n8:J'[bp]?=aa (.box (cE qa qb st cx cy g m) 0):=by
   have h4:=b_ bp _ _ jp;have:=aj h4;rw [v.kp bp (by omega) (by omega)];exact k5 bp _ h4
  have LJ:=rF n8;have q_:aU J' ab (.c (.ptr K 3 0))=aa (.c cq):=by simp [aU,aH,v.bx]
  obtain⟨c3,H3,f_,i8,o7⟩:=v.app (by omega) (by rw [anq,anW];omega) (x-st);refine ay ?_;apply ai;simp [f8,z,n6,i3,-az];refine aq (.inl rfl) ?_;simp [M,E,q_,LJ.ke,-az,aP (n:=x-st),f_,i8,-a6];refine ax (next _ _ ?_ (by simp [f8]) (by simp [j9]));refine⟨by simp [g6],by simp [M],by simp [E],by simp [z],c3,?_⟩;rw [i9];simpa using o7
 ·rintro t J' ⟨g6,M,E,z,cq,v⟩ - -;rw [ant]at v;obtain⟨W,hW⟩:=aM ((l.drop i).map (· - st));have r9:W.length≤256:=by rw [hW];simp;omega
  rw [←hW]at v;obtain⟨gc,m_⟩:=v.lq.Xl (Km.Ord.bY _);have x3:=m_ J' 63 (fun i y H _=>H);obtain⟨o1,o2⟩:=agN f ha hb o9 hP (by omega) (by omega) S (fun d=>by rw [i4,u.mem_iff];exact f7 d) (by omega) o5 g_ U gc;rw [←hW]at o1 o2;obtain⟨q,⟨d1,d2,d3,d4⟩,-,-,O⟩:=mh ⟨U,l.take i,st,P,gc,W⟩ o1 (by show W.length≤_;omega) (by show(l.take i).length≤_;simp;omega);simp only [aI.row,ano,anC]at O d2 d3;have p_:aU J' (aa 4) (.c (.ptr K 0 0))=aa (.a [.f (sl U (ints (l.take i))),.f (fi st),.f (fi P),cq]):=by simp [aU,aH,v.bx,aW]
  have u3:=V0 v.lq;simp only [deep]at u3;have j4:J'[2]?=aa (.box [.f .aC,.f (fi 0),.f (fi 0),.f .aC] 0):=by
   have h4:=b_ 2 _ _ j2;have:=aj h4;rw [v.kp 2 (by omega) (by omega)];exact k5 2 _ h4
  have w2:=u3 2 _ j4 (v.lq.bA j4);obtain⟨JM,c_⟩:=aM (fo 64 cq J');rw [←c_]at w2;have t2:cZ JM (.ptr 2 0 0) [.f (sl q.hg (ints q.head)),.f (fi q.fr),.f (fi q.aL),.f (sl q.cg (ints q.bg))]=aa (JM.set 2 (.box [.f (sl q.hg (ints q.head)),.f (fi q.fr),.f (fi q.aL),.f (sl q.cg (ints q.bg))] 0)):=by simp [cZ,w2,over]
  have n2:(JM.set 2 (.box [.f (sl q.hg (ints q.head)),.f (fi q.fr),.f (fi q.aL),.f (sl q.cg (ints q.bg))] 0))[2]?=aa (.box [.f (sl q.hg (ints q.head)),.f (fi q.fr),.f (fi q.aL),.f (sl q.cg (ints q.bg))] 0):=BY (aj w2);apply ai;simp [g6,E,p_,-az,x3,deep,O,←c_,t2,-a6];refine aE (hQ _ _ _ ⟨q,d1,by omega,aon d3 j8,fun d hd=>?_,rfl⟩ ⟨rfl,.t [.a [.f (sl q.hg (ints q.head)),.f (fi q.fr),.f (fi q.aL),.f (sl q.cg (ints q.bg))],vi 0],?_,?_⟩)
  ·rw [d4 d hd,o2 d hd,o6 d hd]
  ·simp [Km.results,cr,aZ,g6,n2,aW]
  ·simp [aI.row,kM,dE,aZ]
theorem uD{b d:aI}{st P:Int}(u:1≤b.aL)(v:1≤d.aL)(q:st=max b.fr d.fr){X Y:List Int}(l:zM b st X)(m:zM d st Y){k:Int}(s:0≤k):(bK b (st+k)=ae↔k % b.aL ∈ X)∧(bK d (st+k)=ae↔k % d.aL ∈ Y):=by
 have g:=l.2.2.2 (st+k) (by omega);have j:=m.2.2.2 (st+k) (by omega);rw [show st+k-st=k by omega]at g j;exact⟨g,j⟩
theorem tY(a b:aI)(sa:nT a)(sb:nT b){R:Int}(R0:0<R)(R1:R≤12)(Ra:a.aL ∣ R)(Rb:b.aL ∣ R)(j:Int)(f:Bool→Bool→Bool)(hk:(j=0∧f=fun x y=>x&&y)∨(j=1∧f=fun x y=>x||y)) :
  ∃ q,cL q=ae∧q.fr≤max a.fr b.fr∧q.aL ∣ R∧(∀ d,0≤d→bK q d=f (bK a d) (bK b d))∧bW tab 135 [.a (a.row.map .f),.a (b.row.map .f),vi j]=Eq (.t [.a (q.row.map .f),vi 0]):=by
 have va:=qW a (jF sa.ok);have c9:=qW b (jF sb.ok);rw [sa.ok]at va;rw [sb.ok]at c9;simp only [aI.row,ano,anC]at va c9;have t5:=sa.aL;have t6:=sb.aL;have v8:=sa.fr;have v9:=sb.fr;have v_:=sa.head;have w_:=sb.head;have u_:=sa.bg;have v6:=sb.bg;obtain⟨r,⟨q,c1,c2,c3,c4,rfl⟩,h⟩:∃ r,(∃ q,cL q=ae∧q.fr≤max a.fr b.fr∧q.aL ∣ R∧(∀ d,0≤d→bK q d=f (bK a d) (bK b d))∧r=.t [.a (q.row.map .f),vi 0])∧bW tab 135 [.a (a.row.map .f),.a (b.row.map .f),vi j] r:=by
  refine eV rfl rfl fun Q hQ=>?_;apply ai;simp [aI.row];obtain⟨HA,Z⟩:=aM ([.box [.f (sl a.hg (ints a.head)),.f (fi a.fr),.f (fi a.aL),.f (sl a.cg (ints a.bg))] 0,.box [.f (sl b.hg (ints b.head)),.f (fi b.fr),.f (fi b.aL),.f (sl b.cg (ints b.bg))] 0,.box [.f .aC,.f (fi 0),.f (fi 0),.f .aC] 0]:an);rw [←Z];have al:HA.length=3:=by rw [Z];rfl
  have l0:aU HA (aa 4) (.c (.ptr 0 0 0))=aa (.a [.f (sl a.hg (ints a.head)),.f (fi a.fr),.f (fi a.aL),.f (sl a.cg (ints a.bg))]):=by rw [Z];simp [aU,aH,aW]
  have l1:aU HA (aa 4) (.c (.ptr 1 0 0))=aa (.a [.f (sl b.hg (ints b.head)),.f (fi b.fr),.f (fi b.aL),.f (sl b.cg (ints b.bg))]):=by rw [Z];simp [aU,aH,aW]
  have a2:HA[2]?=aa (.box [.f .aC,.f (fi 0),.f (fi 0),.f .aC] 0):=by rw [Z];rfl
  apply au;apply ai;simp [l0,l1,-az,va,c9];refine aX (by simp) ?_;obtain⟨r,HN,a_,s,u,st,X,Y,cx,cy,l,m,N,sA,sB,xa,xb,ya,yb,rfl,b_,hX,hY,i9,r8⟩:=Cc a b sa.ok sb.ok (by omega) (by omega) (by omega) (by omega) (by omega) (by omega) HA;simp only [aI.row,ano,anC]at a_;obtain⟨q1,q2,q3,q4,q5,q6,q7,q8,q9⟩:=aY sA.ok;obtain⟨w1,w2,w3,w4,w5,w6,w7,w8,w9⟩:=aY sB.ok;obtain⟨g,hg⟩:=aM ((aob s.aL u.aL:Int):Int);rw [←hg]at a_ i9;have m9:s.aL ∣ R:=aon sA.aL Ra;have m_:u.aL ∣ R:=aon sB.aL Rb;obtain⟨P,hP⟩:=aM (s.aL / (aob s.aL u.aL:Int)*u.aL);have e_:zJ s.aL u.aL P:=hP▸VT q3 w3;have i_:P ∣ R:=e_.dvd R m9 m_;have E:P≤12:=aoA (aom R0 i_) R1;have y7:=e_.pos;have t_:s.aL≤12:=aoA (aom R0 m9) R1;have u5:u.aL≤12:=aoA (aom R0 m_) R1;have u6:=sA.fr;have u7:=sB.fr;have g0:0<g:=by rw [hg];have:=aow u.aL (show s.aL≠0 by omega);omega
  have s7:∀ d,0≤d→f (bK s d) (bK u d)=f (bK a d) (bK b d):=fun d hd=>by rw [sA.mem d hd,sB.mem d hd]
  have d9:=adu q3 (by omega:s.aL≤1000) w3 (by omega:u.aL≤1000);rw [←hP]at d9;have p9:X.length≤12:=by have:=hX.1;omega
  have p_:Y.length≤12:=by have:=hY.1;omega
  obtain⟨bp,f_⟩:=aM (HN.length);obtain⟨A,W⟩:=aM (HN++[bV.box (cE s u st cx cy g m) 0]);have l4:A.length=bp+1:=by rw [W];simp [f_]
  have p4:A[bp]?=aa (.box (cE s u st cx cy g m) 0):=by rw [W,f_];simp
  have c_:PH A N X Y g l cx cy m:=i9.ba fun i hi=>by rw [W,AT hi]
  have z2:HN[2]?=aa (.box [.f .aC,.f (fi 0),.f (fi 0),.f .aC] 0):=by rw [r8 2 (by omega)];exact a2
  have z4:A[2]?=aa (.box [.f .aC,.f (fi 0),.f (fi 0),.f .aC] 0):=by rw [W,AT (aj z2)];exact z2
  have t7:2<bp:=by have:=aj z2;omega
  apply ai;simp [l0,l1,-az,a_.eq,wP];rw [←W,←f_]
  suffices z:∀ t:T,t.g 2=vi j→t.g 6=.c (.ptr 2 0 0)→t.g 8=.c (.ptr bp 0 0)→WP tab 135 ab [.code vq] ⟨t,[],A⟩ Q by exact z _ (by simp) (by simp) (by simp)
  clear a_ l0 l1 va c9;intro t g2 g6 B;have L4:=rF p4;apply ai;simp [B,L4.lap,L4.lbp,-az,d9];apply au;apply ai;simp;refine aX (by simp) ?_;obtain⟨r,H5,j8,ch,K,rfl,i6,j_,j9,x9,t9,y6,r_⟩:=VM s u sA.ok sB.ok (by omega) (by omega) st b_ cx cy g m A;have k5:∀(i:Nat) y,A[i]?=aa y→H5[i]?=aa y:=fun i y v=>by rw [j9 i (aj v)];exact v
  have p5:=k5 _ _ p4;have o:=c_.ba j9;have L5:=rF p5;obtain⟨r,H6,I,n,rfl,n0,n1,g_,x_⟩:=JH s u st o g0 (fun x hx=>by have:=hX.2.2.1 x hx;omega) (by omega) (by omega);have k6:∀(i:Nat) y,H5[i]?=aa y→H6[i]?=aa y:=fun i y v=>by rw [g_ i (aj v)];exact v
  have p6:=k6 _ _ p5;have L6:=rF p6;have t8:K.length≤100:=by omega
  have lh:bu H5 ch=aa K.length:=by have:=i6.len;simpa [ints]using this
  apply ai;simp [B,L4.VQ,-az,j8.eq];apply ai;simp [B,lh,L5.VQ,-az,I.eq,aP (n:=(K.length:Int)+n)];obtain⟨ka,y8,y9,f7⟩:=wR s sA.ok (by omega) (by omega) st (by omega) (by omega);obtain⟨kb,y_,z6,f8⟩:=wR u sB.ok (by omega) (by omega) st (by omega) (by omega);simp only [aI.row,ano,anC]at f7 f8;have lX:bu H6 cx=aa X.length:=by have:=(o.ba g_).lx.len;simpa [ints]using this
  have lY:bu H6 cy=aa Y.length:=by have:=(o.ba g_).ly.len;simpa [ints]using this
  have d1:bR .quo (vi P) (vi s.aL)=aa (vi (P / s.aL)):=fH (by omega) (by omega) (by omega);have d2:bR .quo (vi P) (vi u.aL)=aa (vi (P / u.aL)):=fH (by omega) (by omega) (by omega);have e1:0≤P / s.aL∧P / s.aL≤12:=⟨aou (by omega) (by omega),aoA (aoC _ (by omega)) E⟩
  have e2:0≤P / u.aL∧P / u.aL≤12:=⟨aou (by omega) (by omega),aoA (aoC _ (by omega)) E⟩
  have m1:0≤(X.length:Int)*(P / s.aL)∧(X.length:Int)*(P / s.aL)≤12*12:=⟨aov (by omega) e1.1,aoG (by omega) e1.2 e1.1 (by omega)⟩
  have m2:0≤(Y.length:Int)*(P / u.aL)∧(Y.length:Int)*(P / u.aL)≤12*12:=⟨aov (by omega) e2.1,aoG (by omega) e2.2 e2.1 (by omega)⟩
  obtain⟨u1,h_⟩:=aM ((X.length:Int)*(P / s.aL));obtain⟨u2,i3⟩:=aM ((Y.length:Int)*(P / u.aL));rw [←h_]at m1;rw [←i3]at m2;apply ai;simp [B,L6.la,L6.ke,L6.lx,L6.lap,-az,f7,lX,d1,←h_,aP (n:=u1),aP (n:=ka+u1)];apply ai;simp [B,L6.lb,L6.ke,L6.ly,L6.lbp,-az,f8,lY,d2,←i3,aP (n:=u2),aP (n:=kb+u2)];obtain⟨O,n6⟩:=aM ((K.length:Int)+n);obtain⟨p,n8⟩:=aM (ka+u1);obtain⟨v2,n9⟩:=aM (kb+u2);rw [←n6,←n8,←n9];have b0:0≤O∧O≤12100:=by omega
  have b1:0≤p∧p≤60000:=by omega
  have b2:0≤v2∧v2≤60000:=by omega
  suffices z:∀ t:T,t.g 2=vi j→t.g 6=.c (.ptr 2 0 0)→t.g 8=.c (.ptr bp 0 0)→t.g 9=vi P→t.g 11=.c ch→t.g 12=vi O→t.g 13=vi p→t.g 14=vi v2→WP tab 135 ab [.code vr] ⟨t,[],H6⟩ Q by exact z _ (by simp [g2]) (by simp [g6]) (by simp [B]) (by simp) (by simp) (by simp) (by simp) (by simp)
  clear f7 f8 d1 d2 e1 e2 m1 m2 h_ i3 n6 n8 n9 lX lY j8 I;clear g2 g6 B t;intro t g2 g6 B g9 o5 o6 o7 o8;apply au;apply ai;simp [o6,o7,o8,aP (n:=p+v2),aP (n:=p+v2-O),aP (n:=p-O)];obtain⟨U,a7⟩:=aM (H6++[bV.box [.f (fi O),.f (fi (p+v2-O)),.f (fi (p-O))] 0]);obtain⟨bc,j4⟩:=aM (H6.length);rw [←a7,←j4];have c7:U[bc]?=aa (.box [.f (fi O),.f (fi (p+v2-O)),.f (fi (p-O))] 0):=by rw [a7,j4];simp
  have k7:∀(i:Nat) y,H6[i]?=aa y→U[i]?=aa y:=fun i y v=>by rw [a7,AT (aj v)];exact v
  have i4:∀ i:Nat,i<A.length→U[i]?=A[i]?:=fun i hi=>by
   have v:A[i]?=aa A[i]:=By hi;rw [v];exact k7 i _ (k6 i _ (k5 i _ v))
  have l7:A.length≤U.length:=by rw [a7,ank];omega
  have o4:∃ w:Int,bC U 1 (aa 3) (.c (.ptr bc 0 0)) (vi j)=aa (.c (.ptr bc j.toNat 0))∧aU U ab (.c (.ptr bc j.toNat 0))=aa (vi w)∧w≤1048576:=by
   rcases hk with⟨rfl,-⟩ | ⟨rfl,-⟩
   ·exact⟨O,by simp [bC,c7,gA],by simp [aU,aH,c7,aW],by omega⟩
   ·exact⟨p+v2-O,by simp [bC,c7,gA],by simp [aU,aH,c7,aW],by omega⟩
  obtain⟨w,ci,cl,cw⟩:=o4;apply ai;simp [g2,ci,cl,-az,show¬ 1048576<w by omega];refine aX (by simp) ?_;apply ai;simp;apply au;apply ai;simp;refine ay ?_;have p7:=k7 _ _ p6;have L7:=rF p7;have rest:∀(t:T) (J:an) (c:C) (L:List Int),t.g 6=.c (.ptr 2 0 0)→t.g 8=.c (.ptr bp 0 0)→t.g 9=vi P→t.g 16=.c c→LR J c 1 (ints L)→L.length≤256→(∀ d,d ∈ L↔0≤d∧d<st+P∧f (bK s d) (bK u d)=ae)→(∀ i:Nat,i<A.length→J[i]?=A[i]?)→WP tab 135 ab [.code qC] ⟨t,[],J⟩ Q:=by
   intro t J c L g6 B g9 o9 hL o_ p8 hJ;exact yw f sA.ok sB.ok b_ e_ (by omega) E i_ (by omega) s7 hL o_ p8 (by rw [hJ 2 (by omega)];exact z4) (by rw [hJ bp (by omega)];exact p4) (by omega) g6 B g9 o9 hQ
  rcases hk with⟨rfl,rfl⟩ | ⟨rfl,rfl⟩
  ·
   obtain⟨r,H8,r9,c,M,rfl,e,-,q_,y4,u9,i7,i8⟩:=V9 (L0:=K) (ch:=ch) (H:=U) s u st c_ i4 l7 (i6.ba fun i y v _=>k7 i y (k6 i y v)) j_ hg q3 w3 hP E (fun x hx=>hX.2.2.1 x hx) (fun y v=>hY.2.2.1 y v) p9 p_ (by omega) (by omega) (by omega);apply ai;simp [g2];refine av (by simp) (aq (.inl rfl) ?_);simp [B,o5,L7.VQ,-az,r9.eq];refine ax (rest _ H8 c (K++M) (by simp [g6]) (by simp [B]) (by simp [g9]) (by simp) e (by rw [ank];omega) (fun d=>?_) q_);rw [anm,r_];simp only [If];constructor
   ·rintro(⟨h0,h1,S,h3⟩ | h)
    ·exact⟨h0,by omega,S,h3⟩
    ·obtain⟨k,rfl,k0,k1,ka,kb⟩:=i7 d h;obtain⟨s1,s2⟩:=uD (P:=P) q3 w3 b_ hX hY k0;exact⟨by omega,by omega,s1.2 ka,s2.2 kb⟩
   ·rintro⟨h0,h1,S,h3⟩;by_cases hd:d<st
    ·exact .inl ⟨h0,hd,S,h3⟩
    ·obtain⟨s1,s2⟩:=uD (P:=P) q3 w3 b_ hX hY (k:=d-st) (by omega);rw [show st+(d-st)=d by omega]at s1 s2;have:=i8 (d-st) (by omega) (by omega) (s1.1 S) (s2.1 h3);rw [show st+(d-st)=d by omega]at this;exact .inr this
  ·
   obtain⟨L1,g1,n_,s_,k_⟩:=xl s sA.ok (by omega) (by omega) 0 (st+P) (by omega) (by omega) (by omega);obtain⟨L2,d_,o0,t4,l_⟩:=xl u sB.ok (by omega) (by omega) 0 (st+P) (by omega) (by omega) (by omega);simp only [aI.row,ano,anC]at n_ o0;have x6:L1.length≤62:=by
    have:=kU L1 0 (st+P) s_ fun x hx=>by have:=(k_ x).1 hx;unfold SW at this;omega
    omega
   have x8:L2.length≤62:=by
    have:=kU L2 0 (st+P) t4 fun x hx=>by have:=(l_ x).1 hx;unfold SW at this;omega
    omega
   apply ai;simp [g2];refine aF (by simp) ?_;apply ai;simp;refine av (by simp) (aq (.inl rfl) ?_);obtain⟨H8,a8⟩:=aM (U++[bV.box [.f (sl g1 (ints L1)),.f (sl d_ (ints L2))] 0]);have c8:H8[U.length]?=aa (.box [.f (sl g1 (ints L1)),.f (sl d_ (ints L2))] 0):=by rw [a8];simp
   have j7:(ints L1++ints L2)=ints (L1++L2):=by simp [ints]
   obtain⟨r,H9,I,c,rfl,e,r7,-,-⟩:=vT (tab:=tab) (H:=H8) (F:=180) (G:=219) (sz:=1) (bytes:=8) (zs:=[fi 0]) afy afD (by decide) rfl (b:=U.length) [(.f (sl g1 (ints L1)),ints L1),(.f (sl d_ (ints L2)),ints L2)] c8 (by simp)
    (fun x hx=>by
     simp only [anK,List.not_mem_nil,or_false]at hx;rcases hx with rfl | rfl
     ·exact⟨Km.Ord.bY _,fun H' _=>⟨by simp,pe (Km.Ord.bY _)⟩⟩
     ·exact⟨Km.Ord.bY _,fun H' _=>⟨by simp,pe (Km.Ord.bY _)⟩⟩)
    (by simp [ints];omega) (dH (by simp [ints];omega) (by decide))
   have e:LR H9 c 1 (ints (L1++L2)):=by
    rw [←j7];simpa using e
   have I:Ev tab (.fn 180) [.c (.sl U.length 0 2 2 0 1)] H8 (.c c) H9:=I;simp [B,g9,L7.la,L7.lb,L7.ke,-az,aP (n:=st+P),n_,o0,←a8,I.eq];refine ax (rest _ H9 c (L1++L2) (by simp [g6]) (by simp [B]) (by simp [g9]) (by simp) e (by rw [ank];omega) (fun d=>?_) fun i hi=>?_)
   ·rw [anm,k_,l_];unfold SW;simp only [aoO];constructor
    ·rintro(⟨h0,h1,S⟩ | ⟨h0,h1,S⟩)
     ·exact⟨h0,h1,.inl S⟩
     ·exact⟨h0,h1,.inr S⟩
    ·rintro⟨h0,h1,S | S⟩
     ·exact .inl ⟨h0,h1,S⟩
     ·exact .inr ⟨h0,h1,S⟩
   ·rw [r7 i (by rw [a8,ank];omega),a8,AT (by omega)];exact i4 i hi
 exact⟨q,c1,c2,c3,c4,h.eq⟩
theorem ae8(a b:aI)(E:nT a)(F:nT b){R:Int}(j:0<R)(l:R≤12)(m:a.aL ∣ R)(s:b.aL ∣ R) :
  ∃ q,cL q=ae∧q.fr≤max a.fr b.fr∧q.aL ∣ R∧(∀ d,0≤d→bK q d=(bK a d&&bK b d))∧bW tab 155 [.a (a.row.map .f),.a (b.row.map .f)]=Eq (.t [.a (q.row.map .f),vi 0]):=by
 obtain⟨q,u,v,z,A,g⟩:=tY a b E F j l m s 0 (fun x y=>x&&y) (.inl ⟨rfl,rfl⟩);refine⟨q,u,v,z,A,bW.eq (cd rfl rfl fun Q B=>?_)⟩;simp only [aI.row,ano,anC]at g ⊢;apply ai;simp;apply ai;simp [g];refine aE (B _ _ ?_);simp [aI.row]
theorem ajE(a b:aI)(E:nT a)(F:nT b){R:Int}(j:0<R)(l:R≤12)(m:a.aL ∣ R)(s:b.aL ∣ R) :
  ∃ q,cL q=ae∧q.fr≤max a.fr b.fr∧q.aL ∣ R∧(∀ d,0≤d→bK q d=(bK a d||bK b d))∧bW tab 113 [.a (a.row.map .f),.a (b.row.map .f)]=Eq (.t [.a (q.row.map .f),vi 0]):=by
 obtain⟨q,u,v,z,A,g⟩:=tY a b E F j l m s 1 (fun x y=>x||y) (.inr ⟨rfl,rfl⟩);refine⟨q,u,v,z,A,bW.eq (cd rfl rfl fun Q B=>?_)⟩;simp only [aI.row,ano,anC]at g ⊢;apply ai;simp;apply ai;simp [g];refine aE (B _ _ ?_);simp [aI.row]
def cY(p:aI):List C:=[.f (sl p.hg (ints p.head)),.f (fi p.fr),.f (fi p.aL),.f (sl p.cg (ints p.bg))]
theorem eG(p:aI):cY p=p.row.map .f:=rfl
theorem pB(n:Nat)(J:an)(p:aI):aZ (eL n J) (cY p)=aa p.row:=by rw [eG,ld]
theorem pV(n:Nat)(J:an)(p:aI):List.foldl (fun H x=>fo n x H) J (cY p)=J:=by
 rw [eG,jA];intro x b;obtain⟨y,-,rfl⟩:=anv.1 b;exact⟨y,rfl⟩
def dt(ps:List aI):List (List C):=ps.map cY
theorem eH(ps:List aI):(dt ps).length=ps.length:=by simp [dt]
theorem ez(ps:List aI):rp 4 (dt ps):=fun r b=>by
 obtain⟨p,-,rfl⟩:=anv.1 b;rfl
theorem oQ(ps:List aI):(dt ps).flatten=(aJ ps).flatten.map .f:=by
 induction ps with
 | nil=>rfl
 | cons p ps g=>
  have b:dt (p::ps)=cY p::dt ps:=rfl;have d:aJ (p::ps)=p.row::aJ ps:=rfl;rw [b,d,anH,anH,aop,g,eG]
theorem qZ(a b:List aI):dt (a++b)=dt a++dt b:=by simp [dt]
theorem K5(ps:List aI)(j:Nat):(dt ps).eraseIdx j=dt (ps.eraseIdx j):=by
 rw [aog,aog,qZ];simp [dt,ao9,api]
def zp:aI:=⟨.nil,[],0,0,.nil,[]⟩
def BX(J:an)(b cap:Nat)(ps:List aI):Prop:=∃ rest,J[b]?=aa (.box ((dt ps).flatten++rest) 0)∧((dt ps).flatten++rest).length=cap*4
section
variable{J:an}{b cap:Nat}{ps:List aI}
theorem BX.lt(h:BX J b cap ps):b<J.length:=by obtain⟨_,h,_⟩:=h;exact aj h
theorem BX.push(h:BX J b cap ps)(L:an):BX (J++L) b cap ps:=by
 have:=h.lt;obtain⟨r,h1,h2⟩:=h;exact⟨r,by rw [AT this];exact h1,h2⟩
theorem BX.len(h:BX J b cap ps):bu J (.sl b 0 ps.length cap 0 4)=aa ps.length:=by
 obtain⟨r,h1,h2⟩:=h;simp [bu,h1]
theorem ahX{rest:List C}{i:Nat}(hi:i<ps.length):(((dt ps).flatten++rest).drop (i*4)).take 4=cY ps[i]:=by
 have b:=dp (ez ps);rw [eH]at b;rw [aoq (by omega),kS i (ez ps)];have e:(dt ps).drop i=cY ps[i] ::(dt ps).drop (i+1):=by
  rw [anw (by rw [eH];exact hi)];simp [dt]
 rw [e,anH,anV,anS (by simp [cY])];exact anA (by simp [cY])
theorem BX.at(h:BX J b cap ps){i:Nat}(hi:i<ps.length):bC J 4 ab (.c (.sl b 0 ps.length cap 0 4)) (vi i)=aa (.c (.ptr b (i*4) 0))∧aU J (aa 4) (.c (.ptr b (i*4) 0))=aa (.a (cY ps[i])):=by
 obtain⟨r,h1,h2⟩:=h;refine⟨?_,?_⟩
 ·simp [bC,show gA (vi i)=aa (i:Int) from rfl,h1,hi]
 ·have hl:=dp (ez ps);rw [eH]at hl;have:=ahX (rest:=r) hi;simp only [aU,aH,h1,anR,aW];rw [bf (by rw [anE,ank];omega),this]
theorem BX.st(h:BX J b cap ps){i:Nat}(hi:i<ps.length)(q:aI):∃ J',cZ J (.ptr b (i*4) 0) (cY q)=aa J'∧BX J' b cap (ps.set i q)∧J'.length=J.length∧∀ k:Nat,k≠b→J'[k]?=J[k]?:=by
 obtain⟨r,h1,h2⟩:=h;have hl:=dp (ez ps);rw [eH]at hl;have ho:over ((dt ps).flatten++r) (i*4) (cY q)=(dt (ps.set i q)).flatten++r:=by
  have d:(dt ps).flatten=(dt (ps.take i)).flatten++cY ps[i]++(dt (ps.drop (i+1))).flatten:=by
   have:ps=ps.take i++ps[i]::ps.drop (i+1):=by rw [←anw hi,an6]
   conv=>lhs;rw [this]
   rw [qZ,aoy,anV];rfl
  have g:(dt (ps.set i q)).flatten=(dt (ps.take i)).flatten++cY q++(dt (ps.drop (i+1))).flatten:=by
   rw [apb,bf hi,qZ,aoy,anV];rfl
  have j:((dt (ps.take i)).flatten).length=i*4:=by rw [dp (ez _),eH,anW];omega
  rw [d,g,←j,anV,anV,AS];rw [aoq (by simp [cY])];have:(cY ps[i]).drop (cY q).length=[]:=by simp [cY]
  rw [this,aof];simp only [anV]
 refine⟨_,?_,⟨r,BY (aj h1),?_⟩,by simp,fun k l=>sh (Ne.symm l)⟩
 ·simp only [cZ,h1];rw [bf ⟨aox _,by rw [ank,hl];simp [cY];omega⟩,ho]
 ·rw [ank,dp (ez _),eH,anD];rw [ank,hl]at h2;exact h2
theorem BX.del(h:BX J b cap ps){j:Nat}(q:j<ps.length)(g:cap≤1000000) :
  ∃ r H',Ev tab (.fn 156) [.c (.sl b 0 ps.length cap 0 4),vi j,vi (j+1:Nat)] J r H'∧(r=.c (.sl b 0 (ps.eraseIdx j).length cap 0 4)∧BX H' b cap (ps.eraseIdx j)∧H'.length=J.length∧∀ k:Nat,k≠b→H'[k]?=J[k]?):=by
 obtain⟨rest,h1,h2⟩:=h;obtain⟨r,H',m,s,d,rfl,hl⟩:=abO (tab:=tab) (F:=156) (sz:=4) (bytes:=64) (zs:=[.aC,fi 0,fi 0,.aC]) afB (by decide) rfl (ez ps) h1 h2 (j:=j) (by rw [eH];exact q) g;rw [eH]at m s;have e:(dt ps).eraseIdx j=dt (ps.eraseIdx j):=K5 ps j;rw [e]at hl;rw [e]at m;have l:(ps.eraseIdx j).length=ps.length-1:=by rw [apc,bf q]
 exact⟨r,_,m,by rw [s,l],⟨d,BY (aj h1),hl⟩,by simp,fun k u=>sh (Ne.symm u)⟩
theorem BX.ex(h:BX J b cap ps)(h0:ps≠[])(n:Nat):eL (n+1) J (.sl b 0 ps.length cap 0 4)=aa (sl .fs (aJ ps)):=by
 obtain⟨r,h1,h2⟩:=h;have hl:=dp (ez ps);rw [eH]at hl;simp only [jz,h1];rw [bf (by rw [ank];omega),aod,anS (by omega),anA (by omega),oQ,ld];cases ps with
 | nil=>exact absurd rfl h0| cons p ps=>simp [sl,aJ]
end
theorem tu(p q:aI)(j:1≤p.aL)(l:p.aL≤1000000)(m:1≤q.aL)(s:q.aL≤1000000):bW tab 112 [.a (cY p),.a (cY q)]=Eq (vb (decide (p.aL % q.aL=0)||decide (q.aL % p.aL=0))):=by
 have d:bR .rem (vi p.aL) (vi q.aL)=aa (vi (p.aL % q.aL)):=fu (by omega) (by omega);have g:bR .rem (vi q.aL) (vi p.aL)=aa (vi (q.aL % p.aL)):=fu (by omega) (by omega);refine bW.eq (cd rfl rfl fun Q b=>?_);apply ai;simp [cY];apply ai;by_cases h:p.aL % q.aL=0
 ·simp [d,h];refine aE (b _ _ ?_);simp [h]
 ·simp [d,g,h];refine aE (b _ _ ?_);simp [h]
def fC(ps:List aI)(d:Int):Prop:=∀ p ∈ ps,bK p d=ae
theorem fe(a b:List aI)(d:Int):fC (a++b) d↔fC a d∧fC b d:=by
 unfold fC;constructor
 ·intro h;exact⟨fun p g=>h p (anO _ g),fun p g=>h p (aoo _ g)⟩
 ·rintro⟨j,l⟩ p g;rcases anm.1 g with h | h
  ·exact j p h
  ·exact l p h
theorem nT.can{p q:aI}(h:nT p)(b:lQ p q):nT q:=⟨b.ok,by have:=b.fr;have:=h.fr;omega,by have:=aom (by have:=(aY h.ok).2.2.1;omega) b.aL;have:=h.aL;omega⟩
theorem KK{ps:List aI}{i j:Nat}(y:i<j)(z:j<ps.length){q:aI}(E:∀ d,0≤d→bK q d=(bK (ps[i]'(by omega)) d&&bK ps[j] d))(d:Int)(v:0≤d):fC ((ps.set i q).eraseIdx j) d↔fC ps d:=by
 have hi:i<ps.length:=by omega
 have m:ps=ps.take i++ps[i] ::((ps.drop (i+1)).take (j-(i+1))++ps[j]::ps.drop (j+1)):=by
  conv=>lhs;rw [←an6 i ps,anw hi]
  congr 2
  conv=>lhs;rw [←an6 (j-(i+1)) (ps.drop (i+1)),aoF]
  rw [show i+1+(j-(i+1))=j by omega,anw z]
 have s:(ps.set i q).eraseIdx j=ps.take i++q ::((ps.drop (i+1)).take (j-(i+1))++ps.drop (j+1)):=by
  have u:ps.set i q=ps.take i++q::ps.drop (i+1):=by rw [apb,bf hi]
  have B:(ps.take i).length=i:=by rw [anW];omega
  rw [u,apz (by omega),B]
  congr 1
  obtain⟨k,A⟩:∃ k,j-i=k+1:=⟨j-i-1,by omega⟩
  rw [A,List.eraseIdx_cons_succ,aog,aoF];rw [show j-(i+1)=k by omega,show i+1+(k+1)=j+1 by omega]
 have F:=E d v;rw [s]
 conv=>rhs;rw [m]
 rw [fe,fe];have c:∀(x:aI) l,fC (x::l) d↔bK x d=ae∧fC l d:=fun x l=>by simp [fC]
 rw [c,c,fe,fe,c,F,If];constructor
 ·rintro⟨a,⟨b,e⟩,f,g⟩;exact⟨a,b,f,e,g⟩
 ·rintro⟨a,b,f,e,g⟩;exact⟨a,⟨b,e⟩,f,g⟩
theorem KL{ps:List aI}{i j:Nat}{q:aI}(g:∀ p ∈ ps,nT p)(d:nT q):∀ p ∈ (ps.set i q).eraseIdx j,nT p:=fun p b=>by
 have:=List.mem_of_mem_eraseIdx b;rcases List.mem_or_eq_of_mem_set this with h | rfl
 ·exact g p h
 ·exact d
structure MG(us ps:List aI):Prop where
 ne:ps≠[]
 le:ps.length≤us.length
 sm:∀ p ∈ ps,nT p
 mem:∀ d,0≤d→(fC ps d↔fC us d)
theorem KM(g:Tg)(us:List aI)(j8:∀ u ∈ us,nT u)(h0:us≠[])(hl:us.length≤64):∃ ps,MG us ps∧bW tab 111 [.c (.f (sl g (aJ us)))]=Eq (.c (.f (sl .fs (aJ ps)))):=by
 obtain⟨r,⟨ps,i4,rfl⟩,h⟩:∃ r,(∃ ps,MG us ps∧r=.c (.f (sl .fs (aJ ps))))∧bW tab 111 [.c (.f (sl g (aJ us)))] r:=by
  refine eV rfl rfl fun Q hQ=>?_;have n6:=anU.2 h0;obtain⟨n,hn⟩:=aM (us.length);have Y:∀ H:an,bu H (.f (sl g (aJ us)))=aa n:=fun H=>by rw [hn];simp
  apply ai;simp;refine jZ (ai ?_);have j7:∀(t:T) (H:an),t.g 11=vi n→bE t H (.dO 4 64 [.aC,fi 0,fi 0,.aC] (R 11) (R 11))=aa (.c (.sl H.length 0 n n 0 4),H++[.box ((cQ n [FC.aC,fi 0,fi 0,.aC]).map .f) 0]):=by
   intro t H ht;simp only [bE,oA,ht];have hi:gA (vi n)=aa (n:Int):=rfl;simp only [hi];rw [bf ⟨by omega,aoP _,dH (by simp;omega) (by decide),rfl⟩,aT (by omega)];simp
  simp [Y,j7];obtain⟨HA,e_⟩:=aM ([bV.box (List.replicate n [C.f FC.aC,C.f (fi 0),C.f (fi 0),C.f FC.aC]).flatten 0]);have i8:BX HA 0 n ([]++List.replicate n zp):=by
   refine⟨[],?_,?_⟩
   ·rw [e_,aof,an5];have:dt (List.replicate n zp)=List.replicate n [C.f FC.aC,C.f (fi 0),C.f (fi 0),C.f FC.aC]:=by
     rw [dt,List.map_replicate];rfl
    rw [this];rfl
   ·rw [aof,an5,dp (ez _),eH,apm]
  rw [←e_];apply au;apply ai;simp [Y];refine b7 n (fun j t J=>t.g 3=.c (.sl 0 0 n n 0 4)∧t.g 13=.c (.f (sl g (aJ us)))∧∃ qs,qs.length=j∧BX J 0 n (qs++List.replicate (n-j) zp)∧(∀ q ∈ qs,nT q)∧∀ d,0≤d→(fC qs d↔fC (us.take j) d)) (by omega) (by decide) (by decide) (by simp) (by simp)
   ⟨by simp,by simp,[],rfl,by simpa using i8,by simp,fun d _=>by simp⟩ ?_ ?_
  ·rintro j t J hj ⟨y,a8,qs,v,K,c9,O⟩ ha hb next
   have b_:j<us.length:=by omega
   have F:=fun H:an=>bG (H:=H) (g:=g) (rows:=aJ us) (sz:=4) (k:=.i64) (i:=(j:Int)) (by omega) (by simp;omega);have c_:=fun H:an=>cH (H:=H) (bD us) (cU b_);simp only [anJ]at F;have E:=j8 _ (IS b_);have i6:us.take (j+1)=us.take j++[us[j]]:=by rw [anu,By b_];rfl
   obtain⟨u,hu⟩:=aM (us[j]);rw [←hu]at c_ E i6;obtain⟨q,hq,-,-,U⟩:=UW u E.ok (by have:=E.bg;omega) (by have:=E.head;omega);simp only [aI.row,ano,anC]at c_ U;obtain⟨Z,l⟩:=aM (J++[bV.box [C.f (sl u.hg (ints u.head)),C.f (fi u.fr),C.f (fi u.aL),C.f (sl u.cg (ints u.bg))] 0]);have A:BX Z 0 n (qs++List.replicate (n-j) zp):=by rw [l];exact K.push _
   have j4:(qs++List.replicate (n-j) zp).length=n:=by rw [ank,apm];omega
   have b1:Z[J.length]?=aa (.box [C.f (sl u.hg (ints u.head)),C.f (fi u.fr),C.f (fi u.aL),C.f (sl u.cg (ints u.bg))] 0):=by rw [l];simp
   have l1:aU Z (aa 4) (.c (.ptr J.length 0 0))=aa (.a [C.f (sl u.hg (ints u.head)),C.f (fi u.fr),C.f (fi u.aL),C.f (sl u.cg (ints u.bg))]):=by simp [aU,aH,b1,aW]
   obtain⟨i7,-⟩:=A.at (i:=j) (by omega);obtain⟨J2,s2,a_,-,-⟩:=A.st (i:=j) (by omega) q;rw [j4]at i7;simp only [cY]at s2;refine ay ?_;apply ai;simp [ha,a8,F,c_,-az];rw [←l];refine aq (.inl rfl) ?_;simp [y,l1,-az,U,i7,s2,-a6];refine ax (next _ _ ?_ (by simp [ha]) (by simp [hb]));refine⟨by simp [y],by simp [a8],qs++[q],by simp [v],?_,fun x hx=>?_,fun d hd=>?_⟩
   ·have e:(qs++List.replicate (n-j) zp).set j q=qs++[q]++List.replicate (n-(j+1)) zp:=by
     obtain⟨k,hk⟩:∃ k,n-j=k+1:=⟨n-j-1,by omega⟩
     rw [List.set_append_right _ _ (by omega),v,Nat.sub_self,hk,List.replicate_succ,List.set_cons_zero,show n-(j+1)=k by omega,anV];rfl
    rw [←e];exact a_
   ·rcases anm.1 hx with h | h
    ·exact c9 x h
    ·rw [OF]at h;rw [h];exact E.can hq
   ·rw [i6,fe,fe,O d hd];simp only [fC,OF,forall_eq];rw [hq.mem d hd]
  ·rintro t J ⟨y,a8,qs,v,K,c9,O⟩ - -;rw [Nat.sub_self,List.replicate_zero,an5]at K;rw [hn,ant]at O;have a7:∀(N:Nat) (ps:List aI) (t:T) (J:an),ps.length=N→t.g 3=.c (.sl 0 0 ps.length n 0 4)→BX J 0 n ps→MG us ps→WP tab 111 ab [.code zF,.inScope CM] ⟨t,[],J⟩ Q:=by
    intro N;induction N using Nat.strongRecOn with
    | ind N ih=>
    intro ps t J hN y K hG;have i4:=hG.le;obtain⟨M,hM⟩:=aM (ps.length);rw [←hM]at y;have I:=K.len;rw [←hM]at I;apply au;apply ai;simp [y,I];refine b7 M (fun i t J'=>J'=J∧t.g 3=.c (.sl 0 0 M n 0 4)) (by omega) (by decide) (by decide) (by simp) (by simp) ⟨rfl,by simp [y]⟩ ?_ ?_
    ·rintro i t J' hi ⟨rfl,y⟩ ha hb next
     refine ay ?_;apply ai;simp [ha];apply ai;simp [aP (n:=(i:Int)+1)];refine ay ?_;refine bI (fun m s=>∃(j:Nat) (t':T),s=⟨t',[],J'⟩∧m=M-j∧i<j∧j≤M∧t'.g 3=.c (.sl 0 0 M n 0 4)∧t'.g 6=vi i∧t'.g 7=vi j∧t'.g 30=t.g 30∧t'.g 31=t.g 31) (M-(i+1))
      ⟨i+1,_,rfl,rfl,by omega,by omega,by simp [y],by simp,by simp,by simp,by simp⟩ ?_
     rintro m s ⟨j,t',rfl,rfl,i_,m_,b,L,z,d9,d_⟩ j9;apply au;apply ai;simp [b,z,I];by_cases hj:j<M
     ·refine av (by simp [hj]) (aR ?_);obtain⟨xi,li⟩:=K.at (i:=i) (by omega);obtain⟨xj,lj⟩:=K.at (i:=j) (by omega);rw [←hM]at xi xj;have h_:i<ps.length:=by omega
      have i3:j<ps.length:=by omega
      have si:=hG.sm _ (IS h_);have sj:=hG.sm _ (IS i3);have j_:=(aY si.ok).2.2.1;have l_:=(aY sj.ok).2.2.1;have k_:=si.aL;have m9:=sj.aL;have W:=tu ps[i] ps[j] j_ (by omega) l_ (by omega);obtain⟨dv,f8⟩:=aM ((decide (ps[i].aL % ps[j].aL=0)||decide (ps[j].aL % ps[i].aL=0)):Bool);rw [←f8]at W;apply au;refine ay ?_;apply au;apply ai;simp [b,L,z,xi,xj,li,lj,-az,pB,pV,←eG,W];cases dv with
      | true=>
       have hd:ps[i].aL % ps[j].aL=0∨ps[j].aL % ps[i].aL=0:=by simpa using f8.symm
       have hR:∃ R:Int,0<R∧R≤12∧ps[i].aL ∣ R∧ps[j].aL ∣ R:=by
        rcases hd with h | h
        ·exact⟨ps[i].aL,by omega,k_,aoN _,aoI h⟩
        ·exact⟨ps[j].aL,by omega,m9,aoI h,aoN _⟩
       obtain⟨R,R0,R1,Ra,Rb⟩:=hR;obtain⟨q,c1,c2,c3,c4,S⟩:=ae8 ps[i] ps[j] si sj R0 R1 Ra Rb;have sq:nT q:=⟨c1,by have:=si.fr;have:=sj.fr;omega,aoA (aom R0 c3) R1⟩
       simp only [←eG]at S;obtain⟨Z,l⟩:=aM (J'++[bV.box (cY q) 0]);have A:BX Z 0 n ps:=by rw [l];exact K.push _
       have b1:Z[J'.length]?=aa (.box (cY q) 0):=by rw [l];simp
       have l1:aU Z (aa 4) (.c (.ptr J'.length 0 0))=aa (.a (cY q)):=by simp [aU,aH,b1,aW,cY]
       obtain⟨F,-⟩:=A.at (i:=i) (by omega);rw [←hM]at F;obtain⟨J2,s2,a_,-,-⟩:=A.st h_ q;obtain⟨r,J3,B,rfl,i9,-,-⟩:=a_.del (j:=j) (by rw [anD];omega) (by omega);rw [anD,←hM]at B;have g_:(cY q).length=4:=rfl;refine aX (by simp) ?_;apply ai;simp [b,L,z,xi,xj,li,lj,-az,pB,pV,←eG,S,g_];rw [←l];apply ai;simp;refine av (by simp) ?_;apply ai;simp [b,L,l1,F,s2,g_,-az,-a6];apply ai;have ej:((j+1:Nat):Int)=(j:Int)+1:=by omega
       rw [ej]at B;simp [b,z,aP (n:=(j:Int)+1),B.eq];refine acn rfl (au (aR ?_));have X:((ps.set i q).eraseIdx j).length=ps.length-1:=by rw [apc,bf (by rw [anD];omega),anD]
       refine ih _ (by omega) ((ps.set i q).eraseIdx j) _ J3 rfl ?_ i9 ⟨fun e=>by rw [e]at X;simp at X;omega,by omega,KL hG.sm sq,fun d f7=>by rw [KK i_ i3 c4 d f7];exact hG.mem d f7⟩;simp
      | false=>
       refine av (by simp) ?_;refine bh rfl ?_;refine aq (.inl rfl) ?_;simp [z,aP (n:=(j:Int)+1)];exact j9 (M-(j+1)) _ (by omega) ⟨j+1,_,rfl,rfl,by omega,by omega,by simp [b],by simp [L],by simp,by simp [d9],by simp [d_]⟩
     ·refine aF (by simp [hj]) ?_;refine bh rfl ?_;refine ax (next _ _ ⟨rfl,by simp [b]⟩ (by simp [d_,ha]) (by simp [d9,hb]))
    ·rintro t J' ⟨rfl,y⟩ - -;have f_:=K.ex hG.ne 63;rw [←hM]at f_;apply ai;simp [y];refine aE (hQ _ _ _ ⟨ps,hG,rfl⟩ ⟨rfl,.c (.sl 0 0 M n 0 4),dB (by simp),?_⟩);simp [kM,deep,f_]
   refine au (pO ?_);exact a7 _ qs _ J rfl (by simp [y,v]) K ⟨by intro e;rw [e]at v;simp at v;omega,by omega,c9,O⟩
 exact⟨ps,i4,h.eq⟩
theorem pz(g g':Tg)(a b:List Int)(N:a.length≤1000000):bW tab 157 [.c (.f (sl g (ints a))),.c (.f (sl g' (ints b)))]=Eq (vb (decide (a=b))):=by
 have d:∀(H:an) (g:Tg) (l:List Int),bu H (.f (sl g (ints l)))=aa l.length:=fun H g l=>by simp [ints]
 refine bW.eq (cd rfl rfl fun Q z=>?_);apply ai;simp;apply au;apply ai;simp [d];by_cases B:a.length=b.length
 ·refine aX (by simp [B]) ?_;apply au;apply ai;simp [d];refine b7 a.length (fun j t J=>t.g 0=.c (.f (sl g (ints a)))∧t.g 1=.c (.f (sl g' (ints b)))∧∀(k:Nat) (h:k<j) (y:k<a.length),a[k]=b[k]'(by omega)) (by omega) (by decide) (by decide) (by simp) (by simp)
   ⟨by simp,by simp,fun k h=>by omega⟩ ?_ ?_
  ·rintro j t J M ⟨v,x,m⟩ K L next
   have A:j<b.length:=by omega
   have q:=fun H:an=>bG (H:=H) (g:=g) (rows:=ints a) (sz:=1) (k:=.i64) (i:=(j:Int)) (by omega) (by simp [ints];omega);have E:=fun H:an=>ey (H:=H) M;have s:=fun H:an=>bG (H:=H) (g:=g') (rows:=ints b) (sz:=1) (k:=.i64) (i:=(j:Int)) (by omega) (by simp [ints];omega);have F:=fun H:an=>ey (H:=H) A;simp at q s;refine ay ?_;apply ai;simp [K];apply au;refine aq (.inl rfl) ?_;simp [v,x,q,s,E,F];by_cases u:a[j]=b[j]
   ·refine aX (by simp [u]) ?_;refine ax (next _ _ ⟨by simp [v],by simp [x],fun k h y=>?_⟩ (by simp [K]) (by simp [L]));by_cases e:k=j
    ·subst e;exact u
    ·exact m k (by omega) y
   ·refine av (by simp [u]) ?_;apply ai;simp;refine aE (z _ _ ?_);have:¬ a=b:=by intro e;subst e;exact u rfl
    simp [this]
  ·rintro t J ⟨v,x,m⟩ - -;have:a=b:=List.ext_getElem B fun k I y=>m k I I;apply ai;simp;refine aE (z _ _ ?_);simp [this]
 ·refine av (by simp;omega) ?_;apply ai;simp;refine aE (z _ _ ?_);have:¬ a=b:=fun e=>B (by rw [e]);simp [this]
def rB(p q:aI):Bool:=decide (p.fr=q.fr∧p.aL=q.aL∧p.head=q.head∧p.bg=q.bg)
theorem VH(p q:aI)(y:p.head.length≤1000000)(z:p.bg.length≤1000000):Kf tab 117 [.a (cY p),.a (cY q)] (vb (rB p q)):=by
 have s:=fun g g'=>pz g g' p.head q.head y;have v:=fun g g'=>pz g g' p.bg q.bg z;refine dF rfl rfl fun H Q j=>?_;apply ai;simp [cY];apply ai;obtain⟨u,m⟩:=aM (decide (p.head=q.head));obtain⟨x,l⟩:=aM (decide (p.bg=q.bg));rw [←m]at s;rw [←l]at v;have A:rB p q=(decide (p.fr=q.fr)&&(decide (p.aL=q.aL)&&(u&&x))):=by
  rw [m,l];simp [rB]
 rw [A]at j;by_cases b:p.fr=q.fr
 ·by_cases d:p.aL=q.aL
  ·cases u with
   | true=>
    simp [b,d,s,v];refine aE (j _ _ ?_);simp [b,d]
   | false=>
    simp [b,d,s];refine aE (j _ _ ?_);simp [b,d]
  ·simp [b,d];refine aE (j _ _ ?_);simp [b,d]
 ·simp [b];refine aE (j _ _ ?_);simp [b]
theorem Kh{p q:aI}(h:rB p q=ae)(d:Int):bK p d=bK q d:=by
 obtain⟨b,g,j,l⟩:=of_decide_eq_true h;unfold bK;rw [b,g,j,l]
def gj:List aI→List aI→Bool
 | [],[]=>ae| p::s,q::t=>rB p q&&gj s t| _,_=>ag
theorem tB:∀ {s t:List aI},gj s t=ae→∀ d,fC s d↔fC t d
 | [],[],_,d=>Iff.rfl
 | p::s,q::t,h,d=>by
  simp only [gj,If]at h;have b:=tB h.2 d;have c:∀(x:aI) l,fC (x::l) d↔bK x d=ae∧fC l d:=fun x l=>by simp [fC]
  rw [c,c,b,Kh h.1]
theorem kK:∀(s t:List aI),gj s t=ae↔∃ h:s.length=t.length,∀(k:Nat) (b:k<s.length),rB s[k] (t[k]'(by omega))=ae
 | [],[]=>⟨fun _=>⟨rfl,fun k b=>by simp at b⟩,fun _=>rfl⟩
 | [],q::t=>⟨fun h=>(by cases h),fun⟨h,_⟩=>(by simp at h)⟩
 | p::s,[]=>⟨fun h=>(by cases h),fun⟨h,_⟩=>(by simp at h)⟩
 | p::s,q::t=>by
  simp only [gj,If,kK s t];constructor
  ·rintro⟨g,d,j⟩;refine⟨by simp [d],fun k b=>?_⟩;cases k with
   | zero=>exact g| succ k=>exact j k (by simpa using b)
  ·rintro⟨g,d⟩;exact⟨d 0 (by simp),by simpa using g,fun k b=>d (k+1) (by simpa using b)⟩
theorem Ki(g g':Tg)(s t:List aI)(hs:s.length≤1000000)(U:∀ p ∈ s,p.head.length≤1000000∧p.bg.length≤1000000):bW tab 116 [.c (.f (sl g (aJ s))),.c (.f (sl g' (aJ t))),.c (.f (.fn 117 []))]=Eq (vb (gj s t)):=by
 have d:∀(H:an) (g:Tg) (l:List aI),bu H (.f (sl g (aJ l)))=aa l.length:=fun H g l=>by simp
 refine bW.eq (cd rfl rfl fun Q L=>?_);apply ai;simp;apply au;apply ai;simp [d];by_cases S:s.length=t.length
 ·refine aX (by simp [S]) ?_;apply au;apply ai;simp [d];refine b7 s.length (fun j x J=>x.g 1=.c (.f (sl g' (aJ t)))∧x.g 2=.c (.f (.fn 117 []))∧x.g 15=.c (.f (sl g (aJ s)))∧∀(k:Nat) (h:k<j) (F:k<s.length),rB s[k] (t[k]'(by omega))=ae) (by omega) (by decide) (by decide) (by simp) (by simp)
   ⟨by simp,by simp,by simp,fun k h=>by omega⟩ ?_ ?_
  ·rintro j x J N ⟨I,K,m,u⟩ W hb next
   have O:j<t.length:=by omega
   have z:=fun H:an=>bG (H:=H) (g:=g) (rows:=aJ s) (sz:=4) (k:=.i64) (i:=(j:Int)) (by omega) (by simp;omega);have B:=fun H:an=>cH (H:=H) (bD s) (cU N);have A:=fun H:an=>bG (H:=H) (g:=g') (rows:=aJ t) (sz:=4) (k:=.i64) (i:=(j:Int)) (by omega) (by simp;omega);have E:=fun H:an=>cH (H:=H) (bD t) (cU O);simp only [anJ]at z A;simp only [←eG]at B E;have Y:=U _ (IS N);have v:=VH s[j] t[j] Y.1 Y.2;have b:∀ p,(cY p).length=4:=fun _=>rfl;have Z:∀ p,List.take 4 (cY p)=cY p:=fun _=>rfl;refine ay ?_;apply ai;simp [W,m,z,B,-az,b];apply ai;simp [I,A,E,-az,b];obtain⟨y,q⟩:=aM (J++[bV.box (cY s[j]) 0,bV.box (cY t[j]) 0]);have b8:y[J.length]?=aa (.box (cY s[j]) 0):=by rw [q];simp
   have b9:y[J.length+1]?=aa (.box (cY t[j]) 0):=by rw [q,ann (by omega)];simp
   have l8:aU y (aa 4) (.c (.ptr J.length 0 0))=aa (.a (cY s[j])):=by simp [aU,aH,b8,aW,b,Z]
   have l9:aU y (aa 4) (.c (.ptr (J.length+1) 0 0))=aa (.a (cY t[j])):=by simp [aU,aH,b9,aW,b,Z]
   rw [←q];obtain⟨JK,v⟩:=v y;apply ai;simp [K,l8,l9,-az,v.eq];cases M:rB s[j] t[j]with
   | true=>
    refine aX (by simp) ?_;refine ax (next _ _ ⟨by simp [I],by simp [K],by simp [m],fun k h F=>?_⟩ (by simp [W]) (by simp [hb]));by_cases e:k=j
    ·subst e;exact M
    ·exact u k (by omega) F
   | false=>
    refine av (by simp) ?_;apply ai;simp;refine aE (L _ _ ?_);have:gj s t=ag:=by
     cases h:gj s t with
     | false=>rfl
     | true=>
      obtain⟨_,F⟩:=(kK s t).1 h;rw [F j N]at M;cases M
    simp [this]
  ·rintro x J ⟨I,K,m,u⟩ - -;apply ai;simp;refine aE (L _ _ ?_);have:gj s t=ae:=(kK s t).2 ⟨S,fun k X=>u k X X⟩;simp [this]
 ·refine av (by simp;omega) ?_;apply ai;simp;refine aE (L _ _ ?_);have:gj s t=ag:=by
   cases h:gj s t with
   | false=>rfl| true=>exact absurd ((kK s t).1 h).1 S
  simp [this]
theorem agC(s t:List aI)(j:s.length≤1000000)(b:∀ p ∈ s,p.head.length≤1000000∧p.bg.length≤1000000)(g g':Tg):Kf tab 115 [.c (.f (sl g (aJ s))),.c (.f (.fp [sl g' (aJ t)] 0))] (vb (gj s t)):=by
 have h:=Ki g g' s t j b;refine dF rfl rfl fun H Q d=>?_;apply ai;simp;apply ai;simp [rG,h];refine aE (d _ _ ?_);simp
theorem Vx(g g':Tg)(l:List (List aI))(u:l.length≤1000000)(b:∀ s ∈ l,s.length≤1000000∧∀ p ∈ s,p.head.length≤1000000∧p.bg.length≤1000000)(t:List aI) :
  bW tab 74 [.c (.f (sl g (l.map fun s=>[sl .fs (aJ s)]))),.c (.f (.fn 115 [.fp [sl g' (aJ t)] 0]))]=Eq (vb (l.any fun s=>gj s t)):=
 (gl Bn (jg Bo l (fun s=>[sl .fs (aJ s)]) (fun s=>.c (.f (sl .fs (aJ s)))) (fun s=>gj s t) g 115 [.fp [sl g' (aJ t)] 0] (by omega)
  (fun j q H=>by
   have m:bP 1 (l.map fun s=>[sl .fs (aJ s)]):=bP.map fun _=>rfl;have:=gG (H:=H) m (j:=j) (row:=[sl .fs (aJ l[j])]) (by simp [q]) rfl;simpa using this)
  (fun s d=>agC s t (b s d).1 (b s d).2 .fs g'))).eq
theorem vO(g:Tg)(ps:List aI)(q:∀ p ∈ ps,Mod p)(m:1≤ps.length)(u:ps.length≤64):∃ b,(b=ae↔(∀ d,¬ iO ps 0 ps d)∧¬ nS [] ps)∧bW tab 76 [.c (.f (sl g (aJ ps)))]=Eq (vb b):=by
 obtain⟨e,f,j,z⟩:=Ai g ps (fun p A=>(q p A).ok) u 0;obtain⟨b,y,B⟩:=wW g ps q m u;refine⟨!f&&!b,?_,bW.eq (cd rfl rfl fun Q s=>?_)⟩
 ·rw [←y];rcases j with⟨l,-,x⟩ | ⟨l,v,-⟩
  ·subst l;simp [x]
  ·subst l;simp only [Bool.not_true,Bool.false_and,Bool.false_eq_true,false_iff];rintro⟨h,-⟩;exact h _ v
 ·apply ai;simp;apply ai;simp [z];apply ai;cases f
  ·simp [B];refine aE (s _ _ ?_);simp
  ·simp;refine aE (s _ _ ?_);simp
theorem nT.mod{p:aI}(h:nT p):Mod p:=⟨h.ok,by have:=h.aL;omega⟩
theorem te{ps:List aI}(s:∀ p ∈ ps,nT p)(u:∀ d,¬ iO ps 0 ps d)(v:¬ nS [] ps)(d:Int)(j:0≤d):¬ fC ps d:=by
 intro b;have m:uU ps d=ae:=(im j).2 b;by_cases x:cN ps≤d
 ·refine v (yE (d:=d) ps [] (by simp) fun p g=>?_);exact(pY (s p g).mod (by
   have:∀ l:List aI,p ∈ l→p.fr≤cN l:=by
    intro l;induction l with
    | nil=>intro h;cases h
    | cons a l y=>
     intro h;simp only [cN];rcases anK.1 h with rfl | h
     ·omega
     ·have:=y h;omega
   have:=this ps g;omega)).1 (b p g)
 ·obtain⟨p,g,q⟩:=rj (l:=ps) j (by omega);refine u d ⟨j,m,p,g,?_⟩;exact(head_mem (s p g).ok d).2 ⟨j,q,b p g⟩
def B4(J J':an):Prop:=∀(i:Nat) (cs:List C) (fl:Nat),4≤cs.length→J[i]?=aa (bV.box cs fl)→∃ b,J'[i]?=aa (bV.box cs b)
def TC(J:an)(c:C)(ps:List aI):Prop:=(c=.f (sl .fs (aJ ps))∧ps≠[])∨(ps≠[]∧∃ b fl,c=.sl b 0 ps.length ps.length 0 4∧J[b]?=aa (.box (dt ps).flatten fl))
theorem lE(ps:List aI):(dt ps).flatten.length=ps.length*4:=by rw [dp (ez ps),eH]
theorem A3{ps:List aI}(h:ps≠[]):4≤(dt ps).flatten.length:=by
 have:=anU.2 h;rw [lE];omega
theorem lG{ps:List aI}(h:ps≠[])(g:Tg):sl g (aJ ps)=.fs (aJ ps).flatten ps.length:=by
 cases ps with
 | nil=>exact absurd rfl h| cons p l=>simp [sl,aJ]
section
variable{J:an}{c:C}{ps:List aI}
theorem TC.len(h:TC J c ps):bu J c=aa ps.length:=by
 rcases h with⟨rfl,h⟩ | ⟨h,b,fl,rfl,hb⟩
 ·simp
 ·simp [bu,hb]
theorem TC.one{p:aI}(h:TC J c [p]):∃ q,bC J 4 ab (.c c) (vi 0)=aa (.c q)∧aU J (aa 4) (.c q)=aa (.a (cY p)):=by
 rcases h with⟨rfl,h⟩ | ⟨h,b,fl,rfl,hb⟩
 ·have d:=bG (H:=J) (g:=.fs) (rows:=aJ [p]) (sz:=4) (k:=.i64) (i:=(0:Int)) (by omega) (by simp);have m:=cH (H:=J) (bD [p]) (cU (l:=[p]) (j:=0) (by simp));exact⟨_,d,by simpa [eG]using m⟩
 ·have hb:J[b]?=aa (.box (cY p) fl):=hb;exact⟨.ptr b 0 0,by simp [bC,show gA (vi 0)=aa (0:Int) from rfl,hb],by simp [aU,aH,hb,aW,cY]⟩
theorem TC.ex(h:TC J c ps)(n:Nat):eL (n+1) J c=aa (sl .fs (aJ ps)):=by
 rcases h with⟨rfl,h⟩ | ⟨h,b,fl,rfl,hb⟩
 ·rfl
 ·have hl:=lE ps;simp only [jz,hb];rw [bf (by omega),aod,anA (by omega),oQ,ld,lG h];rfl
theorem TC.ba{J':an}(h:TC J c ps)(j:B4 J J'):TC J' c ps:=by
 rcases h with h | ⟨h,b,fl,h1,hb⟩
 ·exact .inl h
 ·obtain⟨d,g⟩:=j b _ fl (A3 h) hb;exact .inr ⟨h,b,d,h1,g⟩
theorem TC.mk(h:TC J c ps)(n:Nat):∀(i:Nat) (y:bV),J[i]?=aa y→(fo (n+1) c J)[i]?=aa y∨∃ cs fl g,4≤cs.length∧y=.box cs fl∧(fo (n+1) c J)[i]?=aa (.box cs g):=by
 rcases h with⟨rfl,h⟩ | ⟨h,b,fl,rfl,hb⟩
 ·intro i y hy;exact .inl hy
 ·intro i y hy;have e:fo (n+1) (.sl b 0 ps.length ps.length 0 4) J=J.set b (.box (dt ps).flatten (Nat.max fl (0+ps.length*4))):=by
   simp only [pW,hb];rw [jA];intro x d;have d:=anY (aoi d);rw [oQ]at d;obtain⟨y,-,rfl⟩:=anv.1 d;exact⟨y,rfl⟩
  rw [e];by_cases hi:b=i
  ·subst hi;rw [hb]at hy;cases hy;exact .inr ⟨_,_,_,A3 h,rfl,BY (aj hb)⟩
  ·exact .inl (by rw [sh hi];exact hy)
end
def LJ(J:an)(cl:C)(ts:List (List aI)):Prop:=(ts=[]∧cl=.f .aC)∨(∃ b d cs rest,cl=.sl b 0 ts.length 0 d 1∧J[b]?=aa (.cS 1 (cs++rest) 0 d .loc)∧cs.length=ts.length∧∀(k:Nat) (h:k<ts.length) (g:k<cs.length),TC J cs[k] ts[k])
section
variable{J:an}{cl:C}{ts:List (List aI)}
theorem LJ.len(h:LJ J cl ts):bu J cl=aa ts.length:=by
 rcases h with⟨rfl,rfl⟩ | ⟨b,d,cs,rest,rfl,hb,-,-⟩
 ·rfl
 ·simp [bu,hb]
theorem LJ.at(h:LJ J cl ts){k:Nat}(g:k<ts.length):∃ b d c,cl=.sl b 0 ts.length 0 d 1∧bC J 1 ab (.c cl) (vi k)=aa (.c (.ptr b k d))∧aU J ab (.c (.ptr b k d))=aa (.c c)∧TC J c ts[k]:=by
 rcases h with⟨rfl,rfl⟩ | ⟨b,d,cs,rest,rfl,hb,hl,j⟩
 ·simp at g
 ·refine⟨b,d,cs[k],rfl,?_,?_,j k g (by omega)⟩
  ·simp [bC,show gA (vi k)=aa (k:Int) from rfl,hb,g]
  ·simp only [aU,aH,hb,if_true,anR];rw [aoq (by omega),anw (by omega)];rfl
theorem LJ.ba{J':an}(h:LJ J cl ts)(j:B4 J J')(ho:∀(i:Nat) y,aV cl=aa i→J[i]?=aa y→J'[i]?=aa y):LJ J' cl ts:=by
 rcases h with h | ⟨b,d,cs,rest,rfl,hb,hl,g⟩
 ·exact .inl h
 ·exact .inr ⟨b,d,cs,rest,rfl,ho b _ rfl hb,hl,fun k h h2=>(g k h h2).ba j⟩
theorem LJ.push(h:LJ J cl ts)(K:an):LJ (J++K) cl ts:=h.ba (fun i cs fl _ hi=>⟨fl,by rw [AT (aj hi)];exact hi⟩) fun i y _ hy=>by rw [AT (aj hy)];exact hy
theorem LJ.bA(h:LJ J cl ts){i:Nat}{cs:List C}{fl:Nat}(hi:J[i]?=aa (.box cs fl)):aV cl≠aa i:=by
 rcases h with⟨-,rfl⟩ | ⟨b,d,cs',rest,rfl,hb,-,-⟩
 ·simp [aV]
 ·intro e;cases e;rw [hi]at hb;cases hb
theorem LJ.akv(h:LJ J cl ts){i:Nat}{y:bV}(hi:J[i]?=aa y)(hy:iQ y=ae):aV cl≠aa i:=by
 rcases h with⟨-,rfl⟩ | ⟨b,d,cs',rest,rfl,hb,-,-⟩
 ·simp [aV]
 ·intro e;cases e;rw [hi]at hb;cases hb;cases hy
theorem LJ.st(h:LJ J cl ts){i:Nat}(hi:i<ts.length){p:aI}{bn:Nat}(l:J[bn]?=aa (.box (cY p) 0)):∃ b d J',bC J 1 ab (.c cl) (vi i)=aa (.c (.ptr b i d))∧cZ J (.ptr b i d) [.sl bn 0 1 1 0 4]=aa J'∧LJ J' cl (ts.set i [p])∧J'.length=J.length∧∀ k,aV cl≠aa k→J'[k]?=J[k]?:=by
 rcases h with⟨rfl,rfl⟩ | ⟨b,d,cs,rest,rfl,hb,hl,q⟩
 ·simp at hi
 ·have j:∀ k y fl,J[k]?=aa (.box y fl)→k≠b:=fun k y fl m e=>by rw [e,hb]at m;cases m
  have ho:over (cs++rest) i [.sl bn 0 1 1 0 4]=cs.set i (.sl bn 0 1 1 0 4)++rest:=by
   rw [uc (by rw [ank];omega),List.set_append_left _ _ (by omega)]
  refine⟨b,d,J.set b (.cS 1 (cs.set i (.sl bn 0 1 1 0 4)++rest) 0 d .loc),?_,?_,.inr ⟨b,d,cs.set i (.sl bn 0 1 1 0 4),rest,by simp,BY (aj hb),by simp [hl],fun k h1 h2=>?_⟩,by simp,fun k s=>sh (by rintro rfl;exact s rfl)⟩
  ·simp [bC,show gA (vi i)=aa (i:Int) from rfl,hb,hi]
  ·simp only [a6,hb,aox,true_and];rw [bf (by simp;omega),ho]
  ·rw [List.getElem_set,List.getElem_set];by_cases e:i=k
   ·rw [bf e,bf e];exact .inr ⟨by simp,bn,0,rfl,by rw [sh (Ne.symm (j _ _ _ l))];exact l⟩
   ·rw [aT e,aT e];refine(q k (by simpa using h1) (by simpa using h2)).ba fun u cs' fl _ g=>⟨fl,?_⟩
    rw [sh (Ne.symm (j _ _ _ g))];exact g
theorem LJ.del(h:LJ J cl ts){j:Nat}(v:j<ts.length)(x:0<j)(N:ts.length≤1000000) :
  ∃ u H',Ev tab (.fn 114) [.c cl,vi j,vi (j+1:Nat)] J (.c u) H'∧LJ H' u (ts.eraseIdx j)∧aV u=aV cl∧H'.length=J.length∧∀ k,aV cl≠aa k→H'[k]?=J[k]?:=by
 rcases h with⟨rfl,rfl⟩ | ⟨b,M,cs,rest,rfl,hb,hl,E⟩
 ·simp at v
 ·have hg:rp 1 (cs.map fun c=>[c]):=fun r O=>by
   obtain⟨c,-,rfl⟩:=anv.1 O;rfl
  have q:∀ l:List C,(l.map fun c=>[c]).flatten=l:=fun l=>by induction l with
   | nil=>rfl| cons a l Q=>simp only [ano,anH,Q];rfl
  have d:(cs.map fun c=>[c]).length=ts.length:=by rw [anq,hl]
  obtain⟨r,H',H,rfl,g,m,s,I⟩:=abP (tab:=tab) (F:=114) (sz:=1) (bytes:=24) (zs:=[.aC]) afA (by decide) rfl (rows:=cs.map fun c=>[c]) (rest:=rest) hg (by rw [q];exact hb) (j:=j) (by rw [d];exact v) x (by rw [d];exact N);rw [d]at H;have L:((cs.map fun c=>[c]).eraseIdx j).flatten=cs.eraseIdx j:=by
   rw [aog,←ao9,←api,←aop,q,←aog]
  rw [L]at m;have B:(ts.eraseIdx j).length=ts.length-1:=by rw [apc,bf v]
  have A:∀ k y fl,J[k]?=aa (.box y fl)→k≠b:=fun k y fl K e=>by rw [e,hb]at K;cases K
  refine⟨_,H',H,.inr ⟨b,M,cs.eraseIdx j,g,by rw [B],m,by rw [B,apc,bf (by omega),hl],fun k h1 h2=>?_⟩,rfl,s,fun k z=>I k (by rintro rfl;exact z rfl)⟩;have kp:B4 J H':=fun i cs fl _ hi=>⟨fl,by rw [I i (A _ _ _ hi)];exact hi⟩
  rw [List.getElem_eraseIdx,List.getElem_eraseIdx];by_cases e:k<j
  ·rw [dif_pos e,dif_pos e];exact(E _ _ _).ba kp
  ·rw [dif_neg e,dif_neg e];exact(E _ _ _).ba kp
end
def TV(J:an)(c:C)(fs:List aI):Prop:=(∃ g,c=.f (sl g (aJ fs)))∨LR J c 4 (aJ fs)
theorem agx{J:an}{c:C}{sz:Nat}{rows:List (List FC)}(h:LR J c sz rows)(n:Nat):∀(i:Nat) (y:bV),J[i]?=aa y→aV c≠aa i→(fo (n+1) c J)[i]?=aa y:=by
 rcases h with⟨_,rfl | rfl⟩ | ⟨s,b,q,rfl,l⟩
 ·intro i y d _;exact d
 ·intro i y d _;exact d
 ·unfold RB at l;intro i y d hi;have g:b≠i:=fun e=>hi (by rw [e];rfl);have e:∃ z,fo (n+1) (.sl b 0 rows.length 0 q sz) J=J.set b z:=by
   simp only [pW,l];rw [jA]
   ·exact⟨_,rfl⟩
   ·intro x j;have j:=anY (aoi j);obtain⟨m,_,rfl⟩:=anv.1 j;exact⟨_,rfl⟩
  obtain⟨z,u⟩:=e;rw [u,sh g];exact d
section
variable{J:an}{c:C}{fs:List aI}
theorem TV.ex(h:TV J c fs):∃ g,∀ n,eL (n+1) J c=aa (sl g (aJ fs)):=by
 rcases h with⟨g,rfl⟩ | h
 ·exact⟨g,fun n=>rfl⟩
 ·obtain⟨g,hg⟩:=h.Xl (bD fs);exact⟨g,fun n=>hg J n fun _ _ h _=>h⟩
theorem TV.mk(h:TV J c fs)(n:Nat):∀(i:Nat) (y:bV),J[i]?=aa y→aV c≠aa i→(fo (n+1) c J)[i]?=aa y:=by
 rcases h with⟨g,rfl⟩ | h
 ·intro i y hy _;exact hy
 ·exact agx h n
end
def CY(f:Nat)(g:List FC)(L:List (List aI)):Prop:=∀(b:Nat) (H:an) (PP:Nat→an→Prop),PP 0 H →
 (∀(j:Nat) (m:j<L.length) (d J:an) (c:C),PP j d→(∀ i:Nat,i<d.length→J[i]?=d[i]?)→d.length≤J.length→TV J c L[j]→(∀ i,aV c=aa i→d.length≤i)→∃ H',Ev tab (.yield b) [.c c] J (vb ae) H'∧PP (j+1) H') →
 ∃ l,Ev tab (.fn f) (.c (.yl b)::g.map fun x=>.c (.f x)) H (.t []) l∧PP L.length l
theorem Bd(g:Tg)(ts:List cu)(x:ts.length≤1000000):CY 119 [.fp [sl g (aA ts)] 0] (ts.map (·.fs)):=by
 intro b H PP q y;obtain⟨r,m,u,rfl,d⟩:=xf (b:=b) (H:=H) g ts x PP q fun j v J s=>by
  obtain⟨H',l,d⟩:=y j (by simpa using v) J J (.f (sl ts[j].tg (aJ ts[j].fs))) s (fun _ _=>rfl) (anl _) (.inl ⟨ts[j].tg,by simp⟩) (fun _ h=>by cases h);exact⟨_,H',l,rfl,d⟩
 exact⟨m,u,by rw [anq];exact d⟩
def Bm(m:Nat)(t:List aI):Prop:=t≠[]∧t.length≤m∧∀ p ∈ t,nT p
def gQ(ts:List (List aI))(d:Int):Prop:=∃ t ∈ ts,fC t d
structure NT(m:Nat)(L ts:List (List aI)):Prop where
 len:ts.length≤L.length
 ok:∀ t ∈ ts,Bm m t
 mem:∀ d,0≤d→(gQ ts d↔gQ L d)
def cA(ts:List (List aI)):List (List FC):=ts.map fun s=>[sl .fs (aJ s)]
theorem uF(ts:List (List aI)):bP 1 (cA ts):=bP.map fun _=>rfl
structure Bh(s:T)(cl:C)(ts:List (List aI))(st:dw)(J:an):Prop where
 h0:J[0]?=aa (.box [.f .aC] 0)
 h1:J[1]?=aa (.box [cl] 0)
 lr:LR J cl 1 (cA ts)
 ne:cl≠.f .es
 lo:∀ i,aV cl=aa i→3<i
 df:J[2]?=aa (.eo ae)
 lp:J[3]?=aa (.lp 73 s [P.nat 15] nB jO st ab 2)
theorem Bh.three{s:T}{cl:C}{ts:List (List aI)}{st st':dw}{J:an}(h:Bh s cl ts st J):Bh s cl ts st' (J.set 3 (.lp 73 s [P.nat 15] nB jO st' ab 2)):=by
 refine⟨?_,?_,h.lr.set (fun e=>by have:=h.lo 3 e;omega) _,h.ne,h.lo,?_,BY (aj h.lp)⟩
 ·rw [sh (by omega)];exact h.h0
 ·rw [sh (by omega)];exact h.h1
 ·rw [sh (by omega)];exact h.df
theorem Bh.ba{s:T}{cl:C}{ts:List (List aI)}{st:dw}{J J':an}(h:Bh s cl ts st J)(b:∀(i:Nat) y,i<J.length→J[i]?=aa y→J'[i]?=aa y):Bh s cl ts st J':=
 ⟨b _ _ (aj h.h0) h.h0,b _ _ (aj h.h1) h.h1,h.lr.ba fun i y hy _=>b i y (aj hy) hy,h.ne,h.lo,b _ _ (aj h.df) h.df,b _ _ (aj h.lp) h.lp⟩
theorem Bh.mark{s:T}{cl c:C}{ts:List (List aI)}{st:dw}{J J':an}(h:Bh s cl ts st J)(hc:∀ i,aV c=aa i→3<i)(d:∀ i,aV c=aa i→aV cl≠aa i)(b:∀(i:Nat) y,J[i]?=aa y→aV c≠aa i→J'[i]?=aa y):Bh s cl ts st J':=
 ⟨b _ _ h.h0 (fun e=>by have:=hc 0 e;omega),b _ _ h.h1 (fun e=>by have:=hc 1 e;omega),h.lr.ba fun i y hy hi=>b i y hy fun e=>d i e hi,h.ne,h.lo,b _ _ h.df (fun e=>by have:=hc 2 e;omega),b _ _ h.lp (fun e=>by have:=hc 3 e;omega)⟩
theorem Bh.app{s:T}{cl:C}{ts:List (List aI)}{st:dw}{J:an}(h:Bh s cl ts st J)(H:ts.length≤1000)(ps:List aI) :
  ∃ j m,bF (J++[.box [.f (sl .fs (aJ ps))] 0]) 1 24 (.c cl) (.c (.sl J.length 0 1 1 0 1))=aa (.c j,m)∧cZ m (.ptr 1 0 0) [j]=aa (m.set 1 (.box [j] 0))∧Bh s j (ts++[ps]) st (m.set 1 (.box [j] 0)):=by
 obtain⟨q,d⟩:=aM (J++[.box ([sl .fs (aJ ps)].map .f) 0]:an);have up:∀(i:Nat) y,J[i]?=aa y→q[i]?=aa y:=fun i y hy=>by rw [d,AT (aj hy)];exact hy
 have x:LR q cl 1 (cA ts):=by rw [d];exact h.lr.push _
 have z:q[J.length]?=aa (.box ([sl .fs (aJ ps)].map .f) 0):=by rw [d];simp
 have h2:q.length=J.length+1:=by rw [d];simp
 have K:=aj h.lp;obtain⟨j,m,l,g,v,A⟩:=x.app (uF ts) (by decide) (row:=[sl .fs (aJ ps)]) rfl (bytes:=24) (dH (by simp [cA];omega) (by decide)) z;have F:cA ts++[[sl .fs (aJ ps)]]=cA (ts++[ps]):=by simp [cA]
 rw [F]at g;have u:∀(i:Nat) y,i≤3→J[i]?=aa y→m[i]?=aa y:=fun i y hi hy=>v.2 i y (up i y hy) fun e=>by have:=h.lo i e;omega
 have E:=u 1 _ (by omega) h.h1;have B:j≠.f .es:=by
  rcases g with⟨h0,_⟩ | ⟨_,b,I,rfl,_⟩
  ·simp [cA]at h0
  ·intro e;cases e
 refine⟨j,m,by rw [d]at l;exact l,by simp [cZ,E,over],?_,BY (aj E),g.set (g.bA E) _,B,fun i hi=>?_,?_,?_⟩
 ·rw [sh (by omega)];exact u 0 _ (by omega) h.h0
 ·rcases A with e | e
  ·rw [e]at hi;exact h.lo i hi
  ·rw [e]at hi;cases hi;omega
 ·rw [sh (by omega)];exact u 2 _ (by omega) h.df
 ·rw [sh (by omega)];exact u 3 _ (by omega) h.lp
theorem yq{s:T}(W:s.g 4=.c (.ptr 1 0 0)){cl:C}{ts:List (List aI)}(K:ts.length≤1000){m:Nat}(hm:m≤64){fs:List aI}(j:Bm m fs){J:an}{c:C}(h:Bh s cl ts .ready J)(Y:TV J c fs)(M:∀ i,aV c=aa i→3<i)(E:∀ i,aV c=aa i→aV cl≠aa i) :
  ∃ r H',Ev tab (.yield 3) [.c c] J r H'∧(r=vb ae∧∃ B u,Bh s B u .ready H'∧((u=ts∧∀ d,0≤d→¬ fC fs d)∨∃ t,u=ts++[t]∧Bm m t∧∀ d,0≤d→(fC t d↔fC fs d))):=by
 refine dr (tab:=tab) (b:=3) (args:=[.c c]) (H:=J) h.lp rfl fun Q' y=>?_;refine aq (.inr rfl) ?_;simp;refine fW h.lp ?_;have L:=h.three (st':=.busy);have l:TV (J.set 3 (.lp 73 s [P.nat 15] nB jO .busy ab 2)) c fs:=by
  rcases Y with h | h
  ·exact .inl h
  ·exact .inr (h.set (fun e=>by have:=M 3 e;omega) _)
 generalize J.set 3 (.lp 73 s [P.nat 15] nB jO .busy ab 2)=Q at L l ⊢;obtain⟨gx,q⟩:=l.ex;have q:=q 63;obtain⟨ps,g,F⟩:=KM gx fs j.2.2 j.1 (by have:=j.2.1;omega);obtain⟨b,Z,A⟩:=vO .fs ps (fun p hp=>(g.sm p hp).mod) (anU.2 g.ne) (by have:=g.le;have:=j.2.1;omega);have x:=L.mark M E (l.mk 63);obtain⟨S,v⟩:=aM (fo 64 c Q);rw [←v]at x;refine ay ?_;refine au (aq (.inr rfl) ?_);simp [q,deep,F,←v];apply au;refine aq (.inr rfl) ?_;simp [A];cases b with
 | true=>
  refine aX (by simp) ?_;obtain⟨k1,k2⟩:=Z.1 rfl;exact ax (cK (y _ _ _ _ _ _ _ _ _ _ rfl x.lp ⟨rfl,cl,ts,x.three,.inl ⟨rfl,fun d N X=>te g.sm k1 k2 d N ((g.mem d N).2 X)⟩⟩))
 | false=>
  refine av (by simp) ?_;obtain⟨U,H3,z,I,O⟩:=x.app K ps;have l1:aU S ab (.c (.ptr 1 0 0))=aa (.c cl):=by simp [aU,aH,x.h1]
  refine aq (.inr rfl) ?_;simp [W,l1,-az,z,I,-a6];exact ax (cK (y _ _ _ _ _ _ _ _ _ _ rfl O.lp ⟨rfl,U,ts++[ps],O.three,.inr ⟨ps,rfl,⟨g.ne,by have:=g.le;have:=j.2.1;omega,g.sm⟩,g.mem⟩⟩))
theorem VP{ts:List (List aI)}{i j:Nat}(H:i<j)(I:j<ts.length){p y q:aI}(s:ts[i]'(by omega)=[p])(u:ts[j]=[y])(L:∀ d,0≤d→bK q d=(bK p d||bK y d))(d:Int)(F:0≤d):gQ ((ts.set i [q]).eraseIdx j) d↔gQ ts d:=by
 have hi:i<ts.length:=by omega
 have A:ts=ts.take i++[p] ::((ts.drop (i+1)).take (j-(i+1))++[y]::ts.drop (j+1)):=by
  rw [←s,←u]
  conv=>lhs;rw [←an6 i ts,anw hi]
  congr 2
  conv=>lhs;rw [←an6 (j-(i+1)) (ts.drop (i+1)),aoF]
  rw [show i+1+(j-(i+1))=j by omega,anw I]
 have B:(ts.set i [q]).eraseIdx j=ts.take i++[q] ::((ts.drop (i+1)).take (j-(i+1))++ts.drop (j+1)):=by
  have E:ts.set i [q]=ts.take i++[q]::ts.drop (i+1):=by rw [apb,bf hi]
  have K:(ts.take i).length=i:=by rw [anW];omega
  rw [E,apz (by omega),K]
  congr 1
  obtain⟨k,J⟩:∃ k,j-i=k+1:=⟨j-i-1,by omega⟩
  rw [J,List.eraseIdx_cons_succ,aog,aoF];rw [show j-(i+1)=k by omega,show i+1+(k+1)=j+1 by omega]
 have g:∀(a b:List (List aI)),gQ (a++b) d↔gQ a d∨gQ b d:=fun a b=>by
  unfold gQ;constructor
  ·rintro⟨t,v,h⟩;rcases anm.1 v with k | k
   ·exact .inl ⟨t,k,h⟩
   ·exact .inr ⟨t,k,h⟩
  ·rintro(⟨t,k,h⟩ | ⟨t,k,h⟩)
   ·exact⟨t,anO _ k,h⟩
   ·exact⟨t,aoo _ k,h⟩
 have m:∀(x:aI) l,gQ ([x]::l) d↔bK x d=ae∨gQ l d:=fun x l=>by
  unfold gQ;constructor
  ·rintro⟨t,v,h⟩;rcases anK.1 v with rfl | k
   ·exact .inl (h x (by simp))
   ·exact .inr ⟨t,k,h⟩
  ·rintro(h | ⟨t,k,h⟩)
   ·exact⟨[x],by simp,fun p z=>by rw [OF]at z;rw [z];exact h⟩
   ·exact⟨t,List.mem_cons_of_mem _ k,h⟩
 rw [B]
 conv=>rhs;rw [A]
 rw [g,g,m,m,g,g,m,L d F,aoO];constructor
 ·rintro(a | (b | c) | e | f)
  ·exact .inl a
  ·exact .inr (.inl b)
  ·exact .inr (.inr (.inr (.inl c)))
  ·exact .inr (.inr (.inl e))
  ·exact .inr (.inr (.inr (.inr f)))
 ·rintro(a | b | e | c | f)
  ·exact .inl a
  ·exact .inr (.inl (.inl b))
  ·exact .inr (.inr (.inl e))
  ·exact .inr (.inl (.inr c))
  ·exact .inr (.inr (.inr f))
structure SJ(J:an)(cl:C)(ts:List (List aI)):Prop where
 h0:J[0]?=aa (.box [.f .aC] 0)
 h1:J[1]?=aa (.box [cl] 0)
 df:J[2]?=aa (.eo ae)
 lj:LJ J cl ts
theorem SJ.push{J:an}{cl:C}{ts:List (List aI)}(h:SJ J cl ts)(K:an):SJ (J++K) cl ts:=
 ⟨by rw [AT (aj h.h0)];exact h.h0,by rw [AT (aj h.h1)];exact h.h1,by rw [AT (aj h.df)];exact h.df,h.lj.push K⟩
theorem VY{J:an}{cl:C}{ts:List (List aI)}(u:∀ t ∈ ts,t≠[])(h:LR J cl 1 (cA ts))(d:cl≠.f .es):LJ J cl ts:=by
 rcases h with⟨m,rfl | rfl⟩ | ⟨v,b,j,rfl,g⟩
 ·have:ts=[]:=by
   cases ts with
   | nil=>rfl| cons a l=>simp [cA]at m
  exact .inl ⟨this,rfl⟩
 ·exact absurd rfl d
 ·have s:(cA ts).length=ts.length:=by simp [cA]
  have q:∀ l:List (List aI),(cA l).flatten.map C.f=l.map fun t=>C.f (sl .fs (aJ t)):=fun l=>by
   induction l with
   | nil=>rfl
   | cons a l x=>
    have:cA (a::l)=[sl .fs (aJ a)]::cA l:=rfl;rw [this,anH,aop,x];rfl
  unfold RB at g;refine .inr ⟨b,j,ts.map fun t=>C.f (sl .fs (aJ t)),[],by rw [s],by rw [g,q,an5],by simp,fun k y d=>?_⟩;rw [aoR];exact .inl ⟨rfl,u _ (IS _)⟩
theorem SJ.join{J:an}{cl:C}{ts:List (List aI)}(h:SJ J cl ts){i j:Nat}(H:i<j)(I:j<ts.length)(Q:ts.length≤1000){p:aI}{bn:Nat}(hb:J[bn]?=aa (.box (cY p) 0)) :
  ∃ b x l m d,aU J ab (.c (.ptr 1 0 0))=aa (.c cl)∧bC J 1 ab (.c cl) (vi i)=aa (.c (.ptr b i x))∧cZ J (.ptr b i x) [.sl bn 0 1 1 0 4]=aa l∧aU l ab (.c (.ptr 1 0 0))=aa (.c cl)∧Ev tab (.fn 114) [.c cl,vi j,vi (j+1:Nat)] l (.c m) d∧cZ d (.ptr 1 0 0) [m]=aa (d.set 1 (.box [m] 0)) ∧
   SJ (d.set 1 (.box [m] 0)) m ((ts.set i [p]).eraseIdx j):=by
 obtain⟨b,x,l,O,M,g,K,q⟩:=h.lj.st (i:=i) (by omega) hb;have A:l[0]?=aa (.box [.f .aC] 0):=by rw [q 0 (h.lj.bA h.h0)];exact h.h0
 have a1:l[1]?=aa (.box [cl] 0):=by rw [q 1 (h.lj.bA h.h1)];exact h.h1
 have B:l[2]?=aa (.eo ae):=by rw [q 2 (h.lj.akv h.df rfl)];exact h.df
 obtain⟨m,d,F,u,N,L,s⟩:=g.del (j:=j) (by rw [anD];exact I) (by omega) (by rw [anD];omega);have b0:d[0]?=aa (.box [.f .aC] 0):=by rw [s 0 (g.bA A)];exact A
 have b1:d[1]?=aa (.box [cl] 0):=by rw [s 1 (g.bA a1)];exact a1
 have E:d[2]?=aa (.eo ae):=by rw [s 2 (g.akv B rfl)];exact B
 refine⟨b,x,l,m,d,by simp [aU,aH,h.h1],O,M,by simp [aU,aH,a1],F,by simp [cZ,b1,over],?_,BY (aj b1),?_,u.ba (fun k cs fl z v=>⟨fl,?_⟩) fun k y v hy=>?_⟩
 ·rw [sh (by omega)];exact b0
 ·rw [sh (by omega)];exact E
 ·rw [sh (by rintro rfl;rw [b1]at v;cases v;simp at z)];exact v
 ·rw [sh (by rintro rfl;exact u.bA b1 v)];exact hy
def M4(J J':an):Prop:=∀(i:Nat) (y:bV),J[i]?=aa y→J'[i]?=aa y∨∃(cs:List C) (fl b:Nat),4≤cs.length∧y=bV.box cs fl∧J'[i]?=aa (bV.box cs b)
theorem M4.refl(J:an):M4 J J:=fun _ _ h=>.inl h
theorem M4.trans{J J' b:an}(h:M4 J J')(j:M4 J' b):M4 J b:=fun i y hy=>by
 rcases h i y hy with k | ⟨cs,fl,g,hc,rfl,k⟩
 ·exact j i y k
 ·rcases j i _ k with k' | ⟨l,m,d,q,e,k'⟩
  ·exact .inr ⟨cs,fl,g,hc,rfl,k'⟩
  ·cases e;exact .inr ⟨cs,fl,d,hc,rfl,k'⟩
theorem M4.b4{J J':an}(h:M4 J J'):B4 J J':=fun i cs fl hc hy=>by
 rcases h i _ hy with k | ⟨d,g,b,j,e,k⟩
 ·exact⟨fl,k⟩
 ·cases e;exact⟨b,k⟩
theorem M4.get{J J':an}(h:M4 J J'){i:Nat}{y:bV}(hy:J[i]?=aa y)(l:∀ cs fl,y=bV.box cs fl→cs.length<4):J'[i]?=aa y:=by
 rcases h i _ hy with k | ⟨b,g,d,j,e,k⟩
 ·exact k
 ·have:=l _ _ e;omega
theorem TC.m4{J:an}{c:C}{ps:List aI}(h:TC J c ps)(n:Nat):M4 J (fo (n+1) c J):=fun i y hy=>h.mk n i y hy
theorem Aa(n:Nat):∀(cs:List C) (ts:List (List aI)) (J:an),cs.length=ts.length→(∀(k:Nat) (h:k<ts.length) (b:k<cs.length),TC J cs[k] ts[k])→M4 J (cs.foldl (fun H x=>fo (n+1) x H) J)
 | [],_,J,_,_=>M4.refl J| c::cs,[],_,h,_=>by simp at h
 | c::cs,t::ts,J,l,h=>by
  have g:TC J c t:=h 0 (by simp) (by simp);have d:=g.m4 n;refine M4.trans d (Aa n cs ts _ (by simpa using l) fun k j b=>?_);exact(h (k+1) (by simpa using j) (by simpa using b)).ba d.b4
theorem z_(n:Nat){J:an}:∀(cs:List C) (ts:List (List aI)),cs.length=ts.length→(∀(k:Nat) (h:k<ts.length) (b:k<cs.length),TC J cs[k] ts[k])→aZ (eL (n+1) J) cs=aa (cA ts).flatten
 | [],[],_,_=>rfl| [],_::_,h,_=>by simp at h
 | c::cs,[],h,_=>by simp at h
 | c::cs,t::ts,j,h=>by
  have d:TC J c t:=h 0 (by simp) (by simp);have l:=z_ n (J:=J) cs ts (by simpa using j) fun k g b=>h (k+1) (by simpa using g) (by simpa using b);simp only [aZ,d.ex n,l];rfl
def LO(J:an)(cl:C)(ts:List (List aI)):Prop:=(ts=[]∧cl=.f .aC)∨(ts≠[]∧∃ b d cs fl,cl=.sl b 0 ts.length 0 d 1∧J[b]?=aa (.cS 1 cs fl d .loc)∧cs.length=ts.length∧fl≤cs.length∧∀(k:Nat) (h:k<ts.length) (g:k<cs.length),TC J cs[k] ts[k])
section
variable{J:an}{cl:C}{ts:List (List aI)}
theorem LO.ba{J':an}(h:LO J cl ts)(m:B4 J J')(ho:∀(i:Nat) y,aV cl=aa i→J[i]?=aa y→J'[i]?=aa y):LO J' cl ts:=by
 rcases h with h | ⟨d,b,g,cs,fl,rfl,hb,hl,l,j⟩
 ·exact .inl h
 ·exact .inr ⟨d,b,g,cs,fl,rfl,ho b _ rfl hb,hl,l,fun k h h2=>(j k h h2).ba m⟩
theorem LO.push(h:LO J cl ts)(K:an):LO (J++K) cl ts:=h.ba (fun i cs fl _ hi=>⟨fl,by rw [AT (aj hi)];exact hi⟩) fun i y _ hy=>by rw [AT (aj hy)];exact hy
theorem LO.ex(h:LO J cl ts)(n:Nat):∃ g,eL (n+2) J cl=aa (sl g (cA ts)):=by
 rcases h with⟨rfl,rfl⟩ | ⟨d,b,m,cs,fl,rfl,hb,hl,q,j⟩
 ·exact⟨.nil,rfl⟩
 ·refine⟨.fs,?_⟩;simp only [jz,hb];rw [bf ⟨trivial,trivial,by omega⟩,aod,anA (by omega),z_ n cs ts hl j];cases ts with
  | nil=>exact absurd rfl d| cons a l=>simp [sl,cA]
theorem LO.mk(h:LO J cl ts)(n:Nat):LO (fo (n+2) cl J) cl ts∧∀(i:Nat) (y:bV),J[i]?=aa y→aV cl≠aa i→(fo (n+2) cl J)[i]?=aa y∨∃(cs:List C) (fl g:Nat),4≤cs.length∧y=bV.box cs fl∧(fo (n+2) cl J)[i]?=aa (bV.box cs g):=by
 rcases h with⟨rfl,rfl⟩ | ⟨v,b,s,cs,fl,rfl,hb,hl,A,z⟩
 ·exact⟨.inl ⟨rfl,rfl⟩,fun i y hy _=>.inl hy⟩
 ·obtain⟨q,d⟩:=aM (J.set b (.cS 1 cs (Nat.max fl (0+ts.length*1)) s .loc));have u:B4 J q:=fun i cs' g _ hi=>⟨g,by rw [d,sh (by rintro rfl;rw [hb]at hi;cases hi)];exact hi⟩
  have j:∀(k:Nat) (h:k<ts.length) (h2:k<cs.length),TC q cs[k] ts[k]:=fun k h h2=>(z k h h2).ba u;have e:fo (n+2) (.sl b 0 ts.length 0 s 1) J=cs.foldl (fun H x=>fo (n+1) x H) q:=by
   simp only [pW,hb];rw [aod,anA (by omega),d]
  have m:=Aa n cs ts q hl j;rw [e];refine⟨.inr ⟨v,b,s,cs,Nat.max fl (0+ts.length*1),rfl,m.get (by rw [d];exact BY (aj hb)) (fun _ _ e=>by cases e),hl,by have:Nat.max fl (0+ts.length*1)=max fl (0+ts.length*1):=rfl;omega,fun k h h2=>(j k h h2).ba m.b4⟩,fun i y hy hi=>?_⟩;have l:b≠i:=by rintro rfl;exact hi rfl
  exact m i y (by rw [d,sh l];exact hy)
theorem LO.bA(h:LO J cl ts){i:Nat}{cs:List C}{fl:Nat}(hi:J[i]?=aa (.box cs fl)):aV cl≠aa i:=by
 rcases h with⟨-,rfl⟩ | ⟨-,b,d,cs',f,rfl,hb,-⟩
 ·simp [aV]
 ·intro e;cases e;rw [hi]at hb;cases hb
theorem LO.app(h:LO J cl ts)(K:ts.length≤1000){c:C}{t:List aI}(F:TC J c t) :
  ∃ x v,bF (J++[.box [c] 0]) 1 24 (.c cl) (.c (.sl J.length 0 1 1 0 1))=aa (.c x,v)∧LO v x (ts++[t])∧J.length<v.length∧(∀(i:Nat) y,J[i]?=aa y→aV cl≠aa i→v[i]?=aa y)∧(aV x=aV cl∨aV x=aa (J.length+1)):=by
 obtain⟨g,d⟩:=aM (J++[.box [c] 0]:an);have E:g.length=J.length+1:=by rw [d];simp
 have A:g[J.length]?=aa (.box [c] 0):=by rw [d];simp
 have j:de g 1 (.c (.sl J.length 0 1 1 0 1))=aa (1,[c]):=by simp [de,bu,cV,A]
 have s:TC g c t:=F.ba fun i cs fl _ hi=>⟨fl,by rw [d,AT (aj hi)];exact hi⟩
 rw [←d];rcases h with⟨rfl,rfl⟩ | ⟨I,b,q,cs,fl,rfl,hb,hl,H,z⟩
 ·refine⟨.sl g.length 0 1 0 0 1,g++[.cS 1 [c] 0 0 .loc],?_,.inr ⟨by simp,g.length,0,[c],0,rfl,by simp,rfl,by omega,fun k h h2=>?_⟩,by rw [ank];omega,fun i y hy _=>?_,.inr (by rw [E];rfl)⟩
  ·simp only [bF,j];rw [aT (by omega),aT (by omega),bf (dH (by decide) (by decide))]
  ·have:k=0:=by simpa using h
   subst this;exact s.ba fun i cs fl _ hi=>⟨fl,by rw [AT (aj hi)];exact hi⟩
  ·have:=aj hy;rw [AT (by omega),d,AT this];exact hy
 ·have m:g[b]?=aa (.cS 1 cs fl q .loc):=by rw [d,AT (aj hb)];exact hb
  have u:B4 g (g.set b (.cS 1 (cs++[c]) fl (q+1) .loc)):=fun i cs' l _ hi=>⟨l,by rw [sh (by rintro rfl;rw [m]at hi;cases hi)];exact hi⟩
  have B:B4 J g:=fun i cs' l _ hi=>⟨l,by rw [d,AT (aj hi)];exact hi⟩
  refine⟨.sl b 0 (ts.length+1) 0 (q+1) 1,g.set b (.cS 1 (cs++[c]) fl (q+1) .loc),?_,.inr ⟨by simp,b,q+1,cs++[c],fl,by simp,BY (aj m),by simp [hl],by simp;omega,fun k h h2=>?_⟩,by rw [anD];omega,fun i y hy hi=>?_,.inl rfl⟩
  ·simp only [bF,j,m,and_self,if_true];rw [aT (by omega),aT (by omega),bf ⟨trivial,by omega,H⟩,bf (dH (by omega) (by decide))]
  ·rw [List.getElem_append,List.getElem_append];by_cases e:k<ts.length
   ·rw [dif_pos (by omega),dif_pos e];exact((z k e (by omega)).ba B).ba u
   ·rw [dif_neg (by omega),dif_neg e];simp only [List.getElem_singleton];exact s.ba u
  ·rw [sh (by rintro rfl;exact hi rfl),d,AT (aj hy)];exact hy
end
theorem jo(a b:List (List aI))(d:Int):gQ (a++b) d↔gQ a d∨gQ b d:=by
 unfold gQ;constructor
 ·rintro⟨t,g,h⟩;rcases anm.1 g with k | k
  ·exact .inl ⟨t,k,h⟩
  ·exact .inr ⟨t,k,h⟩
 ·rintro(⟨t,k,h⟩ | ⟨t,k,h⟩)
  ·exact⟨t,anO _ k,h⟩
  ·exact⟨t,aoo _ k,h⟩
theorem md(t:List aI)(d:Int):gQ [t] d↔fC t d:=⟨fun⟨x,b,h⟩=>by rw [OF]at b;rwa [b]at h,fun h=>⟨t,by simp,h⟩⟩
theorem Xa{m:Nat}{ts:List (List aI)}(h:∀ t ∈ ts,Bm m t)(g:1≤m){i j:Nat}{q:aI}(l:nT q):∀ t ∈ (ts.set i [q]).eraseIdx j,Bm m t:=fun t s=>by
 rcases List.mem_or_eq_of_mem_set (List.mem_of_mem_eraseIdx s)with d | rfl
 ·exact h t d
 ·exact⟨by simp,by simpa using g,fun p b=>by rw [OF]at b;rw [b];exact l⟩
def jE(ts:List (List aI))(g:Tg):V:=.t [.a [.f (sl g (cA ts))],vi 0]
theorem KH{J:an}{g:C}{us:List (List aI)}(N:LO J g us){b:Nat}{u:C}(U:J[b]?=aa (.box [u] 0)){t:List aI}(X:TC J u t){F:Nat} :
  LO (fo 64 (.cl F [.ptr b 0 0]) (fo 64 g J)) g us∧B4 J (fo 64 (.cl F [.ptr b 0 0]) (fo 64 g J))∧(∀(i:Nat) y,J[i]?=aa y→aV g≠aa i→i≠b→(∀ cs fl,y=bV.box cs fl→cs.length<4)→(fo 64 (.cl F [.ptr b 0 0]) (fo 64 g J))[i]?=aa y)∧(fo 64 (.cl F [.ptr b 0 0]) (fo 64 g J))[b]?=aa (.box [u] 1):=by
 obtain⟨M,K⟩:=N.mk 62;obtain⟨z,H⟩:=aM (fo (62+2) g J);rw [←H]at M K;have E:B4 J z:=fun i cs fl q d=>by
  rcases K i _ d (N.bA d)with k | ⟨v,B,A,_,e,k⟩
  ·exact⟨fl,k⟩
  ·cases e;exact⟨A,k⟩
 have l:z[b]?=aa (.box [u] 0):=by
  rcases K b _ U (N.bA U)with k | ⟨v,B,A,q,e,k⟩
  ·exact k
  ·cases e;simp at q
 obtain⟨I,j⟩:=aM (z.set b (.box [u] 1));have x:B4 z I:=fun i cs fl q d=>⟨fl,by rw [j,sh (by rintro rfl;rw [l]at d;cases d;simp at q)];exact d⟩
 have O:TC I u t:=(X.ba E).ba x;have e:fo 64 (.cl F [.ptr b 0 0]) (fo 64 g J)=fo (61+1) u I:=by
  show fo (63+1) (.cl F [.ptr b 0 0]) (fo (62+2) g J)=_;rw [←H,Dx];show fo (62+1) (.ptr b 0 0) z=_;rw [yp,l,j];rfl
 have m:=O.m4 61;rw [e];have s:LO I g us:=M.ba x fun i y hi d=>by rw [j,sh (by rintro rfl;exact M.bA l hi)];exact d
 refine⟨s.ba m.b4 fun i y hi d=>?_,fun i cs fl q d=>?_,fun i y d hi Q W=>?_,m.get (by rw [j];exact BY (aj l)) (fun cs fl e=>by cases e;simp)⟩
 ·rcases m i y d with k | ⟨v,B,A,_,L,k⟩
  ·exact k
  ·subst L;exact absurd hi (s.bA d)
 ·obtain⟨B,S⟩:=E i cs fl q d;obtain⟨A,Y⟩:=x i cs B q S;exact m.b4 i cs A q Y
 ·have S:z[i]?=aa y:=by
   rcases K i _ d hi with k | ⟨v,B,A,q,L,k⟩
   ·exact k
   ·have:=W _ _ L;omega
  exact m.get (by rw [j,sh (Ne.symm Q)];exact S) W
theorem wM(f:Nat)(e_:List FC)(L:List (List aI))(hI:CY f e_ L){m:Nat}(y7:1≤m)(hm:m≤4)(hL:∀ s ∈ L,Bm m s)(hLl:L.length≤64) :
  ∃ ts g,NT m L ts∧bW tab 73 [.c (.f (.fn f e_))]=Eq (jE ts g):=by
 obtain⟨r,⟨ts,g,hts,rfl⟩,h⟩:∃ r,(∃ ts g,NT m L ts∧r=jE ts g)∧bW tab 73 [.c (.f (.fn f e_))] r:=by
  refine qn ajK rfl fun Q hQ=>?_;apply ai;simp;apply ai;simp;apply au;apply ai;simp;refine ay ?_;have v6:∀(t:T) (J:an) (cl:C) (ts:List (List aI)),t.g 2=.c (.ptr 0 0 0)→t.g 4=.c (.ptr 1 0 0)→SJ J cl ts→NT m L ts→WP tab 73 ab [.code oV] ⟨t,[.dN 2],J⟩ Q:=by
   intro t J cl ts H S I hN;have y9:=hN.len;obtain⟨M,hM⟩:=aM (ts.length);apply ai;simp;obtain⟨l,i8⟩:=aM (J.length);obtain⟨J1,a8⟩:=aM (J++[bV.box [.f .aC] 0]);have d_:SJ J1 cl ts:=by rw [a8];exact I.push _
   have c1:J1[l]?=aa (.box [.f .aC] 0):=by rw [a8,i8];simp
   have l1:aU J1 ab (.c (.ptr 1 0 0))=aa (.c cl):=by simp [aU,aH,d_.h1]
   have ll:=d_.lj.len;have lJ1:J1.length=l+1:=by rw [a8];simp [i8]
   have n6:∀ i,aV cl=aa i→i<l+1:=fun i hi=>by
    rcases d_.lj with⟨-,rfl⟩ | ⟨b,ep,cs,rest,rfl,hb,-,-⟩
    ·cases hi
    ·cases hi;have:=aj hb;omega
   have hb2:2<l:=by have:=aj I.df;omega
   rw [←hM]at ll;rw [←a8,←i8];apply au;apply ai;simp [S,l1,ll,-az];refine b7 M (fun k t J=>t.g 2=.c (.ptr 0 0 0)∧t.g 11=.c (.ptr l 0 0)∧t.g 98=.c cl∧∃ z us,SJ J cl ts∧J[l]?=aa (.box [z] 0)∧LO J z us∧(∀ i,aV z=aa i→l+1≤i)∧us.length≤k∧(∀ t ∈ us,Bm m t)∧∀ d,0≤d→(gQ us d↔gQ (ts.take k) d)) (by omega) (by decide) (by decide) (by simp) (by simp)
    ⟨by simp [H],by simp,by simp,.f .aC,[],d_,c1,.inl ⟨rfl,rfl⟩,(fun i h=>by cases h),by simp,by simp,fun d _=>by simp [gQ]⟩ ?_ ?_
   ·rintro k t J' hk ⟨H,d9,l_,z,us,I,K,g_,A,t_,c_,i3⟩ ha hb next
    have o9:k<ts.length:=by omega
    obtain⟨bk,ek,ck,-,xk,lk,r7⟩:=I.lj.at o9;have j7:ts.take (k+1)=ts.take k++[ts[k]]:=by rw [anu,By o9];rfl
    have n9:=hN.ok _ (IS o9);obtain⟨E,htt⟩:=aM (ts[k]);rw [←htt]at r7 j7 n9;refine ay ?_;apply ai;simp [ha,l_,xk,lk,-az];obtain⟨X,m_⟩:=aM (J'.length);obtain⟨W,v⟩:=aM (J'++[bV.box [ck] 0]);have N:SJ W cl ts:=by rw [v];exact I.push _
    have b_:LO W z us:=by rw [v];exact g_.push _
    have o0:W[l]?=aa (.box [z] 0):=by rw [v,AT (aj K)];exact K
    have o4:W[X]?=aa (.box [ck] 0):=by rw [v,m_];simp
    have i7:TC W ck E:=r7.ba fun i cs fl _ hi=>⟨fl,by rw [v,AT (aj hi)];exact hi⟩
    have t7:l≠X:=by have:=aj K;omega
    rw [←v,←m_];obtain⟨go,o8⟩:=b_.ex 62;have x9:eL 63 W (.ptr X 0 0)=aa (.fp [sl .fs (aJ E)] 0):=by
     have:=i7.ex 61;simp only [VJ,o4,aZ,this];rfl
    have lus:us.length≤64:=by omega
    have f8:=Vx go .fs us (by omega) (fun s hs=>⟨by have:=(c_ s hs).2.1;omega,fun p hp=>by have:=((c_ s hs).2.2 p hp).head;have:=((c_ s hs).2.2 p hp).bg;omega⟩) E;obtain⟨dv,i9⟩:=aM (us.any fun s=>gj s E:Bool);rw [←i9]at f8;have f8:bW tab 74 [.c (.f (sl go (cA us))),.c (.f (.fn 115 [.fp [sl .fs (aJ E)] 0]))]=Eq (vb dv):=f8;obtain⟨n1,n2,n3,n4⟩:=KH (F:=115) b_ o4 i7;obtain⟨J3,a_⟩:=aM (fo 64 (.cl 115 [.ptr X 0 0]) (fo 64 z W));rw [←a_]at n1 n2 n3 n4;have m0:0≠X:=by have:=aj I.h0;omega
    have m1:1≠X:=by have:=aj I.h1;omega
    have m2:2≠X:=by have:=aj I.df;omega
    have p_:aV z≠aa 2:=fun e=>by have:=A 2 e;omega
    have c9:SJ J3 cl ts:=⟨n3 0 _ N.h0 (b_.bA N.h0) m0 (fun cs fl e=>by cases e;simp),n3 1 _ N.h1 (b_.bA N.h1) m1 (fun cs fl e=>by cases e;simp),n3 2 _ N.df p_ m2 (fun cs fl e=>by cases e),N.lj.ba n2 fun i y hi u=>n3 i y u (fun e=>by have:=A i e;have:=n6 i hi;omega) (by rintro rfl;exact N.lj.bA o4 hi) fun cs fl e=>by subst e;exact absurd hi (N.lj.bA u)⟩
    have O:J3[l]?=aa (.box [z] 0):=n3 l _ o0 (b_.bA o0) t7 (fun cs fl e=>by cases e;simp);have p9:aU W ab (.c (.ptr l 0 0))=aa (.c z):=by simp [aU,aH,o0]
    apply ai;simp [d9,p9,-az,o8,deep,aZ,x9,f8,-VJ,←a_];cases dv with
    | true=>
     refine aX (by simp) ?_;refine ax (next _ _ ⟨by simp [H],by simp [d9],by simp [l_],z,us,c9,O,n1,A,by omega,c_,fun d hd=>?_⟩ (by simp [ha]) (by simp [hb]));rw [j7,jo,md,i3 d hd];refine⟨.inl,fun h=>h.elim id fun h=>(i3 d hd).1 ?_⟩;obtain⟨s,hs,x6⟩:=List.any_eq_true.1 i9.symm;exact⟨s,hs,(tB x6 d).2 h⟩
    | false=>
     refine av (by simp) ?_;have j9:aU J3 ab (.c (.ptr l 0 0))=aa (.c z):=by simp [aU,aH,O]
     have u5:aU J3 ab (.c (.ptr X 0 0))=aa (.c ck):=by simp [aU,aH,n4]
     have r8:=i7.ba n2;obtain⟨c3,H3,r9,f7,y6,h_,w_⟩:=n1.app (by omega) r8;have am0:l<J3.length:=aj O;have j_:=h_ l _ O (n1.bA O);have s11:cZ H3 (.ptr l 0 0) [c3]=aa (H3.set l (.box [c3] 0)):=by simp [cZ,j_,over]
     refine aq (.inl rfl) ?_;simp [d9,j9,u5,-az,r9,s11,-a6];have v9:B4 J3 (H3.set l (.box [c3] 0)):=fun i cs fl hc u=>⟨fl,by rw [sh (by rintro rfl;rw [O]at u;cases u;simp at hc)];exact h_ i _ u (n1.bA u)⟩
     refine ax (next _ _ ⟨by simp [H],by simp [d9],by simp [l_],c3,us++[E],⟨?_,?_,?_,?_⟩,BY (aj j_),?_,fun i hi=>?_,by rw [ank,List.length_singleton];omega,fun x hx=>?_,fun d hd=>?_⟩ (by simp [ha]) (by simp [hb]))
     ·rw [sh (by omega)];exact h_ 0 _ c9.h0 (n1.bA c9.h0)
     ·rw [sh (by omega)];exact h_ 1 _ c9.h1 (n1.bA c9.h1)
     ·rw [sh (by omega)];exact h_ 2 _ c9.df p_
     ·refine c9.lj.ba v9 fun i y hi u=>?_;have:=n6 i hi;have y8:l≠i:=by rintro rfl;exact c9.lj.bA O hi
      rw [sh y8];exact h_ i y u fun e=>by have:=A i e;omega
     ·refine f7.ba (fun i cs fl hc u=>⟨fl,by rw [sh (by rintro rfl;rw [j_]at u;cases u;simp at hc)];exact u⟩) fun i y hi u=>?_;rw [sh (by rintro rfl;exact f7.bA j_ hi)];exact u
     ·rcases w_ with e | e
      ·rw [e]at hi;exact A i hi
      ·rw [e]at hi;cases hi;omega
     ·rcases anm.1 hx with h | h
      ·exact c_ x h
      ·rw [OF]at h;rw [h];exact n9
     ·rw [j7,jo,jo,i3 d hd]
   ·rintro t J' ⟨H,d9,l_,z,us,I,K,g_,A,t_,c_,i3⟩ - -;rw [hM,ant]at i3;have lus:us.length≤64:=by omega
    obtain⟨go,o8⟩:=g_.ex 62;have j4:iD (us.map fun s=>⟨.fs,s⟩)=ae:=by
     simp only [iD,If,decide_eq_true_eq,anx,anq];refine⟨by omega,fun x hx=>?_⟩;obtain⟨s,hs,rfl⟩:=anv.1 hx;obtain⟨h1,h2,h3⟩:=c_ s hs;have:=anU.2 h1;simp only [iS,If,decide_eq_true_eq,anx];exact⟨⟨by omega,by omega⟩,fun p hp=>(h3 p hp).ok⟩
    have j8:=(mZ go (us.map fun s=>⟨.fs,s⟩) (by simp;omega) (na j4)).eq;rw [j4]at j8;have etr:aA (us.map fun s=>⟨.fs,s⟩)=cA us:=by simp [aA,cA,cu.row]
    rw [etr]at j8;obtain⟨n1,n2⟩:=g_.mk 62;have p9:aU J' (aa 1) (.c (.ptr l 0 0))=aa (.a [z]):=by simp [aU,aH,K,aW]
    apply au;apply ai;simp [d9,p9,-az,o8,deep,aZ,j8];refine aX (by simp) ?_;obtain⟨W,v⟩:=aM (fo 64 z J');have n1:LO W z us:=by rw [v];exact n1
    have n2:∀(i:Nat) (y:bV),J'[i]?=aa y→aV z≠aa i→(∀ cs fl,y=bV.box cs fl→cs.length<4)→W[i]?=aa y:=fun i y u hi hn=>by
     rw [v];rcases n2 i y u hi with k | ⟨cs,f1,f2,hc,e,k⟩
     ·exact k
     ·have:=hn _ _ e;omega
    rw [←v];have e0:=n2 0 _ I.h0 (g_.bA I.h0) (fun cs fl e=>by cases e;simp);have e2:=n2 2 _ I.df (fun e=>by have:=A 2 e;omega) (fun cs fl e=>by cases e);have O:=n2 l _ K (g_.bA K) (fun cs fl e=>by cases e;simp);have j9:aU W (aa 1) (.c (.ptr l 0 0))=aa (.a [z]):=by simp [aU,aH,O,aW]
    have s0:cZ W (.ptr 0 0 0) [z]=aa (W.set 0 (.box [z] 0)):=by simp [cZ,e0,over]
    obtain⟨J3,a_⟩:=aM (W.set 0 (.box [z] 0));have f0:J3[0]?=aa (.box [z] 0):=by rw [a_];exact BY (aj e0)
    have f2:J3[2]?=aa (.eo ae):=by rw [a_,sh (by omega)];exact e2
    have f7:LO J3 z us:=n1.ba (fun i cs fl hc u=>⟨fl,by rw [a_,sh (by rintro rfl;rw [e0]at u;cases u;simp at hc)];exact u⟩) fun i y hi u=>by rw [a_,sh (by rintro rfl;exact n1.bA e0 hi)];exact u
    have q_:LO (J3.set 2 (.eo ag)) z us:=f7.ba (fun i cs fl hc u=>⟨fl,by rw [sh (by rintro rfl;rw [f2]at u;cases u)];exact u⟩) fun i y hi u=>by rw [sh (by rintro rfl;have:=A 2 hi;omega)];exact u
    obtain⟨gz,x_⟩:=q_.ex 62;apply ai;simp [H,d9,j9,-az,s0,-a6];rw [←a_];refine aE (hQ _ _ _ ⟨us,gz,⟨by omega,c_,fun d hd=>by rw [i3 d hd];exact hN.mem d hd⟩,rfl⟩ (.inr ⟨2,rfl,f2,.t [.a [z],vi 0],?_,?_⟩))
    ·have u_:(J3.set 2 (.eo ag))[0]?=aa (.box [z] 0):=by rw [sh (by omega)];exact f0
     simp [Km.results,cr,aZ,H,u_,aW]
    ·simp [kM,dE,aZ,deep,x_,jE]
  have p8:∀(t:T) (J:an) (cl:C) (ts:List (List aI)),t.g 2=.c (.ptr 0 0 0)→t.g 4=.c (.ptr 1 0 0)→SJ J cl ts→NT m L ts→WP tab 73 ab [.code sQ] ⟨t,[.dN 2],J⟩ Q:=by
   intro t J cl ts H S I hN;apply au;apply ai;simp;refine ay ?_;refine bI (fun n s=>∃(t:T) (J:an) (cl:C) (ts:List (List aI)) (jn:Bool),s=⟨t,[.dN 2],J⟩∧n=(if jn then ts.length+1 else 0)∧t.g 2=.c (.ptr 0 0 0)∧t.g 4=.c (.ptr 1 0 0)∧t.g 6=vb jn∧SJ J cl ts∧NT m L ts) (ts.length+1)
    ⟨_,J,cl,ts,ae,rfl,rfl,by simp [H],by simp [S],by simp,I,hN⟩ ?_
   clear I hN H S;rintro n s ⟨t,J,cl,ts,jn,rfl,rfl,H,S,g6,I,hN⟩ ih;apply au;apply ai;simp [g6];cases jn with
   | false=>
    refine aF (by simp) ?_;exact bh rfl (v6 _ J cl ts (by simp [H]) (by simp [S]) I hN)
   | true=>
    refine av (by simp) (aR ?_);refine ay (jZ ?_);apply ai;simp;refine au (pO ?_);have y9:=hN.len;obtain⟨M,hM⟩:=aM (ts.length);have l1:aU J ab (.c (.ptr 1 0 0))=aa (.c cl):=by simp [aU,aH,I.h1]
    have ll:=I.lj.len;rw [←hM]at ll;apply ai;simp [S,l1,ll,-az];refine b7 M (fun i t J'=>J'=J∧t.g 2=.c (.ptr 0 0 0)∧t.g 4=.c (.ptr 1 0 0)∧t.g 6=vb ag) (by omega) (by decide) (by decide) (by simp) (by simp) ⟨rfl,by simp [H],by simp [S],by simp⟩ ?_ ?_
    ·rintro i t J' hi ⟨rfl,H,S,g6⟩ ha hb next
     refine ay ?_;apply ai;simp [ha];apply ai;simp [aP (n:=(i:Int)+1)];refine ay ?_;refine bI (fun n s=>∃(j:Nat) (t':T),s=⟨t',[.dN 2],J'⟩∧n=M-j∧i<j∧j≤M∧t'.g 2=.c (.ptr 0 0 0)∧t'.g 4=.c (.ptr 1 0 0)∧t'.g 6=vb ag∧t'.g 7=vi i∧t'.g 8=vi j∧t'.g 27=t.g 27∧t'.g 28=t.g 28) (M-(i+1))
      ⟨i+1,_,rfl,rfl,by omega,by omega,by simp [H],by simp [S],by simp [g6],by simp,by simp,by simp,by simp⟩ ?_
     rintro n s ⟨j,t',rfl,rfl,s7,hjM,i4,B,k_,f_,a7,Y,Z⟩ ih2;have s_:i<ts.length:=by omega
     obtain⟨bi,ei,ci,-,xi,li,o5⟩:=I.lj.at s_;have u6:=o5.len;apply au;apply ai;have i_:∀ E:T,E.g 2=.c (.ptr 0 0 0)→E.g 4=.c (.ptr 1 0 0)→E.g 6=vb ag→E.g 27=t.g 27→E.g 28=t.g 28→WP tab 73 ab [.inBlock 5,.code (rV 28 97),.inLoop (iR 4 28 27 29 97 sT),.inBlock 4,.inScope sS,.inBlock 3,.inLoop sR,.inBlock 2,.code oV] ⟨E,[.dN 2],J'⟩ Q:=by
      intro E H S g6 Y Z;exact ax (next _ _ ⟨rfl,by simp [H],by simp [S],by simp [g6]⟩ (by rw [Z,ha]) (by rw [Y,hb]))
     have skip:∀ E:T,E.g 2=.c (.ptr 0 0 0)→E.g 4=.c (.ptr 1 0 0)→E.g 6=vb ag→E.g 7=vi i→E.g 8=vi j→E.g 27=t.g 27→E.g 28=t.g 28→j<M→WP tab 73 ab [.code zH,.inLoop zG,.inBlock 6,.inBlock 5,.code (rV 28 97),.inLoop (iR 4 28 27 29 97 sT),.inBlock 4,.inScope sS,.inBlock 3,.inLoop sR,.inBlock 2,.code oV] ⟨E,[.dN 2],J'⟩ Q:=by
      intro E H S g6 g7 g8 Y Z hlt;refine aq (.inl rfl) ?_;simp [g8,aP (n:=(j:Int)+1)];exact ih2 (M-(j+1)) _ (by omega) ⟨j+1,_,rfl,rfl,by omega,by omega,by simp [H],by simp [S],by simp [g6],by simp [g7],by simp,by simp [Y],by simp [Z]⟩
     by_cases hj:j<M
     ·have anb:(decide ((ts[i].length:Int)=1))=decide (ts[i].length=1):=by
       apply decide_eq_decide.2;omega
      simp [B,f_,a7,l1,ll,hj,xi,li,u6,-az];by_cases h1:ts[i].length=1
      ·obtain⟨p,hp⟩:∃ p,ts[i]=[p]:=List.length_eq_one_iff.1 h1;rw [hp]at o5;obtain⟨qi,yi,zi⟩:=o5.one;have m9:j<ts.length:=by omega
       obtain⟨bj,ej,cj,-,xj,lj,o6⟩:=I.lj.at m9;have n_:=o6.len;refine av (by simp [h1]) (aR ?_);apply au;refine ay ?_;apply au;apply ai;by_cases h2:ts[j].length=1
       ·obtain⟨p',o_⟩:∃ p',ts[j]=[p']:=List.length_eq_one_iff.1 h2;rw [o_]at o6;obtain⟨qj,yj,zj⟩:=o6.one;have si:nT p:=(hN.ok _ (IS s_)).2.2 p (by rw [hp];simp);have sj:nT p':=(hN.ok _ (IS m9)).2.2 p' (by rw [o_];simp);have pi1:=(aY si.ok).2.2.1;have pj1:=(aY sj.ok).2.2.1;have pi2:=si.aL;have pj2:=sj.aL;have n8:=tu p p' pi1 (by omega) pj1 (by omega);obtain⟨dv,i9⟩:=aM ((decide (p.aL % p'.aL=0)||decide (p'.aL % p.aL=0)):Bool);rw [←i9]at n8;simp [B,f_,a7,l1,xi,li,xj,lj,n_,h2,yi,zi,yj,zj,-az,pB,pV,←eG,n8];cases dv with
        | false=>
         refine av (by simp) ?_;refine bh rfl ?_;exact skip _ (by simp [i4]) (by simp [B]) (by simp [k_]) (by simp [f_]) (by simp [a7]) (by simp [Y]) (by simp [Z]) hj
        | true=>
         have hd:p.aL % p'.aL=0∨p'.aL % p.aL=0:=by simpa using i9.symm
         have hR:∃ R:Int,0<R∧R≤12∧p.aL ∣ R∧p'.aL ∣ R:=by
          rcases hd with h | h
          ·exact⟨p.aL,by omega,pi2,aoN _,aoI h⟩
          ·exact⟨p'.aL,by omega,pj2,aoI h,aoN _⟩
         obtain⟨R,R0,R1,Ra,Rb⟩:=hR;obtain⟨q,c1,c2,c3,c4,t8⟩:=ajE p p' si sj R0 R1 Ra Rb;have sq:nT q:=⟨c1,by have:=si.fr;have:=sj.fr;omega,aoA (aom R0 c3) R1⟩
         simp only [←eG]at t8;have t9:(cY q).length=4:=rfl;obtain⟨J1,a8⟩:=aM (J'++[bV.box (cY q) 0]);have b1:J1[J'.length]?=aa (.box (cY q) 0):=by rw [a8];simp
         have l9:aU J1 (aa 4) (.c (.ptr J'.length 0 0))=aa (.a (cY q)):=by simp [aU,aH,b1,aW,cY]
         refine aX (by simp) ?_;apply ai;simp [B,f_,a7,l1,xi,li,xj,lj,yi,zi,yj,zj,-az,pB,pV,←eG,t8,t9];rw [←a8];apply ai;simp;refine av (by simp) ?_;have d_:SJ J1 cl ts:=by rw [a8];exact I.push _
         obtain⟨W,v⟩:=aM (J1++[bV.box (cY q) 0]);have N:SJ W cl ts:=by rw [v];exact d_.push _
         have b2:W[J1.length]?=aa (.box (cY q) 0):=by rw [v];simp
         obtain⟨bb,ee,J3,c2,J4,m1,m2,m3,m4,m5,m6,v_⟩:=N.join s7 m9 (by omega) b2;have l1a:aU J1 ab (.c (.ptr 1 0 0))=aa (.c cl):=by simp [aU,aH,d_.h1]
         apply ai;simp [B,f_,l1a,l9,t9,-az,←v,m2,m3,-a6];have u9:((j+1:Nat):Int)=(j:Int)+1:=by omega
         rw [u9]at m5;apply ai;simp [B,a7,m4,-az,aP (n:=(j:Int)+1),m5.eq,m6,-a6];apply ai;simp;have t4:((ts.set i [q]).eraseIdx j).length=ts.length-1:=by rw [apc,bf (by rw [anD];omega),anD]
         refine bh rfl (tJ (ax (ih (((ts.set i [q]).eraseIdx j).length+1) _ (by simp;omega) ⟨_,_,c2,(ts.set i [q]).eraseIdx j,ae,rfl,by simp,by simp [i4],by simp [B],by simp,v_,⟨by omega,Xa hN.ok y7 sq,fun d r_=>?_⟩⟩)));rw [VP s7 m9 hp o_ c4 d r_];exact hN.mem d r_
       ·simp [B,a7,l1,xj,lj,n_,show¬ (ts[j].length:Int)=1 by omega,-az];refine av (by simp) ?_;refine bh rfl ?_;exact skip _ (by simp [i4]) (by simp [B]) (by simp [k_]) (by simp [f_]) (by simp [a7]) (by simp [Y]) (by simp [Z]) hj
      ·refine aF (by simp;omega) ?_;refine bh rfl ?_;exact i_ _ (by simp [i4]) (by simp [B]) (by simp [k_]) (by simp [Y]) (by simp [Z])
     ·simp [B,a7,l1,ll,hj,-az];refine aF (by simp) ?_;refine bh rfl ?_;exact i_ _ (by simp [i4]) (by simp [B]) (by simp [k_]) (by simp [Y]) (by simp [Z])
    ·rintro t J' ⟨rfl,H,S,g6⟩ - -;refine tJ (ax (ih 0 _ (by simp) ⟨_,J',cl,ts,ag,rfl,rfl,by simp [H],by simp [S],by simp [g6],I,hN⟩))
  suffices go:∀ s:T,s.g 2=.c (.ptr 0 0 0)→s.g 4=.c (.ptr 1 0 0)→s.g 14=.c (.f (.fn f e_))→WP tab 73 ab [.code CN,.inBlock 0,.code sQ] ⟨s,[],[.box [.f .aC] 0,.box [.f .aC] 0]⟩ Q by exact go _ (by simp) (by simp) (by simp)
  intro s H S v8;obtain⟨HR,i6⟩:=aM ([.box [.f .aC] 0,.box [.f .aC] 0,.eo ae,.lp 73 s [P.nat 15] nB jO .ready ab 2]:an);obtain⟨H2,he,cl,ts,hq,U⟩:=hI 3 HR (fun j J=>∃ cl ts,Bh s cl ts .ready J∧NT m (L.take j) ts)
   ⟨.f .aC,[],⟨by rw [i6];rfl,by rw [i6];rfl,LR.nil _ _,(fun h=>by cases h),(fun i h=>by cases h),by rw [i6];rfl,by rw [i6];rfl⟩,⟨by simp,by simp,fun d _=>by simp [gQ]⟩⟩
   (fun j hj J0 J c ⟨cl,ts,hq,U⟩ hk t4 hT hc=>by
    have j7:L.take (j+1)=L.take j++[L[j]]:=by rw [anu,By hj];rfl
    have z6:Bh s cl ts .ready J:=hq.ba fun i y hi u=>by rw [hk i hi];exact u
    have l3:=aj hq.lp;have t5:=U.len;rw [anW]at t5;obtain⟨r,H',x8,rfl,u7,ts',hq2,o7⟩:=yq S (by omega) (show m≤64 by omega) (hL _ (IS hj)) z6 hT (fun i hi=>by have:=hc i hi;omega) (fun i hi y4=>by have:=hc i hi;have:=hq.lr.lt y4;omega);refine⟨H',x8,u7,ts',hq2,?_⟩;rw [j7];have hl2:(L.take j++[L[j]]).length=min j L.length+1:=by rw [ank,anW];rfl
    rcases o7 with⟨rfl,y_⟩ | ⟨t,rfl,ht,t6⟩
    ·refine⟨by omega,U.ok,fun d hd=>?_⟩;rw [jo,md,U.mem d hd];exact⟨.inl,fun h=>h.elim id fun h=>absurd h (y_ d hd)⟩
    ·refine⟨by rw [ank,List.length_singleton];omega,fun x hx=>?_,fun d hd=>?_⟩
     ·rcases anm.1 hx with h | h
      ·exact U.ok x h
      ·rw [OF]at h;rw [h];exact ht
     ·rw [jo,jo,md,md,U.mem d hd,t6 d hd])
  rw [ant]at U;rw [i6]at he;refine dZ (g:=f) (by rw [oA,v8];simp [bO]) he ?_;refine ff hq.lp (by decide) (ax ?_);have h3:=hq.three (st':=.exhausted);exact p8 s _ cl ts H S ⟨h3.h0,h3.h1,h3.df,VY (fun t ht=>(U.ok t ht).1) h3.lr h3.ne⟩ U
 exact⟨ts,g,hts,h.eq⟩
def rS(ts:List cu):Prop:=ts.length≤2∧∀ t ∈ ts,Bm 2 t.fs
theorem rS.mix{ts:List cu}(h:rS ts):iD ts=ae:=by
 simp only [iD,If,decide_eq_true_eq,anx];refine⟨by have:=h.1;omega,fun t d=>?_⟩;obtain⟨h1,h2,h3⟩:=h.2 t d;have:=anU.2 h1;simp only [iS,If,decide_eq_true_eq,anx];exact⟨⟨by omega,by omega⟩,fun p b=>(h3 p b).ok⟩
structure SQ(row:FC)(by':Int)(N:Nat)(cl:C)(us:List (List aI))(t:T)(J:an):Prop where
 b0:J[0]?=aa (.box [.f row] 0)
 b1:J[1]?=aa (.box [.f .aC] 0)
 g1:t.g 1=vi by'
 g2:t.g 2=.c (.ptr 0 0 0)
 g4:t.g 4=.c (.ptr 1 0 0)
 g6:t.g 6=.c cl
 lo:LO J cl us
theorem W_{J:an}{b:Nat}{ps:List aI}(h:BX J b ps.length ps)(g:ps≠[]):TC J (.sl b 0 ps.length ps.length 0 4) ps:=by
 obtain⟨rest,d,j⟩:=h;have:rest=[]:=List.length_eq_zero_iff.1 (by rw [ank,lE]at j;omega);subst this;rw [an5]at d;exact .inr ⟨g,b,0,rfl,d⟩
theorem wL(g:Tg)(ts:List cu)(S:rS ts)(b:Int)(p_:-1000≤b)(o0:b≤0) :
  ∃ us g',(us.length≤2∧∀ u ∈ us,Bm 2 u)∧(∀ d,0≤d→(gQ us d↔∃ t ∈ ts,fC t.fs (d-b)))∧bW tab 67 [.a [.f (sl g (aA ts))],vi b]=Eq (.t [.a [.f (sl g' (cA us))],vi 0]):=by
 obtain⟨r,⟨us,g',h1,h2,rfl⟩,h⟩:∃ r,(∃ us g',(us.length≤2∧∀ u ∈ us,Bm 2 u)∧(∀ d,0≤d→(gQ us d↔∃ t ∈ ts,fC t.fs (d-b)))∧r=.t [.a [.f (sl g' (cA us))],vi 0])∧bW tab 67 [.a [.f (sl g (aA ts))],vi b] r:=by
  have I:=(mZ g ts (by have:=S.1;omega) (na S.mix)).eq;rw [S.mix]at I;have r_:=S.1;refine eV rfl rfl fun Q hQ=>?_;apply ai;simp;apply au;apply ai;simp [I];refine aX (by simp) ?_;apply ai;simp;have l_:∀ H:an,bu H (.f (sl g (aA ts)))=aa ts.length:=fun H=>by simp
  apply au;apply ai;simp [l_];refine b7 ts.length (fun k t J=>t.g 19=.c (.f (sl g (aA ts)))∧∃ cl us,SQ (sl g (aA ts)) b 0 cl us t J∧us.length=k∧(∀ u ∈ us,Bm 2 u)∧∀ d,0≤d→(gQ us d↔∃ t ∈ ts.take k,fC t.fs (d-b))) (by omega) (by decide) (by decide) (by simp) (by simp)
   ⟨by simp,.f .aC,[],⟨rfl,rfl,by simp,by simp,by simp,by simp,.inl ⟨rfl,rfl⟩⟩,rfl,by simp,fun d _=>by simp [gQ]⟩ ?_ ?_
  ·rintro k t J hk ⟨a_,cl,us,z,j9,f8,c⟩ ha hb next
   have F:=fun H:an=>gG (H:=H) (ft ts) (gr (l:=ts) (j:=k) hk) rfl;have o:=fun H:an=>bG (H:=H) (g:=g) (rows:=aA ts) (sz:=1) (k:=.i64) (i:=k) (by omega) (by simpa using hk);simp at F o;have j8:ts.take (k+1)=ts.take k++[ts[k]]:=by rw [anu,By hk];rfl
   have B:=S.2 _ (IS hk);obtain⟨tm,o_⟩:=aM (ts[k]);rw [←o_]at F j8 B;obtain⟨ps,j4⟩:=aM (tm.fs);rw [←j4]at F B;obtain⟨n,hn⟩:=aM (ps.length);have r8:0<n:=by rw [hn];exact anU.2 B.1
   have r9:n≤2:=by have:=B.2.1;omega
   have a8:∀ H:an,bu H (.f (sl tm.tg (aJ ps)))=aa n:=fun H=>by rw [hn];simp
   have o9:∀(t:T) (H:an),t.g 26=vi n→bE t H (.dO 4 64 [.aC,fi 0,fi 0,.aC] (R 26) (R 26))=aa (.c (.sl H.length 0 n n 0 4),H++[.box ((cQ n [FC.aC,fi 0,fi 0,.aC]).map .f) 0]):=by
    intro t H ht;simp only [bE,oA,ht];have hi:gA (vi n)=aa (n:Int):=rfl;simp only [hi];rw [bf ⟨by omega,aoP _,dH (by simp;omega) (by decide),rfl⟩,aT (by omega)];simp
   refine ay ?_;apply ai;simp [ha,a_,o,F];apply ai;simp [a8,o9];obtain⟨b9,d9⟩:=aM (J.length);obtain⟨J1,Y⟩:=aM (J++[bV.box (List.replicate n [C.f FC.aC,C.f (fi 0),C.f (fi 0),C.f FC.aC]).flatten 0]);have n9:BX J1 b9 n ([]++List.replicate n zp):=by
    refine⟨[],?_,?_⟩
    ·rw [Y,d9,aof,an5];have:dt (List.replicate n zp)=List.replicate n [C.f FC.aC,C.f (fi 0),C.f (fi 0),C.f FC.aC]:=by
      rw [dt,List.map_replicate];rfl
     rw [this];simp
    ·rw [aof,an5,lE,apm]
   rw [←Y,←d9];have k1:∀(i:Nat) y,J[i]?=aa y→J1[i]?=aa y:=fun i y X=>by rw [Y,AT (aj X)];exact X
   have s7:J1.length=b9+1:=by rw [Y];simp [d9]
   apply au;apply ai;simp [a8];refine b7 n (fun j U J'=>U.g 1=vi b∧U.g 2=.c (.ptr 0 0 0)∧U.g 4=.c (.ptr 1 0 0)∧U.g 6=.c cl∧U.g 9=.c (.sl b9 0 n n 0 4)∧U.g 19=.c (.f (sl g (aA ts)))∧U.g 20=t.g 20∧U.g 21=t.g 21∧U.g 28=.c (.f (sl tm.tg (aJ ps)))∧(∀(i:Nat) y,J[i]?=aa y→J'[i]?=aa y)∧b9<J'.length∧∃ qs,qs.length=j∧BX J' b9 n (qs++List.replicate (n-j) zp)∧(∀ q ∈ qs,nT q)∧∀ d,0≤d→(fC qs d↔fC (ps.take j) (d-b))) (by omega) (by decide) (by decide) (by simp) (by simp)
    ⟨by simp [z.g1],by simp [z.g2],by simp [z.g4],by simp [z.g6],by simp,by simp [a_],by simp,by simp,by simp,k1,by omega,[],rfl,by simpa using n9,by simp,fun d _=>by simp [fC]⟩ ?_ ?_
   ·rintro j U J' hj ⟨g1,g2,g4,g6,g9,M,b_,c9,c_,v,i9,qs,K,hX,f7,a⟩ i7 n_ h_;have d_:j<ps.length:=by omega
    have j_:=fun H:an=>bG (H:=H) (g:=tm.tg) (rows:=aJ ps) (sz:=4) (k:=.i64) (i:=(j:Int)) (by omega) (by simp;omega);have g_:=fun H:an=>cH (H:=H) (bD ps) (cU d_);simp only [anJ]at j_;have E:=B.2.2 _ (IS d_);have a7:ps.take (j+1)=ps.take j++[ps[j]]:=by rw [anu,By d_];rfl
    obtain⟨u,hu⟩:=aM (ps[j]);rw [←hu]at g_ E a7;obtain⟨q,c1,c2,c3,-,-,c4,j7⟩:=KZ u E.ok (by have:=E.bg;omega) (by have:=E.head;omega) b (by omega) o0;have s_:=(aY E.ok).2.2.1;have sq:nT q:=⟨c1,by have:=E.fr;omega,aoA (aom (by omega) c3) E.aL⟩
    simp only [←eG]at g_ j7;have O:∀ p,(cY p).length=4:=fun _=>rfl;have tk:∀ p,List.take 4 (cY p)=cY p:=fun _=>rfl;obtain⟨W,A⟩:=aM (J'++[bV.box (cY u) 0]);have m9:W[J'.length]?=aa (.box (cY u) 0):=by rw [A];simp
    have p8:aU W (aa 4) (.c (.ptr J'.length 0 0))=aa (.a (cY u)):=by simp [aU,aH,m9,aW,O,tk]
    obtain⟨J3,Z⟩:=aM (W++[bV.box (cY q) 0]);have m_:J3[W.length]?=aa (.box (cY q) 0):=by rw [Z];simp
    have p9:aU J3 (aa 4) (.c (.ptr W.length 0 0))=aa (.a (cY q)):=by simp [aU,aH,m_,aW,O,tk]
    have i4:BX J3 b9 n (qs++List.replicate (n-j) zp):=by rw [Z,A];exact(hX.push _).push _
    have o7:(qs++List.replicate (n-j) zp).length=n:=by rw [ank,apm];omega
    obtain⟨k_,-⟩:=i4.at (i:=j) (by omega);obtain⟨J4,s4,i6,r7,o5⟩:=i4.st (i:=j) (by omega) q;rw [o7]at k_;refine ay ?_;apply ai;simp [i7,c_,j_,g_,-az,O];rw [←A];apply ai;simp [g1,p8,-az,pB,pV,←eG,j7,O];rw [←Z];apply au;apply ai;simp;refine aX (by simp) ?_;refine aq (.inl rfl) ?_;simp [g9,p9,k_,s4,O,-az,-a6];have o6:∀(i:Nat) y,J[i]?=aa y→J4[i]?=aa y:=fun i y X=>by
     have h1:=aj X;have h2:=aj (v i y X);rw [o5 i (by omega),Z,AT (by rw [A,ank];omega),A,AT h2];exact v i y X
    refine ax (h_ _ _ ?_ (by simp [i7]) (by simp [n_]));refine⟨by simp [g1],by simp [g2],by simp [g4],by simp [g6],by simp [g9],by simp [M],by simp [b_],by simp [c9],by simp [c_],o6,by have:=i6.lt;omega,qs++[q],by simp [K],?_,fun x L=>?_,fun d f=>?_⟩
    ·have e:(qs++List.replicate (n-j) zp).set j q=qs++[q]++List.replicate (n-(j+1)) zp:=by
      obtain⟨k,hk⟩:∃ k,n-j=k+1:=⟨n-j-1,by omega⟩
      rw [List.set_append_right _ _ (by omega),K,Nat.sub_self,hk,List.replicate_succ,List.set_cons_zero,show n-(j+1)=k by omega,anV];rfl
     rw [←e];exact i6
    ·rcases anm.1 L with h | h
     ·exact f7 x h
     ·rw [OF]at h;rw [h];exact sq
    ·rw [a7,fe,fe,a d f];simp only [fC,OF,forall_eq];rw [c4 d f]
   ·rintro U J' ⟨g1,g2,g4,g6,g9,M,b_,c9,c_,v,i9,qs,K,hX,f7,a⟩ - -;rw [Nat.sub_self,List.replicate_zero,an5]at hX;rw [hn,ant]at a;have w:qs≠[]:=by intro e;rw [e]at K;simp at K;omega
    rw [←K]at hX g9;have n8:=W_ hX w;have n6:B4 J J':=fun i cs fl _ X=>⟨fl,v i _ X⟩
    have N:LO J' cl us:=z.lo.ba n6 fun i y _ X=>v i y X;obtain⟨c3,H3,i8,i3,o8,i_,q_⟩:=N.app (by omega) n8;refine aq (.inl rfl) ?_;simp [g6,g9,i8];refine ax (next _ _ ⟨by simp [M],c3,us++[qs],⟨i_ 0 _ (v 0 _ z.b0) (N.bA (v 0 _ z.b0)),i_ 1 _ (v 1 _ z.b1) (N.bA (v 1 _ z.b1)),by simp [g1],by simp [g2],by simp [g4],by simp,i3⟩,by simp [j9],fun x L=>?_,fun d f=>?_⟩ (by simp [c9,ha]) (by simp [b_,hb]))
    ·rcases anm.1 L with h | h
     ·exact f8 x h
     ·rw [OF]at h;rw [h];exact⟨w,by omega,f7⟩
    ·rw [j8,jo,md,c d f,a d f,j4];constructor
     ·rintro(⟨x,L,h⟩ | h)
      ·exact⟨x,anO _ L,h⟩
      ·exact⟨tm,by simp,h⟩
     ·rintro⟨x,L,h⟩;rcases anm.1 L with L | L
      ·exact .inl ⟨x,L,h⟩
      ·rw [OF]at L;rw [L]at h;exact .inr h
  ·rintro t J ⟨a_,cl,us,z,j9,f8,c⟩ - -;rw [ant]at c;obtain⟨go,o4⟩:=z.lo.ex 62;obtain⟨n1,n2⟩:=z.lo.mk 62;have I:=xh (sl go (cA us));obtain⟨vs,gv,f_,e_⟩:=wM 119 [.fp [sl go (cA us)] 0] us (by
    have:=Bd go (us.map fun s=>⟨.fs,s⟩) (by simp;omega);have e:aA (us.map fun s=>⟨.fs,s⟩)=cA us:=by simp [aA,cA,cu.row]
    have e2:(us.map fun s=>(⟨.fs,s⟩:cu)).map (·.fs)=us:=by rw [List.map_map];exact List.map_id _
    rw [e,e2]at this;exact this) (m:=2) (by omega) (by omega) f8 (by omega)
   obtain⟨W,A⟩:=aM (fo 64 cl J);have e1:W[1]?=aa (.box [.f .aC] 0):=by
    rw [A];rcases n2 1 _ z.b1 (z.lo.bA z.b1)with k | ⟨cs,f1,f2,hc,e,k⟩
    ·exact k
    ·cases e;simp at hc
   have s1:cZ W (.ptr 1 0 0) [.f (sl gv (cA vs))]=aa (W.set 1 (.box [.f (sl gv (cA vs))] 0)):=by simp [cZ,e1,over]
   have f1:(W.set 1 (.box [.f (sl gv (cA vs))] 0))[1]?=aa (.box [.f (sl gv (cA vs))] 0):=BY (aj e1);apply ai;simp [z.g4,z.g6,o4,deep,I,e_,jE,←A,s1,-a6];refine aE (hQ _ _ _ ⟨vs,gv,⟨by have:=f_.len;omega,f_.ok⟩,fun d f=>by rw [f_.mem d f];exact c d f,rfl⟩ ⟨rfl,.t [.a [.f (sl gv (cA vs))],vi 0],?_,by simp [kM,dE,aZ]⟩);simp [Km.results,cr,aZ,z.g4,f1,aW]
 exact⟨us,g',h1,h2,h.eq⟩
end Go.Proofs.YthkmdpgdicohdaaGreat
