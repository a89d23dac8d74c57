/-
  ad5 the nA kH and the mP answer, for all arguments of their kind, in the small machine: part 3.
-/
import Derived.Test.YthkmdpgdicohdaaGreatS2
import Derived.Test.YthkmdpgdicohdaaGreatS1
import Derived.Test.YthkmdpgdicohdaaGreatK5
open Option renaming some → aa,none → ab
open Bool renaming true → ae,false → ag
open List renaming getElem?_eq_getElem → By, getElem?_append_left → AT, append_nil → al5, getElem_mem → IT, take_add_one → aly, length_append → alj, append_assoc → alU, mem_append → aln, mem_singleton → alm, mem_append_left → alT, take_length → alw, pairwise_append → ama, pairwise_singleton → al1, map_drop → anf, length_drop → alD, getElem_drop → amQ, pairwise_iff_getElem → alR, mem_of_mem_drop → alY, getElem_of_mem → alB, length_pos_iff → al0, getElem?_set_self → BY, getElem?_set_ne → sh, map_cons → alo, map_nil → alH, take_of_length_le → alz, mem_take_iff_getElem → al6, flatten_cons → alG, map_append → amo, mem_cons_self → alr, drop_zero → amd, mem_of_mem_take → amj, mem_map → alC, drop_length → anb, drop_eq_getElem_cons → alv, getElem_map → amN, map_take → am6, take_append_of_le_length → alQ, getElem?_drop → alK, length_set → alI, length_map → alq, length_take → alV, mem_cons → alW, eraseIdx_eq_take_drop_succ → amh, drop_append_of_le_length → amp, take_append_drop → al7, flatten_append → amv, set_eq_take_append_cons_drop → am7, nil_append → amg, length_eraseIdx → am8, mem_append_right → amw, drop_drop → amD, eraseIdx_append_of_length_le → anx, length_replicate → ank, mem_cons_of_mem → alu, all_eq_true → alA, length_cons → al2
open Int renaming gcd → amf, le_trans → amy, le_of_dvd → amn, gcd_pos_of_ne_zero_left → amt, emod_emod_of_dvd → amA, dvd_refl → amL, le_refl → amM, toNat_natCast → alJ, emod_nonneg → amc, emod_lt_of_pos → al9, mul_nonneg → ams, ediv_nonneg → amr, dvd_trans → amB, ediv_le_self → amC, mul_le_mul → amE, dvd_of_emod_eq_zero → amF, mul_comm → ami
open Nat renaming mul_one → am0, le_refl → alk, zero_add → amb, lt_or_ge → alO, zero_le → amu, add_mul → alM, one_mul → am2
open Option renaming bind_some → alP
open List.Pairwise renaming imp → anK
open Bool renaming and_eq_true → If
set_option linter.unusedVariables false
set_option linter.constructorNameAsVariable false
set_option linter.unusedSimpArgs false
set_option linter.unusedSectionVars false
set_option linter.unnecessarySimpa false
set_option maxRecDepth 100000
namespace Go.Proofs.YthkmdpgdicohdaaGreat
open Go Km
structure MQ(H0:an)(qa qb:aI)(st g:Int)(cx cy:C)(m b0:Nat)(c:C)(L:List Int)(J:an):Prop where
 kp:∀ i:Nat,i<H0.length→J[i]?=H0[i]?
 bx:J[b0]?=aa (.box (cB qa qb st cx cy g m) 0)
 lc:LR J c 1 (ints L)
 lo:∀ i,aV c=aa i→H0.length≤i
 hl:H0.length≤J.length
theorem MQ.app{H0:an}{z qb:aI}{st g:Int}{v x:C}{m b0:Nat}{c:C}{L:List Int}{J:an}(h:MQ H0 z qb st g v x m b0 c L J)(hl:L.length≤1000000)(n:Int) :
  ∃ l j,bF (J++[.box [.f (fi n)] 0]) 1 8 (.c c) (.c (.sl J.length 0 1 1 0 1))=aa (.c l,j)∧MQ H0 z qb st g v x m b0 l (L++[n]) j:=by
 obtain⟨l,j,b,q,y,d,s⟩:=oZ h.lc hl n;have A:=h.hl;refine⟨l,j,b,fun i hi=>?_,d _ _ h.bx (h.lc.bz h.bx),q,fun i hi=>?_,by omega⟩
 ·rw [←h.kp i hi];have u:i<J.length:=by omega
  have hy:J[i]?=aa J[i]:=By u;rw [hy];exact d i _ hy fun e=>by have:=h.lo i e;omega
 ·rcases s with e | e
  ·rw [e]at hi;exact h.lo i hi
  ·rw [e]at hi;cases hi;omega
structure MM(X Y XS YS:List Int)(x0 pa pb P st:Int)(M:List Int):Prop where
 of:∀ d ∈ M,∃ k,d=st+k∧0≤k∧k<P∧k % pa ∈ X∧k % pb ∈ Y
 to:∀ k,0≤k→k<P→k % pb ∈ Y→(k % pa ∈ XS∨(k % pa=x0∧k % pb ∈ YS))→st+k ∈ M
theorem UL{X Y L0:List Int}{g:Int}{l:List (Int × C)}{K f ch:C}{m N:Nat}(b s:aI)(st:Int){H0 H:an}(h:PH H0 N X Y g l K f m)(U:∀ i:Nat,i<H0.length→H[i]?=H0[i]?)(n8:H0.length≤H.length)(j8:LR H ch 1 (ints L0))(l_:∀ i,aV ch=aa i→H0.length≤i)
  (hg:g=(amf b.aM s.aM:Int)) {P:Int} (a1:1≤b.aM) (b1:1≤s.aM) (hP:P=b.aM / (amf b.aM s.aM:Int)*s.aM) (E:P≤12) (hx:∀ x ∈ X,0≤x∧x<b.aM) (hy:∀ y ∈ Y,0≤y∧y<s.aM) (hX:X.length≤12) (hY:Y.length≤12) (n9:L0.length≤100000) (s0:0≤st) (s1:st≤2000000000000) :
  ∃ r H',Ev tab (.fn 179) [.a (cB b s st K f g m),.c ch] H r H'∧∃ c M,r=.c c∧LR H' c 1 (ints (L0++M))∧(∀ i,aV c=aa i→H0.length≤i)∧(∀ i:Nat,i<H0.length→H'[i]?=H0[i]?)∧H0.length≤H'.length∧M.length≤12*12∧(∀ d ∈ M,∃ k,d=st+k∧0≤k∧k<P∧k % b.aM ∈ X∧k % s.aM ∈ Y) ∧
   ∀ k,0≤k→k<P→k % b.aM ∈ X→k % s.aM ∈ Y→st+k ∈ M:=by
 have F:=(hP▸Uw a1 b1:yE b.aM s.aM P)
 have a2:b.aM≤12:=amy (amn F.pos F.da) E;have b2:s.aM≤12:=amy (amn F.pos F.db) E;have g0:0<g:=by rw [hg];have:=amt s.aM (show b.aM≠0 by omega);omega
 have j4:g ∣ b.aM:=by rw [hg];exact Int.gcd_dvd_left ..
 have j7:g ∣ s.aM:=by rw [hg];exact Int.gcd_dvd_right ..
 refine cH rfl rfl fun Q hQ=>?_;apply ai;simp [cB];obtain⟨b0,f7⟩:=aN (H.length);obtain⟨HA,B⟩:=aN (H++[.box (cB b s st K f g m) 0]:an);have a0:HA[b0]?=aa (.box (cB b s st K f g m) 0):=by rw [B,f7];simp
 have ak:∀ i:Nat,i<H.length→HA[i]?=H[i]?:=fun i hi=>by rw [B,AT (by omega)]
 have al:HA.length=H.length+1:=by rw [B];simp
 have q0:MQ H0 b s st g K f m b0 ch (L0++[]) HA:=⟨fun i hi=>by rw [ak i (by omega)];exact U i hi,a0,by rw [al5,B];exact j8.push _,l_,by omega⟩
 unfold cB at B;rw [←B,←f7];have hA:=h.bu (J':=HA) fun i hi=>q0.kp i hi;have L:=qQ a0;have lx:bh HA K=aa X.length:=by have:=hA.lx.len;simpa [ints]using this
 apply au;apply ai;simp [L.lx,-ay,lx];refine bZ X.length (fun j t J=>t.g 2=.c (.ptr b0 0 0)∧t.g 13=.c K∧∃ c M,t.g 1=.c c∧MQ H0 b s st g K f m b0 c (L0++M) J∧M.length≤j*12∧MM X Y (X.take j) [] 0 b.aM s.aM P st M) (by omega) (by decide) (by decide) (by simp) (by simp)
  ⟨by simp,by simp,ch,[],by simp,q0,by simp,⟨fun _ h=>(by cases h),fun k _ _ _ h=>(by simp at h)⟩⟩ ?_ ?_
 ·rintro j t J hj ⟨S,u,c,M,o,A,a8,z⟩ ha hb next
  have hJ:=h.bu (J':=J) A.kp;obtain⟨xb,o0,o4,m_,i_,-⟩:=sU hJ.lx hj;have a_:=hx _ (IT hj);have i7:=IT hj;have i6:X.take (j+1)=X.take j++[X[j]]:=by rw [aly,By hj];rfl
  obtain⟨x,hx⟩:=aN (X[j]);rw [←hx]at a_ i_ i6 i7;have i3:bP .rem (vi x) (vi g)=aa (vi (x % g)):=eR (by omega) g0;have g_:=hJ.ok.look hJ.mp (x % g);obtain⟨ys,b_⟩:=aN (kB g Y (x % g));have i8:∀ y,y ∈ ys↔y ∈ Y∧y % g=x % g:=fun y=>by rw [b_];simp [kB]
  obtain⟨cc,f_⟩:=aN (nK l (x % g));have f8:∀ J':an,(∀ i:Nat,i<H0.length→J'[i]?=H0[i]?)→LR J' cc 1 (ints ys):=fun J' W=>by rw [b_,f_];exact(h.bu W).ok.lr (x % g)
  have k_:bh J cc=aa ys.length:=by have:=(f8 J A.kp).len;simpa [ints]using this
  have n_:ys.length≤12:=by rw [b_];exact Nat.le_trans (List.length_filter_le _ _) hY
  rw [←f_]at g_;have LJ:=qQ A.bx;refine az ?_;apply ai;simp [ha,u,m_,i_,-ay];apply ai;simp [S,LJ.lm,LJ.lg,i3,-ay,mX,g_,k_];refine bZ ys.length (fun i a J=>a.g 2=.c (.ptr b0 0 0)∧a.g 13=.c K∧a.g 15=vi j∧a.g 14=t.g 14∧a.g 6=vi x∧a.g 25=.c cc∧∃ c M,a.g 1=.c c∧MQ H0 b s st g K f m b0 c (L0++M) J∧M.length≤j*12+i∧MM X Y (X.take j) (ys.take i) x b.aM s.aM P st M) (by omega) (by decide) (by decide) (by simp) (by simp)
   ⟨by simp [S],by simp [u],by simp [ha],by simp,by simp,by simp,c,M,by simp [o],A,by omega,⟨z.of,fun k k0 Z O U=>by
    rcases U with U | U
    ·exact z.to k k0 Z O (.inl U)
    ·simp at U⟩⟩ ?_ ?_
  ·rintro i a J' hi ⟨S,u,w,p,g6,a7,c,M,o,A,a8,z⟩ d_ j9 d9;obtain⟨yb,o5,o6,n6,j3,-⟩:=sU (f8 J' A.kp) hi;have I:=(i8 _).1 (IT hi);have e:ys.take (i+1)=ys.take i++[ys[i]]:=by rw [aly,By hi];rfl
   obtain⟨y,m9⟩:=aN (ys[i]);rw [←m9]at j3 I e;obtain⟨k,v,k0,Z,ka,O,i4⟩:=VB a1 b1 hP E a_.1 a_.2 (hy y I.1).1 (hy y I.1).2 (by rw [←hg];exact I.2.symm);have LJ:=qQ A.bx;obtain⟨c3,H3,e_,h_⟩:=A.app (by rw [alj];omega) (st+k);rw [alU]at h_;refine az ?_;apply ai;simp [d_,a7,n6,j3,-ay];apply ai;simp [S,g6,LJ.lap,LJ.lbp,-ay,i4];refine aq (.inl rfl) ?_;simp [o,S,LJ.kJ,-ay,aO (n:=st+k),e_];refine ax (d9 _ _ ?_ (by simp [d_]) (by simp [j9]));refine⟨by simp [S],by simp [u],by simp [w],by simp [p],by simp [g6],by simp [a7],c3,M++[st+k],by simp,h_,by simp;omega,⟨fun d j_=>?_,fun k' c9 c_ i9 W=>?_⟩⟩
   ·rcases aln.1 j_ with q | q
    ·exact z.of d q
    ·rw [alm]at q;exact⟨k,q,k0,Z,by rw [ka];exact i7,by rw [O];exact I.1⟩
   ·rw [e,aln,alm]at W;rcases W with q | ⟨q1,q | q⟩
    ·exact alT _ (z.to k' c9 c_ i9 (.inl q))
    ·exact alT _ (z.to k' c9 c_ i9 (.inr ⟨q1,q⟩))
    ·have:k'=k:=yE.uniq F c9 c_ k0 Z (by rw [q1,ka]) (by rw [q,O]);rw [this];simp
  ·rintro a J' ⟨S,u,w,p,g6,a7,c,M,o,A,a8,z⟩ - -;rw [alw]at z;refine ax (next _ _ ?_ (by simp [w]) (by simp [p,hb]));refine⟨by simp [S],by simp [u],c,M,by simp [o],A,by omega,⟨z.of,fun k k0 Z O U=>?_⟩⟩;rcases U with q | q
   ·rw [i6,aln,alm]at q;rcases q with q | q
    ·exact z.to k k0 Z O (.inl q)
    ·refine z.to k k0 Z O (.inr ⟨q,(i8 _).2 ⟨O,?_⟩⟩);rw [amA _ j7,←q,amA _ j4]
   ·simp at q
 ·rintro t J ⟨S,u,c,M,o,A,a8,z⟩ - -;rw [alw]at z;apply ai;simp [o];refine aD (hQ _ _ (.c c) rfl (dz (by simp)) ⟨c,M,rfl,A.lc,A.lo,A.kp,A.hl,by omega,z.of,fun k k0 Z ka O=>z.to k k0 Z O (.inl ka)⟩)
structure iV(S:Int→Prop)(U:Int)(ds:List Int):Prop where
 lt:∀ d ∈ ds,d<U
 iff:∀ d,d<U→(d ∈ ds↔S d)
 pw:ds.Pairwise (· < ·)
section
variable{S:Int→Prop}{U:Int}{ds:List Int}
theorem iV.skip(h:iV S U ds){V:Int}(j:U≤V)(g:∀ d,U≤d→d<V→¬ S d):iV S V ds:=
 ⟨fun d b=>by have:=h.lt d b;omega,fun d b=>by
  by_cases k:d<U
  ·exact h.iff d k
  ·exact⟨fun x=>absurd (h.lt d x) k,fun x=>absurd x (g d (by omega) b)⟩,h.pw⟩
theorem iV.more(h:iV S U ds){n:Int}(j:U≤n)(b:∀ d,U≤d→d<n→¬ S d)(l:S n):iV S (n+1) (ds++[n]):=by
 have h:=h.skip j b;refine⟨fun d g=>?_,fun d g=>?_,?_⟩
 ·rcases aln.1 g with q | q
  ·have:=h.lt d q;omega
  ·rw [alm]at q;omega
 ·rw [aln,alm];by_cases k:d=n
  ·subst k;simp [l]
  ·rw [←h.iff d (by omega)];simp [k]
 ·rw [ama];exact⟨h.pw,al1 _ _,fun x m y hy=>by rw [alm]at hy;subst hy;exact h.lt x m⟩
theorem iV.all(h:iV S U ds)(b:∀ d,U≤d→¬ S d)(d:Int):d ∈ ds↔S d:=by
 by_cases k:d<U
 ·exact h.iff d k
 ·exact⟨fun x=>absurd (h.lt d x) k,fun x=>absurd x (b d (by omega))⟩
end
def SW(p:aI)(lo hi d:Int):Prop:=lo≤d∧d<hi∧bK p d=ae
theorem xh{p:aI}{base c:Int}(j:p.fr≤base)(g:(base-p.fr) % p.aM=0)(b:0≤c)(d:c<p.aM):bK p (base+c)=ae↔c ∈ p.bf:=by
 unfold bK;rw [ba (by omega),decide_eq_true_eq];have:(base+c-p.fr) % p.aM=c:=by
  rw [show base+c-p.fr=c+(base-p.fr) by omega,Int.add_emod,g,Int.add_zero,amA _ (amL _),Int.emod_eq_of_lt b d]
 rw [this]
theorem aak(p:aI)(lo:Int)(H:an):∃ r H',Ev tab (.fn 139) [.a (p.row.map .f),vi lo] H r H'∧(r=.c (.cl 188 [.ptr H.length 0 0,.ptr (H.length+1) 0 0])∧H'=H++[.box [.f (sl p.hg (ints p.head)),.f (fi p.fr),.f (fi p.aM),.f (sl p.cg (ints p.bf))] 0,.box [.f (fi lo)] 0]):=by
 refine cH rfl rfl fun Q b=>?_;apply ai;simp [aI.row];apply ai;simp;exact aD (b _ _ _ rfl (dz (by simp)) ⟨rfl,rfl⟩)
theorem aal{b bp bl:Nat}(p:aI)(hp:cF p=ae)(p9:p.head.length≤1000000)(o_:p.bf.length≤1000000)(lo hi:Int)(l0:0≤lo)(l1:lo≤1099511627776)(q_:hi≤2199023255552){PP:Int→List Int→an→Prop}{RR:List Int→an→Prop}
  (hb:∀ z ds J,PP z ds J→J[bp]?=aa (.box [.f (sl p.hg (ints p.head)),.f (fi p.fr),.f (fi p.aM),.f (sl p.cg (ints p.bf))] 0)∧J[bl]?=aa (.box [.f (fi z)] 0))
  (j_:∀ z z' ds J,PP z ds J→PP z' ds (J.set bl (.box [.f (fi z')] 0)))
  (hy:∀ z ds J n,PP z ds J→lo≤n→n<hi→(∀ d ∈ ds,d<n)→ds.Pairwise (· < ·)→(∀ d ∈ ds,SW p lo hi d)→∃ J',Ev tab (.yield b) [vi n] J (vb ae) J'∧PP z (ds++[n]) J')
  (hn:∀ z ds J n,PP z ds J→hi≤n→n≤4611686018427387904→∃ J',Ev tab (.yield b) [vi n] J (vb ag) J'∧RR ds J') {H:an} (h0:PP lo [] H) :
  ∃ r H',Ev tab (.fn 188) [.c (.yl b),.c (.ptr bp 0 0),.c (.ptr bl 0 0)] H r H'∧(r=.t []∧∃ ds,((∃ z,PP z ds H')∨RR ds H')∧ds.Pairwise (· < ·)∧∀ d,d ∈ ds↔SW p lo hi d):=by
 obtain⟨q1,q2,q3,q4,q5,q6,q7,q8,q9⟩:=a6 hp;obtain⟨i,p_,j7,o4,n8⟩:=fT p.hg p.head lo (by omega) q6;have Z:∀ z ds J,PP z ds J→aX J ab (.c (.ptr bp 0 0))=aa (.c (.f (sl p.hg (ints p.head))))∧aX J ab (.c (.ptr bp 1 0))=aa (vi p.fr)∧aX J ab (.c (.ptr bp 2 0))=aa (vi p.aM)∧aX J ab (.c (.ptr bp 3 0))=aa (.c (.f (sl p.cg (ints p.bf))))∧aX J ab (.c (.ptr bl 0 0))=aa (vi z)∧∀ z':Int,dt J (.ptr bl 0 0) [.f (fi z')]=aa (J.set bl (.box [.f (fi z')] 0)):=fun z ds J h=>by
  obtain⟨h1,h2⟩:=hb z ds J h;refine⟨?_,?_,?_,?_,?_,fun z'=>?_⟩<;>simp [aX,aH,dt,over,h1,h2]
 obtain⟨e0,e1,e2,e3,e4,e5⟩:=Z _ _ _ h0;have i_:∀(l:List Int) (k:Nat),(ints l).drop k=ints (l.drop k):=fun l k=>by simp [ints,anf]
 refine cH rfl rfl fun Q hQ=>?_;apply ai;simp [e0,e4,-ay,n8];obtain⟨g1,k_⟩:=xG (H:=H) (g:=p.hg) (k:=i) (Km.Ord.bV p.head) (by simp [ints];omega) (by simp [ints];omega);rw [i_]at k_;have a_:∀(J:an) (g:Tg) (l:List Int),bh J (.f (sl g (ints l)))=aa l.length:=fun J g l=>by simp [ints]
 have f_:∀ d,d<p.fr→0≤d→(bK p d=ae↔d ∈ p.head):=fun d L h0=>by unfold bK;rw [aS (by omega),decide_eq_true_eq]
 apply au;apply ai;simp [e0,-ay,k_,a_];refine bZ (p.head.drop i).length (fun j t J=>t.g 0=.c (.yl b)∧t.g 1=.c (.ptr bp 0 0)∧t.g 2=.c (.ptr bl 0 0)∧t.g 21=.c (.f (sl g1 (ints (p.head.drop i))))∧∃ ds,PP lo ds J∧(∃ U,iV (SW p lo hi) U ds∧(lo≤U∧U≤max lo p.fr)∧(∀(k:Nat) (h:k<(p.head.drop i).length),k<j→(p.head.drop i)[k]<U)∧∀(k:Nat) (h:k<(p.head.drop i).length),j≤k→U≤(p.head.drop i)[k])∧∀ d ∈ ds,SW p lo hi d) (by rw [alD];omega) (by decide) (by decide) (by simp) (by simp)
  ⟨by simp,by simp,by simp,by simp,[],h0,⟨lo,⟨by simp,fun d L=>⟨fun h=>(by simp at h),fun h=>(by have:=h.1;omega)⟩,List.Pairwise.nil⟩,⟨amM _,by omega⟩,fun k _ h=>(by omega),fun k h _=>(by rw [amQ];exact o4 _ (by simp at h;omega) (by omega))⟩,by simp⟩ ?_ ?_
 ·rintro j t J M ⟨X,v,g2,d_,ds,I,⟨U,F,hU,E,a⟩,y⟩ ha f8 next
  have a7:=fun H:an=>bG (H:=H) (g:=g1) (rows:=ints (p.head.drop i)) (sz:=1) (k:=.i64) (i:=(j:Int)) (by omega) (by simpa [ints]using M);have a8:=fun H:an=>eh (H:=H) M;simp only [am0,alJ]at a7;have j8:(p.head.drop i).Pairwise (· < ·):=q6.sublist (List.drop_sublist _ _);have x:∀(k:Nat) (h:k<(p.head.drop i).length),j+1≤k→(p.head.drop i)[j]<(p.head.drop i)[k]:=fun k h Y=>alR.1 j8 j k M h (by omega);have A:∀(k:Nat) (h:k<(p.head.drop i).length),k<j→(p.head.drop i)[k]<(p.head.drop i)[j]:=fun k h Y=>alR.1 j8 k j h M Y;have o:=a j M (alk _);have f:(p.head.drop i)[j] ∈ p.head:=alY (IT M);have i3:∀ d,d ∈ p.head→d<lo∨∃(k:Nat) (h:k<(p.head.drop i).length),d=(p.head.drop i)[k]:=fun d L=>by
   obtain⟨k,Y,rfl⟩:=alB L;by_cases g_:k<i
   ·exact .inl (j7 k Y g_)
   ·refine .inr ⟨k-i,by rw [alD];omega,?_⟩;rw [amQ]
    congr 1;omega
  obtain⟨n,hx⟩:=aN ((p.head.drop i)[j]);rw [←hx]at a8 x A o f;have r_:=q7 n f;have K:∀ d,U≤d→d<n→¬ SW p lo hi d:=fun d h1 h2 B=>by
   have:=(f_ d (by omega) (by omega)).1 B.2.2;rcases i3 d this with h | ⟨k,Y,rfl⟩
   ·omega
   ·by_cases W:k<j
    ·have:=E k Y W;omega
    ·by_cases j4:k=j
     ·subst j4;omega
     ·have:=x k Y (by omega);omega
  have o8:=Z _ _ _ I;refine az ?_;apply ai;simp [ha,d_,a7,a8];by_cases w:n<hi
  ·obtain⟨J',O,f7⟩:=hy lo ds J n I (by omega) w (fun d L=>by have:=F.lt d L;omega) F.pw y;apply ai;simp [X,O.eq];refine aW (by simp) ?_;have B:SW p lo hi n:=⟨by omega,w,(f_ n (by omega) (by omega)).2 f⟩
   refine ax (next _ _ ?_ (by simp [ha]) (by simp [f8]));refine⟨by simp [X],by simp [v],by simp [g2],by simp [d_],ds++[n],f7,⟨n+1,F.more o K B,⟨by omega,by omega⟩,fun k h Y=>?_,fun k h Y=>by have:=x k h Y;omega⟩,fun d L=>?_⟩
   ·by_cases e:k=j
    ·subst e;omega
    ·have:=A k h (by omega);omega
   ·rcases aln.1 L with q | q
    ·exact y d q
    ·rw [alm]at q;rw [q];exact B
  ·obtain⟨J',O,hR⟩:=hn lo ds J n I (by omega) (by omega);apply ai;simp [X,O.eq];refine av (by simp) ?_;exact aD (hQ _ _ _ rfl rfl ⟨rfl,ds,.inr hR,F.pw,F.all fun d L B=>by
    by_cases h:d<n
    ·exact K d L h B
    ·have:=B.2.1;omega⟩)
 ·rintro t J ⟨X,v,g2,d_,ds,I,⟨U,F,hU,E,-⟩,y⟩ - -;obtain⟨V,hV⟩:=aN (max lo p.fr);have b_:iV (SW p lo hi) V ds:=F.skip (by omega) fun d h1 h2 B=>by
   have n_:d<p.fr:=by omega
   have o0:=(f_ d n_ (by omega)).1 B.2.2;obtain⟨k,Y,rfl⟩:=alB o0;by_cases g_:k<i
   ·have:=j7 k Y g_;omega
   ·have j3:k-i<(p.head.drop i).length:=by rw [alD];omega
    have:=E (k-i) j3 j3;rw [amQ]at this;simp only [show i+(k-i)=k by omega]at this;omega
  obtain⟨-,e1,e2,e3,e4,e5⟩:=Z _ _ _ I;apply au;apply ai;simp [v,e3,-ay,a_];by_cases hc:p.bf=[]
  ·refine av (by simp [hc]) ?_;refine aD (hQ _ _ _ rfl rfl ⟨rfl,ds,.inl ⟨lo,I⟩,b_.pw,b_.all fun d L B=>?_⟩);have:=B.2.2;unfold bK at this;rw [ba (by omega),hc]at this;simp at this
  have p8:0<p.bf.length:=al0.2 hc;refine aW (by simp [hc]) ?_;have o7:max lo p.fr=V:=hV.symm;have s2:=e5 V;have c9:=j_ lo V ds J I;generalize J.set bl (.box [.f (fi V)] 0)=J2 at s2 c9;obtain⟨-,f1,f2,f3,f4,-⟩:=Z _ _ _ c9;apply ai;simp [v,g2,e1,e4,-ay,o7,s2,-bw];have r7:=amc (V-p.fr) (show p.aM≠0 by omega);have r8:=al9 (V-p.fr) (show 0<p.aM by omega);have r9:(V-p.fr) % p.aM≤V-p.fr:=by
   have h1:=Int.emod_add_mul_ediv (V-p.fr) p.aM;have h2:0≤p.aM*((V-p.fr) / p.aM):=ams (by omega) (amr (by omega) (by omega));omega
  have d9:bP .rem (vi (V-p.fr)) (vi p.aM)=aa (vi ((V-p.fr) % p.aM)):=eR (by omega) (by omega);obtain⟨base,N⟩:=aN (V-(V-p.fr) % p.aM);have i6:(base-p.fr) % p.aM=0:=by
   rw [N,show V-(V-p.fr) % p.aM-p.fr=(V-p.fr)-(V-p.fr) % p.aM by omega,Int.sub_emod,amA _ (amL _),Int.sub_self,Int.zero_emod]
  apply ai;simp [v,g2,f1,f2,f4,-ay,aO (n:=V-p.fr),d9,←N,aO (n:=base)];obtain⟨k0,c_,m_,m9,l_⟩:=fT p.cg p.bf (V-base) (by omega) q8;apply ai;simp [v,g2,f3,f4,-ay,aO (n:=V-base),l_];refine az ?_;refine bJ (fun m s=>∃(T0:T) (J:an) (ds:List Int) (base U:Int) (k:Nat),s=⟨T0,[],J⟩∧m=(hi-base).toNat+(if k=0 then 0 else 1)∧T0.g 0=.c (.yl b)∧T0.g 1=.c (.ptr bp 0 0)∧T0.g 4=vi k∧T0.g 8=vi base∧PP V ds J∧iV (SW p lo hi) U ds∧(∀ d ∈ ds,SW p lo hi d) ∧
   p.fr≤base∧(base-p.fr) % p.aM=0∧base≤U∧U≤base+p.aM∧V≤U∧k≤p.bf.length∧(∀(j:Nat) (h:j<p.bf.length),j<k→base+p.bf[j]<U)∧(∀(j:Nat) (h:j<p.bf.length),k≤j→U≤base+p.bf[j])∧(k=0∨base≤1099511627776)∧base≤4398046511104) ((hi-base).toNat+(if k0=0 then 0 else 1))
   ⟨_,J2,ds,base,V,k0,rfl,rfl,by simp [X],by simp [v],by simp,by simp,c9,b_,y,by omega,i6,by omega,by omega,amM _,c_,fun j h M=>by have:=m_ j h M;omega,fun j h M=>by have:=m9 j h M;omega,by omega,by omega⟩ ?_
  clear b_ c9 i6 I N m_ m9 l_ d9 f1 f2 f3 f4 s2 e1 e2 e3 e4 e5;rintro m s ⟨t,J,ds,base,U,k,rfl,rfl,X,v,g4,g8,I,F,y,b1,b2,b3,b4,b5,Y,E,a,o5,b6⟩ ih;obtain⟨-,e1,e2,e3,e4,-⟩:=Z _ _ _ I;obtain⟨g3,j9⟩:=xG (H:=J) (g:=p.cg) (k:=k) (Km.Ord.bV p.bf) (by simp [ints];omega) (by simp [ints];omega);rw [i_]at j9;refine az ?_;apply au;apply ai;simp [v,g4,e3,-ay,j9,a_];refine bZ (p.bf.drop k).length (fun j t' J=>t'.g 0=.c (.yl b)∧t'.g 1=.c (.ptr bp 0 0)∧t'.g 8=vi base∧t'.g 61=.c (.f (sl g3 (ints (p.bf.drop k))))∧∃ ds U,PP V ds J∧iV (SW p lo hi) U ds∧(∀ d ∈ ds,SW p lo hi d)∧base≤U∧U≤base+p.aM∧V≤U∧(∀(i:Nat) (h:i<p.bf.length),i<k+j→base+p.bf[i]<U)∧(∀(i:Nat) (h:i<p.bf.length),k+j≤i→U≤base+p.bf[i])∧(0<j→base<hi)) (by rw [alD];omega) (by decide) (by decide) (by simp) (by simp)
   ⟨by simp [X],by simp [v],by simp [g8],by simp,ds,U,I,F,y,b3,b4,b5,E,a,by omega⟩ ?_ ?_
  ·rintro j t' J M ⟨X,v,g8,e_,ds,U,I,F,y,b3,b4,b5,E,a,-⟩ ha f8 next
   have W:k+j<p.bf.length:=by rw [alD]at M;omega
   have a7:=fun H:an=>bG (H:=H) (g:=g3) (rows:=ints (p.bf.drop k)) (sz:=1) (k:=.i64) (i:=(j:Int)) (by omega) (by simpa [ints]using M);have a8:=fun H:an=>eh (H:=H) M;simp only [am0,alJ]at a7;have n9:(p.bf.drop k)[j]=p.bf[k+j]:=by rw [amQ]
   have i7:=q9 _ (IT W);have i9:=IT W;have o:=a (k+j) W (alk _);have x:∀(i:Nat) (h:i<p.bf.length),k+j+1≤i→p.bf[k+j]<p.bf[i]:=fun i h hi=>alR.1 q8 (k+j) i W h (by omega);have A:∀(i:Nat) (h:i<p.bf.length),i<k+j→p.bf[i]<p.bf[k+j]:=fun i h hi=>alR.1 q8 i (k+j) h W hi;obtain⟨c,i8⟩:=aN (p.bf[k+j]);rw [n9,←i8]at a8;rw [←i8]at i7 i9 o x A;have h_:bK p (base+c)=ae:=(xh b1 b2 (by omega) i7.2).2 i9;have K:∀ d,U≤d→d<base+c→¬ SW p lo hi d:=fun d h1 h2 B=>by
    have h3:=B.2.2;rw [show d=base+(d-base) by omega,xh b1 b2 (by omega) (by omega)]at h3;obtain⟨i',S,e⟩:=alB h3;by_cases u:i'<k+j
    ·have:=E i' S u;omega
    ·by_cases u2:i'=k+j
     ·subst u2;omega
     ·have:=x i' S (by omega);omega
   refine az ?_;apply ai;simp [ha,e_,a7,a8];by_cases w:base+c<hi
   ·obtain⟨J',O,f7⟩:=hy V ds J (base+c) I (by omega) w (fun d L=>by have:=F.lt d L;omega) F.pw y;apply ai;simp [X,g8,aO (n:=base+c),O.eq];refine aW (by simp) ?_;have B:SW p lo hi (base+c):=⟨by omega,w,h_⟩
    refine ax (next _ _ ?_ (by simp [ha]) (by simp [f8]));refine⟨by simp [X],by simp [v],by simp [g8],by simp [e_],ds++[base+c],base+c+1,f7,F.more o K B,fun d L=>?_,by omega,by omega,by omega,fun i' h S=>?_,fun i' h S=>?_,fun _=>by omega⟩
    ·rcases aln.1 L with q | q
     ·exact y d q
     ·rw [alm]at q;rw [q];exact B
    ·by_cases e:i'=k+j
     ·subst e;omega
     ·have:=A i' h (by omega);omega
    ·have:=x i' h (by omega);omega
   ·obtain⟨J',O,hR⟩:=hn V ds J (base+c) I (by omega) (by omega);apply ai;simp [X,g8,aO (n:=base+c),O.eq];refine av (by simp) ?_;exact aD (hQ _ _ _ rfl rfl ⟨rfl,ds,.inr hR,F.pw,F.all fun d L B=>by
     by_cases h:d<base+c
     ·exact K d L h B
     ·have:=B.2.1;omega⟩)
  ·rintro t' J ⟨X,v,g8,e_,ds,U,I,F,y,b3,b4,b5,E,-,i4⟩ - -;have o6:k+(p.bf.drop k).length=p.bf.length:=by rw [alD];omega
   rw [o6]at E;obtain⟨-,e1,e2,e3,e4,-⟩:=Z _ _ _ I;have n6:iV (SW p lo hi) (base+p.aM) ds:=F.skip b4 fun d h1 h2 B=>by
    have h3:=B.2.2;rw [show d=base+(d-base) by omega,xh b1 b2 (by omega) (by omega)]at h3;obtain⟨i',S,e⟩:=alB h3;have:=E i' S S;omega
   have o9:base≤2199023255552:=by
    rcases o5 with rfl | h
    ·have:=i4 (by rw [alD];omega);omega
    ·omega
   apply ai;simp;refine aq (.inl rfl) ?_;simp [v,g8,e2,-ay,aO (n:=base+p.aM)];refine ax (ih ((hi-(base+p.aM)).toNat+0) _ ?_ ⟨_,J,ds,base+p.aM,base+p.aM,0,rfl,by simp,by simp [X],by simp [v],by simp,by simp,I,n6,y,by omega,?_,amM _,by omega,by omega,by omega,fun j h M=>by omega,fun j h M=>by have:=q9 _ (IT h);omega,.inl rfl,by omega⟩)
   ·by_cases c_:k=0
    ·rw [ba c_];have:=i4 (by rw [alD];omega);omega
    ·rw [aS c_];omega
   ·rw [show base+p.aM-p.fr=base-p.fr+p.aM by omega,Int.add_emod_right];exact b2
structure WQ(p:aI)(hi:Int)(tm:T)(st:dS)(pd:Option aw)(z:Int)(ds:List Int)(J:an):Prop where
 h1:J[1]?=aa (.box [.f (fi hi)] 0)
 bp:J[3]?=aa (.box [.f (sl p.hg (ints p.head)),.f (fi p.fr),.f (fi p.aM),.f (sl p.cg (ints p.bf))] 0)
 bl:J[4]?=aa (.box [.f (fi z)] 0)
 df:J[5]?=aa (.fg ae)
 lp:J[6]?=aa (.lp 181 tm [P.nat 12] kr iQ st pd 5)
 ls:∃ c,J[2]?=aa (.box [c] 0)∧LR J c 1 (ints ds)∧∀ i,aV c=aa i→6<i
theorem WQ.six{p:aI}{hi:Int}{b:T}{st st':dS}{g pd':Option aw}{z:Int}{ds:List Int}{J:an}(h:WQ p hi b st g z ds J):WQ p hi b st' pd' z ds (J.set 6 (.lp 181 b [P.nat 12] kr iQ st' pd' 5)):=by
 obtain⟨h1,h3,h4,h5,h6,c,h2,d,hc⟩:=h;refine⟨?_,?_,?_,?_,BY (aj h6),c,?_,d.set (fun e=>by have:=hc 6 e;omega) _,hc⟩
 all_goals (rw [sh (by omega)];assumption)
theorem WQ.low{p:aI}{hi:Int}{d:T}{st:dS}{b:Option aw}{z:Int}{ds:List Int}{J:an}(h:WQ p hi d st b z ds J)(g:Int):WQ p hi d st b g ds (J.set 4 (.box [.f (fi g)] 0)):=by
 obtain⟨h1,h3,h4,h5,h6,c,h2,j,hc⟩:=h;refine⟨?_,?_,BY (aj h4),?_,?_,c,?_,j.set (fun e=>by have:=hc 4 e;omega) _,hc⟩
 all_goals (rw [sh (by omega)];assumption)
theorem pL{p:aI}{hi:Int}{j:T}(L:j.g 5=.c (.ptr 1 0 0))(M:j.g 7=.c (.ptr 2 0 0)){z:Int}{ds:List Int}{J:an}(h:WQ p hi j .ready ab z ds J)(n:Int)(O:n<hi→ds.length≤1000000) :
  ∃ r H',Ev tab (.yield 6) [vi n] J r H'∧((n<hi∧r=vb ae∧WQ p hi j .ready ab z (ds++[n]) H')∨(hi≤n∧r=vb ag∧WQ p hi j .done (aa (.exit 0)) z ds H')):=by
 refine ea (tab:=tab) (b:=6) (args:=[vi n]) (H:=J) h.lp rfl fun X m=>?_;refine aq (.inr rfl) ?_;simp;refine iF h.lp ?_;have d:=h.six (st':=.busy) (pd':=ab);generalize J.set 6 (.lp 181 j [P.nat 12] kr iQ .busy ab 5)=v at d ⊢;have U:aX v ab (.c (.ptr 1 0 0))=aa (vi hi):=by simp [aX,aH,d.h1]
 obtain⟨c,E,N,F⟩:=d.ls;refine az ?_;apply au;refine au (aq (.inr rfl) ?_);simp [L,U,-ay];by_cases k:n<hi
 ·refine aF (by simp;omega) (aP ?_);obtain⟨u,s,q,l,I,A,x⟩:=oZ N (O k) n;have g:∀(i:Nat) y,i≤6→v[i]?=aa y→s[i]?=aa y:=fun i y hi Q=>A i y Q fun e=>by have:=F i e;omega
  have S:aX v ab (.c (.ptr 2 0 0))=aa (.c c):=by simp [aX,aH,E]
  have B:=g 2 _ (by omega) E;have W:dt s (.ptr 2 0 0) [u]=aa (s.set 2 (.box [u] 0)):=by simp [dt,B,over]
  refine aq (.inr rfl) ?_;simp [M,S,-ay,q,W,-bw];have K:WQ p hi j .busy ab z (ds++[n]) (s.set 2 (.box [u] 0)):=by
   have Y:=aj (g 6 _ (by omega) d.lp);refine⟨?_,?_,?_,?_,?_,u,BY (aj B),l.set (l.bz B) _,fun i hi=>?_⟩
   ·rw [sh (by omega)];exact g 1 _ (by omega) d.h1
   ·rw [sh (by omega)];exact g 3 _ (by omega) d.bp
   ·rw [sh (by omega)];exact g 4 _ (by omega) d.bl
   ·rw [sh (by omega)];exact g 5 _ (by omega) d.df
   ·rw [sh (by omega)];exact g 6 _ (by omega) d.lp
   ·rcases x with e | e
    ·rw [e]at hi;exact F i hi
    ·rw [e]at hi;cases hi;have:=aj d.lp;omega
  exact ax (cU (m _ _ _ _ _ _ _ _ _ _ rfl K.lp (.inl ⟨k,rfl,K.six⟩)))
 ·refine av (by simp;omega) ?_;exact mF rfl (m _ _ _ _ _ _ _ _ _ _ rfl d.lp (.inr ⟨by omega,rfl,d.six⟩))
theorem wb(p:aI)(W:cF p=ae)(U:p.head.length≤1000000)(N:p.bf.length≤1000000)(lo hi:Int)(l0:0≤lo)(l1:lo≤1099511627776)(hh:hi≤lo+1000000) :
  ∃ L g,bX tab 181 [.a (p.row.map .f),vi lo,vi hi]=Eq (.c (.f (sl g (ints L))))∧L.Pairwise (· < ·)∧∀ d,d ∈ L↔SW p lo hi d:=by
 obtain⟨r,⟨L,g,rfl,I,K⟩,h⟩:∃ r,(∃ L g,r=.c (.f (sl g (ints L)))∧L.Pairwise (· < ·)∧∀ d,d ∈ L↔SW p lo hi d)∧bX tab 181 [.a (p.row.map .f),vi lo,vi hi] r:=by
  refine pE adJ rfl fun Q w=>?_;apply ai;simp [aI.row];apply ai;simp;obtain⟨m,q⟩:=aN ([.box [.f (sl p.hg (ints p.head)),.f (fi p.fr),.f (fi p.aM),.f (sl p.cg (ints p.bf))] 0,.box [.f (fi hi)] 0,.box [.f .aA] 0]:an);rw [←q];have la:aX m (aa 4) (.c (.ptr 0 0 0))=aa (.a [.f (sl p.hg (ints p.head)),.f (fi p.fr),.f (fi p.aM),.f (sl p.cg (ints p.bf))]):=by rw [q];simp [aX,aH,aY]
  obtain⟨r0,H0,S,rfl,rfl⟩:=aak p lo m;simp only [aI.row,alo,alH]at S;have a:m.length=3:=by rw [q];rfl
  rw [a]at S;apply au;apply ai;simp [la,-ay,S.eq];refine az ?_
  suffices go:∀ j:T,j.g 5=.c (.ptr 1 0 0)→j.g 7=.c (.ptr 2 0 0)→j.g 11=.c (.cl 188 [.ptr 3 0 0,.ptr 4 0 0])→WP tab 181 ab [.code yd,.inBlock 0,.code pQ] ⟨j,[],m++[.box [.f (sl p.hg (ints p.head)),.f (fi p.fr),.f (fi p.aM),.f (sl p.cg (ints p.bf))] 0,.box [.f (fi lo)] 0]⟩ Q by exact go _ (by simp) (by simp) (by simp)
  intro j f F E;obtain⟨o,y⟩:=aN (m++[.box [.f (sl p.hg (ints p.head)),.f (fi p.fr),.f (fi p.aM),.f (sl p.cg (ints p.bf))] 0,.box [.f (fi lo)] 0]++[.fg ae,.lp 181 j [P.nat 12] kr iQ .ready ab 5]:an);have q0:WQ p hi j .ready ab lo [] o:=by
   rw [y,q];refine⟨rfl,rfl,rfl,rfl,rfl,.f .aA,rfl,?_,fun i h=>by cases h⟩;exact LR.nil _ _
  obtain⟨r,H',he,rfl,ds,s,X,B⟩:=aal (b:=6) (bp:=3) (bl:=4) p W U N lo hi l0 l1 (by omega) (PP:=fun z ds J=>WQ p hi j .ready ab z ds J) (RR:=fun ds J=>∃ z,WQ p hi j .done (aa (.exit 0)) z ds J)
   (fun z ds J h=>⟨h.bp,h.bl⟩) (fun z z' ds J h=>h.low z')
   (fun z ds J n h a7 hn a8 W hS=>by
    have A:ds.length≤1000000:=by
     have:=lK ds lo (hi-lo) W fun x hx=>by have:=hS x hx;unfold SW at this;omega
     omega
    obtain⟨r,H',u,Z⟩:=pL f F h n fun _=>A;rcases Z with⟨_,rfl,Y⟩ | ⟨H,_,_⟩
    ·exact⟨H',u,Y⟩
    ·omega)
   (fun z ds J n h hn _=>by
    obtain⟨r,H',u,Z⟩:=pL f F h n fun h=>by omega
    rcases Z with⟨H,_,_⟩ | ⟨_,rfl,Y⟩
    ·omega
    ·exact⟨H',u,z,Y⟩)
   q0
  have l:(m++[b7.box [.f (sl p.hg (ints p.head)),.f (fi p.fr),.f (fi p.aM),.f (sl p.cg (ints p.bf))] 0,.box [.f (fi lo)] 0]).length=5:=by simp [a]
  have O:Ev tab (.fn 188) [.c (.yl ((m++[b7.box [.f (sl p.hg (ints p.head)),.f (fi p.fr),.f (fi p.aM),.f (sl p.cg (ints p.bf))] 0,.box [.f (fi lo)] 0]).length+1)),.c (.ptr 3 0 0),.c (.ptr 4 0 0)] (m++[b7.box [.f (sl p.hg (ints p.head)),.f (fi p.fr),.f (fi p.aM),.f (sl p.cg (ints p.bf))] 0,.box [.f (fi lo)] 0]++[.fg ae,.lp 181 j [P.nat 12] kr iQ .ready ab (m++[b7.box [.f (sl p.hg (ints p.head)),.f (fi p.fr),.f (fi p.aM),.f (sl p.cg (ints p.bf))] 0,.box [.f (fi lo)] 0]).length]) (.t []) H':=by
   rw [l,←y];exact he
  refine fF (g:=188) (by rw [rm,E];simp [bW]) O ?_;rw [l];have v:∀(J:an) (st:dS) (k:Option aw) (z:Int),WQ p hi j st k z ds J→WP tab 181 ab [.code pQ] ⟨j,[.er 5],J⟩ Q:=by
   intro J st k z h;obtain⟨c,H,t,hc⟩:=h.ls;have l2:aX J ab (.c (.ptr 2 0 0))=aa (.c c):=by simp [aX,aH,H]
   have M:=t.set (fun e=>by have:=hc 5 e;omega) (.fg ag);obtain⟨g,hg⟩:=M.ex (Km.Ord.bV _) 63;apply ai;simp [F,l2,-ay];refine aD (w _ _ _ ⟨ds,g,rfl,X,B⟩ (.inr ⟨5,rfl,h.df,.c c,?_,?_⟩))
   ·exact dz (by simp)
   ·simp [me,deep,hg]
  rcases s with⟨z,h⟩ | ⟨z,h⟩
  ·refine gq h.lp (by decide) (ax (v _ _ _ z h.six))
  ·refine oU h.lp (by decide) (bg rfl (v _ _ _ z h.six))
 exact⟨L,g,h.eq,I,K⟩
theorem AS{x y:Int}(h:x≤y)(b:x≠y):x<y:=by omega
theorem wP{l:List Int}(g:l.Pairwise (·≤·)){i j:Nat}(b:i<j)(d:j<l.length):(l[i]'(by omega))≤l[j]:=alR.1 g i j (by omega) d b
theorem Jk{l:List Int}{j:Nat}{x:Int}(b:l[j]?=aa x):(ints l)[j]?=aa [fi x]:=by simp [ints,b]
theorem vw(l:List Int):(ints l).length=l.length:=by simp [ints]
theorem Jl(l:List Int)(j:Nat)(x:Int):(ints l).set j [fi x]=ints (l.set j x):=by simp [ints,List.map_set]
theorem xA{H:an}{b d:Nat}{l:List Int}(h:RB H b 1 d (ints l)){j:Nat}{x:Int}(g:l[j]?=aa x):aX H ab (.c (.ptr b j d))=aa (vi x):=by
 have:=h.ldc (Km.Ord.bV l) (Jk g) (k:=0) rfl;simpa using this
theorem y0{H:an}{b A:Nat}{l:List Int}(hl:l.length≤1000000)(hs:l.Pairwise (·≤·))(F:RB H b 1 A (ints l)) :
  ∃ r H',Ev tab (.fn 183) [.c (.sl b 0 l.length 0 A 1)] H r H' ∧
   (∃ l' R:List Int,r=.c (.sl b 0 l'.length 0 A 1)∧Fm b H H'∧RB H' b 1 A (ints (l'++R))∧l'.length≤l.length∧l'.Pairwise (· < ·)∧∀ x,x ∈ l'↔x ∈ l):=by
 refine cH rfl rfl fun Q hQ=>?_;apply ai;simp;apply au;apply ai;simp [F.len];by_cases h2:l.length<2
 ·refine av (by simp;omega) ?_;apply ai;simp;refine aD (hQ _ _ _ rfl (dz (by simp)) ⟨l,[],rfl,Fm.refl _,by simpa using F,alk _,?_,fun _=>Iff.rfl⟩)
  match l,h2 with
  | [],_=>exact List.Pairwise.nil| [x],_=>exact al1 _ _| x::y::r,h=>simp at h;omega
 refine aF (by simp;omega) (aP ?_);apply au;apply ai;simp;refine az ?_;refine bJ (fun n s=>∃(k:Nat) (t:T),s=⟨t,[],H⟩∧n=l.length-k∧1≤k∧k≤l.length∧t.g 0=.c (.sl b 0 l.length 0 A 1)∧t.g 3=vi k∧(l.take k).Pairwise (· < ·)) (l.length-1)
  ⟨1,_,rfl,rfl,by omega,by omega,by simp,by simp,?_⟩ ?_
 ·cases l with
  | nil=>simp| cons x r=>simp
 rintro n s ⟨k,t,rfl,rfl,i4,i6,B,E,hp⟩ ih;apply au;apply ai;simp [B,E,F.len];by_cases u:k<l.length
 case neg=>
  refine aF (by simp [u]) ?_;refine bg (k':=[.code na]) rfl ?_;apply ai;simp [B];refine aD (hQ _ _ _ rfl (dz (by simp)) ⟨l,[],rfl,Fm.refl _,by simpa using F,alk _,?_,fun _=>Iff.rfl⟩);rwa [alz (by omega)]at hp
 refine av (by simp [u]) (aP ?_);obtain⟨m,rfl⟩:∃ m,k=m+1:=⟨k-1,by omega⟩
 have ix:∀ {H:an} {rows:List (List FC)} (F:RB H b 1 A rows) (o n i:Nat) (hi:i<n),bB H 1 ab (.c (.sl b o n 0 A 1)) (vi i)=aa (.c (.ptr b (o+i) A)):=by
  intro H rows F o n i hi;have:=F.idx (n:=n) (c:=0) (k:=.i64) (o:=o) (i:=(i:Int)) (by omega) (by omega);rwa [alJ,am0]at this
 have i1:=ix F 0 l.length (m+1) u;have i0:=ix F 0 l.length m (by omega);have l1:=xA F (j:=m+1) (By u);have l0:=xA F (j:=m) (By (show m<l.length by omega));rw [amb]at i1 i0;have c1:((m+1:Nat):Int)-1=m:=by omega
 rw [show((m+1:Nat):Int)=(m:Int)+1 by omega]at i1;have d9:l.take (m+1+1)=l.take (m+1)++[l[m+1]]:=by rw [aly,By u];rfl
 apply au;refine az ?_;apply ai;simp [B,E,i1,i0,l1,l0,-ay,aO (n:=(m:Int))];by_cases hc:¬ l[m+1]=l[m]
 ·
  refine aF (by simp [hc]) (aP (ax ?_));refine aq (.inl rfl) ?_;simp [E,aO (n:=(m:Int)+1+1)];refine ih (l.length-(m+2)) _ (by omega) ⟨m+2,_,rfl,rfl,by omega,by omega,by simp [B],by simp;omega,?_⟩;show(l.take (m+1+1)).Pairwise (· < ·);have M:l[m]≠l[m+1]:=fun e=>hc e.symm;rw [d9,ama];refine⟨hp,al1 _ _,fun y hy z hz=>?_⟩;obtain rfl:=alm.1 hz;obtain⟨i,hi,rfl⟩:=alB hy;have i3:i<m+1:=by simp at hi;omega
  rw [List.getElem_take];by_cases e:i=m
  ·subst e;exact AS (wP hs (by omega) u) M
  ·exact Int.lt_trans (b:=l[m]) (by
    have h1:=alR.1 hp i m (by simp;omega) (by simp;omega) (by omega);simpa using h1) (AS (wP hs (by omega) u) M)
 ·
  have c9:l[m+1]=l[m]:=Classical.not_not.1 hc;have c2:((m+1:Nat):Int)=(m:Int)+1:=by omega
  have N:=F.lV (k:=m+1) u;rw [c2]at N;refine av (by simp [c9]) ?_;apply ai;simp [B,E,N];apply au;apply ai;simp;refine az ?_;refine bJ (fun n s=>∃(i:Nat) (t:T) (I:an) (P R:List Int),s=⟨t,[],I⟩∧n=l.length-(m+2+i)∧m+2+i≤l.length∧t.g 0=.c (.sl b 0 l.length 0 A 1)∧t.g 3=vi P.length∧t.g 4=.c (.sl b (m+1) (l.length-(m+1)) 0 A 1)∧t.g 5=vi ((i:Int)+1) ∧
   Fm b H I∧RB I b 1 A (ints (P++R))∧(P++R).length=l.length∧1≤P.length∧P.length≤m+1+i∧(∀ q,m+1+i≤q→(P++R)[q]?=l[q]?)∧P.Pairwise (· < ·)∧∀ x,x ∈ P↔x ∈ l.take (m+2+i)) (l.length-(m+2))
   ⟨0,_,H,l.take (m+1),l.drop (m+1),rfl,rfl,by omega,by simp [B],by simp [E];omega,by simp,by simp,Fm.refl _,by simpa using F,by simp,by simp;omega,by simp;omega,by simp,hp,fun x=>?_⟩ ?_
  ·show x ∈ l.take (m+1)↔x ∈ l.take (m+1+1);rw [d9,aln,alm];refine⟨.inl,fun h=>h.elim id fun e=>?_⟩;rw [e,c9];exact al6.2 ⟨m,by omega,rfl⟩
  rintro n s ⟨i,t,I,P,R,rfl,rfl,hi,B,E,U,W,J,d,v,X,d_,hq,L,g⟩ h_;have Z:=d.len (o:=(m+1)) (l:=l.length-(m+1)) (c:=0);apply au;apply ai;simp [U,W,Z];by_cases K:m+2+i<l.length
  case neg=>
   have b_:m+2+i=l.length:=by omega
   refine aF (by simp;omega) ?_;refine bg (k':=[.code pY,.inBlock 1,.code pZ,.inLoop pX,.inBlock 0,.code na]) rfl ?_;have a8:P.length<l.length:=by omega
   obtain⟨H3,a_,a7,f7⟩:=d.clr (Km.Ord.bV _) (zs:=[fi 0]) (by simpa using v) a8 rfl;rw [am0]at a_;have N:=d.lV a8;apply ai;simp [B,E,N,a_];have g_:=a7.Ad (n:=l.length) (k:=P.length) (by omega) (by omega);apply ai;simp [B,E,g_];have e3:(ints (P++R)).take P.length++List.replicate (l.length-P.length) [fi 0]=ints (P++List.replicate (l.length-P.length) 0):=by
    simp [ints]
   rw [e3]at a7;refine aD (hQ _ _ _ rfl (dz (by simp)) ⟨P,_,rfl,J.trans f7,a7,by omega,L,fun x=>?_⟩);rw [g,b_,alw]
  have ha:(P++R)[m+2+i]?=aa l[m+2+i]:=by rw [hq _ (by omega),By K]
  have e_:(P++R)[m+1+i]?=aa (l[m+1+i]'(by omega)):=by rw [hq _ (by omega),By]
  have j1:=ix d (m+1) (l.length-(m+1)) (i+1) (by omega);have j0:=ix d (m+1) (l.length-(m+1)) i (by omega);rw [show m+1+(i+1)=m+2+i by omega,show((i+1:Nat):Int)=(i:Int)+1 by omega]at j1;rw [show m+1+i=m+1+i by omega]at j0;have d1:=xA d ha;have d0:=xA d e_;refine av (by simp;omega) (aP ?_);apply au;refine az ?_;apply ai;simp [U,W,j1,j0,d1,d0,-ay,aO (n:=(i:Int))];have S:l.take (m+2+(i+1))=l.take (m+2+i)++[l[m+2+i]]:=by
   rw [show m+2+(i+1)=m+2+i+1 by omega,aly,By K];rfl
  have next:∀(t:T) (I:an) (P R:List Int),t.g 0=.c (.sl b 0 l.length 0 A 1)→t.g 3=vi P.length→t.g 4=.c (.sl b (m+1) (l.length-(m+1)) 0 A 1)→t.g 5=vi ((i:Int)+1) →
    Fm b H I→RB I b 1 A (ints (P++R))→(P++R).length=l.length→1≤P.length→P.length≤m+2+i→(∀ q,m+2+i≤q→(P++R)[q]?=l[q]?)→P.Pairwise (· < ·)→(∀ x,x ∈ P↔x ∈ l.take (m+2+(i+1))) →
    WP tab 183 ab [.inBlock 3,.code uU,.inLoop uT,.inBlock 2,.code pY,.inBlock 1,.code pZ,.inLoop pX,.inBlock 0,.code na] ⟨t,[],I⟩ Q:=by
   intro t I P R B E U W J d v X d_ hq L g;refine ax (aq (.inl rfl) ?_);simp [W,aO (n:=(i:Int)+1+1)];exact h_ (l.length-(m+2+(i+1))) _ (by omega) ⟨i+1,_,I,P,R,rfl,rfl,by omega,by simp [B],by simp [E],by simp [U],by simp,J,d,v,X,by omega,fun q h=>hq q (by omega),L,g⟩
  have f8:(l[m+1+i]'(by omega))≤l[m+2+i]:=wP hs (by omega) K;by_cases Y:¬ l[m+2+i]=l[m+1+i]
  ·have M:l[m+1+i]≠l[m+2+i]:=fun e=>Y e.symm;have c_:=AS f8 M;have kx:=ix d 0 l.length P.length (by omega);rw [amb]at kx;obtain⟨H3,s3,r3,f3,-⟩:=d.str (Km.Ord.bV _) (j:=P.length) (by rw [vw,v];omega) (row:=[fi l[m+2+i]]) rfl;rw [Jl]at r3;rw [am0]at s3;obtain⟨x0,R',rfl⟩:∃ x0 R',R=x0::R':=by
    cases R with
    | nil=>simp at v;omega| cons x0 R'=>exact⟨_,_,rfl⟩
   rw [rJ]at r3;refine av (by simp [Y]) ?_;apply ai;simp only [alo,alH]at s3;simp [B,E,U,W,j1,d1,kx,s3,-ay,-bw];refine aq (.inl rfl) ?_;simp [E,aO (n:=(P.length:Int)+1)];have e5:P++l[m+2+i]::R'=(P++[l[m+2+i]])++R':=by simp
   rw [e5]at r3;refine next _ H3 (P++[l[m+2+i]]) R' (by simp [B]) (by simp) (by simp [U]) (by simp [W]) (J.trans f3) r3 (by simpa using v) (by simp) (by simp;omega) (fun q h=>?_) ?_ fun x=>?_
   ·rw [←e5,←rJ P x0,sh (by omega)];exact hq q (by omega)
   ·rw [ama];refine⟨L,al1 _ _,fun y hy z hz=>?_⟩;obtain rfl:=alm.1 hz;obtain⟨q,f_,rfl⟩:=alB ((g y).1 hy);have i7:q<m+2+i:=by simp at f_;omega
    rw [List.getElem_take];by_cases e:q=m+1+i
    ·subst e;exact c_
    ·have h1:=wP hs (i:=q) (j:=m+1+i) (by omega) (by omega);omega
   ·rw [S,aln,aln,g]
  ·have O:l[m+2+i]=l[m+1+i]:=Classical.not_not.1 Y;refine aW (by simp [O]) ?_;refine next _ I P R (by simp [B]) (by simp [E]) (by simp [U]) (by simp [W]) J d v X (by omega) (fun q h=>hq q (by omega)) L fun x=>?_
   rw [S,aln,alm,g];refine⟨.inl,fun h=>h.elim id fun e=>?_⟩;rw [e,O];exact al6.2 ⟨m+1+i,by omega,rfl⟩
def CR(H:an)(c:C)(l:List Int):Prop:=(l=[]∧(c=.f .aA∨c=.f .es))∨(l≠[]∧∃ b d R fl,c=.sl b 0 l.length 0 d 1∧H[b]?=aa (.cO 1 ((l++R).map fun n=>.f (fi n)) fl d .loc))
theorem AV(l:List Int):(ints l).flatten.map C.f=l.map fun n=>.f (fi n):=by
 induction l with
 | nil=>rfl| cons a l b=>simp only [ints,alo,alG,amo]at b ⊢;rw [b];rfl
theorem vt(l:List Int):(ints l).flatten=l.map fi:=by
 induction l with
 | nil=>rfl| cons a l b=>simp only [ints,alo,alG]at b ⊢;rw [b];rfl
theorem acw{l:List Int}(h:l≠[])(g:Tg):sl g (ints l)=.fs (l.map fi) l.length:=by
 have:ints l≠[]:=by intro e;apply h;have:=congrArg List.length e;simpa [ints]using this
 rw [←vt];cases l with
 | nil=>exact absurd rfl h| cons a l=>simp [sl,ints]
theorem wB(c:C)(d:c=.f .aA∨c=.f .es)(H:an):∃ r H',Ev tab (.fn 183) [.c c] H r H'∧(r=.c c∧H'=H):=by
 have g:bh H c=aa 0:=by rcases d with rfl | rfl<;>rfl
 refine cH rfl rfl fun Q b=>?_;apply ai;simp;apply au;apply ai;simp [g];refine av (by simp) ?_;apply ai;simp;exact aD (b _ _ _ rfl (dz (by simp)) ⟨rfl,rfl⟩)
theorem AB{H:an}{c:C}{l:List Int}(F:l.length≤1000000)(I:l.Pairwise (·≤·))(h:LR H c 1 (ints l)) :
  ∃ j H' d,Ev tab (.fn 183) [.c c] H (.c j) H'∧CR H' j d∧Kb H H' c∧(aV j=aV c)∧d.length≤l.length∧d.Pairwise (· < ·)∧∀ x,x ∈ d↔x ∈ l:=by
 rcases h with⟨m,v⟩ | ⟨s,b,y,rfl,z⟩
 ·have m:l=[]:=by
   cases l with
   | nil=>rfl| cons a l=>simp [ints]at m
  subst m;obtain⟨r,H',q,rfl,rfl⟩:=wB c v H;exact⟨c,H',[],q,.inl ⟨rfl,v⟩,Kb.refl _ _,rfl,alk _,List.Pairwise.nil,fun _=>Iff.rfl⟩
 ·rw [vw];obtain⟨r,H',q,d,R,rfl,E,g,A,B,u⟩:=y0 F I z;refine⟨_,H',d,q,.inr ⟨fun e=>?_,b,y,R,0,rfl,?_⟩,Kb.aiH E,rfl,A,B,u⟩
  ·subst e;cases l with
   | nil=>simp [ints]at s| cons a l=>have:=(u a).2 alr;simp at this
  ·unfold RB at g;rw [g,AV]
theorem CR.ex{H:an}{c:C}{l:List Int}(h:CR H c l):∃ g,∀ n,eA (n+1) H c=aa (sl g (ints l)):=by
 rcases h with⟨rfl,rfl | rfl⟩ | ⟨hl,b,d,R,fl,rfl,h2⟩
 ·exact⟨.nil,fun _=>rfl⟩
 ·exact⟨.es,fun _=>rfl⟩
 ·refine⟨.fs,fun n=>?_⟩;simp only [jI,h2];rw [ba ⟨trivial,trivial,by simp⟩,amd,am0];have:((l++R).map fun n=>C.f (fi n)).take l.length=(l.map fi).map .f:=by simp
  rw [this,lO,acw hl];rfl
theorem CR.mk{H:an}{c:C}{l:List Int}(h:CR H c l)(n:Nat):CR (eX (n+1) c H) c l∧∀(i:Nat) (y:b7),H[i]?=aa y→aV c≠aa i→(eX (n+1) c H)[i]?=aa y:=by
 rcases h with⟨rfl,rfl | rfl⟩ | ⟨hl,b,d,R,fl,rfl,h2⟩
 ·exact⟨.inl ⟨rfl,.inl rfl⟩,fun i y hy _=>hy⟩
 ·exact⟨.inl ⟨rfl,.inr rfl⟩,fun i y hy _=>hy⟩
 ·have e:eX (n+1) (.sl b 0 l.length 0 d 1) H=H.set b (.cO 1 ((l++R).map fun n=>.f (fi n)) (Nat.max fl (0+l.length*1)) d .loc):=by
   simp only [po,h2];rw [jJ];intro x g;have g:=alY (amj g);obtain⟨m,_,rfl⟩:=alC.1 g;exact⟨_,rfl⟩
  rw [e];refine⟨.inr ⟨hl,b,d,R,_,rfl,BY (aj h2)⟩,fun i y hy hi=>?_⟩;rw [sh (by rintro rfl;exact hi rfl)];exact hy
def VR(H:an)(c:C)(b:Option Nat)(m:List Int):Prop:=∀ H':an,(∀ i y,b=aa i→H[i]?=aa y→H'[i]?=aa y)→bh H' c=aa m.length∧∀(k:Nat) (h:k<m.length),∃ p,bB H' 1 ab (.c c) (vi k)=aa (.c p)∧aX H' ab (.c p)=aa (vi m[k])
theorem CR.cut{H:an}{c:C}{l:List Int}(h:CR H c l){i:Nat}(hi:i≤l.length):∃ g m q,vW H 1 (.c c) (vi i) (vi i)=aa (.c (.f (sl g (ints (l.take i)))),m)∧(∀ H':an,(∀ j y,aV c=aa j→m[j]?=aa y→H'[j]?=aa y)→bM H' 1 (.c c) (aa (vi i)) ab ab=aa (.c q))∧(∀ j y,H[j]?=aa y→aV c≠aa j→m[j]?=aa y)∧m.length=H.length∧VR m q (aV c) (l.drop i):=by
 rcases h with⟨rfl,hc⟩ | ⟨hl,b,x,R,fl,rfl,h2⟩
 ·have d:i=0:=by simpa using hi
  subst d;rcases hc with rfl | rfl
  ·exact⟨.nil,H,.f .aA,rfl,fun _ _=>rfl,fun _ _ h _=>h,rfl,fun H' _=>⟨rfl,fun k h=>by simp at h⟩⟩
  ·exact⟨.es,H,.f .es,rfl,fun _ _=>rfl,fun _ _ h _=>h,rfl,fun H' _=>⟨rfl,fun k h=>by simp at h⟩⟩
 ·have z:bH l.length l.length ab (aa (vi i)) (aa (vi i))=aa (0,i,i):=by simp [bH,ff hi,ff (alk i)]
  have A:bH l.length l.length (aa (vi i)) ab ab=aa (i,l.length,l.length):=by simp [bH,ff hi]
  have J:∀(m:an) (fl:Nat),m[b]?=aa (.cO 1 ((l++R).map fun n=>.f (fi n)) fl x .loc)→∃ q,(∀ H':an,(∀ j y,aa b=aa j→m[j]?=aa y→H'[j]?=aa y)→bM H' 1 (.c (.sl b 0 l.length 0 x 1)) (aa (vi i)) ab ab=aa (.c q))∧VR m q (aa b) (l.drop i):=fun m fl h2=>by
   by_cases s:i=l.length
   ·refine⟨.f (.fs [] 0),fun H' u=>?_,fun H' _=>⟨by rw [s,anb];rfl,fun k h=>by rw [s,anb]at h;simp at h⟩⟩;have:0<l.length:=al0.2 hl;have h2:=u b _ rfl h2;simp only [bM,h2,and_self,if_true,A];simp [s,this]
   ·refine⟨.sl b i (l.length-i) 0 x 1,fun H' u=>?_,fun H' u=>?_⟩
    ·have h2:=u b _ rfl h2;simp only [bM,h2,and_self,if_true,A];simp [s]
    ·have v:=u b _ rfl h2;refine⟨by simp [bh,v],fun k h=>⟨.ptr b (i+k) x,?_,?_⟩⟩
     ·have u:k<l.length-i:=by simpa using h
      simp [bB,show gj (vi k)=aa (k:Int) from rfl,v,u]
     ·have u:i+k<l.length:=by simp at h;omega
      simp only [aX,aH,v,if_true,alP];rw [alv (by simp;omega)];have F:((l++R).map fun n=>C.f (fi n))[i+k]'(by simp;omega)=.f (fi l[i+k]):=by
       rw [amN,List.getElem_append_left u]
      rw [F];simp [aY]
  by_cases d:i=0
  ·subst d;obtain⟨q,B,E⟩:=J H fl h2;refine⟨.es,H,q,?_,B,fun _ _ h _=>h,rfl,E⟩;simp only [vW,bM,h2,and_self,if_true,z];simp [sl,ints,Tg.fc]
  ·have I:l.take i≠[]:=by
    intro e;have:=congrArg List.length e;simp at this;rcases this with h | h
    ·exact d h
    ·exact hl h
   obtain⟨q,B,E⟩:=J (H.set b (.cO 1 ((l++R).map fun n=>.f (fi n)) (Nat.max fl (i*1)) x .loc)) _ (BY (aj h2));refine⟨.fs,_,q,?_,B,fun j y hy K=>?_,by simp,E⟩
   ·have M:bM H 1 (.c (.sl b 0 l.length 0 x 1)) ab (aa (vi i)) (aa (vi i))=ab:=by
     simp only [bM,h2,and_self,if_true,z];simp [d]
    have L:aZ fcC (((l++R).map fun n=>C.f (fi n)).take (i*1))=aa ((l.take i).map fi):=by
     have:((l++R).map fun n=>C.f (fi n)).take (i*1)=((l.take i).map fi).map .f:=by
      rw [am0,←am6,alQ hi,List.map_map];rfl
     rw [this];generalize (l.take i).map fi=w;induction w with
     | nil=>rfl| cons a w N=>simp only [alo,aZ,fcC,N]
    simp only [vW,M,h2,and_self,if_true,ff hi];rw [ba ⟨trivial,by omega,by simp;omega⟩,L,acw I];simp [Nat.min_eq_left hi]
   ·rw [sh (by rintro rfl;exact K rfl)];exact hy
theorem zI{p:aI}(j:1≤p.aM){d d':Int}(g:p.fr≤d)(b:p.fr≤d')(h:p.aM ∣ d'-d):bK p d'=bK p d:=by
 unfold bK;rw [ba g,ba b];have:(d'-p.fr) % p.aM=(d-p.fr) % p.aM:=by
  rw [show d'-p.fr=(d'-d)+(d-p.fr) by omega,Int.add_emod,Int.emod_eq_zero_of_dvd h,Int.zero_add,amA _ (amL _)]
 rw [this]
theorem aeY(f:Bool→Bool→Bool){l m:aI}(X:cF l=ae)(Y:cF m=ae){st P:Int}(w:st=max l.fr m.fr)(H:yE l.aM m.aM P)(t:st≤1000000)(W:P≤1000000){L:List Int}(B:L.Pairwise (· < ·))(s:∀ d,d ∈ L↔0≤d∧d<st+P∧f (bK l d) (bK m d)=ae)(U:L.length≤1000000)
  {i:Nat} (A:∀ j (h:j<L.length),j<i→L[j]<st) (z:∀ j (h:j<L.length),i≤j→st≤L[j]) (M K:Tg) :
  cF ⟨M,L.take i,st,P,K,(L.drop i).map (· - st)⟩=ae∧∀ d,0≤d→bK ⟨M,L.take i,st,P,K,(L.drop i).map (· - st)⟩ d=f (bK l d) (bK m d):=by
 obtain⟨q1,q2,q3,q4,-⟩:=a6 X;obtain⟨w1,w2,w3,w4,-⟩:=a6 Y;have I:=H.pos;have E:∀ x ∈ L.take i,x ∈ L∧x<st:=fun x g=>by
  obtain⟨j,u,rfl⟩:=al6.1 g;exact⟨IT _,A j (by omega) (by omega)⟩
 have q:∀ x,x ∈ L.drop i↔x ∈ L∧st≤x:=fun x=>by
  constructor
  ·intro g;obtain⟨j,u,rfl⟩:=alB g;rw [amQ];exact⟨IT _,z _ _ (by omega)⟩
  ·rintro⟨g,t⟩;obtain⟨j,u,rfl⟩:=alB g;have a:i≤j:=by
    rcases alO j i with k | k
    ·have:=A j u k;omega
    ·exact k
   exact List.mem_of_getElem? (i:=j-i) (by rw [alK,show i+(j-i)=j by omega,By u])
 refine⟨pB (by show 0≤st;omega) (by show st≤_;omega) (by show 1≤P;omega) (by show P≤_;omega) (by show(L.take i).length+((L.drop i).map (· - st)).length≤_;simp;omega) (B.sublist (List.take_sublist _ _)) (fun x g=>?_) ?_ (fun x g=>?_),fun d Z=>?_⟩
 ·have:=E x g;exact⟨((s x).1 this.1).1,this.2⟩
 ·show((L.drop i).map (· - st)).Pairwise (· < ·);rw [List.pairwise_map];exact anK (fun h=>by omega) (B.sublist (List.drop_sublist i L))
 ·have g:x ∈ (L.drop i).map (· - st):=g;obtain⟨y,J,rfl⟩:=alC.1 g;obtain⟨F,S⟩:=(q y).1 J;have:=(s y).1 F;exact⟨by omega,by show y-st<P;omega⟩
 ·unfold bK;simp only;by_cases k:st≤d
  ·rw [ba k];have o:=amc (d-st) (show P≠0 by omega);have r:=al9 (d-st) I;have v:P ∣ d-(st+(d-st) % P):=by
    rw [show d-(st+(d-st) % P)=(d-st)-(d-st) % P by omega];exact Int.dvd_self_sub_emod
   have N:=zI (p:=l) q3 (d:=st+(d-st) % P) (d':=d) (by omega) (by omega) (amB H.da v);have O:=zI (p:=m) w3 (d:=st+(d-st) % P) (d':=d) (by omega) (by omega) (amB H.db v);have Q:(d-st) % P ∈ (L.drop i).map (· - st)↔f (bK l d) (bK m d)=ae:=by
    rw [alC,N,O];constructor
    ·rintro⟨y,J,e⟩;obtain⟨F,S⟩:=(q y).1 J;have:=((s y).1 F).2.2;rw [show st+(d-st) % P=y by omega];exact this
    ·intro h;exact⟨st+(d-st) % P,(q _).2 ⟨(s _).2 ⟨by omega,by omega,h⟩,by omega⟩,by omega⟩
   have b:decide ((d-st) % P ∈ (L.drop i).map (· - st))=f (bK l d) (bK m d):=by
    rw [Bool.eq_iff_iff,decide_eq_true_eq];exact Q
   unfold bK at b;exact b
  ·rw [aS k];have b:decide (d ∈ L.take i)=f (bK l d) (bK m d):=by
    rw [Bool.eq_iff_iff,decide_eq_true_eq];constructor
    ·intro h;exact((s d).1 (E d h).1).2.2
    ·intro h;have n:=(s d).2 ⟨Z,by omega,h⟩;obtain⟨j,u,rfl⟩:=alB n;have c:j<i:=by
      rcases alO j i with k | k'
      ·exact k
      ·have:=z j u k';omega
     exact al6.2 ⟨j,by omega,rfl⟩
   unfold bK at b;exact b
structure nI(p:aI):Prop where
 ok:cF p=ae
 fr:p.fr≤50
 aM:p.aM≤12
theorem nI.head{p:aI}(h:nI p):p.head.length≤50:=by
 obtain⟨j,l,m,q,s,d,g,u,v⟩:=a6 h.ok;have:=lK p.head 0 p.fr d fun x b=>by have:=g x b;omega
 have:=h.fr;omega
theorem nI.bf{p:aI}(h:nI p):p.bf.length≤12:=by
 obtain⟨j,l,m,q,s,u,v,d,g⟩:=a6 h.ok;have:=lK p.bf 0 p.aM d fun x b=>by have:=g x b;omega
 have:=h.aM;omega
structure OQ(J5:an)(bo:Nat)(hd:FC)(st P:Int)(cq:C)(kJ:List Int)(J:an):Prop where
 kp:∀ i:Nat,i<J5.length→i≠bo→J[i]?=J5[i]?
 bx:J[bo]?=aa (.box [.f hd,.f (fi st),.f (fi P),cq] 0)
 lq:LR J cq 1 (ints kJ)
 qb:∀ i,aV cq=aa i→J5.length≤i
 hl:J5.length≤J.length
theorem OQ.app{v:an}{j:Nat}{u:FC}{st P:Int}{z:C}{kJ:List Int}{J:an}(h:OQ v j u st P z kJ J)(B:j<v.length)(hl:kJ.length≤1000)(n:Int) :
  ∃ b g,bF (J++[.box [.f (fi n)] 0]) 1 8 (.c z) (.c (.sl J.length 0 1 1 0 1))=aa (.c b,g)∧dt g (.ptr j 3 0) [b]=aa (g.set j (.box [.f u,.f (fi st),.f (fi P),b] 0))∧OQ v j u st P b (kJ++[n]) (g.set j (.box [.f u,.f (fi st),.f (fi P),b] 0)):=by
 obtain⟨b,g,m,l,A,q,x⟩:=oZ h.lq (by omega) n;have E:=h.hl;have d:=q _ _ h.bx (h.lq.bz h.bx);refine⟨b,g,m,by simp [dt,d,over],fun i hi s=>?_,BY (aj d),l.set (l.bz d) _,fun i hi=>?_,by rw [alI];omega⟩
 ·rw [sh (Ne.symm s),←h.kp i hi s];have y:i<J.length:=by omega
  have hy:J[i]?=aa J[i]:=By y;rw [hy];exact q i _ hy fun e=>by have:=h.qb i e;omega
 ·rcases x with e | e
  ·rw [e]at hi;exact h.qb i hi
  ·rw [e]at hi;cases hi;omega
theorem xr(f:Bool→Bool→Bool){a b qa qb:aI}(ha:cF qa=ae)(hb:cF qb=ae){st P R:Int}(o8:st=max qa.fr qb.fr)(hP:yE qa.aM qb.aM P)(hs:st≤50)(r7:P≤12)(j7:P ∣ R)(t4:st≤max a.fr b.fr)(o5:∀ d,0≤d→f (bK qa d) (bK qb d)=f (bK a d) (bK b d))
  {J:an} {c cx cy:C} {L:List Int} {g:Int} {m bp:Nat} (hL:LR J c 1 (ints L)) (e_:L.length≤256) (f7:∀ d,d ∈ L↔0≤d∧d<st+P∧f (bK qa d) (bK qb d)=ae) (j2:J[2]?=aa (.box [.f .aA,.f (fi 0),.f (fi 0),.f .aA] 0)) (jp:J[bp]?=aa (.box (cB qa qb st cx cy g m) 0)) (r9:bp≠2)
  {t:T} (g6:t.g 6=.c (.ptr 2 0 0)) (M:t.g 8=.c (.ptr bp 0 0)) (g9:t.g 9=vi P) (c9:t.g 16=.c c) {Q:Option aw→St→Prop}
  (hQ:∀ j s r,(∃ q,cF q=ae∧q.fr≤max a.fr b.fr∧q.aM ∣ R∧(∀ d,0≤d→bK q d=f (bK a d) (bK b d))∧r=.t [.a (q.row.map .f),vi 0])→rW [.cell (Km.P.nat 6) (aa 4),.tmp (Km.P.nat 7)] r s→Q j s) :
  WP tab 135 ab [.code pP] ⟨t,[],J⟩ Q:=by
 obtain⟨q1,q2,q3,q4,-⟩:=a6 ha;have s_:=hP.pos;obtain⟨r,J1,a_,rfl,d9,l2,j4,u,n_⟩:=VC hL e_;apply ai;simp [c9,a_.eq];have r_:l2.length≤256:=by rw [u.length_eq];exact e_
 obtain⟨c',J2,l,a7,X,d_,A,s7,S,i4⟩:=AB (by omega) n_ j4;apply ai;simp [c9,a7.eq];have q_:∀(i:Nat) y,J[i]?=aa y→aV c≠aa i→J2[i]?=aa y:=fun i y H hn=>d_.2 i y (d9.2 i y H hn) hn;obtain⟨gx,a8⟩:=X.ex;have a8:=a8 63;obtain⟨N,n8⟩:=X.mk 63;obtain⟨i,hi,o4,g_,j9⟩:=fT gx l st (by omega) S;have kk:∀ k cs fl,J[k]?=aa (b7.box cs fl)→J2[k]?=aa (b7.box cs fl)∧(eX 64 c' J2)[k]?=aa (b7.box cs fl):=fun k cs fl B=>by
  have h1:=q_ k _ B (hL.bz B);exact⟨h1,n8 k _ h1 (by rw [A];exact hL.bz B)⟩
 obtain⟨J3,Y⟩:=aN (eX 64 c' J2);rw [←Y]at kk N;have L2:=qQ (kk bp _ _ jp).1;apply ai;simp [M,L2.kJ,-ay,a8,deep,j9,←Y];obtain⟨U,J4,c2,i6,o7,n9,o0,i_⟩:=N.cut hi;have b_:∀ k cs fl,J[k]?=aa (b7.box cs fl)→J4[k]?=aa (b7.box cs fl):=fun k cs fl B=>n9 k _ (kk k cs fl B).2 (by rw [A];exact hL.bz B);have L3:=qQ (kk bp _ _ jp).2;have L4:=qQ (b_ bp _ _ jp);refine au (eP (.inl rfl) ?_ ?_)
 case refine_2=>
  intro cc l_;have k_:cc=(5,3):=by simpa using l_
  subst k_;refine⟨by decide,_,rfl,.inr ⟨by decide,?_⟩⟩;simp [M,i6,L3.kJ,L4.kJ,-ay,fH,qh]
 simp [M,g9,i6,L4.kJ,-ay];obtain⟨K,Z⟩:=aN (J4.length);obtain⟨I,F⟩:=aN (J4++[b7.box [.f (sl U (ints (l.take i))),.f (fi st),.f (fi P),.f .aA] 0]);have k5:∀(k:Nat) y,J4[k]?=aa y→I[k]?=aa y:=fun k y B=>by rw [F,AT (aj B)];exact B
 have b5:I[K]?=aa (.box [.f (sl U (ints (l.take i))),.f (fi st),.f (fi P),.f .aA] 0):=by rw [F,Z];simp
 have l5:I.length=K+1:=by rw [F];simp [Z]
 rw [←F,←Z];have i7:=o7 I fun j y _ H=>k5 j y H;have o9:=i_ I fun j y _ H=>k5 j y H;have j_:∀ j,aV c'=aa j→j<K:=fun j hj=>by
  rw [A]at hj;have h1:=hL.lt hj;have h2:=d9.1;have h3:=d_.1;have h4:J3.length=J2.length:=by
   rw [Y];rcases X with⟨-,rfl | rfl⟩ | ⟨-,b,ep,R,fl,rfl,h2⟩
   ·rfl
   ·rfl
   ·simp only [po,h2];rw [jJ]
    ·simp
    ·intro x hx;have hx:=alY (amj hx);obtain⟨m,_,rfl⟩:=alC.1 hx;exact⟨_,rfl⟩
  omega
 have q0:OQ I K (sl U (ints (l.take i))) st P (.f .aA) [] I:=⟨fun _ _ _=>rfl,b5,by simpa [ints]using LR.nil _ _,fun _ h=>(by cases h),alk _⟩
 apply au;apply ai;simp [i7,o9.1];refine bZ (l.drop i).length (fun j t J=>t.g 6=.c (.ptr 2 0 0)∧t.g 8=.c (.ptr bp 0 0)∧t.g 19=.c (.ptr K 0 0)∧t.g 149=.c c2∧∃ cq,OQ I K (sl U (ints (l.take i))) st P cq (((l.drop i).take j).map (· - st)) J) (by rw [alD];omega) (by decide) (by decide) (by simp) (by simp)
  ⟨by simp [g6],by simp [M],by simp,by simp,.f .aA,by simpa using q0⟩ ?_ ?_
 ·rintro j t J' hj ⟨g6,M,E,z,cq,v⟩ f8 j8 next
  have o_:=(i_ J' fun k y B H=>by
   have:=j_ k B;rw [v.kp k (by omega) (by omega)];exact k5 k y H).2 j hj
  obtain⟨p,m_,i3⟩:=o_;have i9:(l.drop i).take (j+1)=(l.drop i).take j++[(l.drop i)[j]]:=by rw [aly,By hj];rfl
  have h_:i+j<l.length:=by rw [alD]at hj;omega
  have p8:st≤(l.drop i)[j]∧(l.drop i)[j]<st+P:=by
   rw [amQ];exact⟨g_ _ h_ (by omega),((f7 _).1 (u.mem_iff.1 ((i4 _).1 (IT h_)))).2.1⟩
  obtain⟨x,hx⟩:=aN ((l.drop i)[j]);rw [←hx]at i3 i9 p8;have n6:J'[bp]?=aa (.box (cB qa qb st cx cy g m) 0):=by
   have h4:=b_ bp _ _ jp;have:=aj h4;rw [v.kp bp (by omega) (by omega)];exact k5 bp _ h4
  have LJ:=qQ n6;have p_:aX J' ab (.c (.ptr K 3 0))=aa (.c cq):=by simp [aX,aH,v.bx]
  obtain⟨c3,H3,f_,i8,o6⟩:=v.app (by omega) (by rw [alq,alV];omega) (x-st);refine az ?_;apply ai;simp [f8,z,m_,i3,-ay];refine aq (.inl rfl) ?_;simp [M,E,p_,LJ.kJ,-ay,aO (n:=x-st),f_,i8,-bw];refine ax (next _ _ ?_ (by simp [f8]) (by simp [j8]));refine⟨by simp [g6],by simp [M],by simp [E],by simp [z],c3,?_⟩;rw [i9];simpa using o6
 ·rintro t J' ⟨g6,M,E,z,cq,v⟩ - -;rw [alw]at v;obtain⟨W,hW⟩:=aN ((l.drop i).map (· - st));have r8:W.length≤256:=by rw [hW];simp;omega
  rw [←hW]at v;obtain⟨gc,m9⟩:=v.lq.VW (Km.Ord.bV _);have x3:=m9 J' 63 (fun i y H _=>H);obtain⟨o1,o2⟩:=aeY f ha hb o8 hP (by omega) (by omega) S (fun d=>by rw [i4,u.mem_iff];exact f7 d) (by omega) o4 g_ U gc;rw [←hW]at o1 o2;obtain⟨q,⟨d1,d2,d3,d4⟩,-,-,O⟩:=mw ⟨U,l.take i,st,P,gc,W⟩ o1 (by show W.length≤_;omega) (by show(l.take i).length≤_;simp;omega);simp only [aI.row,alo,alH]at O d2 d3;have p9:aX J' (aa 4) (.c (.ptr K 0 0))=aa (.a [.f (sl U (ints (l.take i))),.f (fi st),.f (fi P),cq]):=by simp [aX,aH,v.bx,aY]
  have u3:=UD v.lq;simp only [deep]at u3;have j3:J'[2]?=aa (.box [.f .aA,.f (fi 0),.f (fi 0),.f .aA] 0):=by
   have h4:=b_ 2 _ _ j2;have:=aj h4;rw [v.kp 2 (by omega) (by omega)];exact k5 2 _ h4
  have w2:=u3 2 _ j3 (v.lq.bz j3);obtain⟨JM,c_⟩:=aN (eX 64 cq J');rw [←c_]at w2;have t2:dt JM (.ptr 2 0 0) [.f (sl q.hg (ints q.head)),.f (fi q.fr),.f (fi q.aM),.f (sl q.cg (ints q.bf))]=aa (JM.set 2 (.box [.f (sl q.hg (ints q.head)),.f (fi q.fr),.f (fi q.aM),.f (sl q.cg (ints q.bf))] 0)):=by simp [dt,w2,over]
  have n2:(JM.set 2 (.box [.f (sl q.hg (ints q.head)),.f (fi q.fr),.f (fi q.aM),.f (sl q.cg (ints q.bf))] 0))[2]?=aa (.box [.f (sl q.hg (ints q.head)),.f (fi q.fr),.f (fi q.aM),.f (sl q.cg (ints q.bf))] 0):=BY (aj w2);apply ai;simp [g6,E,p9,-ay,x3,deep,O,←c_,t2,-bw];refine aD (hQ _ _ _ ⟨q,d1,by omega,amB d3 j7,fun d hd=>?_,rfl⟩ ⟨rfl,.t [.a [.f (sl q.hg (ints q.head)),.f (fi q.fr),.f (fi q.aM),.f (sl q.cg (ints q.bf))],vi 0],?_,?_⟩)
  ·rw [d4 d hd,o2 d hd,o5 d hd]
  ·simp [Km.results,cm,aZ,g6,n2,aY]
  ·simp [aI.row,me,dE,aZ]
theorem tI{b d:aI}{st P:Int}(u:1≤b.aM)(v:1≤d.aM)(q:st=max b.fr d.fr){X Y:List Int}(l:yG b st X)(m:yG d st Y){k:Int}(s:0≤k):(bK b (st+k)=ae↔k % b.aM ∈ X)∧(bK d (st+k)=ae↔k % d.aM ∈ Y):=by
 have g:=l.2.2.2 (st+k) (by omega);have j:=m.2.2.2 (st+k) (by omega);rw [show st+k-st=k by omega]at g j;exact⟨g,j⟩
theorem tn(a b:aI)(sa:nI a)(sb:nI b){R:Int}(R0:0<R)(R1:R≤12)(Ra:a.aM ∣ R)(Rb:b.aM ∣ R)(j:Int)(f:Bool→Bool→Bool)(hk:(j=0∧f=fun x y=>x&&y)∨(j=1∧f=fun x y=>x||y)) :
  ∃ q,cF q=ae∧q.fr≤max a.fr b.fr∧q.aM ∣ R∧(∀ d,0≤d→bK q d=f (bK a d) (bK b d))∧bX tab 135 [.a (a.row.map .f),.a (b.row.map .f),vi j]=Eq (.t [.a (q.row.map .f),vi 0]):=by
 have va:=qu a (jN sa.ok);have c9:=qu b (jN sb.ok);rw [sa.ok]at va;rw [sb.ok]at c9;simp only [aI.row,alo,alH]at va c9;have t4:=sa.aM;have t5:=sb.aM;have v6:=sa.fr;have v8:=sb.fr;have v9:=sa.head;have v_:=sb.head;have u9:=sa.bf;have u_:=sb.bf;obtain⟨r,⟨q,c1,c2,c3,c4,rfl⟩,h⟩:∃ r,(∃ q,cF q=ae∧q.fr≤max a.fr b.fr∧q.aM ∣ R∧(∀ d,0≤d→bK q d=f (bK a d) (bK b d))∧r=.t [.a (q.row.map .f),vi 0])∧bX tab 135 [.a (a.row.map .f),.a (b.row.map .f),vi j] r:=by
  refine eQ rfl rfl fun Q hQ=>?_;apply ai;simp [aI.row];obtain⟨HA,Z⟩:=aN ([.box [.f (sl a.hg (ints a.head)),.f (fi a.fr),.f (fi a.aM),.f (sl a.cg (ints a.bf))] 0,.box [.f (sl b.hg (ints b.head)),.f (fi b.fr),.f (fi b.aM),.f (sl b.cg (ints b.bf))] 0,.box [.f .aA,.f (fi 0),.f (fi 0),.f .aA] 0]:an);rw [←Z];have al:HA.length=3:=by rw [Z];rfl
  have l0:aX HA (aa 4) (.c (.ptr 0 0 0))=aa (.a [.f (sl a.hg (ints a.head)),.f (fi a.fr),.f (fi a.aM),.f (sl a.cg (ints a.bf))]):=by rw [Z];simp [aX,aH,aY]
  have l1:aX HA (aa 4) (.c (.ptr 1 0 0))=aa (.a [.f (sl b.hg (ints b.head)),.f (fi b.fr),.f (fi b.aM),.f (sl b.cg (ints b.bf))]):=by rw [Z];simp [aX,aH,aY]
  have a2:HA[2]?=aa (.box [.f .aA,.f (fi 0),.f (fi 0),.f .aA] 0):=by rw [Z];rfl
  apply au;apply ai;simp [l0,l1,-ay,va,c9];refine aW (by simp) ?_;obtain⟨r,HN,a_,s,u,st,X,Y,cx,cy,l,m,N,sA,sB,xa,xb,ya,yb,rfl,b_,hX,hY,i9,r7⟩:=Be a b sa.ok sb.ok (by omega) (by omega) (by omega) (by omega) (by omega) (by omega) HA;simp only [aI.row,alo,alH]at a_;obtain⟨q1,q2,q3,q4,q5,q6,q7,q8,q9⟩:=a6 sA.ok;obtain⟨w1,w2,w3,w4,w5,w6,w7,w8,w9⟩:=a6 sB.ok;obtain⟨g,hg⟩:=aN ((amf s.aM u.aM:Int):Int);rw [←hg]at a_ i9;have l_:s.aM ∣ R:=amB sA.aM Ra;have m9:u.aM ∣ R:=amB sB.aM Rb;obtain⟨P,hP⟩:=aN (s.aM / (amf s.aM u.aM:Int)*u.aM);have e_:yE s.aM u.aM P:=hP▸Uw q3 w3;have i_:P ∣ R:=e_.dvd R l_ m9;have E:P≤12:=amy (amn R0 i_) R1;have y6:=e_.pos;have t9:s.aM≤12:=amy (amn R0 l_) R1;have t_:u.aM≤12:=amy (amn R0 m9) R1;have u5:=sA.fr;have u6:=sB.fr;have g0:0<g:=by rw [hg];have:=amt u.aM (show s.aM≠0 by omega);omega
  have r_:∀ d,0≤d→f (bK s d) (bK u d)=f (bK a d) (bK b d):=fun d hd=>by rw [sA.mem d hd,sB.mem d hd]
  have d9:=abG q3 (by omega:s.aM≤1000) w3 (by omega:u.aM≤1000);rw [←hP]at d9;have p8:X.length≤12:=by have:=hX.1;omega
  have p9:Y.length≤12:=by have:=hY.1;omega
  obtain⟨bp,f_⟩:=aN (HN.length);obtain⟨A,W⟩:=aN (HN++[b7.box (cB s u st cx cy g m) 0]);have l4:A.length=bp+1:=by rw [W];simp [f_]
  have p4:A[bp]?=aa (.box (cB s u st cx cy g m) 0):=by rw [W,f_];simp
  have c_:PH A N X Y g l cx cy m:=i9.bu fun i hi=>by rw [W,AT hi]
  have z2:HN[2]?=aa (.box [.f .aA,.f (fi 0),.f (fi 0),.f .aA] 0):=by rw [r7 2 (by omega)];exact a2
  have z4:A[2]?=aa (.box [.f .aA,.f (fi 0),.f (fi 0),.f .aA] 0):=by rw [W,AT (aj z2)];exact z2
  have t6:2<bp:=by have:=aj z2;omega
  apply ai;simp [l0,l1,-ay,a_.eq,vO];rw [←W,←f_]
  suffices z:∀ t:T,t.g 2=vi j→t.g 6=.c (.ptr 2 0 0)→t.g 8=.c (.ptr bp 0 0)→WP tab 135 ab [.code uF] ⟨t,[],A⟩ Q by exact z _ (by simp) (by simp) (by simp)
  clear a_ l0 l1 va c9;intro t g2 g6 B;have L4:=qQ p4;apply ai;simp [B,L4.lap,L4.lbp,-ay,d9];apply au;apply ai;simp;refine aW (by simp) ?_;obtain⟨r,H5,j7,ch,K,rfl,i6,j9,j8,x8,t8,y4,r9⟩:=Uq s u sA.ok sB.ok (by omega) (by omega) st b_ cx cy g m A;have k5:∀(i:Nat) y,A[i]?=aa y→H5[i]?=aa y:=fun i y v=>by rw [j8 i (aj v)];exact v
  have p5:=k5 _ _ p4;have o:=c_.bu j8;have L5:=qQ p5;obtain⟨r,H6,I,n,rfl,n0,n1,g_,x9⟩:=IE s u st o g0 (fun x hx=>by have:=hX.2.2.1 x hx;omega) (by omega) (by omega);have k6:∀(i:Nat) y,H5[i]?=aa y→H6[i]?=aa y:=fun i y v=>by rw [g_ i (aj v)];exact v
  have p6:=k6 _ _ p5;have L6:=qQ p6;have t7:K.length≤100:=by omega
  have lh:bh H5 ch=aa K.length:=by have:=i6.len;simpa [ints]using this
  apply ai;simp [B,L4.Uu,-ay,j7.eq];apply ai;simp [B,lh,L5.Uu,-ay,I.eq,aO (n:=(K.length:Int)+n)];obtain⟨ka,y7,y8,f7⟩:=vP s sA.ok (by omega) (by omega) st (by omega) (by omega);obtain⟨kb,y9,y_,f8⟩:=vP u sB.ok (by omega) (by omega) st (by omega) (by omega);simp only [aI.row,alo,alH]at f7 f8;have lX:bh H6 cx=aa X.length:=by have:=(o.bu g_).lx.len;simpa [ints]using this
  have lY:bh H6 cy=aa Y.length:=by have:=(o.bu g_).ly.len;simpa [ints]using this
  have d1:bP .quo (vi P) (vi s.aM)=aa (vi (P / s.aM)):=fy (by omega) (by omega) (by omega);have d2:bP .quo (vi P) (vi u.aM)=aa (vi (P / u.aM)):=fy (by omega) (by omega) (by omega);have e1:0≤P / s.aM∧P / s.aM≤12:=⟨amr (by omega) (by omega),amy (amC _ (by omega)) E⟩
  have e2:0≤P / u.aM∧P / u.aM≤12:=⟨amr (by omega) (by omega),amy (amC _ (by omega)) E⟩
  have m1:0≤(X.length:Int)*(P / s.aM)∧(X.length:Int)*(P / s.aM)≤12*12:=⟨ams (by omega) e1.1,amE (by omega) e1.2 e1.1 (by omega)⟩
  have m2:0≤(Y.length:Int)*(P / u.aM)∧(Y.length:Int)*(P / u.aM)≤12*12:=⟨ams (by omega) e2.1,amE (by omega) e2.2 e2.1 (by omega)⟩
  obtain⟨u1,h_⟩:=aN ((X.length:Int)*(P / s.aM));obtain⟨u2,i3⟩:=aN ((Y.length:Int)*(P / u.aM));rw [←h_]at m1;rw [←i3]at m2;apply ai;simp [B,L6.la,L6.kJ,L6.lx,L6.lap,-ay,f7,lX,d1,←h_,aO (n:=u1),aO (n:=ka+u1)];apply ai;simp [B,L6.lb,L6.kJ,L6.ly,L6.lbp,-ay,f8,lY,d2,←i3,aO (n:=u2),aO (n:=kb+u2)];obtain⟨O,m_⟩:=aN ((K.length:Int)+n);obtain⟨p,n6⟩:=aN (ka+u1);obtain⟨v2,n8⟩:=aN (kb+u2);rw [←m_,←n6,←n8];have b0:0≤O∧O≤12100:=by omega
  have b1:0≤p∧p≤60000:=by omega
  have b2:0≤v2∧v2≤60000:=by omega
  suffices z:∀ t:T,t.g 2=vi j→t.g 6=.c (.ptr 2 0 0)→t.g 8=.c (.ptr bp 0 0)→t.g 9=vi P→t.g 11=.c ch→t.g 12=vi O→t.g 13=vi p→t.g 14=vi v2→WP tab 135 ab [.code uG] ⟨t,[],H6⟩ Q by exact z _ (by simp [g2]) (by simp [g6]) (by simp [B]) (by simp) (by simp) (by simp) (by simp) (by simp)
  clear f7 f8 d1 d2 e1 e2 m1 m2 h_ i3 m_ n6 n8 lX lY j7 I;clear g2 g6 B t;intro t g2 g6 B g9 o4 o5 o6 o7;apply au;apply ai;simp [o5,o6,o7,aO (n:=p+v2),aO (n:=p+v2-O),aO (n:=p-O)];obtain⟨U,a7⟩:=aN (H6++[b7.box [.f (fi O),.f (fi (p+v2-O)),.f (fi (p-O))] 0]);obtain⟨bc,j3⟩:=aN (H6.length);rw [←a7,←j3];have c7:U[bc]?=aa (.box [.f (fi O),.f (fi (p+v2-O)),.f (fi (p-O))] 0):=by rw [a7,j3];simp
  have k7:∀(i:Nat) y,H6[i]?=aa y→U[i]?=aa y:=fun i y v=>by rw [a7,AT (aj v)];exact v
  have i4:∀ i:Nat,i<A.length→U[i]?=A[i]?:=fun i hi=>by
   have v:A[i]?=aa A[i]:=By hi;rw [v];exact k7 i _ (k6 i _ (k5 i _ v))
  have l7:A.length≤U.length:=by rw [a7,alj];omega
  have o0:∃ w:Int,bB U 1 (aa 3) (.c (.ptr bc 0 0)) (vi j)=aa (.c (.ptr bc j.toNat 0))∧aX U ab (.c (.ptr bc j.toNat 0))=aa (vi w)∧w≤1048576:=by
   rcases hk with⟨rfl,-⟩ | ⟨rfl,-⟩
   ·exact⟨O,by simp [bB,c7,gj],by simp [aX,aH,c7,aY],by omega⟩
   ·exact⟨p+v2-O,by simp [bB,c7,gj],by simp [aX,aH,c7,aY],by omega⟩
  obtain⟨w,ci,cl,cw⟩:=o0;apply ai;simp [g2,ci,cl,-ay,show¬ 1048576<w by omega];refine aW (by simp) ?_;apply ai;simp;apply au;apply ai;simp;refine az ?_;have p7:=k7 _ _ p6;have L7:=qQ p7;have rest:∀(t:T) (J:an) (c:C) (L:List Int),t.g 6=.c (.ptr 2 0 0)→t.g 8=.c (.ptr bp 0 0)→t.g 9=vi P→t.g 16=.c c→LR J c 1 (ints L)→L.length≤256→(∀ d,d ∈ L↔0≤d∧d<st+P∧f (bK s d) (bK u d)=ae)→(∀ i:Nat,i<A.length→J[i]?=A[i]?)→WP tab 135 ab [.code pP] ⟨t,[],J⟩ Q:=by
   intro t J c L g6 B g9 o8 hL o9 o_ hJ;exact xr f sA.ok sB.ok b_ e_ (by omega) E i_ (by omega) r_ hL o9 o_ (by rw [hJ 2 (by omega)];exact z4) (by rw [hJ bp (by omega)];exact p4) (by omega) g6 B g9 o8 hQ
  rcases hk with⟨rfl,rfl⟩ | ⟨rfl,rfl⟩
  ·
   obtain⟨r,H8,r8,c,M,rfl,e,-,p_,x_,u7,i7,i8⟩:=UL (L0:=K) (ch:=ch) (H:=U) s u st c_ i4 l7 (i6.bu fun i y v _=>k7 i y (k6 i y v)) j9 hg q3 w3 hP E (fun x hx=>hX.2.2.1 x hx) (fun y v=>hY.2.2.1 y v) p8 p9 (by omega) (by omega) (by omega);apply ai;simp [g2];refine av (by simp) (aq (.inl rfl) ?_);simp [B,o4,L7.Uu,-ay,r8.eq];refine ax (rest _ H8 c (K++M) (by simp [g6]) (by simp [B]) (by simp [g9]) (by simp) e (by rw [alj];omega) (fun d=>?_) p_);rw [aln,r9];simp only [If];constructor
   ·rintro(⟨h0,h1,S,h3⟩ | h)
    ·exact⟨h0,by omega,S,h3⟩
    ·obtain⟨k,rfl,k0,k1,ka,kb⟩:=i7 d h;obtain⟨s1,s2⟩:=tI (P:=P) q3 w3 b_ hX hY k0;exact⟨by omega,by omega,s1.2 ka,s2.2 kb⟩
   ·rintro⟨h0,h1,S,h3⟩;by_cases hd:d<st
    ·exact .inl ⟨h0,hd,S,h3⟩
    ·obtain⟨s1,s2⟩:=tI (P:=P) q3 w3 b_ hX hY (k:=d-st) (by omega);rw [show st+(d-st)=d by omega]at s1 s2;have:=i8 (d-st) (by omega) (by omega) (s1.1 S) (s2.1 h3);rw [show st+(d-st)=d by omega]at this;exact .inr this
  ·
   obtain⟨L1,g1,n9,s7,j_⟩:=wb s sA.ok (by omega) (by omega) 0 (st+P) (by omega) (by omega) (by omega);obtain⟨L2,d_,n_,s_,k_⟩:=wb u sB.ok (by omega) (by omega) 0 (st+P) (by omega) (by omega) (by omega);simp only [aI.row,alo,alH]at n9 n_;have w_:L1.length≤62:=by
    have:=lK L1 0 (st+P) s7 fun x hx=>by have:=(j_ x).1 hx;unfold SW at this;omega
    omega
   have x6:L2.length≤62:=by
    have:=lK L2 0 (st+P) s_ fun x hx=>by have:=(k_ x).1 hx;unfold SW at this;omega
    omega
   apply ai;simp [g2];refine aF (by simp) ?_;apply ai;simp;refine av (by simp) (aq (.inl rfl) ?_);obtain⟨H8,a8⟩:=aN (U++[b7.box [.f (sl g1 (ints L1)),.f (sl d_ (ints L2))] 0]);have c8:H8[U.length]?=aa (.box [.f (sl g1 (ints L1)),.f (sl d_ (ints L2))] 0):=by rw [a8];simp
   have j4:(ints L1++ints L2)=ints (L1++L2):=by simp [ints]
   obtain⟨r,H9,I,c,rfl,e,q_,-,-⟩:=ve (tab:=tab) (H:=H8) (F:=180) (G:=219) (sz:=1) (bytes:=8) (zs:=[fi 0]) adM adQ (by decide) rfl (b:=U.length) [(.f (sl g1 (ints L1)),ints L1),(.f (sl d_ (ints L2)),ints L2)] c8 (by simp)
    (fun x hx=>by
     simp only [alW,List.not_mem_nil,or_false]at hx;rcases hx with rfl | rfl
     ·exact⟨Km.Ord.bV _,fun H' _=>⟨by simp,oB (Km.Ord.bV _)⟩⟩
     ·exact⟨Km.Ord.bV _,fun H' _=>⟨by simp,oB (Km.Ord.bV _)⟩⟩)
    (by simp [ints];omega) (dG (by simp [ints];omega) (by decide))
   have e:LR H9 c 1 (ints (L1++L2)):=by
    rw [←j4];simpa using e
   have I:Ev tab (.fn 180) [.c (.sl U.length 0 2 2 0 1)] H8 (.c c) H9:=I;simp [B,g9,L7.la,L7.lb,L7.kJ,-ay,aO (n:=st+P),n9,n_,←a8,I.eq];refine ax (rest _ H9 c (L1++L2) (by simp [g6]) (by simp [B]) (by simp [g9]) (by simp) e (by rw [alj];omega) (fun d=>?_) fun i hi=>?_)
   ·rw [aln,j_,k_];unfold SW;simp only [Bool.or_eq_true];constructor
    ·rintro(⟨h0,h1,S⟩ | ⟨h0,h1,S⟩)
     ·exact⟨h0,h1,.inl S⟩
     ·exact⟨h0,h1,.inr S⟩
    ·rintro⟨h0,h1,S | S⟩
     ·exact .inl ⟨h0,h1,S⟩
     ·exact .inr ⟨h0,h1,S⟩
   ·rw [q_ i (by rw [a8,alj];omega),a8,AT (by omega)];exact i4 i hi
 exact⟨q,c1,c2,c3,c4,h.eq⟩
theorem adk(a b:aI)(E:nI a)(F:nI b){R:Int}(j:0<R)(l:R≤12)(m:a.aM ∣ R)(s:b.aM ∣ R) :
  ∃ q,cF q=ae∧q.fr≤max a.fr b.fr∧q.aM ∣ R∧(∀ d,0≤d→bK q d=(bK a d&&bK b d))∧bX tab 155 [.a (a.row.map .f),.a (b.row.map .f)]=Eq (.t [.a (q.row.map .f),vi 0]):=by
 obtain⟨q,u,v,z,A,g⟩:=tn a b E F j l m s 0 (fun x y=>x&&y) (.inl ⟨rfl,rfl⟩);refine⟨q,u,v,z,A,bX.eq (cz rfl rfl fun Q B=>?_)⟩;simp only [aI.row,alo,alH]at g ⊢;apply ai;simp;apply ai;simp [g];refine aD (B _ _ ?_);simp [aI.row]
theorem ahK(a b:aI)(E:nI a)(F:nI b){R:Int}(j:0<R)(l:R≤12)(m:a.aM ∣ R)(s:b.aM ∣ R) :
  ∃ q,cF q=ae∧q.fr≤max a.fr b.fr∧q.aM ∣ R∧(∀ d,0≤d→bK q d=(bK a d||bK b d))∧bX tab 113 [.a (a.row.map .f),.a (b.row.map .f)]=Eq (.t [.a (q.row.map .f),vi 0]):=by
 obtain⟨q,u,v,z,A,g⟩:=tn a b E F j l m s 1 (fun x y=>x||y) (.inr ⟨rfl,rfl⟩);refine⟨q,u,v,z,A,bX.eq (cz rfl rfl fun Q B=>?_)⟩;simp only [aI.row,alo,alH]at g ⊢;apply ai;simp;apply ai;simp [g];refine aD (B _ _ ?_);simp [aI.row]
def cY(p:aI):List C:=[.f (sl p.hg (ints p.head)),.f (fi p.fr),.f (fi p.aM),.f (sl p.cg (ints p.bf))]
theorem eB(p:aI):cY p=p.row.map .f:=rfl
theorem oK(n:Nat)(J:an)(p:aI):aZ (eA n J) (cY p)=aa p.row:=by rw [eB,lO]
theorem pk(n:Nat)(J:an)(p:aI):List.foldl (fun H x=>eX n x H) J (cY p)=J:=by
 rw [eB,jJ];intro x b;obtain⟨y,-,rfl⟩:=alC.1 b;exact⟨y,rfl⟩
def dp(ps:List aI):List (List C):=ps.map cY
theorem eC(ps:List aI):(dp ps).length=ps.length:=by simp [dp]
theorem en(ps:List aI):qG 4 (dp ps):=fun r b=>by
 obtain⟨p,-,rfl⟩:=alC.1 b;rfl
theorem og(ps:List aI):(dp ps).flatten=(aK ps).flatten.map .f:=by
 induction ps with
 | nil=>rfl
 | cons p ps g=>
  have b:dp (p::ps)=cY p::dp ps:=rfl;have d:aK (p::ps)=p.row::aK ps:=rfl;rw [b,d,alG,alG,amo,g,eB]
theorem qy(a b:List aI):dp (a++b)=dp a++dp b:=by simp [dp]
theorem JT(ps:List aI)(j:Nat):(dp ps).eraseIdx j=dp (ps.eraseIdx j):=by
 rw [amh,amh,qy];simp [dp,am6,anf]
def zp:aI:=⟨.nil,[],0,0,.nil,[]⟩
def BX(J:an)(b cap:Nat)(ps:List aI):Prop:=∃ rest,J[b]?=aa (.box ((dp ps).flatten++rest) 0)∧((dp ps).flatten++rest).length=cap*4
section
variable{J:an}{b cap:Nat}{ps:List aI}
theorem BX.lt(h:BX J b cap ps):b<J.length:=by obtain⟨_,h,_⟩:=h;exact aj h
theorem BX.push(h:BX J b cap ps)(L:an):BX (J++L) b cap ps:=by
 have:=h.lt;obtain⟨r,h1,h2⟩:=h;exact⟨r,by rw [AT this];exact h1,h2⟩
theorem BX.len(h:BX J b cap ps):bh J (.sl b 0 ps.length cap 0 4)=aa ps.length:=by
 obtain⟨r,h1,h2⟩:=h;simp [bh,h1]
theorem af8{rest:List C}{i:Nat}(hi:i<ps.length):(((dp ps).flatten++rest).drop (i*4)).take 4=cY ps[i]:=by
 have b:=dm (en ps);rw [eC]at b;rw [amp (by omega),lG i (en ps)];have e:(dp ps).drop i=cY ps[i] ::(dp ps).drop (i+1):=by
  rw [alv (by rw [eC];exact hi)];simp [dp]
 rw [e,alG,alU,alQ (by simp [cY])];exact alz (by simp [cY])
theorem BX.at(h:BX J b cap ps){i:Nat}(hi:i<ps.length):bB J 4 ab (.c (.sl b 0 ps.length cap 0 4)) (vi i)=aa (.c (.ptr b (i*4) 0))∧aX J (aa 4) (.c (.ptr b (i*4) 0))=aa (.a (cY ps[i])):=by
 obtain⟨r,h1,h2⟩:=h;refine⟨?_,?_⟩
 ·simp [bB,show gj (vi i)=aa (i:Int) from rfl,h1,hi]
 ·have hl:=dm (en ps);rw [eC]at hl;have:=af8 (rest:=r) hi;simp only [aX,aH,h1,alP,aY];rw [ba (by rw [alD,alj];omega),this]
theorem BX.st(h:BX J b cap ps){i:Nat}(hi:i<ps.length)(q:aI):∃ J',dt J (.ptr b (i*4) 0) (cY q)=aa J'∧BX J' b cap (ps.set i q)∧J'.length=J.length∧∀ k:Nat,k≠b→J'[k]?=J[k]?:=by
 obtain⟨r,h1,h2⟩:=h;have hl:=dm (en ps);rw [eC]at hl;have ho:over ((dp ps).flatten++r) (i*4) (cY q)=(dp (ps.set i q)).flatten++r:=by
  have d:(dp ps).flatten=(dp (ps.take i)).flatten++cY ps[i]++(dp (ps.drop (i+1))).flatten:=by
   have:ps=ps.take i++ps[i]::ps.drop (i+1):=by rw [←alv hi,al7]
   conv=>lhs;rw [this]
   rw [qy,amv,alU];rfl
  have g:(dp (ps.set i q)).flatten=(dp (ps.take i)).flatten++cY q++(dp (ps.drop (i+1))).flatten:=by
   rw [am7,ba hi,qy,amv,alU];rfl
  have j:((dp (ps.take i)).flatten).length=i*4:=by rw [dm (en _),eC,alV];omega
  rw [d,g,←j,alU,alU,zT];rw [amp (by simp [cY])];have:(cY ps[i]).drop (cY q).length=[]:=by simp [cY]
  rw [this,amg];simp only [alU]
 refine⟨_,?_,⟨r,BY (aj h1),?_⟩,by simp,fun k l=>sh (Ne.symm l)⟩
 ·simp only [dt,h1];rw [ba ⟨amu _,by rw [alj,hl];simp [cY];omega⟩,ho]
 ·rw [alj,dm (en _),eC,alI];rw [alj,hl]at h2;exact h2
theorem BX.del(h:BX J b cap ps){j:Nat}(q:j<ps.length)(g:cap≤1000000) :
  ∃ r H',Ev tab (.fn 156) [.c (.sl b 0 ps.length cap 0 4),vi j,vi (j+1:Nat)] J r H'∧(r=.c (.sl b 0 (ps.eraseIdx j).length cap 0 4)∧BX H' b cap (ps.eraseIdx j)∧H'.length=J.length∧∀ k:Nat,k≠b→H'[k]?=J[k]?):=by
 obtain⟨rest,h1,h2⟩:=h;obtain⟨r,H',m,s,d,rfl,hl⟩:=Z9 (tab:=tab) (F:=156) (sz:=4) (bytes:=64) (zs:=[.aA,fi 0,fi 0,.aA]) adO (by decide) rfl (en ps) h1 h2 (j:=j) (by rw [eC];exact q) g;rw [eC]at m s;have e:(dp ps).eraseIdx j=dp (ps.eraseIdx j):=JT ps j;rw [e]at hl;rw [e]at m;have l:(ps.eraseIdx j).length=ps.length-1:=by rw [am8,ba q]
 exact⟨r,_,m,by rw [s,l],⟨d,BY (aj h1),hl⟩,by simp,fun k u=>sh (Ne.symm u)⟩
theorem BX.ex(h:BX J b cap ps)(h0:ps≠[])(n:Nat):eA (n+1) J (.sl b 0 ps.length cap 0 4)=aa (sl .fs (aK ps)):=by
 obtain⟨r,h1,h2⟩:=h;have hl:=dm (en ps);rw [eC]at hl;simp only [jI,h1];rw [ba (by rw [alj];omega),amd,alQ (by omega),alz (by omega),og,lO];cases ps with
 | nil=>exact absurd rfl h0| cons p ps=>simp [sl,aK]
end
theorem sG(p q:aI)(j:1≤p.aM)(l:p.aM≤1000000)(m:1≤q.aM)(s:q.aM≤1000000):bX tab 112 [.a (cY p),.a (cY q)]=Eq (vb (decide (p.aM % q.aM=0)||decide (q.aM % p.aM=0))):=by
 have d:bP .rem (vi p.aM) (vi q.aM)=aa (vi (p.aM % q.aM)):=eR (by omega) (by omega);have g:bP .rem (vi q.aM) (vi p.aM)=aa (vi (q.aM % p.aM)):=eR (by omega) (by omega);refine bX.eq (cz rfl rfl fun Q b=>?_);apply ai;simp [cY];apply ai;by_cases h:p.aM % q.aM=0
 ·simp [d,h];refine aD (b _ _ ?_);simp [h]
 ·simp [d,g,h];refine aD (b _ _ ?_);simp [h]
def fL(ps:List aI)(d:Int):Prop:=∀ p ∈ ps,bK p d=ae
theorem fP(a b:List aI)(d:Int):fL (a++b) d↔fL a d∧fL b d:=by
 unfold fL;constructor
 ·intro h;exact⟨fun p g=>h p (alT _ g),fun p g=>h p (amw _ g)⟩
 ·rintro⟨j,l⟩ p g;rcases aln.1 g with h | h
  ·exact j p h
  ·exact l p h
theorem nI.can{p q:aI}(h:nI p)(b:md p q):nI q:=⟨b.ok,by have:=b.fr;have:=h.fr;omega,by have:=amn (by have:=(a6 h.ok).2.2.1;omega) b.aM;have:=h.aM;omega⟩
theorem Jx{ps:List aI}{i j:Nat}(y:i<j)(z:j<ps.length){q:aI}(E:∀ d,0≤d→bK q d=(bK (ps[i]'(by omega)) d&&bK ps[j] d))(d:Int)(v:0≤d):fL ((ps.set i q).eraseIdx j) d↔fL ps d:=by
 have hi:i<ps.length:=by omega
 have m:ps=ps.take i++ps[i] ::((ps.drop (i+1)).take (j-(i+1))++ps[j]::ps.drop (j+1)):=by
  conv=>lhs;rw [←al7 i ps,alv hi]
  congr 2
  conv=>lhs;rw [←al7 (j-(i+1)) (ps.drop (i+1)),amD]
  rw [show i+1+(j-(i+1))=j by omega,alv z]
 have s:(ps.set i q).eraseIdx j=ps.take i++q ::((ps.drop (i+1)).take (j-(i+1))++ps.drop (j+1)):=by
  have u:ps.set i q=ps.take i++q::ps.drop (i+1):=by rw [am7,ba hi]
  have B:(ps.take i).length=i:=by rw [alV];omega
  rw [u,anx (by omega),B]
  congr 1
  obtain⟨k,A⟩:∃ k,j-i=k+1:=⟨j-i-1,by omega⟩
  rw [A,List.eraseIdx_cons_succ,amh,amD];rw [show j-(i+1)=k by omega,show i+1+(k+1)=j+1 by omega]
 have F:=E d v;rw [s]
 conv=>rhs;rw [m]
 rw [fP,fP];have c:∀(x:aI) l,fL (x::l) d↔bK x d=ae∧fL l d:=fun x l=>by simp [fL]
 rw [c,c,fP,fP,c,F,If];constructor
 ·rintro⟨a,⟨b,e⟩,f,g⟩;exact⟨a,b,f,e,g⟩
 ·rintro⟨a,b,f,e,g⟩;exact⟨a,⟨b,e⟩,f,g⟩
theorem Jy{ps:List aI}{i j:Nat}{q:aI}(g:∀ p ∈ ps,nI p)(d:nI q):∀ p ∈ (ps.set i q).eraseIdx j,nI p:=fun p b=>by
 have:=List.mem_of_mem_eraseIdx b;rcases List.mem_or_eq_of_mem_set this with h | rfl
 ·exact g p h
 ·exact d
structure MG(us ps:List aI):Prop where
 ne:ps≠[]
 le:ps.length≤us.length
 sm:∀ p ∈ ps,nI p
 mem:∀ d,0≤d→(fL ps d↔fL us d)
theorem Jz(g:Tg)(us:List aI)(j7:∀ u ∈ us,nI u)(h0:us≠[])(hl:us.length≤64):∃ ps,MG us ps∧bX tab 111 [.c (.f (sl g (aK us)))]=Eq (.c (.f (sl .fs (aK ps)))):=by
 obtain⟨r,⟨ps,i4,rfl⟩,h⟩:∃ r,(∃ ps,MG us ps∧r=.c (.f (sl .fs (aK ps))))∧bX tab 111 [.c (.f (sl g (aK us)))] r:=by
  refine eQ rfl rfl fun Q hQ=>?_;have m_:=al0.2 h0;obtain⟨n,hn⟩:=aN (us.length);have Y:∀ H:an,bh H (.f (sl g (aK us)))=aa n:=fun H=>by rw [hn];simp
  apply ai;simp;refine kI (ai ?_);have j4:∀(t:T) (H:an),t.g 11=vi n→bE t H (.dN 4 64 [.aA,fi 0,fi 0,.aA] (R 11) (R 11))=aa (.c (.sl H.length 0 n n 0 4),H++[.box ((cM n [FC.aA,fi 0,fi 0,.aA]).map .f) 0]):=by
   intro t H ht;simp only [bE,rm,ht];have hi:gj (vi n)=aa (n:Int):=rfl;simp only [hi];rw [ba ⟨by omega,amM _,dG (by simp;omega) (by decide),rfl⟩,aS (by omega)];simp
  simp [Y,j4];obtain⟨HA,e_⟩:=aN ([b7.box (List.replicate n [C.f FC.aA,C.f (fi 0),C.f (fi 0),C.f FC.aA]).flatten 0]);have i8:BX HA 0 n ([]++List.replicate n zp):=by
   refine⟨[],?_,?_⟩
   ·rw [e_,amg,al5];have:dp (List.replicate n zp)=List.replicate n [C.f FC.aA,C.f (fi 0),C.f (fi 0),C.f FC.aA]:=by
     rw [dp,List.map_replicate];rfl
    rw [this];rfl
   ·rw [amg,al5,dm (en _),eC,ank]
  rw [←e_];apply au;apply ai;simp [Y];refine bZ n (fun j t J=>t.g 3=.c (.sl 0 0 n n 0 4)∧t.g 13=.c (.f (sl g (aK us)))∧∃ qs,qs.length=j∧BX J 0 n (qs++List.replicate (n-j) zp)∧(∀ q ∈ qs,nI q)∧∀ d,0≤d→(fL qs d↔fL (us.take j) d)) (by omega) (by decide) (by decide) (by simp) (by simp)
   ⟨by simp,by simp,[],rfl,by simpa using i8,by simp,fun d _=>by simp⟩ ?_ ?_
  ·rintro j t J hj ⟨y,a8,qs,v,K,c9,O⟩ ha hb next
   have b_:j<us.length:=by omega
   have F:=fun H:an=>bG (H:=H) (g:=g) (rows:=aK us) (sz:=4) (k:=.i64) (i:=(j:Int)) (by omega) (by simp;omega);have c_:=fun H:an=>cR (H:=H) (bD us) (cQ b_);simp only [alJ]at F;have E:=j7 _ (IT b_);have i6:us.take (j+1)=us.take j++[us[j]]:=by rw [aly,By b_];rfl
   obtain⟨u,hu⟩:=aN (us[j]);rw [←hu]at c_ E i6;obtain⟨q,hq,-,-,U⟩:=Tn u E.ok (by have:=E.bf;omega) (by have:=E.head;omega);simp only [aI.row,alo,alH]at c_ U;obtain⟨Z,l⟩:=aN (J++[b7.box [C.f (sl u.hg (ints u.head)),C.f (fi u.fr),C.f (fi u.aM),C.f (sl u.cg (ints u.bf))] 0]);have A:BX Z 0 n (qs++List.replicate (n-j) zp):=by rw [l];exact K.push _
   have j3:(qs++List.replicate (n-j) zp).length=n:=by rw [alj,ank];omega
   have b1:Z[J.length]?=aa (.box [C.f (sl u.hg (ints u.head)),C.f (fi u.fr),C.f (fi u.aM),C.f (sl u.cg (ints u.bf))] 0):=by rw [l];simp
   have l1:aX Z (aa 4) (.c (.ptr J.length 0 0))=aa (.a [C.f (sl u.hg (ints u.head)),C.f (fi u.fr),C.f (fi u.aM),C.f (sl u.cg (ints u.bf))]):=by simp [aX,aH,b1,aY]
   obtain⟨i7,-⟩:=A.at (i:=j) (by omega);obtain⟨J2,s2,a_,-,-⟩:=A.st (i:=j) (by omega) q;rw [j3]at i7;simp only [cY]at s2;refine az ?_;apply ai;simp [ha,a8,F,c_,-ay];rw [←l];refine aq (.inl rfl) ?_;simp [y,l1,-ay,U,i7,s2,-bw];refine ax (next _ _ ?_ (by simp [ha]) (by simp [hb]));refine⟨by simp [y],by simp [a8],qs++[q],by simp [v],?_,fun x hx=>?_,fun d hd=>?_⟩
   ·have e:(qs++List.replicate (n-j) zp).set j q=qs++[q]++List.replicate (n-(j+1)) zp:=by
     obtain⟨k,hk⟩:∃ k,n-j=k+1:=⟨n-j-1,by omega⟩
     rw [List.set_append_right _ _ (by omega),v,Nat.sub_self,hk,List.replicate_succ,List.set_cons_zero,show n-(j+1)=k by omega,alU];rfl
    rw [←e];exact a_
   ·rcases aln.1 hx with h | h
    ·exact c9 x h
    ·rw [alm]at h;rw [h];exact E.can hq
   ·rw [i6,fP,fP,O d hd];simp only [fL,alm,forall_eq];rw [hq.mem d hd]
  ·rintro t J ⟨y,a8,qs,v,K,c9,O⟩ - -;rw [Nat.sub_self,List.replicate_zero,al5]at K;rw [hn,alw]at O;have a7:∀(N:Nat) (ps:List aI) (t:T) (J:an),ps.length=N→t.g 3=.c (.sl 0 0 ps.length n 0 4)→BX J 0 n ps→MG us ps→WP tab 111 ab [.code yA,.inScope BM] ⟨t,[],J⟩ Q:=by
    intro N;induction N using Nat.strongRecOn with
    | ind N ih=>
    intro ps t J hN y K hG;have i4:=hG.le;obtain⟨M,hM⟩:=aN (ps.length);rw [←hM]at y;have I:=K.len;rw [←hM]at I;apply au;apply ai;simp [y,I];refine bZ M (fun i t J'=>J'=J∧t.g 3=.c (.sl 0 0 M n 0 4)) (by omega) (by decide) (by decide) (by simp) (by simp) ⟨rfl,by simp [y]⟩ ?_ ?_
    ·rintro i t J' hi ⟨rfl,y⟩ ha hb next
     refine az ?_;apply ai;simp [ha];apply ai;simp [aO (n:=(i:Int)+1)];refine az ?_;refine bJ (fun m s=>∃(j:Nat) (t':T),s=⟨t',[],J'⟩∧m=M-j∧i<j∧j≤M∧t'.g 3=.c (.sl 0 0 M n 0 4)∧t'.g 6=vi i∧t'.g 7=vi j∧t'.g 30=t.g 30∧t'.g 31=t.g 31) (M-(i+1))
      ⟨i+1,_,rfl,rfl,by omega,by omega,by simp [y],by simp,by simp,by simp,by simp⟩ ?_
     rintro m s ⟨j,t',rfl,rfl,i_,m9,b,L,z,d9,d_⟩ j8;apply au;apply ai;simp [b,z,I];by_cases hj:j<M
     ·refine av (by simp [hj]) (aP ?_);obtain⟨xi,li⟩:=K.at (i:=i) (by omega);obtain⟨xj,lj⟩:=K.at (i:=j) (by omega);rw [←hM]at xi xj;have h_:i<ps.length:=by omega
      have i3:j<ps.length:=by omega
      have si:=hG.sm _ (IT h_);have sj:=hG.sm _ (IT i3);have j9:=(a6 si.ok).2.2.1;have k_:=(a6 sj.ok).2.2.1;have j_:=si.aM;have l_:=sj.aM;have W:=sG ps[i] ps[j] j9 (by omega) k_ (by omega);obtain⟨dv,f8⟩:=aN ((decide (ps[i].aM % ps[j].aM=0)||decide (ps[j].aM % ps[i].aM=0)):Bool);rw [←f8]at W;apply au;refine az ?_;apply au;apply ai;simp [b,L,z,xi,xj,li,lj,-ay,oK,pk,←eB,W];cases dv with
      | true=>
       have hd:ps[i].aM % ps[j].aM=0∨ps[j].aM % ps[i].aM=0:=by simpa using f8.symm
       have hR:∃ R:Int,0<R∧R≤12∧ps[i].aM ∣ R∧ps[j].aM ∣ R:=by
        rcases hd with h | h
        ·exact⟨ps[i].aM,by omega,j_,amL _,amF h⟩
        ·exact⟨ps[j].aM,by omega,l_,amF h,amL _⟩
       obtain⟨R,R0,R1,Ra,Rb⟩:=hR;obtain⟨q,c1,c2,c3,c4,S⟩:=adk ps[i] ps[j] si sj R0 R1 Ra Rb;have sq:nI q:=⟨c1,by have:=si.fr;have:=sj.fr;omega,amy (amn R0 c3) R1⟩
       simp only [←eB]at S;obtain⟨Z,l⟩:=aN (J'++[b7.box (cY q) 0]);have A:BX Z 0 n ps:=by rw [l];exact K.push _
       have b1:Z[J'.length]?=aa (.box (cY q) 0):=by rw [l];simp
       have l1:aX Z (aa 4) (.c (.ptr J'.length 0 0))=aa (.a (cY q)):=by simp [aX,aH,b1,aY,cY]
       obtain⟨F,-⟩:=A.at (i:=i) (by omega);rw [←hM]at F;obtain⟨J2,s2,a_,-,-⟩:=A.st h_ q;obtain⟨r,J3,B,rfl,i9,-,-⟩:=a_.del (j:=j) (by rw [alI];omega) (by omega);rw [alI,←hM]at B;have g_:(cY q).length=4:=rfl;refine aW (by simp) ?_;apply ai;simp [b,L,z,xi,xj,li,lj,-ay,oK,pk,←eB,S,g_];rw [←l];apply ai;simp;refine av (by simp) ?_;apply ai;simp [b,L,l1,F,s2,g_,-ay,-bw];apply ai;have ej:((j+1:Nat):Int)=(j:Int)+1:=by omega
       rw [ej]at B;simp [b,z,aO (n:=(j:Int)+1),B.eq];refine aaH rfl (au (aP ?_));have X:((ps.set i q).eraseIdx j).length=ps.length-1:=by rw [am8,ba (by rw [alI];omega),alI]
       refine ih _ (by omega) ((ps.set i q).eraseIdx j) _ J3 rfl ?_ i9 ⟨fun e=>by rw [e]at X;simp at X;omega,by omega,Jy hG.sm sq,fun d f7=>by rw [Jx i_ i3 c4 d f7];exact hG.mem d f7⟩;simp
      | false=>
       refine av (by simp) ?_;refine bg rfl ?_;refine aq (.inl rfl) ?_;simp [z,aO (n:=(j:Int)+1)];exact j8 (M-(j+1)) _ (by omega) ⟨j+1,_,rfl,rfl,by omega,by omega,by simp [b],by simp [L],by simp,by simp [d9],by simp [d_]⟩
     ·refine aF (by simp [hj]) ?_;refine bg rfl ?_;refine ax (next _ _ ⟨rfl,by simp [b]⟩ (by simp [d_,ha]) (by simp [d9,hb]))
    ·rintro t J' ⟨rfl,y⟩ - -;have f_:=K.ex hG.ne 63;rw [←hM]at f_;apply ai;simp [y];refine aD (hQ _ _ _ ⟨ps,hG,rfl⟩ ⟨rfl,.c (.sl 0 0 M n 0 4),dz (by simp),?_⟩);simp [me,deep,f_]
   refine au (oV ?_);exact a7 _ qs _ J rfl (by simp [y,v]) K ⟨by intro e;rw [e]at v;simp at v;omega,by omega,c9,O⟩
 exact⟨ps,i4,h.eq⟩
theorem oI(g g':Tg)(a b:List Int)(N:a.length≤1000000):bX tab 157 [.c (.f (sl g (ints a))),.c (.f (sl g' (ints b)))]=Eq (vb (decide (a=b))):=by
 have d:∀(H:an) (g:Tg) (l:List Int),bh H (.f (sl g (ints l)))=aa l.length:=fun H g l=>by simp [ints]
 refine bX.eq (cz rfl rfl fun Q z=>?_);apply ai;simp;apply au;apply ai;simp [d];by_cases B:a.length=b.length
 ·refine aW (by simp [B]) ?_;apply au;apply ai;simp [d];refine bZ a.length (fun j t J=>t.g 0=.c (.f (sl g (ints a)))∧t.g 1=.c (.f (sl g' (ints b)))∧∀(k:Nat) (h:k<j) (y:k<a.length),a[k]=b[k]'(by omega)) (by omega) (by decide) (by decide) (by simp) (by simp)
   ⟨by simp,by simp,fun k h=>by omega⟩ ?_ ?_
  ·rintro j t J M ⟨v,x,m⟩ K L next
   have A:j<b.length:=by omega
   have q:=fun H:an=>bG (H:=H) (g:=g) (rows:=ints a) (sz:=1) (k:=.i64) (i:=(j:Int)) (by omega) (by simp [ints];omega);have E:=fun H:an=>eh (H:=H) M;have s:=fun H:an=>bG (H:=H) (g:=g') (rows:=ints b) (sz:=1) (k:=.i64) (i:=(j:Int)) (by omega) (by simp [ints];omega);have F:=fun H:an=>eh (H:=H) A;simp at q s;refine az ?_;apply ai;simp [K];apply au;refine aq (.inl rfl) ?_;simp [v,x,q,s,E,F];by_cases u:a[j]=b[j]
   ·refine aW (by simp [u]) ?_;refine ax (next _ _ ⟨by simp [v],by simp [x],fun k h y=>?_⟩ (by simp [K]) (by simp [L]));by_cases e:k=j
    ·subst e;exact u
    ·exact m k (by omega) y
   ·refine av (by simp [u]) ?_;apply ai;simp;refine aD (z _ _ ?_);have:¬ a=b:=by intro e;subst e;exact u rfl
    simp [this]
  ·rintro t J ⟨v,x,m⟩ - -;have:a=b:=List.ext_getElem B fun k I y=>m k I I;apply ai;simp;refine aD (z _ _ ?_);simp [this]
 ·refine av (by simp;omega) ?_;apply ai;simp;refine aD (z _ _ ?_);have:¬ a=b:=fun e=>B (by rw [e]);simp [this]
def qM(p q:aI):Bool:=decide (p.fr=q.fr∧p.aM=q.aM∧p.head=q.head∧p.bf=q.bf)
theorem Uj(p q:aI)(y:p.head.length≤1000000)(z:p.bf.length≤1000000):Kf tab 117 [.a (cY p),.a (cY q)] (vb (qM p q)):=by
 have s:=fun g g'=>oI g g' p.head q.head y;have v:=fun g g'=>oI g g' p.bf q.bf z;refine dM rfl rfl fun H Q j=>?_;apply ai;simp [cY];apply ai;obtain⟨u,m⟩:=aN (decide (p.head=q.head));obtain⟨x,l⟩:=aN (decide (p.bf=q.bf));rw [←m]at s;rw [←l]at v;have A:qM p q=(decide (p.fr=q.fr)&&(decide (p.aM=q.aM)&&(u&&x))):=by
  rw [m,l];simp [qM]
 rw [A]at j;by_cases b:p.fr=q.fr
 ·by_cases d:p.aM=q.aM
  ·cases u with
   | true=>
    simp [b,d,s,v];refine aD (j _ _ ?_);simp [b,d]
   | false=>
    simp [b,d,s];refine aD (j _ _ ?_);simp [b,d]
  ·simp [b,d];refine aD (j _ _ ?_);simp [b,d]
 ·simp [b];refine aD (j _ _ ?_);simp [b]
theorem I'{p q:aI}(h:qM p q=ae)(d:Int):bK p d=bK q d:=by
 obtain⟨b,g,j,l⟩:=of_decide_eq_true h;unfold bK;rw [b,g,j,l]
def fU:List aI→List aI→Bool
 | [],[]=>ae| p::s,q::t=>qM p q&&fU s t| _,_=>ag
theorem sL:∀ {s t:List aI},fU s t=ae→∀ d,fL s d↔fL t d
 | [],[],_,d=>Iff.rfl
 | p::s,q::t,h,d=>by
  simp only [fU,If]at h;have b:=sL h.2 d;have c:∀(x:aI) l,fL (x::l) d↔bK x d=ae∧fL l d:=fun x l=>by simp [fL]
  rw [c,c,b,I' h.1]
theorem lD:∀(s t:List aI),fU s t=ae↔∃ h:s.length=t.length,∀(k:Nat) (b:k<s.length),qM s[k] (t[k]'(by omega))=ae
 | [],[]=>⟨fun _=>⟨rfl,fun k b=>by simp at b⟩,fun _=>rfl⟩
 | [],q::t=>⟨fun h=>(by cases h),fun⟨h,_⟩=>(by simp at h)⟩
 | p::s,[]=>⟨fun h=>(by cases h),fun⟨h,_⟩=>(by simp at h)⟩
 | p::s,q::t=>by
  simp only [fU,If,lD s t];constructor
  ·rintro⟨g,d,j⟩;refine⟨by simp [d],fun k b=>?_⟩;cases k with
   | zero=>exact g| succ k=>exact j k (by simpa using b)
  ·rintro⟨g,d⟩;exact⟨d 0 (by simp),by simpa using g,fun k b=>d (k+1) (by simpa using b)⟩
theorem I_(g g':Tg)(s t:List aI)(hs:s.length≤1000000)(U:∀ p ∈ s,p.head.length≤1000000∧p.bf.length≤1000000):bX tab 116 [.c (.f (sl g (aK s))),.c (.f (sl g' (aK t))),.c (.f (.fn 117 []))]=Eq (vb (fU s t)):=by
 have d:∀(H:an) (g:Tg) (l:List aI),bh H (.f (sl g (aK l)))=aa l.length:=fun H g l=>by simp
 refine bX.eq (cz rfl rfl fun Q L=>?_);apply ai;simp;apply au;apply ai;simp [d];by_cases S:s.length=t.length
 ·refine aW (by simp [S]) ?_;apply au;apply ai;simp [d];refine bZ s.length (fun j x J=>x.g 1=.c (.f (sl g' (aK t)))∧x.g 2=.c (.f (.fn 117 []))∧x.g 15=.c (.f (sl g (aK s)))∧∀(k:Nat) (h:k<j) (F:k<s.length),qM s[k] (t[k]'(by omega))=ae) (by omega) (by decide) (by decide) (by simp) (by simp)
   ⟨by simp,by simp,by simp,fun k h=>by omega⟩ ?_ ?_
  ·rintro j x J N ⟨I,K,m,u⟩ W hb next
   have O:j<t.length:=by omega
   have z:=fun H:an=>bG (H:=H) (g:=g) (rows:=aK s) (sz:=4) (k:=.i64) (i:=(j:Int)) (by omega) (by simp;omega);have B:=fun H:an=>cR (H:=H) (bD s) (cQ N);have A:=fun H:an=>bG (H:=H) (g:=g') (rows:=aK t) (sz:=4) (k:=.i64) (i:=(j:Int)) (by omega) (by simp;omega);have E:=fun H:an=>cR (H:=H) (bD t) (cQ O);simp only [alJ]at z A;simp only [←eB]at B E;have Y:=U _ (IT N);have v:=Uj s[j] t[j] Y.1 Y.2;have b:∀ p,(cY p).length=4:=fun _=>rfl;have Z:∀ p,List.take 4 (cY p)=cY p:=fun _=>rfl;refine az ?_;apply ai;simp [W,m,z,B,-ay,b];apply ai;simp [I,A,E,-ay,b];obtain⟨y,q⟩:=aN (J++[b7.box (cY s[j]) 0,b7.box (cY t[j]) 0]);have b8:y[J.length]?=aa (.box (cY s[j]) 0):=by rw [q];simp
   have b9:y[J.length+1]?=aa (.box (cY t[j]) 0):=by rw [q,List.getElem?_append_right (by omega)];simp
   have l8:aX y (aa 4) (.c (.ptr J.length 0 0))=aa (.a (cY s[j])):=by simp [aX,aH,b8,aY,b,Z]
   have l9:aX y (aa 4) (.c (.ptr (J.length+1) 0 0))=aa (.a (cY t[j])):=by simp [aX,aH,b9,aY,b,Z]
   rw [←q];obtain⟨JK,v⟩:=v y;apply ai;simp [K,l8,l9,-ay,v.eq];cases M:qM s[j] t[j]with
   | true=>
    refine aW (by simp) ?_;refine ax (next _ _ ⟨by simp [I],by simp [K],by simp [m],fun k h F=>?_⟩ (by simp [W]) (by simp [hb]));by_cases e:k=j
    ·subst e;exact M
    ·exact u k (by omega) F
   | false=>
    refine av (by simp) ?_;apply ai;simp;refine aD (L _ _ ?_);have:fU s t=ag:=by
     cases h:fU s t with
     | false=>rfl
     | true=>
      obtain⟨_,F⟩:=(lD s t).1 h;rw [F j N]at M;cases M
    simp [this]
  ·rintro x J ⟨I,K,m,u⟩ - -;apply ai;simp;refine aD (L _ _ ?_);have:fU s t=ae:=(lD s t).2 ⟨S,fun k X=>u k X X⟩;simp [this]
 ·refine av (by simp;omega) ?_;apply ai;simp;refine aD (L _ _ ?_);have:fU s t=ag:=by
   cases h:fU s t with
   | false=>rfl| true=>exact absurd ((lD s t).1 h).1 S
  simp [this]
theorem aeN(s t:List aI)(j:s.length≤1000000)(b:∀ p ∈ s,p.head.length≤1000000∧p.bf.length≤1000000)(g g':Tg):Kf tab 115 [.c (.f (sl g (aK s))),.c (.f (.fp [sl g' (aK t)] 0))] (vb (fU s t)):=by
 have h:=I_ g g' s t j b;refine dM rfl rfl fun H Q d=>?_;apply ai;simp;apply ai;simp [qR,h];refine aD (d _ _ ?_);simp
theorem T'(g g':Tg)(l:List (List aI))(u:l.length≤1000000)(b:∀ s ∈ l,s.length≤1000000∧∀ p ∈ s,p.head.length≤1000000∧p.bf.length≤1000000)(t:List aI) :
  bX tab 74 [.c (.f (sl g (l.map fun s=>[sl .fs (aK s)]))),.c (.f (.fn 115 [.fp [sl g' (aK t)] 0]))]=Eq (vb (l.any fun s=>fU s t)):=
 (jG Tx (ns Tz l (fun s=>[sl .fs (aK s)]) (fun s=>.c (.f (sl .fs (aK s)))) (fun s=>fU s t) g 115 [.fp [sl g' (aK t)] 0] (by omega)
  (fun j q H=>by
   have m:bO 1 (l.map fun s=>[sl .fs (aK s)]):=bO.map fun _=>rfl;have:=gZ (H:=H) m (j:=j) (row:=[sl .fs (aK l[j])]) (by simp [q]) rfl;simpa using this)
  (fun s d=>aeN s t (b s d).1 (b s d).2 .fs g'))).eq
theorem Ix(g:Tg)(ps:List aI)(q:∀ p ∈ ps,Mod p)(m:1≤ps.length)(u:ps.length≤64):∃ b,(b=ae↔(∀ d,¬ iW ps 0 ps d)∧¬ qf [] ps)∧bX tab 76 [.c (.f (sl g (aK ps)))]=Eq (vb b):=by
 obtain⟨e,f,j,z⟩:=zg g ps (fun p A=>(q p A).ok) u 0;obtain⟨b,y,B⟩:=vT g ps q m u;refine⟨!f&&!b,?_,bX.eq (cz rfl rfl fun Q s=>?_)⟩
 ·rw [←y];rcases j with⟨l,-,x⟩ | ⟨l,v,-⟩
  ·subst l;simp [x]
  ·subst l;simp only [Bool.not_true,Bool.false_and,Bool.false_eq_true,false_iff];rintro⟨h,-⟩;exact h _ v
 ·apply ai;simp;apply ai;simp [z];apply ai;cases f
  ·simp [B];refine aD (s _ _ ?_);simp
  ·simp;refine aD (s _ _ ?_);simp
theorem nI.mod{p:aI}(h:nI p):Mod p:=⟨h.ok,by have:=h.aM;omega⟩
theorem Av{ps:List aI}(s:∀ p ∈ ps,nI p)(u:∀ d,¬ iW ps 0 ps d)(v:¬ qf [] ps)(d:Int)(j:0≤d):¬ fL ps d:=by
 intro b;have m:tZ ps d=ae:=(iC j).2 b;by_cases x:cJ ps≤d
 ·refine v (xB (d:=d) ps [] (by simp) fun p g=>?_);exact(ta (s p g).mod (by
   have:∀ l:List aI,p ∈ l→p.fr≤cJ l:=by
    intro l;induction l with
    | nil=>intro h;cases h
    | cons a l y=>
     intro h;simp only [cJ];rcases alW.1 h with rfl | h
     ·omega
     ·have:=y h;omega
   have:=this ps g;omega)).1 (b p g)
 ·obtain⟨p,g,q⟩:=qC (l:=ps) j (by omega);refine u d ⟨j,m,p,g,?_⟩;exact(head_mem (s p g).ok d).2 ⟨j,q,b p g⟩
def B4(J J':an):Prop:=∀(i:Nat) (cs:List C) (fl:Nat),4≤cs.length→J[i]?=aa (b7.box cs fl)→∃ b,J'[i]?=aa (b7.box cs b)
def TC(J:an)(c:C)(ps:List aI):Prop:=(c=.f (sl .fs (aK ps))∧ps≠[])∨(ps≠[]∧∃ b fl,c=.sl b 0 ps.length ps.length 0 4∧J[b]?=aa (.box (dp ps).flatten fl))
theorem lS(ps:List aI):(dp ps).flatten.length=ps.length*4:=by rw [dm (en ps),eC]
theorem z8{ps:List aI}(h:ps≠[]):4≤(dp ps).flatten.length:=by
 have:=al0.2 h;rw [lS];omega
theorem lU{ps:List aI}(h:ps≠[])(g:Tg):sl g (aK ps)=.fs (aK ps).flatten ps.length:=by
 cases ps with
 | nil=>exact absurd rfl h| cons p l=>simp [sl,aK]
section
variable{J:an}{c:C}{ps:List aI}
theorem TC.len(h:TC J c ps):bh J c=aa ps.length:=by
 rcases h with⟨rfl,h⟩ | ⟨h,b,fl,rfl,hb⟩
 ·simp
 ·simp [bh,hb]
theorem TC.one{p:aI}(h:TC J c [p]):∃ q,bB J 4 ab (.c c) (vi 0)=aa (.c q)∧aX J (aa 4) (.c q)=aa (.a (cY p)):=by
 rcases h with⟨rfl,h⟩ | ⟨h,b,fl,rfl,hb⟩
 ·have d:=bG (H:=J) (g:=.fs) (rows:=aK [p]) (sz:=4) (k:=.i64) (i:=(0:Int)) (by omega) (by simp);have m:=cR (H:=J) (bD [p]) (cQ (l:=[p]) (j:=0) (by simp));exact⟨_,d,by simpa [eB]using m⟩
 ·have hb:J[b]?=aa (.box (cY p) fl):=hb;exact⟨.ptr b 0 0,by simp [bB,show gj (vi 0)=aa (0:Int) from rfl,hb],by simp [aX,aH,hb,aY,cY]⟩
theorem TC.ex(h:TC J c ps)(n:Nat):eA (n+1) J c=aa (sl .fs (aK ps)):=by
 rcases h with⟨rfl,h⟩ | ⟨h,b,fl,rfl,hb⟩
 ·rfl
 ·have hl:=lS ps;simp only [jI,hb];rw [ba (by omega),amd,alz (by omega),og,lO,lU h];rfl
theorem TC.bu{J':an}(h:TC J c ps)(j:B4 J J'):TC J' c ps:=by
 rcases h with h | ⟨h,b,fl,h1,hb⟩
 ·exact .inl h
 ·obtain⟨d,g⟩:=j b _ fl (z8 h) hb;exact .inr ⟨h,b,d,h1,g⟩
theorem TC.mk(h:TC J c ps)(n:Nat):∀(i:Nat) (y:b7),J[i]?=aa y→(eX (n+1) c J)[i]?=aa y∨∃ cs fl g,4≤cs.length∧y=.box cs fl∧(eX (n+1) c J)[i]?=aa (.box cs g):=by
 rcases h with⟨rfl,h⟩ | ⟨h,b,fl,rfl,hb⟩
 ·intro i y hy;exact .inl hy
 ·intro i y hy;have e:eX (n+1) (.sl b 0 ps.length ps.length 0 4) J=J.set b (.box (dp ps).flatten (Nat.max fl (0+ps.length*4))):=by
   simp only [po,hb];rw [jJ];intro x d;have d:=alY (amj d);rw [og]at d;obtain⟨y,-,rfl⟩:=alC.1 d;exact⟨y,rfl⟩
  rw [e];by_cases hi:b=i
  ·subst hi;rw [hb]at hy;cases hy;exact .inr ⟨_,_,_,z8 h,rfl,BY (aj hb)⟩
  ·exact .inl (by rw [sh hi];exact hy)
end
def LJ(J:an)(cl:C)(ts:List (List aI)):Prop:=(ts=[]∧cl=.f .aA)∨(∃ b d cs rest,cl=.sl b 0 ts.length 0 d 1∧J[b]?=aa (.cO 1 (cs++rest) 0 d .loc)∧cs.length=ts.length∧∀(k:Nat) (h:k<ts.length) (g:k<cs.length),TC J cs[k] ts[k])
section
variable{J:an}{cl:C}{ts:List (List aI)}
theorem LJ.len(h:LJ J cl ts):bh J cl=aa ts.length:=by
 rcases h with⟨rfl,rfl⟩ | ⟨b,d,cs,rest,rfl,hb,-,-⟩
 ·rfl
 ·simp [bh,hb]
theorem LJ.at(h:LJ J cl ts){k:Nat}(g:k<ts.length):∃ b d c,cl=.sl b 0 ts.length 0 d 1∧bB J 1 ab (.c cl) (vi k)=aa (.c (.ptr b k d))∧aX J ab (.c (.ptr b k d))=aa (.c c)∧TC J c ts[k]:=by
 rcases h with⟨rfl,rfl⟩ | ⟨b,d,cs,rest,rfl,hb,hl,j⟩
 ·simp at g
 ·refine⟨b,d,cs[k],rfl,?_,?_,j k g (by omega)⟩
  ·simp [bB,show gj (vi k)=aa (k:Int) from rfl,hb,g]
  ·simp only [aX,aH,hb,if_true,alP];rw [amp (by omega),alv (by omega)];rfl
theorem LJ.bu{J':an}(h:LJ J cl ts)(j:B4 J J')(ho:∀(i:Nat) y,aV cl=aa i→J[i]?=aa y→J'[i]?=aa y):LJ J' cl ts:=by
 rcases h with h | ⟨b,d,cs,rest,rfl,hb,hl,g⟩
 ·exact .inl h
 ·exact .inr ⟨b,d,cs,rest,rfl,ho b _ rfl hb,hl,fun k h h2=>(g k h h2).bu j⟩
theorem LJ.push(h:LJ J cl ts)(K:an):LJ (J++K) cl ts:=h.bu (fun i cs fl _ hi=>⟨fl,by rw [AT (aj hi)];exact hi⟩) fun i y _ hy=>by rw [AT (aj hy)];exact hy
theorem LJ.bz(h:LJ J cl ts){i:Nat}{cs:List C}{fl:Nat}(hi:J[i]?=aa (.box cs fl)):aV cl≠aa i:=by
 rcases h with⟨-,rfl⟩ | ⟨b,d,cs',rest,rfl,hb,-,-⟩
 ·simp [aV]
 ·intro e;cases e;rw [hi]at hb;cases hb
theorem LJ.aiz(h:LJ J cl ts){i:Nat}{y:b7}(hi:J[i]?=aa y)(hy:ir y=ae):aV cl≠aa i:=by
 rcases h with⟨-,rfl⟩ | ⟨b,d,cs',rest,rfl,hb,-,-⟩
 ·simp [aV]
 ·intro e;cases e;rw [hi]at hb;cases hb;cases hy
theorem LJ.st(h:LJ J cl ts){i:Nat}(hi:i<ts.length){p:aI}{bn:Nat}(l:J[bn]?=aa (.box (cY p) 0)):∃ b d J',bB J 1 ab (.c cl) (vi i)=aa (.c (.ptr b i d))∧dt J (.ptr b i d) [.sl bn 0 1 1 0 4]=aa J'∧LJ J' cl (ts.set i [p])∧J'.length=J.length∧∀ k,aV cl≠aa k→J'[k]?=J[k]?:=by
 rcases h with⟨rfl,rfl⟩ | ⟨b,d,cs,rest,rfl,hb,hl,q⟩
 ·simp at hi
 ·have j:∀ k y fl,J[k]?=aa (.box y fl)→k≠b:=fun k y fl m e=>by rw [e,hb]at m;cases m
  have ho:over (cs++rest) i [.sl bn 0 1 1 0 4]=cs.set i (.sl bn 0 1 1 0 4)++rest:=by
   rw [tr (by rw [alj];omega),List.set_append_left _ _ (by omega)]
  refine⟨b,d,J.set b (.cO 1 (cs.set i (.sl bn 0 1 1 0 4)++rest) 0 d .loc),?_,?_,.inr ⟨b,d,cs.set i (.sl bn 0 1 1 0 4),rest,by simp,BY (aj hb),by simp [hl],fun k h1 h2=>?_⟩,by simp,fun k s=>sh (by rintro rfl;exact s rfl)⟩
  ·simp [bB,show gj (vi i)=aa (i:Int) from rfl,hb,hi]
  ·simp only [bw,hb,amu,true_and];rw [ba (by simp;omega),ho]
  ·rw [List.getElem_set,List.getElem_set];by_cases e:i=k
   ·rw [ba e,ba e];exact .inr ⟨by simp,bn,0,rfl,by rw [sh (Ne.symm (j _ _ _ l))];exact l⟩
   ·rw [aS e,aS e];refine(q k (by simpa using h1) (by simpa using h2)).bu fun u cs' fl _ g=>⟨fl,?_⟩
    rw [sh (Ne.symm (j _ _ _ g))];exact g
theorem LJ.del(h:LJ J cl ts){j:Nat}(v:j<ts.length)(x:0<j)(N:ts.length≤1000000) :
  ∃ u H',Ev tab (.fn 114) [.c cl,vi j,vi (j+1:Nat)] J (.c u) H'∧LJ H' u (ts.eraseIdx j)∧aV u=aV cl∧H'.length=J.length∧∀ k,aV cl≠aa k→H'[k]?=J[k]?:=by
 rcases h with⟨rfl,rfl⟩ | ⟨b,M,cs,rest,rfl,hb,hl,E⟩
 ·simp at v
 ·have hg:qG 1 (cs.map fun c=>[c]):=fun r O=>by
   obtain⟨c,-,rfl⟩:=alC.1 O;rfl
  have q:∀ l:List C,(l.map fun c=>[c]).flatten=l:=fun l=>by induction l with
   | nil=>rfl| cons a l Q=>simp only [alo,alG,Q];rfl
  have d:(cs.map fun c=>[c]).length=ts.length:=by rw [alq,hl]
  obtain⟨r,H',H,rfl,g,m,s,I⟩:=Z' (tab:=tab) (F:=114) (sz:=1) (bytes:=24) (zs:=[.aA]) adN (by decide) rfl (rows:=cs.map fun c=>[c]) (rest:=rest) hg (by rw [q];exact hb) (j:=j) (by rw [d];exact v) x (by rw [d];exact N);rw [d]at H;have L:((cs.map fun c=>[c]).eraseIdx j).flatten=cs.eraseIdx j:=by
   rw [amh,←am6,←anf,←amo,q,←amh]
  rw [L]at m;have B:(ts.eraseIdx j).length=ts.length-1:=by rw [am8,ba v]
  have A:∀ k y fl,J[k]?=aa (.box y fl)→k≠b:=fun k y fl K e=>by rw [e,hb]at K;cases K
  refine⟨_,H',H,.inr ⟨b,M,cs.eraseIdx j,g,by rw [B],m,by rw [B,am8,ba (by omega),hl],fun k h1 h2=>?_⟩,rfl,s,fun k z=>I k (by rintro rfl;exact z rfl)⟩;have kp:B4 J H':=fun i cs fl _ hi=>⟨fl,by rw [I i (A _ _ _ hi)];exact hi⟩
  rw [List.getElem_eraseIdx,List.getElem_eraseIdx];by_cases e:k<j
  ·rw [dif_pos e,dif_pos e];exact(E _ _ _).bu kp
  ·rw [dif_neg e,dif_neg e];exact(E _ _ _).bu kp
end
def TV(J:an)(c:C)(fs:List aI):Prop:=(∃ g,c=.f (sl g (aK fs)))∨LR J c 4 (aK fs)
theorem aeH{J:an}{c:C}{sz:Nat}{rows:List (List FC)}(h:LR J c sz rows)(n:Nat):∀(i:Nat) (y:b7),J[i]?=aa y→aV c≠aa i→(eX (n+1) c J)[i]?=aa y:=by
 rcases h with⟨_,rfl | rfl⟩ | ⟨s,b,q,rfl,l⟩
 ·intro i y d _;exact d
 ·intro i y d _;exact d
 ·unfold RB at l;intro i y d hi;have g:b≠i:=fun e=>hi (by rw [e];rfl);have e:∃ z,eX (n+1) (.sl b 0 rows.length 0 q sz) J=J.set b z:=by
   simp only [po,l];rw [jJ]
   ·exact⟨_,rfl⟩
   ·intro x j;have j:=alY (amj j);obtain⟨m,_,rfl⟩:=alC.1 j;exact⟨_,rfl⟩
  obtain⟨z,u⟩:=e;rw [u,sh g];exact d
section
variable{J:an}{c:C}{fs:List aI}
theorem TV.ex(h:TV J c fs):∃ g,∀ n,eA (n+1) J c=aa (sl g (aK fs)):=by
 rcases h with⟨g,rfl⟩ | h
 ·exact⟨g,fun n=>rfl⟩
 ·obtain⟨g,hg⟩:=h.VW (bD fs);exact⟨g,fun n=>hg J n fun _ _ h _=>h⟩
theorem TV.mk(h:TV J c fs)(n:Nat):∀(i:Nat) (y:b7),J[i]?=aa y→aV c≠aa i→(eX (n+1) c J)[i]?=aa y:=by
 rcases h with⟨g,rfl⟩ | h
 ·intro i y hy _;exact hy
 ·exact aeH h n
end
def BZ(f:Nat)(g:List FC)(L:List (List aI)):Prop:=∀(b:Nat) (H:an) (PP:Nat→an→Prop),PP 0 H →
 (∀(j:Nat) (m:j<L.length) (d J:an) (c:C),PP j d→(∀ i:Nat,i<d.length→J[i]?=d[i]?)→d.length≤J.length→TV J c L[j]→(∀ i,aV c=aa i→d.length≤i)→∃ H',Ev tab (.yield b) [.c c] J (vb ae) H'∧PP (j+1) H') →
 ∃ l,Ev tab (.fn f) (.c (.yl b)::g.map fun x=>.c (.f x)) H (.t []) l∧PP L.length l
theorem Aj(g:Tg)(ts:List cE)(x:ts.length≤1000000):BZ 119 [.fp [sl g (aB ts)] 0] (ts.map (·.fs)):=by
 intro b H PP q y;obtain⟨r,m,u,rfl,d⟩:=vZ (b:=b) (H:=H) g ts x PP q fun j v J s=>by
  obtain⟨H',l,d⟩:=y j (by simpa using v) J J (.f (sl ts[j].tg (aK ts[j].fs))) s (fun _ _=>rfl) (alk _) (.inl ⟨ts[j].tg,by simp⟩) (fun _ h=>by cases h);exact⟨_,H',l,rfl,d⟩
 exact⟨m,u,by rw [alq];exact d⟩
def Kd(m:Nat)(t:List aI):Prop:=t≠[]∧t.length≤m∧∀ p ∈ t,nI p
def ic(ts:List (List aI))(d:Int):Prop:=∃ t ∈ ts,fL t d
structure NT(m:Nat)(L ts:List (List aI)):Prop where
 len:ts.length≤L.length
 ok:∀ t ∈ ts,Kd m t
 mem:∀ d,0≤d→(ic ts d↔ic L d)
def cX(ts:List (List aI)):List (List FC):=ts.map fun s=>[sl .fs (aK s)]
theorem BE(ts:List (List aI)):bO 1 (cX ts):=bO.map fun _=>rfl
structure An(s:T)(cl:C)(ts:List (List aI))(st:dS)(J:an):Prop where
 h0:J[0]?=aa (.box [.f .aA] 0)
 h1:J[1]?=aa (.box [cl] 0)
 lr:LR J cl 1 (cX ts)
 ne:cl≠.f .es
 lo:∀ i,aV cl=aa i→3<i
 df:J[2]?=aa (.fg ae)
 lp:J[3]?=aa (.lp 73 s [P.nat 15] nb ku st ab 2)
theorem An.three{s:T}{cl:C}{ts:List (List aI)}{st st':dS}{J:an}(h:An s cl ts st J):An s cl ts st' (J.set 3 (.lp 73 s [P.nat 15] nb ku st' ab 2)):=by
 refine⟨?_,?_,h.lr.set (fun e=>by have:=h.lo 3 e;omega) _,h.ne,h.lo,?_,BY (aj h.lp)⟩
 ·rw [sh (by omega)];exact h.h0
 ·rw [sh (by omega)];exact h.h1
 ·rw [sh (by omega)];exact h.df
theorem An.bu{s:T}{cl:C}{ts:List (List aI)}{st:dS}{J J':an}(h:An s cl ts st J)(b:∀(i:Nat) y,i<J.length→J[i]?=aa y→J'[i]?=aa y):An s cl ts st J':=
 ⟨b _ _ (aj h.h0) h.h0,b _ _ (aj h.h1) h.h1,h.lr.bu fun i y hy _=>b i y (aj hy) hy,h.ne,h.lo,b _ _ (aj h.df) h.df,b _ _ (aj h.lp) h.lp⟩
theorem An.mark{s:T}{cl c:C}{ts:List (List aI)}{st:dS}{J J':an}(h:An s cl ts st J)(hc:∀ i,aV c=aa i→3<i)(d:∀ i,aV c=aa i→aV cl≠aa i)(b:∀(i:Nat) y,J[i]?=aa y→aV c≠aa i→J'[i]?=aa y):An s cl ts st J':=
 ⟨b _ _ h.h0 (fun e=>by have:=hc 0 e;omega),b _ _ h.h1 (fun e=>by have:=hc 1 e;omega),h.lr.bu fun i y hy hi=>b i y hy fun e=>d i e hi,h.ne,h.lo,b _ _ h.df (fun e=>by have:=hc 2 e;omega),b _ _ h.lp (fun e=>by have:=hc 3 e;omega)⟩
theorem An.app{s:T}{cl:C}{ts:List (List aI)}{st:dS}{J:an}(h:An s cl ts st J)(H:ts.length≤1000)(ps:List aI) :
  ∃ j m,bF (J++[.box [.f (sl .fs (aK ps))] 0]) 1 24 (.c cl) (.c (.sl J.length 0 1 1 0 1))=aa (.c j,m)∧dt m (.ptr 1 0 0) [j]=aa (m.set 1 (.box [j] 0))∧An s j (ts++[ps]) st (m.set 1 (.box [j] 0)):=by
 obtain⟨q,d⟩:=aN (J++[.box ([sl .fs (aK ps)].map .f) 0]:an);have up:∀(i:Nat) y,J[i]?=aa y→q[i]?=aa y:=fun i y hy=>by rw [d,AT (aj hy)];exact hy
 have x:LR q cl 1 (cX ts):=by rw [d];exact h.lr.push _
 have z:q[J.length]?=aa (.box ([sl .fs (aK ps)].map .f) 0):=by rw [d];simp
 have h2:q.length=J.length+1:=by rw [d];simp
 have K:=aj h.lp;obtain⟨j,m,l,g,v,A⟩:=x.app (BE ts) (by decide) (row:=[sl .fs (aK ps)]) rfl (bytes:=24) (dG (by simp [cX];omega) (by decide)) z;have F:cX ts++[[sl .fs (aK ps)]]=cX (ts++[ps]):=by simp [cX]
 rw [F]at g;have u:∀(i:Nat) y,i≤3→J[i]?=aa y→m[i]?=aa y:=fun i y hi hy=>v.2 i y (up i y hy) fun e=>by have:=h.lo i e;omega
 have E:=u 1 _ (by omega) h.h1;have B:j≠.f .es:=by
  rcases g with⟨h0,_⟩ | ⟨_,b,I,rfl,_⟩
  ·simp [cX]at h0
  ·intro e;cases e
 refine⟨j,m,by rw [d]at l;exact l,by simp [dt,E,over],?_,BY (aj E),g.set (g.bz E) _,B,fun i hi=>?_,?_,?_⟩
 ·rw [sh (by omega)];exact u 0 _ (by omega) h.h0
 ·rcases A with e | e
  ·rw [e]at hi;exact h.lo i hi
  ·rw [e]at hi;cases hi;omega
 ·rw [sh (by omega)];exact u 2 _ (by omega) h.df
 ·rw [sh (by omega)];exact u 3 _ (by omega) h.lp
theorem xl{s:T}(W:s.g 4=.c (.ptr 1 0 0)){cl:C}{ts:List (List aI)}(K:ts.length≤1000){m:Nat}(hm:m≤64){fs:List aI}(j:Kd m fs){J:an}{c:C}(h:An s cl ts .ready J)(Y:TV J c fs)(M:∀ i,aV c=aa i→3<i)(E:∀ i,aV c=aa i→aV cl≠aa i) :
  ∃ r H',Ev tab (.yield 3) [.c c] J r H'∧(r=vb ae∧∃ B u,An s B u .ready H'∧((u=ts∧∀ d,0≤d→¬ fL fs d)∨∃ t,u=ts++[t]∧Kd m t∧∀ d,0≤d→(fL t d↔fL fs d))):=by
 refine ea (tab:=tab) (b:=3) (args:=[.c c]) (H:=J) h.lp rfl fun Q' y=>?_;refine aq (.inr rfl) ?_;simp;refine iF h.lp ?_;have L:=h.three (st':=.busy);have l:TV (J.set 3 (.lp 73 s [P.nat 15] nb ku .busy ab 2)) c fs:=by
  rcases Y with h | h
  ·exact .inl h
  ·exact .inr (h.set (fun e=>by have:=M 3 e;omega) _)
 generalize J.set 3 (.lp 73 s [P.nat 15] nb ku .busy ab 2)=Q at L l ⊢;obtain⟨gx,q⟩:=l.ex;have q:=q 63;obtain⟨ps,g,F⟩:=Jz gx fs j.2.2 j.1 (by have:=j.2.1;omega);obtain⟨b,Z,A⟩:=Ix .fs ps (fun p hp=>(g.sm p hp).mod) (al0.2 g.ne) (by have:=g.le;have:=j.2.1;omega);have x:=L.mark M E (l.mk 63);obtain⟨S,v⟩:=aN (eX 64 c Q);rw [←v]at x;refine az ?_;refine au (aq (.inr rfl) ?_);simp [q,deep,F,←v];apply au;refine aq (.inr rfl) ?_;simp [A];cases b with
 | true=>
  refine aW (by simp) ?_;obtain⟨k1,k2⟩:=Z.1 rfl;exact ax (cU (y _ _ _ _ _ _ _ _ _ _ rfl x.lp ⟨rfl,cl,ts,x.three,.inl ⟨rfl,fun d N X=>Av g.sm k1 k2 d N ((g.mem d N).2 X)⟩⟩))
 | false=>
  refine av (by simp) ?_;obtain⟨U,H3,z,I,O⟩:=x.app K ps;have l1:aX S ab (.c (.ptr 1 0 0))=aa (.c cl):=by simp [aX,aH,x.h1]
  refine aq (.inr rfl) ?_;simp [W,l1,-ay,z,I,-bw];exact ax (cU (y _ _ _ _ _ _ _ _ _ _ rfl O.lp ⟨rfl,U,ts++[ps],O.three,.inr ⟨ps,rfl,⟨g.ne,by have:=g.le;have:=j.2.1;omega,g.sm⟩,g.mem⟩⟩))
theorem Ut{ts:List (List aI)}{i j:Nat}(H:i<j)(I:j<ts.length){p y q:aI}(s:ts[i]'(by omega)=[p])(u:ts[j]=[y])(L:∀ d,0≤d→bK q d=(bK p d||bK y d))(d:Int)(F:0≤d):ic ((ts.set i [q]).eraseIdx j) d↔ic ts d:=by
 have hi:i<ts.length:=by omega
 have A:ts=ts.take i++[p] ::((ts.drop (i+1)).take (j-(i+1))++[y]::ts.drop (j+1)):=by
  rw [←s,←u]
  conv=>lhs;rw [←al7 i ts,alv hi]
  congr 2
  conv=>lhs;rw [←al7 (j-(i+1)) (ts.drop (i+1)),amD]
  rw [show i+1+(j-(i+1))=j by omega,alv I]
 have B:(ts.set i [q]).eraseIdx j=ts.take i++[q] ::((ts.drop (i+1)).take (j-(i+1))++ts.drop (j+1)):=by
  have E:ts.set i [q]=ts.take i++[q]::ts.drop (i+1):=by rw [am7,ba hi]
  have K:(ts.take i).length=i:=by rw [alV];omega
  rw [E,anx (by omega),K]
  congr 1
  obtain⟨k,J⟩:∃ k,j-i=k+1:=⟨j-i-1,by omega⟩
  rw [J,List.eraseIdx_cons_succ,amh,amD];rw [show j-(i+1)=k by omega,show i+1+(k+1)=j+1 by omega]
 have g:∀(a b:List (List aI)),ic (a++b) d↔ic a d∨ic b d:=fun a b=>by
  unfold ic;constructor
  ·rintro⟨t,v,h⟩;rcases aln.1 v with k | k
   ·exact .inl ⟨t,k,h⟩
   ·exact .inr ⟨t,k,h⟩
  ·rintro(⟨t,k,h⟩ | ⟨t,k,h⟩)
   ·exact⟨t,alT _ k,h⟩
   ·exact⟨t,amw _ k,h⟩
 have m:∀(x:aI) l,ic ([x]::l) d↔bK x d=ae∨ic l d:=fun x l=>by
  unfold ic;constructor
  ·rintro⟨t,v,h⟩;rcases alW.1 v with rfl | k
   ·exact .inl (h x (by simp))
   ·exact .inr ⟨t,k,h⟩
  ·rintro(h | ⟨t,k,h⟩)
   ·exact⟨[x],by simp,fun p z=>by rw [alm]at z;rw [z];exact h⟩
   ·exact⟨t,alu _ k,h⟩
 rw [B]
 conv=>rhs;rw [A]
 rw [g,g,m,m,g,g,m,L d F,Bool.or_eq_true];constructor
 ·rintro(a | (b | c) | e | f)
  ·exact .inl a
  ·exact .inr (.inl b)
  ·exact .inr (.inr (.inr (.inl c)))
  ·exact .inr (.inr (.inl e))
  ·exact .inr (.inr (.inr (.inr f)))
 ·rintro(a | b | e | c | f)
  ·exact .inl a
  ·exact .inr (.inl (.inl b))
  ·exact .inr (.inr (.inl e))
  ·exact .inr (.inl (.inr c))
  ·exact .inr (.inr (.inr f))
structure SJ(J:an)(cl:C)(ts:List (List aI)):Prop where
 h0:J[0]?=aa (.box [.f .aA] 0)
 h1:J[1]?=aa (.box [cl] 0)
 df:J[2]?=aa (.fg ae)
 lj:LJ J cl ts
theorem SJ.push{J:an}{cl:C}{ts:List (List aI)}(h:SJ J cl ts)(K:an):SJ (J++K) cl ts:=
 ⟨by rw [AT (aj h.h0)];exact h.h0,by rw [AT (aj h.h1)];exact h.h1,by rw [AT (aj h.df)];exact h.df,h.lj.push K⟩
theorem UB{J:an}{cl:C}{ts:List (List aI)}(u:∀ t ∈ ts,t≠[])(h:LR J cl 1 (cX ts))(d:cl≠.f .es):LJ J cl ts:=by
 rcases h with⟨m,rfl | rfl⟩ | ⟨v,b,j,rfl,g⟩
 ·have:ts=[]:=by
   cases ts with
   | nil=>rfl| cons a l=>simp [cX]at m
  exact .inl ⟨this,rfl⟩
 ·exact absurd rfl d
 ·have s:(cX ts).length=ts.length:=by simp [cX]
  have q:∀ l:List (List aI),(cX l).flatten.map C.f=l.map fun t=>C.f (sl .fs (aK t)):=fun l=>by
   induction l with
   | nil=>rfl
   | cons a l x=>
    have:cX (a::l)=[sl .fs (aK a)]::cX l:=rfl;rw [this,alG,amo,x];rfl
  unfold RB at g;refine .inr ⟨b,j,ts.map fun t=>C.f (sl .fs (aK t)),[],by rw [s],by rw [g,q,al5],by simp,fun k y d=>?_⟩;rw [amN];exact .inl ⟨rfl,u _ (IT _)⟩
theorem SJ.join{J:an}{cl:C}{ts:List (List aI)}(h:SJ J cl ts){i j:Nat}(H:i<j)(I:j<ts.length)(Q:ts.length≤1000){p:aI}{bn:Nat}(hb:J[bn]?=aa (.box (cY p) 0)) :
  ∃ b x l m d,aX J ab (.c (.ptr 1 0 0))=aa (.c cl)∧bB J 1 ab (.c cl) (vi i)=aa (.c (.ptr b i x))∧dt J (.ptr b i x) [.sl bn 0 1 1 0 4]=aa l∧aX l ab (.c (.ptr 1 0 0))=aa (.c cl)∧Ev tab (.fn 114) [.c cl,vi j,vi (j+1:Nat)] l (.c m) d∧dt d (.ptr 1 0 0) [m]=aa (d.set 1 (.box [m] 0)) ∧
   SJ (d.set 1 (.box [m] 0)) m ((ts.set i [p]).eraseIdx j):=by
 obtain⟨b,x,l,O,M,g,K,q⟩:=h.lj.st (i:=i) (by omega) hb;have A:l[0]?=aa (.box [.f .aA] 0):=by rw [q 0 (h.lj.bz h.h0)];exact h.h0
 have a1:l[1]?=aa (.box [cl] 0):=by rw [q 1 (h.lj.bz h.h1)];exact h.h1
 have B:l[2]?=aa (.fg ae):=by rw [q 2 (h.lj.aiz h.df rfl)];exact h.df
 obtain⟨m,d,F,u,N,L,s⟩:=g.del (j:=j) (by rw [alI];exact I) (by omega) (by rw [alI];omega);have b0:d[0]?=aa (.box [.f .aA] 0):=by rw [s 0 (g.bz A)];exact A
 have b1:d[1]?=aa (.box [cl] 0):=by rw [s 1 (g.bz a1)];exact a1
 have E:d[2]?=aa (.fg ae):=by rw [s 2 (g.aiz B rfl)];exact B
 refine⟨b,x,l,m,d,by simp [aX,aH,h.h1],O,M,by simp [aX,aH,a1],F,by simp [dt,b1,over],?_,BY (aj b1),?_,u.bu (fun k cs fl z v=>⟨fl,?_⟩) fun k y v hy=>?_⟩
 ·rw [sh (by omega)];exact b0
 ·rw [sh (by omega)];exact E
 ·rw [sh (by rintro rfl;rw [b1]at v;cases v;simp at z)];exact v
 ·rw [sh (by rintro rfl;exact u.bz b1 v)];exact hy
def M4(J J':an):Prop:=∀(i:Nat) (y:b7),J[i]?=aa y→J'[i]?=aa y∨∃(cs:List C) (fl b:Nat),4≤cs.length∧y=b7.box cs fl∧J'[i]?=aa (b7.box cs b)
theorem M4.refl(J:an):M4 J J:=fun _ _ h=>.inl h
theorem M4.trans{J J' b:an}(h:M4 J J')(j:M4 J' b):M4 J b:=fun i y hy=>by
 rcases h i y hy with k | ⟨cs,fl,g,hc,rfl,k⟩
 ·exact j i y k
 ·rcases j i _ k with k' | ⟨l,m,d,q,e,k'⟩
  ·exact .inr ⟨cs,fl,g,hc,rfl,k'⟩
  ·cases e;exact .inr ⟨cs,fl,d,hc,rfl,k'⟩
theorem M4.b4{J J':an}(h:M4 J J'):B4 J J':=fun i cs fl hc hy=>by
 rcases h i _ hy with k | ⟨d,g,b,j,e,k⟩
 ·exact⟨fl,k⟩
 ·cases e;exact⟨b,k⟩
theorem M4.get{J J':an}(h:M4 J J'){i:Nat}{y:b7}(hy:J[i]?=aa y)(l:∀ cs fl,y=b7.box cs fl→cs.length<4):J'[i]?=aa y:=by
 rcases h i _ hy with k | ⟨b,g,d,j,e,k⟩
 ·exact k
 ·have:=l _ _ e;omega
theorem TC.m4{J:an}{c:C}{ps:List aI}(h:TC J c ps)(n:Nat):M4 J (eX (n+1) c J):=fun i y hy=>h.mk n i y hy
theorem yW(n:Nat):∀(cs:List C) (ts:List (List aI)) (J:an),cs.length=ts.length→(∀(k:Nat) (h:k<ts.length) (b:k<cs.length),TC J cs[k] ts[k])→M4 J (cs.foldl (fun H x=>eX (n+1) x H) J)
 | [],_,J,_,_=>M4.refl J| c::cs,[],_,h,_=>by simp at h
 | c::cs,t::ts,J,l,h=>by
  have g:TC J c t:=h 0 (by simp) (by simp);have d:=g.m4 n;refine M4.trans d (yW n cs ts _ (by simpa using l) fun k j b=>?_);exact(h (k+1) (by simpa using j) (by simpa using b)).bu d.b4
theorem yV(n:Nat){J:an}:∀(cs:List C) (ts:List (List aI)),cs.length=ts.length→(∀(k:Nat) (h:k<ts.length) (b:k<cs.length),TC J cs[k] ts[k])→aZ (eA (n+1) J) cs=aa (cX ts).flatten
 | [],[],_,_=>rfl| [],_::_,h,_=>by simp at h
 | c::cs,[],h,_=>by simp at h
 | c::cs,t::ts,j,h=>by
  have d:TC J c t:=h 0 (by simp) (by simp);have l:=yV n (J:=J) cs ts (by simpa using j) fun k g b=>h (k+1) (by simpa using g) (by simpa using b);simp only [aZ,d.ex n,l];rfl
def LO(J:an)(cl:C)(ts:List (List aI)):Prop:=(ts=[]∧cl=.f .aA)∨(ts≠[]∧∃ b d cs fl,cl=.sl b 0 ts.length 0 d 1∧J[b]?=aa (.cO 1 cs fl d .loc)∧cs.length=ts.length∧fl≤cs.length∧∀(k:Nat) (h:k<ts.length) (g:k<cs.length),TC J cs[k] ts[k])
section
variable{J:an}{cl:C}{ts:List (List aI)}
theorem LO.bu{J':an}(h:LO J cl ts)(m:B4 J J')(ho:∀(i:Nat) y,aV cl=aa i→J[i]?=aa y→J'[i]?=aa y):LO J' cl ts:=by
 rcases h with h | ⟨d,b,g,cs,fl,rfl,hb,hl,l,j⟩
 ·exact .inl h
 ·exact .inr ⟨d,b,g,cs,fl,rfl,ho b _ rfl hb,hl,l,fun k h h2=>(j k h h2).bu m⟩
theorem LO.push(h:LO J cl ts)(K:an):LO (J++K) cl ts:=h.bu (fun i cs fl _ hi=>⟨fl,by rw [AT (aj hi)];exact hi⟩) fun i y _ hy=>by rw [AT (aj hy)];exact hy
theorem LO.ex(h:LO J cl ts)(n:Nat):∃ g,eA (n+2) J cl=aa (sl g (cX ts)):=by
 rcases h with⟨rfl,rfl⟩ | ⟨d,b,m,cs,fl,rfl,hb,hl,q,j⟩
 ·exact⟨.nil,rfl⟩
 ·refine⟨.fs,?_⟩;simp only [jI,hb];rw [ba ⟨trivial,trivial,by omega⟩,amd,alz (by omega),yV n cs ts hl j];cases ts with
  | nil=>exact absurd rfl d| cons a l=>simp [sl,cX]
theorem LO.mk(h:LO J cl ts)(n:Nat):LO (eX (n+2) cl J) cl ts∧∀(i:Nat) (y:b7),J[i]?=aa y→aV cl≠aa i→(eX (n+2) cl J)[i]?=aa y∨∃(cs:List C) (fl g:Nat),4≤cs.length∧y=b7.box cs fl∧(eX (n+2) cl J)[i]?=aa (b7.box cs g):=by
 rcases h with⟨rfl,rfl⟩ | ⟨v,b,s,cs,fl,rfl,hb,hl,A,z⟩
 ·exact⟨.inl ⟨rfl,rfl⟩,fun i y hy _=>.inl hy⟩
 ·obtain⟨q,d⟩:=aN (J.set b (.cO 1 cs (Nat.max fl (0+ts.length*1)) s .loc));have u:B4 J q:=fun i cs' g _ hi=>⟨g,by rw [d,sh (by rintro rfl;rw [hb]at hi;cases hi)];exact hi⟩
  have j:∀(k:Nat) (h:k<ts.length) (h2:k<cs.length),TC q cs[k] ts[k]:=fun k h h2=>(z k h h2).bu u;have e:eX (n+2) (.sl b 0 ts.length 0 s 1) J=cs.foldl (fun H x=>eX (n+1) x H) q:=by
   simp only [po,hb];rw [amd,alz (by omega),d]
  have m:=yW n cs ts q hl j;rw [e];refine⟨.inr ⟨v,b,s,cs,Nat.max fl (0+ts.length*1),rfl,m.get (by rw [d];exact BY (aj hb)) (fun _ _ e=>by cases e),hl,by have:Nat.max fl (0+ts.length*1)=max fl (0+ts.length*1):=rfl;omega,fun k h h2=>(j k h h2).bu m.b4⟩,fun i y hy hi=>?_⟩;have l:b≠i:=by rintro rfl;exact hi rfl
  exact m i y (by rw [d,sh l];exact hy)
theorem LO.bz(h:LO J cl ts){i:Nat}{cs:List C}{fl:Nat}(hi:J[i]?=aa (.box cs fl)):aV cl≠aa i:=by
 rcases h with⟨-,rfl⟩ | ⟨-,b,d,cs',f,rfl,hb,-⟩
 ·simp [aV]
 ·intro e;cases e;rw [hi]at hb;cases hb
theorem LO.app(h:LO J cl ts)(K:ts.length≤1000){c:C}{t:List aI}(F:TC J c t) :
  ∃ x v,bF (J++[.box [c] 0]) 1 24 (.c cl) (.c (.sl J.length 0 1 1 0 1))=aa (.c x,v)∧LO v x (ts++[t])∧J.length<v.length∧(∀(i:Nat) y,J[i]?=aa y→aV cl≠aa i→v[i]?=aa y)∧(aV x=aV cl∨aV x=aa (J.length+1)):=by
 obtain⟨g,d⟩:=aN (J++[.box [c] 0]:an);have E:g.length=J.length+1:=by rw [d];simp
 have A:g[J.length]?=aa (.box [c] 0):=by rw [d];simp
 have j:dc g 1 (.c (.sl J.length 0 1 1 0 1))=aa (1,[c]):=by simp [dc,bh,cS,A]
 have s:TC g c t:=F.bu fun i cs fl _ hi=>⟨fl,by rw [d,AT (aj hi)];exact hi⟩
 rw [←d];rcases h with⟨rfl,rfl⟩ | ⟨I,b,q,cs,fl,rfl,hb,hl,H,z⟩
 ·refine⟨.sl g.length 0 1 0 0 1,g++[.cO 1 [c] 0 0 .loc],?_,.inr ⟨by simp,g.length,0,[c],0,rfl,by simp,rfl,by omega,fun k h h2=>?_⟩,by rw [alj];omega,fun i y hy _=>?_,.inr (by rw [E];rfl)⟩
  ·simp only [bF,j];rw [aS (by omega),aS (by omega),ba (dG (by decide) (by decide))]
  ·have:k=0:=by simpa using h
   subst this;exact s.bu fun i cs fl _ hi=>⟨fl,by rw [AT (aj hi)];exact hi⟩
  ·have:=aj hy;rw [AT (by omega),d,AT this];exact hy
 ·have m:g[b]?=aa (.cO 1 cs fl q .loc):=by rw [d,AT (aj hb)];exact hb
  have u:B4 g (g.set b (.cO 1 (cs++[c]) fl (q+1) .loc)):=fun i cs' l _ hi=>⟨l,by rw [sh (by rintro rfl;rw [m]at hi;cases hi)];exact hi⟩
  have B:B4 J g:=fun i cs' l _ hi=>⟨l,by rw [d,AT (aj hi)];exact hi⟩
  refine⟨.sl b 0 (ts.length+1) 0 (q+1) 1,g.set b (.cO 1 (cs++[c]) fl (q+1) .loc),?_,.inr ⟨by simp,b,q+1,cs++[c],fl,by simp,BY (aj m),by simp [hl],by simp;omega,fun k h h2=>?_⟩,by rw [alI];omega,fun i y hy hi=>?_,.inl rfl⟩
  ·simp only [bF,j,m,and_self,if_true];rw [aS (by omega),aS (by omega),ba ⟨trivial,by omega,H⟩,ba (dG (by omega) (by decide))]
  ·rw [List.getElem_append,List.getElem_append];by_cases e:k<ts.length
   ·rw [dif_pos (by omega),dif_pos e];exact((z k e (by omega)).bu B).bu u
   ·rw [dif_neg (by omega),dif_neg e];simp only [List.getElem_singleton];exact s.bu u
  ·rw [sh (by rintro rfl;exact hi rfl),d,AT (aj hy)];exact hy
end
theorem iX(a b:List (List aI))(d:Int):ic (a++b) d↔ic a d∨ic b d:=by
 unfold ic;constructor
 ·rintro⟨t,g,h⟩;rcases aln.1 g with k | k
  ·exact .inl ⟨t,k,h⟩
  ·exact .inr ⟨t,k,h⟩
 ·rintro(⟨t,k,h⟩ | ⟨t,k,h⟩)
  ·exact⟨t,alT _ k,h⟩
  ·exact⟨t,amw _ k,h⟩
theorem mr(t:List aI)(d:Int):ic [t] d↔fL t d:=⟨fun⟨x,b,h⟩=>by rw [alm]at b;rwa [b]at h,fun h=>⟨t,by simp,h⟩⟩
theorem VK{m:Nat}{ts:List (List aI)}(h:∀ t ∈ ts,Kd m t)(g:1≤m){i j:Nat}{q:aI}(l:nI q):∀ t ∈ (ts.set i [q]).eraseIdx j,Kd m t:=fun t s=>by
 rcases List.mem_or_eq_of_mem_set (List.mem_of_mem_eraseIdx s)with d | rfl
 ·exact h t d
 ·exact⟨by simp,by simpa using g,fun p b=>by rw [alm]at b;rw [b];exact l⟩
def rF(ts:List (List aI))(g:Tg):V:=.t [.a [.f (sl g (cX ts))],vi 0]
theorem Jv{J:an}{g:C}{us:List (List aI)}(N:LO J g us){b:Nat}{u:C}(U:J[b]?=aa (.box [u] 0)){t:List aI}(X:TC J u t){F:Nat} :
  LO (eX 64 (.cl F [.ptr b 0 0]) (eX 64 g J)) g us∧B4 J (eX 64 (.cl F [.ptr b 0 0]) (eX 64 g J))∧(∀(i:Nat) y,J[i]?=aa y→aV g≠aa i→i≠b→(∀ cs fl,y=b7.box cs fl→cs.length<4)→(eX 64 (.cl F [.ptr b 0 0]) (eX 64 g J))[i]?=aa y)∧(eX 64 (.cl F [.ptr b 0 0]) (eX 64 g J))[b]?=aa (.box [u] 1):=by
 obtain⟨M,K⟩:=N.mk 62;obtain⟨z,H⟩:=aN (eX (62+2) g J);rw [←H]at M K;have E:B4 J z:=fun i cs fl q d=>by
  rcases K i _ d (N.bz d)with k | ⟨v,B,A,_,e,k⟩
  ·exact⟨fl,k⟩
  ·cases e;exact⟨A,k⟩
 have l:z[b]?=aa (.box [u] 0):=by
  rcases K b _ U (N.bz U)with k | ⟨v,B,A,q,e,k⟩
  ·exact k
  ·cases e;simp at q
 obtain⟨I,j⟩:=aN (z.set b (.box [u] 1));have x:B4 z I:=fun i cs fl q d=>⟨fl,by rw [j,sh (by rintro rfl;rw [l]at d;cases d;simp at q)];exact d⟩
 have O:TC I u t:=(X.bu E).bu x;have e:eX 64 (.cl F [.ptr b 0 0]) (eX 64 g J)=eX (61+1) u I:=by
  show eX (63+1) (.cl F [.ptr b 0 0]) (eX (62+2) g J)=_;rw [←H,UN];show eX (62+1) (.ptr b 0 0) z=_;rw [Bb,l,j];rfl
 have m:=O.m4 61;rw [e];have s:LO I g us:=M.bu x fun i y hi d=>by rw [j,sh (by rintro rfl;exact M.bz l hi)];exact d
 refine⟨s.bu m.b4 fun i y hi d=>?_,fun i cs fl q d=>?_,fun i y d hi Q W=>?_,m.get (by rw [j];exact BY (aj l)) (fun cs fl e=>by cases e;simp)⟩
 ·rcases m i y d with k | ⟨v,B,A,_,L,k⟩
  ·exact k
  ·subst L;exact absurd hi (s.bz d)
 ·obtain⟨B,S⟩:=E i cs fl q d;obtain⟨A,Y⟩:=x i cs B q S;exact m.b4 i cs A q Y
 ·have S:z[i]?=aa y:=by
   rcases K i _ d hi with k | ⟨v,B,A,q,L,k⟩
   ·exact k
   ·have:=W _ _ L;omega
  exact m.get (by rw [j,sh (Ne.symm Q)];exact S) W
theorem JD(f:Nat)(e_:List FC)(L:List (List aI))(hI:BZ f e_ L){m:Nat}(y7:1≤m)(hm:m≤4)(hL:∀ s ∈ L,Kd m s)(hLl:L.length≤64) :
  ∃ ts g,NT m L ts∧bX tab 73 [.c (.f (.fn f e_))]=Eq (rF ts g):=by
 obtain⟨r,⟨ts,g,hts,rfl⟩,h⟩:∃ r,(∃ ts g,NT m L ts∧r=rF ts g)∧bX tab 73 [.c (.f (.fn f e_))] r:=by
  refine pE ahO rfl fun Q hQ=>?_;apply ai;simp;apply ai;simp;apply au;apply ai;simp;refine az ?_;have v6:∀(t:T) (J:an) (cl:C) (ts:List (List aI)),t.g 2=.c (.ptr 0 0 0)→t.g 4=.c (.ptr 1 0 0)→SJ J cl ts→NT m L ts→WP tab 73 ab [.code ov] ⟨t,[.er 2],J⟩ Q:=by
   intro t J cl ts H S I hN;have y9:=hN.len;obtain⟨M,hM⟩:=aN (ts.length);apply ai;simp;obtain⟨l,i8⟩:=aN (J.length);obtain⟨J1,a8⟩:=aN (J++[b7.box [.f .aA] 0]);have d_:SJ J1 cl ts:=by rw [a8];exact I.push _
   have c1:J1[l]?=aa (.box [.f .aA] 0):=by rw [a8,i8];simp
   have l1:aX J1 ab (.c (.ptr 1 0 0))=aa (.c cl):=by simp [aX,aH,d_.h1]
   have ll:=d_.lj.len;have lJ1:J1.length=l+1:=by rw [a8];simp [i8]
   have m_:∀ i,aV cl=aa i→i<l+1:=fun i hi=>by
    rcases d_.lj with⟨-,rfl⟩ | ⟨b,ep,cs,rest,rfl,hb,-,-⟩
    ·cases hi
    ·cases hi;have:=aj hb;omega
   have hb2:2<l:=by have:=aj I.df;omega
   rw [←hM]at ll;rw [←a8,←i8];apply au;apply ai;simp [S,l1,ll,-ay];refine bZ M (fun k t J=>t.g 2=.c (.ptr 0 0 0)∧t.g 11=.c (.ptr l 0 0)∧t.g 98=.c cl∧∃ z us,SJ J cl ts∧J[l]?=aa (.box [z] 0)∧LO J z us∧(∀ i,aV z=aa i→l+1≤i)∧us.length≤k∧(∀ t ∈ us,Kd m t)∧∀ d,0≤d→(ic us d↔ic (ts.take k) d)) (by omega) (by decide) (by decide) (by simp) (by simp)
    ⟨by simp [H],by simp,by simp,.f .aA,[],d_,c1,.inl ⟨rfl,rfl⟩,(fun i h=>by cases h),by simp,by simp,fun d _=>by simp [ic]⟩ ?_ ?_
   ·rintro k t J' hk ⟨H,d9,k_,z,us,I,K,g_,A,t9,c_,i3⟩ ha hb next
    have o8:k<ts.length:=by omega
    obtain⟨bk,ek,ck,-,xk,lk,q_⟩:=I.lj.at o8;have j4:ts.take (k+1)=ts.take k++[ts[k]]:=by rw [aly,By o8];rfl
    have n8:=hN.ok _ (IT o8);obtain⟨E,htt⟩:=aN (ts[k]);rw [←htt]at q_ j4 n8;refine az ?_;apply ai;simp [ha,k_,xk,lk,-ay];obtain⟨X,m9⟩:=aN (J'.length);obtain⟨W,v⟩:=aN (J'++[b7.box [ck] 0]);have N:SJ W cl ts:=by rw [v];exact I.push _
    have b_:LO W z us:=by rw [v];exact g_.push _
    have n_:W[l]?=aa (.box [z] 0):=by rw [v,AT (aj K)];exact K
    have o0:W[X]?=aa (.box [ck] 0):=by rw [v,m9];simp
    have i7:TC W ck E:=q_.bu fun i cs fl _ hi=>⟨fl,by rw [v,AT (aj hi)];exact hi⟩
    have t6:l≠X:=by have:=aj K;omega
    rw [←v,←m9];obtain⟨go,o7⟩:=b_.ex 62;have x9:eA 63 W (.ptr X 0 0)=aa (.fp [sl .fs (aK E)] 0):=by
     have:=i7.ex 61;simp only [Ul,o0,aZ,this];rfl
    have lus:us.length≤64:=by omega
    have f8:=T' go .fs us (by omega) (fun s hs=>⟨by have:=(c_ s hs).2.1;omega,fun p hp=>by have:=((c_ s hs).2.2 p hp).head;have:=((c_ s hs).2.2 p hp).bf;omega⟩) E;obtain⟨dv,i9⟩:=aN (us.any fun s=>fU s E:Bool);rw [←i9]at f8;have f8:bX tab 74 [.c (.f (sl go (cX us))),.c (.f (.fn 115 [.fp [sl .fs (aK E)] 0]))]=Eq (vb dv):=f8;obtain⟨n1,n2,n3,n4⟩:=Jv (F:=115) b_ o0 i7;obtain⟨J3,a_⟩:=aN (eX 64 (.cl 115 [.ptr X 0 0]) (eX 64 z W));rw [←a_]at n1 n2 n3 n4;have m0:0≠X:=by have:=aj I.h0;omega
    have m1:1≠X:=by have:=aj I.h1;omega
    have m2:2≠X:=by have:=aj I.df;omega
    have p9:aV z≠aa 2:=fun e=>by have:=A 2 e;omega
    have c9:SJ J3 cl ts:=⟨n3 0 _ N.h0 (b_.bz N.h0) m0 (fun cs fl e=>by cases e;simp),n3 1 _ N.h1 (b_.bz N.h1) m1 (fun cs fl e=>by cases e;simp),n3 2 _ N.df p9 m2 (fun cs fl e=>by cases e),N.lj.bu n2 fun i y hi u=>n3 i y u (fun e=>by have:=A i e;have:=m_ i hi;omega) (by rintro rfl;exact N.lj.bz o0 hi) fun cs fl e=>by subst e;exact absurd hi (N.lj.bz u)⟩
    have O:J3[l]?=aa (.box [z] 0):=n3 l _ n_ (b_.bz n_) t6 (fun cs fl e=>by cases e;simp);have p8:aX W ab (.c (.ptr l 0 0))=aa (.c z):=by simp [aX,aH,n_]
    apply ai;simp [d9,p8,-ay,o7,deep,aZ,x9,f8,-Ul,←a_];cases dv with
    | true=>
     refine aW (by simp) ?_;refine ax (next _ _ ⟨by simp [H],by simp [d9],by simp [k_],z,us,c9,O,n1,A,by omega,c_,fun d hd=>?_⟩ (by simp [ha]) (by simp [hb]));rw [j4,iX,mr,i3 d hd];refine⟨.inl,fun h=>h.elim id fun h=>(i3 d hd).1 ?_⟩;obtain⟨s,hs,x6⟩:=List.any_eq_true.1 i9.symm;exact⟨s,hs,(sL x6 d).2 h⟩
    | false=>
     refine av (by simp) ?_;have j8:aX J3 ab (.c (.ptr l 0 0))=aa (.c z):=by simp [aX,aH,O]
     have t_:aX J3 ab (.c (.ptr X 0 0))=aa (.c ck):=by simp [aX,aH,n4]
     have r7:=i7.bu n2;obtain⟨c3,H3,r8,f7,y6,h_,w_⟩:=n1.app (by omega) r7;have ak1:l<J3.length:=aj O;have j9:=h_ l _ O (n1.bz O);have s11:dt H3 (.ptr l 0 0) [c3]=aa (H3.set l (.box [c3] 0)):=by simp [dt,j9,over]
     refine aq (.inl rfl) ?_;simp [d9,j8,t_,-ay,r8,s11,-bw];have v9:B4 J3 (H3.set l (.box [c3] 0)):=fun i cs fl hc u=>⟨fl,by rw [sh (by rintro rfl;rw [O]at u;cases u;simp at hc)];exact h_ i _ u (n1.bz u)⟩
     refine ax (next _ _ ⟨by simp [H],by simp [d9],by simp [k_],c3,us++[E],⟨?_,?_,?_,?_⟩,BY (aj j9),?_,fun i hi=>?_,by rw [alj,List.length_singleton];omega,fun x hx=>?_,fun d hd=>?_⟩ (by simp [ha]) (by simp [hb]))
     ·rw [sh (by omega)];exact h_ 0 _ c9.h0 (n1.bz c9.h0)
     ·rw [sh (by omega)];exact h_ 1 _ c9.h1 (n1.bz c9.h1)
     ·rw [sh (by omega)];exact h_ 2 _ c9.df p9
     ·refine c9.lj.bu v9 fun i y hi u=>?_;have:=m_ i hi;have y8:l≠i:=by rintro rfl;exact c9.lj.bz O hi
      rw [sh y8];exact h_ i y u fun e=>by have:=A i e;omega
     ·refine f7.bu (fun i cs fl hc u=>⟨fl,by rw [sh (by rintro rfl;rw [j9]at u;cases u;simp at hc)];exact u⟩) fun i y hi u=>?_;rw [sh (by rintro rfl;exact f7.bz j9 hi)];exact u
     ·rcases w_ with e | e
      ·rw [e]at hi;exact A i hi
      ·rw [e]at hi;cases hi;omega
     ·rcases aln.1 hx with h | h
      ·exact c_ x h
      ·rw [alm]at h;rw [h];exact n8
     ·rw [j4,iX,iX,i3 d hd]
   ·rintro t J' ⟨H,d9,k_,z,us,I,K,g_,A,t9,c_,i3⟩ - -;rw [hM,alw]at i3;have lus:us.length≤64:=by omega
    obtain⟨go,o7⟩:=g_.ex 62;have j3:iH (us.map fun s=>⟨.fs,s⟩)=ae:=by
     simp only [iH,If,decide_eq_true_eq,alA,alq];refine⟨by omega,fun x hx=>?_⟩;obtain⟨s,hs,rfl⟩:=alC.1 hx;obtain⟨h1,h2,h3⟩:=c_ s hs;have:=al0.2 h1;simp only [jd,If,decide_eq_true_eq,alA];exact⟨⟨by omega,by omega⟩,fun p hp=>(h3 p hp).ok⟩
    have j7:=(sX go (us.map fun s=>⟨.fs,s⟩) (by simp;omega) (sY j3)).eq;rw [j3]at j7;have u9:aB (us.map fun s=>⟨.fs,s⟩)=cX us:=by simp [aB,cX,cE.row]
    rw [u9]at j7;obtain⟨n1,n2⟩:=g_.mk 62;have p8:aX J' (aa 1) (.c (.ptr l 0 0))=aa (.a [z]):=by simp [aX,aH,K,aY]
    apply au;apply ai;simp [d9,p8,-ay,o7,deep,aZ,j7];refine aW (by simp) ?_;obtain⟨W,v⟩:=aN (eX 64 z J');have n1:LO W z us:=by rw [v];exact n1
    have n2:∀(i:Nat) (y:b7),J'[i]?=aa y→aV z≠aa i→(∀ cs fl,y=b7.box cs fl→cs.length<4)→W[i]?=aa y:=fun i y u hi hn=>by
     rw [v];rcases n2 i y u hi with k | ⟨cs,f1,f2,hc,e,k⟩
     ·exact k
     ·have:=hn _ _ e;omega
    rw [←v];have e0:=n2 0 _ I.h0 (g_.bz I.h0) (fun cs fl e=>by cases e;simp);have e2:=n2 2 _ I.df (fun e=>by have:=A 2 e;omega) (fun cs fl e=>by cases e);have O:=n2 l _ K (g_.bz K) (fun cs fl e=>by cases e;simp);have j8:aX W (aa 1) (.c (.ptr l 0 0))=aa (.a [z]):=by simp [aX,aH,O,aY]
    have s0:dt W (.ptr 0 0 0) [z]=aa (W.set 0 (.box [z] 0)):=by simp [dt,e0,over]
    obtain⟨J3,a_⟩:=aN (W.set 0 (.box [z] 0));have f0:J3[0]?=aa (.box [z] 0):=by rw [a_];exact BY (aj e0)
    have f2:J3[2]?=aa (.fg ae):=by rw [a_,sh (by omega)];exact e2
    have f7:LO J3 z us:=n1.bu (fun i cs fl hc u=>⟨fl,by rw [a_,sh (by rintro rfl;rw [e0]at u;cases u;simp at hc)];exact u⟩) fun i y hi u=>by rw [a_,sh (by rintro rfl;exact n1.bz e0 hi)];exact u
    have p_:LO (J3.set 2 (.fg ag)) z us:=f7.bu (fun i cs fl hc u=>⟨fl,by rw [sh (by rintro rfl;rw [f2]at u;cases u)];exact u⟩) fun i y hi u=>by rw [sh (by rintro rfl;have:=A 2 hi;omega)];exact u
    obtain⟨gz,x_⟩:=p_.ex 62;apply ai;simp [H,d9,j8,-ay,s0,-bw];rw [←a_];refine aD (hQ _ _ _ ⟨us,gz,⟨by omega,c_,fun d hd=>by rw [i3 d hd];exact hN.mem d hd⟩,rfl⟩ (.inr ⟨2,rfl,f2,.t [.a [z],vi 0],?_,?_⟩))
    ·have u_:(J3.set 2 (.fg ag))[0]?=aa (.box [z] 0):=by rw [sh (by omega)];exact f0
     simp [Km.results,cm,aZ,H,u_,aY]
    ·simp [me,dE,aZ,deep,x_,rF]
  have o_:∀(t:T) (J:an) (cl:C) (ts:List (List aI)),t.g 2=.c (.ptr 0 0 0)→t.g 4=.c (.ptr 1 0 0)→SJ J cl ts→NT m L ts→WP tab 73 ab [.code rQ] ⟨t,[.er 2],J⟩ Q:=by
   intro t J cl ts H S I hN;apply au;apply ai;simp;refine az ?_;refine bJ (fun n s=>∃(t:T) (J:an) (cl:C) (ts:List (List aI)) (jn:Bool),s=⟨t,[.er 2],J⟩∧n=(if jn then ts.length+1 else 0)∧t.g 2=.c (.ptr 0 0 0)∧t.g 4=.c (.ptr 1 0 0)∧t.g 6=vb jn∧SJ J cl ts∧NT m L ts) (ts.length+1)
    ⟨_,J,cl,ts,ae,rfl,rfl,by simp [H],by simp [S],by simp,I,hN⟩ ?_
   clear I hN H S;rintro n s ⟨t,J,cl,ts,jn,rfl,rfl,H,S,g6,I,hN⟩ ih;apply au;apply ai;simp [g6];cases jn with
   | false=>
    refine aF (by simp) ?_;exact bg rfl (v6 _ J cl ts (by simp [H]) (by simp [S]) I hN)
   | true=>
    refine av (by simp) (aP ?_);refine az (kI ?_);apply ai;simp;refine au (oV ?_);have y9:=hN.len;obtain⟨M,hM⟩:=aN (ts.length);have l1:aX J ab (.c (.ptr 1 0 0))=aa (.c cl):=by simp [aX,aH,I.h1]
    have ll:=I.lj.len;rw [←hM]at ll;apply ai;simp [S,l1,ll,-ay];refine bZ M (fun i t J'=>J'=J∧t.g 2=.c (.ptr 0 0 0)∧t.g 4=.c (.ptr 1 0 0)∧t.g 6=vb ag) (by omega) (by decide) (by decide) (by simp) (by simp) ⟨rfl,by simp [H],by simp [S],by simp⟩ ?_ ?_
    ·rintro i t J' hi ⟨rfl,H,S,g6⟩ ha hb next
     refine az ?_;apply ai;simp [ha];apply ai;simp [aO (n:=(i:Int)+1)];refine az ?_;refine bJ (fun n s=>∃(j:Nat) (t':T),s=⟨t',[.er 2],J'⟩∧n=M-j∧i<j∧j≤M∧t'.g 2=.c (.ptr 0 0 0)∧t'.g 4=.c (.ptr 1 0 0)∧t'.g 6=vb ag∧t'.g 7=vi i∧t'.g 8=vi j∧t'.g 27=t.g 27∧t'.g 28=t.g 28) (M-(i+1))
      ⟨i+1,_,rfl,rfl,by omega,by omega,by simp [H],by simp [S],by simp [g6],by simp,by simp,by simp,by simp⟩ ?_
     rintro n s ⟨j,t',rfl,rfl,r_,hjM,i4,B,j_,f_,a7,Y,Z⟩ ih2;have s7:i<ts.length:=by omega
     obtain⟨bi,ei,ci,-,xi,li,o4⟩:=I.lj.at s7;have u5:=o4.len;apply au;apply ai;have i_:∀ E:T,E.g 2=.c (.ptr 0 0 0)→E.g 4=.c (.ptr 1 0 0)→E.g 6=vb ag→E.g 27=t.g 27→E.g 28=t.g 28→WP tab 73 ab [.inBlock 5,.code (rq 28 97),.inLoop (iu 4 28 27 29 97 rT),.inBlock 4,.inScope rS,.inBlock 3,.inLoop rR,.inBlock 2,.code ov] ⟨E,[.er 2],J'⟩ Q:=by
      intro E H S g6 Y Z;exact ax (next _ _ ⟨rfl,by simp [H],by simp [S],by simp [g6]⟩ (by rw [Z,ha]) (by rw [Y,hb]))
     have skip:∀ E:T,E.g 2=.c (.ptr 0 0 0)→E.g 4=.c (.ptr 1 0 0)→E.g 6=vb ag→E.g 7=vi i→E.g 8=vi j→E.g 27=t.g 27→E.g 28=t.g 28→j<M→WP tab 73 ab [.code yC,.inLoop yB,.inBlock 6,.inBlock 5,.code (rq 28 97),.inLoop (iu 4 28 27 29 97 rT),.inBlock 4,.inScope rS,.inBlock 3,.inLoop rR,.inBlock 2,.code ov] ⟨E,[.er 2],J'⟩ Q:=by
      intro E H S g6 g7 g8 Y Z hlt;refine aq (.inl rfl) ?_;simp [g8,aO (n:=(j:Int)+1)];exact ih2 (M-(j+1)) _ (by omega) ⟨j+1,_,rfl,rfl,by omega,by omega,by simp [H],by simp [S],by simp [g6],by simp [g7],by simp,by simp [Y],by simp [Z]⟩
     by_cases hj:j<M
     ·have alc:(decide ((ts[i].length:Int)=1))=decide (ts[i].length=1):=by
       apply decide_eq_decide.2;omega
      simp [B,f_,a7,l1,ll,hj,xi,li,u5,-ay];by_cases h1:ts[i].length=1
      ·obtain⟨p,hp⟩:∃ p,ts[i]=[p]:=List.length_eq_one_iff.1 h1;rw [hp]at o4;obtain⟨qi,yi,zi⟩:=o4.one;have l_:j<ts.length:=by omega
       obtain⟨bj,ej,cj,-,xj,lj,o5⟩:=I.lj.at l_;have n9:=o5.len;refine av (by simp [h1]) (aP ?_);apply au;refine az ?_;apply au;apply ai;by_cases h2:ts[j].length=1
       ·obtain⟨p',o9⟩:∃ p',ts[j]=[p']:=List.length_eq_one_iff.1 h2;rw [o9]at o5;obtain⟨qj,yj,zj⟩:=o5.one;have si:nI p:=(hN.ok _ (IT s7)).2.2 p (by rw [hp];simp);have sj:nI p':=(hN.ok _ (IT l_)).2.2 p' (by rw [o9];simp);have pi1:=(a6 si.ok).2.2.1;have pj1:=(a6 sj.ok).2.2.1;have pi2:=si.aM;have pj2:=sj.aM;have n6:=sG p p' pi1 (by omega) pj1 (by omega);obtain⟨dv,i9⟩:=aN ((decide (p.aM % p'.aM=0)||decide (p'.aM % p.aM=0)):Bool);rw [←i9]at n6;simp [B,f_,a7,l1,xi,li,xj,lj,n9,h2,yi,zi,yj,zj,-ay,oK,pk,←eB,n6];cases dv with
        | false=>
         refine av (by simp) ?_;refine bg rfl ?_;exact skip _ (by simp [i4]) (by simp [B]) (by simp [j_]) (by simp [f_]) (by simp [a7]) (by simp [Y]) (by simp [Z]) hj
        | true=>
         have hd:p.aM % p'.aM=0∨p'.aM % p.aM=0:=by simpa using i9.symm
         have hR:∃ R:Int,0<R∧R≤12∧p.aM ∣ R∧p'.aM ∣ R:=by
          rcases hd with h | h
          ·exact⟨p.aM,by omega,pi2,amL _,amF h⟩
          ·exact⟨p'.aM,by omega,pj2,amF h,amL _⟩
         obtain⟨R,R0,R1,Ra,Rb⟩:=hR;obtain⟨q,c1,c2,c3,c4,t7⟩:=ahK p p' si sj R0 R1 Ra Rb;have sq:nI q:=⟨c1,by have:=si.fr;have:=sj.fr;omega,amy (amn R0 c3) R1⟩
         simp only [←eB]at t7;have t8:(cY q).length=4:=rfl;obtain⟨J1,a8⟩:=aN (J'++[b7.box (cY q) 0]);have b1:J1[J'.length]?=aa (.box (cY q) 0):=by rw [a8];simp
         have l9:aX J1 (aa 4) (.c (.ptr J'.length 0 0))=aa (.a (cY q)):=by simp [aX,aH,b1,aY,cY]
         refine aW (by simp) ?_;apply ai;simp [B,f_,a7,l1,xi,li,xj,lj,yi,zi,yj,zj,-ay,oK,pk,←eB,t7,t8];rw [←a8];apply ai;simp;refine av (by simp) ?_;have d_:SJ J1 cl ts:=by rw [a8];exact I.push _
         obtain⟨W,v⟩:=aN (J1++[b7.box (cY q) 0]);have N:SJ W cl ts:=by rw [v];exact d_.push _
         have b2:W[J1.length]?=aa (.box (cY q) 0):=by rw [v];simp
         obtain⟨bb,ee,J3,c2,J4,m1,m2,m3,m4,m5,m6,v_⟩:=N.join r_ l_ (by omega) b2;have l1a:aX J1 ab (.c (.ptr 1 0 0))=aa (.c cl):=by simp [aX,aH,d_.h1]
         apply ai;simp [B,f_,l1a,l9,t8,-ay,←v,m2,m3,-bw];have u7:((j+1:Nat):Int)=(j:Int)+1:=by omega
         rw [u7]at m5;apply ai;simp [B,a7,m4,-ay,aO (n:=(j:Int)+1),m5.eq,m6,-bw];apply ai;simp;have s_:((ts.set i [q]).eraseIdx j).length=ts.length-1:=by rw [am8,ba (by rw [alI];omega),alI]
         refine bg rfl (sS (ax (ih (((ts.set i [q]).eraseIdx j).length+1) _ (by simp;omega) ⟨_,_,c2,(ts.set i [q]).eraseIdx j,ae,rfl,by simp,by simp [i4],by simp [B],by simp,v_,⟨by omega,VK hN.ok y7 sq,fun d r9=>?_⟩⟩)));rw [Ut r_ l_ hp o9 c4 d r9];exact hN.mem d r9
       ·simp [B,a7,l1,xj,lj,n9,show¬ (ts[j].length:Int)=1 by omega,-ay];refine av (by simp) ?_;refine bg rfl ?_;exact skip _ (by simp [i4]) (by simp [B]) (by simp [j_]) (by simp [f_]) (by simp [a7]) (by simp [Y]) (by simp [Z]) hj
      ·refine aF (by simp;omega) ?_;refine bg rfl ?_;exact i_ _ (by simp [i4]) (by simp [B]) (by simp [j_]) (by simp [Y]) (by simp [Z])
     ·simp [B,a7,l1,ll,hj,-ay];refine aF (by simp) ?_;refine bg rfl ?_;exact i_ _ (by simp [i4]) (by simp [B]) (by simp [j_]) (by simp [Y]) (by simp [Z])
    ·rintro t J' ⟨rfl,H,S,g6⟩ - -;refine sS (ax (ih 0 _ (by simp) ⟨_,J',cl,ts,ag,rfl,rfl,by simp [H],by simp [S],by simp [g6],I,hN⟩))
  suffices go:∀ s:T,s.g 2=.c (.ptr 0 0 0)→s.g 4=.c (.ptr 1 0 0)→s.g 14=.c (.f (.fn f e_))→WP tab 73 ab [.code BN,.inBlock 0,.code rQ] ⟨s,[],[.box [.f .aA] 0,.box [.f .aA] 0]⟩ Q by exact go _ (by simp) (by simp) (by simp)
  intro s H S v8;obtain⟨HR,i6⟩:=aN ([.box [.f .aA] 0,.box [.f .aA] 0,.fg ae,.lp 73 s [P.nat 15] nb ku .ready ab 2]:an);obtain⟨H2,he,cl,ts,hq,U⟩:=hI 3 HR (fun j J=>∃ cl ts,An s cl ts .ready J∧NT m (L.take j) ts)
   ⟨.f .aA,[],⟨by rw [i6];rfl,by rw [i6];rfl,LR.nil _ _,(fun h=>by cases h),(fun i h=>by cases h),by rw [i6];rfl,by rw [i6];rfl⟩,⟨by simp,by simp,fun d _=>by simp [ic]⟩⟩
   (fun j hj J0 J c ⟨cl,ts,hq,U⟩ hk s_ hT hc=>by
    have j4:L.take (j+1)=L.take j++[L[j]]:=by rw [aly,By hj];rfl
    have hq':An s cl ts .ready J:=hq.bu fun i y hi u=>by rw [hk i hi];exact u
    have l3:=aj hq.lp;have t4:=U.len;rw [alV]at t4;obtain⟨r,H',x8,rfl,u6,ts',hq2,o6⟩:=xl S (by omega) (show m≤64 by omega) (hL _ (IT hj)) hq' hT (fun i hi=>by have:=hc i hi;omega) (fun i hi y4=>by have:=hc i hi;have:=hq.lr.lt y4;omega);refine⟨H',x8,u6,ts',hq2,?_⟩;rw [j4];have hl2:(L.take j++[L[j]]).length=min j L.length+1:=by rw [alj,alV];rfl
    rcases o6 with⟨rfl,y_⟩ | ⟨t,rfl,ht,t5⟩
    ·refine⟨by omega,U.ok,fun d hd=>?_⟩;rw [iX,mr,U.mem d hd];exact⟨.inl,fun h=>h.elim id fun h=>absurd h (y_ d hd)⟩
    ·refine⟨by rw [alj,List.length_singleton];omega,fun x hx=>?_,fun d hd=>?_⟩
     ·rcases aln.1 hx with h | h
      ·exact U.ok x h
      ·rw [alm]at h;rw [h];exact ht
     ·rw [iX,iX,mr,mr,U.mem d hd,t5 d hd])
  rw [alw]at U;rw [i6]at he;refine fF (g:=f) (by rw [rm,v8];simp [bW]) he ?_;refine gq hq.lp (by decide) (ax ?_);have h3:=hq.three (st':=.exhausted);exact o_ s _ cl ts H S ⟨h3.h0,h3.h1,h3.df,UB (fun t ht=>(U.ok t ht).1) h3.lr h3.ne⟩ U
 exact⟨ts,g,hts,h.eq⟩
def wu(ts:List cE):Prop:=ts.length≤2∧∀ t ∈ ts,Kd 2 t.fs
theorem wu.mix{ts:List cE}(h:wu ts):iH ts=ae:=by
 simp only [iH,If,decide_eq_true_eq,alA];refine⟨by have:=h.1;omega,fun t d=>?_⟩;obtain⟨h1,h2,h3⟩:=h.2 t d;have:=al0.2 h1;simp only [jd,If,decide_eq_true_eq,alA];exact⟨⟨by omega,by omega⟩,fun p b=>(h3 p b).ok⟩
structure SQ(row:FC)(by':Int)(N:Nat)(cl:C)(us:List (List aI))(t:T)(J:an):Prop where
 b0:J[0]?=aa (.box [.f row] 0)
 b1:J[1]?=aa (.box [.f .aA] 0)
 g1:t.g 1=vi by'
 g2:t.g 2=.c (.ptr 0 0 0)
 g4:t.g 4=.c (.ptr 1 0 0)
 g6:t.g 6=.c cl
 lo:LO J cl us
theorem VJ{J:an}{b:Nat}{ps:List aI}(h:BX J b ps.length ps)(g:ps≠[]):TC J (.sl b 0 ps.length ps.length 0 4) ps:=by
 obtain⟨rest,d,j⟩:=h;have:rest=[]:=List.length_eq_zero_iff.1 (by rw [alj,lS]at j;omega);subst this;rw [al5]at d;exact .inr ⟨g,b,0,rfl,d⟩
theorem vL(g:Tg)(ts:List cE)(S:wu ts)(b:Int)(p9:-1000≤b)(n_:b≤0) :
  ∃ us g',(us.length≤2∧∀ u ∈ us,Kd 2 u)∧(∀ d,0≤d→(ic us d↔∃ t ∈ ts,fL t.fs (d-b)))∧bX tab 67 [.a [.f (sl g (aB ts))],vi b]=Eq (.t [.a [.f (sl g' (cX us))],vi 0]):=by
 obtain⟨r,⟨us,g',h1,h2,rfl⟩,h⟩:∃ r,(∃ us g',(us.length≤2∧∀ u ∈ us,Kd 2 u)∧(∀ d,0≤d→(ic us d↔∃ t ∈ ts,fL t.fs (d-b)))∧r=.t [.a [.f (sl g' (cX us))],vi 0])∧bX tab 67 [.a [.f (sl g (aB ts))],vi b] r:=by
  have I:=(sX g ts (by have:=S.1;omega) (sY S.mix)).eq;rw [S.mix]at I;have r9:=S.1;refine eQ rfl rfl fun Q hQ=>?_;apply ai;simp;apply au;apply ai;simp [I];refine aW (by simp) ?_;apply ai;simp;have k_:∀ H:an,bh H (.f (sl g (aB ts)))=aa ts.length:=fun H=>by simp
  apply au;apply ai;simp [k_];refine bZ ts.length (fun k t J=>t.g 19=.c (.f (sl g (aB ts)))∧∃ cl us,SQ (sl g (aB ts)) b 0 cl us t J∧us.length=k∧(∀ u ∈ us,Kd 2 u)∧∀ d,0≤d→(ic us d↔∃ t ∈ ts.take k,fL t.fs (d-b))) (by omega) (by decide) (by decide) (by simp) (by simp)
   ⟨by simp,.f .aA,[],⟨rfl,rfl,by simp,by simp,by simp,by simp,.inl ⟨rfl,rfl⟩⟩,rfl,by simp,fun d _=>by simp [ic]⟩ ?_ ?_
  ·rintro k t J hk ⟨a_,cl,us,z,j8,f8,c⟩ ha hb next
   have F:=fun H:an=>gZ (H:=H) (eZ ts) (gd (l:=ts) (j:=k) hk) rfl;have o:=fun H:an=>bG (H:=H) (g:=g) (rows:=aB ts) (sz:=1) (k:=.i64) (i:=k) (by omega) (by simpa using hk);simp at F o;have j7:ts.take (k+1)=ts.take k++[ts[k]]:=by rw [aly,By hk];rfl
   have B:=S.2 _ (IT hk);obtain⟨tm,o9⟩:=aN (ts[k]);rw [←o9]at F j7 B;obtain⟨ps,j3⟩:=aN (tm.fs);rw [←j3]at F B;obtain⟨n,hn⟩:=aN (ps.length);have r7:0<n:=by rw [hn];exact al0.2 B.1
   have r8:n≤2:=by have:=B.2.1;omega
   have a8:∀ H:an,bh H (.f (sl tm.tg (aK ps)))=aa n:=fun H=>by rw [hn];simp
   have o8:∀(t:T) (H:an),t.g 26=vi n→bE t H (.dN 4 64 [.aA,fi 0,fi 0,.aA] (R 26) (R 26))=aa (.c (.sl H.length 0 n n 0 4),H++[.box ((cM n [FC.aA,fi 0,fi 0,.aA]).map .f) 0]):=by
    intro t H ht;simp only [bE,rm,ht];have hi:gj (vi n)=aa (n:Int):=rfl;simp only [hi];rw [ba ⟨by omega,amM _,dG (by simp;omega) (by decide),rfl⟩,aS (by omega)];simp
   refine az ?_;apply ai;simp [ha,a_,o,F];apply ai;simp [a8,o8];obtain⟨b9,d9⟩:=aN (J.length);obtain⟨J1,Y⟩:=aN (J++[b7.box (List.replicate n [C.f FC.aA,C.f (fi 0),C.f (fi 0),C.f FC.aA]).flatten 0]);have n8:BX J1 b9 n ([]++List.replicate n zp):=by
    refine⟨[],?_,?_⟩
    ·rw [Y,d9,amg,al5];have:dp (List.replicate n zp)=List.replicate n [C.f FC.aA,C.f (fi 0),C.f (fi 0),C.f FC.aA]:=by
      rw [dp,List.map_replicate];rfl
     rw [this];simp
    ·rw [amg,al5,lS,ank]
   rw [←Y,←d9];have k1:∀(i:Nat) y,J[i]?=aa y→J1[i]?=aa y:=fun i y X=>by rw [Y,AT (aj X)];exact X
   have r_:J1.length=b9+1:=by rw [Y];simp [d9]
   apply au;apply ai;simp [a8];refine bZ n (fun j U J'=>U.g 1=vi b∧U.g 2=.c (.ptr 0 0 0)∧U.g 4=.c (.ptr 1 0 0)∧U.g 6=.c cl∧U.g 9=.c (.sl b9 0 n n 0 4)∧U.g 19=.c (.f (sl g (aB ts)))∧U.g 20=t.g 20∧U.g 21=t.g 21∧U.g 28=.c (.f (sl tm.tg (aK ps)))∧(∀(i:Nat) y,J[i]?=aa y→J'[i]?=aa y)∧b9<J'.length∧∃ qs,qs.length=j∧BX J' b9 n (qs++List.replicate (n-j) zp)∧(∀ q ∈ qs,nI q)∧∀ d,0≤d→(fL qs d↔fL (ps.take j) (d-b))) (by omega) (by decide) (by decide) (by simp) (by simp)
    ⟨by simp [z.g1],by simp [z.g2],by simp [z.g4],by simp [z.g6],by simp,by simp [a_],by simp,by simp,by simp,k1,by omega,[],rfl,by simpa using n8,by simp,fun d _=>by simp [fL]⟩ ?_ ?_
   ·rintro j U J' hj ⟨g1,g2,g4,g6,g9,M,b_,c9,c_,v,i9,qs,K,hX,f7,a⟩ i7 n9 h_;have d_:j<ps.length:=by omega
    have j9:=fun H:an=>bG (H:=H) (g:=tm.tg) (rows:=aK ps) (sz:=4) (k:=.i64) (i:=(j:Int)) (by omega) (by simp;omega);have g_:=fun H:an=>cR (H:=H) (bD ps) (cQ d_);simp only [alJ]at j9;have E:=B.2.2 _ (IT d_);have a7:ps.take (j+1)=ps.take j++[ps[j]]:=by rw [aly,By d_];rfl
    obtain⟨u,hu⟩:=aN (ps[j]);rw [←hu]at g_ E a7;obtain⟨q,c1,c2,c3,-,-,c4,j4⟩:=JN u E.ok (by have:=E.bf;omega) (by have:=E.head;omega) b (by omega) n_;have s7:=(a6 E.ok).2.2.1;have sq:nI q:=⟨c1,by have:=E.fr;omega,amy (amn (by omega) c3) E.aM⟩
    simp only [←eB]at g_ j4;have O:∀ p,(cY p).length=4:=fun _=>rfl;have tk:∀ p,List.take 4 (cY p)=cY p:=fun _=>rfl;obtain⟨W,A⟩:=aN (J'++[b7.box (cY u) 0]);have l_:W[J'.length]?=aa (.box (cY u) 0):=by rw [A];simp
    have o_:aX W (aa 4) (.c (.ptr J'.length 0 0))=aa (.a (cY u)):=by simp [aX,aH,l_,aY,O,tk]
    obtain⟨J3,Z⟩:=aN (W++[b7.box (cY q) 0]);have m9:J3[W.length]?=aa (.box (cY q) 0):=by rw [Z];simp
    have p8:aX J3 (aa 4) (.c (.ptr W.length 0 0))=aa (.a (cY q)):=by simp [aX,aH,m9,aY,O,tk]
    have i4:BX J3 b9 n (qs++List.replicate (n-j) zp):=by rw [Z,A];exact(hX.push _).push _
    have o6:(qs++List.replicate (n-j) zp).length=n:=by rw [alj,ank];omega
    obtain⟨j_,-⟩:=i4.at (i:=j) (by omega);obtain⟨J4,s4,i6,q_,o4⟩:=i4.st (i:=j) (by omega) q;rw [o6]at j_;refine az ?_;apply ai;simp [i7,c_,j9,g_,-ay,O];rw [←A];apply ai;simp [g1,o_,-ay,oK,pk,←eB,j4,O];rw [←Z];apply au;apply ai;simp;refine aW (by simp) ?_;refine aq (.inl rfl) ?_;simp [g9,p8,j_,s4,O,-ay,-bw];have o5:∀(i:Nat) y,J[i]?=aa y→J4[i]?=aa y:=fun i y X=>by
     have h1:=aj X;have h2:=aj (v i y X);rw [o4 i (by omega),Z,AT (by rw [A,alj];omega),A,AT h2];exact v i y X
    refine ax (h_ _ _ ?_ (by simp [i7]) (by simp [n9]));refine⟨by simp [g1],by simp [g2],by simp [g4],by simp [g6],by simp [g9],by simp [M],by simp [b_],by simp [c9],by simp [c_],o5,by have:=i6.lt;omega,qs++[q],by simp [K],?_,fun x L=>?_,fun d f=>?_⟩
    ·have e:(qs++List.replicate (n-j) zp).set j q=qs++[q]++List.replicate (n-(j+1)) zp:=by
      obtain⟨k,hk⟩:∃ k,n-j=k+1:=⟨n-j-1,by omega⟩
      rw [List.set_append_right _ _ (by omega),K,Nat.sub_self,hk,List.replicate_succ,List.set_cons_zero,show n-(j+1)=k by omega,alU];rfl
     rw [←e];exact i6
    ·rcases aln.1 L with h | h
     ·exact f7 x h
     ·rw [alm]at h;rw [h];exact sq
    ·rw [a7,fP,fP,a d f];simp only [fL,alm,forall_eq];rw [c4 d f]
   ·rintro U J' ⟨g1,g2,g4,g6,g9,M,b_,c9,c_,v,i9,qs,K,hX,f7,a⟩ - -;rw [Nat.sub_self,List.replicate_zero,al5]at hX;rw [hn,alw]at a;have w:qs≠[]:=by intro e;rw [e]at K;simp at K;omega
    rw [←K]at hX g9;have n6:=VJ hX w;have m_:B4 J J':=fun i cs fl _ X=>⟨fl,v i _ X⟩
    have N:LO J' cl us:=z.lo.bu m_ fun i y _ X=>v i y X;obtain⟨c3,H3,i8,i3,o7,i_,p_⟩:=N.app (by omega) n6;refine aq (.inl rfl) ?_;simp [g6,g9,i8];refine ax (next _ _ ⟨by simp [M],c3,us++[qs],⟨i_ 0 _ (v 0 _ z.b0) (N.bz (v 0 _ z.b0)),i_ 1 _ (v 1 _ z.b1) (N.bz (v 1 _ z.b1)),by simp [g1],by simp [g2],by simp [g4],by simp,i3⟩,by simp [j8],fun x L=>?_,fun d f=>?_⟩ (by simp [c9,ha]) (by simp [b_,hb]))
    ·rcases aln.1 L with h | h
     ·exact f8 x h
     ·rw [alm]at h;rw [h];exact⟨w,by omega,f7⟩
    ·rw [j7,iX,mr,c d f,a d f,j3];constructor
     ·rintro(⟨x,L,h⟩ | h)
      ·exact⟨x,alT _ L,h⟩
      ·exact⟨tm,by simp,h⟩
     ·rintro⟨x,L,h⟩;rcases aln.1 L with L | L
      ·exact .inl ⟨x,L,h⟩
      ·rw [alm]at L;rw [L]at h;exact .inr h
  ·rintro t J ⟨a_,cl,us,z,j8,f8,c⟩ - -;rw [alw]at c;obtain⟨go,o0⟩:=z.lo.ex 62;obtain⟨n1,n2⟩:=z.lo.mk 62;have I:=wa (sl go (cX us));obtain⟨vs,gv,f_,e_⟩:=JD 119 [.fp [sl go (cX us)] 0] us (by
    have:=Aj go (us.map fun s=>⟨.fs,s⟩) (by simp;omega);have e:aB (us.map fun s=>⟨.fs,s⟩)=cX us:=by simp [aB,cX,cE.row]
    have e2:(us.map fun s=>(⟨.fs,s⟩:cE)).map (·.fs)=us:=by rw [List.map_map];exact List.map_id _
    rw [e,e2]at this;exact this) (m:=2) (by omega) (by omega) f8 (by omega)
   obtain⟨W,A⟩:=aN (eX 64 cl J);have e1:W[1]?=aa (.box [.f .aA] 0):=by
    rw [A];rcases n2 1 _ z.b1 (z.lo.bz z.b1)with k | ⟨cs,f1,f2,hc,e,k⟩
    ·exact k
    ·cases e;simp at hc
   have s1:dt W (.ptr 1 0 0) [.f (sl gv (cX vs))]=aa (W.set 1 (.box [.f (sl gv (cX vs))] 0)):=by simp [dt,e1,over]
   have f1:(W.set 1 (.box [.f (sl gv (cX vs))] 0))[1]?=aa (.box [.f (sl gv (cX vs))] 0):=BY (aj e1);apply ai;simp [z.g4,z.g6,o0,deep,I,e_,rF,←A,s1,-bw];refine aD (hQ _ _ _ ⟨vs,gv,⟨by have:=f_.len;omega,f_.ok⟩,fun d f=>by rw [f_.mem d f];exact c d f,rfl⟩ ⟨rfl,.t [.a [.f (sl gv (cX vs))],vi 0],?_,by simp [me,dE,aZ]⟩);simp [Km.results,cm,aZ,z.g4,f1,aY]
 exact⟨us,g',h1,h2,h.eq⟩
def TW(J:an)(c:C)(fs:List aI):Prop:=(∃ g,c=.f (sl g (aK fs)))∨(∃ b d fl,c=.sl b 0 fs.length 0 d 4∧J[b]?=aa (.cO 4 ((aK fs).flatten.map .f) fl d .loc))
section
variable{J:an}{c:C}{fs:List aI}
theorem TV.tw(h:TV J c fs):TW J c fs:=by
 rcases h with⟨g,rfl⟩ | ⟨h0,rfl | rfl⟩ | ⟨j,b,d,rfl,hb⟩
 ·exact .inl ⟨g,rfl⟩
 ·exact .inl ⟨.nil,by rw [h0];rfl⟩
 ·exact .inl ⟨.es,by rw [h0];rfl⟩
 ·unfold RB at hb;exact .inr ⟨b,d,0,by rw [zW],hb⟩
theorem TW.ex(h:TW J c fs)(h0:fs≠[])(n:Nat):eA (n+1) J c=aa (sl .fs (aK fs)):=by
 rcases h with⟨g,rfl⟩ | ⟨b,d,fl,rfl,hb⟩
 ·show aa (sl g (aK fs))=_;rw [lU h0,lU h0]
 ·have hl:(aK fs).flatten.length=fs.length*4:=by have:=cA (bD fs);simpa using this
  simp only [jI,hb];rw [ba ⟨trivial,trivial,by rw [alq];omega⟩,amd,alz (by rw [alq];omega),lO,lU h0];rfl
theorem TW.mk(h:TW J c fs)(n:Nat):TW (eX (n+1) c J) c fs∧∀(i:Nat) (y:b7),J[i]?=aa y→aV c≠aa i→(eX (n+1) c J)[i]?=aa y:=by
 rcases h with⟨g,rfl⟩ | ⟨b,d,fl,rfl,hb⟩
 ·exact⟨.inl ⟨g,rfl⟩,fun i y hy _=>hy⟩
 ·have e:eX (n+1) (.sl b 0 fs.length 0 d 4) J=J.set b (.cO 4 ((aK fs).flatten.map .f) (Nat.max fl (0+fs.length*4)) d .loc):=by
   simp only [po,hb];rw [jJ];intro x j;have j:=alY (amj j);obtain⟨m,_,rfl⟩:=alC.1 j;exact⟨_,rfl⟩
  rw [e];exact⟨.inr ⟨b,d,_,rfl,BY (aj hb)⟩,fun i y hy hi=>by rw [sh (by rintro rfl;exact hi rfl)];exact hy⟩
theorem TW.set(h:TW J c fs){i:Nat}(hi:aV c≠aa i)(x:b7):TW (J.set i x) c fs:=by
 rcases h with h | ⟨b,d,fl,rfl,hb⟩
 ·exact .inl h
 ·exact .inr ⟨b,d,fl,rfl,by rw [sh (by rintro rfl;exact hi rfl)];exact hb⟩
end
theorem wW(ps:List aI)(h:ma ps)(n:Int)(hn:0≤n)(b_:n≤1000000000000):∃ d f,ew (Is ps n) d f∧(0≤d∧d≤1000001000000)∧∀ H g found c,QH H n g found→TW H c ps→(∀ i,aV c=aa i→4<i) →
  ∃ r H',Ev tab (.yield 4) [.c c] H r H'∧(r=vb ae∧QH H' n (if f=ae∧(found=ag∨d<g)then d else g) (found||f)):=by
 obtain⟨d,f,e0,f0,hm,hd,he,hc⟩:=C5 .fs ps h n hn b_;refine⟨d,f,hm,hd,?_⟩;rintro H g found c ⟨h0,h1,h2,h3,s,h4,u,K,L⟩ v N;refine ea (tab:=tab) (b:=4) h4 rfl fun Q' M=>?_;have a_:=aj h4;have F:∀(t:T) (j:an),j[0]?=aa (.box [.f (fi n)] 0)→j[1]?=aa (.box [.f (fi g)] 0)→j[2]?=aa (.box [.f (.bool found)] 0)→j[3]?=aa (.fg ae)→j[4]?=aa (.lp 69 s [P.nat 12] bT bI .busy ab 3) →
   t.g 3=.c (.ptr 0 0 0)→t.g 6=.c (.ptr 1 0 0)→t.g 7=.c (.ptr 2 0 0)→t.g 9=vi d→t.g 10=vb f→WP tab 69 (aa 4) [.code rN,.inBlock 1] ⟨t,[],j⟩ Q':=by
  rintro t j q0 U A q3 q4 e3 I y J q;have l1:=aj U;have l2:=aj A;have bu:(f=ae∧(found=ag∨d<g)→False)→QH (j.set 4 (.lp 69 s [P.nat 12] bT bI .ready ab 3)) n (if f=ae∧(found=ag∨d<g)then d else g) (found||f):=by
   intro x;have hf:(found||f)=found:=by
    cases f<;>cases found<;>simp at x ⊢
   rw [aS x,hf];exact⟨by rw [sh (by decide)];exact q0,by rw [sh (by decide)];exact U,by rw [sh (by decide)];exact A,by rw [sh (by decide)];exact q3,s,BY (aj q4),u,K,L⟩
  have c9:(j.set 1 (.box [.f (fi d)] 0))[2]?=aa (.box [.f (.bool found)] 0):=by rw [sh (by decide)];exact A
  have Q:(f=ae∧(found=ag∨d<g))→QH (((j.set 1 (.box [.f (fi d)] 0)).set 2 (.box [.f (.bool ae)] 0)).set 4 (.lp 69 s [P.nat 12] bT bI .ready ab 3)) n (if f=ae∧(found=ag∨d<g)then d else g) (found||f):=by
   intro l;have hf:(found||f)=ae:=by rw [l.1];simp
   rw [ba l,hf];refine⟨?_,?_,?_,?_,s,BY (by simp;exact aj q4),u,K,L⟩
   ·rw [sh (by decide),sh (by decide),sh (by decide)];exact q0
   ·rw [sh (by decide),sh (by decide),BY l1]
   ·rw [sh (by decide),BY (by simpa using l2)]
   ·rw [sh (by decide),sh (by decide),sh (by decide)];exact q3
  have done:∀ B:T,(f=ae∧(found=ag∨d<g)→False)→WP tab 69 (aa 4) [.inBlock 1] ⟨B,[],j⟩ Q':=by
   intro B x;refine ax (cU (M _ _ _ _ _ _ _ _ _ _ rfl q4 ⟨rfl,?_⟩));have:=bu x;rw [show(j.set 4 (.lp 69 s [P.nat 12] bT bI .ready ab 3))=j.set 4 (.lp 69 s [P.nat 12] bT bI (if(ab:Option aw).isNone=ae then .ready else .done) ab 3) from rfl]at this;exact this
  have m:∀ B:T,B.g 6=.c (.ptr 1 0 0)→B.g 7=.c (.ptr 2 0 0)→B.g 9=vi d→(f=ae∧(found=ag∨d<g))→WP tab 69 (aa 4) [.code rO,.inBlock 1] ⟨B,[],j⟩ Q':=by
   intro B I y J l;refine aq (.inr rfl) ?_;simp [I,y,J,U,A,c9];refine ax (cU (M _ _ _ _ _ _ _ _ _ _ rfl (by rw [sh (by decide),sh (by decide)];exact q4) ⟨rfl,?_⟩));exact Q l
  apply au;cases f with
  | false=>
   refine aq (.inr rfl) ?_;simp [y,q,A];refine aF (by simp) (aP (done _ (by simp)))
  | true=>
   cases found with
   | false=>
    refine aq (.inr rfl) ?_;simp [y,q,A];refine av (by simp) (m _ (by simp [I]) (by simp [y]) (by simp [J]) (by simp))
   | true=>
    by_cases k:d<g
    ·refine aq (.inr rfl) ?_;simp [I,y,J,q,U,A,k];refine av (by simp) (m _ (by simp [I]) (by simp [y]) (by simp [J]) (by simp [k]))
    ·refine aq (.inr rfl) ?_;simp [I,y,J,q,U,A,k];refine aF (by simp) (aP (done _ (by simp [k])))
 refine aq (.inr rfl) ?_;simp;refine iF h4 ?_;have b0:(H.set 4 (.lp 69 s [P.nat 12] bT bI .busy ab 3))[0]?=aa (.box [.f (fi n)] 0):=by rw [sh (by decide)];exact h0
 have b1:(H.set 4 (.lp 69 s [P.nat 12] bT bI .busy ab 3))[1]?=aa (.box [.f (fi g)] 0):=by rw [sh (by decide)];exact h1
 have X:(H.set 4 (.lp 69 s [P.nat 12] bT bI .busy ab 3))[2]?=aa (.box [.f (.bool found)] 0):=by rw [sh (by decide)];exact h2
 have Y:(H.set 4 (.lp 69 s [P.nat 12] bT bI .busy ab 3))[3]?=aa (.fg ae):=by rw [sh (by decide)];exact h3
 have Z:(H.set 4 (.lp 69 s [P.nat 12] bT bI .busy ab 3))[4]?=aa (.lp 69 s [P.nat 12] bT bI .busy ab 3):=BY a_;have v:=v.set (i:=4) (fun e=>by have:=N 4 e;omega) (.lp 69 s [P.nat 12] bT bI .busy ab 3);generalize H.set 4 (.lp 69 s [P.nat 12] bT bI .busy ab 3)=j at b0 b1 X Y Z v ⊢;have S:∀ i:Nat,i≤4→aV c≠aa i:=fun i hi e=>by have:=N i e;omega
 have step:∀ j:an,j[0]?=aa (.box [.f (fi n)] 0)→j[1]?=aa (.box [.f (fi g)] 0)→j[2]?=aa (.box [.f (.bool found)] 0)→j[3]?=aa (.fg ae)→j[4]?=aa (.lp 69 s [P.nat 12] bT bI .busy ab 3)→TW j c ps →
   ∃ E:an,E=eX 64 c j∧eA 64 j c=aa (sl .fs (aK ps))∧E[0]?=aa (.box [.f (fi n)] 0)∧E[1]?=aa (.box [.f (fi g)] 0)∧E[2]?=aa (.box [.f (.bool found)] 0)∧E[3]?=aa (.fg ae)∧E[4]?=aa (.lp 69 s [P.nat 12] bT bI .busy ab 3)∧TW E c ps:=by
  intro j b0 b1 X Y Z hT;obtain⟨m1,O⟩:=hT.mk 63;exact⟨_,rfl,hT.ex (al0.1 h.l1) 63,O 0 _ b0 (S 0 (by omega)),O 1 _ b1 (S 1 (by omega)),O 2 _ X (S 2 (by omega)),O 3 _ Y (S 3 (by omega)),O 4 _ Z (S 4 (by omega)),m1⟩
 obtain⟨H1,e1,x1,W,a1,a2,a3,a4,a7⟩:=step j b0 b1 X Y Z v;obtain⟨H2,e2,x2,c0,c1,c2,c3,c4,a8⟩:=step H1 W a1 a2 a3 a4 a7;obtain⟨H3,e3,x3,d0,d1,d2,d3,d4,c_⟩:=step H2 c0 c1 c2 c3 c4 a8;refine az ?_;refine au (aq (.inr rfl) ?_);simp [u,b0,x1,deep,he,←e1];apply au;rcases hc with⟨rfl,rfl,rfl⟩ | ⟨rfl,rfl,b,z,hc⟩
 ·refine au (aq (.inr rfl) ?_);simp;refine aW (by simp) ?_;exact F _ _ W a1 a2 a3 a4 (by simp [u]) (by simp [K]) (by simp [L]) (by simp) (by simp)
 ·rcases hc with⟨rfl,rfl,rfl⟩ | ⟨rfl,hl⟩
  ·refine au (aq (.inr rfl) ?_);simp [u,W,x2,deep,z,←e2,show n≤1152921504606846976 by omega];refine aW (by simp) ?_;exact F _ _ c0 c1 c2 c3 c4 (by simp [u]) (by simp [K]) (by simp [L]) (by simp) (by simp)
  ·refine au (aq (.inr rfl) ?_);simp [u,W,x2,deep,z,←e2,show n≤1152921504606846976 by omega];refine av (by simp) ?_;refine aq (.inr rfl) ?_;simp [u,c0,x3,deep,hl,←e3];exact F _ _ d0 d1 d2 d3 d4 (by simp [u]) (by simp [K]) (by simp [L]) (by simp) (by simp)
def KR(L:List (List aI))(n x:Int):Prop:=∃ t ∈ L,Is t n x
theorem abI{H H':an}{n b:Int}{found:Bool}(h:QH H n b found)(v:∀ i:Nat,i<H.length→H'[i]?=H[i]?):QH H' n b found:=by
 obtain⟨g,j,l,m,s,q,u⟩:=h;have k:∀(i:Nat) y,H[i]?=aa y→H'[i]?=aa y:=fun i y d=>by rw [v i (aj d)];exact d
 exact⟨k _ _ g,k _ _ j,k _ _ l,k _ _ m,s,k _ _ q,u⟩
theorem Jp(F:Nat)(l:List FC)(L:List (List aI))(o:BZ F l L)(k:∀ t ∈ L,ma t)(n:Int)(hn:0≤n)(K:n≤1000000000000):∃ d f,ew (KR L n) d f∧(0≤d∧d≤1000001000000) ∧
  bX tab 69 [.c (.f (.fn F l)),vi n]=Eq (.t [vi d,vb f]):=by
 have key:∃ r,(∃ d f,ew (KR L n) d f∧(0≤d∧d≤1000001000000)∧r=.t [vi d,vb f])∧bX tab 69 [.c (.f (.fn F l)),vi n] r:=by
  refine pE aca rfl fun Q p=>?_;have z:∀ s:T,s.g 3=.c (.ptr 0 0 0)→s.g 6=.c (.ptr 1 0 0)→s.g 7=.c (.ptr 2 0 0)→s.g 11=.c (.f (.fn F l)) →
    WP tab 69 ab [.code wh,.inBlock 0,.code rP] ⟨s,[],[.box [.f (fi n)] 0,.box [.f (fi 0)] 0,.box [.f (.bool ag)] 0]⟩ Q:=by
   intro s a O S A;obtain⟨y,Z,b,found,⟨-,w1,w2,w3,N,w4,-⟩,q,U⟩:=o 4 [.box [.f (fi n)] 0,.box [.f (fi 0)] 0,.box [.f (.bool ag)] 0,.fg ae,.lp 69 s [P.nat 12] bT bI .ready ab 3]
    (fun j H=>∃ b found,QH H n b found∧ew (KR (L.take j) n) b found∧(0≤b∧b≤1000001000000))
    ⟨0,ag,⟨rfl,rfl,rfl,rfl,s,rfl,a,O,S⟩,.inl ⟨rfl,rfl,fun d v=>by obtain⟨t,m,-⟩:=v;simp at m⟩,by omega,by omega⟩ fun j W Y J c ⟨b,found,u,q,U⟩ hk X w hc=>by
     obtain⟨d,f,I,v,hy⟩:=wW L[j] (k _ (IT W)) n hn K;have l4:4<Y.length:=by obtain⟨-,-,-,-,s',e,-⟩:=u;exact aj e
     obtain⟨r,H',E,rfl,B⟩:=hy J b found c (abI u hk) w.tw (fun i hi=>by have:=hc i hi;omega);have M:L.take (j+1)=L.take j++[L[j]]:=by rw [aly,By W];rfl
     refine⟨H',E,_,_,B,ew.join q I fun x=>?_,?_⟩
     ·unfold KR;rw [M];constructor
      ·rintro⟨t,m,h⟩;rcases aln.1 m with m | m
       ·exact .inl ⟨t,m,h⟩
       ·rw [alm.1 m]at h;exact .inr h
      ·rintro(⟨t,m,h⟩ | h)
       ·exact⟨t,alT _ m,h⟩
       ·exact⟨_,amw _ (alm.2 rfl),h⟩
     ·split<;>omega
   rw [alw]at q;refine fF (g:=F) (by rw [rm,A];simp [bW]) Z ?_;refine gq w4 (by decide) ?_;refine ax ?_;apply ai;have v1:(y.set 4 (.lp 69 N [P.nat 12] bT bI .exhausted ab 3))[1]?=aa (.box [.f (fi b)] 0):=by rw [sh (by decide)];exact w1
   have v2:(y.set 4 (.lp 69 N [P.nat 12] bT bI .exhausted ab 3))[2]?=aa (.box [.f (.bool found)] 0):=by rw [sh (by decide)];exact w2
   have v3:(y.set 4 (.lp 69 N [P.nat 12] bT bI .exhausted ab 3))[3]?=aa (.fg ae):=by rw [sh (by decide)];exact w3
   simp [O,S,v1,v2];refine aD (p _ _ _ ⟨b,found,q,U,rfl⟩ (.inr ⟨3,rfl,v3,.t [vi b,vb found],?_,by simp [me,dE,aZ]⟩));simp [Km.results,cm,aZ]
  apply ai;simp;apply ai;simp;apply au;apply ai;simp;refine az ?_;exact z _ (by simp) (by simp) (by simp) (by simp)
 obtain⟨r,⟨d,f,q,v,rfl⟩,h⟩:=key;exact⟨d,f,q,v,h.eq⟩
def pA(ss ts:List (List aI)):List (List aI):=(ss.map fun s=>ts.map fun t=>s++t).flatten
theorem qt{ss ts:List (List aI)}{x:List aI}:x ∈ pA ss ts↔∃ s ∈ ss,∃ t ∈ ts,x=s++t:=by
 unfold pA;rw [List.mem_flatten];constructor
 ·rintro⟨l,g,j⟩;obtain⟨s,b,rfl⟩:=alC.1 g;obtain⟨t,d,rfl⟩:=alC.1 j;exact⟨s,b,t,d,rfl⟩
 ·rintro⟨s,b,t,d,rfl⟩;exact⟨_,alC.2 ⟨s,b,rfl⟩,alC.2 ⟨t,d,rfl⟩⟩
theorem JH(ss ts:List (List aI)):(pA ss ts).length=ss.length*ts.length:=by
 unfold pA;induction ss with
 | nil=>simp| cons s ss b=>rw [alo,alG,alj,b,alq,al2,Nat.succ_mul,Nat.add_comm]
theorem U3{ss ts:List (List aI)}{i k:Nat}(hi:i<ss.length)(d:k<ts.length):(pA ss ts)[i*ts.length+k]?=aa (ss[i]++ts[k]):=by
 have h:=sO (rows:=ss.map fun s=>ts.map fun t=>s++t) (sz:=ts.length) (j:=i) (row:=ts.map fun t=>ss[i]++t) (fun r g=>by
  obtain⟨s,-,rfl⟩:=alC.1 g;simp) (by simp [hi])
 have b:(ts.map fun t=>ss[i]++t)[k]?=aa (ss[i]++ts[k]):=by simp [d]
 rw [←h,List.getElem?_take,ba d,alK]at b;exact b
theorem U4(x y:FC):bX tab 70 [.a [.f x],.a [.f y]]=Eq (.c (.f (.fn 109 [.fp [x] 0,.fp [y] 0]))):=by
 refine bX.eq (cz rfl rfl fun Q b=>?_);apply ai;simp;apply ai;simp;refine aD (b _ _ ?_);simp [deep]
theorem Bj(g g':Tg)(ss ts:List cE)(hs:ss.length≤1000)(ht:ts.length≤1000)(c9:∀ s ∈ ss,s.fs.length≤1000)(c_:∀ t ∈ ts,t.fs.length≤1000) :
  BZ 109 [.fp [sl g (aB ss)] 0,.fp [sl g' (aB ts)] 0] (pA (ss.map (·.fs)) (ts.map (·.fs))):=by
 intro b H PP h0 hy;have y:(pA (ss.map (·.fs)) (ts.map (·.fs))).length=ss.length*ts.length:=by rw [JH,alq,alq]
 have W:∀ H:an,bh H (.f (sl g (aB ss)))=aa ss.length:=fun H=>by simp
 have X:∀ H:an,bh H (.f (sl g' (aB ts)))=aa ts.length:=fun H=>by simp
 obtain⟨r,Y,he,rfl,h⟩:∃ r Y,Ev tab (.fn 109) [.c (.yl b),.c (.f (.fp [sl g (aB ss)] 0)),.c (.f (.fp [sl g' (aB ts)] 0))] H r Y∧(r=.t []∧PP (ss.length*ts.length) Y):=by
  refine cH rfl rfl fun Q hQ=>?_;apply ai;simp [qR,W];refine bZ ss.length (fun i s J=>s.g 0=.c (.yl b)∧s.g 2=.c (.f (.fp [sl g' (aB ts)] 0))∧s.g 9=.c (.f (sl g (aB ss)))∧PP (i*ts.length) J) (by omega) (by decide) (by decide) (by simp) (by simp) ⟨by simp,by simp,by simp,by simpa using h0⟩ ?_ ?_
  ·rintro i s J hi ⟨A,I,K,L⟩ n hb next
   have z:=fun H:an=>gZ (H:=H) (eZ ss) (gd (l:=ss) (j:=i) hi) rfl;have v:=fun H:an=>bG (H:=H) (g:=g) (rows:=aB ss) (sz:=1) (k:=.i64) (i:=i) (by omega) (by simpa using hi);simp at z v;refine az ?_;apply ai;simp [K,n,v,z];apply ai;simp [I,qR,X];refine bZ ts.length (fun k u J=>u.g 0=.c (.yl b)∧u.g 2=.c (.f (.fp [sl g' (aB ts)] 0))∧u.g 9=.c (.f (sl g (aB ss)))∧u.g 5=.c (.f (sl ss[i].tg (aK ss[i].fs)))∧u.g 16=.c (.f (sl g' (aB ts)))∧u.g 10=s.g 10∧u.g 11=s.g 11∧PP (i*ts.length+k) J) (by omega) (by decide) (by decide) (by simp) (by simp)
    ⟨by simp [A],by simp [I],by simp [K],by simp,by simp,by simp,by simp,by simpa using L⟩ ?_ ?_
   ·rintro k u J a ⟨A,I,K,f,E,eH,B,L⟩ U o O;have m:=fun H:an=>gZ (H:=H) (eZ ts) (gd (l:=ts) (j:=k) a) rfl;have d:=fun H:an=>bG (H:=H) (g:=g') (rows:=aB ts) (sz:=1) (k:=.i64) (i:=k) (by omega) (by simpa using a);simp at m d;have a_:i*ts.length+k<(pA (ss.map (·.fs)) (ts.map (·.fs))).length:=by
     rw [y];have:(i+1)*ts.length≤ss.length*ts.length:=Nat.mul_le_mul_right _ hi;rw [alM,am2]at this;omega
    have w:(pA (ss.map (·.fs)) (ts.map (·.fs)))[i*ts.length+k]=ss[i].fs++ts[k].fs:=by
     have:=U3 (ss:=ss.map (·.fs)) (ts:=ts.map (·.fs)) (i:=i) (k:=k) (by simpa using hi) (by simpa using a);simp only [alq,amN]at this;exact(List.getElem?_eq_some_iff.1 this).2
    have e_:=c9 _ (IT hi);have f7:=c_ _ (IT a);obtain⟨Z,q⟩:=aN (J++[b7.box [.f (sl ss[i].tg (aK ss[i].fs)),.f (sl ts[k].tg (aK ts[k].fs))] 0]);have b1:Z[J.length]?=aa (.box [.f (sl ss[i].tg (aK ss[i].fs)),.f (sl ts[k].tg (aK ts[k].fs))] 0):=by rw [q];simp
    have b_:aK (ss[i].fs++ts[k].fs)=aK ss[i].fs++aK ts[k].fs:=by simp [aK]
    obtain⟨r,e,N,c,rfl,M,a8,d_,p⟩:=ve (tab:=tab) (H:=Z) (F:=110) (G:=154) (sz:=4) (bytes:=64) (zs:=[.aA,fi 0,fi 0,.aA]) adL adP (by decide) rfl (b:=J.length) [(.f (sl ss[i].tg (aK ss[i].fs)),aK ss[i].fs),(.f (sl ts[k].tg (aK ts[k].fs)),aK ts[k].fs)] b1 (by simp)
     (fun x S=>by
      simp only [alW,List.not_mem_nil,or_false]at S;rcases S with rfl | rfl
      ·exact⟨bD _,fun H' _=>⟨by simp,oB (bD _)⟩⟩
      ·exact⟨bD _,fun H' _=>⟨by simp,oB (bD _)⟩⟩)
     (by simp;omega) (dG (by simp;omega) (by decide))
    have M:LR e c 4 (aK (ss[i].fs++ts[k].fs)):=by
     rw [b_];simpa using M
    have d9:Z.length=J.length+1:=by rw [q];simp
    obtain⟨J3,a7,h⟩:=hy (i*ts.length+k) a_ J e c L (fun x S=>by rw [a8 x (by omega),q,AT S]) (by omega) (by rw [w];exact .inr M) (fun x S=>by have:=p x S;omega);have N:Ev tab (.fn 110) [.c (.sl J.length 0 2 2 0 1)] Z (.c c) e:=N;refine az ?_;apply ai;simp [U,E,d,m];apply au;refine aq (.inl rfl) ?_;simp [A,f,←q,N.eq,a7.eq];refine aW (by simp) ?_;refine ax (O _ _ ?_ (by simp [U]) (by simp [o]));exact⟨by simp [A],by simp [I],by simp [K],by simp [f],by simp [E],by simp [eH],by simp [B],h⟩
   ·rintro u J ⟨A,I,K,f,E,eH,B,L⟩ - -;refine ax (next _ _ ⟨by simp [A],by simp [I],by simp [K],?_⟩ (by simp [B,n]) (by simp [eH,hb]));rw [alM,am2];exact L
  ·rintro s J ⟨A,I,K,L⟩ n hb;exact cU (hQ _ _ _ rfl rfl ⟨rfl,L⟩)
 exact⟨Y,he,by rw [y];exact h⟩
def eL(ts:List cE)(d:Int):Prop:=∃ t ∈ ts,fL t.fs d
theorem B5(us:List (List aI))(d:Int):eL (us.map fun s=>⟨.fs,s⟩) d↔ic us d:=by
 unfold ic eL;constructor
 ·rintro⟨t,b,h⟩;obtain⟨x,g,rfl⟩:=alC.1 b;exact⟨x,g,h⟩
 ·rintro⟨t,b,h⟩;exact⟨_,alC.2 ⟨t,b,rfl⟩,h⟩
theorem vS:∀ {l:List aI},(∀ p ∈ l,nI p)→1≤eo l∧eo l≤12 ^ l.length
 | [],_=>by simp [eo]
 | p::l,h=>by
  have b:=h p alr;have g:=(a6 b.ok).2.2.1;have d:=b.aM;obtain⟨j,m⟩:=vS fun q u=>h q (alu _ u);simp only [eo,al2];have v:=amE g j (by decide) (by omega);have s:=amE d m (by omega) (by decide);rw [Int.pow_succ,ami];refine⟨by rw [ami];omega,by rw [ami];rw [ami (12 ^ l.length)];exact s⟩
theorem tG:∀ {l:List aI},(∀ p ∈ l,nI p)→cJ l≤50
 | [],_=>by simp [cJ]
 | p::l,h=>by
  have d:=(h p alr).fr;have g:=tG fun q b=>h q (alu _ b);simp only [cJ];omega
theorem Ja{fs:List aI}(b:fs≠[])(g:fs.length≤4)(h:∀ p ∈ fs,nI p):ma fs:=by
 have m:=al0.2 b;refine⟨by omega,by omega,fun p d=>(h p d).mod,?_,by have:=tG h;omega⟩;have j:=(vS h).2;have l:(12:Int) ^ fs.length≤12 ^ 4:=by
  have:fs.length=1∨fs.length=2∨fs.length=3∨fs.length=4:=by omega
  rcases this with e | e | e | e<;>rw [e]<;>decide
 have:(12:Int) ^ 4=20736:=by decide
 omega
theorem JA(g g':Tg)(ss ts:List cE)(l:wu ss)(m:wu ts)(n:Int)(c:-1000000000000≤n)(O:n≤1000000000000) :
  ∃ d f,ew (fun x=>max n 0≤x∧eL ss x∧eL ts x) d f∧(0≤d∧d≤1000001000000)∧bX tab 36 [.a [.f (sl g (aB ss))],.a [.f (sl g' (aB ts))],vi n]=Eq (.t [vi d,vb f]):=by
 have v:=(sX g ss (by have:=l.1;omega) (sY l.mix)).eq;rw [l.mix]at v;have z:=(sX g' ts (by have:=m.1;omega) (sY m.mix)).eq;rw [m.mix]at z;have H:=U4 (sl g (aB ss)) (sl g' (aB ts));have E:=Bj g g' ss ts (by have:=l.1;omega) (by have:=m.1;omega) (fun s h=>by have:=(l.2 s h).2.1;omega) (fun t h=>by have:=(m.2 t h).2.1;omega);obtain⟨d,f,N,M,F⟩:=Jp _ _ _ E (fun x U=>by
  obtain⟨s,b,t,j,rfl⟩:=qt.1 U;obtain⟨s,q,rfl⟩:=alC.1 b;obtain⟨t,u,rfl⟩:=alC.1 j;obtain⟨a1,Z,I⟩:=l.2 s q;obtain⟨b1,a,J⟩:=m.2 t u;refine Ja (by simp [a1]) (by rw [alj];omega) fun p S=>?_;rcases aln.1 S with h | h
  ·exact I p h
  ·exact J p h) (max n 0) (by omega) (by omega)
 refine⟨d,f,N.iff fun x=>?_,M,bX.eq (cz rfl rfl fun Q L=>?_)⟩
 ·unfold KR Is;constructor
  ·rintro⟨A,⟨s,q,u⟩,⟨t,B,K⟩⟩;refine⟨_,qt.2 ⟨_,alC.2 ⟨s,q,rfl⟩,_,alC.2 ⟨t,B,rfl⟩,rfl⟩,A,(iC (by omega)).2 ((fP s.fs t.fs x).2 ⟨u,K⟩)⟩
  ·rintro⟨y,W,A,q⟩;obtain⟨s,b,t,j,rfl⟩:=qt.1 W;obtain⟨s,u,rfl⟩:=alC.1 b;obtain⟨t,B,rfl⟩:=alC.1 j;obtain⟨X,Y⟩:=(fP s.fs t.fs x).1 ((iC (by omega)).1 q);exact⟨A,⟨s,u,X⟩,⟨t,B,Y⟩⟩
 ·apply ai;simp;apply au;apply ai;simp [v,z];refine aW (by simp) ?_;apply ai;simp [H,F];refine aD (L _ _ ?_);simp
end Go.Proofs.YthkmdpgdicohdaaGreat
