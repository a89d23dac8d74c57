/-
  ad5 the nA kH and the mP answer, for all arguments of their kind, in the small machine: part 4.
-/
import Derived.Test.YthkmdpgdicohdaaGreatS3
import Derived.Test.YthkmdpgdicohdaaGreatS1
import Derived.Test.YthkmdpgdicohdaaGreatS2
import Derived.Test.YthkmdpgdicohdaaGreatProg
import Derived.Test.YthkmdpgdicohdaaGreatK3
import Derived.Test.YthkmdpgdicohdaaGreatEv
open Option renaming some → aa,none → ab
open Bool renaming true → ae,false → ag
open List renaming length_map → alq, mem_map → alC, getElem_mem → IT, map_cons → alo, map_nil → alH, getElem?_append_left → AT, length_append → alj, mem_append → aln, mem_singleton → alm, mem_append_left → alT, getElem?_set_ne → sh, length_set → alI, getElem?_set_self → BY, getElem_of_mem → alB, getElem?_append_right → alp, mem_cons → alW, take_add_one → aly, getElem?_eq_getElem → By, take_length → alw
open Nat renaming le_refl → alk
open Int renaming toNat_natCast → alJ, lt_or_le → amz
open Prod.mk renaming injEq → OF
set_option linter.unusedVariables false
set_option linter.constructorNameAsVariable false
set_option linter.unusedSimpArgs false
set_option linter.unusedSectionVars false
set_option linter.unnecessarySimpa false
set_option maxRecDepth 100000
namespace Go.Proofs.YthkmdpgdicohdaaGreat
open Go Km
structure Pr where
 c:cd
 d:cd
 k:Int
 gx:Tg
 xs:List cE
 gy:Tg
 ys:List cE
def Pr.row(p:Pr):List C:=[.f (sl p.c.mg (aB p.c.ts)),.f (fi p.c.min),.f (sl p.d.mg (aB p.d.ts)),.f (fi p.d.min),.f (fi p.k),.f (sl p.gx (aB p.xs)),.f (sl p.gy (aB p.ys)),.f (fi (max 0 (-p.k)))]
def zC(la b:Int)(c d:cd):Int:=(c.min-d.min-b) / 1440+1
def zr(la b:Int)(c d:cd):Int:=(c.min-d.min+la-1) / 1440
structure oz(a b:aU)(p:Pr):Prop where
 ca:p.c ∈ a.cs
 db:p.d ∈ b.cs
 lo:zC a.len b.len p.c p.d≤p.k
 hi:p.k≤zr a.len b.len p.c p.d
 xo:wu p.xs
 yo:wu p.ys
 xm:∀ e,0≤e→(eL p.xs e↔eL p.c.ts (e+max 0 (-p.k)))
 ym:∀ e,0≤e→(eL p.ys e↔eL p.d.ts (e+max 0 p.k))
structure jQ(s:aU):Prop where
 ok:kz s
 few:∀ c ∈ s.cs,wu c.ts
 ex:∀ x ∈ s.xs,-1000000≤x.fr∧x.to≤1000000∧x.fr<x.to
theorem jQ.cn{s:aU}(h:jQ s):s.cs.length≤3:=h.ok.cn
theorem B'{us:List (List aI)}(h:us.length≤2∧∀ u ∈ us,Kd 2 u):wu (us.map fun s=>⟨.fs,s⟩):=⟨by rw [alq];exact h.1,fun t b=>by
 obtain⟨u,d,rfl⟩:=alC.1 b;exact h.2 u d⟩
theorem I9(a b:aU):bX tab 34 [.a (a.row.map .f),.a (b.row.map .f)]=Eq (.c (.f (.fn 66 [.fp a.row 0,.fp b.row 0]))):=by
 refine bX.eq (cz rfl rfl fun Q d=>?_);apply ai;simp [aU.row];apply ai;simp;refine aD (d _ _ ?_);simp [deep,aU.row]
theorem AH{bb:Nat}{H:an}(a b:aU)(ha:jQ a)(hb:jQ b)(PP:List Pr→an→Prop)(RR:Pr→an→Prop)(h0:PP [] H)
  (hk:∀ ps J J',PP ps J→(∀ i:Nat,i<H.length→J'[i]?=J[i]?)→J.length≤J'.length→PP ps J')
  (hy:∀ ps p J,PP ps J→H.length≤J.length→oz a b p→∃(r:Bool) (J':an),Ev tab (.yield bb) [.a p.row] J (vb r) J'∧(if r then PP (ps++[p]) J'∧J.length≤J'.length∧∀ i:Nat,H.length≤i→i<J.length→J'[i]?=J[i]? else RR p J')) :
  ∃ H2,Ev tab (.fn 66) [.c (.yl bb),.c (.f (.fp a.row 0)),.c (.f (.fp b.row 0))] H (.t []) H2∧((∃ ps,PP ps H2∧(∀ p ∈ ps,oz a b p)∧∀ c ∈ a.cs,∀ d ∈ b.cs,∀ k,zC a.len b.len c d≤k→k≤zr a.len b.len c d→∃ p ∈ ps,p.c=c∧p.d=d∧p.k=k)∨∃ p,oz a b p∧RR p H2):=by
 obtain⟨v6,v8⟩:=ha.ok.len;obtain⟨v9,v_⟩:=hb.ok.len;have t9:=ha.cn;have t_:=hb.cn;have oW:∀ H:an,bh H (.f (sl a.cg (aR a.cs)))=aa a.cs.length:=fun H=>by simp
 have o6:∀ H:an,bh H (.f (sl b.cg (aR b.cs)))=aa b.cs.length:=fun H=>by simp
 have o4:∀(J:an),aX J ab (.c (.f (.fp a.row 0)))=aa (.c (.f (sl a.cg (aR a.cs))))∧aX J ab (.c (.f (.fp a.row 1)))=aa (vi a.len):=fun J=>⟨rfl,rfl⟩
 have o5:∀(J:an),aX J ab (.c (.f (.fp b.row 0)))=aa (.c (.f (sl b.cg (aR b.cs))))∧aX J ab (.c (.f (.fp b.row 1)))=aa (vi b.len):=fun J=>⟨rfl,rfl⟩
 obtain⟨r,H2,he,rfl,hP⟩:∃ r H2,Ev tab (.fn 66) [.c (.yl bb),.c (.f (.fp a.row 0)),.c (.f (.fp b.row 0))] H r H2∧(r=.t []∧((∃ ps,PP ps H2∧(∀ p ∈ ps,oz a b p)∧∀ c ∈ a.cs,∀ d ∈ b.cs,∀ k,zC a.len b.len c d≤k→k≤zr a.len b.len c d→∃ p ∈ ps,p.c=c∧p.d=d∧p.k=k)∨∃ p,oz a b p∧RR p H2)):=by
  refine cH rfl rfl fun Q hQ=>?_;apply ai;simp [o4,oW];refine bZ a.cs.length (fun i t J=>t.g 0=.c (.yl bb)∧t.g 1=.c (.f (.fp a.row 0))∧t.g 2=.c (.f (.fp b.row 0))∧t.g 13=.c (.f (sl a.cg (aR a.cs)))∧H.length≤J.length∧∃ ps,PP ps J∧(∀ p ∈ ps,oz a b p)∧∀(A:Nat) (hi:A<a.cs.length),A<i→∀ d ∈ b.cs,∀ k,zC a.len b.len a.cs[A] d≤k→k≤zr a.len b.len a.cs[A] d→∃ p ∈ ps,p.c=a.cs[A]∧p.d=d∧p.k=k) (by omega) (by decide) (by decide) (by simp) (by simp)
   ⟨by simp,by simp,by simp,by simp,alk _,[],h0,by simp,fun A _ h=>by omega⟩ ?_ ?_
  ·rintro i t J hi ⟨Y,Z,W,v,o8,ps,hP,z,l⟩ hc p8 next
   have n9:=fun H:an=>bG (H:=H) (g:=a.cg) (rows:=aR a.cs) (sz:=2) (k:=.i64) (i:=(i:Int)) (by omega) (by simp;omega);have j3:=fun H:an=>cR (H:=H) (dC a.cs) (fD hi);simp only [alJ]at n9;have p9:=ha.ok.min (IT hi);have d_:=ha.few _ (IT hi);have L:=IT hi;obtain⟨c,j_⟩:=aN (a.cs[i]);rw [←j_]at j3 p9 d_ L;simp only [cd.row,alo,alH]at j3;refine az ?_;apply ai;simp [hc,v,n9,j3,-ay];obtain⟨O,i3⟩:=aN (J.length);obtain⟨J1,y⟩:=aN (J++[b7.box [.f (sl c.mg (aB c.ts)),.f (fi c.min)] 0]);have c5:J1[O]?=aa (.box [.f (sl c.mg (aB c.ts)),.f (fi c.min)] 0):=by rw [y,i3];simp
   have b_:PP ps J1:=hk ps J J1 hP (fun i hi=>by rw [y,AT (by omega)]) (by rw [y,alj];omega);have o0:J1.length=O+1:=by rw [y,alj,i3];rfl
   rw [←y,←i3];apply ai;simp [W,o5,o6];refine bZ b.cs.length (fun j t' J=>t'.g 0=.c (.yl bb)∧t'.g 1=.c (.f (.fp a.row 0))∧t'.g 2=.c (.f (.fp b.row 0))∧t'.g 13=.c (.f (sl a.cg (aR a.cs)))∧t'.g 14=t.g 14∧t'.g 15=t.g 15∧t'.g 5=.c (.ptr O 0 0)∧t'.g 20=.c (.f (sl b.cg (aR b.cs)))∧O<J.length∧J[O]?=aa (.box [.f (sl c.mg (aB c.ts)),.f (fi c.min)] 0)∧∃ ps,PP ps J∧(∀ p ∈ ps,oz a b p)∧(∀(A:Nat) (hi:A<a.cs.length),A<i→∀ d ∈ b.cs,∀ k,zC a.len b.len a.cs[A] d≤k→k≤zr a.len b.len a.cs[A] d→∃ p ∈ ps,p.c=a.cs[A]∧p.d=d∧p.k=k) ∧
     ∀(N:Nat) (hj:N<b.cs.length),N<j→∀ k,zC a.len b.len c b.cs[N]≤k→k≤zr a.len b.len c b.cs[N]→∃ p ∈ ps,p.c=c∧p.d=b.cs[N]∧p.k=k) (by omega) (by decide) (by decide) (by simp) (by simp)
    ⟨by simp [Y],by simp [Z],by simp [W],by simp [v],by simp,by simp,by simp,by simp,by omega,c5,ps,b_,z,l,fun N _ h=>by omega⟩ ?_ ?_
   ·clear hP z l b_ c5 o0 y;rintro j t' J hj ⟨Y,Z,W,v,E,F,g5,I,n6,c5,ps,hP,z,l,q⟩ j9 j8 j7;have n_:=fun H:an=>bG (H:=H) (g:=b.cg) (rows:=aR b.cs) (sz:=2) (k:=.i64) (i:=(j:Int)) (by omega) (by simp;omega);have j4:=fun H:an=>cR (H:=H) (dC b.cs) (fD hj);simp only [alJ]at n_;have q_:=hb.ok.min (IT hj);have e_:=hb.few _ (IT hj);have M:=IT hj;obtain⟨d,k_⟩:=aN (b.cs[j]);rw [←k_]at j4 q_ e_ M;simp only [cd.row,alo,alH]at j4;obtain⟨U,i4⟩:=aN (J.length);obtain⟨J1,y⟩:=aN (J++[b7.box [.f (sl d.mg (aB d.ts)),.f (fi d.min)] 0]);have c7:J1[U]?=aa (.box [.f (sl d.mg (aB d.ts)),.f (fi d.min)] 0):=by rw [y,i4];simp
    have f_:J1[O]?=aa (.box [.f (sl c.mg (aB c.ts)),.f (fi c.min)] 0):=by rw [y,AT n6];exact c5
    have b_:PP ps J1:=hk ps J J1 hP (fun i hi=>by rw [y,AT (by omega)]) (by rw [y,alj];omega);have o0:J1.length=U+1:=by rw [y,alj,i4];rfl
    obtain⟨lo,r_⟩:=aN (zC a.len b.len c d);obtain⟨u,r8⟩:=aN (zr a.len b.len c d);have n8:(c.min-d.min-b.len) / 1440+1=lo:=r_.symm;have l_:(c.min-d.min+a.len-1) / 1440=u:=r8.symm;have f1:=mB (c.min-d.min-b.len) (by omega) (by omega);have f2:=mB (c.min-d.min+a.len-1) (by omega) (by omega);rw [l_]at f2;have w_:-20≤lo∧lo≤20:=by omega
    have u5:-20≤u∧u≤20:=by omega
    have m5:∀ J:an,J[O]?=aa (.box [.f (sl c.mg (aB c.ts)),.f (fi c.min)] 0)→aX J ab (.c (.ptr O 1 0))=aa (vi c.min)∧aX J (aa 2) (.c (.ptr O 0 0))=aa (.a [.f (sl c.mg (aB c.ts)),.f (fi c.min)])∧aX J (aa 1) (.c (.ptr O 0 0))=aa (.a [.f (sl c.mg (aB c.ts))]):=fun J h=>by refine⟨?_,?_,?_⟩<;>simp [aX,aH,h,aY]
    have m7:∀ J:an,J[U]?=aa (.box [.f (sl d.mg (aB d.ts)),.f (fi d.min)] 0)→aX J ab (.c (.ptr U 1 0))=aa (vi d.min)∧aX J (aa 2) (.c (.ptr U 0 0))=aa (.a [.f (sl d.mg (aB d.ts)),.f (fi d.min)])∧aX J (aa 1) (.c (.ptr U 0 0))=aa (.a [.f (sl d.mg (aB d.ts))]):=fun J h=>by refine⟨?_,?_,?_⟩<;>simp [aX,aH,h,aY]
    obtain⟨v5,-,-⟩:=m5 J1 f_;obtain⟨v7,-,-⟩:=m7 J1 c7;refine az ?_;apply ai;simp [j9,I,n_,j4,-ay];rw [←y,←i4];apply ai;simp [W,g5,v5,v7,o5,-ay,aO (n:=c.min-d.min),aO (n:=c.min-d.min-b.len),f1,n8,aO (n:=lo)];apply ai;simp [Z,g5,v5,v7,o4,-ay,aO (n:=c.min-d.min),aO (n:=c.min-d.min+a.len),aO (n:=c.min-d.min+a.len-1),f2];apply ai;simp;refine az ?_;refine bJ (fun n s=>∃(k:Int) (m:T) (J:an),s=⟨m,[],J⟩∧n=(u+1-k).toNat∧lo≤k∧(k=lo∨k≤u+1)∧m.g 0=.c (.yl bb)∧m.g 1=.c (.f (.fp a.row 0))∧m.g 2=.c (.f (.fp b.row 0))∧m.g 13=.c (.f (sl a.cg (aR a.cs)))∧m.g 14=t.g 14∧m.g 15=t.g 15∧m.g 5=.c (.ptr O 0 0)∧m.g 7=.c (.ptr U 0 0)∧m.g 9=vi u∧m.g 10=vi k∧m.g 20=.c (.f (sl b.cg (aR b.cs)))∧m.g 21=t'.g 21∧m.g 22=t'.g 22∧U<J.length∧J[O]?=aa (.box [.f (sl c.mg (aB c.ts)),.f (fi c.min)] 0)∧J[U]?=aa (.box [.f (sl d.mg (aB d.ts)),.f (fi d.min)] 0)∧∃ ps,PP ps J∧(∀ p ∈ ps,oz a b p)∧(∀(A:Nat) (hi:A<a.cs.length),A<i→∀ d ∈ b.cs,∀ k,zC a.len b.len a.cs[A] d≤k→k≤zr a.len b.len a.cs[A] d→∃ p ∈ ps,p.c=a.cs[A]∧p.d=d∧p.k=k) ∧
     (∀(N:Nat) (hj:N<b.cs.length),N<j→∀ k,zC a.len b.len c b.cs[N]≤k→k≤zr a.len b.len c b.cs[N]→∃ p ∈ ps,p.c=c∧p.d=b.cs[N]∧p.k=k)∧∀ k',lo≤k'→k'<k→∃ p ∈ ps,p.c=c∧p.d=d∧p.k=k') (u+1-lo).toNat
     ⟨lo,_,J1,rfl,rfl,by omega,.inl rfl,by simp [Y],by simp [Z],by simp [W],by simp [v],by simp [E],by simp [F],by simp [g5],by simp,by simp,by simp,by simp [I],by simp,by simp,by omega,f_,c7,ps,b_,z,l,q,fun k' _ _=>by omega⟩ ?_
    clear hP z l q b_ c5 f_ c7 v5 v7;rintro n s ⟨k,m,J2,rfl,rfl,k0,k1,Y,Z,W,v,E,F,g5,g7,g9,eH,I,a7,a8,u_,c5,c7,ps,hP,z,l,q,c9⟩ ih;apply au;apply ai;simp [g9,eH];by_cases r9:k≤u
    ·refine av (by simp [r9]) (aP ?_);obtain⟨v5,w5,x5⟩:=m5 J2 c5;obtain⟨v7,w7,x7⟩:=m7 J2 c7;have f8:unV .neg (vi k)=aa (vi (-k)):=by
      show aa (vi (IntKind.i64.wrap (0-k)))=_;rw [Int.zero_sub,aO]
     obtain⟨S,f7⟩:=aN (J2.length);have h_:∀(m:T) (B:an) (p:Pr),oz a b p→p.c=c→p.d=d→p.k=k→m.g 0=.c (.yl bb)→m.g 1=.c (.f (.fp a.row 0))→m.g 2=.c (.f (.fp b.row 0))→m.g 13=.c (.f (sl a.cg (aR a.cs)))→m.g 14=t.g 14→m.g 15=t.g 15→m.g 5=.c (.ptr O 0 0)→m.g 7=.c (.ptr U 0 0)→m.g 9=vi u→m.g 10=vi k→m.g 11=.c (.ptr S 0 0)→m.g 20=.c (.f (sl b.cg (aR b.cs)))→m.g 21=t'.g 21→m.g 22=t'.g 22 →
       B[S]?=aa (.box p.row 0)→(∀ i:Nat,i<J2.length→B[i]?=J2[i]?)→B.length=J2.length+1 →
       WP tab 66 ab [.code yk,.inBlock 5,.code yp,.inLoop yh,.inBlock 4,.inBlock 3,.code (rq 22 88),.inLoop (iu 2 22 21 23 88 yg),.inBlock 2,.inBlock 1,.code (rq 15 89),.inLoop (iu 0 15 14 16 89 BJ),.inBlock 0] ⟨m,[],B⟩ Q:=by
      intro m B p i7 s_ t4 t5 Y Z W v E F g5 g7 g9 eH o7 I a7 a8 s7 i6 u7;have o9:PP ps B:=hk ps J2 B hP (fun i hi=>i6 i (by omega)) (by omega);obtain⟨r,J4,r7,hr⟩:=hy ps p B o9 (by omega) i7;have t6:p.row.length=8:=rfl;have tk:List.take 8 p.row=p.row:=rfl;have l8:aX B (aa 8) (.c (.ptr S 0 0))=aa (.a p.row):=by simp [aX,aH,s7,aY,t6,tk]
      apply au;refine aq (.inl rfl) ?_;simp [Y,o7,l8,-ay,r7.eq];cases r with
      | false=>exact av (by simp) (aD (hQ _ _ (.t []) rfl rfl ⟨rfl,.inr ⟨p,i7,by simpa using hr⟩⟩))
      | true=>
      obtain⟨o_,u9,m_⟩:PP (ps++[p]) J4∧B.length≤J4.length∧∀ i:Nat,H.length≤i→i<B.length→J4[i]?=B[i]?:=by simpa using hr
      refine aF (by simp) (aP (ax ?_));refine aq (.inl rfl) ?_;simp [eH,aO (n:=k+1)];have n5:J4[O]?=J2[O]?:=by rw [m_ O (by omega) (by omega),i6 O (by omega)]
      have n7:J4[U]?=J2[U]?:=by rw [m_ U (by omega) (by omega),i6 U (by omega)]
      refine ih (u+1-(k+1)).toNat _ (by omega) ⟨k+1,_,J4,rfl,rfl,by omega,.inr (by omega),by simp [Y],by simp [Z],by simp [W],by simp [v],by simp [E],by simp [F],by simp [g5],by simp [g7],by simp [g9],by simp,by simp [I],by simp [a7],by simp [a8],by omega,by rw [n5];exact c5,by rw [n7];exact c7,ps++[p],o_,fun x X=>?_,fun A m9 c_ d' p_ k' h1 h2=>?_,fun N a_ c_ k' h1 h2=>?_,fun k' h1 h2=>?_⟩
      ·rcases aln.1 X with h | h
       ·exact z x h
       ·rw [alm]at h;rw [h];exact i7
      ·obtain⟨x,X,h⟩:=l A m9 c_ d' p_ k' h1 h2;exact⟨x,alT _ X,h⟩
      ·obtain⟨x,X,h⟩:=q N a_ c_ k' h1 h2;exact⟨x,alT _ X,h⟩
      ·by_cases e:k'=k
       ·exact⟨p,by simp,s_,t4,by rw [t5,e]⟩
       ·obtain⟨x,X,h⟩:=c9 k' h1 (by omega);exact⟨x,alT _ X,h⟩
     obtain⟨B,d9⟩:=aN (J2++[b7.box [.f (sl c.mg (aB c.ts)),.f (fi c.min),.f (sl d.mg (aB d.ts)),.f (fi d.min),.f (fi k),.f (sl c.mg (aB c.ts)),.f (sl d.mg (aB d.ts)),.f (fi (max 0 (-k)))] 0]);have g_:B[S]?=aa (.box [.f (sl c.mg (aB c.ts)),.f (fi c.min),.f (sl d.mg (aB d.ts)),.f (fi d.min),.f (fi k),.f (sl c.mg (aB c.ts)),.f (sl d.mg (aB d.ts)),.f (fi (max 0 (-k)))] 0):=by rw [d9,f7];simp
     have k3:∀ i:Nat,i<J2.length→B[i]?=J2[i]?:=fun i hi=>by rw [d9,AT hi]
     have l3:B.length=J2.length+1:=by rw [d9,alj];rfl
     obtain⟨-,-,t7⟩:=m5 B (by rw [k3 O (by omega)];exact c5);obtain⟨-,-,t8⟩:=m7 B (by rw [k3 U (by omega)];exact c7);apply au;refine az ?_;apply ai;simp [g5,g7,eH,w5,x5,w7,x7,-ay,f8];rw [←d9,←f7];apply au;apply ai;simp [eH];by_cases kp:0<k
     ·obtain⟨us,g',i_,i9,i8⟩:=vL d.mg d.ts e_ (-k) (by omega) (by omega);obtain⟨J4,K⟩:=aN (B.set S (.box [.f (sl c.mg (aB c.ts)),.f (fi c.min),.f (sl d.mg (aB d.ts)),.f (fi d.min),.f (fi k),.f (sl c.mg (aB c.ts)),.f (sl g' (cX us)),.f (fi (max 0 (-k)))] 0));have s6:dt B (.ptr S 6 0) [.f (sl g' (cX us))]=aa J4:=by rw [K];simp [dt,g_,over]
      refine av (by simp [kp]) ?_;refine aq (.inl rfl) ?_;simp [g7,eH,t8,-ay,f8,i8,s6,-bw];apply au;apply ai;simp [eH,show¬ k<0 by omega];refine aW (by simp) ?_;have e:aB (us.map fun s=>⟨.fs,s⟩)=cX us:=by simp [aB,cX,cE.row]
      refine h_ _ J4 ⟨c,d,k,c.mg,c.ts,g',us.map fun s=>⟨.fs,s⟩⟩ ⟨L,M,by show zC a.len b.len c d≤k;omega,by show k≤zr a.len b.len c d;omega,d_,B' i_,fun x X=>?_,fun x X=>?_⟩ rfl rfl rfl (by simp [Y]) (by simp [Z]) (by simp [W]) (by simp [v]) (by simp [E]) (by simp [F]) (by simp [g5]) (by simp [g7]) (by simp [g9]) (by simp [eH]) (by simp) (by simp [I]) (by simp [a7]) (by simp [a8]) ?_ (fun i hi=>by rw [K,sh (by omega)];exact k3 i hi) (by rw [K,alI];exact l3)
      ·show eL c.ts x↔eL c.ts (x+max 0 (-k));rw [show x+max 0 (-k)=x by omega]
      ·show eL (us.map fun s=>⟨.fs,s⟩) x↔eL d.ts (x+max 0 k);rw [B5,i9 x X,show x+max 0 k=x - -k by omega];rfl
      ·rw [K,BY (by omega)];simp [Pr.row,e]
     ·refine aW (by simp [kp]) ?_;apply au;apply ai;simp [eH];by_cases kn:k<0
      ·obtain⟨us,g',i_,i9,i8⟩:=vL c.mg c.ts d_ k (by omega) (by omega);obtain⟨J4,K⟩:=aN (B.set S (.box [.f (sl c.mg (aB c.ts)),.f (fi c.min),.f (sl d.mg (aB d.ts)),.f (fi d.min),.f (fi k),.f (sl g' (cX us)),.f (sl d.mg (aB d.ts)),.f (fi (max 0 (-k)))] 0));have s5:dt B (.ptr S 5 0) [.f (sl g' (cX us))]=aa J4:=by rw [K];simp [dt,g_,over]
       refine av (by simp [kn]) ?_;refine aq (.inl rfl) ?_;simp [g5,eH,t7,-ay,i8,s5,-bw];have e:aB (us.map fun s=>⟨.fs,s⟩)=cX us:=by simp [aB,cX,cE.row]
       refine h_ _ J4 ⟨c,d,k,g',us.map fun s=>⟨.fs,s⟩,d.mg,d.ts⟩ ⟨L,M,by show zC a.len b.len c d≤k;omega,by show k≤zr a.len b.len c d;omega,B' i_,e_,fun x X=>?_,fun x X=>?_⟩ rfl rfl rfl (by simp [Y]) (by simp [Z]) (by simp [W]) (by simp [v]) (by simp [E]) (by simp [F]) (by simp [g5]) (by simp [g7]) (by simp [g9]) (by simp [eH]) (by simp) (by simp [I]) (by simp [a7]) (by simp [a8]) ?_ (fun i hi=>by rw [K,sh (by omega)];exact k3 i hi) (by rw [K,alI];exact l3)
       ·show eL (us.map fun s=>⟨.fs,s⟩) x↔eL c.ts (x+max 0 (-k));rw [B5,i9 x X,show x+max 0 (-k)=x-k by omega];rfl
       ·show eL d.ts x↔eL d.ts (x+max 0 k);rw [show x+max 0 k=x by omega]
       ·rw [K,BY (by omega)];simp [Pr.row,e]
      ·refine aW (by simp [kn]) ?_;have u6:k=0:=by omega
       refine h_ _ B ⟨c,d,k,c.mg,c.ts,d.mg,d.ts⟩ ⟨L,M,by show zC a.len b.len c d≤k;omega,by show k≤zr a.len b.len c d;omega,d_,e_,fun x X=>?_,fun x X=>?_⟩ rfl rfl rfl (by simp [Y]) (by simp [Z]) (by simp [W]) (by simp [v]) (by simp [E]) (by simp [F]) (by simp [g5]) (by simp [g7]) (by simp [g9]) (by simp [eH]) (by simp) (by simp [I]) (by simp [a7]) (by simp [a8]) g_ k3 l3
       ·show eL c.ts x↔eL c.ts (x+max 0 (-k));rw [show x+max 0 (-k)=x by omega]
       ·show eL d.ts x↔eL d.ts (x+max 0 k);rw [show x+max 0 k=x by omega]
    ·refine aF (by simp;omega) ?_;refine bg rfl ?_;refine ax (j7 _ _ ⟨by simp [Y],by simp [Z],by simp [W],by simp [v],by simp [E],by simp [F],by simp [g5],by simp [I],by omega,c5,ps,hP,z,l,fun N a_ c_ k' h1 h2=>?_⟩ (by simp [a8,j9]) (by simp [a7,j8]));by_cases e:N=j
     ·subst e;rw [←k_]at h1 h2 ⊢;exact c9 k' (by omega) (by omega)
     ·exact q N a_ (by omega) k' h1 h2
   ·rintro t' J ⟨Y,Z,W,v,E,F,g5,I,n6,c5,ps,hP,z,l,q⟩ - -;refine ax (next _ _ ⟨by simp [Y],by simp [Z],by simp [W],by simp [v],by omega,ps,hP,z,fun A u c_ d hd k h1 h2=>?_⟩ (by simp [F,hc]) (by simp [E,p8]));by_cases e:A=i
    ·subst e;rw [←j_]at h1 h2 ⊢;obtain⟨N,a_,rfl⟩:=alB hd;exact q N a_ a_ k h1 h2
    ·exact l A u (by omega) d hd k h1 h2
  ·rintro t J ⟨Y,Z,W,v,o8,ps,hP,z,l⟩ - -;exact cU (hQ _ _ _ rfl rfl ⟨rfl,.inl ⟨ps,hP,z,fun c hc d hd k h1 h2=>by
    obtain⟨A,u,rfl⟩:=alB hc;exact l A u u d hd k h1 h2⟩⟩)
 exact⟨H2,he,hP⟩
theorem I8{bb:Nat}{H:an}(a b:aU)(v:jQ a)(x:jQ b)(PP:List Pr→an→Prop)(j:PP [] H)
  (z:∀ ps J J',PP ps J→(∀ i:Nat,i<H.length→J'[i]?=J[i]?)→J.length≤J'.length→PP ps J')
  (A:∀ ps p J,PP ps J→H.length≤J.length→oz a b p→∃ J',Ev tab (.yield bb) [.a p.row] J (vb ae) J'∧PP (ps++[p]) J'∧J.length≤J'.length∧∀ i:Nat,H.length≤i→i<J.length→J'[i]?=J[i]?) :
  ∃ g,Ev tab (.fn 66) [.c (.yl bb),.c (.f (.fp a.row 0)),.c (.f (.fp b.row 0))] H (.t []) g∧∃ ps,PP ps g∧(∀ p ∈ ps,oz a b p)∧∀ c ∈ a.cs,∀ d ∈ b.cs,∀ k,zC a.len b.len c d≤k→k≤zr a.len b.len c d→∃ p ∈ ps,p.c=c∧p.d=d∧p.k=k:=by
 obtain⟨g,y,h | ⟨_,_,h⟩⟩:=AH a b v x PP (fun _ _=>False) j z fun ps p J l m q=>by
  obtain⟨J',s,u⟩:=A ps p J l m q;exact⟨ae,J',s,by simpa using u⟩
 ·exact⟨g,y,h⟩
 ·exact h.elim
def lv(s:aU)(x y:aC):Prop:=(∃ c ∈ s.cs,∃ d,0≤d∧eL c.ts d∧y=dr s.len c.min d)∧x.fr<y.to∧y.fr<x.to
theorem UM{ts:List cE}(j:iH ts=ae){d:Int}(g:0≤d):zJ ts d=ae↔eL ts d:=by
 unfold zJ eL;rw [j,Bool.true_and,List.any_eq_true];constructor
 ·rintro⟨t,b,h⟩;exact⟨t,b,(iC g).1 h⟩
 ·rintro⟨t,b,h⟩;exact⟨t,b,(iC g).2 h⟩
theorem sM(s:aU)(x:aC):bX tab 38 [.a (s.row.map .f),.a (x.row.map .f)]=Eq (.c (.f (.fn 71 [.fp s.row 0,.fp x.row 0]))):=by
 refine bX.eq (cz rfl rfl fun Q b=>?_);apply ai;simp [aU.row,aC.row];apply ai;simp;refine aD (b _ _ ?_);simp [deep,aU.row,aC.row]
theorem Bv{bb:Nat}{H:an}(s:aU)(hs:jQ s)(x:aC)(x0:-1000000000000≤x.fr)(x1:x.to≤1000000000000)(x2:x.fr<x.to)(PP:List aC→an→Prop)(RR:aC→an→Prop)(h0:PP [] H)
  (hk:∀ ps J J',PP ps J→(∀ i:Nat,i<H.length→J'[i]?=J[i]?)→J.length≤J'.length→PP ps J')
  (hy:∀ ps y J,PP ps J→H.length≤J.length→lv s x y→∃(r:Bool) (J':an),Ev tab (.yield bb) [.a (y.row.map .f)] J (vb r) J'∧(if r then PP (ps++[y]) J'∧J.length≤J'.length∧∀ i:Nat,H.length≤i→i<J.length→J'[i]?=J[i]? else RR y J')) :
  ∃ O,Ev tab (.fn 71) [.c (.yl bb),.c (.f (.fp s.row 0)),.c (.f (.fp x.row 0))] H (.t []) O∧((∃ ys,PP ys O∧∀ y,y ∈ ys↔lv s x y)∨∃ y,lv s x y∧RR y O):=by
 obtain⟨l_,m9⟩:=hs.ok.len;have j9:=hs.cn;have h_:∀ H:an,bh H (.f (sl s.cg (aR s.cs)))=aa s.cs.length:=fun H=>by simp
 have c_:∀(J:an),aX J ab (.c (.f (.fp s.row 0)))=aa (.c (.f (sl s.cg (aR s.cs))))∧aX J ab (.c (.f (.fp s.row 1)))=aa (vi s.len)∧aX J (aa 3) (.c (.f (.fp s.row 0)))=aa (.a [.f (sl s.cg (aR s.cs)),.f (fi s.len),.f (sl s.xg (aG s.xs))]):=fun J=>⟨rfl,rfl,rfl⟩
 have g_:∀(J:an),aX J ab (.c (.f (.fp x.row 1)))=aa (vi x.fr)∧aX J ab (.c (.f (.fp x.row 2)))=aa (vi x.to):=fun J=>⟨rfl,rfl⟩
 obtain⟨r,O,he,rfl,L⟩:∃ r O,Ev tab (.fn 71) [.c (.yl bb),.c (.f (.fp s.row 0)),.c (.f (.fp x.row 0))] H r O∧(r=.t []∧((∃ ys,PP ys O∧∀ y,y ∈ ys↔lv s x y)∨∃ y,lv s x y∧RR y O)):=by
  refine cH rfl rfl fun Q hQ=>?_;apply ai;simp [c_,h_];refine bZ s.cs.length (fun i t J=>t.g 0=.c (.yl bb)∧t.g 1=.c (.f (.fp s.row 0))∧t.g 2=.c (.f (.fp x.row 0))∧t.g 8=.c (.f (sl s.cg (aR s.cs)))∧H.length≤J.length∧∃ ys,PP ys J∧∀ y,y ∈ ys↔(∃(b:Nat) (h:b<s.cs.length),b<i∧∃ d,0≤d∧eL s.cs[b].ts d∧y=dr s.len s.cs[b].min d)∧x.fr<y.to∧y.fr<x.to) (by omega) (by decide) (by decide) (by simp) (by simp)
   ⟨by simp,by simp,by simp,by simp,alk _,[],h0,fun y=>⟨fun h=>by simp at h,fun⟨⟨b,_,h,_⟩,_⟩=>by omega⟩⟩ ?_ ?_
  ·rintro i t J hi ⟨S,I,K,U,i4,ys,L,m⟩ hc hb next
   have f_:=fun H:an=>bG (H:=H) (g:=s.cg) (rows:=aR s.cs) (sz:=2) (k:=.i64) (i:=(i:Int)) (by omega) (by simp;omega);have c9:=fun H:an=>cR (H:=H) (dC s.cs) (fD hi);simp only [alJ]at f_;have i7:=hs.ok.min (IT hi);have a_:=hs.few _ (IT hi);have B:=IT hi;obtain⟨c,W⟩:=aN (s.cs[i]);rw [←W]at c9 i7 a_ B;simp only [cd.row,alo,alH]at c9;obtain⟨q,a8⟩:=aN (J.length);obtain⟨J1,A⟩:=aN (J++[b7.box [.f (sl c.mg (aB c.ts)),.f (fi c.min)] 0]);have Z:J1[q]?=aa (.box [.f (sl c.mg (aB c.ts)),.f (fi c.min)] 0):=by rw [A,a8];simp
   have d9:PP ys J1:=hk ys J J1 L (fun i hi=>by rw [A,AT (by omega)]) (by rw [A,alj];omega);have k_:J1.length=q+1:=by rw [A,alj,a8];rfl
   have m5:∀ J:an,J[q]?=aa (.box [.f (sl c.mg (aB c.ts)),.f (fi c.min)] 0)→aX J ab (.c (.ptr q 1 0))=aa (vi c.min)∧aX J (aa 2) (.c (.ptr q 0 0))=aa (.a [.f (sl c.mg (aB c.ts)),.f (fi c.min)])∧aX J (aa 1) (.c (.ptr q 0 0))=aa (.a [.f (sl c.mg (aB c.ts))]):=fun J h=>by refine⟨?_,?_,?_⟩<;>simp [aX,aH,h,aY]
   obtain⟨v5,-,-⟩:=m5 J1 Z;have f1:=mB (x.fr-s.len-c.min) (by omega) (by omega);obtain⟨n0,j3⟩:=aN (max 0 ((x.fr-s.len-c.min) / 1440+1));have j8:max 0 ((x.fr-s.len-c.min) / 1440+1)=n0:=j3.symm;refine az ?_;apply ai;simp [hc,U,f_,c9,-ay];rw [←A,←a8];apply ai;simp [I,K,v5,c_,g_,-ay,aO (n:=x.fr-s.len),aO (n:=x.fr-s.len-c.min),f1,aO (n:=(x.fr-s.len-c.min) / 1440+1),j8];refine az ?_;refine bJ (fun n st=>∃(d:Int) (M:T) (J:an),st=⟨M,[],J⟩∧n=(x.to-(d*1440+c.min)).toNat∧n0≤d∧d≤1000000000∧M.g 0=.c (.yl bb)∧M.g 1=.c (.f (.fp s.row 0))∧M.g 2=.c (.f (.fp x.row 0))∧M.g 8=.c (.f (sl s.cg (aR s.cs)))∧M.g 9=t.g 9∧M.g 10=t.g 10∧M.g 5=.c (.ptr q 0 0)∧M.g 6=vi d∧q<J.length∧J[q]?=aa (.box [.f (sl c.mg (aB c.ts)),.f (fi c.min)] 0)∧∃ ys,PP ys J∧∀ y,y ∈ ys↔((∃(b:Nat) (h:b<s.cs.length),b<i∧∃ d,0≤d∧eL s.cs[b].ts d∧y=dr s.len s.cs[b].min d)∧x.fr<y.to∧y.fr<x.to)∨∃ d',n0≤d'∧d'<d∧d'*1440+c.min<x.to∧eL c.ts d'∧y=dr s.len c.min d') (x.to-(n0*1440+c.min)).toNat
    ⟨n0,_,J1,rfl,rfl,Int.le_refl _,by omega,by simp [S],by simp [I],by simp [K],by simp [U],by simp,by simp,by simp,by simp,by omega,Z,ys,d9,fun y=>by rw [m];exact⟨.inl,fun h=>h.elim id fun⟨d',u,v,_⟩=>by omega⟩⟩ ?_
   clear L m d9 Z v5;rintro n st ⟨d,M,J2,rfl,rfl,d0,d1,S,I,K,U,g9,eH,g5,g6,e_,Z,ys,L,m⟩ ih;obtain⟨v5,w5,z5⟩:=m5 J2 Z;apply au;apply ai;simp [K,g5,g6,v5,g_,-ay,aO (n:=d*1440),aO (n:=d*1440+c.min)];by_cases b_:d*1440+c.min<x.to
   ·refine av (by simp [b_]) (aP ?_);have E:=aaR c.mg c.ts a_.mix d (by unfold Day;omega);have F:=UM a_.mix (show 0≤d by omega);obtain⟨i6,i9⟩:=aN (zJ c.ts d);rw [←i9]at E F;have f8:=oH (sl s.cg (aR s.cs)) (sl s.xg (aG s.xs)) (sl c.mg (aB c.ts)) s.len c.min d (by unfold mn;omega) (by unfold mn;omega) (by unfold mn;omega);have Y:∀(N:T) (z:an) (zs:List aC),N.g 0=.c (.yl bb)→N.g 1=.c (.f (.fp s.row 0))→N.g 2=.c (.f (.fp x.row 0))→N.g 8=.c (.f (sl s.cg (aR s.cs)))→N.g 9=t.g 9→N.g 10=t.g 10→N.g 5=.c (.ptr q 0 0)→N.g 6=vi d→q<z.length→z[q]?=aa (.box [.f (sl c.mg (aB c.ts)),.f (fi c.min)] 0)→PP zs z→(∀ y,y ∈ zs↔y ∈ ys∨(eL c.ts d∧y=dr s.len c.min d)) →
      WP tab 71 ab [.code yu,.inLoop yq,.inBlock 2,.inBlock 1,.code (rq 10 50),.inLoop (iu 0 10 9 11 50 BK),.inBlock 0] ⟨N,[],z⟩ Q:=by
     intro N z zs S I K U g9 eH g5 g6 d_ c3 a7 j7;refine aq (.inl rfl) ?_;simp [g6,aO (n:=d+1)];refine ih (x.to-((d+1)*1440+c.min)).toNat _ (by omega) ⟨d+1,_,z,rfl,rfl,by omega,by omega,by simp [S],by simp [I],by simp [K],by simp [U],by simp [g9],by simp [eH],by simp [g5],by simp,d_,c3,zs,a7,fun y=>?_⟩;rw [j7,m];constructor
     ·rintro((h | ⟨d',u,v,j,l⟩) | ⟨u,v⟩)
      ·exact .inl h
      ·exact .inr ⟨d',u,by omega,j,l⟩
      ·exact .inr ⟨d,d0,by omega,b_,u,v⟩
     ·rintro(h | ⟨d',u,v,j,l,h5⟩)
      ·exact .inl (.inl h)
      ·by_cases e:d'=d
       ·subst e;exact .inr ⟨l,h5⟩
       ·exact .inl (.inr ⟨d',u,by omega,j,l,h5⟩)
    apply au;refine az ?_;cases i6 with
    | false=>
     have j4:¬ eL c.ts d:=fun h=>by have:=F.2 h;cases this
     apply ai;simp [g5,g6,z5,-ay,E];refine aF (by simp) (aP (ax ?_));exact Y _ J2 ys (by simp [S]) (by simp [I]) (by simp [K]) (by simp [U]) (by simp [g9]) (by simp [eH]) (by simp [g5]) (by simp [g6]) e_ Z L fun y=>⟨.inl,fun h=>h.elim id fun h=>absurd h.1 j4⟩
    | true=>
     have X:=F.1 rfl;have f7:lv s x (dr s.len c.min d):=⟨⟨c,B,d,by omega,X,rfl⟩,by show x.fr<d*1440+c.min+s.len;omega,by show d*1440+c.min<x.to;omega⟩
     obtain⟨r,z,i8,hr⟩:=hy ys (dr s.len c.min d) J2 L (by omega) f7;apply ai;simp [S,I,g5,g6,z5,w5,c_,-ay,E,f8,i8.eq];cases r with
     | false=>exact av (by simp) (aD (hQ _ _ (.t []) rfl rfl ⟨rfl,.inr ⟨_,f7,by simpa using hr⟩⟩))
     | true=>
     obtain⟨a7,d_,i_⟩:PP (ys++[dr s.len c.min d]) z∧J2.length≤z.length∧∀ i:Nat,H.length≤i→i<J2.length→z[i]?=J2[i]?:=by simpa using hr
     refine aF (by simp) (aP (ax ?_));exact Y _ z (ys++[dr s.len c.min d]) (by simp [S]) (by simp [I]) (by simp [K]) (by simp [U]) (by simp [g9]) (by simp [eH]) (by simp [g5]) (by simp [g6]) (by omega) (by rw [i_ q (by omega) e_];exact Z) a7 fun y=>by
      rw [aln,alm];exact⟨fun h=>h.imp id fun h=>⟨X,h⟩,fun h=>h.imp id fun h=>h.2⟩
   ·refine aF (by simp [b_]) ?_;refine bg rfl ?_;refine ax (next _ _ ⟨by simp [S],by simp [I],by simp [K],by simp [U],by omega,ys,L,fun y=>?_⟩ (by simp [eH,hc]) (by simp [g9,hb]));rw [m];constructor
    ·rintro(⟨⟨b,h,u,v⟩,j⟩ | ⟨d',u,v,j,l,rfl⟩)
     ·exact⟨⟨b,h,by omega,v⟩,j⟩
     ·refine⟨⟨i,hi,by omega,d',by omega,by rw [←W];exact l,by rw [←W]⟩,?_,j⟩;show x.fr<d'*1440+c.min+s.len;omega
    ·rintro⟨⟨b,h,u,d',v,j,l⟩,h5,h6⟩;by_cases e:b=i
     ·subst e;rw [←W]at j l;rw [l]at h5 h6;have j_:x.fr<d'*1440+c.min+s.len:=h5;have i3:d'*1440+c.min<x.to:=h6;exact .inr ⟨d',by omega,by omega,i3,j,l⟩
     ·exact .inl ⟨⟨b,h,by omega,d',v,j,l⟩,h5,h6⟩
  ·rintro t J ⟨S,I,K,U,i4,ys,L,m⟩ - -;refine cU (hQ _ _ _ rfl rfl ⟨rfl,.inl ⟨ys,L,fun y=>?_⟩⟩);rw [m];unfold lv;constructor
   ·rintro⟨⟨b,h,-,d,u,v,j⟩,l⟩;exact⟨⟨_,IT h,d,u,v,j⟩,l⟩
   ·rintro⟨⟨c,hc,d,u,v,j⟩,l⟩;obtain⟨b,h,rfl⟩:=alB hc;exact⟨⟨b,h,h,d,u,v,j⟩,l⟩
 exact⟨O,he,L⟩
theorem vU{bb:Nat}{H:an}(s:aU)(z:jQ s)(x:aC)(B:-1000000000000≤x.fr)(E:x.to≤1000000000000)(F:x.fr<x.to)(PP:List aC→an→Prop)(d:PP [] H)
  (v:∀ ps J J',PP ps J→(∀ i:Nat,i<H.length→J'[i]?=J[i]?)→J.length≤J'.length→PP ps J')
  (A:∀ ps y J,PP ps J→H.length≤J.length→lv s x y→∃ J',Ev tab (.yield bb) [.a (y.row.map .f)] J (vb ae) J'∧PP (ps++[y]) J'∧J.length≤J'.length∧∀ i:Nat,H.length≤i→i<J.length→J'[i]?=J[i]?) :
  ∃ b,Ev tab (.fn 71) [.c (.yl bb),.c (.f (.fp s.row 0)),.c (.f (.fp x.row 0))] H (.t []) b∧∃ ys,PP ys b∧∀ y,y ∈ ys↔lv s x y:=by
 obtain⟨b,u,h | ⟨_,_,h⟩⟩:=Bv s z x B E F PP (fun _ _=>False) d v fun ps y J g j l=>by
  obtain⟨J',m,q⟩:=A ps y J g j l;exact⟨ae,J',m,by simpa using q⟩
 ·exact⟨b,u,h⟩
 ·exact h.elim
section
structure TK(fr ey:Int)(found:Bool)(X Y:aC)(H:an):Prop where
 h2:H[2]?=aa (.box [.f (fi fr)] 0)
 h5:H[5]?=aa (.box [.f (fi X.day),.f (fi X.fr),.f (fi X.to)] 0)
 h6:H[6]?=aa (.box [.f (fi Y.day),.f (fi Y.fr),.f (fi Y.to)] 0)
 h7:H[7]?=aa (.box [.f (fi ey)] 0)
 h8:H[8]?=aa (.box [.f (.bool found)] 0)
theorem TK.bu{fr ey:Int}{found:Bool}{X Y:aC}{H H':an}(h:TK fr ey found X Y H)(b:∀ i:Nat,i<9→H'[i]?=H[i]?):TK fr ey found X Y H':=
 ⟨by rw [b 2 (by omega)];exact h.h2,by rw [b 5 (by omega)];exact h.h5,by rw [b 6 (by omega)];exact h.h6,by rw [b 7 (by omega)];exact h.h7,by rw [b 8 (by omega)];exact h.h8⟩
def iT(b:Int)(x y:aC):Int:=max (max x.fr y.fr) b
def okB(b:Int)(x y:aC):Prop:=x.to≤2251799813685248∧y.to≤2251799813685248∧iT b x y<min x.to y.to
def ltB(d b:Int)(x y X Y:aC):Prop:=Bg [gi (iT d x y) b,fv x X,fv y Y]<0
open Classical in
noncomputable def fV (d b:Int) (found:Bool) (x y X Y:aC):Bool:=decide (okB d x y∧(found=ag∨ltB d b x y X Y))
theorem VI(g b:Int)(found:Bool)(X Y x y:aC)(H:an)(h:TK g b found X Y H) :
  ∃ H',Ev tab (.fn 31) [.a (x.row.map .f),.a (y.row.map .f),.c (.ptr 2 0 0),.c (.ptr 8 0 0),.c (.ptr 7 0 0),.c (.ptr 5 0 0),.c (.ptr 6 0 0)] H (.t []) H' ∧
   TK g (if fV g b found x y X Y then iT g x y else b) (found||fV g b found x y X Y) (if fV g b found x y X Y then x else X) (if fV g b found x y X Y then y else Y) H'∧H.length≤H'.length∧∀ i:Nat,i<H.length→i<5∨8<i→H'[i]?=H[i]?:=by
 have l8:=aj h.h8;have c_:max (max x.fr y.fr) g=iT g x y:=rfl;obtain⟨r,H',he,rfl,hP⟩:∃ r H',Ev tab (.fn 31) [.a (x.row.map .f),.a (y.row.map .f),.c (.ptr 2 0 0),.c (.ptr 8 0 0),.c (.ptr 7 0 0),.c (.ptr 5 0 0),.c (.ptr 6 0 0)] H r H'∧(r=.t [] ∧
   TK g (if fV g b found x y X Y then iT g x y else b) (found||fV g b found x y X Y) (if fV g b found x y X Y then x else X) (if fV g b found x y X Y then y else Y) H'∧H.length≤H'.length∧∀ i:Nat,i<H.length→i<5∨8<i→H'[i]?=H[i]?):=by
  have o1:=tq x X;have o2:=tq y Y;simp only [aC.row,alo,alH]at o1 o2;have ho:=acp .fs [gi (iT g x y) b,fv x X,fv y Y] (by simp);simp [ints,sl,Tg.fc]at ho;have W:=sE (iT g x y) b;refine cH rfl rfl fun Q hQ=>?_;apply ai;simp [aC.row];obtain⟨d,q⟩:=aN (H++[b7.box [.f (fi x.day),.f (fi x.fr),.f (fi x.to)] 0,.box [.f (fi y.day),.f (fi y.fr),.f (fi y.to)] 0]);obtain⟨m,M⟩:=aN (H.length);have hT:TK g b found X Y d:=h.bu fun i hi=>by rw [q,AT (by omega)]
  have c7:d[m]?=aa (.box [.f (fi x.day),.f (fi x.fr),.f (fi x.to)] 0):=by rw [q,M];simp
  have c8:d[m+1]?=aa (.box [.f (fi y.day),.f (fi y.fr),.f (fi y.to)] 0):=by rw [q,M,alp (by omega)];simp
  have kA:∀ i:Nat,i<H.length→d[i]?=H[i]?:=fun i hi=>by rw [q,AT hi]
  have lA:d.length=m+2:=by rw [q,alj,M];rfl
  rw [←q,←M];have m7:∀ J:an,J[m]?=aa (.box [.f (fi x.day),.f (fi x.fr),.f (fi x.to)] 0)→aX J ab (.c (.ptr m 1 0))=aa (vi x.fr)∧aX J ab (.c (.ptr m 2 0))=aa (vi x.to)∧aX J (aa 3) (.c (.ptr m 0 0))=aa (.a [.f (fi x.day),.f (fi x.fr),.f (fi x.to)]):=fun J h=>by refine⟨?_,?_,?_⟩<;>simp [aX,aH,h,aY]
  have m8:∀ J:an,J[m+1]?=aa (.box [.f (fi y.day),.f (fi y.fr),.f (fi y.to)] 0)→aX J ab (.c (.ptr (m+1) 1 0))=aa (vi y.fr)∧aX J ab (.c (.ptr (m+1) 2 0))=aa (vi y.to)∧aX J (aa 3) (.c (.ptr (m+1) 0 0))=aa (.a [.f (fi y.day),.f (fi y.fr),.f (fi y.to)]):=fun J h=>by refine⟨?_,?_,?_⟩<;>simp [aX,aH,h,aY]
  obtain⟨x1,x2,x3⟩:=m7 d c7;obtain⟨y1,y2,y3⟩:=m8 d c8;have g_:aX d ab (.c (.ptr 2 0 0))=aa (vi g):=by simp [aX,aH,hT.h2]
  have f_:aX d ab (.c (.ptr 7 0 0))=aa (vi b):=by simp [aX,aH,hT.h7]
  have h_:aX d (aa 3) (.c (.ptr 5 0 0))=aa (.a [.f (fi X.day),.f (fi X.fr),.f (fi X.to)]):=by simp [aX,aH,hT.h5,aY]
  have i3:aX d (aa 3) (.c (.ptr 6 0 0))=aa (.a [.f (fi Y.day),.f (fi Y.fr),.f (fi Y.to)]):=by simp [aX,aH,hT.h6,aY]
  have d9:aX d ab (.c (.ptr 8 0 0))=aa (vb found):=by simp [aX,aH,hT.h8]
  obtain⟨l,L⟩:=aN (iT g x y);rw [←L]at c_ ho W;have no:∀(t:T) (J:an),fV g b found x y X Y=ag→(∀ i:Nat,i<d.length→J[i]?=d[i]?)→d.length≤J.length→(∀ j:Option aw,Q j ⟨t,[],J⟩):=by
   intro t J hu hJ hl j;refine hQ _ _ _ rfl rfl ⟨rfl,?_,by show H.length≤J.length;omega,fun i hi _=>by show J[i]?=_;rw [hJ i (by omega),kA i hi]⟩;rw [hu];simpa using hT.bu fun i hi=>hJ i (by omega)
  apply ai;simp [x1,y1,g_,-ay,qq,c_]
  suffices a8:∀ t:T,t.g 3=.c (.ptr 8 0 0)→t.g 4=.c (.ptr 7 0 0)→t.g 5=.c (.ptr 5 0 0)→t.g 6=.c (.ptr 6 0 0)→t.g 7=.c (.ptr m 0 0)→t.g 8=.c (.ptr (m+1) 0 0)→t.g 9=vi l→WP tab 31 ab [.code S8] ⟨t,[],d⟩ Q by exact a8 _ (by simp) (by simp) (by simp) (by simp) (by simp) (by simp) (by simp)
  intro t g3 S g5 g6 u v A;have N:okB g x y↔(x.to≤2251799813685248∧y.to≤2251799813685248∧l<min x.to y.to):=by rw [L];rfl
  have z:¬ okB g x y→fV g b found x y X Y=ag:=fun h=>by unfold fV;simp [h]
  apply au;apply ai;by_cases c1:2251799813685248<x.to
  ·simp [u,x2,c1,-ay];refine av (by simp) ?_;exact aD (no _ d (z fun h=>by have:=(N.1 h).1;omega) (fun _ _=>rfl) (alk _) _)
  by_cases c2:2251799813685248<y.to
  ·simp [u,v,x2,y2,c1,c2,-ay];refine av (by simp) ?_;exact aD (no _ d (z fun h=>by have:=(N.1 h).2.1;omega) (fun _ _=>rfl) (alk _) _)
  by_cases c3:min x.to y.to≤l
  ·simp [u,v,A,x2,y2,c1,c2,c3,-ay];refine av (by simp) ?_;exact aD (no _ d (z fun h=>by have:=(N.1 h).2.2;omega) (fun _ _=>rfl) (alk _) _)
  have Z:okB g x y:=N.2 ⟨by omega,by omega,by omega⟩;simp [u,v,A,x2,y2,c1,c2,c3,-ay];refine aW (by simp) ?_;have d_:∀(t:T) (J:an),fV g b found x y X Y=ae→t.g 3=.c (.ptr 8 0 0)→t.g 4=.c (.ptr 7 0 0)→t.g 5=.c (.ptr 5 0 0)→t.g 6=.c (.ptr 6 0 0)→t.g 7=.c (.ptr m 0 0)→t.g 8=.c (.ptr (m+1) 0 0)→t.g 9=vi l→(∀ i:Nat,i<d.length→J[i]?=d[i]?)→d.length≤J.length→WP tab 31 ab [.code BU] ⟨t,[],J⟩ Q:=by
   intro t J hu g3 S g5 g6 u v A hJ hl;have s:=hT.bu (H':=J) fun i hi=>hJ i (by omega);have d7:J[m]?=aa (.box [.f (fi x.day),.f (fi x.fr),.f (fi x.to)] 0):=by rw [hJ m (by omega)];exact c7
   have d8:J[m+1]?=aa (.box [.f (fi y.day),.f (fi y.fr),.f (fi y.to)] 0):=by rw [hJ (m+1) (by omega)];exact c8
   obtain⟨-,-,x3⟩:=m7 J d7;obtain⟨-,-,y3⟩:=m8 J d8;obtain⟨O,E⟩:=aN (J.set 7 (.box [.f (fi l)] 0));have s1:dt J (.ptr 7 0 0) [.f (fi l)]=aa O:=by rw [E];simp [dt,s.h7,over]
   have k1:∀ i:Nat,i≠7→O[i]?=J[i]?:=fun i hi=>by rw [E,sh (Ne.symm hi)]
   have n1:O.length=J.length:=by rw [E];simp
   obtain⟨J2,F⟩:=aN (O.set 5 (.box [.f (fi x.day),.f (fi x.fr),.f (fi x.to)] 0));have s2:dt O (.ptr 5 0 0) [.f (fi x.day),.f (fi x.fr),.f (fi x.to)]=aa J2:=by rw [F];simp [dt,k1 5 (by omega),s.h5,over]
   have k2:∀ i:Nat,i≠5→J2[i]?=O[i]?:=fun i hi=>by rw [F,sh (Ne.symm hi)]
   have n2:J2.length=J.length:=by rw [F];simp [n1]
   obtain⟨J3,I⟩:=aN (J2.set 6 (.box [.f (fi y.day),.f (fi y.fr),.f (fi y.to)] 0));have s3:dt J2 (.ptr 6 0 0) [.f (fi y.day),.f (fi y.fr),.f (fi y.to)]=aa J3:=by rw [I];simp [dt,k2 6 (by omega),k1 6 (by omega),s.h6,over]
   have k3:∀ i:Nat,i≠6→J3[i]?=J2[i]?:=fun i hi=>by rw [I,sh (Ne.symm hi)]
   have n3:J3.length=J.length:=by rw [I];simp [n2]
   obtain⟨J4,K⟩:=aN (J3.set 8 (.box [.f (.bool ae)] 0));have s4:dt J3 (.ptr 8 0 0) [.f (.bool ae)]=aa J4:=by rw [K];simp [dt,k3 8 (by omega),k2 8 (by omega),k1 8 (by omega),s.h8,over]
   have k4:∀ i:Nat,i≠8→J4[i]?=J3[i]?:=fun i hi=>by rw [K,sh (Ne.symm hi)]
   have i9:=aj s.h7;have i_:8<m:=by omega
   obtain⟨-,-,i4⟩:=m7 O (by rw [k1 m (by omega)];exact d7);obtain⟨-,-,i6⟩:=m8 O (by rw [k1 (m+1) (by omega)];exact d8);obtain⟨-,-,i7⟩:=m8 J2 (by rw [k2 (m+1) (by omega),k1 (m+1) (by omega)];exact d8);refine eP (.inl rfl) ?_ ?_
   case refine_2=>
    intro cc f7;have e_:cc=(1,4)∨cc=(2,4)∨cc=(2,5):=by simpa using f7
    rcases e_ with rfl | rfl | rfl
    ·refine⟨by decide,_,rfl,.inl ⟨by decide,?_⟩⟩;simp [S,u,v,A,x3,y3,i4,s1,-ay,-bw,fH,V.beq,C.beq,FC.beq]
    ·refine⟨by decide,_,rfl,.inl ⟨by decide,?_⟩⟩;simp [S,u,v,A,x3,y3,i6,s1,-ay,-bw,fH,V.beq,C.beq,FC.beq]
    ·refine⟨by decide,_,rfl,.inl ⟨by decide,?_⟩⟩;simp [S,g5,u,v,A,x3,y3,i7,s1,s2,-ay,-bw,fH,V.beq,C.beq,FC.beq]
   simp [g3,S,g5,g6,u,v,A,x3,y3,s1,s2,s3,s4,-ay,-bw];refine cU (hQ _ _ _ rfl rfl ⟨rfl,?_,by show H.length≤J4.length;rw [K];simp;omega,fun i hi i8=>?_⟩)
   ·rw [hu];simp only [if_true,Bool.or_true];rw [←L];refine⟨?_,?_,?_,?_,?_⟩
    ·rw [k4 2 (by omega),k3 2 (by omega),k2 2 (by omega),k1 2 (by omega)];exact s.h2
    ·rw [k4 5 (by omega),k3 5 (by omega),F];exact BY (by omega)
    ·rw [k4 6 (by omega),I];exact BY (by omega)
    ·rw [k4 7 (by omega),k3 7 (by omega),k2 7 (by omega),E];exact BY (by omega)
    ·rw [K];exact BY (by omega)
   ·show J4[i]?=_;rw [k4 i (by omega),k3 i (by omega),k2 i (by omega),k1 i (by omega),hJ i (by omega),kA i hi]
  apply au;cases found with
  | false=>
   refine aq (.inl rfl) ?_;simp [g3,d9,-ay];refine av (by simp) ?_;exact d_ _ d (by unfold fV;simp [Z]) (by simp [g3]) (by simp [S]) (by simp [g5]) (by simp [g6]) (by simp [u]) (by simp [v]) (by simp [A]) (fun _ _=>rfl) (alk _)
  | true=>
   obtain⟨HB,B⟩:=aN (d++[b7.box [.f (fi (gi l b)),.f (fi (fv x X)),.f (fi (fv y Y))] 0]);have b_:HB[d.length]?=aa (.box [.f (fi (gi l b)),.f (fi (fv x X)),.f (fi (fv y Y))] 0):=by rw [B];simp
   have c9:eA 64 HB (.sl d.length 0 3 3 0 1)=aa (.fs [fi (gi l b),fi (fv x X),fi (fv y Y)] 3):=by
    rw [show(64:Nat)=63+1 from rfl];simp only [jI,b_];rfl
   obtain⟨HC,a_⟩:=aN (eX 64 (.sl d.length 0 3 3 0 1) HB);have U:HC=HB.set d.length (.box [.f (fi (gi l b)),.f (fi (fv x X)),.f (fi (fv y Y))] 3):=by
    rw [a_,show(64:Nat)=63+1 from rfl];simp only [po,b_];rfl
   have kC:∀ i:Nat,i<d.length→HC[i]?=d[i]?:=fun i hi=>by rw [U,sh (by omega),B,AT hi]
   have lC:d.length≤HC.length:=by rw [U,alI,B,alj];omega
   have a7:Bg [gi l b,fv x X,fv y Y]<0↔ltB g b x y X Y:=by unfold ltB;rw [←L]
   obtain⟨oo,f8⟩:=aN (Bg [gi l b,fv x X,fv y Y]);rw [←f8]at ho a7;refine aq (.inl rfl) ?_;simp [g3,S,g5,g6,u,v,A,d9,f_,h_,i3,x3,y3,-ay,W,o1,o2,←B,c9,deep,ho,←a_];by_cases k:oo<0
   ·refine av (by simp [k]) ?_;exact d_ _ HC (by unfold fV;simp [Z,a7.1 k]) (by simp [g3]) (by simp [S]) (by simp [g5]) (by simp [g6]) (by simp [u]) (by simp [v]) (by simp [A]) kC lC
   ·refine aW (by simp [k]) ?_;exact cU (no _ HC (by unfold fV;simp [show¬ ltB g b x y X Y from fun h=>k (a7.2 h)]) kC lC ab)
 exact⟨H',he,hP⟩
end
def tS(b:Int)(x y X Y:aC):Prop:=iT b x y<iT b X Y∨iT b x y=iT b X Y∧(x.lt X∨(x.fr=X.fr∧x.day=X.day∧x.to=X.to)∧y.lt Y)
theorem vM(x y:aC):fv x y=0↔x.fr=y.fr∧x.day=y.day∧x.to=y.to:=by
 have l:∀ a b:Int,gi a b=0↔a=b:=fun a b=>by unfold gi;split<;>(try split)<;>omega
 unfold fv;simp only [Bg];have m:=l x.fr y.fr;have q:=l x.day y.day;have s:=l x.to y.to;by_cases d:gi x.fr y.fr=0
 ·rw [ba d];by_cases g:gi x.day y.day=0
  ·rw [ba g];by_cases j:gi x.to y.to=0
   ·rw [ba j];exact⟨fun _=>⟨m.1 d,q.1 g,s.1 j⟩,fun _=>rfl⟩
   ·rw [aS j];exact⟨fun h=>absurd h j,fun h=>absurd (s.2 h.2.2) j⟩
  ·rw [aS g];exact⟨fun h=>absurd h g,fun h=>absurd (q.2 h.2.1) g⟩
 ·rw [aS d];exact⟨fun h=>absurd h d,fun h=>absurd (m.2 h.1) d⟩
theorem wY(b:Int)(x y X Y:aC):ltB b (iT b X Y) x y X Y↔tS b x y X Y:=by
 unfold ltB tS;have l:gi (iT b x y) (iT b X Y)=0↔iT b x y=iT b X Y:=by unfold gi;split<;>(try split)<;>omega
 have A:gi (iT b x y) (iT b X Y)<0↔iT b x y<iT b X Y:=by unfold gi;split<;>(try split)<;>omega
 have v:=vM x X;have B:=vM y Y;have m:=kQ x X;have q:=kQ y Y;simp only [Bg];by_cases d:gi (iT b x y) (iT b X Y)=0
 ·rw [ba d];have e:=l.1 d;by_cases g:fv x X=0
  ·rw [ba g];have z:=v.1 g;have u:¬ x.lt X:=fun h=>by have:=m.2 h;omega
   by_cases s:fv y Y=0
   ·rw [ba s];have j:¬ y.lt Y:=fun h=>by have:=q.2 h;omega
    constructor
    ·intro h;omega
    ·rintro(h | ⟨-,h | ⟨-,h⟩⟩)
     ·omega
     ·exact absurd h u
     ·exact absurd h j
   ·rw [aS s,q];constructor
    ·intro h;exact .inr ⟨e,.inr ⟨z,h⟩⟩
    ·rintro(h | ⟨-,h | ⟨-,h⟩⟩)
     ·omega
     ·exact absurd h u
     ·exact h
  ·rw [aS g,m];constructor
   ·intro h;exact .inr ⟨e,.inl h⟩
   ·rintro(h | ⟨-,h | ⟨h,-⟩⟩)
    ·omega
    ·exact h
    ·exact absurd (v.2 h) g
 ·rw [aS d,A];constructor
  ·intro h;exact .inl h
  ·rintro(h | ⟨h,-⟩)
   ·exact h
   ·exact absurd (l.2 h) d
theorem vN{b:Int}{x y X Y Z W:aC}(h:tS b x y X Y)(d:tS b X Y Z W):tS b x y Z W:=by
 unfold tS aC.lt at *;omega
theorem Cx{b:Int}{x y X Y:aC}(h:¬ tS b x y X Y)(v:¬ tS b X Y x y):x=X∧y=Y:=by
 have d:x.fr=X.fr∧x.day=X.day∧x.to=X.to:=by unfold tS aC.lt at *;omega
 have g:y.fr=Y.fr∧y.day=Y.day∧y.to=Y.to:=by unfold tS aC.lt at *;omega
 cases x;cases X;cases y;cases Y;simp only at d g;obtain⟨j,l,m⟩:=d;obtain⟨q,s,u⟩:=g;subst j l m q s u;exact⟨rfl,rfl⟩
structure FS where
 ey:Int
 found:Bool
 X:aC
 Y:aC
noncomputable def eF (b:Int) (s:FS) (x y:aC):FS:=⟨if fV b s.ey s.found x y s.X s.Y then iT b x y else s.ey,s.found||fV b s.ey s.found x y s.X s.Y,if fV b s.ey s.found x y s.X s.Y then x else s.X,if fV b s.ey s.found x y s.X s.Y then y else s.Y⟩
def fS(b:Int)(S:aC→aC→Prop)(s:FS):Prop:=(s.found=ag∧s.X=⟨0,0,0⟩∧s.Y=⟨0,0,0⟩∧∀ x y,S x y→¬ okB b x y)∨(s.found=ae∧S s.X s.Y∧okB b s.X s.Y∧s.ey=iT b s.X s.Y∧∀ x y,S x y→okB b x y→¬ tS b x y s.X s.Y)
theorem fS.iff{fr:Int}{S S':aC→aC→Prop}{s:FS}(h:fS fr S s)(d:∀ x y,okB fr x y→(S' x y↔S x y)):fS fr S' s:=by
 rcases h with⟨h1,h2,h3,h4⟩ | ⟨h1,h2,h3,h4,h5⟩
 ·exact .inl ⟨h1,h2,h3,fun x y h b=>h4 x y ((d x y b).1 h) b⟩
 ·exact .inr ⟨h1,(d _ _ h3).2 h2,h3,h4,fun x y h b=>h5 x y ((d x y b).1 h) b⟩
theorem fS.step{fr:Int}{S T:aC→aC→Prop}{s:FS}(h:fS fr S s){x y:aC}(v:T x y)(u:∀ d g,T d g→okB fr d g→okB fr x y∧¬ tS fr d g x y):fS fr (fun x y=>S x y∨T x y) (eF fr s x y):=by
 by_cases j:okB fr x y
 ·rcases h with⟨h1,h2,h3,h4⟩ | ⟨h1,h2,h3,h4,h5⟩
  ·have hu:fV fr s.ey s.found x y s.X s.Y=ae:=by unfold fV;simp [j,h1]
   refine .inr ⟨?_,?_,?_,?_,fun d g b l=>?_⟩
   ·simp [eF,hu]
   ·simp only [eF,hu,if_true];exact .inr v
   ·simp only [eF,hu,if_true];exact j
   ·simp only [eF,hu,if_true]
   ·simp only [eF,hu,if_true];rcases b with b | b
    ·exact absurd l (h4 d g b)
    ·exact(u d g b l).2
  ·have m:ltB fr s.ey x y s.X s.Y↔tS fr x y s.X s.Y:=by rw [h4];exact wY fr x y s.X s.Y
   by_cases k:tS fr x y s.X s.Y
   ·have hu:fV fr s.ey s.found x y s.X s.Y=ae:=by unfold fV;simp [j,m.2 k]
    refine .inr ⟨?_,?_,?_,?_,fun d g b l=>?_⟩
    ·simp [eF,hu]
    ·simp only [eF,hu,if_true];exact .inr v
    ·simp only [eF,hu,if_true];exact j
    ·simp only [eF,hu,if_true]
    ·simp only [eF,hu,if_true];rcases b with b | b
     ·exact fun q=>h5 d g b l (vN q k)
     ·exact(u d g b l).2
   ·have hu:fV fr s.ey s.found x y s.X s.Y=ag:=by unfold fV;simp [h1,show¬ ltB fr s.ey x y s.X s.Y from fun h=>k (m.1 h)]
    refine .inr ⟨?_,?_,?_,?_,fun d g b l=>?_⟩
    ·simp [eF,hu,h1]
    ·simp only [eF,hu];exact .inl h2
    ·simp only [eF,hu];exact h3
    ·simp only [eF,hu];exact h4
    ·simp only [eF,hu];rcases b with b | b
     ·exact h5 d g b l
     ·intro q;have h6:=(u d g b l).2;by_cases e:tS fr x y d g
      ·exact k (vN e q)
      ·obtain⟨rfl,rfl⟩:=Cx h6 e;exact k q
 ·have hu:fV fr s.ey s.found x y s.X s.Y=ag:=by unfold fV;simp [j]
  have z:eF fr s x y=s:=by simp [eF,hu]
  rw [z];refine h.iff fun d g l=>⟨fun h=>h.elim id fun h=>absurd (u d g h l).1 j,.inl⟩
theorem fS.none{fr:Int}{S T:aC→aC→Prop}{s:FS}(h:fS fr S s)(j:∀ b d,T b d→¬ okB fr b d):fS fr (fun x y=>S x y∨T x y) s:=
 h.iff fun b d g=>⟨fun h=>h.elim id fun h=>absurd g (j b d h),.inl⟩
theorem fS.one{fr:Int}{S:aC→aC→Prop}{s:FS}(h:fS fr S s)(x y:aC):fS fr (fun b d=>S b d∨(b=x∧d=y)) (eF fr s x y):=
 h.step ⟨rfl,rfl⟩ fun b d ⟨h1,h2⟩ g=>by
  subst h1 h2;exact⟨g,by unfold tS aC.lt;omega⟩
def tJ(s:aU):List C:=[.f (sl s.cg (aR s.cs)),.f (fi s.len),.f (sl s.xg (aG s.xs))]
def mU:C:=.cl 31 [.ptr 2 0 0,.ptr 8 0 0,.ptr 7 0 0,.ptr 5 0 0,.ptr 6 0 0]
structure FQ(a b:aU)(fr:Int)(s:FS)(J:an):Prop where
 h0:J[0]?=aa (.box (tJ a) 0)
 h1:J[1]?=aa (.box (tJ b) 0)
 h3:J[3]?=aa (.box [.f (fi 0),.f (fi 0),.f (fi 0)] 0)
 h4:J[4]?=aa (.box [.f (fi 0),.f (fi 0),.f (fi 0)] 0)
 h9:J[9]?=aa (.box [mU] 0)
 tk:TK fr s.ey s.found s.X s.Y J
theorem FQ.bu{a b:aU}{fr:Int}{s:FS}{J J':an}(h:FQ a b fr s J)(d:∀ i:Nat,i<10→J'[i]?=J[i]?):FQ a b fr s J':=
 ⟨by rw [d 0 (by omega)];exact h.h0,by rw [d 1 (by omega)];exact h.h1,by rw [d 3 (by omega)];exact h.h3,by rw [d 4 (by omega)];exact h.h4,by rw [d 9 (by omega)];exact h.h9,h.tk.bu fun i hi=>d i (by omega)⟩
structure FT(t:T):Prop where
 g3:t.g 3=.c (.ptr 0 0 0)
 g4:t.g 4=.c (.ptr 1 0 0)
 g5:t.g 5=.c (.ptr 2 0 0)
 g6:t.g 6=.c (.ptr 3 0 0)
 g7:t.g 7=.c (.ptr 4 0 0)
 g9:t.g 9=.c (.ptr 5 0 0)
 eH:t.g 10=.c (.ptr 6 0 0)
 g12:t.g 12=.c (.ptr 8 0 0)
 g13:t.g 13=.c (.ptr 9 0 0)
theorem pJ{a b:aU}{g:Int}{s:FS}{J:an}(h:FQ a b g s J)(x y:aC):∃ J',Ev tab (.fn 31) [.a (x.row.map .f),.a (y.row.map .f),.c (.ptr 2 0 0),.c (.ptr 8 0 0),.c (.ptr 7 0 0),.c (.ptr 5 0 0),.c (.ptr 6 0 0)] J (.t []) J'∧FQ a b g (eF g s x y) J'∧J.length≤J'.length∧∀ i:Nat,8<i→i<J.length→J'[i]?=J[i]?:=by
 obtain⟨J',m,l,q,d⟩:=VI g s.ey s.found s.X s.Y x y J h.tk;have v:=aj h.h9;exact⟨J',m,⟨by rw [d 0 (by omega) (by omega)];exact h.h0,by rw [d 1 (by omega) (by omega)];exact h.h1,by rw [d 3 (by omega) (by omega)];exact h.h3,by rw [d 4 (by omega) (by omega)];exact h.h4,by rw [d 9 (by omega) (by omega)];exact h.h9,l⟩,q,fun i u j=>d i j (by omega)⟩
def Ug(a b:aU)(p:Pr):Int:=min (p.c.min+a.len) (p.k*1440+p.d.min+b.len)
def n0P(a b:aU)(d:Int)(p:Pr):Int:=max 0 ((d-Ug a b p) / 1440+1-max 0 (-p.k))
def fI(a:aU)(p:Pr)(e:Int):aC:=dr a.len p.c.min (e+max 0 (-p.k))
def fJ(b:aU)(p:Pr)(e:Int):aC:=dr b.len p.d.min (e+max 0 (-p.k)+p.k)
noncomputable def BC (a b:aU) (d:Int) (p:Pr) (e:Int) (f:Bool) (s:FS):FS:=if f then eF d s (fI a p e) (fJ b p e)else s
theorem Bi(a b:aU)(ha:jQ a)(hb:jQ b){q:Int}(f0:-1000000000000≤q)(f1:q≤100000000000000){O:T}(E:FT O){p:Pr}(Q:oz a b p){s:FS}{J:an}(hq:FQ a b q s J)(a_:J[10]?=aa (.fg ae))(L:J[11]?=aa (.lp 10 O [P.nat 47] gk gl .ready ab 10)) :
  ∃ e f,ew (fun e=>n0P a b q p≤e∧eL p.xs e∧eL p.ys e) e f∧(f=ae→e≤1000001000000)∧∃ r J',Ev tab (.yield 11) [.a p.row] J r J'∧(r=vb ae∧FQ a b q (BC a b q p e f s) J'∧J'[10]?=aa (.fg ae)∧J'[11]?=aa (.lp 10 O [P.nat 47] gk gl .ready ab 10)∧J.length≤J'.length∧∀ i:Nat,12≤i→i<J.length→J'[i]?=J[i]?):=by
 obtain⟨j3,j4⟩:=ha.ok.len;obtain⟨j7,j8⟩:=hb.ok.len;have i7:=ha.ok.min Q.ca;have i8:=hb.ok.min Q.db;have d9:=Q.lo;have c_:=Q.hi;unfold zC at d9;unfold zr at c_;have kb:-20≤p.k∧p.k≤20:=by omega
 obtain⟨B,M⟩:=aN (Ug a b p);have i6:-100000≤B∧B≤100000:=by rw [M];unfold Ug;omega
 have X:min (p.c.min+a.len) (p.k*1440+p.d.min+b.len)=B:=M.symm;obtain⟨l,z⟩:=aN (max 0 (-p.k));have i4:0≤l∧l≤20:=by omega
 obtain⟨n,hn⟩:=aN (n0P a b q p);have e_:max 0 ((q-B) / 1440+1-l)=n:=by rw [hn,M,z];rfl
 have i_:0≤n∧n≤1000000000000:=by omega
 obtain⟨e,f,hm,b_,A⟩:=JA p.gx p.gy p.xs p.ys Q.xo Q.yo n (by omega) (by omega);have d_:ew (fun e=>n0P a b q p≤e∧eL p.xs e∧eL p.ys e) e f:=hm.iff fun x=>by rw [←hn,show max n 0=n by omega]
 refine⟨e,f,d_,fun _=>b_.2,?_⟩;refine ea (tab:=tab) (b:=11) (args:=[.a p.row]) (H:=J) L rfl fun Q' W=>?_;obtain⟨d,v⟩:=aN (J.length);obtain⟨S,y⟩:=aN (J++[b7.box p.row 0]);have g_:=aj L;have a8:S[d]?=aa (.box p.row 0):=by rw [y,v];simp
 have k1:∀ i:Nat,i<J.length→S[i]?=J[i]?:=fun i hi=>by rw [y,AT hi]
 have l1:S.length=d+1:=by rw [y,alj,v];rfl
 have f8:p.row.length=8:=rfl;refine aq (.inr rfl) ?_;simp [f8];rw [←y,←v];have i3:S[11]?=aa (.lp 10 O [P.nat 47] gk gl .ready ab 10):=by rw [k1 11 g_];exact L
 refine iF i3 ?_;obtain⟨g,u⟩:=aN (S.set 11 (.lp 10 O [P.nat 47] gk gl .busy ab 10));have k2:∀ i:Nat,i<J.length→i≠11→g[i]?=J[i]?:=fun i hi f7=>by rw [u,sh (Ne.symm f7),k1 i hi]
 have j:g[d]?=aa (.box p.row 0):=by rw [u,sh (by omega)];exact a8
 have K:g[11]?=aa (.lp 10 O [P.nat 47] gk gl .busy ab 10):=by rw [u];exact BY (by omega)
 have U:g[10]?=aa (.fg ae):=by rw [k2 10 (by omega) (by omega)];exact a_
 have m:FQ a b q s g:=hq.bu fun i hi=>k2 i (by omega) (by omega);have l2:g.length=d+1:=by rw [u,alI];exact l1
 rw [←u];unfold Pr.row at j;rw [←z]at j;have c0:aX g ab (.c (.ptr d 1 0))=aa (vi p.c.min):=by simp [aX,aH,j]
 have c1:aX g ab (.c (.ptr d 4 0))=aa (vi p.k):=by simp [aX,aH,j]
 have c2:aX g ab (.c (.ptr d 3 0))=aa (vi p.d.min):=by simp [aX,aH,j]
 have c3:aX g ab (.c (.ptr d 7 0))=aa (vi l):=by simp [aX,aH,j]
 have c4:aX g (aa 1) (.c (.ptr d 5 0))=aa (.a [.f (sl p.gx (aB p.xs))]):=by simp [aX,aH,j,aY]
 have c5:aX g (aa 1) (.c (.ptr d 6 0))=aa (.a [.f (sl p.gy (aB p.ys))]):=by simp [aX,aH,j,aY]
 have c6:aX g (aa 2) (.c (.ptr d 0 0))=aa (.a [.f (sl p.c.mg (aB p.c.ts)),.f (fi p.c.min)]):=by simp [aX,aH,j,aY]
 have c7:aX g (aa 2) (.c (.ptr d 2 0))=aa (.a [.f (sl p.d.mg (aB p.d.ts)),.f (fi p.d.min)]):=by simp [aX,aH,j,aY]
 have a1:aX g ab (.c (.ptr 0 1 0))=aa (vi a.len):=by simp [aX,aH,m.h0,tJ]
 have a3:aX g (aa 3) (.c (.ptr 0 0 0))=aa (.a [.f (sl a.cg (aR a.cs)),.f (fi a.len),.f (sl a.xg (aG a.xs))]):=by simp [aX,aH,m.h0,tJ,aY]
 have b1:aX g ab (.c (.ptr 1 1 0))=aa (vi b.len):=by simp [aX,aH,m.h1,tJ]
 have b3:aX g (aa 3) (.c (.ptr 1 0 0))=aa (.a [.f (sl b.cg (aR b.cs)),.f (fi b.len),.f (sl b.xg (aG b.xs))]):=by simp [aX,aH,m.h1,tJ,aY]
 have f2:aX g ab (.c (.ptr 2 0 0))=aa (vi q):=by simp [aX,aH,m.tk.h2]
 have f9:aX g ab (.c (.ptr 9 0 0))=aa (.c mU):=by simp [aX,aH,m.h9]
 have fl:=mB (q-B) (by omega) (by omega);have F:=oi (sl a.cg (aR a.cs)) (sl a.xg (aG a.xs)) (sl p.c.mg (aB p.c.ts)) a.len p.c.min (e+l) (by omega) (by omega) (by omega) (by omega);have I:=oi (sl b.cg (aR b.cs)) (sl b.xg (aG b.xs)) (sl p.d.mg (aB p.d.ts)) b.len p.d.min (e+l+p.k) (by omega) (by omega) (by omega) (by omega);rw [decide_eq_true (show e+l≤(2251799813685248-p.c.min-a.len) / 1440 by omega)]at F;rw [decide_eq_true (show e+l+p.k≤(2251799813685248-p.d.min-b.len) / 1440 by omega)]at I;have Y:=oH (sl a.cg (aR a.cs)) (sl a.xg (aG a.xs)) (sl p.c.mg (aB p.c.ts)) a.len p.c.min (e+l) (by unfold mn;omega) (by unfold mn;omega) (by unfold mn;omega);have Z:=oH (sl b.cg (aR b.cs)) (sl b.xg (aG b.xs)) (sl p.d.mg (aB p.d.ts)) b.len p.d.min (e+l+p.k) (by unfold mn;omega) (by unfold mn;omega) (by unfold mn;omega);have hX:dr a.len p.c.min (e+l)=fI a p e:=by unfold fI;rw [←z]
 have hY:dr b.len p.d.min (e+l+p.k)=fJ b p e:=by unfold fJ;rw [←z]
 rw [hX]at Y;rw [hY]at Z;refine az ?_;refine au (aq (.inr rfl) ?_);simp [E.g3,E.g4,c0,c1,c2,a1,b1,-ay,aO (n:=p.c.min+a.len),aO (n:=p.k*1440),aO (n:=p.k*1440+p.d.min),aO (n:=p.k*1440+p.d.min+b.len),X];refine au (aq (.inr rfl) ?_);simp [E.g5,f2,c3,-ay,aO (n:=q-B),fl,aO (n:=(q-B) / 1440+1),aO (n:=(q-B) / 1440+1-l),e_];refine au (aq (.inr rfl) ?_);simp [c4,c5,-ay,A];apply au;cases f with
 | false=>
  refine aq (.inr rfl) ?_;simp;refine aW (by simp) ?_;refine ax (cU (W _ _ _ _ _ _ _ _ _ _ rfl K ⟨rfl,?_,?_,BY (aj K),by show J.length≤(g.set 11 _).length;rw [alI];omega,fun i h1 h2=>?_⟩))
  ·exact m.bu fun i hi=>by rw [sh (by omega)]
  ·rw [sh (by omega)];exact U
  ·rw [sh (by omega),k2 i h2 (by omega)]
 | true=>
  obtain⟨J3,c9,f_,i9,N⟩:=pJ m (fI a p e) (fJ b p e);refine aq (.inr rfl) ?_;simp [E.g3,E.g4,a3,b3,c1,c3,c6,c7,-ay,aO (n:=e+l),aO (n:=e+l+p.k),F,I];refine av (by simp) ?_;refine aq (.inr rfl) ?_;simp [E.g3,E.g4,E.g13,f9,a3,b3,c1,c3,c6,c7,-ay,aO (n:=e+l),aO (n:=e+l+p.k),Y,Z,mU,c9.eq];have a7:J3[11]?=aa (.lp 10 O [P.nat 47] gk gl .busy ab 10):=by rw [N 11 (by omega) (by omega)];exact K
  have h_:J3[10]?=aa (.fg ae):=by rw [N 10 (by omega) (by omega)];exact U
  refine ax (cU (W _ _ _ _ _ _ _ _ _ _ rfl a7 ⟨rfl,?_,?_,BY (aj a7),by show J.length≤(J3.set 11 _).length;rw [alI];omega,fun i h1 h2=>?_⟩))
  ·exact f_.bu fun i hi=>by rw [sh (by omega)]
  ·rw [sh (by omega)];exact h_
  ·rw [sh (by omega),N i (by omega) (by omega),k2 i h2 (by omega)]
theorem ui{a b:aU}{K:Int}{v:T}(o:FT v){d B:Nat}(S:v.g 20=.c (.ptr d 0 0)){x:aC}{s:FS}{J:an}(t:FQ a b K s J)(e:J[d]?=aa (.box [.f (fi x.day),.f (fi x.fr),.f (fi x.to)] 0))(hb:10≤d)(hB:d<B)(W:J[B]?=aa (.lp 10 v [P.nat 138] gR gS .ready ab (B-1)))(y:aC) :
  ∃ r J',Ev tab (.yield B) [.a (y.row.map .f)] J r J'∧(r=vb ae∧FQ a b K (eF K s x y) J'∧J'[B]?=aa (.lp 10 v [P.nat 138] gR gS .ready ab (B-1))∧J.length≤J'.length∧∀ i:Nat,9≤i→i<J.length→i≠B→J'[i]?=J[i]?):=by
 have lB:=aj W;refine ea (tab:=tab) (b:=B) (args:=[.a (y.row.map .f)]) (H:=J) W rfl fun Q' U=>?_;obtain⟨g,l⟩:=aN (J.length);obtain⟨z,q⟩:=aN (J++[b7.box [.f (fi y.day),.f (fi y.fr),.f (fi y.to)] 0]);have N:z[g]?=aa (.box [.f (fi y.day),.f (fi y.fr),.f (fi y.to)] 0):=by rw [q,l];simp
 have f:∀ i:Nat,i<J.length→z[i]?=J[i]?:=fun i hi=>by rw [q,AT hi]
 have w:z.length=g+1:=by rw [q,alj,l];rfl
 refine aq (.inr rfl) ?_;simp [aC.row];rw [←q,←l];have Z:z[B]?=aa (.lp 10 v [P.nat 138] gR gS .ready ab (B-1)):=by rw [f B lB];exact W
 refine iF Z ?_;obtain⟨m,j⟩:=aN (z.set B (.lp 10 v [P.nat 138] gR gS .busy ab (B-1)));have Y:∀ i:Nat,i<J.length→i≠B→m[i]?=J[i]?:=fun i hi u=>by rw [j,sh (Ne.symm u),f i hi]
 have Q:m[g]?=aa (.box [.f (fi y.day),.f (fi y.fr),.f (fi y.to)] 0):=by rw [j,sh (by omega)];exact N
 have O:m[d]?=aa (.box [.f (fi x.day),.f (fi x.fr),.f (fi x.to)] 0):=by rw [Y d (aj e) (by omega)];exact e
 have h:m[B]?=aa (.lp 10 v [P.nat 138] gR gS .busy ab (B-1)):=by rw [j];exact BY (by omega)
 have F:FQ a b K s m:=t.bu fun i hi=>Y i (by omega) (by omega);have l2:m.length=g+1:=by rw [j,alI];exact w
 rw [←j];have L:aX m (aa 3) (.c (.ptr d 0 0))=aa (.a [.f (fi x.day),.f (fi x.fr),.f (fi x.to)]):=by simp [aX,aH,O,aY]
 have M:aX m (aa 3) (.c (.ptr g 0 0))=aa (.a [.f (fi y.day),.f (fi y.fr),.f (fi y.to)]):=by simp [aX,aH,Q,aY]
 have k:aX m ab (.c (.ptr 9 0 0))=aa (.c mU):=by simp [aX,aH,F.h9]
 obtain⟨c,A,X,p,E⟩:=pJ F x y;simp only [aC.row,alo,alH]at A;refine az ?_;refine aq (.inr rfl) ?_;simp [o.g13,S,k,L,M,-ay,mU,A.eq];have I:c[B]?=aa (.lp 10 v [P.nat 138] gR gS .busy ab (B-1)):=by rw [E B (by omega) (by omega)];exact h
 refine ax (cU (U _ _ _ _ _ _ _ _ _ _ rfl I ⟨rfl,?_,BY (aj I),by show J.length≤(c.set B _).length;rw [alI];omega,fun i h1 n u=>?_⟩))
 ·exact X.bu fun i hi=>by rw [sh (by omega)]
 ·rw [sh (Ne.symm u),E i (by omega) (by omega),Y i n u]
theorem uj{a b:aU}{K:Int}{v:T}(o:FT v){d B:Nat}(S:v.g 25=.c (.ptr d 0 0)){y:aC}{s:FS}{J:an}(t:FQ a b K s J)(e:J[d]?=aa (.box [.f (fi y.day),.f (fi y.fr),.f (fi y.to)] 0))(hb:10≤d)(hB:d<B)(W:J[B]?=aa (.lp 10 v [P.nat 166] gT gU .ready ab (B-1)))(x:aC) :
  ∃ r J',Ev tab (.yield B) [.a (x.row.map .f)] J r J'∧(r=vb ae∧FQ a b K (eF K s x y) J'∧J'[B]?=aa (.lp 10 v [P.nat 166] gT gU .ready ab (B-1))∧J.length≤J'.length∧∀ i:Nat,9≤i→i<J.length→i≠B→J'[i]?=J[i]?):=by
 have lB:=aj W;refine ea (tab:=tab) (b:=B) (args:=[.a (x.row.map .f)]) (H:=J) W rfl fun Q' U=>?_;obtain⟨g,l⟩:=aN (J.length);obtain⟨z,q⟩:=aN (J++[b7.box [.f (fi x.day),.f (fi x.fr),.f (fi x.to)] 0]);have N:z[g]?=aa (.box [.f (fi x.day),.f (fi x.fr),.f (fi x.to)] 0):=by rw [q,l];simp
 have f:∀ i:Nat,i<J.length→z[i]?=J[i]?:=fun i hi=>by rw [q,AT hi]
 have w:z.length=g+1:=by rw [q,alj,l];rfl
 refine aq (.inr rfl) ?_;simp [aC.row];rw [←q,←l];have Z:z[B]?=aa (.lp 10 v [P.nat 166] gT gU .ready ab (B-1)):=by rw [f B lB];exact W
 refine iF Z ?_;obtain⟨m,j⟩:=aN (z.set B (.lp 10 v [P.nat 166] gT gU .busy ab (B-1)));have Y:∀ i:Nat,i<J.length→i≠B→m[i]?=J[i]?:=fun i hi u=>by rw [j,sh (Ne.symm u),f i hi]
 have Q:m[g]?=aa (.box [.f (fi x.day),.f (fi x.fr),.f (fi x.to)] 0):=by rw [j,sh (by omega)];exact N
 have O:m[d]?=aa (.box [.f (fi y.day),.f (fi y.fr),.f (fi y.to)] 0):=by rw [Y d (aj e) (by omega)];exact e
 have h:m[B]?=aa (.lp 10 v [P.nat 166] gT gU .busy ab (B-1)):=by rw [j];exact BY (by omega)
 have F:FQ a b K s m:=t.bu fun i hi=>Y i (by omega) (by omega);have l2:m.length=g+1:=by rw [j,alI];exact w
 rw [←j];have L:aX m (aa 3) (.c (.ptr d 0 0))=aa (.a [.f (fi y.day),.f (fi y.fr),.f (fi y.to)]):=by simp [aX,aH,O,aY]
 have M:aX m (aa 3) (.c (.ptr g 0 0))=aa (.a [.f (fi x.day),.f (fi x.fr),.f (fi x.to)]):=by simp [aX,aH,Q,aY]
 have k:aX m ab (.c (.ptr 9 0 0))=aa (.c mU):=by simp [aX,aH,F.h9]
 obtain⟨c,A,X,p,E⟩:=pJ F x y;simp only [aC.row,alo,alH]at A;refine az ?_;refine aq (.inr rfl) ?_;simp [o.g13,S,k,L,M,-ay,mU,A.eq];have I:c[B]?=aa (.lp 10 v [P.nat 166] gT gU .busy ab (B-1)):=by rw [E B (by omega) (by omega)];exact h
 refine ax (cU (U _ _ _ _ _ _ _ _ _ _ rfl I ⟨rfl,?_,BY (aj I),by show J.length≤(c.set B _).length;rw [alI];omega,fun i h1 n u=>?_⟩))
 ·exact X.bu fun i hi=>by rw [sh (by omega)]
 ·rw [sh (Ne.symm u),E i (by omega) (by omega),Y i n u]
def FW(a b:aU)(d:Int)(S:aC→aC→Prop)(bs:List Nat)(J:an):Prop:=(∃ s,FQ a b d s J∧fS d S s)∧fq bs J∧∀ i ∈ bs,10≤i∧i<J.length
theorem FW.push{a b:aU}{fr:Int}{S:aC→aC→Prop}{bs:List Nat}{J:an}(h:FW a b fr S bs J)(K:an):FW a b fr S bs (J++K):=by
 obtain⟨⟨s,g,j⟩,hc,d⟩:=h;have l:=aj g.h9;exact⟨⟨s,g.bu fun i hi=>by rw [AT (by omega)],j⟩,hc.push K,fun i hi=>⟨(d i hi).1,by rw [alj];have:=(d i hi).2;omega⟩⟩
theorem afZ{a b:aU}(ha:jQ a)(hb:jQ b){U:Int}{x:aC}(x0:-1000000000000≤x.fr)(x1:x.to≤1000000000000)(x2:x.fr<x.to){S:aC→aC→Prop}{bs:List Nat}{J:an}(h:FW a b U S bs J){v:T}(hT:FT v){d:Nat}(n:v.g 20=.c (.ptr d 0 0))(W:v.g 137=.c (.f (.fn 71 [.fp b.row 0,.fp x.row 0])))(hx:J[d]?=aa (.box [.f (fi x.day),.f (fi x.fr),.f (fi x.to)] 0))(Y:10≤d){k:List cP}{Q:Option aw→St→Prop}
  (hk:∀(J':an) (L:List Nat),FW a b U (fun z A=>S z A∨(z=x∧lv b x A)) L J'→J'[d]?=aa (.box [.f (fi x.day),.f (fi x.fr),.f (fi x.to)] 0)→J.length≤J'.length→WP tab 10 ab k ⟨v,L.map .er,J'⟩ Q) :
  WP tab 10 ab (.code wj::.inBlock 4::k) ⟨v,bs.map .er,J⟩ Q:=by
 obtain⟨⟨s0,f,t⟩,Z,j⟩:=h;obtain⟨N,X⟩:=aN (J.length);have l9:=aj f.h9;have lx:=aj hx;obtain⟨I,l⟩:=aN (J++[.fg ae,.lp 10 v [P.nat 138] gR gS .ready ab N]:an);have lR:I.length=N+2:=by rw [l,alj,X];rfl
 have kR:∀ i:Nat,i<J.length→I[i]?=J[i]?:=fun i hi=>by rw [l,AT hi]
 have rd:I[N]?=aa (.fg ae):=by rw [l,X];simp
 have rl:I[N+1]?=aa (.lp 10 v [P.nat 138] gR gS .ready ab N):=by rw [l,X,alp (by omega)];simp
 obtain⟨H2,he,ys,⟨s,e,c,u,M,O,K,e4⟩,a7⟩:=vU (bb:=N+1) (H:=I) b hb x x0 x1 x2
  (fun ys J'=>∃ s,FQ a b U s J'∧fS U (fun z A=>S z A∨(z=x∧A ∈ ys)) s∧fq bs J'∧J'[N]?=aa (.fg ae)∧J'[N+1]?=aa (.lp 10 v [P.nat 138] gR gS .ready ab N)∧J'[d]?=aa (.box [.f (fi x.day),.f (fi x.fr),.f (fi x.to)] 0)∧I.length≤J'.length)
  ⟨s0,f.bu fun i hi=>kR i (by omega),t.iff fun z A _=>⟨fun h=>h.elim id fun h=>by simp at h,.inl⟩,⟨Z.nd,fun i hi=>by rw [kR i (j i hi).2];exact Z.on i hi⟩,rd,rl,by rw [kR d lx];exact hx,alk _⟩
  (fun ys J1 J2 ⟨s,e,c,u,M,O,K,e4⟩ m hl=>⟨s,e.bu fun i hi=>m i (by omega),c,⟨u.nd,fun i hi=>by rw [m i (by have:=(j i hi).2;omega)];exact u.on i hi⟩,by rw [m N (by omega)];exact M,by rw [m (N+1) (by omega)];exact O,by rw [m d (by omega)];exact K,by omega⟩)
  (fun ys y J1 ⟨s,e,c,u,M,O,K,e4⟩ hl _=>by
   obtain⟨r,J2,o,rfl,w,p,F,q⟩:=ui hT n e K Y (show d<N+1 by omega) O y;refine⟨J2,o,⟨eF U s x y,w,(c.one x y).iff fun z A _=>?_,⟨u.nd,fun i hi=>?_⟩,?_,p,?_,by omega⟩,F,fun i h1 h2=>q i (by omega) h2 (by omega)⟩
   ·rw [aln,alm];constructor
    ·rintro(h | ⟨h,B | B⟩)
     ·exact .inl (.inl h)
     ·exact .inl (.inr ⟨h,B⟩)
     ·exact .inr ⟨h,B⟩
    ·rintro((h | ⟨h,B⟩) | ⟨h,B⟩)
     ·exact .inl h
     ·exact .inr ⟨h,.inl B⟩
     ·exact .inr ⟨h,.inr B⟩
   ·have:=j i hi;rw [q i (by omega) (by omega) (by omega)];exact u.on i hi
   ·rw [q N (by omega) (by omega) (by omega)];exact M
   ·rw [q d (by omega) (by omega) (by omega)];exact K)
 rw [l,X]at he;refine fF (g:=71) (by rw [rm,W];simp [bW]) he ?_;rw [←X];refine gq O (by decide) (ax ?_);have E:(fk.er N::bs.map .er)=(N::bs).map .er:=rfl;rw [E];refine hk _ (N::bs) ⟨⟨s,e.bu fun i hi=>by rw [sh (by omega)],c.iff fun z A _=>by rw [a7]⟩,⟨List.nodup_cons.2 ⟨fun hi=>by have:=(j N hi).2;omega,u.nd⟩,fun i hi=>?_⟩,fun i hi=>?_⟩ (by rw [sh (by omega)];exact K) (by rw [alI];omega)
 ·rcases alW.1 hi with rfl | hi
  ·rw [sh (by omega)];exact M
  ·have:=j i hi;rw [sh (by omega)];exact u.on i hi
 ·rw [alI];rcases alW.1 hi with rfl | hi
  ·omega
  ·have:=j i hi;omega
theorem af0{a b:aU}(ha:jQ a)(hb:jQ b){U:Int}{x:aC}(x0:-1000000000000≤x.fr)(x1:x.to≤1000000000000)(x2:x.fr<x.to){S:aC→aC→Prop}{bs:List Nat}{J:an}(h:FW a b U S bs J){v:T}(hT:FT v){d:Nat}(n:v.g 25=.c (.ptr d 0 0))(W:v.g 165=.c (.f (.fn 71 [.fp a.row 0,.fp x.row 0])))(hx:J[d]?=aa (.box [.f (fi x.day),.f (fi x.fr),.f (fi x.to)] 0))(Y:10≤d){k:List cP}{Q:Option aw→St→Prop}
  (hk:∀(J':an) (L:List Nat),FW a b U (fun z A=>S z A∨(A=x∧lv a x z)) L J'→J'[d]?=aa (.box [.f (fi x.day),.f (fi x.fr),.f (fi x.to)] 0)→J.length≤J'.length→WP tab 10 ab k ⟨v,L.map .er,J'⟩ Q) :
  WP tab 10 ab (.code wm::.inBlock 10::k) ⟨v,bs.map .er,J⟩ Q:=by
 obtain⟨⟨s0,f,t⟩,Z,j⟩:=h;obtain⟨N,X⟩:=aN (J.length);have l9:=aj f.h9;have lx:=aj hx;obtain⟨I,l⟩:=aN (J++[.fg ae,.lp 10 v [P.nat 166] gT gU .ready ab N]:an);have lR:I.length=N+2:=by rw [l,alj,X];rfl
 have kR:∀ i:Nat,i<J.length→I[i]?=J[i]?:=fun i hi=>by rw [l,AT hi]
 have rd:I[N]?=aa (.fg ae):=by rw [l,X];simp
 have rl:I[N+1]?=aa (.lp 10 v [P.nat 166] gT gU .ready ab N):=by rw [l,X,alp (by omega)];simp
 obtain⟨H2,he,ys,⟨s,e,c,u,M,O,K,e4⟩,a7⟩:=vU (bb:=N+1) (H:=I) a ha x x0 x1 x2
  (fun ys J'=>∃ s,FQ a b U s J'∧fS U (fun z A=>S z A∨(A=x∧z ∈ ys)) s∧fq bs J'∧J'[N]?=aa (.fg ae)∧J'[N+1]?=aa (.lp 10 v [P.nat 166] gT gU .ready ab N)∧J'[d]?=aa (.box [.f (fi x.day),.f (fi x.fr),.f (fi x.to)] 0)∧I.length≤J'.length)
  ⟨s0,f.bu fun i hi=>kR i (by omega),t.iff fun z A _=>⟨fun h=>h.elim id fun h=>by simp at h,.inl⟩,⟨Z.nd,fun i hi=>by rw [kR i (j i hi).2];exact Z.on i hi⟩,rd,rl,by rw [kR d lx];exact hx,alk _⟩
  (fun ys J1 J2 ⟨s,e,c,u,M,O,K,e4⟩ m hl=>⟨s,e.bu fun i hi=>m i (by omega),c,⟨u.nd,fun i hi=>by rw [m i (by have:=(j i hi).2;omega)];exact u.on i hi⟩,by rw [m N (by omega)];exact M,by rw [m (N+1) (by omega)];exact O,by rw [m d (by omega)];exact K,by omega⟩)
  (fun ys y J1 ⟨s,e,c,u,M,O,K,e4⟩ hl _=>by
   obtain⟨r,J2,o,rfl,w,p,F,q⟩:=uj hT n e K Y (show d<N+1 by omega) O y;refine⟨J2,o,⟨eF U s y x,w,(c.one y x).iff fun z A _=>?_,⟨u.nd,fun i hi=>?_⟩,?_,p,?_,by omega⟩,F,fun i h1 h2=>q i (by omega) h2 (by omega)⟩
   ·rw [aln,alm];constructor
    ·rintro(h | ⟨h,B | B⟩)
     ·exact .inl (.inl h)
     ·exact .inl (.inr ⟨h,B⟩)
     ·exact .inr ⟨B,h⟩
    ·rintro((h | ⟨h,B⟩) | ⟨h,B⟩)
     ·exact .inl h
     ·exact .inr ⟨h,.inl B⟩
     ·exact .inr ⟨B,.inr h⟩
   ·have:=j i hi;rw [q i (by omega) (by omega) (by omega)];exact u.on i hi
   ·rw [q N (by omega) (by omega) (by omega)];exact M
   ·rw [q d (by omega) (by omega) (by omega)];exact K)
 rw [l,X]at he;refine fF (g:=71) (by rw [rm,W];simp [bW]) he ?_;rw [←X];refine gq O (by decide) (ax ?_);have E:(fk.er N::bs.map .er)=(N::bs).map .er:=rfl;rw [E];refine hk _ (N::bs) ⟨⟨s,e.bu fun i hi=>by rw [sh (by omega)],c.iff fun z A _=>by rw [a7]⟩,⟨List.nodup_cons.2 ⟨fun hi=>by have:=(j N hi).2;omega,u.nd⟩,fun i hi=>?_⟩,fun i hi=>?_⟩ (by rw [sh (by omega)];exact K) (by rw [alI];omega)
 ·rcases alW.1 hi with rfl | hi
  ·rw [sh (by omega)];exact M
  ·have:=j i hi;rw [sh (by omega)];exact u.on i hi
 ·rw [alI];rcases alW.1 hi with rfl | hi
  ·omega
  ·have:=j i hi;omega
def PM(a b:aU)(p:Pr)(x y:aC):Prop:=∃ e,0≤e∧eL p.xs e∧eL p.ys e∧x=fI a p e∧y=fJ b p e
def nH(s:aU)(x:aC):Prop:=∃ c ∈ s.cs,∃ d,0≤d∧eL c.ts d∧x=dr s.len c.min d
theorem abH{a b:aU}(k:jQ a)(n:jQ b){g:Int}(f0:-1000000000000≤g)(f1:g≤100000000000000){p:Pr}(J:oz a b p){e:Int}{f:Bool}(H:ew (fun e=>n0P a b g p≤e∧eL p.xs e∧eL p.ys e) e f)(E:f=ae→e≤1000001000000){S:aC→aC→Prop}{s:FS}(o:fS g S s) :
  fS g (fun x y=>S x y∨PM a b p x y) (BC a b g p e f s):=by
 obtain⟨c9,c_⟩:=k.ok.len;obtain⟨d9,d_⟩:=n.ok.len;have t:=k.ok.min J.ca;have a7:=n.ok.min J.db;have Q:=J.lo;have O:=J.hi;unfold zC at Q;unfold zr at O;have kb:-20≤p.k∧p.k≤20:=by omega
 have key:∀ m q,PM a b p m q→okB g m q→∃ d,n0P a b g p≤d∧0≤d∧eL p.xs d∧eL p.ys d∧m=fI a p d∧q=fJ b p d:=by
  rintro m q ⟨d,A,K,L,rfl,rfl⟩ ⟨-,-,M⟩;refine⟨d,?_,A,K,L,rfl,rfl⟩;simp only [iT,fI,fJ,dr]at M;unfold n0P Ug;omega
 unfold BC;rcases H with⟨rfl,-,U⟩ | ⟨rfl,⟨A,K,L⟩,l⟩
 ·simp only [Bool.false_eq_true,if_false];refine o.none fun m q N I=>?_;obtain⟨d,W,-,Z,c,-⟩:=key m q N I;exact U d ⟨W,Z,c⟩
 ·simp only [if_true];have b_:0≤n0P a b g p:=by unfold n0P;omega
  have E:=E rfl;refine o.step ⟨e,by omega,K,L,rfl,rfl⟩ fun m q N I=>?_;obtain⟨d,W,k0,Z,c,rfl,rfl⟩:=key m q N I;have a_:=l d ⟨W,Z,c⟩;obtain⟨-,-,M⟩:=I;obtain⟨v,j⟩:=aN (max 0 (-p.k));have r:0≤v∧v≤20:=by omega
  obtain⟨z,w⟩:=aN ((d-e)*1440);have B:0≤z∧(d≠e→0<z):=⟨by omega,fun h=>by omega⟩
  have i:(fI a p e).fr=(e+v)*1440+p.c.min∧(fI a p e).to=(e+v)*1440+p.c.min+a.len:=by unfold fI dr;rw [←j];exact⟨rfl,rfl⟩
  have ya:(fJ b p e).fr=(e+v+p.k)*1440+p.d.min∧(fJ b p e).to=(e+v+p.k)*1440+p.d.min+b.len:=by unfold fJ dr;rw [←j];exact⟨rfl,rfl⟩
  have xb:(fI a p d).fr=(fI a p e).fr+z∧(fI a p d).to=(fI a p e).to+z:=by unfold fI dr;simp only;rw [←j];omega
  have yb:(fJ b p d).fr=(fJ b p e).fr+z∧(fJ b p d).to=(fJ b p e).to+z:=by unfold fJ dr;simp only;rw [←j];omega
  have a8:g<(fI a p e).to∧g<(fJ b p e).to:=by
   rw [i.2,ya.2];unfold n0P Ug at A;rw [←j]at A;omega
  have F:(fI a p e).to≤2251799813685248∧(fJ b p e).to≤2251799813685248:=by rw [i.2,ya.2];omega
  have u:d=e→fI a p d=fI a p e∧fJ b p d=fJ b p e:=fun h=>by subst h;exact⟨rfl,rfl⟩
  generalize fI a p e=X at *;generalize fJ b p e=Y at *;generalize fI a p d=X' at *;generalize fJ b p d=Y' at *;clear i ya A l;unfold iT at M;refine⟨⟨F.1,F.2,?_⟩,?_⟩
  ·unfold iT;omega
  ·by_cases H:d=e
   ·obtain⟨rfl,rfl⟩:=u H;unfold tS aC.lt;omega
   ·have:=B.2 H;unfold tS aC.lt iT;omega
theorem afV{a b:aU}(L:jQ a)(M:jQ b){A:Int}{ps:List Pr}(m:∀ p ∈ ps,oz a b p)(l:∀ c ∈ a.cs,∀ d ∈ b.cs,∀ k,zC a.len b.len c d≤k→k≤zr a.len b.len c d→∃ p ∈ ps,p.c=c∧p.d=d∧p.k=k)(x y:aC)(H:okB A x y):(nH a x∧nH b y)↔∃ p ∈ ps,PM a b p x y:=by
 constructor
 ·rintro⟨⟨c,E,g,N,J,rfl⟩,⟨d,F,s,O,K,rfl⟩⟩;obtain⟨-,-,B⟩:=H;simp only [iT,dr]at B;obtain⟨p,q,rfl,rfl,I⟩:=l c E d F (s-g) (by unfold zC;omega) (by unfold zr;omega);have j:=m p q;refine⟨p,q,g-max 0 (-p.k),by omega,(j.xm _ (by omega)).2 (by rw [show g-max 0 (-p.k)+max 0 (-p.k)=g by omega];exact J),(j.ym _ (by omega)).2 (by rw [show g-max 0 (-p.k)+max 0 p.k=s by omega];exact K),?_,?_⟩
  ·unfold fI;rw [show g-max 0 (-p.k)+max 0 (-p.k)=g by omega]
  ·unfold fJ;rw [show g-max 0 (-p.k)+max 0 (-p.k)+p.k=s by omega]
 ·rintro⟨p,q,e,u,v,z,rfl,rfl⟩;have j:=m p q;refine⟨⟨p.c,j.ca,e+max 0 (-p.k),by omega,(j.xm e u).1 v,rfl⟩,⟨p.d,j.db,e+max 0 (-p.k)+p.k,by omega,?_,rfl⟩⟩;have:=(j.ym e u).1 z;rw [show e+max 0 (-p.k)+p.k=e+max 0 p.k by omega];exact this
theorem vr(s:aU)(x:aC):iv s x↔nH s x∨x ∈ s.xs:=by
 unfold iv Tq nH rk Is;constructor
 ·rintro(⟨c,j,d,⟨t,l,b,g⟩,rfl⟩ | h)
  ·exact .inl ⟨c,j,d,b,⟨t,l,(iC b).1 g⟩,rfl⟩
  ·exact .inr h
 ·rintro(⟨c,j,d,b,⟨t,l,g⟩,rfl⟩ | h)
  ·exact .inl ⟨c,j,d,⟨t,l,b,(iC b).2 g⟩,rfl⟩
  ·exact .inr h
theorem Vs{b:Int}{s:aU}{x y:aC}(h:okB b x y):lv s x y↔nH s y:=by
 obtain⟨-,-,d⟩:=h;unfold iT at d;exact⟨fun h=>h.1,fun h=>⟨h,by omega,by omega⟩⟩
theorem JU{b:Int}{s:aU}{x y:aC}(h:okB b x y):lv s y x↔nH s x:=by
 obtain⟨-,-,d⟩:=h;unfold iT at d;exact⟨fun h=>h.1,fun h=>⟨h,by omega,by omega⟩⟩
theorem sQ{t:T}{n:Nat}{v:V}(A:n ∉ [3,4,5,6,7,9,10,12,13]):FT (t.s n v)↔FT t:=by
 simp only [alW,List.not_mem_nil,or_false,not_or]at A;obtain⟨q,s,u,x,y,z,j,l,m⟩:=A;constructor
 ·rintro⟨a,b,c,d,e,f,g,h,i⟩;refine⟨?_,?_,?_,?_,?_,?_,?_,?_,?_⟩
  ·simpa [q]using a
  ·simpa [s]using b
  ·simpa [u]using c
  ·simpa [x]using d
  ·simpa [y]using e
  ·simpa [z]using f
  ·simpa [j]using g
  ·simpa [l]using h
  ·simpa [m]using i
 ·rintro⟨a,b,c,d,e,f,g,h,i⟩;refine⟨?_,?_,?_,?_,?_,?_,?_,?_,?_⟩
  ·simpa [q]using a
  ·simpa [s]using b
  ·simpa [u]using c
  ·simpa [x]using d
  ·simpa [y]using e
  ·simpa [z]using f
  ·simpa [j]using g
  ·simpa [l]using h
  ·simpa [m]using i
theorem Cq{tab:TB}{fn i:Nat}{v:Option Nat}{k:List cP}{d:List fk}{Q:Option aw→St→Prop}{a b c x:Nat}{body:aw}{t:T}{H:an}(N:Nat)(I:Nat→T→List fk→an→Prop)(M:N≤9223372036854775807)(B:a≠b)(F:x≠b)
  (m:t.g a=vi 0) (q:t.g b=vi N) (K:I 0 t d H)
  (step:∀ j t d H,j<N→I j t d H→t.g a=vi j→t.g b=vi N →
   (∀ y g H',I (j+1) ((y.s x (vi (j+1:Nat))).s a (vi (j+1:Nat))) g H'→y.g a=vi j→y.g b=vi N →
    WP tab fn v (.code (rq a x)::.inLoop (iu i a b c x body)::.inBlock i::k) ⟨y,g,H'⟩ Q) →
   WP tab fn v (.code body::.code (rq a x)::.inLoop (iu i a b c x body)::.inBlock i::k) ⟨t.s c (vb ae),d,H⟩ Q)
  (done:∀ t d H,I N t d H→t.g a=vi N→t.g b=vi N→WP tab fn v k ⟨t.s c (vb ag),d,H⟩ Q) :
  WP tab fn v (.code (wI i a b c x body)::k) ⟨t,d,H⟩ Q:=by
 have u:∀ ops:List aQ,ops.all (·.op.eS)=ae→v=ab∨ops.all (·.op.eS)=ae:=fun _ h=>.inr h;refine az ?_;refine bJ (fun n s=>∃ j t d H,s=⟨t,d,H⟩∧j≤N∧n=N-j∧I j t d H∧t.g a=vi j∧t.g b=vi N) N ⟨0,t,d,H,rfl,by omega,by omega,K,m,q⟩ ?_;rintro n s ⟨j,t,d,H,rfl,O,rfl,J,m,q⟩ L;apply au;refine aq (u _ rfl) ?_;simp [m,q];by_cases l:j<N
 ·rw [decide_eq_true l];apply au;refine av (by simp) ?_;refine aP ?_;apply au;refine step j t d H l J m q fun y g H' z A E=>?_;refine aq (u _ rfl) ?_;simp [A];rw [aO];refine L (N-(j+1)) _ (by omega) ⟨j+1,_,g,H',rfl,by omega,rfl,by simpa using z,by simp,?_⟩;simp [B,F,E]
 ·have:j=N:=by omega
  subst this;rw [decide_eq_false l];apply au;refine aF (by simp) ?_;refine bg (k':=k) (by simp [Km.exitTo]) ?_;exact done t d H J m q
theorem I6(a b:aU)(ha:jQ a)(hb:jQ b)(B:Int)(f0:-1000000000000≤B)(f1:B≤100000000000000) :
  ∃ s:FS,fS B (fun x y=>iv a x∧iv b y) s∧bX tab 10 [.a (a.row.map .f),.a (b.row.map .f),vi B]=Eq (.t [.a (s.X.row.map .f),.a (s.Y.row.map .f),vb s.found]):=by
 obtain⟨r,⟨s,A,rfl⟩,h⟩:∃ r,(∃ s:FS,fS B (fun x y=>iv a x∧iv b y) s∧r=.t [.a (s.X.row.map .f),.a (s.Y.row.map .f),vb s.found])∧bX tab 10 [.a (a.row.map .f),.a (b.row.map .f),vi B] r:=by
  refine qw akm rfl fun Q hQ=>?_;have n9:=(qE a ha.ok.sm).eq;rw [ha.ok.v]at n9;simp [aU.row]at n9;have n_:=(qE b hb.ok.sm).eq;rw [hb.ok.v]at n_;simp [aU.row]at n_;have u7:max B (-2251799813685248)=B:=by omega
  have x_:=ha.ok.xn;have a_:=hb.ok.xn;apply ai;simp [aU.row];apply au;apply ai;simp [n9,n_,show¬ 2251799813685248<B by omega];refine aW (by simp) ?_;apply ai;simp [u7];apply ai;simp;apply ai;simp;apply ai;simp;obtain⟨J0,i3⟩:=aN ([.box (tJ a) 0,.box (tJ b) 0,.box [.f (fi B)] 0,.box [.f (fi 0),.f (fi 0),.f (fi 0)] 0,.box [.f (fi 0),.f (fi 0),.f (fi 0)] 0,.box [.f (fi 0),.f (fi 0),.f (fi 0)] 0,.box [.f (fi 0),.f (fi 0),.f (fi 0)] 0,.box [.f (fi 0)] 0,.box [.f (.bool ag)] 0,.box [mU] 0]:an);have n8:FQ a b B ⟨0,ag,⟨0,0,0⟩,⟨0,0,0⟩⟩ J0:=by rw [i3];exact⟨rfl,rfl,rfl,rfl,rfl,⟨rfl,rfl,rfl,rfl,rfl⟩⟩
  have l0:J0.length=10:=by rw [i3];rfl
  unfold tJ mU at i3;rw [←i3];have la:∀(J:an) (s:FS),FQ a b B s J→aX J (aa 3) (.c (.ptr 0 0 0))=aa (.a [.f (sl a.cg (aR a.cs)),.f (fi a.len),.f (sl a.xg (aG a.xs))])∧aX J ab (.c (.ptr 0 2 0))=aa (.c (.f (sl a.xg (aG a.xs)))):=fun J s h=>by refine⟨?_,?_⟩<;>simp [aX,aH,h.h0,tJ,aY]
  have lb:∀(J:an) (s:FS),FQ a b B s J→aX J (aa 3) (.c (.ptr 1 0 0))=aa (.a [.f (sl b.cg (aR b.cs)),.f (fi b.len),.f (sl b.xg (aG b.xs))])∧aX J ab (.c (.ptr 1 2 0))=aa (.c (.f (sl b.xg (aG b.xs)))):=fun J s h=>by refine⟨?_,?_⟩<;>simp [aX,aH,h.h1,tJ,aY]
  have oW:∀ H:an,bh H (.f (sl a.xg (aG a.xs)))=aa a.xs.length:=fun H=>by simp
  have k_:∀ H:an,bh H (.f (sl b.xg (aG b.xs)))=aa b.xs.length:=fun H=>by simp
  have t5:∀(t:T) (J:an) (bs:List Nat),FT t→FW a b B (fun x y=>iv a x∧iv b y) bs J→WP tab 10 ab [.code wo] ⟨t,bs.map .er,J⟩ Q:=by
   rintro t J bs d ⟨⟨s,l,A⟩,e_,a8⟩;have l9:=aj l.h9;have lx:∀ J':an,J'[5]?=J[5]?→aX J' (aa 3) (.c (.ptr 5 0 0))=aa (.a [.f (fi s.X.day),.f (fi s.X.fr),.f (fi s.X.to)]):=fun J' h=>by simp [aX,aH,h,l.tk.h5,aY]
   have ly:∀ J':an,J'[6]?=J[6]?→aX J' (aa 3) (.c (.ptr 6 0 0))=aa (.a [.f (fi s.Y.day),.f (fi s.Y.fr),.f (fi s.Y.to)]):=fun J' h=>by simp [aX,aH,h,l.tk.h6,aY]
   have lf:∀ J':an,J'[8]?=J[8]?→aX J' ab (.c (.ptr 8 0 0))=aa (vb s.found):=fun J' h=>by simp [aX,aH,h,l.tk.h8]
   obtain⟨E,v⟩:=aN (J.set 3 (.box [.f (fi s.X.day),.f (fi s.X.fr),.f (fi s.X.to)] 0));have s1:dt J (.ptr 3 0 0) [.f (fi s.X.day),.f (fi s.X.fr),.f (fi s.X.to)]=aa E:=by rw [v];simp [dt,l.h3,over]
   have k1:∀ i:Nat,i≠3→E[i]?=J[i]?:=fun i hi=>by rw [v,sh (Ne.symm hi)]
   have n1:E.length=J.length:=by rw [v];simp
   obtain⟨Y,i4⟩:=aN (E.set 4 (.box [.f (fi s.Y.day),.f (fi s.Y.fr),.f (fi s.Y.to)] 0));have s2:dt E (.ptr 4 0 0) [.f (fi s.Y.day),.f (fi s.Y.fr),.f (fi s.Y.to)]=aa Y:=by rw [i4];simp [dt,k1 4 (by omega),l.h4,over]
   have k2:∀ i:Nat,i≠4→Y[i]?=E[i]?:=fun i hi=>by rw [i4,sh (Ne.symm hi)]
   have n2:Y.length=J.length:=by rw [i4];simp [n1]
   refine au (eP (.inl rfl) ?_ ?_)
   case refine_2=>
    intro cc t9;have t8:cc=(1,4)∨cc=(2,4)∨cc=(2,6):=by simpa using t9
    rcases t8 with rfl | rfl | rfl
    ·refine⟨by decide,_,rfl,.inl ⟨by decide,?_⟩⟩;simp [d.g6,d.g7,d.g9,d.eH,d.g12,lx J rfl,ly J rfl,lf J rfl,ly E (k1 6 (by omega)),s1,-ay,-bw,fH,V.beq,C.beq,FC.beq]
    ·refine⟨by decide,_,rfl,.inl ⟨by decide,?_⟩⟩;simp [d.g6,d.g7,d.g9,d.eH,d.g12,lx J rfl,ly J rfl,lf J rfl,lf E (k1 8 (by omega)),s1,-ay,-bw,fH,V.beq,C.beq,FC.beq]
    ·refine⟨by decide,_,rfl,.inl ⟨by decide,?_⟩⟩;simp [d.g6,d.g7,d.g9,d.eH,d.g12,lx J rfl,ly J rfl,lf J rfl,lf Y ((k2 8 (by omega)).trans (k1 8 (by omega))),s1,s2,-ay,-bw,fH,V.beq,C.beq,FC.beq]
   simp [d.g6,d.g7,d.g9,d.eH,d.g12,lx J rfl,ly J rfl,lf J rfl,s1,s2,-ay,-bw];have v_:(3:Nat) ∉ bs:=fun h=>by have:=(a8 3 h).1;omega
   have w_:(4:Nat) ∉ bs:=fun h=>by have:=(a8 4 h).1;omega
   have e3:(oa bs Y)[3]?=aa (.box [.f (fi s.X.day),.f (fi s.X.fr),.f (fi s.X.to)] 0):=by rw [mL v_,k2 3 (by omega),v];exact BY (by omega)
   have e4:(oa bs Y)[4]?=aa (.box [.f (fi s.Y.day),.f (fi s.Y.fr),.f (fi s.Y.to)] 0):=by rw [mL w_,i4];exact BY (by omega)
   refine aD (hQ _ _ _ ⟨s,A,rfl⟩ ⟨bs,rfl,⟨e_.nd,fun z hz=>?_⟩,.t [.a (s.X.row.map .f),.a (s.Y.row.map .f),vb s.found],?_,by simp [me,dE,aZ,deep,eA,aC.row]⟩)
   ·have:=(a8 z hz).1;show Y[z]?=_;rw [k2 z (by omega),k1 z (by omega)];exact e_.on z hz
   ·simp [Km.results,cm,aZ,d.g6,d.g7,aX,aH,e3,e4,aY,aC.row]
  have o6:∀(t:T) (J:an) (bs:List Nat),FT t→FW a b B (fun x y=>(nH a x∧nH b y)∨(x ∈ a.xs∧(lv b x y∨y ∈ b.xs))) bs J→WP tab 10 ab [.code wk] ⟨t,bs.map .er,J⟩ Q:=by
   intro t J bs d L;apply au;have m9:=L;obtain⟨⟨s,l,-⟩,-⟩:=m9;apply ai;simp [d.g4,(lb J s l).2,k_,-ay];refine Cq b.xs.length (fun i t ds J=>FT t∧t.g 157=.c (.f (sl b.xg (aG b.xs)))∧∃ bs,ds=bs.map .er∧FW a b B (fun x y=>((nH a x∧nH b y)∨(x ∈ a.xs∧(lv b x y∨y ∈ b.xs)))∨(y ∈ b.xs.take i∧lv a y x)) bs J) (by omega) (by decide) (by decide) (by simp) (by simp)
    ⟨by simp [sQ,d],by simp,bs,rfl,by
     obtain⟨⟨s,l,A⟩,U⟩:=L;exact⟨⟨s,l,A.iff fun x y _=>by simp⟩,U⟩⟩ ?_ ?_
   ·clear d L l s;rintro i t ds J hi ⟨d,O,bs,rfl,L⟩ U m_ next
    have f_:=fun H:an=>bG (H:=H) (g:=b.xg) (rows:=aG b.xs) (sz:=3) (k:=.i64) (i:=(i:Int)) (by omega) (by simp;omega);have X:=fun H:an=>cR (H:=H) (bC b.xs) (cW hi);simp only [alJ]at f_;have a_:=hb.ex _ (IT hi);have f8:b.xs.take (i+1)=b.xs.take i++[b.xs[i]]:=by rw [aly,By hi];rfl
    obtain⟨x,hx⟩:=aN (b.xs[i]);rw [←hx]at X a_ f8;simp only [aC.row,alo,alH]at X;obtain⟨g_,j9⟩:=aN (J.length);obtain⟨E,v⟩:=aN (J++[b7.box [.f (fi x.day),.f (fi x.fr),.f (fi x.to)] 0]);have S:=L.push [b7.box [.f (fi x.day),.f (fi x.fr),.f (fi x.to)] 0];rw [←v]at S;have l_:E[g_]?=aa (.box [.f (fi x.day),.f (fi x.fr),.f (fi x.to)] 0):=by rw [v,j9];simp
    have v9:10≤g_:=by
     obtain⟨⟨s,l,-⟩,-⟩:=L;have:=aj l.h9;omega
    refine az ?_;apply ai;simp [U,O,f_,X,-ay];rw [←v,←j9];have f7:=sM a x;simp only [aU.row,aC.row,alo,alH]at f7;have d9:=S;obtain⟨⟨s1,i_,-⟩,-⟩:=d9;have x8:aX E (aa 3) (.c (.ptr g_ 0 0))=aa (.a [.f (fi x.day),.f (fi x.fr),.f (fi x.to)]):=by simp [aX,aH,l_,aY]
    apply au;refine aq (.inl rfl) ?_;simp [d.g3,(la E s1 i_).1,x8,-ay,f7];refine az ?_
    suffices go:∀ u:T,FT u→u.g 25=.c (.ptr g_ 0 0)→u.g 165=.c (.f (.fn 71 [.fp a.row 0,.fp x.row 0]))→u.g 157=.c (.f (sl b.xg (aG b.xs)))→u.g 158=vi b.xs.length→u.g 159=vi i→WP tab 10 ab [.code wm,.inBlock 10,.inBlock 9,.code (rq 159 171),.inLoop (iu 8 159 158 160 171 BT),.inBlock 8,.code wo] ⟨u,bs.map .er,E⟩ Q by
     exact go _ (by simp [sQ,d]) (by simp) (by simp [aU.row,aC.row]) (by simp [O]) (by simp [m_]) (by simp [U])
    intro u a7 t6 p8 O o9 o_;refine af0 ha hb (by omega) (by omega) a_.2.2 S a7 t6 p8 l_ v9 fun Y h_ d_ l_ u6=>?_;refine ax (next _ _ _ ⟨by simp [sQ,a7],by simp [O],h_,rfl,?_⟩ (by simp [o_]) (by simp [o9]));obtain⟨⟨s,l,A⟩,U⟩:=d_;refine⟨⟨s,l,A.iff fun x' y' _=>?_⟩,U⟩;rw [f8,aln,alm];constructor
    ·rintro(h | ⟨h | rfl,F⟩)
     ·exact .inl (.inl h)
     ·exact .inl (.inr ⟨h,F⟩)
     ·exact .inr ⟨rfl,F⟩
    ·rintro((h | ⟨h,F⟩) | ⟨rfl,F⟩)
     ·exact .inl h
     ·exact .inr ⟨.inl h,F⟩
     ·exact .inr ⟨.inr rfl,F⟩
   ·rintro t ds J ⟨d,O,bs,rfl,L⟩ - -;rw [alw]at L;obtain⟨⟨s,l,A⟩,U⟩:=L;refine t5 _ J bs (by simp [sQ,d]) ⟨⟨s,l,A.iff fun x y hk=>?_⟩,U⟩;rw [vr,vr,Vs hk,JU hk];constructor
    ·rintro⟨h1 | h1,W | W⟩
     ·exact .inl (.inl ⟨h1,W⟩)
     ·exact .inr ⟨W,h1⟩
     ·exact .inl (.inr ⟨h1,.inl W⟩)
     ·exact .inl (.inr ⟨h1,.inr W⟩)
    ·rintro((⟨h1,W⟩ | ⟨h1,W | W⟩) | ⟨h1,W⟩)
     ·exact⟨.inl h1,.inl W⟩
     ·exact⟨.inr h1,.inl W⟩
     ·exact⟨.inr h1,.inr W⟩
     ·exact⟨.inl W,.inr h1⟩
  have o5:∀(t:T) (J:an) (bs:List Nat),FT t→FW a b B (fun x y=>nH a x∧nH b y) bs J→WP tab 10 ab [.code wi] ⟨t,bs.map .er,J⟩ Q:=by
   intro t J bs d L;apply au;have m9:=L;obtain⟨⟨s,l,-⟩,-⟩:=m9;apply ai;simp [d.g3,(la J s l).2,oW,-ay];refine Cq a.xs.length (fun i t ds J=>FT t∧t.g 129=.c (.f (sl a.xg (aG a.xs)))∧∃ bs,ds=bs.map .er∧FW a b B (fun x y=>(nH a x∧nH b y)∨(x ∈ a.xs.take i∧(lv b x y∨y ∈ b.xs))) bs J) (by omega) (by decide) (by decide) (by simp) (by simp)
    ⟨by simp [sQ,d],by simp,bs,rfl,by
     obtain⟨⟨s,l,A⟩,U⟩:=L;exact⟨⟨s,l,A.iff fun x y _=>by simp⟩,U⟩⟩ ?_ ?_
   ·clear d L l s;rintro i t ds J hi ⟨d,m,bs,rfl,L⟩ U m_ next
    have f_:=fun H:an=>bG (H:=H) (g:=a.xg) (rows:=aG a.xs) (sz:=3) (k:=.i64) (i:=(i:Int)) (by omega) (by simp;omega);have X:=fun H:an=>cR (H:=H) (bC a.xs) (cW hi);simp only [alJ]at f_;have a_:=ha.ex _ (IT hi);have f8:a.xs.take (i+1)=a.xs.take i++[a.xs[i]]:=by rw [aly,By hi];rfl
    obtain⟨x,hx⟩:=aN (a.xs[i]);rw [←hx]at X a_ f8;simp only [aC.row,alo,alH]at X;obtain⟨I,j7⟩:=aN (J.length);obtain⟨E,v⟩:=aN (J++[b7.box [.f (fi x.day),.f (fi x.fr),.f (fi x.to)] 0]);have S:=L.push [b7.box [.f (fi x.day),.f (fi x.fr),.f (fi x.to)] 0];rw [←v]at S;have K:E[I]?=aa (.box [.f (fi x.day),.f (fi x.fr),.f (fi x.to)] 0):=by rw [v,j7];simp
    have v8:10≤I:=by
     obtain⟨⟨s,l,-⟩,-⟩:=L;have:=aj l.h9;omega
    refine az ?_;apply ai;simp [U,m,f_,X,-ay];rw [←v,←j7];have f7:=sM b x;simp only [aU.row,aC.row,alo,alH]at f7;have d9:=S;obtain⟨⟨s1,i_,-⟩,-⟩:=d9;have j4:aX E (aa 3) (.c (.ptr I 0 0))=aa (.a [.f (fi x.day),.f (fi x.fr),.f (fi x.to)]):=by simp [aX,aH,K,aY]
    apply au;apply au;refine aq (.inl rfl) ?_;simp [d.g4,(lb E s1 i_).1,j4,-ay,f7];refine az ?_
    suffices go:∀ u:T,FT u→u.g 20=.c (.ptr I 0 0)→u.g 137=.c (.f (.fn 71 [.fp b.row 0,.fp x.row 0]))→u.g 129=.c (.f (sl a.xg (aG a.xs)))→u.g 130=vi a.xs.length→u.g 131=vi i→WP tab 10 ab [.code wj,.inBlock 4,.code BS,.inBlock 3,.code (rq 131 155),.inLoop (iu 2 131 130 132 155 BQ),.inBlock 2,.code wk] ⟨u,bs.map .er,E⟩ Q by
     exact go _ (by simp [sQ,d]) (by simp) (by simp [aU.row,aC.row]) (by simp [m]) (by simp [m_]) (by simp [U])
    intro u a7 Z o8 m M N;refine afZ ha hb (by omega) (by omega) a_.2.2 S a7 Z o8 K v8 fun Y h_ d_ K u6=>?_;have p9:=d_;obtain⟨⟨s2,j3,-⟩,-⟩:=p9;apply ai;simp [a7.g4,(lb Y s2 j3).2,k_,-ay];refine bZ b.xs.length (fun j t J=>FT t∧t.g 20=.c (.ptr I 0 0)∧t.g 129=.c (.f (sl a.xg (aG a.xs)))∧t.g 130=vi a.xs.length∧t.g 131=vi i∧t.g 144=.c (.f (sl b.xg (aG b.xs)))∧J[I]?=aa (.box [.f (fi x.day),.f (fi x.fr),.f (fi x.to)] 0)∧FW a b B (fun x' y'=>((nH a x'∧nH b y')∨(x' ∈ a.xs.take i∧(lv b x' y'∨y' ∈ b.xs)))∨(x'=x∧(lv b x y'∨y' ∈ b.xs.take j))) h_ J) (by omega) (by decide) (by decide) (by simp) (by simp)
     ⟨by simp [sQ,a7],by simp [Z],by simp [m],by simp [M],by simp [N],by simp,K,by
      obtain⟨⟨s,l,A⟩,U⟩:=d_;exact⟨⟨s,l,A.iff fun x' y' _=>by simp⟩,U⟩⟩ ?_ ?_
    ·clear K d_ j3 s2 S i_ s1 j4;rintro j t' J3 hj ⟨i7,Z,m,M,N,c9,K,i8⟩ r8 r7 o4;have s_:=fun H:an=>bG (H:=H) (g:=b.xg) (rows:=aG b.xs) (sz:=3) (k:=.i64) (i:=(j:Int)) (by omega) (by simp;omega);have o0:=fun H:an=>cR (H:=H) (bC b.xs) (cW hj);simp only [alJ]at s_;have j_:b.xs.take (j+1)=b.xs.take j++[b.xs[j]]:=by rw [aly,By hj];rfl
     obtain⟨y,hy⟩:=aN (b.xs[j]);rw [←hy]at o0 j_;simp only [aC.row,alo,alH]at o0;obtain⟨o7,j8⟩:=aN (J3.length);obtain⟨J4,i6⟩:=aN (J3++[b7.box [.f (fi y.day),.f (fi y.fr),.f (fi y.to)] 0]);have p_:=i8.push [b7.box [.f (fi y.day),.f (fi y.fr),.f (fi y.to)] 0];rw [←i6]at p_;have t4:J4[o7]?=aa (.box [.f (fi y.day),.f (fi y.fr),.f (fi y.to)] 0):=by rw [i6,j8];simp
     have b_:J4[I]?=aa (.box [.f (fi x.day),.f (fi x.fr),.f (fi x.to)] 0):=by rw [i6,AT (aj K)];exact K
     obtain⟨⟨s,l,A⟩,e_,a8⟩:=p_;have j4:aX J4 (aa 3) (.c (.ptr I 0 0))=aa (.a [.f (fi x.day),.f (fi x.fr),.f (fi x.to)]):=by simp [aX,aH,b_,aY]
     have x6:aX J4 (aa 3) (.c (.ptr o7 0 0))=aa (.a [.f (fi y.day),.f (fi y.fr),.f (fi y.to)]):=by simp [aX,aH,t4,aY]
     have f9:aX J4 ab (.c (.ptr 9 0 0))=aa (.c mU):=by simp [aX,aH,l.h9]
     obtain⟨J5,i9,v6,x9,r9⟩:=pJ l x y;simp only [aC.row,alo,alH]at i9;refine az ?_;apply ai;simp [r8,c9,s_,o0,-ay];rw [←i6,←j8];refine aq (.inl rfl) ?_;simp [i7.g13,Z,f9,j4,x6,-ay,mU,i9.eq];refine ax (o4 _ _ ⟨by simp [sQ,i7],by simp [Z],by simp [m],by simp [M],by simp [N],by simp [c9],by rw [r9 I (by omega) (aj b_)];exact b_,⟨⟨_,v6,(A.one x y).iff fun x' y' _=>?_⟩,⟨e_.nd,fun z hz=>?_⟩,fun z hz=>?_⟩⟩ (by simp [r8]) (by simp [r7]))
     ·rw [j_,aln,alm];constructor
      ·rintro(h | ⟨rfl,h | h | rfl⟩)
       ·exact .inl (.inl h)
       ·exact .inl (.inr ⟨rfl,.inl h⟩)
       ·exact .inl (.inr ⟨rfl,.inr h⟩)
       ·exact .inr ⟨rfl,rfl⟩
      ·rintro((h | ⟨rfl,h | h⟩) | ⟨rfl,rfl⟩)
       ·exact .inl h
       ·exact .inr ⟨rfl,.inl h⟩
       ·exact .inr ⟨rfl,.inr (.inl h)⟩
       ·exact .inr ⟨rfl,.inr (.inr rfl)⟩
     ·have:=a8 z hz;rw [r9 z (by omega) this.2];exact e_.on z hz
     ·have:=a8 z hz;exact⟨this.1,by omega⟩
    ·rintro t' J3 ⟨i7,Z,m,M,N,c9,K,i8⟩ - -;rw [alw]at i8;refine ax (next _ _ _ ⟨by simp [sQ,i7],by simp [m],h_,rfl,?_⟩ (by simp [N]) (by simp [M]));obtain⟨⟨s,l,A⟩,U⟩:=i8;refine⟨⟨s,l,A.iff fun x' y' _=>?_⟩,U⟩;rw [f8,aln,alm];constructor
     ·rintro(h | ⟨h | rfl,F⟩)
      ·exact .inl (.inl h)
      ·exact .inl (.inr ⟨h,F⟩)
      ·exact .inr ⟨rfl,F⟩
     ·rintro((h | ⟨h,F⟩) | ⟨rfl,F⟩)
      ·exact .inl h
      ·exact .inr ⟨.inl h,F⟩
      ·exact .inr ⟨.inr rfl,F⟩
   ·rintro t ds J ⟨d,m,bs,rfl,L⟩ - -;rw [alw]at L;exact o6 _ J bs (by simp [sQ,d]) L
  suffices start:∀ t:T,FT t→WP tab 10 ab [.code BO] ⟨t,[],J0⟩ Q by exact start _ ⟨by simp,by simp,by simp,by simp,by simp,by simp,by simp,by simp,by simp⟩
  intro t d;have s7:=I9 a b;simp only [aU.row,alo,alH]at s7;apply au;apply ai;simp [d.g3,d.g4,(la J0 _ n8).1,(lb J0 _ n8).1,-ay,s7];refine az ?_
  suffices go:∀ u:T,FT u→u.g 46=.c (.f (.fn 66 [.fp a.row 0,.fp b.row 0]))→WP tab 10 ab [.code BP,.inBlock 0,.code wi] ⟨u,[],J0⟩ Q by exact go _ (by simp [sQ,d]) (by simp [aU.row])
  clear d t;intro u d t7;obtain⟨HR,c_⟩:=aN (J0++[.fg ae,.lp 10 u [P.nat 47] gk gl .ready ab 10]:an);have lR:HR.length=12:=by rw [c_,alj,l0];rfl
  have kR:∀ i:Nat,i<10→HR[i]?=J0[i]?:=fun i hi=>by rw [c_,AT (by omega)]
  have rd:HR[10]?=aa (.fg ae):=by rw [c_,alp (by omega),l0];rfl
  have rl:HR[11]?=aa (.lp 10 u [P.nat 47] gk gl .ready ab 10):=by rw [c_,alp (by omega),l0];rfl
  obtain⟨H2,he,ps,⟨s,l,A,e1,e2,e3⟩,u9,q_⟩:=I8 (bb:=11) (H:=HR) a b ha hb
   (fun ps J'=>∃ s,FQ a b B s J'∧fS B (fun x y=>∃ p ∈ ps,PM a b p x y) s∧J'[10]?=aa (.fg ae)∧J'[11]?=aa (.lp 10 u [P.nat 47] gk gl .ready ab 10)∧12≤J'.length)
   ⟨_,n8.bu kR,.inl ⟨rfl,rfl,rfl,fun x y ⟨p,hp,_⟩=>by simp at hp⟩,rd,rl,by omega⟩
   (fun ps E Y ⟨s,l,A,e1,e2,e3⟩ n6 hl=>⟨s,l.bu fun i hi=>n6 i (by omega),A,by rw [n6 10 (by omega)];exact e1,by rw [n6 11 (by omega)];exact e2,by omega⟩)
   (fun ps p E ⟨s,l,A,e1,e2,e3⟩ hl hp=>by
    obtain⟨e,f,r_,u5,r,Y,i9,rfl,j3,k1,k2,k3,k4⟩:=Bi a b ha hb f0 f1 d hp l e1 e2;refine⟨Y,i9,⟨_,j3,(abH ha hb f0 f1 hp r_ u5 A).iff fun x y _=>?_,k1,k2,by omega⟩,k3,fun i h1 W=>k4 i (by omega) W⟩;constructor
    ·rintro⟨q,u_,h⟩;rcases aln.1 u_ with F | F
     ·exact .inl ⟨q,F,h⟩
     ·rw [alm]at F;rw [F]at h;exact .inr h
    ·rintro(⟨q,F,h⟩ | h)
     ·exact⟨q,alT _ F,h⟩
     ·exact⟨p,by simp,h⟩)
  rw [c_]at he;have t_:Ev tab (.fn 66) [.c (.yl (J0.length+1)),.c (.f (.fp a.row 0)),.c (.f (.fp b.row 0))] (J0++[.fg ae,.lp 10 u [P.nat 47] gk gl .ready ab J0.length]) (.t []) H2:=by rw [l0];exact he
  refine fF (g:=66) (by rw [rm,t7];simp [bW]) t_ ?_;rw [l0];refine gq e2 (by decide) (ax ?_);refine o5 u _ [10] d ⟨⟨s,l.bu fun i hi=>by rw [sh (by omega)],A.iff fun x y hk=>afV ha hb u9 q_ x y hk⟩,⟨by simp,fun i hi=>?_⟩,fun i hi=>?_⟩
  ·rw [alm]at hi;rw [hi,sh (by omega)];exact e1
  ·rw [alm]at hi;rw [hi,alI];omega
 exact⟨s,A,h.eq⟩
theorem z6(a b c d:Int):bX tab 13 [.a [.f (fi a),.f (fi b)],.a [.f (fi c),.f (fi d)]]=Eq (vb (fK a b c d)):=Kf.eq (by
 refine dM rfl rfl fun H Q g=>?_;apply ai;simp;by_cases k:a<d
 ·apply ai;simp [k];refine aD (g _ _ ?_);simp [fK,k]
 ·apply ai;simp [k];refine aD (g _ _ ?_);simp [fK,k])
def dD(t:Int)(x y:aC):List FC:=fi t ::(x.row++y.row)
def dV(ps:List (aC × aC)):List (List FC):=ps.map fun p=>dD 0 p.1 p.2
@[simp] theorem acf (ps:List (aC × aC)):(dV ps).length=ps.length:=by simp [dV]
theorem lI(ps:List (aC × aC)):bO 7 (dV ps):=bO.map fun _=>rfl
theorem AR{ps:List (aC × aC)}{j:Nat}(b:j<ps.length):(dV ps)[j]?=aa (dD 0 ps[j].1 ps[j].2):=by simp [dV,b]
theorem wO(ps:List (aC × aC))(x y:aC):dV ps++[dD 0 x y]=dV (ps++[(x,y)]):=by simp [dV]
def sI(t:Int)(x y:aC)(T:Int)(X Y:aC):Bool:=if t=T then(if x=X then oX y Y else oX x X)else decide (t<T)
theorem zf(b:Int)(x y X Y:aC):sI (iT b x y) x y (iT b X Y) X Y=ae↔tS b x y X Y:=by
 unfold sI tS;by_cases d:iT b x y=iT b X Y
 ·rw [ba d];by_cases g:x=X
  ·rw [ba g,nv];subst g;constructor
   ·intro h;exact .inr ⟨d,.inr ⟨⟨rfl,rfl,rfl⟩,h⟩⟩
   ·rintro(h | ⟨-,h | ⟨-,h⟩⟩)
    ·omega
    ·exact absurd h aC.aeI
    ·exact h
  ·rw [aS g,nv];constructor
   ·intro h;exact .inr ⟨d,.inl h⟩
   ·rintro(h | ⟨-,h | ⟨⟨j,l,m⟩,-⟩⟩)
    ·omega
    ·exact h
    ·exfalso;apply g;cases x;cases X;simp only at j l m;subst j l m;rfl
 ·rw [aS d];simp only [decide_eq_true_eq];constructor
  ·exact .inl
  ·rintro(h | ⟨h,-⟩)
   ·exact h
   ·exact absurd h d
theorem AF(t T:Int)(x y X Y:aC):bX tab 39 [.a ((dD t x y).map .f),.a ((dD T X Y).map .f)]=Eq (vb (sI t x y T X Y)):=Kf.eq (by
 refine dM rfl rfl fun H Q g=>?_;have m:=wX x X;have q:=wX y Y;simp only [aC.row,alo,alH]at m q;apply ai;simp [dD,aC.row];apply au;apply ai;simp;by_cases b:t=T
 ·refine aW (by simp [b]) ?_;apply au;apply ai;simp;by_cases d:x=X
  ·refine aW (by simp [d]) ?_;apply ai;simp [q];refine aD (g _ _ ?_);simp [sI,b,d]
  ·have s:¬ ((x.day=X.day∧x.fr=X.fr∧x.to=X.to)):=fun⟨a1,j,l⟩=>d (by cases x;cases X;simp only at a1 j l;subst a1 j l;rfl);refine av (by simp;omega) ?_;apply ai;simp [m];refine aD (g _ _ ?_);simp [sI,b,d]
 ·refine av (by simp [b]) ?_;apply ai;simp;refine aD (g _ _ ?_);simp [sI,b])
theorem aaB(g g':Tg)(l m:List aC)(hl:l.length≤1000)(hm:m.length≤1000) :
  ∃ W ps,(∀ p:aC × aC,p ∈ ps↔p.1 ∈ l∧p.2 ∈ m∧fK p.1.fr p.1.to p.2.fr p.2.to=ae)∧ps.length≤1000000∧bX tab 12 [.c (.f (sl g (aG l))),.c (.f (sl g' (aG m)))]=Eq (.c (.f (sl W (dV ps)))):=by
 obtain⟨r,⟨W,ps,d,b,rfl⟩,h⟩:∃ r,(∃ W ps,(∀ p:aC × aC,p ∈ ps↔p.1 ∈ l∧p.2 ∈ m∧fK p.1.fr p.1.to p.2.fr p.2.to=ae)∧ps.length≤1000000∧r=.c (.f (sl W (dV ps))))∧bX tab 12 [.c (.f (sl g (aG l))),.c (.f (sl g' (aG m)))] r:=by
  refine eQ rfl rfl fun Q hQ=>?_;apply ai;simp;apply ai;simp;refine au (ai ?_);simp;refine iG l.length (fun i t J=>t.g 0=.c (.f (sl g (aG l)))∧t.g 1=.c (.f (sl g' (aG m)))∧∃ c ps,t.g 5=.c c∧LR J c 7 (dV ps)∧ps.length≤i*m.length∧∀ p:aC × aC,p ∈ ps↔p.1 ∈ l.take i∧p.2 ∈ m∧fK p.1.fr p.1.to p.2.fr p.2.to=ae) (by omega) (by decide) (by simp)
   ⟨by simp,by simp,.f .es,[],by simp,.inl ⟨rfl,.inr rfl⟩,by simp,by simp⟩ ?_ ?_ ?_
  ·rintro i t J L hi ⟨q,s,c,ps,A,B,F,z⟩ v M;simp [v,q];exact M _ ⟨by simp [q],by simp [s],c,ps,by simp [A],B,F,z⟩ (by simp [v]) (by simp)
  ·rintro i t J hi ⟨q,s,c,ps,A,B,F,z⟩ v nx;have Z:l.take (i+1)=l.take i++[l[i]]:=by rw [aly,By hi];rfl
   have N:=fun H:an=>bG (H:=H) (g:=g) (rows:=aG l) (sz:=3) (k:=.i64) (i:=(i:Int)) (by omega) (by simp;omega);have S:=fun H:an=>cR (H:=H) (bC l) (cW hi);obtain⟨x,hx⟩:=aN (l[i]);rw [←hx]at S Z;simp only [alJ]at N;have a7:i*m.length+m.length=(i+1)*m.length:=by rw [Nat.add_mul,Nat.one_mul]
   have Y:(i+1)*m.length≤1000*1000:=Nat.mul_le_mul (by omega) hm;refine az ?_;apply ai;simp;refine iG m.length (fun j t J=>t.g 0=.c (.f (sl g (aG l)))∧t.g 1=.c (.f (sl g' (aG m)))∧t.g 6=vi i∧∃ c ps,t.g 5=.c c∧LR J c 7 (dV ps)∧ps.length≤i*m.length+j∧∀ p:aC × aC,p ∈ ps↔(p.1 ∈ l.take i∧p.2 ∈ m∧fK p.1.fr p.1.to p.2.fr p.2.to=ae)∨(p.1=x∧p.2 ∈ m.take j∧fK p.1.fr p.1.to p.2.fr p.2.to=ae)) (by omega) (by decide) (by simp)
    ⟨by simp [q],by simp [s],by simp [v],c,ps,by simp [A],B,by omega,fun p=>by rw [z];simp⟩ ?_ ?_ ?_
   ·clear q s A B F z;rintro j t J L e ⟨q,s,I,c,ps,A,B,F,z⟩ v M;simp [v,s];exact M _ ⟨by simp [q],by simp [s],by simp [I],c,ps,by simp [A],B,F,z⟩ (by simp [v]) (by simp)
   ·clear q s A B F z v;rintro j t J e ⟨q,s,I,c,ps,A,B,F,z⟩ v a;have E:m.take (j+1)=m.take j++[m[j]]:=by rw [aly,By e];rfl
    have O:=fun H:an=>bG (H:=H) (g:=g') (rows:=aG m) (sz:=3) (k:=.i64) (i:=(j:Int)) (by omega) (by simp;omega);have U:=fun H:an=>cR (H:=H) (bC m) (cW e);obtain⟨y,hy⟩:=aN (m[j]);rw [←hy]at U E;simp only [alJ]at O;have w:=fun H:an=>wV (H:=H) (k:=1) (n:=2) (bC l) (cW hi) (by omega);have ly:=fun H:an=>wV (H:=H) (k:=1) (n:=2) (bC m) (cW e) (by omega);rw [←hx]at w;rw [←hy]at ly;simp [aC.row]at S U w ly;have o:=z6 x.fr x.to y.fr y.to;refine az ?_;apply ai;simp [q,s,I,v,N,O,w,ly,o,-ay];by_cases k:fK x.fr x.to y.fr y.to=ae
    ·refine av (by simp [k]) ?_;obtain⟨c3,H3,K,X,-,-⟩:=(B.push [.box ((dD 0 x y).map .f) 0]).app (lI ps) (by decide) (row:=dD 0 x y) rfl (bytes:=56) (dG (by simp;omega) (by decide)) (b1:=J.length) (fl1:=0) (by simp);rw [wO]at X;simp [dD,aC.row]at K;refine aq (.inl rfl) ?_;simp [q,s,A,I,v,N,O,S,U,K,-ay];refine ax (a _ _ ⟨by simp [q],by simp [s],by simp [I],c3,_,by simp,X,by simp;omega,fun p=>?_⟩ (by simp [v]));rw [aln,alm,z,E,aln,alm];constructor
     ·rintro((h | ⟨d,b,u⟩) | rfl)
      ·exact .inl h
      ·exact .inr ⟨d,.inl b,u⟩
      ·exact .inr ⟨rfl,.inr rfl,k⟩
     ·rintro(h | ⟨d,b | b,u⟩)
      ·exact .inl (.inl h)
      ·exact .inl (.inr ⟨d,b,u⟩)
      ·exact .inr (Prod.ext d b)
    ·refine aF (by simp at k;simp [k]) (aP ?_);refine ax (a _ _ ⟨by simp [q],by simp [s],by simp [I],c,ps,by simp [A],B,by omega,fun p=>?_⟩ (by simp [v]));rw [z,E,aln,alm];constructor
     ·rintro(h | ⟨d,b,u⟩)
      ·exact .inl h
      ·exact .inr ⟨d,.inl b,u⟩
     ·rintro(h | ⟨d,b | b,u⟩)
      ·exact .inl h
      ·exact .inr ⟨d,b,u⟩
      ·rw [d,b]at u;exact absurd u k
   ·clear q s A B F z v;rintro t J ⟨q,s,I,c,ps,A,B,F,z⟩ v;refine ax (nx _ _ ⟨by simp [q],by simp [s],c,ps,by simp [A],B,by omega,fun p=>?_⟩ (by simp [I]));rw [z,Z,aln,alm,alw];constructor
    ·rintro(⟨d,b,u⟩ | ⟨d,b,u⟩)
     ·exact⟨.inl d,b,u⟩
     ·exact⟨.inr d,b,u⟩
    ·rintro⟨d | d,b,u⟩
     ·exact .inl ⟨d,b,u⟩
     ·exact .inr ⟨d,b,u⟩
  ·rintro t J ⟨q,s,c,ps,A,B,F,z⟩ v;rw [alw]at z;have Y:l.length*m.length≤1000*1000:=Nat.mul_le_mul hl hm;obtain⟨cg,f⟩:=B.VW (lI ps);have e1:=f J 63 fun i y hi _=>hi;apply ai;simp [A];refine aD (hQ _ _ _ ⟨cg,ps,z,by omega,rfl⟩ ⟨rfl,.c c,?_,?_⟩)
   ·simp [Km.results,cm,aZ]
   ·simp [me,dE,deep,e1]
 exact⟨W,ps,d,b,h.eq⟩
theorem fS.upd{fr:Int}{S:aC→aC→Prop}{s:FS}(h:fS fr S s){x y:aC}(b:okB fr x y)(hu:s.found=ag∨sI (iT fr x y) x y s.ey s.X s.Y=ae):fS fr (fun d g=>S d g∨(d=x∧g=y)) ⟨iT fr x y,ae,x,y⟩:=by
 have j:fV fr s.ey s.found x y s.X s.Y=ae:=by
  unfold fV;simp only [decide_eq_true_eq];refine⟨b,?_⟩;rcases h with⟨h1,-⟩ | ⟨h1,h2,h3,h4,h5⟩
  ·exact .inl h1
  ·rcases hu with hu | hu
   ·exact .inl hu
   ·rw [h4]at hu ⊢;exact .inr ((wY fr x y s.X s.Y).2 ((zf fr x y s.X s.Y).1 hu))
 have:=h.one x y;simpa [eF,j]using this
theorem fS.not{fr:Int}{S:aC→aC→Prop}{s:FS}(h:fS fr S s){x y:aC}(b:¬ okB fr x y∨(s.found=ae∧sI (iT fr x y) x y s.ey s.X s.Y=ag)):fS fr (fun g j=>S g j∨(g=x∧j=y)) s:=by
 have l:fV fr s.ey s.found x y s.X s.Y=ag:=by
  unfold fV;simp only [decide_eq_false_iff_not];rintro⟨m,d⟩;rcases b with b | ⟨f,b⟩
  ·exact b m
  ·rcases h with⟨h1,-⟩ | ⟨h1,h2,h3,h4,h5⟩
   ·rw [h1]at f;cases f
   ·rcases d with d | d
    ·rw [h1]at d;cases d
    ·rw [h4]at b d;have:=(zf fr x y s.X s.Y).2 ((wY fr x y s.X s.Y).1 d);rw [b]at this;cases this
 have:=h.one x y;simpa [eF,l]using this
theorem ZV(g:Tg)(ps:List (aC × aC))(hl:ps.length≤1000000)(A:Int) :
  ∃ s:FS,fS A (fun x y=>(x,y) ∈ ps) s∧bX tab 11 [.c (.f (sl g (dV ps))),vi A]=Eq (.t [.a ((dD s.ey s.X s.Y).map .f),vb s.found]):=by
 obtain⟨r,⟨s,h1,rfl⟩,h⟩:∃ r,(∃ s:FS,fS A (fun x y=>(x,y) ∈ ps) s∧r=.t [.a ((dD s.ey s.X s.Y).map .f),vb s.found])∧bX tab 11 [.c (.f (sl g (dV ps))),vi A] r:=by
  refine eQ rfl rfl fun Q hQ=>?_;apply ai;simp;apply ai;simp;apply ai;simp;refine au (ai ?_);simp;refine iG ps.length (fun j t J=>t.g 0=.c (.f (sl g (dV ps)))∧t.g 1=vi A∧t.g 4=.c (.ptr 0 0 0)∧t.g 6=.c (.ptr 1 0 0)∧J[0]?=aa (.box [.f (fi 0),.f (fi 0),.f (fi 0),.f (fi 0),.f (fi 0),.f (fi 0),.f (fi 0)] 0) ∧
   ∃ s:FS,t.g 7=vb s.found∧J[1]?=aa (.box ((dD s.ey s.X s.Y).map .f) 0)∧fS A (fun x y=>(x,y) ∈ ps.take j) s) (by omega) (by decide) (by simp)
   ⟨by simp,by simp,by simp,by simp,rfl,⟨0,ag,⟨0,0,0⟩,⟨0,0,0⟩⟩,by simp,rfl,.inl ⟨rfl,rfl,rfl,by simp⟩⟩ ?_ ?_ ?_
  ·rintro j t J L hj ⟨q,B,u,m,j0,s,l,j1,hm⟩ F f7;simp [F,q];exact f7 _ ⟨by simp [q],by simp [B],by simp [u],by simp [m],j0,s,by simp [l],j1,hm⟩ (by simp [F]) (by simp)
  ·rintro j t J hj ⟨q,B,u,m,j0,s,l,j1,hm⟩ F nx;have c_:ps.take (j+1)=ps.take j++[ps[j]]:=by rw [aly,By hj];rfl
   have d9:=fun H:an=>bG (H:=H) (g:=g) (rows:=dV ps) (sz:=7) (k:=.i64) (i:=(j:Int)) (by omega) (by simp;omega);have a7:=fun H:an=>cR (H:=H) (lI ps) (AR hj);obtain⟨x,y,f8⟩:∃ x y,(x,y)=ps[j]:=⟨_,_,rfl⟩
   rw [←f8]at a7 c_;simp only [alJ]at d9;simp [dD,aC.row]at a7;have U:∀ W X,(W,X) ∈ ps.take (j+1)↔(W,X) ∈ ps.take j∨(W=x∧X=y):=fun W X=>by
    rw [c_,aln,alm,OF]
   have b_:max (max x.fr y.fr) A=iT A x y:=rfl;have l0:=aj j0;have l1:=aj j1;obtain⟨b,hb⟩:=aN (J.length);obtain⟨J1,Z⟩:=aN (J++[.box [.f (fi 0),.f (fi x.day),.f (fi x.fr),.f (fi x.to),.f (fi y.day),.f (fi y.fr),.f (fi y.to)] 0]:an);obtain⟨d,O⟩:=aN (iT A x y);obtain⟨z,N⟩:=aN (J++[.box [.f (fi d),.f (fi x.day),.f (fi x.fr),.f (fi x.to),.f (fi y.day),.f (fi y.fr),.f (fi y.to)] 0]:an);have b1:J1[b]?=aa (.box [.f (fi 0),.f (fi x.day),.f (fi x.fr),.f (fi x.to),.f (fi y.day),.f (fi y.fr),.f (fi y.to)] 0):=by rw [Z,hb];simp
   have b2:z[b]?=aa (.box [.f (fi d),.f (fi x.day),.f (fi x.fr),.f (fi x.to),.f (fi y.day),.f (fi y.fr),.f (fi y.to)] 0):=by rw [N,hb];simp
   have f_:dt J1 (.ptr b 0 0) [.f (fi d)]=aa z:=by
    simp only [dt,b1];rw [Z,N,hb];simp [over]
   have q0:z[0]?=aa (.box [.f (fi 0),.f (fi 0),.f (fi 0),.f (fi 0),.f (fi 0),.f (fi 0),.f (fi 0)] 0):=by rw [N,AT l0];exact j0
   have q1:z[1]?=aa (.box ((dD s.ey s.X s.Y).map .f) 0):=by rw [N,AT l1];exact j1
   rw [←O]at b_;have l2:b<z.length:=aj b2;have m1:aX J1 ab (.c (.ptr b 2 0))=aa (vi x.fr)∧aX J1 ab (.c (.ptr b 5 0))=aa (vi y.fr):=by refine⟨?_,?_⟩<;>simp [aX,aH,b1]
   have m2:aX z ab (.c (.ptr b 0 0))=aa (vi d)∧aX z ab (.c (.ptr b 3 0))=aa (vi x.to)∧aX z ab (.c (.ptr b 6 0))=aa (vi y.to)∧aX z (aa 7) (.c (.ptr b 0 0))=aa (.a [.f (fi d),.f (fi x.day),.f (fi x.fr),.f (fi x.to),.f (fi y.day),.f (fi y.fr),.f (fi y.to)]):=by refine⟨?_,?_,?_,?_⟩<;>simp [aX,aH,b2,aY]
   obtain⟨I,K,M,d_⟩:=m2;have m3:aX z (aa 7) (.c (.ptr 1 0 0))=aa (.a [.f (fi s.ey),.f (fi s.X.day),.f (fi s.X.fr),.f (fi s.X.to),.f (fi s.Y.day),.f (fi s.Y.fr),.f (fi s.Y.to)]):=by simp [aX,aH,q1,aY,dD,aC.row]
   have a_:=AF d s.ey x y s.X s.Y;simp [dD,aC.row]at a_;refine az ?_;apply ai;simp [q,F,d9,a7,-ay];rw [←Z,←hb];apply ai;simp [B,m1.1,m1.2,-ay,qq,b_,f_,-bw];have no:∀ t:T,t.g 0=.c (.f (sl g (dV ps)))→t.g 1=vi A→t.g 4=.c (.ptr 0 0 0)→t.g 6=.c (.ptr 1 0 0)→t.g 7=vb s.found→t.g 8=vi j→(¬ okB A x y∨(s.found=ae∧sI d x y s.ey s.X s.Y=ag)) →
     WP tab 11 ab [.inBlock 1,.code (oP 8 15 16),.inLoop pS,.inBlock 0,.code pT] ⟨t,[],z⟩ Q:=by
    intro t q B u m l g8 c9;refine ax (nx _ _ ⟨by simp [q],by simp [B],by simp [u],by simp [m],q0,s,by simp [l],q1,?_⟩ (by simp [g8]));rw [O]at c9;exact(hm.not c9).iff fun W X _=>U W X
   have e_:∀ t:T,t.g 0=.c (.f (sl g (dV ps)))→t.g 1=vi A→t.g 4=.c (.ptr 0 0 0)→t.g 6=.c (.ptr 1 0 0)→t.g 8=vi j→t.g 9=.c (.ptr b 0 0)→okB A x y→(s.found=ag∨sI d x y s.ey s.X s.Y=ae) →
     WP tab 11 ab [.code uM,.inBlock 1,.code (oP 8 15 16),.inLoop pS,.inBlock 0,.code pT] ⟨t,[],z⟩ Q:=by
    intro t q B u m g8 g9 v hu;obtain⟨J3,E⟩:=aN (z.set 1 (.box ((dD d x y).map .f) 0):an);have a8:dt z (.ptr 1 0 0) [.f (fi d),.f (fi x.day),.f (fi x.fr),.f (fi x.to),.f (fi y.day),.f (fi y.fr),.f (fi y.to)]=aa J3:=by
     simp only [dt,q1];rw [E];simp [over,dD,aC.row]
    apply ai;simp [m,g9,d_,a8,-ay,-bw];refine aq (.inl rfl) ?_;simp;refine ax (nx _ _ ⟨by simp [q],by simp [B],by simp [u],by simp [m],by rw [E,sh (by decide)];exact q0,⟨d,ae,x,y⟩,by simp,by rw [E];exact BY (aj q1),?_⟩ (by simp [g8]));rw [O]at hu ⊢;exact(hm.upd v hu).iff fun W X _=>U W X
   have v:okB A x y↔(x.to≤2251799813685248∧y.to≤2251799813685248∧d<min x.to y.to):=by rw [O];rfl
   apply ai;by_cases S:x.to≤2251799813685248
   ·by_cases Y:y.to≤2251799813685248
    ·by_cases c3:d<min x.to y.to
     ·cases hf:s.found with
      | false=>
       rw [hf]at l;simp [l,I,K,M,S,Y,c3,-ay];refine av (by simp) ?_;exact e_ _ (by simp [q]) (by simp [B]) (by simp [u]) (by simp [m]) (by simp [F]) (by simp) (v.2 ⟨S,Y,c3⟩) (.inl hf)
      | true=>
       rw [hf]at l no;simp [m,l,I,K,M,d_,m3,S,Y,c3,a_,-ay];cases he:sI d x y s.ey s.X s.Y with
       | true=>
        refine av (by simp) ?_;exact e_ _ (by simp [q]) (by simp [B]) (by simp [u]) (by simp [m]) (by simp [F]) (by simp) (v.2 ⟨S,Y,c3⟩) (.inr he)
       | false=>
        refine aW (by simp) ?_;exact no _ (by simp [q]) (by simp [B]) (by simp [u]) (by simp [m]) (by simp [l]) (by simp [F]) (.inr ⟨rfl,he⟩)
     ·simp [l,I,K,M,S,Y,c3,-ay];refine aW (by simp) ?_;exact no _ (by simp [q]) (by simp [B]) (by simp [u]) (by simp [m]) (by simp [l]) (by simp [F]) (.inl fun h=>c3 (v.1 h).2.2)
    ·simp [l,I,K,M,S,Y,-ay];refine aW (by simp) ?_;exact no _ (by simp [q]) (by simp [B]) (by simp [u]) (by simp [m]) (by simp [l]) (by simp [F]) (.inl fun h=>Y (v.1 h).2.1)
   ·simp [l,I,K,M,S,-ay];refine aW (by simp) ?_;exact no _ (by simp [q]) (by simp [B]) (by simp [u]) (by simp [m]) (by simp [l]) (by simp [F]) (.inl fun h=>S (v.1 h).1)
  ·rintro t J ⟨q,B,u,m,j0,s,l,j1,hm⟩ F;rw [alw]at hm;have m3:aX J (aa 7) (.c (.ptr 1 0 0))=aa (.a [.f (fi s.ey),.f (fi s.X.day),.f (fi s.X.fr),.f (fi s.X.to),.f (fi s.Y.day),.f (fi s.Y.fr),.f (fi s.Y.to)]):=by simp [aX,aH,j1,aY,dD,aC.row]
   obtain⟨J3,E⟩:=aN (J.set 0 (.box ((dD s.ey s.X s.Y).map .f) 0):an);have a8:dt J (.ptr 0 0 0) [.f (fi s.ey),.f (fi s.X.day),.f (fi s.X.fr),.f (fi s.X.to),.f (fi s.Y.day),.f (fi s.Y.fr),.f (fi s.Y.to)]=aa J3:=by
    simp only [dt,j0];rw [E];simp [over,dD,aC.row]
   have e0:J3[0]?=aa (.box ((dD s.ey s.X s.Y).map .f) 0):=by rw [E];exact BY (aj j0)
   apply ai;simp [u,m,l,m3,a8,-ay,-bw];refine aD (hQ _ _ _ ⟨s,hm,rfl⟩ ⟨rfl,.t [.a ((dD s.ey s.X s.Y).map .f),vb s.found],?_,?_⟩)
   ·simp [Km.results,cm,aZ,u,aX,aH,e0,aY,dD,aC.row]
   ·simp [me,dE,aZ,deep,eA,dD,aC.row]
 exact⟨s,h1,h.eq⟩
theorem Tw.f{s:aU}(h:Tw s):jQ s:=⟨h.ok,fun c hc=>by
 obtain⟨tg,ts,⟨h1,h2⟩,e⟩:=h.few c hc;have h3:=Ca fun fs b=>(h1.2 fs b).1;rw [e];refine⟨by show(ts.map _).length≤2;rw [alq];omega,fun t j=>?_⟩;obtain⟨fs,b,rfl⟩:=alC.1 (show t ∈ ts.map (fun fs=>(⟨.fs,fs⟩:cE)) from j);obtain⟨m,q,g⟩:=h1.2 fs b;have:=yZ b;exact⟨m,show fs.length≤2 by omega,fun p d=>⟨(g p d).1,by have:=(g p d).2.1;omega,(g p d).2.2⟩⟩,fun x l=>by have:=h.ex x l;omega⟩
theorem zB{s:aU}(y:kz s){j q:Int}(x:aC):Aq s j q x↔iv s x∧j<x.to∧x.fr<q:=by
 unfold Aq iv uV Tq;have B:=y.len;constructor
 ·rintro(⟨c,m,d,⟨l,b⟩,rfl⟩ | ⟨h,b⟩)
  ·have g:n0I s.len c.min j≤d:=by obtain⟨_,_,h,_⟩:=l;exact h
   unfold n0I at g l;refine⟨.inl ⟨c,m,d,(ph (by omega) g).2 l,rfl⟩,?_,b⟩;show j<d*1440+c.min+s.len;omega
  ·simp [fK]at b;exact⟨.inr h,b.2,b.1⟩
 ·rintro⟨⟨c,m,d,g,rfl⟩ | h,b,u⟩
  ·have z:j<d*1440+c.min+s.len:=b;have v:d*1440+c.min<q:=u;have A:0≤d:=by obtain⟨_,_,h,_⟩:=g;exact h
   refine .inl ⟨c,m,d,⟨?_,v⟩,rfl⟩;unfold n0I;exact(ph (by omega) (by omega)).1 g
  ·refine .inr ⟨h,?_⟩;simp [fK,b,u]
theorem Jg{a b:aU}(ha:kz a)(hb:kz b){d j:Int}(a7:d<j){L M:List aC}(t:∀ x,x ∈ L↔Aq a d j x)(w:∀ x,x ∈ M↔Aq b d j x){ps:List (aC × aC)}
  (H:∀ p:aC × aC,p ∈ ps↔p.1 ∈ L∧p.2 ∈ M∧fK p.1.fr p.1.to p.2.fr p.2.to=ae) {s u:FS} (U:fS d (fun x y=>iv a x∧iv b y) s) (W:fS d (fun x y=>(x,y) ∈ ps) u) :
  (u.found=ae→u.ey<j→s.found=ae∧s.X=u.X∧s.Y=u.Y)∧(¬ (u.found=ae∧u.ey<j)→s.found=ae→j≤max s.X.fr s.Y.fr∧fK s.X.fr s.X.to s.Y.fr s.Y.to=ae):=by
 have q:∀ z,z ∈ L↔iv a z∧d<z.to∧z.fr<j:=fun z=>(t z).trans (zB ha z);have v:∀ z,z ∈ M↔iv b z∧d<z.to∧z.fr<j:=fun z=>(w z).trans (zB hb z);have S:∀ x y,(x,y) ∈ ps↔x ∈ L∧y ∈ M∧fK x.fr x.to y.fr y.to=ae:=fun x y=>H (x,y);have l:∀ x y,okB d x y→fK x.fr x.to y.fr y.to=ae:=fun x y ⟨_,_,h⟩=>by
  unfold iT at h;simp [fK];omega
 have A:∀ x y,iv a x→iv b y→okB d x y→iT d x y<j→(x,y) ∈ ps:=fun x y n o O r=>by
  have hc:=l x y O;obtain⟨_,_,h⟩:=O;unfold iT at h r;exact(S x y).2 ⟨(q x).2 ⟨n,by omega,by omega⟩,(v y).2 ⟨o,by omega,by omega⟩,hc⟩
 constructor
 ·intro E a8;rcases W with⟨h,-⟩ | ⟨-,Z,K,c,N⟩
  ·rw [E]at h;cases h
  ·obtain⟨v1,v2,-⟩:=(S _ _).1 Z;have e:=((q _).1 v1).1;have i:=((v _).1 v2).1;rcases U with⟨-,-,-,h⟩ | ⟨f,B,m,s3,Y⟩
   ·exact absurd K (h _ _ ⟨e,i⟩)
   ·have X:=Y _ _ ⟨e,i⟩ K;have le:iT d s.X s.Y≤iT d u.X u.Y:=by unfold tS at X;omega
    have J:=N _ _ (A _ _ B.1 B.2 m (by omega)) m;exact⟨f,Cx J X⟩
 ·intro F E;rcases U with⟨h,-⟩ | ⟨f,B,m,s3,Y⟩
  ·rw [E]at h;cases h
  ·refine⟨?_,l _ _ m⟩;rcases amz (max s.X.fr s.Y.fr) j with k | k
   ·exfalso;apply F;rcases amz (iT d s.X s.Y) j with I | I
    ·have Q:=A _ _ B.1 B.2 m I;rcases W with⟨-,-,-,h⟩ | ⟨g,Z,K,c,N⟩
     ·exact absurd m (h _ _ Q)
     ·have J:=N _ _ Q m;refine⟨g,?_⟩;rw [c];unfold tS at J;omega
    ·exfalso;unfold iT at I;omega
   ·exact k
theorem Um(af9:bX tab 7 [] (vb ae))(x y:oA)(hx:x.OK)(hy:y.OK)(n:Nat)(hn:n<65536) :
  bX tab 3 [.a (x.row.map .f),.a (y.row.map .f),.c (.f (.int .u16 (n:Int)))] (vb ae):=by
 have A:=af9.eq;obtain⟨a,S,H⟩:=vE x hx;obtain⟨b,U,I⟩:=vE y hy;obtain⟨v,W⟩:=aN ((n:Int) % 4000*360-5000:Int);have J:bP .rem (vi n) (vi 4000)=aa (vi ((n:Int) % 4000)):=eR (by omega) (by decide);have w0:IntKind.i64.wrap (n:Int)=n:=aO;have w1:=aO (n:=(n:Int) % 4000*360);have w2:IntKind.i64.wrap ((n:Int) % 4000*360-5000)=v:=by rw [W];exact aO
 have w3:=aO (n:=v+57600);obtain⟨gL,L,⟨-,N⟩,a7,g⟩:=Cu a S.ok v (v+57600) (by omega) (by omega) (by omega) (by omega);obtain⟨gM,M,⟨-,O⟩,a8,j⟩:=Cu b U.ok v (v+57600) (by omega) (by omega) (by omega) (by omega);obtain⟨s,hs,d⟩:=I6 a b S.f U.f v (by omega) (by omega);obtain⟨gP,ps,Y,X,q⟩:=aaB gL gM L M (by omega) (by omega);obtain⟨u,K,l⟩:=ZV gP ps X v;obtain⟨p1,p2⟩:=Jg S.ok U.ok (by omega) N O Y hs K;have m:=z6 s.X.fr s.X.to s.Y.fr s.Y.to;simp only [oA.row,aU.row,aC.row,dD,alo,alH,List.cons_append,List.nil_append]at H I g j d q l ⊢;refine cz rfl rfl fun Q F=>?_;apply ai;simp;apply ai;simp [A];apply ai;simp [H];apply ai;simp [I];apply ai;simp [w0,J,w1,w2];apply ai;simp [w3];apply ai;simp [g];apply ai;simp [j];apply ai;simp [d];refine au (ai ?_);simp;refine aW (by simp) ?_;apply ai;simp [q,l];refine au (ai ?_);by_cases c:u.found=ae∧u.ey<v+57600
 ·obtain⟨f,B,E⟩:=p1 c.1 c.2;simp [c.1,c.2];refine av (by simp) ?_;apply ai;simp [f,B,E];refine aD (F _ _ ?_);simp
 ·have e:=p2 c;cases K:u.found with
  | false=>
   simp [K];refine aW (by simp) ?_;apply ai;cases z:s.found with
   | false=>
    simp [z];refine aD (F _ _ ?_);simp
   | true=>
    obtain⟨B,E⟩:=e z;simp [z,m,E,B];refine aD (F _ _ ?_);simp
  | true=>
   have Z:¬ u.ey<v+57600:=fun h=>c ⟨K,h⟩;simp [K,Z];refine aW (by simp) ?_;apply ai;cases z:s.found with
   | false=>
    simp [z];refine aD (F _ _ ?_);simp
   | true=>
    obtain⟨B,E⟩:=e z;simp [z,m,E,B];refine aD (F _ _ ?_);simp
theorem B8{x:List FC}(h:∃ m,x=[FC.int .u8 m]∧Lit.wf (.int .u8 m)):∃ m:Nat,x=[u8 m]∧m<256:=by
 obtain⟨m,rfl,b⟩:=h;simp [Lit.wf,IntKind.min,IntKind.max,IntKind.signed,IntKind.bits]at b;refine⟨m.toNat,?_,by omega⟩;have:((m.toNat:Nat):Int)=m:=Int.toNat_of_nonneg b.1;simp [this]
theorem C7{x:List FC}(h:∃ m,x=[FC.int .u16 m]∧Lit.wf (.int .u16 m)):∃ m:Nat,x=[FC.int .u16 (m:Int)]∧m<65536:=by
 obtain⟨m,rfl,b⟩:=h;simp [Lit.wf,IntKind.min,IntKind.max,IntKind.signed,IntKind.bits]at b;refine⟨m.toNat,?_,by omega⟩;have:((m.toNat:Nat):Int)=m:=Int.toNat_of_nonneg b.1;simp [this]
theorem A0{n:Nat}(h:n≤maxLen):n≤9223372036854775807:=Nat.le_trans h (by decide)
theorem yQ{n:Nat}{ys:List FC}(h:qg Tryz.prog (n+2) 23 ys):∃ g l,ys=[sl g (dK l)]∧l.length≤9223372036854775807∧∀ m ∈ l,m<256:=by
 obtain⟨g,rows,rfl,_,d,j⟩:=qz Tryz.underlying23 h;obtain⟨l,rfl,q⟩:=rI (enc:=fun n:Nat=>[u8 n]) (p:=fun n=>n<256) fun r b=>B8 (rK Tryz.underlying5 (j r b));exact⟨g,l,rfl,A0 (by simpa using d),q⟩
theorem Vm{n:Nat}{ys:List FC}(h:qg Tryz.prog (n+6) 26 ys):∃ x:oA,ys=x.row∧x.OK:=by
 obtain⟨_,S,rfl,d,F⟩:=pH (Bu (ts:=[22,23,5,24]) Tryz.underlying26 rfl h);obtain⟨q,rows,rfl,_,s,E⟩:=qz Tryz.underlying22 d;obtain⟨u,rfl,A⟩:=rI (enc:=fun b:V0=>[sl b.1 (dK b.2)]) (p:=adl) fun r j=>by
  obtain⟨g,l,rfl,a,b⟩:=yQ (E r j);exact⟨(g,l),rfl,a,b⟩
 obtain⟨_,U,rfl,d,H⟩:=pH F;obtain⟨M,N,rfl,ml,L⟩:=yQ d;obtain⟨_,W,rfl,d,I⟩:=pH H;obtain⟨le,rfl,K⟩:=B8 (rK Tryz.underlying5 d);obtain⟨_,O,rfl,d,J⟩:=pH I;obtain⟨v,Q,rfl,_,y,m⟩:=qz Tryz.underlying24 d;obtain⟨z,rfl,B⟩:=rI (enc:=fun n:Nat=>[FC.int .u16 (n:Int)]) (p:=fun n=>n<65536) fun r j=>C7 (rK Tryz.underlying27 (m r j));obtain rfl:O=[]:=J;exact⟨⟨q,u,M,N,le,v,z⟩,rfl,A0 (by simpa using s),A,ml,L,K,A0 (by simpa using y),B⟩
theorem CS{a:V}(h:rL Tryz.prog 26 a):∃ x:oA,a=.a (x.row.map .f)∧x.OK:=by
 rcases h with⟨xs,rfl,b,_⟩ | ⟨x,rfl,b⟩
 ·obtain⟨x,rfl,d⟩:=Vm (n:=34) b;exact⟨x,rfl,d⟩
 ·exfalso;obtain⟨x,e,_⟩:=Vm (n:=34) b;simp [oA.row]at e
theorem ab4{a:V}(h:rL Tryz.prog 27 a):∃ n:Nat,a=.c (.f (.int .u16 (n:Int)))∧n<65536:=by
 rcases h with⟨xs,_,_,d,g,b⟩ | ⟨z,rfl,j⟩
 ·rw [Tryz.underlying27]at g;cases g;rcases b with⟨_,e⟩ | ⟨_,_,e⟩<;>cases e
 ·obtain⟨m,e,l⟩:=C7 (rK Tryz.underlying27 j);cases e;exact⟨m,rfl,l⟩
theorem AO(b:List V)(h:ry Tryz.prog [26,26,27] b):bX tab 3 b (vb ae):=by
 obtain⟨s,_,rfl,d,a1,_,rfl,g,u,_,rfl,j,rfl⟩:=h;obtain⟨x,rfl,m⟩:=CS d;obtain⟨y,rfl,q⟩:=CS g;obtain⟨n,rfl,l⟩:=ab4 j;exact Um af9 x y m q n l
end Go.Proofs.YthkmdpgdicohdaaGreat
