/-
  abI the na jS and the mB answer, for all arguments of their kind, in the small machine: part 2.
-/
import Derived.Test.YthkmdpgdicohdaaGreatS1
import Derived.Test.YthkmdpgdicohdaaGreatK4
import Derived.KernelRfl
import Derived.Test.YthkmdpgdicohdaaGreatK3
open Option renaming some → aa,none → ab
open Bool renaming true → ae,false → ag
open List renaming mem_append → aja, mem_singleton → ai9, pairwise_append → akd, pairwise_singleton → aj9, pairwise_cons → akI, mem_cons_self → ajc, mem_cons_of_mem → ajb, getElem?_append_left → AT, getElem?_set_self → If, getElem?_set_ne → sh, getElem_mem → IT, map_cons → ajd, map_nil → ajt, length_nil → akC, map_take → akQ, map_drop → ak0, mem_of_mem_take → aj2, mem_of_mem_drop → ajJ, length_drop → ajm, length_take → ajF, pairwise_iff_getElem → ajQ, mem_take_iff_getElem → ajY, getElem_of_mem → ajn, length_pos_iff → ajE, mem_map → ajj, append_assoc → ajI, length_eq_zero_iff → ajW, take_add_one → aju, getElem?_eq_getElem → By, take_length → ajr, getElem?_append_right → aje, getElem_drop → akB, length_append → ai7, append_nil → ajP, all_eq_true → aji, length_set → ajp, length_filter_le → akO, filter_append → alu, mem_append_left → ajM
open Int renaming le_refl → aky, tmod_eq_emod_of_nonneg → akt, lt_or_le → akq, mul_comm → aj1, emod_eq_of_lt → akj, ediv_nonneg → ake, emod_add_mul_ediv → ajS, dvd_refl → akw, ediv_le_self → akm, toNat_natCast → ajA, mul_le_mul_of_nonneg_left → ajq, mul_neg → ald, mul_one → alm, emod_nonneg → ajV, emod_lt_of_pos → ajT, le_of_dvd → aj7, emod_emod_of_dvd → akl, gcd → ajU, gcd_pos_of_ne_zero_left → akg, mul_nonneg → akf, mul_le_mul → ako, le_trans → akk, eq_ofNat_of_zero_le → akz, natAbs_dvd_natAbs → aln, dvd_of_emod_eq_zero → akr
open Bool renaming true_and → aj6, and_eq_true → BY
open Nat renaming add_mul → ajy, lt_or_ge → ajz, eq_zero_or_pos → aks, mul_comm → ak5, le_refl → ai8, mul_one → akL, gcd → akb, le_trans → ajw
open List.Pairwise renaming imp → alw
open Option renaming map_some → ajK
set_option linter.unusedVariables false
set_option linter.constructorNameAsVariable false
set_option linter.unusedSimpArgs false
set_option linter.unusedSectionVars false
set_option linter.unnecessarySimpa false
set_option maxRecDepth 100000
namespace Go.Proofs.YthkmdpgdicohdaaGreat
open Go Km
structure og where
 dg:Tg
 ds:List TH
 mg:Tg
 ms:List Nat
 len:Nat
 eg:Tg
 ex:List Nat
def og.row(x:og):List FC:=[sl x.dg (du x.ds),sl x.mg (dA x.ms),u8 x.len,sl x.eg (im x.ex)]
structure og.OK(x:og):Prop where
 dl:x.ds.length≤9223372036854775807
 d:∀ b ∈ x.ds,aa' b
 ml:x.ms.length≤9223372036854775807
 m:∀ n ∈ x.ms,n<256
 l:x.len<256
 el:x.ex.length≤9223372036854775807
 e:∀ n ∈ x.ex,n<65536
def BA(g:Tg)(ts:List (List aE))(d:Int):cm:=⟨g,ts.map fun b=>⟨.fs,b⟩,d⟩
structure qK(cs:List cm)(j:Nat)(mi:Int):Prop where
 n:cs.length≤j
 lo:-1500≤mi
 ok:∀ c ∈ cs,(∃ tg ts,(lS ts∧nA ts≤2)∧c=BA tg ts c.min)∧-1500<c.min∧c.min≤4320∧c.min≤mi
 up:cs.Pairwise fun a b=>a.min<b.min
theorem qK.skip{cs:List cm}{j:Nat}{mi b:Int}(h:qK cs j mi)(d:mi≤b):qK cs (j+1) b:=
 ⟨by have:=h.n;omega,by have:=h.lo;omega,fun c hc=>by have:=h.ok c hc;exact⟨this.1,this.2.1,this.2.2.1,by omega⟩,h.up⟩
theorem qK.more{cs:List cm}{j:Nat}{mi d:Int}(h:qK cs j mi)(m:mi<d)(h2:d≤4320){tg:Tg}{ts:List (List aE)}(l:lS ts∧nA ts≤2):qK (cs++[BA tg ts d]) (j+1) d:=by
 refine⟨by have:=h.n;simp;omega,by have:=h.lo;omega,fun c hc=>?_,?_⟩
 ·rcases aja.1 hc with hc | hc
  ·have:=h.ok c hc;exact⟨this.1,this.2.1,this.2.2.1,by omega⟩
  ·rw [ai9.1 hc];have:=h.lo;exact⟨⟨tg,ts,l,rfl⟩,by show -1500<d;omega,h2,aky _⟩
 ·rw [akd];refine⟨h.up,aj9 _ _,fun a g b hb=>?_⟩;rw [ai9.1 hb];have:=(h.ok a g).2.2.2;show a.min<d;omega
theorem qK.XI{cs:List cm}{j:Nat}{mi:Int}(h:qK cs j mi):dB ab cs=ae∧∀ c ∈ cs,Bp c.ts:=by
 have g:∀ c ∈ cs,Bp c.ts:=fun c hc=>by
  obtain⟨⟨tg,ts,v,e⟩,-⟩:=h.ok c hc;rw [e];exact v.1.ok
 refine⟨?_,g⟩;have key:∀(l:List cm) (o:Option Int),l.Pairwise (fun a b=>a.min<b.min)→(∀ c ∈ l,ij c.ts=ae∧-4320≤c.min∧c.min≤4320)→(∀ m,o=aa m→∀ c ∈ l,m<c.min)→dB o l=ae:=by
  intro l;induction l with
  | nil=>intros;rfl
  | cons c l y=>
   intro o q hc ho;rw [akI]at q;obtain⟨h1,h2,h3⟩:=hc c ajc;have u:(o.all fun m=>decide (m<c.min))=ae:=by
    cases o with
    | none=>rfl| some m=>simpa using ho m rfl c ajc
   have x:cW c.min (-4320) 4320=ae:=by simp [cW,h2,h3]
   simp only [dB,h1,x,u,aj6];exact y _ q.2 (fun c d=>hc c (ajb _ d)) fun m g s d=>by cases g;exact q.1 s d
 exact key cs ab h.up (fun c hc=>⟨(g c hc).v,by have:=h.ok c hc;omega,by have:=h.ok c hc;omega⟩) (by simp)
structure ExP(xs:List aN)(j:Nat):Prop where
 n:xs.length≤j
 up:xs.Pairwise aN.lt
 ok:∀ x ∈ xs,0≤x.day∧x.day≤7∧-2880≤x.fr∧x.fr≤90000∧x.fr<x.to∧x.to≤x.fr+2000
theorem ExP.extra{xs:List aN}{j:Nat}(h:ExP xs j):fY ab xs=ae:=by
 have key:∀(l:List aN) (o:Option aN),l.Pairwise aN.lt→(∀ x ∈ l,0≤x.day∧x.day≤7∧-2880≤x.fr∧x.fr≤90000∧x.fr<x.to∧x.to≤x.fr+2000)→(∀ m,o=aa m→∀ x ∈ l,m.lt x)→fY o l=ae:=by
  intro l;induction l with
  | nil=>intros;rfl
  | cons c l v=>
   intro o d hc ho;rw [akI]at d;obtain⟨h1,h2,h3,h4,h5,h6⟩:=hc c ajc;have s:(o.all fun m=>decide (fJ m c<0))=ae:=by
    cases o with
    | none=>rfl
    | some m=>
     have:=(sL _ _).2 (ho m rfl c ajc);simp [this]
   have u:mf c=ae:=by simp [mf,cW];omega
   simp only [fY,u,s,aj6];exact v _ d.2 (fun c b=>hc c (ajb _ b)) fun m q g b=>by cases q;exact d.1 g b
 exact key xs ab h.up h.ok (by simp)
structure zM(s:aQ):Prop where
 ok:oh s
 few:∀ c ∈ s.cs,∃ tg ts,(lS ts∧nA ts≤2)∧c=BA tg ts c.min
 lo:∀ c ∈ s.cs,-1500<c.min∧c.min≤4320
 ex:∀ x ∈ s.xs,0≤x.day∧x.day≤7∧-2880≤x.fr∧x.fr≤90000∧x.fr<x.to∧x.to≤x.fr+2000
theorem A4{g u:Tg}{cs:List cm}{s len:Int}{xs:List aN}(b:qK cs 3 s)(d:ExP xs 4)(v:1≤len)(x:len≤10080):oh ⟨g,cs,len,u,xs⟩:=by
 have j:=b.n;have l:=d.n;obtain⟨m,q⟩:=b.XI;refine⟨?_,j,q,l⟩;unfold gl;simp only [m,d.extra];simp [cW];omega
theorem IB{g q:Tg}{cs:List cm}{m len:Int}{xs:List aN}(b:qK cs 3 m)(d:ExP xs 4)(j:1≤len)(l:len≤10080):zM ⟨g,cs,len,q,xs⟩:=
 ⟨A4 b d j l,fun c h=>(b.ok c h).1,fun c h=>⟨(b.ok c h).2.1,(b.ok c h).2.2.1⟩,d.ok⟩
theorem eight(i:Nat)(h:i<8):∃(len:Int) (rest:List C),[C.f (fi 30),C.f (fi 60),C.f (fi 90),C.f (fi 600),C.f (fi 1440),C.f (fi 1500),C.f (fi 3000),C.f (fi 10080)].drop i=C.f (fi len)::rest∧1≤len∧len≤10080:=by
 match i,h with
 | 0,_=>exact⟨_,_,rfl,by omega,by omega⟩
 | 1,_=>exact⟨_,_,rfl,by omega,by omega⟩
 | 2,_=>exact⟨_,_,rfl,by omega,by omega⟩
 | 3,_=>exact⟨_,_,rfl,by omega,by omega⟩
 | 4,_=>exact⟨_,_,rfl,by omega,by omega⟩
 | 5,_=>exact⟨_,_,rfl,by omega,by omega⟩
 | 6,_=>exact⟨_,_,rfl,by omega,by omega⟩
 | 7,_=>exact⟨_,_,rfl,by omega,by omega⟩
structure SM(x:og)(len:Int)(J:an)(cc:C)(cs:List cm)(xc:FC):Prop where
 raw:J[0]?=aa (.box [.f (sl x.dg (du x.ds)),.f (sl x.mg (dA x.ms)),.f (u8 x.len),.f (sl x.eg (im x.ex))] 0)
 res:J[1]?=aa (.box [.f .aA,.f (fi 0),.f .aA] 0)
 st:J[3]?=aa (.box [cc,.f (fi len),.f xc] 0)
 lr:LR J cc 2 (aX cs)
theorem SM.push{x:og}{len:Int}{J:an}{cc:C}{cs:List cm}{xc:FC}(h:SM x len J cc cs xc)(L:an):SM x len (J++L) cc cs xc:=
 ⟨by rw [AT (aj h.raw)];exact h.raw,by rw [AT (aj h.res)];exact h.res,by rw [AT (aj h.st)];exact h.st,h.lr.push L⟩
section
variable{x:og}{len:Int}{J:an}{cc:C}{cs:List cm}{xc:FC}
theorem agT(h:J[0]?=aa (.box [.f (sl x.dg (du x.ds)),.f (sl x.mg (dA x.ms)),.f (u8 x.len),.f (sl x.eg (im x.ex))] 0)):aU J ab (.c (.ptr 0 0 0))=aa (.c (.f (sl x.dg (du x.ds)))):=by simp [aU,aC,h]
theorem agU(h:J[0]?=aa (.box [.f (sl x.dg (du x.ds)),.f (sl x.mg (dA x.ms)),.f (u8 x.len),.f (sl x.eg (im x.ex))] 0)):aU J ab (.c (.ptr 0 1 0))=aa (.c (.f (sl x.mg (dA x.ms)))):=by simp [aU,aC,h]
theorem ail(h:J[0]?=aa (.box [.f (sl x.dg (du x.ds)),.f (sl x.mg (dA x.ms)),.f (u8 x.len),.f (sl x.eg (im x.ex))] 0)):aU J ab (.c (.ptr 0 2 0))=aa (.c (.f (u8 x.len))):=by simp [aU,aC,h]
theorem agV(h:J[0]?=aa (.box [.f (sl x.dg (du x.ds)),.f (sl x.mg (dA x.ms)),.f (u8 x.len),.f (sl x.eg (im x.ex))] 0)):aU J ab (.c (.ptr 0 3 0))=aa (.c (.f (sl x.eg (im x.ex)))):=by simp [aU,aC,h]
theorem SM.cls(h:SM x len J cc cs xc):aU J ab (.c (.ptr 3 0 0))=aa (.c cc):=by simp [aU,aC,h.st]
theorem SM.ext(h:SM x len J cc cs xc):aU J ab (.c (.ptr 3 2 0))=aa (.c (.f xc)):=by simp [aU,aC,h.st]
theorem SM.all(h:SM x len J cc cs xc):aU J (aa 3) (.c (.ptr 3 0 0))=aa (.a [cc,.f (fi len),.f xc]):=by simp [aU,aC,h.st,aW]
theorem SM.stx(h:SM x len J cc cs xc)(y:FC):di J (.ptr 3 2 0) [.f y]=aa (J.set 3 (.box [cc,.f (fi len),.f y] 0))∧SM x len (J.set 3 (.box [cc,.f (fi len),.f y] 0)) cc cs y:=by
 refine⟨by simp [di,h.st,over],?_,?_,If (aj h.st),h.lr.set (h.lr.bh h.st) _⟩
 ·rw [sh (by decide)];exact h.raw
 ·rw [sh (by decide)];exact h.res
theorem rF(cs:List cm)(c:cm):aX cs++[c.row]=aX (cs++[c]):=by simp [aX]
theorem SM.app(h:SM x len J cc cs xc)(hl:cs.length≤100)(c:cm):∃ g d,bD (J++[.box (c.row.map .f) 0]) 2 32 (.c cc) (.c (.sl J.length 0 1 1 0 2))=aa (.c g,d)∧di d (.ptr 3 0 0) [g]=aa (d.set 3 (.box [g,.f (fi len),.f xc] 0)) ∧
  SM x len (d.set 3 (.box [g,.f (fi len),.f xc] 0)) g (cs++[c]) xc:=by
 obtain⟨q,j⟩:=aL (J++[.box (c.row.map .f) 0]:an);have h2:SM x len q cc cs xc:=by rw [j];exact h.push _
 have u:q[J.length]?=aa (.box (c.row.map .f) 0):=by rw [j];simp
 obtain⟨g,d,b,l,s,v⟩:=h2.lr.app (dL cs) (by decide) (row:=c.row) rfl (bytes:=32) (dF (by simp;omega) (by decide)) u;rw [rF]at l;have up:∀(i:Nat) (cs:List C) (fl:Nat),q[i]?=aa (.box cs fl)→d[i]?=aa (.box cs fl):=fun i cs fl hy=>s.2 i _ hy (h2.lr.bh hy);have m:=up _ _ _ h2.st;rw [j]at b;refine⟨g,d,b,by simp [di,m,over],?_,?_,If (aj m),l.set (l.bh m) _⟩
 ·rw [sh (by decide)];exact up _ _ _ h2.raw
 ·rw [sh (by decide)];exact up _ _ _ h2.res
end
theorem uQ(x:og)(hx:x.OK):∃ s:aQ,zM s∧bR tab 8 [.a (x.row.map .f)]=Eq (.a (s.row.map .f)):=by
 obtain⟨rr,⟨s,hs,rfl⟩,hp⟩:∃ rr,(∃ s:aQ,zM s∧rr=.a (s.row.map .f))∧bR tab 8 [.a (x.row.map .f)] rr:=by
  refine fu rfl rfl fun Q hQ=>?_;have k_:=hx.l;obtain⟨len,rest,f,l1,l2⟩:=eight (x.len % 8) (by omega);have i6:bM .rem (.c (.f (u8 x.len))) (.c (.f (.int .u8 8)))=aa (.c (.f (u8 (x.len % 8)))):=by
   have:((x.len:Int)).tmod 8=((x.len % 8:Nat):Int):=by rw [akt (by omega)];omega
   simp [bM,ky,V.int,this]
  have a8:∀ H:an,H[2]?=aa (.box [C.f (fi 30),C.f (fi 60),C.f (fi 90),C.f (fi 600),C.f (fi 1440),C.f (fi 1500),C.f (fi 3000),C.f (fi 10080)] 0)→bz H 1 ab (.c (.sl 2 0 8 8 0 1)) (.c (.f (u8 (x.len % 8))))=aa (.c (.ptr 2 (x.len % 8) 0)):=fun H h=>by
   simp [bz,fS,h];omega
  have a_:∀ H:an,H[2]?=aa (.box [C.f (fi 30),C.f (fi 60),C.f (fi 90),C.f (fi 600),C.f (fi 1440),C.f (fi 1500),C.f (fi 3000),C.f (fi 10080)] 0)→aU H ab (.c (.ptr 2 (x.len % 8) 0))=aa (vi len):=fun H h=>by
   simp only [aU,aC,h,Option.bind_some,f];rfl
  apply ai;simp [og.row];apply ai;have i4:=fun(H:an) h=>ail (x:=x) (J:=H) h;simp [i4,i6,a8,a_,-ay];apply ai;simp;have dl:=hx.dl;have ml:=hx.ml;have el:=hx.el;have U:∀(t:T) (J:an) (cc:C) (cs:List cm) (A:Int),t.g 1=.c (.ptr 0 0 0)→t.g 2=.c (.ptr 1 0 0)→t.g 3=.c (.ptr 3 0 0)→SM x len J cc cs .aA→qK cs 3 A→WP tab 8 ab [.code tX] ⟨t,[],J⟩ Q:=by
   intro t J cc cs A d z v q E;obtain⟨N,hN⟩:=aL (min x.ex.length 4);refine aq (ai ?_);simp;refine mY N (fun j t J=>t.g 1=.c (.ptr 0 0 0)∧t.g 2=.c (.ptr 1 0 0)∧t.g 3=.c (.ptr 3 0 0)∧∃ B xs,SM x len J cc cs (sl B (aT xs))∧ExP xs j) (by omega) (by decide) (by simp)
    ⟨by simp [d],by simp [z],by simp [v],.nil,[],q,⟨by simp,by simp,by simp⟩⟩ ?_ ?_ ?_
   ·rintro j t J L hj ⟨d,z,v,B,xs,q,K⟩ u hn;have r3:=agV q.raw;by_cases Z:(j:Int)<x.ex.length
    ·simp [u,d,r3,-ay,Z];exact hn _ ⟨by simp [d],by simp [z],by simp [v],B,xs,q,K⟩ (by simp [u]) (by simp;omega)
    ·simp [u,d,r3,-ay,Z];exact hn _ ⟨by simp [d],by simp [z],by simp [v],B,xs,q,K⟩ (by simp [u]) (by simp;omega)
   ·rintro j t J hj ⟨d,z,v,B,xs,q,K⟩ u nx;have o:j<x.ex.length:=by omega
    have r3:=agV q.raw;have rx:=q.ext;have ii:=fun H=>Hw (g:=x.eg) o (H:=H);have dd:=fun H=>R2 o (H:=H);obtain⟨n,hn⟩:=aL (x.ex[j]);have j_:n<65536:=hn▸hx.e _ (IT o);rw [←hn]at dd;have q1:bM .rem (.c (.f (.int .u16 (n:Int)))) (.c (.f (.int .u16 5760)))=aa (.c (.f (.int .u16 ((n:Int) % 5760)))):=by
     have:(n:Int).tmod 5760=(n:Int) % 5760:=akt (by omega);simp [bM,ky,V.int,this]
    have q2:bM .rem (vi n) (vi 7)=aa (vi ((n:Int) % 7)):=eP (by omega) (by decide);have q3:bM .quo (vi n) (vi 5760)=aa (vi ((n:Int) / 5760)):=e9 (by omega) (by decide) (by omega);obtain⟨fr,f_⟩:=aL (15*((n:Int) % 5760)-2880);obtain⟨to,i9⟩:=aL (fr+15*(1+(n:Int) / 5760*7));obtain⟨c9,c_,j7,⟨i3,g_⟩,Y⟩:=Hx B xs ⟨(n:Int) % 7,fr,to⟩ (by have:=K.n;omega) K.up;simp only [aN.row,ajd,ajt]at Y;obtain⟨j3,a⟩:=q.stx (sl c9 (aT c_));refine az (ai ?_);simp [u,d,r3,-ay,ii,dd,q1,aM (n:=(n:Int) % 5760),aM (n:=15*((n:Int) % 5760)),←f_,aM (n:=fr)];refine au (.inl rfl) ?_;simp [u,d,v,r3,rx,-ay,ii,dd,aM (n:=(n:Int)),q2,q3,aM (n:=(n:Int) / 5760*7),aM (n:=1+(n:Int) / 5760*7),aM (n:=15*(1+(n:Int) / 5760*7)),←i9,aM (n:=to),Y,j3,-bu];refine ax (nx _ _ ⟨by simp [d],by simp [z],by simp [v],c9,c_,a,?_⟩ (by simp [u]));refine⟨by have:=K.n;omega,i3,fun y hy=>?_⟩;rcases(g_ y).1 hy with rfl | hy
    ·show 0≤(n:Int) % 7∧(n:Int) % 7≤7∧-2880≤fr∧fr≤90000∧fr<to∧to≤fr+2000;omega
    ·exact K.ok y hy
   rintro t J ⟨d,z,v,B,xs,q,K⟩ u;have ra:=q.all;have s1:di J (.ptr 1 0 0) [cc,.f (fi len),.f (sl B (aT xs))]=aa (J.set 1 (.box [cc,.f (fi len),.f (sl B (aT xs))] 0)):=by simp [di,q.res,over]
   have n1:(J.set 1 (.box [cc,.f (fi len),.f (sl B (aT xs))] 0))[1]?=aa (.box [cc,.f (fi len),.f (sl B (aT xs))] 0):=If (aj q.res);obtain⟨cg,f8⟩:=q.lr.XY (dL cs);have e1:=f8 (J.set 1 (.box [cc,.f (fi len),.f (sl B (aT xs))] 0)) 63 fun i y hi he=>by
    rw [sh (by rintro rfl;exact q.lr.bh q.res he)];exact hi
   apply ai;simp [z,v,ra,s1,-ay,-bu];refine aF (hQ _ _ _ ⟨⟨cg,cs,len,B,xs⟩,IB E ⟨by have:=K.n;omega,K.up,K.ok⟩ l1 l2,rfl⟩ ⟨rfl,.a [cc,.f (fi len),.f (sl B (aT xs))],?_,?_⟩)
   ·simp [Km.results,cC,aZ,z,n1,aW]
   ·simp [mR,dI,aZ,deep,e1,aQ.row]
  obtain⟨N,hN⟩:=aL (min (min x.ms.length 3) x.ds.length);refine aq (ai ?_);simp;refine mY N (fun j t J=>t.g 1=.c (.ptr 0 0 0)∧t.g 2=.c (.ptr 1 0 0)∧t.g 3=.c (.ptr 3 0 0)∧∃ cc cs A,t.g 4=vi A∧SM x len J cc cs .aA∧qK cs j A∧A≤-1500+4000*(j:Int)) (by omega) (by decide) (by simp)
   ⟨by simp,by simp,by simp,.f .aA,[],-1500,by simp,⟨rfl,rfl,rfl,LR.nil _ _⟩,⟨by simp,by omega,by simp,by simp⟩,by omega⟩ ?_ ?_ ?_
  ·rintro j t J L hj ⟨d,z,v,cc,cs,A,O,q,E,w⟩ u hn;have r0:=agT q.raw;have r1:=agU q.raw;have M:∀ W:T,W.g 1=.c (.ptr 0 0 0)→W.g 2=.c (.ptr 1 0 0)→W.g 3=.c (.ptr 3 0 0)→W.g 4=vi A→W.g 5=vi j→W.g 31=vb (decide ((j:Int)<(N:Int)))→L ⟨W,[],J⟩:=fun W d z v O g5 d9=>hn W ⟨d,z,v,cc,cs,A,O,q,E,w⟩ g5 d9;by_cases Z:(j:Int)<x.ms.length
   ·by_cases c2:(j:Int)<3
    ·by_cases c3:(j:Int)<x.ds.length
     ·simp [u,d,r0,r1,-ay,Z,c2,c3];exact M _ (by simp [d]) (by simp [z]) (by simp [v]) (by simp [O]) (by simp [u]) (by simp;omega)
     ·simp [u,d,r0,r1,-ay,Z,c2,c3];exact M _ (by simp [d]) (by simp [z]) (by simp [v]) (by simp [O]) (by simp [u]) (by simp;omega)
    ·simp [u,d,r0,r1,-ay,Z,c2];exact M _ (by simp [d]) (by simp [z]) (by simp [v]) (by simp [O]) (by simp [u]) (by simp;omega)
   ·simp [u,d,r0,r1,-ay,Z];exact M _ (by simp [d]) (by simp [z]) (by simp [v]) (by simp [O]) (by simp [u]) (by simp;omega)
  ·rintro j t J hj ⟨d,z,v,cc,cs,A,O,q,E,w⟩ u nx;have p:j<x.ms.length:=by omega
   have j4:j<x.ds.length:=by omega
   have r0:=agT q.raw;have r1:=agU q.raw;have ii:=fun H=>uE (g:=x.mg) p (H:=H);have dd:=fun H=>yM p (H:=H);obtain⟨m,hm⟩:=aL (x.ms[j]);have j9:m<256:=hm▸hx.m _ (IT p);rw [←hm]at dd;have j8:=E.lo;obtain⟨F,b_⟩:=aL (A+1+15*(m:Int));obtain⟨e,he⟩:=aL (min (j+2) x.ds.length);have h_:min ((j:Int)+2) (x.ds.length:Int)=(e:Int):=by omega
   have X:=fun H:an=>adX (H:=H) (sz:=1) (g:=x.dg) (rows:=du x.ds) (k:=j) (m:=e) (qh _) (by omega) (by simp;omega) (fun h=>by have:=congrArg List.length h;rw [zW,akC]at this;omega);have i7:((du x.ds).take e).drop j=du ((x.ds.take e).drop j):=by simp [du,akQ,ak0]
   rw [i7]at X;obtain⟨tg,ts,⟨e_,f7⟩,r⟩:=R9 .fs (l:=(x.ds.take e).drop j) (by simp;omega) fun b hb=>hx.d b (aj2 (ajJ hb));have hT:lS ts∧nA ts≤2:=⟨e_,by simp only [ajm,ajF]at f7;omega⟩
   refine az (ai ?_);simp [u,d,O,r1,-ay,ii,dd,aM (n:=A+1),aM (n:=(m:Int)),aM (n:=15*(m:Int)),←b_,aM (n:=F)];apply ai;simp [u,d,r0,-ay,aM (n:=(j:Int)+2),h_,X,r];have S:=q.push [.box [.f (sl tg (aD (ts.map fun I=>⟨.fs,I⟩)))] 0];have bx:(J++[bZ.box [.f (sl tg (aD (ts.map fun I=>⟨.fs,I⟩)))] 0])[J.length]?=aa (.box [.f (sl tg (aD (ts.map fun I=>⟨.fs,I⟩)))] 0):=by simp
   obtain⟨J1,d_⟩:=aL (J++[bZ.box [.f (sl tg (aD (ts.map fun I=>⟨.fs,I⟩)))] 0]:an);rw [←d_]at S bx ⊢;have i_:aU J1 (aa 1) (.c (.ptr J.length 0 0))=aa (.a [.f (sl tg (aD (ts.map fun I=>⟨.fs,I⟩)))]):=by simp [aU,aC,bx,aW]
   apply ai;by_cases k:F≤4320
   ·simp [k];obtain⟨c3,H3,a7,i8,a⟩:=S.app (by have:=E.n;omega) (BA tg ts F);have c:bD (J1++[.box [.f (sl tg (aD (ts.map fun I=>⟨.fs,I⟩))),.f (fi F)] 0]) 2 32 (.c cc) (.c (.sl J1.length 0 1 1 0 2))=aa (.c c3,H3):=a7;have rc:=S.cls;refine aw (by simp) (au (.inl rfl) ?_);simp [v,rc,i_,c,i8,-ay,-bu];refine ax (nx _ _ ⟨by simp [d],by simp [z],by simp [v],c3,_,F,by simp,a,E.more (by omega) k hT,by omega⟩ (by simp [u]))
   ·simp [k];refine a6 (by simp) ?_;refine ax (nx _ _ ⟨by simp [d],by simp [z],by simp [v],cc,cs,F,by simp,S,E.skip (by omega),by omega⟩ (by simp [u]))
  rintro t J ⟨d,z,v,cc,cs,A,O,q,E,w⟩ u;exact U t J cc cs A d z v q ⟨by have:=E.n;omega,E.lo,E.ok,E.up⟩
 exact⟨s,hs,hp.eq⟩
theorem zn(n m:Int)(g:0<m)(j:m≤4611686018427387904):bR tab 205 [vi n,vi m]=Eq (vi (n % m)):=Kf.eq (by
 have u:=Int.lt_tmod_of_pos n g;have v:=Int.tmod_lt_of_pos n g;have b:bM .rem (vi n) (vi m)=aa (vi (n.tmod m)):=gO (by omega);have e:n % m=if n.tmod m<0 then n.tmod m+m else n.tmod m:=by
  rw [Int.emod_eq_tmod];have l:((m.natAbs:Nat):Int)=m:=by omega
  by_cases h:0≤n∨m ∣ n
  ·rw [ba h];rcases h with h | h
   ·have:=Int.tmod_nonneg m h;rw [aR (by omega)];omega
   ·rw [Int.tmod_eq_zero_of_dvd h];simp
  ·rw [aR h];have q:n.tmod m≠0:=fun k=>h (.inr (Int.dvd_of_tmod_eq_zero k));have s:n.tmod m≤0:=by
    have:=Int.tmod_nonneg m (show 0≤-n by omega);rw [Int.neg_tmod]at this;omega
   rw [ba (by omega)];omega
 refine dO rfl rfl fun H Q d=>?_;apply ai;simp;refine aq (ai ?_);simp [b];apply ai;by_cases k:n.tmod m<0
 ·simp [k];refine aw (by simp) (au (.inl rfl) ?_);simp [aM (n:=n.tmod m+m)];apply ai;simp;refine aF (d _ _ ?_);simp [e,k]
 ·simp [k];refine a6 (by simp) ?_;apply ai;simp;refine aF (d _ _ ?_);simp [e,k])
theorem af7:Q1 tab eb 256:=af8
theorem Ss:zL tab eb:=Km.Ord.zL.of (by kernel_rfl) (by kernel_rfl)
theorem Tk{H:an}{v:C}{l:List Int}(j:LR H v 1 (ints l))(g:l.length≤256) :
  ∃ r H',Ev tab (.fn 95) [.c v] H r H'∧(r=.t []∧Kb H H' v∧∃ d,LR H' v 1 (ints d)∧d.Perm l∧d.Pairwise (·≤·)):=
 Km.Ord.Tl (N:=256) abH Ss (fun a b H=>qy a b H) (by omega) af7 j g
structure Q4(l:List Int)(k:Nat)(d:Int):Prop where
 rep:∀ i,k≤i→(h:i<l.length)→l[i]=l[i-k]'(by omega)+d
 last:∀ h:k-1<l.length,l[k-1]<d
theorem Ci{l:List Int}{k:Nat}{d:Int}(y:0<k)(v:Q4 l k d):∀(t j:Nat),j<k→(h:t*k+j<l.length)→l[t*k+j]=l[j]'(Nat.lt_of_le_of_lt (Nat.le_add_left _ _) h)+t*d:=by
 intro t;induction t with
 | zero=>intro j b h;simp
 | succ t x=>
  intro j b h;have e:(t+1)*k+j=t*k+j+k:=by rw [ajy];omega
  have q:t*k+j<l.length:=by omega
  have s:=v.rep (t*k+j+k) (by omega) (by omega);have u:=x j b q;have g:l[(t+1)*k+j]=l[t*k+j+k]'(by omega):=by congr 1
  have m:l[t*k+j+k-k]'(by omega)=l[t*k+j]:=by congr 1;omega
  rw [g,s,m,u,Int.natCast_add,Int.add_mul];omega
theorem gR{l:List Int}(g:l.Pairwise (· < ·)){i j:Nat}(b:i≤j)(d:j<l.length):l[i]≤l[j]:=by
 rcases ajz i j with h | h
 ·exact Int.le_of_lt (ajQ.1 g i j (by omega) d h)
 ·have:i=j:=by omega
  subst this;exact aky _
structure rA(aJ:Int)(l:List Int)(zh:Int)(l':List Int):Prop where
 p1:1≤zh
 dvd:zh ∣ aJ
 ne:l'≠[]
 len:l'.length≤l.length
 up:l'.Pairwise (· < ·)
 mem:∀ x ∈ l',0≤x∧x<zh
 iff:∀ r,0≤r→r<aJ→(r ∈ l↔r % zh ∈ l')
theorem AS{l:List Int}{aJ d:Int}{k g:Nat}(J:l.Pairwise (· < ·))(N:∀ x ∈ l,0≤x∧x<aJ)(Y:1≤aJ)(A:0<k)(E:l.length=g*k)(hd:aJ=g*d)(I:Q4 l k d)(c:0<l.length):rA aJ l d (l.take k):=by
 have F:0<g:=by
  rcases aks g with h | h
  ·rw [h,Nat.zero_mul]at E;omega
  ·exact h
 have M:k≤l.length:=by rw [E];exact Nat.le_mul_of_pos_left k F
 have y:1≤d:=by
  rcases akq d 1 with h | h
  ·have:=Int.mul_nonneg_of_nonpos_of_nonpos (a:=-(g:Int)) (b:=d) (by omega) (by omega);rw [Int.neg_mul]at this;omega
  ·exact h
 have B:=I.last (by omega);have v:∀ j,(h:j<k)→0≤l[j]'(by omega)∧l[j]'(by omega)<d:=fun j h=>by
  have a:=(N _ (IT (l:=l) (n:=j) (by omega))).1;have b:=gR J (i:=j) (j:=k-1) (by omega) (by omega);exact⟨a,by omega⟩
 refine⟨y,⟨g,by rw [hd,aj1]⟩,?_,by simp;omega,J.sublist (List.take_sublist k l),?_,?_⟩
 ·intro h;have:=congrArg List.length h;rw [ajF,akC]at this;omega
 ·intro x S;obtain⟨j,L,rfl⟩:=ajY.1 S;exact v j (by omega)
 ·intro r W X;constructor
  ·intro H;obtain⟨i,hi,rfl⟩:=ajn H;have u:=Nat.div_add_mod i k;have q:=Nat.mod_lt i A;have Z:i / k*k+i % k=i:=by rw [ak5];exact u
   have s:=Ci A I (i / k) (i % k) q (by omega);have e:l[i / k*k+i % k]'(by omega)=l[i]:=by congr 1
   rw [e]at s;obtain⟨a,b⟩:=v (i % k) q;rw [s,Int.add_mul_emod_self_right,akj a b];exact ajY.2 ⟨i % k,by omega,rfl⟩
  ·intro H;obtain⟨j,L,e⟩:=ajY.1 H;have z:j<k:=by omega
   have U:0≤r / d:=ake W (by omega);have f:r / d<g:=Int.ediv_lt_of_lt_mul (by omega) (by rw [←hd];exact X);obtain⟨t,O⟩:∃ t:Nat,(t:Int)=r / d:=⟨(r / d).toNat,Int.toNat_of_nonneg U⟩
   have Q:t<g:=by omega
   have m:t*k+j<l.length:=by
    rw [E];have:(t+1)*k≤g*k:=Nat.mul_le_mul_right k (by omega);rw [ajy]at this;omega
   have s:=Ci A I t j z m;have K:=ajS r d;rw [e,O]at s;have:l[t*k+j]=r:=by rw [s,aj1];exact K
   exact this▸IT m
theorem AR{l:List Int}{aJ:Int}(j:l.Pairwise (· < ·))(g:∀ x ∈ l,0≤x∧x<aJ)(b:1≤aJ)(d:0<l.length):rA aJ l aJ l:=
 ⟨b,akw _,ajE.1 d,ai8 _,j,g,fun r m q=>by rw [akj m q]⟩
theorem ZE(g:Tg)(l:List Int)(aJ:Int)(q:Nat)(H:an)(w:H[0]?=aa (.box [.f (fi aJ)] 0))(N:H[1]?=aa (.box [.f (sl g (ints l))] 0))(O:H[2]?=aa (.box [.f (fi l.length)] 0))
  (d_:1≤aJ) (e_:aJ≤4611686018427387904) (hl:l.length≤1000000) (W:∀ x ∈ l,0≤x∧x<aJ) (f7:1≤q) (X:q≤l.length) :
  ∃ r H',Ev tab (.fn 213) [vi q,.c (.ptr 0 0 0),.c (.ptr 2 0 0),.c (.ptr 1 0 0)] H r H'∧(∃ b,r=vb b∧H'=H∧(b=ae→Q4 l (l.length / q) (aJ / q))):=by
 obtain⟨d,hd⟩:=aL (aJ / (q:Int));obtain⟨k,I⟩:=aL (l.length / q);have a8:0≤d:=by rw [hd];exact ake (by omega) (by omega)
 have a_:d≤aJ:=by rw [hd];exact akm _ (by omega)
 have c_:1≤k:=by rw [I];exact Nat.div_pos X (by omega)
 have U:k≤l.length:=by rw [I];exact Nat.div_le_self _ _
 have Y:bM .quo (vi aJ) (vi q)=aa (vi d):=by rw [e9 (by omega) (by omega) (by omega),hd]
 have Z:bM .quo (vi l.length) (vi q)=aa (vi k):=by rw [e9 (by omega) (by omega) (by omega),I];rfl
 refine cM rfl rfl fun Q o=>?_;apply ai;simp;apply ai;simp [w,O,Y,Z];apply aq;apply ai;simp;refine az ?_;refine bJ (fun m s=>∃(i:Nat) (t:T),s=⟨t,[],H⟩∧m=l.length-i∧k≤i∧i≤l.length∧t.g 1=.c (.ptr 0 0 0)∧t.g 2=.c (.ptr 2 0 0)∧t.g 3=.c (.ptr 1 0 0)∧t.g 6=vi d∧t.g 7=vi k∧t.g 8=vi i ∧
  ∀ j,k≤j→j<i→(h:j<l.length)→l[j]=l[j-k]'(by omega)+d) (l.length-k)
  ⟨k,_,rfl,rfl,by omega,U,by simp,by simp,by simp,by simp,by simp,by simp,fun j N O=>by omega⟩ ?_
 rintro m s ⟨i,t,rfl,rfl,d9,c9,p,f,J,K,L,M,z⟩ ih;apply aq;apply ai;simp [f,M,O];by_cases v:i<l.length
 ·refine aw (by simp [v]) (aP ?_);apply aq;refine az ?_;have a7:=W _ (IT v);have E:i-k<l.length:=by omega
  have S:=W _ (IT E);have u:=fun H:an=>bH (H:=H) (g:=g) (rows:=ints l) (sz:=1) (k:=.i64) (i:=(i:Int)) (by omega) (by simp [ints];omega);have F:=fun H:an=>bH (H:=H) (g:=g) (rows:=ints l) (sz:=1) (k:=.i64) (i:=((i:Int)-k)) (by omega) (by simp [ints];omega);have B:=fun H:an=>dY (H:=H) v;have c:=fun H:an=>dY (H:=H) E;simp at u F;apply ai;simp [J,K,L,M,N,u,B,aM (n:=(i:Int)-k),F,c,aM (n:=l[i-k]+d)];by_cases A:l[i]=l[i-k]+d
  ·refine a6 (by simp [A]) ?_;refine ax (au (.inl rfl) ?_);simp [M,aM (n:=(i:Int)+1)];refine ih (l.length-(i+1)) _ (by omega) ⟨i+1,_,rfl,rfl,by omega,by omega,by simp [p],by simp [f],by simp [J],by simp [K],by simp [L],by simp,fun j a b h=>?_⟩;by_cases e:j=i
   ·subst e;exact A
   ·exact z j a (by omega) h
  ·refine aw (by simp [A]) ?_;apply ai;simp;exact aF (o _ _ _ rfl (dU (by simp)) ⟨ag,rfl,rfl,by simp⟩)
 ·have b_:i=l.length:=by omega
  refine aG (by simp [v]) ?_;refine bw rfl ?_;have y:k-1<l.length:=by omega
  have S:=W _ (IT y);have u:=fun H:an=>bH (H:=H) (g:=g) (rows:=ints l) (sz:=1) (k:=.i64) (i:=((k:Int)-1)) (by omega) (by simp [ints];omega);have B:=fun H:an=>dY (H:=H) y;simp at u;apply ai;simp [J,K,L,N,u,B,aM (n:=(k:Int)-1)];refine aF (o _ _ _ rfl (dU (by simp)) ⟨decide (l[k-1]<d),rfl,rfl,fun hb=>?_⟩);rw [←I,←hd];exact⟨fun j a h=>z j a (by omega) h,fun _=>by simpa using hb⟩
theorem aaq{H:an}{sz:Nat}{g:Tg}{rows:List (List FC)}{m:Nat}(u:bK sz rows)(z:m≤rows.length)(v:rows≠[]) :
  bG H sz (.c (.f (sl g rows))) ab (aa (vi m)) ab=aa (.c (.f (sl .fs (rows.take m)))):=by
 cases rows with
 | nil=>exact absurd rfl v
 | cons x r=>
  have b:wR (vi m) (x::r).length=aa m:=by
   have:(0:Int)≤(m:Int)∧(m:Int)≤((x::r).length:Int):=⟨by omega,by omega⟩
   show(if(0:Int)≤(m:Int)∧(m:Int)≤((x::r).length:Int)then aa (m:Int).toNat else ab)=aa m;rw [ba this,ajA]
  have j:bE (x::r).length (x::r).length ab (aa (vi m)) ab=aa (0,m,(x::r).length):=by
   simp only [List.length_cons]at b;simp [bE,b]
  show bG H sz (.c (.f (.fs (x::r).flatten (x::r).length))) _ _ _=_;simp only [bG,j];have l:((x::r).flatten.drop (0*sz)).take ((m-0)*sz)=((x::r).take m).flatten:=by
   rw [Nat.zero_mul,List.drop_zero,Nat.sub_zero,nq m u]
  have d:((x::r).take m).length=m:=by rw [ajF];omega
  rw [l];have s:sl .fs ((x::r).take m)=.fs ((x::r).take m).flatten (m-0):=by
   rw [Nat.sub_zero];cases hd:(x::r).take m with
   | nil=>rw [hd]at d;simp at d;rw [←d];rfl| cons y q=>rw [hd]at d;rw [←d];rfl
  rw [s];simp
theorem uI(l:List Int)(k:Nat):(ints l).take k=ints (l.take k):=by simp [ints,akQ]
theorem BP{l:List Int}(h:0<l.length):ints l≠[]:=by cases l with
 | nil=>simp at h| cons a l=>simp [ints]
theorem AU(g:Tg)(l:List Int)(aJ:Int)(E:1≤aJ)(a7:aJ≤4611686018427387904)(B:0<l.length)(hl:l.length≤1000000)(M:l.Pairwise (· < ·))(X:∀ x ∈ l,0≤x∧x<aJ) :
  ∃ j g' F,rA aJ l j F∧bR tab 168 [vi aJ,.c (.f (sl g (ints l)))]=Eq (.t [vi j,.c (.f (sl g' (ints F)))]):=by
 have key:∃ r,(∃ j g' F,rA aJ l j F∧r=.t [vi j,.c (.f (sl g' (ints F)))])∧bR tab 168 [vi aJ,.c (.f (sl g (ints l)))] r:=by
  refine fu rfl rfl fun Q hQ=>?_;apply ai;simp;apply ai;simp;apply ai;simp;apply aq;apply ai;simp;obtain⟨H,N⟩:=aL ([.box [.f (fi aJ)] 0,.box [.f (sl g (ints l))] 0,.box [.f (fi l.length)] 0]:an);have K:H[0]?=aa (.box [.f (fi aJ)] 0):=by rw [N];rfl
  have U:H[1]?=aa (.box [.f (sl g (ints l))] 0):=by rw [N];rfl
  have L:H[2]?=aa (.box [.f (fi l.length)] 0):=by rw [N];rfl
  rw [←N];refine az ?_;refine bJ (fun m s=>∃ t:T,s=⟨t,[],H⟩∧1≤m∧m≤l.length∧t.g 2=.c (.ptr 0 0 0)∧t.g 3=.c (.ptr 1 0 0)∧t.g 6=.c (.ptr 2 0 0)∧t.g 7=.c (.cl 213 [.ptr 0 0 0,.ptr 2 0 0,.ptr 1 0 0])∧t.g 8=vi m) l.length
   ⟨_,rfl,by omega,ai8 _,by simp,by simp,by simp,by simp,by simp⟩ ?_
  rintro m s ⟨t,rfl,Y,Z,q,z,v,J,u⟩ ih;apply aq;apply ai;simp [u];by_cases c_:1<m
  ·refine aw (by simp;omega) (aP ?_);apply aq;refine az ?_;have next:∀ I:T,I.g 2=.c (.ptr 0 0 0)→I.g 3=.c (.ptr 1 0 0)→I.g 6=.c (.ptr 2 0 0)→I.g 7=.c (.cl 213 [.ptr 0 0 0,.ptr 2 0 0,.ptr 1 0 0])→I.g 8=vi m →
     WP tab 168 ab [.code tR,.inLoop tQ,.inBlock 0,.code tS] ⟨I,[],H⟩ Q:=by
    intro I q z v J u;refine au (.inl rfl) ?_;simp [u,aM (n:=(m:Int)-1)];exact ih (m-1) _ (by omega) ⟨_,rfl,by omega,by omega,by simp [q],by simp [z],by simp [v],by simp [J],by simp;omega⟩
   have q1:bM .rem (vi l.length) (vi m)=aa (vi ((l.length % m:Nat):Int)):=by rw [eP (by omega) (by omega)];rfl
   have q2:bM .rem (vi aJ) (vi m)=aa (vi (aJ % m)):=eP (by omega) (by omega);by_cases k1:l.length % m=0
   ·by_cases k2:aJ % (m:Int)=0
    ·obtain⟨r,H',A,b,rfl,rfl,hb⟩:=ZE g l aJ m H K U L E a7 hl X Y Z;have A:=A.eq;apply ai;simp [q,v,J,u,K,L,q1,q2,k1,k2,bS,A];cases b with
     | false=>
      refine aG (by simp) (aP (ax ?_));exact next _ (by simp [q]) (by simp [z]) (by simp [v]) (by simp [J]) (by simp [u])
     | true=>
      obtain⟨d,hd⟩:=aL (aJ / (m:Int));obtain⟨k,O⟩:=aL (l.length / m);have S:=hb rfl;rw [←hd,←O]at S;have e1:l.length=m*k:=by rw [O];have:=Nat.div_add_mod l.length m;omega
      have e2:aJ=m*d:=by rw [hd];have:=ajS aJ m;omega
      have W:0<k:=by
       rcases aks k with h | h
       ·rw [h,Nat.mul_zero]at e1;omega
       ·exact h
      have c9:k≤l.length:=by rw [O];exact Nat.div_le_self _ _
      have a8:bM .quo (vi aJ) (vi m)=aa (vi d):=by rw [e9 (by omega) (by omega) (by omega),hd]
      have a_:bM .quo (vi l.length) (vi m)=aa (vi k):=by rw [e9 (by omega) (by omega) (by omega),O];rfl
      have y:=fun H:an=>aaq (H:=H) (g:=g) (m:=k) (Km.Ord.bP l) (by simp [ints];omega) (BP B);simp only [uI]at y;refine aw (by simp) ?_;apply ai;simp [q,z,v,u,K,U,L,a8,a_,y];refine aF (hQ _ _ _ ⟨d,.fs,l.take k,AS M X E W e1 e2 S B,rfl⟩ ?_);simp
    ·apply ai;simp [q,v,u,K,L,q1,q2,k1,k2];refine aG (by simp) (aP (ax ?_));exact next _ (by simp [q]) (by simp [z]) (by simp [v]) (by simp [J]) (by simp [u])
   ·have b_:¬ ((l.length:Int) % (m:Int)=0):=by rw [←Int.natCast_emod];omega
    apply ai;simp [q,v,u,K,L,q1,b_];refine aG (by simp) (aP (ax ?_));exact next _ (by simp [q]) (by simp [z]) (by simp [v]) (by simp [J]) (by simp [u])
  ·refine aG (by simp;omega) ?_;refine bw rfl ?_;apply ai;simp [q,z,K,U];refine aF (hQ _ _ _ ⟨aJ,g,l,AR M X E B,rfl⟩ ?_);simp
 obtain⟨r,⟨j,g',F,S,rfl⟩,h⟩:=key;exact⟨j,g',F,S,h.eq⟩
def rq(fr aJ:Int)(a5:List Int)(d:Int):Prop:=(d-fr) % aJ ∈ a5
structure lO(hd:List Int)(fr aJ:Int)(a5:List Int)(m:Nat)(T base:Int)(j:Nat):Prop where
 ml:m≤hd.length
 tf:T≤fr
 lo:∀ i,(h:i<hd.length)→i<m→hd[i]<T
 hi:∀ i,(h:i<hd.length)→m≤i→T≤hd[i]
 iff:∀ d,T≤d→d<fr→(d ∈ hd↔rq fr aJ a5 d)
 bs:aJ ∣ base-fr
 jl:j<a5.length
 nx:∀ d,d<T→rq fr aJ a5 d→d≤base+a5[j]
 bt:base+a5[j]<T
section
variable{hd a5:List Int}{fr aJ:Int}
theorem ot(m:1≤aJ)(l:∀ x ∈ a5,0≤x∧x<aJ){base:Int}(j:aJ ∣ base-fr)(d:Int):rq fr aJ a5 d↔∃ c ∈ a5,∃ t:Int,d=base+c+aJ*t:=by
 unfold rq;constructor
 ·intro h;obtain⟨k,g⟩:=j;have e:=ajS (d-fr) aJ;refine⟨_,h,(d-fr) / aJ-k,?_⟩;rw [Int.mul_sub,←g];omega
 ·rintro⟨c,b,t,rfl⟩;obtain⟨k,g⟩:=j;have:(base+c+aJ*t-fr) % aJ=c:=by
   have e:base+c+aJ*t-fr=c+aJ*(k+t):=by rw [Int.mul_add,←g];omega
   rw [e,Int.add_mul_emod_self_left,akj (l c b).1 (l c b).2]
  rw [this];exact b
theorem B8{aJ t:Int}(b:1≤aJ):(t≤-1∧aJ*t≤-aJ)∨(t=0∧aJ*t=0)∨(1≤t∧aJ≤aJ*t):=by
 rcases Int.lt_trichotomy t 0 with h | h | h
 ·left;have:=ajq (show t≤-1 by omega) (show 0≤aJ by omega);rw [ald,alm]at this;exact⟨by omega,this⟩
 ·exact .inr (.inl ⟨h,by rw [h,Int.mul_zero]⟩)
 ·right;right;have:=ajq (show 1≤t by omega) (show 0≤aJ by omega);rw [alm]at this;exact⟨by omega,this⟩
theorem lO.start(m:1≤aJ)(hc:∀ x ∈ a5,0≤x∧x<aJ)(g:a5.Pairwise (· < ·))(q:∀ x ∈ hd,x<fr)(hl:0<a5.length):lO hd fr aJ a5 hd.length fr (fr-aJ) (a5.length-1) where
 ml:=ai8 _
 tf:=aky _
 lo:=fun i h _=>q _ (IT h)
 hi:=fun i h s=>by omega
 iff:=fun d h1 h2=>by omega
 bs:=⟨-1,by rw [ald,alm];omega⟩
 jl:=by omega
 nx:=fun d h1 h2=>by
  obtain⟨c,b,t,rfl⟩:=(ot m hc (base:=fr-aJ) ⟨-1,by rw [ald,alm];omega⟩ d).1 h2;obtain⟨i,hi,rfl⟩:=ajn b;have:=gR g (i:=i) (j:=a5.length-1) (by omega) (by omega);have h3:=hc _ (IT hi);rcases B8 (t:=t) m with h | h | h<;>omega
 bt:=by have:=hc _ (IT (l:=a5) (n:=a5.length-1) (by omega));omega
theorem lO.off{m:Nat}{T base:Int}{j:Nat}(h:lO hd fr aJ a5 (m+1) T base j)(g:hd.Pairwise (· < ·))(F:1≤aJ)(hc:∀ x ∈ a5,0≤x∧x<aJ)(s:m<hd.length)(B:hd[m]=base+a5[j]'(h.jl)){b:Int}{u:Nat}(A:u<a5.length)
  (v:aJ ∣ b-fr) (E:∀ d,d<hd[m]→rq fr aJ a5 d→d≤b+a5[u]) (H:b+a5[u]<hd[m]):lO hd fr aJ a5 m hd[m] b u where
 ml:=by have:=h.ml;omega
 tf:=by have:=h.bt;have:=h.tf;omega
 lo:=fun i hi l=>ajQ.1 g i m hi s l
 hi:=fun i hi l=>gR g l hi
 iff:=fun d h1 h2=>by
  rcases akq d T with k | k
  ·by_cases e:d=hd[m]
   ·rw [e];refine⟨fun _=>?_,fun _=>IT s⟩;rw [B];exact(ot F hc h.bs _).2 ⟨a5[j]'(h.jl),IT h.jl,0,by rw [Int.mul_zero];omega⟩
   ·constructor
    ·intro z;obtain⟨i,hi,rfl⟩:=ajn z;rcases ajz i (m+1)with q | q
     ·have:=gR g (i:=i) (j:=m) (by omega) s;omega
     ·have:=h.hi i hi q;omega
    ·intro y;have:=h.nx d k y;omega
  ·exact h.iff d k h2
 bs:=v
 jl:=A
 nx:=E
 bt:=H
theorem lO.down{m:Nat}{T base:Int}{j:Nat}(h:lO hd fr aJ a5 (m+1) T base (j+1))(s:hd.Pairwise (· < ·))(b:a5.Pairwise (· < ·))(v:1≤aJ)(hc:∀ x ∈ a5,0≤x∧x<aJ)(u:m<hd.length)(A:hd[m]=base+a5[j+1]'(h.jl)):lO hd fr aJ a5 m hd[m] base j:=by
 have y:=h.jl;have B:=ajQ.1 b j (j+1) (by omega) y (by omega);refine h.off s v hc u A (by omega) h.bs (fun d z g=>?_) (by omega);obtain⟨c,l,t,rfl⟩:=(ot v hc h.bs d).1 g;obtain⟨i,hi,rfl⟩:=ajn l;have h3:=hc _ (IT hi);have h4:=hc _ (IT y);have h5:=hc _ (IT (show j<a5.length by omega));rcases B8 (t:=t) v with q | q | q
 ·omega
 ·rcases ajz j i with r | r
  ·have:=gR b (i:=j+1) (j:=i) (by omega) hi;omega
  ·have:=gR b r (show j<a5.length by omega);omega
 ·omega
theorem lO.wrap{m:Nat}{T base:Int}(h:lO hd fr aJ a5 (m+1) T base 0)(u:hd.Pairwise (· < ·))(b:a5.Pairwise (· < ·))(y:1≤aJ)(hc:∀ x ∈ a5,0≤x∧x<aJ)(v:m<hd.length)(A:hd[m]=base+a5[0]'(h.jl)):lO hd fr aJ a5 m hd[m] (base-aJ) (a5.length-1):=by
 have B:=h.jl;have g:aJ ∣ base-aJ-fr:=by
  have:=Int.dvd_sub h.bs (akw aJ);rwa [show base-fr-aJ=base-aJ-fr by omega]at this
 have h4:=hc _ (IT B);have h5:=hc _ (IT (show a5.length-1<a5.length by omega));refine h.off u y hc v A (by omega) g (fun d z l=>?_) (by omega);obtain⟨c,s,t,rfl⟩:=(ot y hc h.bs d).1 l;obtain⟨i,hi,rfl⟩:=ajn s;have h3:=hc _ (IT hi);have h6:=gR b (i:=0) (j:=i) (by omega) hi;have h7:=gR b (i:=i) (j:=a5.length-1) (by omega) (by omega);rcases B8 (t:=t) y with q | q | q<;>omega
structure Stop(hd:List Int)(fr aJ:Int)(a5:List Int)(m:Nat)(s:Int):Prop where
 ml:m≤hd.length
 s0:0≤s
 sf:s≤fr
 lo:∀ i,(h:i<hd.length)→i<m→hd[i]<s
 hi:∀ i,(h:i<hd.length)→m≤i→s≤hd[i]
 iff:∀ d,s≤d→d<fr→(d ∈ hd↔rq fr aJ a5 d)
theorem lO.stop{m:Nat}{T base:Int}{j:Nat}(h:lO hd fr aJ a5 m T base j)(z:hd.Pairwise (· < ·))(h0:∀ x ∈ hd,0≤x)(F:0≤fr){last s:Int}(b:(m=0∧last = -1)∨∃ l:m-1<hd.length,0<m∧last=hd[m-1])
  (J:(base+a5[j]'(h.jl)<0∧last<0∧s=0)∨(¬ (base+a5[j]'(h.jl)<0∧last<0)∧base+a5[j]'(h.jl)≠last∧s=max (base+a5[j]'(h.jl)) last+1)):Stop hd fr aJ a5 m s:=by
 have E:=h.bt;have K:=h.tf;have I:last<T∨last = -1:=by
  rcases b with⟨_,e⟩ | ⟨l,h1,e⟩
  ·exact .inr e
  ·rw [e];exact .inl (h.lo _ l (by omega))
 have v:∀ i,(hi:i<hd.length)→i<m→hd[i]≤last:=fun i hi g=>by
  rcases b with⟨e,_⟩ | ⟨l,h1,e⟩
  ·omega
  ·rw [e];exact gR z (by omega) l
 rcases J with⟨L,M,rfl⟩ | ⟨L,M,rfl⟩
 ·have A:m=0:=by
   rcases b with⟨e,_⟩ | ⟨l,h1,e⟩
   ·exact e
   ·have:=h0 _ (IT l);omega
  subst A;refine⟨by omega,by omega,F,fun i hi g=>by omega,fun i hi _=>h0 _ (IT hi),fun d B y=>?_⟩;rcases akq d T with q | q
  ·constructor
   ·intro u;obtain⟨i,hi,rfl⟩:=ajn u;have:=h.hi i hi (by omega);omega
   ·intro hc;have:=h.nx d q hc;omega
  ·exact h.iff d q y
 ·have H:-1≤last:=by
   rcases b with⟨_,e⟩ | ⟨l,h1,e⟩
   ·omega
   ·have:=h0 _ (IT l);omega
  refine⟨h.ml,by omega,by omega,fun i hi g=>by have:=v i hi g;omega,fun i hi g=>by have:=h.hi i hi g;omega,fun d B y=>?_⟩;rcases akq d T with q | q
  ·constructor
   ·intro u;obtain⟨i,hi,rfl⟩:=ajn u;rcases ajz i m with r | r
    ·have:=v i hi r;omega
    ·have:=h.hi i hi r;omega
   ·intro hc;have:=h.nx d q hc;omega
  ·exact h.iff d q y
end
structure lL(p q:aE):Prop where
 ok:cu q=ae
 fr:q.fr≤p.fr
 aJ:q.aJ ∣ p.aJ
 mem:∀ d,0≤d→bF q d=bF p d
def en(fr s aJ:Int)(a5:List Int):List Int:=a5.map fun c=>(fr+c-s) % aJ
theorem oY{p:aE}(m:0≤p.fr)(q:p.fr≤1099511627776)(s:1≤p.aJ)(u:p.aJ≤1099511627776)(z:p.head.length+p.a5.length≤1048576)(v:p.head.Pairwise (· < ·))(g:∀ x ∈ p.head,0≤x∧x<p.fr)(y:p.a5.Pairwise (· < ·))(j:∀ x ∈ p.a5,0≤x∧x<p.aJ):cu p=ae:=by
 have a:=nb (limit:=p.fr) (last:=-1) (l:=p.head) (fun x d=>⟨by have:=g x d;omega,(g x d).2⟩) v;have b:=nb (limit:=p.aJ) (last:=-1) (l:=p.a5) (fun x d=>⟨by have:=j x d;omega,(j x d).2⟩) y;simp only [cu,a,b,Bool.and_true,BY,decide_eq_true_eq];exact⟨⟨⟨⟨m,q⟩,s⟩,u⟩,by omega⟩
theorem RJ{fr s aJ c d:Int}(l:0≤c∧c<aJ)(j:0≤d∧d<aJ)(h:(fr+c-s) % aJ=(fr+d-s) % aJ):c=d:=by
 have g:=(oU (a:=fr+c-s) (b:=fr+d-s) (n:=aJ)).1 h;rw [show fr+c-s-(fr+d-s)=c-d by omega]at g;obtain⟨k,m⟩:=g;rcases B8 (aJ:=aJ) (t:=k) (by omega)with q | q | q<;>omega
theorem tp{fr s aJ:Int}{a5:List Int}(q:1≤aJ)(l:∀ x ∈ a5,0≤x∧x<aJ)(d:Int):(d-s) % aJ ∈ en fr s aJ a5↔rq fr aJ a5 d:=by
 unfold en rq;rw [ajj];constructor
 ·rintro⟨c,g,h⟩;have j:=(oU (a:=fr+c-s) (b:=d-s) (n:=aJ)).1 h;rw [show fr+c-s-(d-s) = -(d-fr-c) by omega,Int.dvd_neg]at j;have m:=(agh (l c g).1 (l c g).2).2 j;rw [m];exact g
 ·intro h;refine⟨_,h,?_⟩;rw [oU];have e:=ajS (d-fr) aJ;exact⟨-((d-fr) / aJ),by rw [ald];omega⟩
theorem nH{fr s aJ:Int}{a5 g:List Int}(B:1≤aJ)(q:a5.Pairwise (· < ·))(u:∀ x ∈ a5,0≤x∧x<aJ)(d:g.Perm (en fr s aJ a5))(l:g.Pairwise (·≤·)):g.Pairwise (· < ·)∧(∀ x ∈ g,0≤x∧x<aJ)∧g.length=a5.length:=by
 have m:(en fr s aJ a5).Nodup:=by
  unfold en;rw [List.nodup_iff_pairwise_ne,List.pairwise_map];refine List.Pairwise.imp_of_mem ?_ q;intro a b v z y e;have:=RJ (u a v) (u b z) e;omega
 have j:g.Nodup:=d.nodup_iff.2 m;refine⟨?_,fun x A=>?_,by rw [d.length_eq];simp [en]⟩
 ·have:=List.Pairwise.and l (List.nodup_iff_pairwise_ne.1 j);exact alw (fun h=>by omega) this
 ·have:=d.mem_iff.1 A;unfold en at this;obtain⟨c,-,rfl⟩:=ajj.1 this;exact⟨ajV _ (by omega),ajT _ (by omega)⟩
theorem GX{p:aE}(M:cu p=ae){b:Int}{g:List Int}(j:rA p.aJ p.a5 b g){m:Nat}{s:Int}(u:Stop p.head p.fr b g m s){v:List Int}(l:v.Perm (en p.fr s b g))(y:v.Pairwise (·≤·))(K H:Tg) :
  lL p ⟨K,p.head.take m,s,b,H,v⟩:=by
 obtain⟨W,X,Y,Z,c,I,J,e,f⟩:=aV M;obtain⟨Q,S,U⟩:=nH j.p1 j.up j.mem l y;have N:b≤p.aJ:=aj7 (by omega) j.dvd;have E:=j.len;have L:=u.ml;have A:=u.sf;have z:=u.s0;refine⟨oY z (by show s≤_;omega) j.p1 (by show b≤_;omega) (by show(p.head.take m).length+v.length≤_;rw [ajF,U];omega) (I.sublist (List.take_sublist _ _)) (fun x O=>?_) Q S,A,j.dvd,fun d hd=>?_⟩
 ·obtain⟨i,hi,rfl⟩:=ajY.1 O;have a:=J _ (IT (show i<p.head.length by omega));exact⟨by omega,u.lo i (by omega) (by omega)⟩
 ·have q:∀ d,p.fr≤d→((d-p.fr) % p.aJ ∈ p.a5↔rq p.fr b g d):=fun d hd=>by
   have:=j.iff ((d-p.fr) % p.aJ) (ajV _ (by omega)) (ajT _ (by omega));rw [this,akl _ j.dvd];rfl
  have F:(d-s) % b ∈ v↔rq p.fr b g d:=by rw [l.mem_iff];exact tp j.p1 j.mem d
  unfold bF;simp only;by_cases k:s≤d
  ·rw [ba k];by_cases B:p.fr≤d
   ·rw [ba B];apply decide_eq_decide.2;rw [F,q d B]
   ·rw [aR B];apply decide_eq_decide.2;rw [F,u.iff d k (by omega)]
  ·rw [aR k,aR (by omega)];apply decide_eq_decide.2;constructor
   ·exact fun h=>aj2 h
   ·intro h;obtain⟨i,hi,rfl⟩:=ajn h;refine ajY.2 ⟨i,?_,rfl⟩;rcases ajz i m with r | r
    ·omega
    ·have:=u.hi i hi r;omega
theorem GW{p:aE}(A:cu p=ae)(y:p.a5=[]){s:Int}(u:(p.head=[]∧s=0)∨∃ h:p.head.length-1<p.head.length,s=p.head[p.head.length-1]+1)(z v:Tg):lL p ⟨z,p.head,s,1,v,[]⟩:=by
 obtain⟨B,E,F,H,I,m,q,J,K⟩:=aV A;have b:∀ x ∈ p.head,0≤x∧x<s:=fun x l=>by
  have a:=q x l;rcases u with⟨e,-⟩ | ⟨h,e⟩
  ·rw [e]at l;simp at l
  ·obtain⟨i,hi,rfl⟩:=ajn l;have:=gR m (i:=i) (j:=p.head.length-1) (by omega) h;omega
 have g:0≤s∧s≤p.fr:=by
  rcases u with⟨e,rfl⟩ | ⟨h,e⟩
  ·omega
  ·have:=q _ (IT h);omega
 refine⟨oY g.1 (by show s≤_;omega) (aky _) (show(1:Int)≤1099511627776 by decide) (by simp;omega) m b List.Pairwise.nil (by simp),g.2,Int.one_dvd _,fun d hd=>?_⟩;unfold bF;simp only [y];by_cases k:s≤d
 ·rw [ba k];have:d ∉ p.head:=fun h=>by have:=b d h;omega
  split<;>simp [this]
 ·rw [aR k,aR (by omega)]
theorem oJ{tab:TB}{fn:Nat}{k:List cD}{t:T}{ds:List eU}{H:an}{Q:Option av→St→Prop}{s:Option Nat}{b q d:Nat}{u:T}{ps:List P}{l bd:av}{st:dz}{j:Nat}(v:H[b]?=aa (.lp q u ps l bd st (aa (.exit j)) d))(g:st≠.busy)
  (h:WP tab fn s (.code (.exit j)::k) ⟨t,ds,H.set b (.lp q u ps l bd .exhausted (aa (.exit j)) d)⟩ Q):WP tab fn s (.iO b::k) ⟨t,ds,H⟩ Q:=by
 refine gZ h fun m d n=>?_;simp only [run,v,aR g]
theorem xW(x:FC)(H:an):∃ r H',Ev tab (.fn 169) [.c (.f x)] H r H'∧(r=.c (.cl 214 [.ptr H.length 0 0])∧H'=H++[.box [.f x] 0]):=by
 refine cM rfl rfl fun Q b=>?_;apply ai;simp;apply ai;simp;exact aF (b _ _ _ rfl (dU (by simp)) ⟨rfl,rfl⟩)
theorem xX{b bx:Nat}{g:Tg}{l:List Int}{PP:Nat→an→Prop}{EX:an→Prop}(U:l.length≤1000000)(q:∀ i H,PP i H→∃ a,H[bx]?=aa (.box [.f (sl g (ints l))] a)){H:an}(F:PP l.length H)
  (O:∀ i (h:i<l.length) H,PP (i+1) H→∃ r H',Ev tab (.yield b) [vi i,vi l[i]] H r H'∧((r=vb ae∧PP i H')∨(r=vb ag∧EX H'))) :
  ∃ r H',Ev tab (.fn 214) [.c (.yl b),.c (.ptr bx 0 0)] H r H'∧(r=.t []∧(PP 0 H'∨EX H')):=by
 refine cM rfl rfl fun Q I=>?_;obtain⟨a,y⟩:=q _ _ F;apply ai;simp [y,aM (n:=(l.length:Int)-1)];refine az ?_;refine bJ (fun m s=>∃(t:T) (J:an),s=⟨t,[],J⟩∧m≤l.length∧t.g 0=.c (.yl b)∧t.g 1=.c (.ptr bx 0 0)∧t.g 3=vi ((m:Int)-1)∧PP m J) l.length
  ⟨_,H,rfl,ai8 _,by simp,by simp,by simp,F⟩ ?_
 rintro m s ⟨t,J,rfl,W,z,A,j,B⟩ S;apply aq;apply ai;simp [j];by_cases M:0<m
 ·obtain⟨i,rfl⟩:∃ i,m=i+1:=⟨m-1,by omega⟩
  have v:i<l.length:=by omega
  obtain⟨a,y⟩:=q _ _ B;have K:((i+1:Nat):Int)-1=(i:Int):=by omega
  have d:=fun H:an=>bH (H:=H) (g:=g) (rows:=ints l) (sz:=1) (k:=.i64) (i:=(i:Int)) (by omega) (by simp [ints];omega);have x:=fun H:an=>dY (H:=H) v;simp at d;rw [K]at j;obtain⟨r,J',u,N⟩:=O i v J B;refine aw (by simp;omega) (aP ?_);apply aq;refine az ?_;rcases N with⟨rfl,E⟩ | ⟨rfl,L⟩
  ·apply ai;simp [z,A,j,y,d,x,u.eq];refine aG (by simp) (aP (ax (au (.inl rfl) ?_)));simp [j,aM (n:=(i:Int)-1)];exact S i _ (by omega) ⟨_,_,rfl,by omega,by simp [z],by simp [A],by simp,E⟩
  ·apply ai;simp [z,A,j,y,d,x,u.eq];refine aw (by simp) ?_;exact aF (I _ _ _ rfl rfl ⟨rfl,.inr L⟩)
 ·have:m=0:=by omega
  subst this;refine aG (by simp) ?_;refine bw rfl ?_;exact dh (I _ _ _ rfl rfl ⟨rfl,.inl B⟩)
structure CH(p:aE)(bs:List Nat)(bb:Nat)(base s:Int)(m:Nat)(J:an):Prop where
 h0:J[0]?=aa (.box [.f (sl p.hg (ints p.head)),.f (fi p.fr),.f (fi p.aJ),.f (sl p.cg (ints p.a5))] 0)
 h1:J[1]?=aa (.box [.f .aA,.f (fi 0),.f (fi 0),.f .aA] 0)
 h2:∃ g,J[2]?=aa (.box [.f (sl g (ints (p.head.take m)))] 0)
 h3:J[3]?=aa (.box [.f (fi s)] 0)
 b4:4≤bb
 hb:J[bb]?=aa (.box [.f (fi base)] 0)
 cl:fv bs J
section
variable{p:aE}{bs:List Nat}{bb:Nat}{base s:Int}{m:Nat}{J:an}
theorem CH.push(h:CH p bs bb base s m J)(L:an):CH p bs bb base s m (J++L):=by
 obtain⟨h0,h1,⟨g,h2⟩,h3,b4,hb,cl⟩:=h;refine⟨?_,?_,⟨g,?_⟩,?_,b4,?_,cl.push L⟩
 ·rw [AT (aj h0)];exact h0
 ·rw [AT (aj h1)];exact h1
 ·rw [AT (aj h2)];exact h2
 ·rw [AT (aj h3)];exact h3
 ·rw [AT (aj hb)];exact hb
theorem CH.set(h:CH p bs bb base s m J){i:Nat}{y z:bZ}(hi:J[i]?=aa y)(hy:ld y=ae)(hb:∀ cs fl,y≠.box cs fl)(hd:y≠.fg ae):CH p bs bb base s m (J.set i z):=by
 obtain⟨h0,h1,⟨g,h2⟩,h3,b4,b,cl⟩:=h;have ne:∀ k cs fl,J[k]?=aa (.box cs fl)→i≠k:=fun k cs fl d e=>by
  subst e;rw [d]at hi;cases hi;exact hb _ _ rfl
 refine⟨?_,?_,⟨g,?_⟩,?_,b4,?_,cl.set hi hd⟩
 ·rw [sh (ne _ _ _ h0)];exact h0
 ·rw [sh (ne _ _ _ h1)];exact h1
 ·rw [sh (ne _ _ _ h2)];exact h2
 ·rw [sh (ne _ _ _ h3)];exact h3
 ·rw [sh (ne _ _ _ b)];exact b
theorem CH.head(h:CH p bs bb base s m J)(g:Tg)(d:Nat):CH p bs bb base s d (J.set 2 (.box [.f (sl g (ints (p.head.take d)))] 0)):=by
 obtain⟨h0,h1,⟨g',h2⟩,h3,b4,b,cl⟩:=h;refine⟨?_,?_,⟨g,If (aj h2)⟩,?_,b4,?_,cl.set h2 (by simp)⟩
 ·rw [sh (by decide)];exact h0
 ·rw [sh (by decide)];exact h1
 ·rw [sh (by decide)];exact h3
 ·rw [sh (by omega)];exact b
theorem CH.start(h:CH p bs bb base s m J)(d:Int):CH p bs bb base d m (J.set 3 (.box [.f (fi d)] 0)):=by
 obtain⟨h0,h1,⟨g',h2⟩,h3,b4,b,cl⟩:=h;refine⟨?_,?_,⟨g',?_⟩,If (aj h3),b4,?_,cl.set h3 (by simp)⟩
 ·rw [sh (by decide)];exact h0
 ·rw [sh (by decide)];exact h1
 ·rw [sh (by decide)];exact h2
 ·rw [sh (by omega)];exact b
end
structure CT(t:T)(bb:Nat)(zh:Int)(g':Tg)(aia:List Int):Prop where
 g1:t.g 1=.c (.ptr 0 0 0)
 g2:t.g 2=.c (.ptr 1 0 0)
 g3:t.g 3=.c (.ptr 2 0 0)
 g5:t.g 5=vi zh
 g6:t.g 6=.c (.f (sl g' (ints aia)))
 g7:t.g 7=.c (.ptr 3 0 0)
 g8:t.g 8=.c (.ptr bb 0 0)
theorem zS{p:aE}(hp:cu p=ae){l:Int}{g':Tg}{d:List Int}(hS:rA p.aJ p.a5 l d){bs:List Nat}{bb B:Nat}{base:Int}{A:T}(q:CT A bb l g' d)(hB:bb<B)(g_:-4398046511104≤base){J:an}{m:Nat}{T0:Int}{j:Nat}
  (hC:CH p bs bb base 0 m J) (K:lO p.head p.fr l d m T0 base j) (M:J[B]?=aa (.lp 130 A [P.nat 54,P.nat 55] cP cQ .ready ab (B-1))) (i:Int) :
  ∃ r H',Ev tab (.yield B) [vi i,vi (d[j]'(K.jl))] J r H' ∧
   ((r=vb ae∧∃ u,m=u+1∧(∃ h:u<p.head.length,p.head[u]=base+d[j]'(K.jl))∧CH p bs bb base 0 u H'∧H'[B]?=aa (.lp 130 A [P.nat 54,P.nat 55] cP cQ .ready ab (B-1))∧∀ k cs fl,k≠2→J[k]?=aa (.box cs fl)→H'[k]?=aa (.box cs fl)) ∨
   (r=vb ag∧∃ s,CH p bs bb base s m H'∧Stop p.head p.fr l d m s∧H'[B]?=aa (.lp 130 A [P.nat 54,P.nat 55] cP cQ .done (aa (.exit 0)) (B-1)))):=by
 obtain⟨q1,q2,q3,q4,q5,q6,q7,q8,q9⟩:=aV hp;obtain⟨c,hc⟩:=aL (d[j]'(K.jl));have h_:0≤c∧c<l:=by rw [hc];exact hS.mem _ (IT _)
 have i7:l≤p.aJ:=aj7 (by omega) hS.dvd;have d9:=K.bt;have i8:=K.tf;have i6:=K.ml;rw [←hc]at d9;rw [←hc];refine ey (tab:=tab) (b:=B) (args:=[vi i,vi c]) (H:=J) M rfl fun Q' f=>?_;refine au (.inr rfl) ?_;simp;refine ja M ?_;have F:=hC.set (z:=(.lp 130 A [P.nat 54,P.nat 55] cP cQ .busy ab (B-1))) M rfl (by simp) (by simp);have Y:(J.set B (.lp 130 A [P.nat 54,P.nat 55] cP cQ .busy ab (B-1)))[B]?=aa (.lp 130 A [P.nat 54,P.nat 55] cP cQ .busy ab (B-1)):=If (aj M);have W:∀(k:Nat) (cs:List C) (fl:Nat),J[k]?=aa (bZ.box cs fl)→(J.set B (.lp 130 A [P.nat 54,P.nat 55] cP cQ .busy ab (B-1)))[k]?=aa (bZ.box cs fl):=fun k cs fl hk=>by
  rw [sh (by rintro rfl;rw [M]at hk;cases hk)];exact hk
 generalize J.set B (.lp 130 A [P.nat 54,P.nat 55] cP cQ .busy ab (B-1))=U at F Y W ⊢;obtain⟨w,h2⟩:=F.h2;have h3:=F.h3;have c_:=F.hb;have b4:=F.b4;have a7:(p.head.take m).length=m:=by rw [ajF];omega
 have N:∀ H:an,bg H (.f (sl w (ints (p.head.take m))))=aa m:=fun H=>by simp [ints];omega
 obtain⟨n,hn⟩:=aL (base+c);have wn:IntKind.i64.wrap (base+c)=n:=by rw [aM,hn]
 have rest:∀(t:T) (last:Int),CT t bb l g' d→t.g 10=vi c→t.g 11=vi last→((m=0∧last = -1)∨∃ hm:m-1<p.head.length,0<m∧last=p.head[m-1])→WP tab 130 (aa B) [.code xJ,.inBlock 3] ⟨t,[],U⟩ Q':=by
  intro t last q eo E v;have i3:-1≤last∧last<p.fr+1:=by
   rcases v with⟨_,e⟩ | ⟨hm,h1,e⟩
   ·omega
   ·have:=q7 _ (IT hm);omega
  have stop:∀ s:Int,((n<0∧last<0∧s=0)∨(¬ (n<0∧last<0)∧n≠last∧s=max n last+1))→Stop p.head p.fr l d m s:=fun s hs=>by
   refine K.stop q6 (fun x hx=>by have:=q7 x hx;omega) q1 v ?_;rw [←hc,←hn];exact hs
  apply aq;refine aq (au (.inr rfl) ?_);simp [q.g8,eo,c_,wn];refine az ?_;by_cases o:n<0∧last<0
  ·refine aq (au (.inr rfl) ?_);simp [E,o.1,o.2];refine aw (by simp) ?_;refine mh rfl (f _ _ _ _ _ _ _ _ _ _ rfl Y (.inr ⟨rfl,0,?_,stop 0 (.inl ⟨o.1,o.2,rfl⟩),If (aj Y)⟩));exact F.set Y rfl (by simp) (by simp)
  ·have go:∀ t:T,CT t bb l g' d→t.g 11=vi last→t.g 12=vi n→WP tab 130 (aa B) [.code xK,.inBlock 4,.code xL,.inBlock 3] ⟨t,[],U⟩ Q':=by
    intro t q E a;refine aq (au (.inr rfl) ?_);by_cases k2:n=last
    ·simp [E,a,k2];refine aG (by simp) (aP (ax ?_));have i4:0<m:=by
      rcases v with⟨O,Z⟩ | ⟨_,h,_⟩
      ·exfalso;exact o ⟨by omega,by omega⟩
      ·exact h
     obtain⟨u,rfl⟩:∃ u,m=u+1:=⟨m-1,by omega⟩
     have Q:∃ hm:u<p.head.length,last=p.head[u]:=by
      rcases v with⟨O,Z⟩ | ⟨hm,_,e⟩
      ·omega
      ·exact⟨hm,e⟩
     obtain⟨f7,e_⟩:=Q;have X:=fun H:an=>aaq (H:=H) (g:=w) (m:=u) (Km.Ord.bP (p.head.take (u+1))) (by simp [ints];omega) (BP (by rw [a7];omega));simp only [uI,List.take_take,Nat.min_eq_left (Nat.le_succ u)]at X;have O:((u+1:Nat):Int)-1=(u:Int):=by omega
     have s2:di U (.ptr 2 0 0) [.f (sl .fs (ints (p.head.take u)))]=aa (U.set 2 (.box [.f (sl .fs (ints (p.head.take u)))] 0)):=by simp [di,h2,over]
     have S:aU U ab (.c (.ptr 2 0 0))=aa (.c (.f (sl w (ints (p.head.take (u+1)))))):=by simp [aU,aC,h2]
     have I:(U.set 2 (.box [.f (sl .fs (ints (p.head.take u)))] 0))[B]?=aa (.lp 130 A [P.nat 54,P.nat 55] cP cQ .busy ab (B-1)):=by rw [sh (by omega)];exact Y
     refine au (.inr rfl) ?_;simp [q.g3,S,N,-ay,O,aM (n:=(u:Int)),X,s2,-bu];have b_:=F.head .fs u;refine ax (dh (f _ _ _ _ _ _ _ _ _ _ rfl I (.inl ⟨rfl,u,rfl,⟨f7,?_⟩,?_,If (aj I),fun k cs fl hk d_=>?_⟩)))
     ·rw [←e_,←k2,hn]
     ·exact b_.set I rfl (by simp) (by simp)
     ·have:=W k cs fl d_;rw [sh (by rintro rfl;rw [Y]at this;cases this),sh (Ne.symm hk)];exact this
    ·simp [E,a,k2];refine aw (by simp) (aq (au (.inr rfl) ?_));simp [q.g7,E,a,h3,aM (n:=max n last+1)];have c9:=F.start (max n last+1);have I:(U.set 3 (.box [.f (fi (max n last+1))] 0))[B]?=aa (.lp 130 A [P.nat 54,P.nat 55] cP cQ .busy ab (B-1)):=by rw [sh (by omega)];exact Y
     refine mh rfl (f _ _ _ _ _ _ _ _ _ _ rfl I (.inr ⟨rfl,max n last+1,?_,stop _ (.inr ⟨o,k2,rfl⟩),If (aj I)⟩));exact c9.set I rfl (by simp) (by simp)
   have L:∀ y:T,y.g 1=t.g 1→y.g 2=t.g 2→y.g 3=t.g 3→y.g 5=t.g 5→y.g 6=t.g 6→y.g 7=t.g 7→y.g 8=t.g 8→CT y bb l g' d:=fun y O Z e3 e5 e6 e7 e8=>⟨O.trans q.g1,Z.trans q.g2,e3.trans q.g3,e5.trans q.g5,e6.trans q.g6,e7.trans q.g7,e8.trans q.g8⟩
   by_cases k3:n<0
   ·have k4:¬ last<0:=fun h=>o ⟨k3,h⟩;refine aq (au (.inr rfl) ?_);simp [E,k3,k4];refine aG (by simp) ?_;exact go _ (L _ (by simp) (by simp) (by simp) (by simp) (by simp) (by simp) (by simp)) (by simp [E]) (by simp)
   ·refine aq (au (.inr rfl) ?_);simp [k3];refine aG (by simp) ?_;exact go _ (L _ (by simp) (by simp) (by simp) (by simp) (by simp) (by simp) (by simp)) (by simp [E]) (by simp)
 refine az ?_;refine aq (au (.inr rfl) ?_);simp;have L:∀ y:T,y.g 1=A.g 1→y.g 2=A.g 2→y.g 3=A.g 3→y.g 5=A.g 5→y.g 6=A.g 6→y.g 7=A.g 7→y.g 8=A.g 8→CT y bb l g' d:=fun y O Z e3 e5 e6 e7 e8=>⟨O.trans q.g1,Z.trans q.g2,e3.trans q.g3,e5.trans q.g5,e6.trans q.g6,e7.trans q.g7,e8.trans q.g8⟩
 apply aq;have S:aU U ab (.c (.ptr 2 0 0))=aa (.c (.f (sl w (ints (p.head.take m))))):=by simp [aU,aC,h2]
 refine aq (au (.inr rfl) ?_);simp [q.g3,S,N,-ay];by_cases k0:0<m
 ·have f8:m-1<p.head.length:=by omega
  have f_:m-1<(p.head.take m).length:=by omega
  have O:((m:Int)-1)=((m-1:Nat):Int):=by omega
  have a8:=fun H:an=>bH (H:=H) (g:=w) (rows:=ints (p.head.take m)) (sz:=1) (k:=.i64) (i:=((m-1:Nat):Int)) (by omega) (by simp [ints];omega);have a_:=fun H:an=>dY (H:=H) f_;have Z:(p.head.take m)[m-1]=p.head[m-1]:=by simp
  rw [Z]at a_;simp at a8;refine aw (by simp [k0]) (au (.inr rfl) ?_);simp [q.g3,S,N,-ay,O,aM (n:=((m-1:Nat):Int)),a8,a_];exact rest _ _ (L _ (by simp) (by simp) (by simp) (by simp) (by simp) (by simp) (by simp)) (by simp) (by simp) (.inr ⟨f8,k0,rfl⟩)
 ·refine a6 (by simp [k0]) ?_;exact rest _ _ (L _ (by simp) (by simp) (by simp) (by simp) (by simp) (by simp) (by simp)) (by simp) (by simp) (.inl ⟨by omega,rfl⟩)
theorem pM{H:an}{g:Tg}(l:List Int)(m:l.length≤1000000):∃ c J,Ev tab (.fn 167) [.c (.f (sl g (ints l)))] H=E2 (.c c) (H++J)∧LR (H++J) c 1 (ints l)∧∀ i,aS c=aa i→H.length≤i:=by
 obtain⟨r,H',j,c,J,rfl,rfl,b,d⟩:=Ru (F:=167) (sz:=1) (zs:=[fi 0]) (bytes:=8) (H:=H) (g:=g) (rows:=ints l) abA (by decide) (Km.Ord.bP l) (dF (by simp [ints];omega) (by decide));exact⟨c,J,j.eq,b,d⟩
theorem GY(p:aE)(f:cu p=ae)(e:p.a5=[])(hl:p.head.length≤1000000):∃ q,lL p q∧q.a5.length≤p.a5.length∧q.head.length≤p.head.length∧bR tab 130 [.a (p.row.map .f)] (.a (q.row.map .f)):=by
 obtain⟨q1,q2,q3,q4,q5,q6,q7,q8,q9⟩:=aV f;obtain⟨r,⟨q,hq,ha,hb,rfl⟩,h⟩:∃ r,(∃ q,lL p q∧q.a5.length≤p.a5.length∧q.head.length≤p.head.length∧r=.a (q.row.map .f))∧bR tab 130 [.a (p.row.map .f)] r:=by
  refine fu rfl rfl fun Q hQ=>?_;obtain⟨H,z⟩:=aL ([.box [.f (sl p.hg (ints p.head)),.f (fi p.fr),.f (fi p.aJ),.f (sl p.cg (ints p.a5))] 0,.box [.f .aA,.f (fi 0),.f (fi 0),.f .aA] 0,.box [.f (sl p.hg (ints p.head))] 0]:an);obtain⟨c,J,M,B,a⟩:=pM (H:=H) (g:=p.hg) p.head hl;have l:∀ H:an,bg H (.f (sl p.hg (ints p.head)))=aa p.head.length:=fun H=>by simp [ints]
  have K:∀ H:an,bg H (.f (sl p.cg (ints p.a5)))=aa 0:=fun H=>by simp [ints,e]
  apply ai;simp [aE.row];refine jU (ai ?_);simp;rw [←z];have h0:H[0]?=aa (.box [.f (sl p.hg (ints p.head)),.f (fi p.fr),.f (fi p.aJ),.f (sl p.cg (ints p.a5))] 0):=by rw [z];rfl
  have h1:H[1]?=aa (.box [.f .aA,.f (fi 0),.f (fi 0),.f .aA] 0):=by rw [z];rfl
  have Z:H[2]?=aa (.box [.f (sl p.hg (ints p.head))] 0):=by rw [z];rfl
  apply aq;apply ai;simp [h0,K];refine aw (by simp) ?_;apply ai;simp [Z,M];obtain⟨b,d⟩:=aL (H++J:an);obtain⟨v,j⟩:=aL (b.length);have E:H.length+J.length=v:=by rw [j,d];simp
  have a7:H.length=3:=by rw [z];rfl
  rw [←d]at B;have w:∀ i:Nat,i<H.length→b[i]?=H[i]?:=fun i hi=>by rw [d,AT hi]
  have x:∀(t:T) (s:Int),t.g 2=.c (.ptr 1 0 0)→t.g 4=.c (.ptr v 0 0)→((p.head=[]∧s=0)∨∃ h:p.head.length-1<p.head.length,s=p.head[p.head.length-1]+1) →
    WP tab 130 ab [.code xE,.code xG,.inScope vH] ⟨t,[],b++[.box [c,.f (fi s),.f (fi 1),.f .aA] 0]⟩ Q:=by
   intro t s Y g4 hs;have o:(b++[bZ.box [c,.f (fi s),.f (fi 1),.f .aA] 0])[v]?=aa (.box [c,.f (fi s),.f (fi 1),.f .aA] 0):=by rw [j];simp
   have L:(b++[bZ.box [c,.f (fi s),.f (fi 1),.f .aA] 0])[1]?=aa (.box [.f .aA,.f (fi 0),.f (fi 0),.f .aA] 0):=by
    rw [AT (by omega),w 1 (by omega)];exact h1
   have S:=B.push [bZ.box [c,.f (fi s),.f (fi 1),.f .aA] 0];generalize b++[bZ.box [c,.f (fi s),.f (fi 1),.f .aA] 0]=u at o L S ⊢;have X:aU u (aa 4) (.c (.ptr v 0 0))=aa (.a [c,.f (fi s),.f (fi 1),.f .aA]):=by simp [aU,aC,o,aW]
   have s1:di u (.ptr 1 0 0) [c,.f (fi s),.f (fi 1),.f .aA]=aa (u.set 1 (.box [c,.f (fi s),.f (fi 1),.f .aA] 0)):=by simp [di,L,over]
   have n1:(u.set 1 (.box [c,.f (fi s),.f (fi 1),.f .aA] 0))[1]?=aa (.box [c,.f (fi s),.f (fi 1),.f .aA] 0):=If (aj L);have U:=S.set (S.bh L) (.box [c,.f (fi s),.f (fi 1),.f .aA] 0);obtain⟨y,N⟩:=U.ex (Km.Ord.bP _) 63;apply ai;simp [Y,g4,X,s1,-ay,-bu];refine aF (hQ _ _ _ ⟨⟨y,p.head,s,1,.nil,[]⟩,GW f e hs y .nil,by simp,ai8 _,rfl⟩ ⟨rfl,.a [c,.f (fi s),.f (fi 1),.f .aA],?_,?_⟩)
   ·simp [Km.results,cC,aZ,Y,n1,aW]
   ·simp [mR,dI,aZ,deep,N,aE.row,sl,ints,Tg.fc]
  rw [←ajI,←d,E];have v2:(b++[bZ.box [c,.f (fi 0),.f (fi 1),.f .aA] 0])[2]?=aa (.box [.f (sl p.hg (ints p.head))] 0):=by
   rw [AT (by omega),w 2 (by omega)];exact Z
  have v4:(b++[bZ.box [c,.f (fi 0),.f (fi 1),.f .aA] 0])[v]?=aa (.box [c,.f (fi 0),.f (fi 1),.f .aA] 0):=by rw [j];simp
  have m:∀ s:Int,(b++[bZ.box [c,.f (fi 0),.f (fi 1),.f .aA] 0]).set v (.box [c,.f (fi s),.f (fi 1),.f .aA] 0)=b++[.box [c,.f (fi s),.f (fi 1),.f .aA] 0]:=fun s=>by rw [j];simp
  apply aq;obtain⟨u,A⟩:=aL (b++[bZ.box [c,.f (fi 0),.f (fi 1),.f .aA] 0]);rw [←A]at v2 v4 m ⊢;have I:aU u ab (.c (.ptr 2 0 0))=aa (.c (.f (sl p.hg (ints p.head)))):=by simp [aU,aC,v2]
  apply aq;refine au (.inl rfl) ?_;simp [I,l,-ay];by_cases k:0<p.head.length
  ·have O:p.head.length-1<p.head.length:=by omega
   have a8:=q7 _ (IT O);have e1:((p.head.length:Int)-1)=((p.head.length-1:Nat):Int):=by omega
   have F:=fun H:an=>bH (H:=H) (g:=p.hg) (rows:=ints p.head) (sz:=1) (k:=.i64) (i:=((p.head.length-1:Nat):Int)) (by omega) (by simp [ints];omega);have W:=fun H:an=>dY (H:=H) O;simp at F;have s4:di u (.ptr v 1 0) [.f (fi (p.head[p.head.length-1]+1))]=aa (b++[.box [c,.f (fi (p.head[p.head.length-1]+1)),.f (fi 1),.f .aA] 0]):=by
    rw [←m];simp [di,v4,over]
   refine aw (by simp [k]) (au (.inl rfl) ?_);simp [I,l,-ay,e1,aM (n:=((p.head.length-1:Nat):Int)),F,W,aM (n:=p.head[p.head.length-1]+1),s4,-bu];exact x _ _ (by simp) (by simp) (.inr ⟨O,rfl⟩)
  ·refine a6 (by simp [k]) ?_;rw [A];exact x _ 0 (by simp) (by simp) (.inl ⟨ajW.1 (by omega),rfl⟩)
 exact⟨q,hq,ha,hb,h⟩
theorem kX{H:an}{c:C}{sz:Nat}{rows:List (List FC)}(h:LR H c sz rows){i:Nat}{y:bZ}(g:H[i]?=aa y)(j:ld y=ae):aS c≠aa i:=by
 rcases h with⟨_,rfl | rfl⟩ | ⟨h,b,l,rfl,d⟩
 ·simp [aS]
 ·simp [aS]
 ·intro e;cases e;unfold RB at d;rw [g]at d;cases d;cases j
theorem CH.bf{p:aE}{bs:List Nat}{bb:Nat}{base s:Int}{m:Nat}{J J':an}(h:CH p bs bb base s m J)(b:∀(i:Nat) y,J[i]?=aa y→ld y=ae→J'[i]?=aa y):CH p bs bb base s m J':=by
 obtain⟨h0,h1,⟨g,h2⟩,h3,b4,hb,cl⟩:=h;exact⟨b _ _ h0 rfl,b _ _ h1 rfl,⟨g,b _ _ h2 rfl⟩,b _ _ h3 rfl,b4,b _ _ hb rfl,cl.bf b⟩
structure QI(p:aE)(bs:List Nat)(bb:Nat)(base s zh:Int)(m bq:Nat)(c cq:C)(jV:List Int)(J:an):Prop where
 ch:CH p bs bb base s m J
 bx:J[bq]?=aa (.box [c,.f (fi s),.f (fi zh),cq] 0)
 lc:LR J c 1 (ints (p.head.take m))
 lq:LR J cq 1 (ints jV)
 ne:∀ i,aS c=aa i→aS cq≠aa i
 big:4<bq∧bq≠bb
theorem QI.app{p:aE}{bs:List Nat}{bb:Nat}{base s b:Int}{m z:Nat}{c I:C}{jV:List Int}{J:an}(h:QI p bs bb base s b m z c I jV J)(hl:jV.length≤1000)(n:Int) :
  ∃ v q,bD (J++[.box [.f (fi n)] 0]) 1 8 (.c I) (.c (.sl J.length 0 1 1 0 1))=aa (.c v,q)∧di q (.ptr z 3 0) [v]=aa (q.set z (.box [c,.f (fi s),.f (fi b),v] 0))∧QI p bs bb base s b m z c v (jV++[n]) (q.set z (.box [c,.f (fi s),.f (fi b),v] 0)):=by
 obtain⟨H,d⟩:=aL (J++[.box ([fi n].map .f) 0]:an);have up:∀(i:Nat) y,J[i]?=aa y→H[i]?=aa y:=fun i y hy=>by rw [d,AT (aj hy)];exact hy
 have B:LR H I 1 (ints jV):=by rw [d];exact h.lq.push _
 have L:H[J.length]?=aa (.box ([fi n].map .f) 0):=by rw [d];simp
 obtain⟨v,q,u,x,A,M⟩:=B.app (Km.Ord.bP jV) (by decide) (row:=[fi n]) rfl (bytes:=8) (dF (by simp [ints];omega) (by decide)) L;have F:∀(i:Nat) y,J[i]?=aa y→ld y=ae→q[i]?=aa y:=fun i y hy O=>A.2 i y (up _ _ hy) (kX B (up _ _ hy) O);have j:=F _ _ h.bx rfl;have N:ints jV++[[fi n]]=ints (jV++[n]):=by simp [ints]
 rw [N]at x;have E:LR q c 1 (ints (p.head.take m)):=h.lc.bf fun i y hy hi=>A.2 i y (up _ _ hy) (h.ne i hi);have K:=h.ch.bf F;refine⟨v,q,by rw [d]at u;exact u,by simp [di,j,over],?_,If (aj j),E.set (E.bh j) _,x.set (x.bh j) _,?_,h.big⟩
 ·obtain⟨h0,h1,⟨g,h2⟩,h3,b4,hb,cl⟩:=K;have hg:=h.big;refine⟨?_,?_,⟨g,?_⟩,?_,b4,?_,cl.set j (by simp)⟩
  all_goals (rw [sh (by omega)];assumption)
 ·intro i hi l;rcases M with e | e
  ·rw [e]at l;exact h.ne i hi l
  ·rw [e]at l;cases l;have:=h.lc.lt hi;have h2:H.length=J.length+1:=by rw [d];simp
   omega
theorem pK(n:Int):(vi n).beq (vi n)=ae:=by simp [V.beq,C.beq,FC.beq]
theorem zY{p:aE}(hp:cu p=ae)(hl:p.head.length≤1000000){b:Int}{g':Tg}{d:List Int}(hS:rA p.aJ p.a5 b d)(o8:d.length≤256){bs:List Nat}{bb:Nat}{base s:Int}{m:Nat}{J:an}(hC:CH p bs bb base s m J)(hT:Stop p.head p.fr b d m s)
  {t:T} (N:CT t bb b g' d) {k:List cD} {Q:Option av→St→Prop} (hQ:∀ j s r,(∃ q,lL p q∧q.a5.length≤p.a5.length∧q.head.length≤p.head.length∧r=.a (q.row.map .f))→QX [.cell (P.nat 2) (aa 4)] r s→Q j s) :
  WP tab 130 ab (.code rp::k) ⟨t,bs.map .er,J⟩ Q:=by
 obtain⟨q1,q2,q3,q4,q5,q6,q7,q8,q9⟩:=aV hp;have n6:=hT.ml;have p9:=hT.sf;have p8:=hT.s0;have o_:b≤p.aJ:=aj7 (by omega) hS.dvd;have o9:=hS.p1;obtain⟨gh,h2⟩:=hC.h2;have h0:=hC.h0;have h1:=hC.h1;have h3:=hC.h3;have i4:(p.head.take m).length=m:=by rw [ajF];omega
 obtain⟨c,Jc,u,U,h_⟩:=pM (H:=J) (g:=gh) (p.head.take m) (by omega);obtain⟨HJ,e_⟩:=aL (J++Jc:an);have F:CH p bs bb base s m HJ:=by rw [e_];exact hC.push Jc
 rw [←e_]at u U;have b_:∀ H:an,H[3]?=aa (.box [.f (fi s)] 0)→aU H ab (.c (.ptr 3 0 0))=aa (vi s):=fun H h=>by simp [aU,aC,h]
 have j3:aU J ab (.c (.ptr 2 0 0))=aa (.c (.f (sl gh (ints (p.head.take m))))):=by simp [aU,aC,h2]
 have i9:=b_ J h3;have a_:=b_ HJ F.h3;refine aq (eB (.inl rfl) ?_ ?_)
 case refine_2=>
  intro cc j_;have j9:cc=(2,1):=by simpa using j_
  subst j9;refine⟨by decide,_,rfl,.inr ⟨by decide,?_⟩⟩;simp [N.g3,N.g7,j3,-ay,u,i9,a_,fx,pK]
 simp [N.g3,N.g5,N.g7,j3,-ay,u,a_];obtain⟨O,a7⟩:=aL (HJ.length);have i3:4<O:=by have:=aj F.hb;have:=F.b4;omega
 obtain⟨HK,S⟩:=aL (HJ++[bZ.box [c,.f (fi s),.f (fi b),.f .aA] 0]);have d_:CH p bs bb base s m HK:=by rw [S];exact F.push _
 have i6:HK[O]?=aa (.box [c,.f (fi s),.f (fi b),.f .aA] 0):=by rw [S,a7];simp
 have f8:LR HK c 1 (ints (p.head.take m)):=by rw [S];exact U.push _
 have o7:∀ i,aS c=aa i→i<O:=fun i hi=>by rw [a7];exact U.lt hi
 rw [←a7,←S];have j7:QI p bs bb base s b m O c (.f .aA) [] HK:=⟨d_,i6,f8,LR.nil _ _,(fun i hi h=>by cases h),i3,by have:=aj F.hb;omega⟩
 clear u U h_ a_ i9 d_ i6 f8;apply aq;apply ai;simp [N.g6];refine bU d.length (fun i t J=>t.g 1=.c (.ptr 0 0 0)∧t.g 2=.c (.ptr 1 0 0)∧t.g 5=vi b∧t.g 7=.c (.ptr 3 0 0)∧t.g 13=.c (.ptr O 0 0)∧t.g 94=.c (.f (sl g' (ints d)))∧∃ l,QI p bs bb base s b m O c l (en p.fr s b (d.take i)) J) (by omega) (by decide) (by decide) (by simp) (by simp [ints])
  ⟨by simp [N.g1],by simp [N.g2],by simp [N.g5],by simp [N.g7],by simp,by simp,.f .aA,by simpa [en]using j7⟩ ?_ ?_
 ·rintro i t J hi ⟨g1,g2,g5,g7,E,Z,l,B⟩ ha hb next
  have k_:=hS.mem _ (IT hi);have i8:=fun H:an=>bH (H:=H) (g:=g') (rows:=ints d) (sz:=1) (k:=.i64) (i:=(i:Int)) (by omega) (by simp [ints];omega);have i_:=fun H:an=>dY (H:=H) hi;simp at i8;obtain⟨x,hx⟩:=aL (d[i]);rw [←hx]at k_ i_;have n_:d.take (i+1)=d.take i++[x]:=by rw [aju,By hi,hx];rfl
  have i7:bM .rem (vi (p.fr+x-s)) (vi b)=aa (vi ((p.fr+x-s) % b)):=eP (by omega) (by omega);obtain⟨c3,H3,g_,n9,n8⟩:=B.app (by simp [en];omega) ((p.fr+x-s) % b);have c9:aU J ab (.c (.ptr O 3 0))=aa (.c l):=by simp [aU,aC,B.bx]
  have o4:aU J ab (.c (.ptr 0 1 0))=aa (vi p.fr):=by simp [aU,aC,B.ch.h0]
  have o5:=b_ J B.ch.h3;refine az ?_;apply ai;simp [ha,Z,i8,i_];refine au (.inl rfl) ?_;simp [g1,g5,g7,E,c9,o4,o5,-ay,aM (n:=p.fr+x),aM (n:=p.fr+x-s),i7,g_,n9,-bu];refine ax (next _ _ ?_ (by simp [ha]) (by simp [hb]));refine⟨by simp [g1],by simp [g2],by simp [g5],by simp [g7],by simp [E],by simp [Z],c3,?_⟩;rw [n_];simpa [en]using n8
 ·rintro t J ⟨g1,g2,g5,g7,E,Z,l,B⟩ - -;rw [ajr]at B;obtain⟨r,X,he,rfl,hK,l2,f7,L,m_⟩:=Tk B.lq (by simp [en];omega);have up:∀(i:Nat) y,J[i]?=aa y→ld y=ae→X[i]?=aa y:=fun i y W hn=>hK.2 i y W (kX B.lq W hn);have A:=B.ch.bf up;have j8:=up _ _ B.bx rfl;have f_:LR X c 1 (ints (p.head.take m)):=B.lc.bf fun i y W hi=>hK.2 i y W (B.ne i hi);have c9:aU J ab (.c (.ptr O 3 0))=aa (.c l):=by simp [aU,aC,B.bx]
  have o0:aU X (aa 4) (.c (.ptr O 0 0))=aa (.a [c,.f (fi s),.f (fi b),l]):=by simp [aU,aC,j8,aW]
  have s1:di X (.ptr 1 0 0) [c,.f (fi s),.f (fi b),l]=aa (X.set 1 (.box [c,.f (fi s),.f (fi b),l] 0)):=by simp [di,A.h1,over]
  have n1:(X.set 1 (.box [c,.f (fi s),.f (fi b),l] 0))[1]?=aa (.box [c,.f (fi s),.f (fi b),l] 0):=If (aj A.h1);have v:=A.cl.set (z:=.box [c,.f (fi s),.f (fi b),l] 0) A.h1 (by simp);have I:=f_.set (f_.bh A.h1) (.box [c,.f (fi s),.f (fi b),l] 0);have K:=f7.set (f7.bh A.h1) (.box [c,.f (fi s),.f (fi b),l] 0);generalize o6:X.set 1 (.box [c,.f (fi s),.f (fi b),l] 0)=Y at s1 n1 v I K;have j4:∀(i:Nat) y,i ∉ bs→Y[i]?=aa y→(oX bs Y)[i]?=aa y:=fun i y hi W=>(kd hi).trans W;obtain⟨c_,l_⟩:=I.XY (Km.Ord.bP _);obtain⟨d9,m9⟩:=K.XY (Km.Ord.bP _);have M:∀(c:C) (rows:List (List FC)),LR Y c 1 rows→∀ i y,Y[i]?=aa y→aS c=aa i→(oX bs Y)[i]?=aa y:=fun c rows hL i y W hi=>j4 i y (fun hb=>kX hL (v.on i hb) rfl hi) W;have e5:=l_ (oX bs Y) 63 (M _ _ I);have e6:=m9 (oX bs Y) 63 (M _ _ K);have m1:=j4 1 _ (v.not n1 (by simp)) n1;apply ai;simp [E,c9,-ay,he.eq];apply ai;simp [g2,E,o0,s1,-ay,-bu];have a8:l2.length=d.length:=by rw [L.length_eq];simp [en]
  refine aF (hQ _ _ _ ⟨⟨c_,p.head.take m,s,b,d9,l2⟩,GX hp hS hT L m_ c_ d9,by show l2.length≤_;rw [a8];exact hS.len,by show(p.head.take m).length≤_;rw [i4];exact n6,rfl⟩ ⟨bs,rfl,v,.a [c,.f (fi s),.f (fi b),l],?_,?_⟩)
  ·simp [Km.results,cC,aZ,g2,m1,aW]
  ·simp [mR,dI,aZ,deep,e5,e6,aE.row]
theorem GV(p:aE)(hp:cu p=ae)(e:0<p.a5.length)(i6:p.a5.length≤256)(hl:p.head.length≤1000000):∃ q,lL p q∧q.a5.length≤p.a5.length∧q.head.length≤p.head.length∧bR tab 130 [.a (p.row.map .f)] (.a (q.row.map .f)):=by
 obtain⟨q1,q2,q3,q4,q5,q6,q7,q8,q9⟩:=aV hp;obtain⟨r,⟨q,hq,ha,a,rfl⟩,h⟩:∃ r,(∃ q,lL p q∧q.a5.length≤p.a5.length∧q.head.length≤p.head.length∧r=.a (q.row.map .f))∧bR tab 130 [.a (p.row.map .f)] r:=by
  refine pT afw rfl fun Q hQ=>?_;obtain⟨j,g',d,v,e_⟩:=AU p.cg p.a5 p.aJ (by omega) (by omega) e (by omega) q8 (fun x hx=>by have:=q9 x hx;omega);have i9:j≤p.aJ:=aj7 (by omega) v.dvd;have W:=v.p1;have i7:=v.len;have f:0<d.length:=ajE.2 v.ne;have w:∀ H:an,bg H (.f (sl p.cg (ints p.a5)))=aa p.a5.length:=fun H=>by simp [ints]
  apply ai;simp [aE.row];refine jU (ai ?_);simp;apply aq;apply ai;simp [w];refine aG (by simp;exact ajE.1 e) (aP ?_);apply ai;simp [e_];apply ai;simp;refine aq (oK ?_);apply aq;apply ai;simp [aM (n:=p.fr-j)];refine az ?_;refine bJ (fun mm st=>∃(t:T) (bs:List Nat) (bb:Nat) (J:an) (T0 base:Int),st=⟨t,bs.map .er,J⟩∧CT t bb j g' d∧CH p bs bb base 0 mm J∧lO p.head p.fr j d mm T0 base (d.length-1)∧-4398046511104≤base) p.head.length
   ⟨_,[],4,_,_,_,rfl,⟨by simp,by simp,by simp,by simp,by simp,by simp,by simp⟩,⟨rfl,rfl,⟨p.hg,by rw [ajr];rfl⟩,rfl,by decide,rfl,⟨by simp,by simp⟩⟩,lO.start W v.mem v.up (fun x hx=>(q7 x hx).2) f,by omega⟩ ?_
  rintro mm st ⟨t,bs,bb,J,T0,base,rfl,L,hC,c9,b_⟩ ih;apply aq;refine az ?_;obtain⟨r,H',c_,rfl,rfl⟩:=xW (sl g' (ints d)) J;apply ai;simp [L.g6,c_.eq];refine az ?_;have a_:∀ K:T,K.g 1=t.g 1→K.g 2=t.g 2→K.g 3=t.g 3→K.g 5=t.g 5→K.g 6=t.g 6→K.g 7=t.g 7→K.g 8=t.g 8→CT K bb j g' d:=fun K e1 e2 e3 e5 e6 e7 e8=>⟨e1.trans L.g1,e2.trans L.g2,e3.trans L.g3,e5.trans L.g5,e6.trans L.g6,e7.trans L.g7,e8.trans L.g8⟩
  obtain⟨bx,E⟩:=aL (J.length);rw [←E];have i4:=aj hC.hb;have i3:=hC.b4;have range:∀ y:T,CT y bb j g' d→y.g 53=.c (.cl 214 [.ptr bx 0 0])→WP tab 130 ab [.code xI,.inBlock 2,.inBlock 1,.code xM,.inLoop xH,.inBlock 0,.code rp,.inScope vH] ⟨y,bs.map .er,J++[.box [.f (sl g' (ints d))] 0]⟩ Q:=by
   intro y u a7;obtain⟨Y,A⟩:=aL (J++[.box [.f (sl g' (ints d))] 0]++[.fg ae,.lp 130 y [P.nat 54,P.nat 55] cP cQ .ready ab (bx+2-1)]:an);have M:CH p bs bb base 0 mm Y:=by rw [A,ajI];exact hC.push _
   have rx:Y[bx]?=aa (.box [.f (sl g' (ints d))] 0):=by rw [A,E];simp
   have rd:Y[bx+1]?=aa (.fg ae):=by rw [A,E,aje (by simp)];simp
   have rl:Y[bx+2]?=aa (.lp 130 y [P.nat 54,P.nat 55] cP cQ .ready ab (bx+2-1)):=by rw [A,E,aje (by simp)];simp
   have a8:CH p ((bx+1)::bs) bb base 0 mm Y:=⟨M.h0,M.h1,M.h2,M.h3,M.b4,M.hb,List.nodup_cons.2 ⟨fun hm=>by have:=aj (hC.cl.on _ hm);omega,M.cl.nd⟩,fun b a=>by
    rcases List.mem_cons.1 a with rfl | a
    ·exact rd
    ·exact M.cl.on b a⟩
   obtain⟨r,H',he,rfl,O⟩:=xX (b:=bx+2) (bx:=bx) (g:=g') (l:=d) (H:=Y)
    (PP:=fun i H=>∃ m T,CH p ((bx+1)::bs) bb base 0 m H∧H[bx]?=aa (.box [.f (sl g' (ints d))] 0)∧H[bx+2]?=aa (.lp 130 y [P.nat 54,P.nat 55] cP cQ .ready ab (bx+2-1))∧i≤d.length∧m+(d.length-i)=mm ∧
     (0<i→lO p.head p.fr j d m T base (i-1))∧(i=0→lO p.head p.fr j d m T (base-j) (d.length-1)∧-1099511627776≤base))
    (EX:=fun H=>∃ m s,CH p ((bx+1)::bs) bb base s m H∧Stop p.head p.fr j d m s∧H[bx+2]?=aa (.lp 130 y [P.nat 54,P.nat 55] cP cQ .done (aa (.exit 0)) (bx+2-1)))
    (by omega) (fun i H h=>by obtain⟨m,T,-,h,-⟩:=h;exact⟨_,h⟩)
    ⟨mm,T0,a8,rx,rl,ai8 _,by omega,fun _=>c9,fun h=>by omega⟩
    (fun i hi H1 ⟨m,T,h1,h2,h3,h4,h5,h6,h7⟩=>by
     have N:=h6 (by omega);obtain⟨r,H2,d_,hr⟩:=zS hp v u (B:=bx+2) (by omega) b_ h1 N h3 i;refine⟨r,H2,d_,?_⟩;rcases hr with⟨rfl,m',rfl,⟨U,S⟩,X,Z,I⟩ | ⟨rfl,s,X,Z,I⟩
     ·refine .inl ⟨rfl,m',p.head[m'],X,I bx _ _ (by omega) h2,Z,by omega,by omega,fun k=>?_,fun k=>?_⟩
      ·obtain⟨i',rfl⟩:∃ i',i=i'+1:=⟨i-1,by omega⟩
       exact N.down q6 v.up W v.mem U S
      ·subst k;have hx:=(q7 _ (IT U)).1;have hy:=v.mem _ (IT (l:=d) (n:=0) f);refine⟨N.wrap q6 v.up W v.mem U S,?_⟩;have h_:p.head[m']=base+d[0]:=S;omega
     ·exact .inr ⟨rfl,m,s,X,Z,I⟩)
   have F:(J++[bZ.box [.f (sl g' (ints d))] 0]).length=bx+1:=by simp [E]
   have d9:Ev tab (.fn 214) [.c (.yl ((J++[bZ.box [.f (sl g' (ints d))] 0]).length+1)),.c (.ptr bx 0 0)] (J++[.box [.f (sl g' (ints d))] 0]++[.fg ae,.lp 130 y [P.nat 54,P.nat 55] cP cQ .ready ab (J++[bZ.box [.f (sl g' (ints d))] 0]).length]) (.t []) H':=by
    rw [F];rw [A]at he;exact he
   refine fO (g:=214) (by rw [ry,a7];simp [bS]) d9 ?_;rw [F];rcases O with⟨m,T,X,Z,I,-,k5,-,k7⟩ | ⟨m,s,X,Z,I⟩
   ·obtain⟨k8,k9⟩:=k7 rfl;refine gW I (by decide) ?_;have kC:=X.set (z:=.lp 130 y [P.nat 54,P.nat 55] cP cQ .exhausted ab (bx+2-1)) I rfl (by simp) (by simp);generalize H'.set (bx+2) (.lp 130 y [P.nat 54,P.nat 55] cP cQ .exhausted ab (bx+2-1))=HE at kC ⊢;refine ax (ax (aq ?_));have c:=kC.hb;have f7:aU HE ab (.c (.ptr bb 0 0))=aa (vi base):=by simp [aU,aC,c]
    have i8:=aj c;apply ai;simp [u.g8,f7,-ay];refine au (.inl rfl) ?_;simp;refine au (.inl rfl) ?_;have f_:=k8.bt;have f8:=k8.tf;have g_:=(v.mem _ (IT (l:=d) (n:=d.length-1) (by omega))).1;simp [u.g5,aM (n:=base-j)];have o:=kC.push [.box [.f (fi (base-j))] 0];refine ih m _ (by omega) ⟨_,(bx+1)::bs,HE.length,_,T,base-j,rfl,⟨by simp [u.g1],by simp [u.g2],by simp [u.g3],by simp [u.g5],by simp [u.g6],by simp [u.g7],by simp⟩,⟨o.h0,o.h1,o.h2,o.h3,by omega,by simp,o.cl⟩,k8,by omega⟩
   ·refine oJ I (by decide) ?_;have kC:=X.set (z:=.lp 130 y [P.nat 54,P.nat 55] cP cQ .exhausted (aa (.exit 0)) (bx+2-1)) I rfl (by simp) (by simp);refine bw rfl ?_;exact zY hp hl v (by omega) kC Z u hQ
  exact range _ (a_ _ (by simp) (by simp) (by simp) (by simp) (by simp) (by simp) (by simp)) (by simp)
 exact⟨q,hq,ha,a,h⟩
theorem lZ(p:aE)(s:cu p=ae)(l:p.a5.length≤256)(m:p.head.length≤1000000):∃ q,lL p q∧q.a5.length≤p.a5.length∧q.head.length≤p.head.length∧bR tab 130 [.a (p.row.map .f)]=Eq (.a (q.row.map .f)):=by
 rcases aks p.a5.length with h | h
 ·obtain⟨q,b,d,g,j⟩:=GY p s (ajW.1 h) m;exact⟨q,b,d,g,j.eq⟩
 ·obtain⟨q,b,d,g,j⟩:=GV p s h l m;exact⟨q,b,d,g,j.eq⟩
theorem QW(p:aE)(d:cu p=ae)(b:p.a5.length≤256)(v:p.head.length≤1000000):∃ q,lL p q∧q.a5.length≤p.a5.length∧q.head.length≤p.head.length∧bR tab 85 [.a (p.row.map .f)]=Eq (.t [.a (q.row.map .f),vi 0]):=by
 obtain⟨q,l,m,s,j⟩:=lZ p d b v;have g:=pR p (lu d);rw [d]at g;refine⟨q,l,m,s,bR.eq (bY rfl rfl fun Q u=>?_)⟩;simp only [aE.row,ajd,ajt]at g j ⊢;apply ai;simp;apply aq;apply ai;simp [g];refine a6 (by simp) ?_;apply ai;simp [j];refine aF (u _ _ ?_);simp [aE.row]
theorem HO{p:aE}(X:cu p=ae){g:Int}(S:0≤g){i:Nat}(hi:i≤p.head.length)(A:∀ j (h:j<p.head.length),j<i→p.head[j]<g)(y:∀ j (h:j<p.head.length),i≤j→g≤p.head[j]){fr:Int}(U:fr=max p.fr g){q:List Int}(l:q.Perm (en p.fr fr p.aJ p.a5))(z:q.Pairwise (·≤·))(H:g≤1099511627776)(I E:Tg) :
  cu ⟨I,p.head.drop i,fr,p.aJ,E,q⟩=ae∧(∀ d,0≤d→bF ⟨I,p.head.drop i,fr,p.aJ,E,q⟩ d=(decide (g≤d)&&bF p d))∧q.length=p.a5.length:=by
 obtain⟨e,f,v,M,n,N,F,O,Q⟩:=aV X;have s:∀ x ∈ p.a5,0≤x∧x<p.aJ:=fun x B=>by have:=Q x B;omega
 obtain⟨Z,c,K⟩:=nH v O s l z;refine⟨oY (by show 0≤fr;omega) (by show fr≤_;omega) v M (by show(p.head.drop i).length+q.length≤_;rw [ajm,K];omega) (N.sublist (List.drop_sublist _ _)) (fun x B=>?_) Z c,fun d hd=>?_,K⟩
 ·have:=F x (ajJ B);exact⟨by omega,by show x<fr;omega⟩
 ·have Y:(d-fr) % p.aJ ∈ q↔rq p.fr p.aJ p.a5 d:=by rw [l.mem_iff];exact tp v s d
  have m:d ∈ p.head.drop i↔g≤d∧d ∈ p.head:=by
   constructor
   ·intro h;obtain⟨j,u,rfl⟩:=ajn h;rw [akB];exact⟨y _ (by simp at u;omega) (by omega),IT _⟩
   ·rintro⟨h,L⟩;obtain⟨j,u,rfl⟩:=ajn L;have W:i≤j:=by
     rcases ajz j i with k | k
     ·have:=A j u k;omega
     ·exact k
    refine List.mem_of_getElem? (i:=j-i) ?_;rw [List.getElem?_drop,show i+(j-i)=j by omega,By u]
  unfold bF;simp only;rw [Bool.eq_iff_iff];simp only [BY,decide_eq_true_eq];by_cases k:fr≤d
  ·rw [ba k,ba (by omega),decide_eq_true_eq,decide_eq_true_eq,Y];exact⟨fun h=>⟨by omega,h⟩,fun h=>h.2⟩
  ·rw [aR k,decide_eq_true_eq,m];by_cases J:p.fr≤d
   ·rw [ba J,decide_eq_true_eq];constructor
    ·rintro⟨a,b⟩;have:=F d b;omega
    ·rintro⟨a,b⟩;omega
   ·rw [aR J,decide_eq_true_eq]
structure LQ(p:aE)(H:an)(b0 bq:Nat)(fr:Int)(c cq:C)(hd jV:List Int)(J:an):Prop where
 hb:b0=H.length
 kp:∀ i:Nat,i<b0→J[i]?=H[i]?
 bp:J[b0]?=aa (.box [.f (sl p.hg (ints p.head)),.f (fi p.fr),.f (fi p.aJ),.f (sl p.cg (ints p.a5))] 0)
 br:J[b0+1]?=aa (.box [.f .aA,.f (fi 0),.f (fi 0),.f .aA] 0)
 bx:J[bq]?=aa (.box [c,.f (fi fr),.f (fi p.aJ),cq] 0)
 big:b0+1<bq
 lc:LR J c 1 (ints hd)
 lq:LR J cq 1 (ints jV)
 ne:∀ i,aS c=aa i→aS cq≠aa i
 cb:∀ i,aS c=aa i→b0+1<i
 qb:∀ i,aS cq=aa i→b0+1<i
theorem LQ.app{p:aE}{H:an}{b0 v:Nat}{fr:Int}{c E:C}{hd jV:List Int}{J:an}(h:LQ p H b0 v fr c E hd jV J)(hl:jV.length≤1000)(n:Int) :
  ∃ m j,bD (J++[.box [.f (fi n)] 0]) 1 8 (.c E) (.c (.sl J.length 0 1 1 0 1))=aa (.c m,j)∧di j (.ptr v 3 0) [m]=aa (j.set v (.box [c,.f (fi fr),.f (fi p.aJ),m] 0))∧LQ p H b0 v fr c m hd (jV++[n]) (j.set v (.box [c,.f (fi fr),.f (fi p.aJ),m] 0)):=by
 obtain⟨B,b⟩:=aL (J++[.box ([fi n].map .f) 0]:an);have M:=aj h.bx;have hg:=h.big;have up:∀(i:Nat) y,J[i]?=aa y→B[i]?=aa y:=fun i y hy=>by rw [b,AT (aj hy)];exact hy
 have x:LR B E 1 (ints jV):=by rw [b];exact h.lq.push _
 have F:B[J.length]?=aa (.box ([fi n].map .f) 0):=by rw [b];simp
 obtain⟨m,j,l,s,q,A⟩:=x.app (Km.Ord.bP jV) (by decide) (row:=[fi n]) rfl (bytes:=8) (dF (by simp [ints];omega) (by decide)) F;have h2:B.length=J.length+1:=by rw [b];simp
 have u:∀(i:Nat) y,J[i]?=aa y→ld y=ae→j[i]?=aa y:=fun i y hy L=>q.2 i y (up _ _ hy) (kX x (up _ _ hy) L);have d:=u _ _ h.bx rfl;have K:ints jV++[[fi n]]=ints (jV++[n]):=by simp [ints]
 rw [K]at s;have z:LR j c 1 (ints hd):=h.lc.bf fun i y hy hi=>q.2 i y (up _ _ hy) (h.ne i hi);refine⟨m,j,by rw [b]at l;exact l,by simp [di,d,over],h.hb,fun i hi=>?_,?_,?_,If (aj d),hg,z.set (z.bh d) _,s.set (s.bh d) _,?_,h.cb,?_⟩
 ·rw [sh (by omega),←h.kp i hi];have I:i<J.length:=by omega
  have hy:J[i]?=aa J[i]:=By I;rw [hy];exact q.2 i _ (up _ _ hy) (fun e=>by have:=h.qb i e;omega)
 ·rw [sh (by omega)];exact u _ _ h.bp rfl
 ·rw [sh (by omega)];exact u _ _ h.br rfl
 ·intro i hi g;rcases A with e | e
  ·rw [e]at g;exact h.ne i hi g
  ·rw [e]at g;cases g;have:=h.lc.lt hi;omega
 ·intro i hi;rcases A with e | e
  ·rw [e]at hi;exact h.qb i hi
  ·rw [e]at hi;cases hi;omega
theorem su(p:aE)(hp:cu p=ae)(n8:p.a5.length≤256)(hl:p.head.length≤1000000)(m:Int)(i9:0≤m)(i_:m≤1099511627776)(H:an) :
  ∃ r H',Ev tab (.fn 150) [.a (p.row.map .f),vi m] H r H'∧(∃ fr c b hd l2,r=.a [c,.f (fi fr),.f (fi p.aJ),b]∧fr=max p.fr m∧H.length≤H'.length∧(∀ i:Nat,i<H.length→H'[i]?=H[i]?)∧LR H' c 1 (ints hd)∧LR H' b 1 (ints l2)∧(∀ i,aS c=aa i→aS b≠aa i)∧(∀ i,aS c=aa i→H.length≤i)∧(∀ i,aS b=aa i→H.length≤i) ∧
   hd.length≤p.head.length∧l2.length=p.a5.length∧∀ S L:Tg,cu ⟨S,hd,fr,p.aJ,L,l2⟩=ae∧∀ d,0≤d→bF ⟨S,hd,fr,p.aJ,L,l2⟩ d=(decide (m≤d)&&bF p d)):=by
 obtain⟨q1,q2,q3,q4,q5,q6,q7,q8,q9⟩:=aV hp;obtain⟨i,hi,j9,j4,i3⟩:=fH p.hg p.head m (by omega) q6;obtain⟨fr,O⟩:=aL (max p.fr m);have f7:max p.fr m=fr:=O.symm;refine cM rfl rfl fun Q hQ=>?_;apply ai;simp [aE.row];obtain⟨A,s⟩:=aL (H++[.box [.f (sl p.hg (ints p.head)),.f (fi p.fr),.f (fi p.aJ),.f (sl p.cg (ints p.a5))] 0,.box [.f .aA,.f (fi 0),.f (fi 0),.f .aA] 0]:an);obtain⟨b0,v⟩:=aL (H.length);rw [←s,←v];have a0:A[b0]?=aa (.box [.f (sl p.hg (ints p.head)),.f (fi p.fr),.f (fi p.aJ),.f (sl p.cg (ints p.a5))] 0):=by rw [s,v];simp
 have a1:A[b0+1]?=aa (.box [.f .aA,.f (fi 0),.f (fi 0),.f .aA] 0):=by rw [s,v,aje (by omega)];simp
 have al:A.length=b0+2:=by rw [s,v];simp
 have ak:∀ i:Nat,i<b0→A[i]?=H[i]?:=fun i hi=>by rw [s,AT (by omega)]
 have I:∀ J:an,J[b0]?=aa (.box [.f (sl p.hg (ints p.head)),.f (fi p.fr),.f (fi p.aJ),.f (sl p.cg (ints p.a5))] 0)→aU J ab (.c (.ptr b0 0 0))=aa (.c (.f (sl p.hg (ints p.head))))∧aU J ab (.c (.ptr b0 1 0))=aa (vi p.fr)∧aU J ab (.c (.ptr b0 2 0))=aa (vi p.aJ)∧aU J ab (.c (.ptr b0 3 0))=aa (.c (.f (sl p.cg (ints p.a5)))):=fun J h=>by
  refine⟨?_,?_,?_,?_⟩<;>simp [aU,aC,h]
 obtain⟨e0,e1,e2,e3⟩:=I A a0;obtain⟨g1,F⟩:=wI (H:=A) (g:=p.hg) (k:=i) (Km.Ord.bP p.head) (by simp [ints];omega) (by simp [ints];omega);have j3:(ints p.head).drop i=ints (p.head.drop i):=by simp [ints,ak0]
 rw [j3]at F;obtain⟨c,Jc,E,a_,d_⟩:=pM (H:=A) (g:=g1) (p.head.drop i) (by simp;omega);obtain⟨HJ,N⟩:=aL (A++Jc:an);rw [←N]at E a_;have u:∀ k:Nat,k<b0+2→HJ[k]?=A[k]?:=fun k q=>by rw [N,AT (by omega)]
 have lJ:b0+2≤HJ.length:=by rw [N,ai7];omega
 obtain⟨f0,f1,f2,f3⟩:=I HJ (by rw [u b0 (by omega)];exact a0);apply ai;simp [e0,-ay,i3];refine aq (eB (.inl rfl) ?_ ?_)
 case refine_2=>
  intro cc i7;have i6:cc=(6,4)∨cc=(10,4):=by simpa using i7
  rcases i6 with rfl | rfl
  ·refine⟨by decide,_,rfl,.inr ⟨by decide,?_⟩⟩;simp [e0,e1,f1,-ay,F,E,fx,pK]
  ·refine⟨by decide,_,rfl,.inr ⟨by decide,?_⟩⟩;simp [e0,e1,e2,f1,f2,-ay,F,E,f7,fx,pK]
 simp [e0,f1,f2,-ay,F,E,f7];obtain⟨K,e_⟩:=aL (HJ.length);obtain⟨HK,B⟩:=aL (HJ++[bZ.box [c,.f (fi fr),.f (fi p.aJ),.f .aA] 0]);have a8:LQ p H b0 K fr c (.f .aA) (p.head.drop i) [] HK:=by
  have w:∀ k:Nat,k<b0+2→HK[k]?=A[k]?:=fun k q=>by rw [B,AT (by omega),u k q]
  refine⟨v,fun k q=>by rw [w k (by omega),ak k q],by rw [w b0 (by omega)];exact a0,by rw [w (b0+1) (by omega)];exact a1,by rw [B,e_];simp,by omega,by rw [B];exact a_.push _,LR.nil _ _,(fun i hi h=>by cases h),fun k q=>by have:=d_ k q;omega,(fun k q=>by cases q)⟩
 rw [←e_,←B];have h_:∀ H:an,bg H (.f (sl p.cg (ints p.a5)))=aa p.a5.length:=fun H=>by simp [ints]
 have j7:=(I HK a8.bp).2.2.2;apply aq;apply ai;simp [j7,-ay,h_];refine bU p.a5.length (fun i' t J=>t.g 2=.c (.ptr b0 0 0)∧t.g 4=.c (.ptr (b0+1) 0 0)∧t.g 7=.c (.ptr K 0 0)∧t.g 30=.c (.f (sl p.cg (ints p.a5)))∧∃ b,LQ p H b0 K fr c b (p.head.drop i) (en p.fr fr p.aJ (p.a5.take i')) J) (by omega) (by decide) (by decide) (by simp) (by simp)
  ⟨by simp,by simp,by simp,by simp,.f .aA,by simpa [en]using a8⟩ ?_ ?_
 ·rintro j t J hj ⟨g2,g4,g7,M,b,l⟩ ha hb next
  have i8:=q9 _ (IT hj);have f_:=fun H:an=>bH (H:=H) (g:=p.cg) (rows:=ints p.a5) (sz:=1) (k:=.i64) (i:=(j:Int)) (by omega) (by simp [ints];omega);have g_:=fun H:an=>dY (H:=H) hj;simp at f_;obtain⟨x,hx⟩:=aL (p.a5[j]);rw [←hx]at i8 g_;have m9:p.a5.take (j+1)=p.a5.take j++[x]:=by rw [aju,By hj,hx];rfl
  have f8:=zn (p.fr+x-fr) p.aJ (by omega) (by omega);obtain⟨c3,H3,d9,l_,k_⟩:=l.app (by simp [en];omega) ((p.fr+x-fr) % p.aJ);have Y:aU J ab (.c (.ptr K 3 0))=aa (.c b):=by simp [aU,aC,l.bx]
  have n6:aU J ab (.c (.ptr K 1 0))=aa (vi fr):=by simp [aU,aC,l.bx]
  obtain⟨-,j1,j2,-⟩:=I J l.bp;refine az ?_;apply ai;simp [ha,M,f_,g_];refine au (.inl rfl) ?_;simp [g2,g7,Y,n6,j1,j2,-ay,aM (n:=p.fr+x),aM (n:=p.fr+x-fr),f8,d9,l_,-bu];refine ax (next _ _ ?_ (by simp [ha]) (by simp [hb]));refine⟨by simp [g2],by simp [g4],by simp [g7],by simp [M],c3,?_⟩;rw [m9];simpa [en]using k_
 ·rintro t J ⟨g2,g4,g7,M,b,l⟩ - -;rw [ajr]at l;obtain⟨r,Z,he,rfl,hK,l2,a7,W,j8⟩:=Tk l.lq (by simp [en];omega);have up:∀(k:Nat) y,J[k]?=aa y→ld y=ae→Z[k]?=aa y:=fun k y X hn=>hK.2 k y X (kX l.lq X hn);have i4:=up _ _ l.bx rfl;have z:=up _ _ l.br rfl;have b_:LR Z c 1 (ints (p.head.drop i)):=l.lc.bf fun k y X q=>hK.2 k y X (l.ne k q);have Y:aU J ab (.c (.ptr K 3 0))=aa (.c b):=by simp [aU,aC,l.bx]
  have m_:aU Z (aa 4) (.c (.ptr K 0 0))=aa (.a [c,.f (fi fr),.f (fi p.aJ),b]):=by simp [aU,aC,i4,aW]
  have s1:di Z (.ptr (b0+1) 0 0) [c,.f (fi fr),.f (fi p.aJ),b]=aa (Z.set (b0+1) (.box [c,.f (fi fr),.f (fi p.aJ),b] 0)):=by simp [di,z,over]
  have n1:(Z.set (b0+1) (.box [c,.f (fi fr),.f (fi p.aJ),b] 0))[b0+1]?=aa (.box [c,.f (fi fr),.f (fi p.aJ),b] 0):=If (aj z);have c9:=b_.set (b_.bh z) (.box [c,.f (fi fr),.f (fi p.aJ),b] 0);have c_:=a7.set (a7.bh z) (.box [c,.f (fi fr),.f (fi p.aJ),b] 0);have n9:=aj z;apply ai;simp [g7,Y,-ay,he.eq];apply ai;simp [g4,g7,m_,s1,-ay,-bu];have U:=fun S L=>HO hp i9 hi j9 j4 O W j8 i_ S L;refine aF (hQ _ _ (.a [c,.f (fi fr),.f (fi p.aJ),b]) rfl ?_ ⟨fr,c,b,p.head.drop i,l2,rfl,O,by simp;omega,fun k q=>?_,c9,c_,l.ne,fun k q=>by have:=l.cb k q;omega,fun k q=>by have:=l.qb k q;omega,by simp,(U .nil .nil).2.2,fun S L=>⟨(U S L).1,(U S L).2.1⟩⟩)
  ·simp [Km.results,cC,aZ,g4,n1,aW]
  ·rw [sh (by omega),←l.kp k (by omega)];have j_:k<J.length:=by have:=aj l.bp;omega
   have X:J[k]?=aa J[k]:=By j_;rw [X];exact hK.2 k _ X (fun e=>by have:=l.qb k e;omega)
theorem sx{J:an}{c:C}{l:List Int}(h:LR J c 1 (ints l)){j:Nat}(B:j<l.length):∃ b g,aS c=aa b∧bz J 1 ab (.c c) (vi j)=aa (.c (.ptr b j g))∧aU J ab (.c (.ptr b j g))=aa (vi l[j]) ∧
  ∀ x:Int,∃ J',di J (.ptr b j g) [.f (fi x)]=aa J'∧LR J' c 1 (ints (l.set j x))∧J'.length=J.length∧∀ i:Nat,i≠b→i<J.length→J'[i]?=J[i]?:=by
 rcases h with⟨A,_⟩ | ⟨s,b,g,rfl,q⟩
 ·cases l with
  | nil=>simp at B| cons a l=>simp [ints]at A
 ·have d:j<(ints l).length:=by simp [ints];omega
  have u:=q.at d;have m:(ints l)[j]=[fi l[j]]:=by simp [ints]
  have v:=q.ldc (Km.Ord.bP l) (By d) (k:=0) (x:=fi l[j]) (by rw [m];rfl);rw [akL]at u v;refine⟨b,g,rfl,u,v,fun x=>?_⟩
  ·obtain⟨J',y,z,F,H⟩:=q.str (row:=[fi x]) (Km.Ord.bP l) d rfl;rw [akL]at y;have e:(ints l).set j [fi x]=ints (l.set j x):=by simp [ints,List.map_set]
   rw [e]at z;refine⟨J',y,.inr ⟨?_,b,g,by simp [ints],z⟩,H,fun i hi E=>F.2 i hi E⟩;intro h;apply s;have:=congrArg List.length h;simp [ints]at this;rw [this];rfl
theorem Iv{p:aE}{hd u:List Int}{fr g:Int}(K:g≤0)(q m:Tg)(J:cu ⟨q,hd,fr,p.aJ,m,u⟩=ae)(N:∀ d,0≤d→bF ⟨q,hd,fr,p.aJ,m,u⟩ d=(decide (-g≤d)&&bF p d))(M:-g≤fr)(j:∀ x ∈ hd,-g≤x) :
  cu ⟨q,hd.map (· + g),fr+g,p.aJ,m,u⟩=ae∧∀ d,0≤d→bF ⟨q,hd.map (· + g),fr+g,p.aJ,m,u⟩ d=bF p (d-g):=by
 obtain⟨O,Q,z,A,B,E,F,H,I⟩:=aV J;simp only at O Q z A B E F H I;refine⟨oY (by show 0≤fr+g;omega) (by show fr+g≤_;omega) z A (by simpa using B) ?_ ?_ H (fun x l=>by have:=I x l;exact⟨by omega,by show x<p.aJ;omega⟩),fun d L=>?_⟩
 ·show(hd.map (· + g)).Pairwise (· < ·);rw [List.pairwise_map];exact alw (fun h=>by omega) E
 ·intro x l;have l:x ∈ hd.map (· + g):=l;obtain⟨y,s,rfl⟩:=ajj.1 l;have a:=F y s;have b:=j y s;exact⟨by omega,by show y+g<fr+g;omega⟩
 ·have v:=N (d-g) (by omega);rw [decide_eq_true (show -g≤d-g by omega),aj6]at v;rw [←v];unfold bF;simp only;by_cases k:fr+g≤d
  ·rw [ba k,ba (by omega),show d-(fr+g)=d-g-fr by omega]
  ·rw [aR k,aR (by omega)];apply decide_eq_decide.2;rw [ajj];constructor
   ·rintro⟨y,s,e⟩;rw [show d-g=y by omega];exact s
   ·intro h;exact⟨_,h,by omega⟩
theorem R6{J:an}{c:C}{l:List Int}(h:LR J c 1 (ints l)):∀(i:Nat) (y:bZ),J[i]?=aa y→aS c≠aa i→(eK deep c J)[i]?=aa y:=by
 rcases h with⟨_,rfl | rfl⟩ | ⟨u,b,s,rfl,q⟩
 ·intro i y d _;exact d
 ·intro i y d _;exact d
 ·unfold RB at q;intro i y d hi;have g:b≠i:=fun e=>hi (by rw [e];rfl);have e:∃ z,eK deep (.sl b 0 (ints l).length 0 s 1) J=J.set b z:=by
   simp only [deep,oT,q];rw [iY]
   ·exact⟨_,rfl⟩
   ·intro x j;have j:=ajJ (aj2 j);obtain⟨m,_,rfl⟩:=ajj.1 j;exact⟨_,rfl⟩
  obtain⟨z,v⟩:=e;rw [v,sh g];exact d
theorem Im(p:aE)(hp:cu p=ae)(d_:p.a5.length≤256)(hl:p.head.length≤1000000)(g:Int)(j8:-1000000≤g)(d9:g≤0) :
  ∃ q,cu q=ae∧q.fr≤p.fr∧q.aJ ∣ p.aJ∧q.a5.length≤p.a5.length∧q.head.length≤p.head.length∧(∀ d,0≤d→bF q d=bF p (d-g))∧bR tab 106 [.a (p.row.map .f),vi g]=Eq (.t [.a (q.row.map .f),vi 0]):=by
 obtain⟨q1,q2,q3,q4,q5,q6,q7,q8,q9⟩:=aV hp;have hv:=pR p (lu hp);rw [hp]at hv;obtain⟨rr,⟨q,c1,c2,c3,c4,c5,c6,rfl⟩,h⟩:∃ rr,(∃ q,cu q=ae∧q.fr≤p.fr∧q.aJ ∣ p.aJ∧q.a5.length≤p.a5.length∧q.head.length≤p.head.length∧(∀ d,0≤d→bF q d=bF p (d-g))∧rr=.t [.a (q.row.map .f),vi 0])∧bR tab 106 [.a (p.row.map .f),vi g] rr:=by
  refine fu rfl rfl fun Q hQ=>?_;obtain⟨HA,L⟩:=aL ([.box [.f (sl p.hg (ints p.head)),.f (fi p.fr),.f (fi p.aJ),.f (sl p.cg (ints p.a5))] 0,.box [.f .aA,.f (fi 0),.f (fi 0),.f .aA] 0]:an);obtain⟨r,HL,u,fr,c,E,hd,l2,rfl,j_,j3,g_,c9,c_,w,j9,m9,k_,l_,m⟩:=su p hp d_ hl (-g) (by omega) (by omega) HA;have u:=u.eq;simp only [aE.row,ajd,ajt]at u hv ⊢;have j4:HA.length=2:=by rw [L];rfl
  have N:∀ x ∈ hd,-g≤x:=fun x hx=>by
   obtain⟨a,b⟩:=m .nil .nil;obtain⟨-,-,-,-,-,-,k7,-,-⟩:=aV a;have h7:=k7 x hx;simp only at h7;have hb:=b x (by omega);have hm:bF ⟨.nil,hd,fr,p.aJ,.nil,l2⟩ x=ae:=by
    unfold bF;simp only;rw [aR (by omega)];simpa using hx
   rw [hm]at hb;have:=hb.symm;rw [BY,decide_eq_true_eq]at this;exact this.1
  have i3:∀ x ∈ hd,x≤2000000000000:=fun x hx=>by
   obtain⟨-,-,-,-,-,-,k7,-,-⟩:=aV (m .nil .nil).1;have h7:=k7 x hx;simp only at h7;omega
  apply ai;simp;apply aq;apply ai;simp [hv,show¬ g < -1099511627776 by omega,show¬ 1099511627776<g by omega];refine a6 (by simp) ?_;rw [←L];have a0:HA[0]?=aa (.box [.f (sl p.hg (ints p.head)),.f (fi p.fr),.f (fi p.aJ),.f (sl p.cg (ints p.a5))] 0):=by rw [L];rfl
  have a1:HA[1]?=aa (.box [.f .aA,.f (fi 0),.f (fi 0),.f .aA] 0):=by rw [L];rfl
  have h_:max (-g) 0 = -g:=by omega
  have a7:unV .neg (vi g)=aa (vi (-g)):=by
   show aa (vi (IntKind.i64.wrap (0-g)))=_;rw [Int.zero_sub,aM]
  apply ai;simp [a0,aW,a7,h_,u];obtain⟨l,k⟩:=aL (HL.length);rw [←k];obtain⟨K,U⟩:∃ K:Int→List Int→an→Prop,K=fun f h J=>J[1]?=aa (.box [.f .aA,.f (fi 0),.f (fi 0),.f .aA] 0)∧J[l]?=aa (.box [c,.f (fi f),.f (fi p.aJ),E] 0)∧LR J c 1 (ints h)∧LR J E 1 (ints l2):=⟨_,rfl⟩
  have k0:K fr hd (HL++[.box [c,.f (fi fr),.f (fi p.aJ),E] 0]):=by
   rw [U];exact⟨by rw [AT (by omega),g_ 1 (by omega)];exact a1,by rw [k];simp,c9.push _,c_.push _⟩
  generalize HL++[bZ.box [c,.f (fi fr),.f (fi p.aJ),E] 0]=H1 at k0 ⊢;have o:∀ f h J,K f h J→∀ Y,di J (.ptr l 1 0) [.f (fi Y)]=aa (J.set l (.box [c,.f (fi Y),.f (fi p.aJ),E] 0))∧K Y h (J.set l (.box [c,.f (fi Y),.f (fi p.aJ),E] 0)):=by
   intro f h J z Y;rw [U]at z ⊢;obtain⟨F,s,v,H⟩:=z;refine⟨by simp [di,s,over],by rw [sh (by omega)];exact F,If (aj s),v.set (v.bh s) _,H.set (H.bh s) _⟩
  have M:∀ f h J,K f h J→aU J ab (.c (.ptr l 0 0))=aa (.c c)∧aU J ab (.c (.ptr l 1 0))=aa (vi f)∧aU J (aa 4) (.c (.ptr l 0 0))=aa (.a [c,.f (fi f),.f (fi p.aJ),E])∧bg J c=aa h.length:=by
   intro f h J z;rw [U]at z;obtain⟨F,s,v,H⟩:=z;refine⟨?_,?_,?_,?_⟩
   ·simp [aU,aC,s]
   ·simp [aU,aC,s]
   ·simp [aU,aC,s,aW]
   ·have:=v.len;simpa [ints]using this
  obtain⟨-,e1,-,-⟩:=M _ _ _ k0;obtain⟨s1,k1⟩:=o _ _ _ k0 (fr+g);apply ai;simp [e1,-ay,aM (n:=fr+g),s1,-bu];generalize H1.set l (.box [c,.f (fi (fr+g)),.f (fi p.aJ),E] 0)=H2 at k1 ⊢;obtain⟨f0,-,-,fl⟩:=M _ _ _ k1;apply aq;apply ai;simp [f0,-ay,fl];refine bU hd.length (fun j t J=>t.g 1=vi g∧t.g 4=.c (.ptr 1 0 0)∧t.g 6=.c (.ptr l 0 0)∧K (fr+g) ((hd.take j).map (· + g)++hd.drop j) J) (by omega) (by decide) (by decide) (by simp) (by simp) ⟨by simp,by simp,by simp,by simpa using k1⟩ ?_ ?_
  ·rintro j t J hj ⟨g1,g4,S,z⟩ ha hb next
   have f_:j<((hd.take j).map (· + g)++hd.drop j).length:=by simp;omega
   have a_:((hd.take j).map (· + g)).length=j:=by simp;omega
   have f8:((hd.take j).map (· + g)++hd.drop j)[j]=hd[j]:=by
    rw [List.getElem_append_right (by omega)];simp only [a_,Nat.sub_self,akB,Nat.add_zero]
   have m_:=N _ (IT hj);have n6:=i3 _ (IT hj);obtain⟨i4,-,-,-⟩:=M _ _ _ z;have B:=z;rw [U]at B;obtain⟨F,s,v,H⟩:=B;obtain⟨b,ep,ub,ix,b_,i_⟩:=sx v f_;rw [f8]at b_;obtain⟨J',us,uL,ul,uk⟩:=i_ (hd[j]+g);have a8:((hd.take j).map (· + g)++hd.drop j).set j (hd[j]+g)=(hd.take (j+1)).map (· + g)++hd.drop (j+1):=by
    rw [List.set_append_right _ _ (by omega),a_,Nat.sub_self,aju,By hj,List.drop_eq_getElem_cons hj];simp only [List.set_cons_zero,Option.toList_some,List.map_append,ajd,ajt,ajI,List.cons_append,List.nil_append]
   rw [a8]at uL;refine az ?_;apply ai;simp [ha];refine au (.inl rfl) ?_;simp [g1,S,i4,ix,b_,-ay,aM (n:=hd[j]+g),us,-bu];refine ax (next _ _ ?_ (by simp [ha]) (by simp [hb]));refine⟨by simp [g1],by simp [g4],by simp [S],?_⟩;rw [U];refine⟨?_,?_,uL,H.bf fun i y O hi=>?_⟩
   ·rw [uk 1 (fun e=>by have:=v.bh F;exact this (e▸ub)) (aj F)];exact F
   ·rw [uk l (fun e=>by have:=v.bh s;exact this (e▸ub)) (aj s)];exact s
   ·rw [uk i (fun e=>w b ub (e▸hi)) (aj O)];exact O
  ·rintro t J ⟨g1,g4,S,z⟩ - -;rw [ajr,List.drop_length,ajP]at z;obtain⟨-,-,i6,-⟩:=M _ _ _ z;have B:=z;rw [U]at B;obtain⟨F,s,v,H⟩:=B;obtain⟨g3,e_⟩:=v.XY (Km.Ord.bP _);obtain⟨I,f7⟩:=H.XY (Km.Ord.bP _);have x3:=e_ J 63 (fun i y O _=>O);have x4:=f7 J 63 (fun i y O _=>O);obtain⟨i8,i9⟩:=Iv (p:=p) d9 g3 I (m g3 I).1 (m g3 I).2 (by omega) N;obtain⟨q,⟨d1,d2,d3,d4⟩,d5,d6,A⟩:=lZ ⟨g3,hd.map (· + g),fr+g,p.aJ,I,l2⟩ i8 (by show l2.length≤_;omega) (by show(hd.map (· + g)).length≤_;simp;omega);simp only [aE.row,ajd,ajt]at A d2 d3 d5 d6;simp only [List.length_map]at d6;have u3:∀(i:Nat) (y:bZ),J[i]?=aa y→aS c≠aa i→(eK deep c J)[i]?=aa y:=R6 v;apply aq;apply ai;simp only [deep]at u3 A;have i7:LR (eK 64 c J) E 1 (ints l2):=H.bf fun i y O hi=>u3 i y O (fun e=>w i e hi);have u4:=R6 i7;simp only [deep]at u4;have w1:=u4 1 _ (u3 1 _ F (v.bh F)) (H.bh F);have w2:=u4 l _ (u3 l _ s (v.bh s)) (H.bh s);obtain⟨W,Z⟩:=aL (eK 64 E (eK 64 c J));rw [←Z]at w1 w2;obtain⟨QC,j7⟩:=aL ([.f (sl q.hg (ints q.head)),.f (fi q.fr),.f (fi q.aJ),.f (sl q.cg (ints q.a5))]:List C);have t1:di W (.ptr l 0 0) [.f (sl q.hg (ints q.head)),.f (fi q.fr),.f (fi q.aJ),.f (sl q.cg (ints q.a5))]=aa (W.set l (.box [.f (sl q.hg (ints q.head)),.f (fi q.fr),.f (fi q.aJ),.f (sl q.cg (ints q.a5))] 0)):=by simp [di,w2,over]
   have t2:(W.set l (.box [.f (sl q.hg (ints q.head)),.f (fi q.fr),.f (fi q.aJ),.f (sl q.cg (ints q.a5))] 0))[l]?=aa (.box [.f (sl q.hg (ints q.head)),.f (fi q.fr),.f (fi q.aJ),.f (sl q.cg (ints q.a5))] 0):=If (aj w2);have t3:(W.set l (.box [.f (sl q.hg (ints q.head)),.f (fi q.fr),.f (fi q.aJ),.f (sl q.cg (ints q.a5))] 0))[1]?=aa (.box [.f .aA,.f (fi 0),.f (fi 0),.f .aA] 0):=by rw [sh (by omega)];exact w1
   simp [S,i6,-ay,x3,x4,deep,A,←Z,t1,-bu];generalize W.set l (.box [.f (sl q.hg (ints q.head)),.f (fi q.fr),.f (fi q.aJ),.f (sl q.cg (ints q.a5))] 0)=X at t2 t3 ⊢;have l1:aU X ab (.c (.ptr l 1 0))=aa (vi q.fr):=by simp [aU,aC,t2]
   have l4:aU X (aa 4) (.c (.ptr l 0 0))=aa (.a [.f (sl q.hg (ints q.head)),.f (fi q.fr),.f (fi q.aJ),.f (sl q.cg (ints q.a5))]):=by simp [aU,aC,t2,aW]
   have s4:di X (.ptr 1 0 0) [.f (sl q.hg (ints q.head)),.f (fi q.fr),.f (fi q.aJ),.f (sl q.cg (ints q.a5))]=aa (X.set 1 (.box [.f (sl q.hg (ints q.head)),.f (fi q.fr),.f (fi q.aJ),.f (sl q.cg (ints q.a5))] 0)):=by simp [di,t3,over]
   have n1:(X.set 1 (.box [.f (sl q.hg (ints q.head)),.f (fi q.fr),.f (fi q.aJ),.f (sl q.cg (ints q.a5))] 0))[1]?=aa (.box [.f (sl q.hg (ints q.head)),.f (fi q.fr),.f (fi q.aJ),.f (sl q.cg (ints q.a5))] 0):=If (aj t3);apply ai;simp [S,l1,-ay,show¬ 1099511627776<q.fr by omega];refine a6 (by simp) ?_;apply ai;simp [g4,S,l4,s4,-ay,-bu];refine aF (hQ _ _ _ ⟨q,d1,by omega,d3,by omega,by omega,fun d hd=>?_,rfl⟩ ?_)
   ·rw [d4 d hd];exact i9 d hd
   ·simp [g4,n1,aE.row]
 exact⟨q,c1,c2,c3,c4,c5,c6,h.eq⟩
theorem ZA{a b:Int}(y:1≤a)(a1:a≤1000)(b0:1≤b)(m:b≤1000):bR tab 137 [vi a,vi b]=Eq (.t [vi (a / (ajU a b:Int)*b),vi 0]):=by
 obtain⟨g,l⟩:=aL ((ajU a b:Int):Int);have j:ajU a b=akb a.toNat b.toNat:=by
  show akb a.natAbs b.natAbs=_;rw [show a.natAbs=a.toNat by omega,show b.natAbs=b.toNat by omega]
 have q:0<g:=by have:=akg b (show a≠0 by omega);omega
 have d:bR tab 122 [vi a,vi b]=Eq (vi g):=by
  have h:=vV (a:=a.toNat) (b:=b.toNat) (by omega) (by omega);rw [show((a.toNat:Nat):Int)=a by omega,show((b.toNat:Nat):Int)=b by omega,←j,←l]at h;exact h
 rw [←l];have v:bM .quo (vi a) (vi g)=aa (vi (a / g)):=e9 (by omega) q (by omega);have x:bM .quo (vi 1099511627776) (vi b)=aa (vi (1099511627776 / b)):=e9 (by omega) (by omega) (by omega);have s:0≤a / g:=ake (by omega) (by omega);have z:a / g≤a:=akm _ (by omega);have A:a / g≤1099511627776 / b:=by
  have:1000≤1099511627776 / b:=by rw [Int.le_ediv_iff_mul_le (by omega)];omega
  omega
 have B:0≤a / g*b:=akf s (by omega);have E:a / g*b≤1000*1000:=ako (by omega) m (by omega) (by omega);refine bR.eq (bY rfl rfl fun Q u=>?_);apply ai;simp;apply aq;apply ai;simp [show¬ a<1 by omega,show¬ b<1 by omega];refine a6 (by simp) ?_;apply ai;simp [d,v];apply aq;apply ai;simp [x,show¬ 1099511627776 / b<a / g by omega];refine a6 (by simp) ?_;apply ai;simp [aM (n:=a / g*b)];refine aF (u _ _ ?_);simp
theorem vf(p:aE)(s:cu p=ae)(A:p.a5.length≤1000)(B:p.head.length≤1000)(n:Int)(q:0≤n)(E:n≤1000000):∃ k:Int,0≤k∧k≤2000+n*1000∧bR tab 178 [.a (p.row.map .f),vi n]=Eq (vi k):=by
 obtain⟨F,H,I,J,K,u,L,v,M⟩:=aV s;by_cases k:n≤p.fr
 ·obtain⟨i,l,-,-,b⟩:=fH p.hg p.head n (by omega) u;refine⟨i,by omega,by omega,bR.eq (bY rfl rfl fun Q d=>?_)⟩;apply ai;simp [aE.row];apply aq;apply ai;simp [k];refine aw (by simp) ?_;apply ai;simp [b];apply ai;simp;refine aF (d _ _ ?_);simp
 ·obtain⟨i,l,-,-,b⟩:=fH p.cg p.a5 ((n-p.fr) % p.aJ) (by omega) v;have g:bM .rem (vi (n-p.fr)) (vi p.aJ)=aa (vi ((n-p.fr) % p.aJ)):=eP (by omega) (by omega);have j:bM .quo (vi (n-p.fr)) (vi p.aJ)=aa (vi ((n-p.fr) / p.aJ)):=e9 (by omega) (by omega) (by omega);have m:0≤(n-p.fr) / p.aJ:=ake (by omega) (by omega);have x:(n-p.fr) / p.aJ≤n-p.fr:=akm _ (by omega);have y:0≤(n-p.fr) / p.aJ*(p.a5.length:Int):=akf m (by omega);have z:(n-p.fr) / p.aJ*(p.a5.length:Int)≤n*1000:=ako (by omega) (by omega) (by omega) (by omega);refine⟨p.head.length+(n-p.fr) / p.aJ*(p.a5.length:Int)+i,by omega,by omega,bR.eq (bY rfl rfl fun Q d=>?_)⟩;apply ai;simp [aE.row];apply aq;apply ai;simp [k];refine a6 (by simp) ?_;apply ai;simp [aM (n:=n-p.fr),g,b];apply ai;simp [aM (n:=n-p.fr),j,aM (n:=(n-p.fr) / p.aJ*(p.a5.length:Int)),aM (n:=(p.head.length:Int)+(n-p.fr) / p.aJ*(p.a5.length:Int)),aM (n:=(p.head.length:Int)+(n-p.fr) / p.aJ*(p.a5.length:Int)+i)];refine aF (d _ _ ?_);simp
theorem rB{b:Type}{f:b→b→Bool}:∀ {xs:List b},(∀ x ∈ xs,f x x=ae)→nE f xs xs=ae
 | [],_=>rfl| x::xs,h=>by simp only [nE,h x ajc,rB fun y d=>h y (ajb _ d),Bool.and_self]
def Rf(n:Nat)(x:FC):Prop:=FC.beq n x x=ae
theorem AQ(n:Nat)(k:IntKind)(m:Int):Rf n (.int k m):=by unfold Rf;cases n<;>simp [FC.beq]
theorem ag1{n:Nat}{xs:List FC}{l:Nat}(h:∀ x ∈ xs,Rf n x):Rf (n+1) (.fs xs l):=by unfold Rf;simp [FC.beq,rB h]
theorem ag2{n:Nat}{rows:List (List FC)}(g:Tg)(h:∀ r ∈ rows,∀ x ∈ r,Rf n x):Rf (n+1) (sl g rows):=by
 unfold sl;split
 ·unfold Rf;cases g<;>rfl
 ·exact ag1 fun x b=>by
   obtain⟨r,d,b⟩:=List.mem_flatten.1 b;exact h r d x b
theorem Cf(n:Nat)(g:Tg)(l:List Int):Rf (n+1) (sl g (ints l)):=ag2 g fun r d x b=>by
 obtain⟨k,-,rfl⟩:=ajj.1 d;simp at b;subst b;exact AQ _ _ _
theorem adQ{n:Nat}(p:aE):∀ x ∈ p.row,Rf (n+1) x:=by
 intro x b;simp [aE.row]at b;rcases b with rfl | rfl | rfl | rfl
 ·exact Cf _ _ _
 ·exact AQ _ _ _
 ·exact AQ _ _ _
 ·exact Cf _ _ _
theorem XB:∀ {xs:List FC},(∀ x ∈ xs,Rf 64 x)→V.beq (.a (xs.map .f)) (.a (xs.map .f))=ae:=by
 intro xs h;simp only [V.beq,BY,beq_self_eq_true,true_and,aji];intro q b;obtain⟨i,hi,rfl⟩:=ajn b;rw [List.getElem_zip];simp only [List.getElem_map,C.beq];exact h _ (IT _)
theorem Bv(p:aE):V.beq (.a [.f (sl p.hg (ints p.head)),.f (fi p.fr),.f (fi p.aJ),.f (sl p.cg (ints p.a5))]) (.a [.f (sl p.hg (ints p.head)),.f (fi p.fr),.f (fi p.aJ),.f (sl p.cg (ints p.a5))])=ae:=XB (xs:=p.row) (adQ (n:=63) p)
def As(l:List (Int × C)):List (FC × C):=l.map fun e=>(fi e.1,e.2)
def HS(k:Int):List (Int × C)→Option C
 | []=>ab| e::b=>if k=e.1 then aa e.2 else HS k b
def sS(k:Int)(c:C):List (Int × C)→List (Int × C)
 | []=>[(k,c)]| e::b=>if k=e.1 then(k,c)::b else e::sS k c b
theorem BE(a b:Int):eqK .int (fi a) (fi b)=aa (decide (a=b)):=by
 simp only [eqK,if_true];by_cases h:a=b
 ·simp [h]
 ·simp [h]
theorem BJ(k:Int):∀ l,nN .int (fi k) (As l)=aa (HS k l)
 | []=>rfl
 | e::d=>by
  have b:=BJ k d;simp only [As,ajd,nN,BE,HS]at b ⊢;by_cases h:k=e.1
  ·rw [ba h,decide_eq_true h]
  ·rw [aR h,decide_eq_false h];exact b
theorem SV(k:Int)(c:C):∀ l,qD .int (fi k) c (As l)=aa (As (sS k c l))
 | []=>rfl
 | e::d=>by
  have b:=SV k c d;simp only [As,ajd,qD,BE,sS]at b ⊢;by_cases h:k=e.1
  ·rw [ba h,decide_eq_true h];rfl
  ·rw [aR h,decide_eq_false h];simp only [b];rfl
theorem R5(k k':Int)(c:C):∀ l,HS k' (sS k c l)=if k'=k then aa c else HS k' l
 | []=>by simp [sS,HS]
 | e::d=>by
  have g:=R5 k k' c d;unfold sS;by_cases h:k=e.1
  ·rw [ba h];by_cases b:k'=k
   ·simp [HS,b]
   ·have:¬ k'=e.1:=by omega
    simp [HS,b,this]
  ·rw [aR h];unfold HS;rw [g];by_cases b:k'=e.1
   ·have:¬ k'=k:=by omega
    simp [b,this];intro e;omega
   ·simp [b]
def nz(l:List (Int × C))(k:Int):C:=(HS k l).getD (.f .aA)
theorem vL(l:List (Int × C))(k k':Int)(c:C):nz (sS k c l) k'=if k'=k then c else nz l k':=by
 unfold nz;rw [R5];by_cases h:k'=k<;>simp [h]
structure jr(J:an)(N:Nat)(l:List (Int × C))(F:Int→List Int):Prop where
 lr:∀ k,LR J (nz l k) 1 (ints (F k))
 lo:∀ k i,aS (nz l k)=aa i→N≤i
 ne:∀ k k' i,k≠k'→aS (nz l k)=aa i→aS (nz l k')≠aa i
theorem jr.bf{J J':an}{N:Nat}{l:List (Int × C)}{F:Int→List Int}(h:jr J N l F)(b:∀ i y,N≤i→J[i]?=aa y→J'[i]?=aa y):jr J' N l F:=
 ⟨fun k=>(h.lr k).bf fun i y hy hi=>b i y (h.lo k i hi) hy,h.lo,h.ne⟩
theorem aad{J:an}{c:C}{l:List Int}(h:LR J c 1 (ints l)):mV c=.c c∧qn (.c c)=aa c:=by
 rcases h with⟨_,rfl | rfl⟩ | ⟨_,b,d,rfl,_⟩<;>exact⟨rfl,rfl⟩
theorem jr.look{J:an}{N:Nat}{l:List (Int × C)}{F:Int→List Int}(h:jr J N l F){J':an}{m:Nat}(b:J'[m]?=aa (.map (As l)))(k:Int):gQ J' .int .aA (.c (.mp m)) (vi k)=aa (.c (nz l k)):=by
 have h2:=(aad (h.lr k)).1;unfold gQ;simp only [b,isKey,if_true,BJ,ajK,lkR,pN,nz];unfold nz at h2;cases hc:HS k l with
 | none=>rfl| some c=>rw [hc]at h2;simpa using h2
theorem jr.nil(J:an)(N:Nat):jr J N [] (fun _=>[]):=⟨fun _=>LR.nil _ _,fun _ _ h=>by simp [nz,HS,aS]at h,fun _ _ _ _ h=>by simp [nz,HS,aS]at h⟩
theorem oN{J:an}{c:C}{l:List Int}(h:LR J c 1 (ints l))(F:l.length≤1000000)(n:Int) :
  ∃ j g,bD (J++[.box [.f (fi n)] 0]) 1 8 (.c c) (.c (.sl J.length 0 1 1 0 1))=aa (.c j,g)∧LR g j 1 (ints (l++[n]))∧J.length<g.length∧(∀(i:Nat) y,J[i]?=aa y→aS c≠aa i→g[i]?=aa y)∧(aS j=aS c∨aS j=aa (J.length+1)):=by
 obtain⟨u,b⟩:=aL (J++[.box ([fi n].map .f) 0]:an);have E:∀(i:Nat) y,J[i]?=aa y→u[i]?=aa y:=fun i y v=>by rw [b,AT (aj v)];exact v
 have x:LR u c 1 (ints l):=by rw [b];exact h.push _
 have z:u[J.length]?=aa (.box ([fi n].map .f) 0):=by rw [b];simp
 have B:u.length=J.length+1:=by rw [b];simp
 obtain⟨j,g,d,q,m,s⟩:=x.app (Km.Ord.bP l) (by decide) (row:=[fi n]) rfl (bytes:=8) (dF (by simp [ints];omega) (by decide)) z;have A:ints l++[[fi n]]=ints (l++[n]):=by simp [ints]
 rw [A]at q;refine⟨j,g,by rw [b]at d;exact d,q,by have:=m.1;omega,fun i y v hi=>m.2 i y (E i y v) hi,?_⟩;rw [B]at s;exact s
theorem jr.app{J:an}{N m:Nat}{l:List (Int × C)}{F:Int→List Int}(h:jr J N l F)(W:J[m]?=aa (.map (As l)))(O:m<N)(X:N≤J.length)(k:Int)(hl:(F k).length≤1000000)(n:Int) :
  ∃ g j,bD (J++[.box [.f (fi n)] 0]) 1 8 (.c (nz l k)) (.c (.sl J.length 0 1 1 0 1))=aa (.c g,j)∧qn (.c g)=aa g∧j[m]?=aa (.map (As l))∧(∀ i:Nat,i<N→j[i]?=J[i]?) ∧
   jr (j.set m (.map (As (sS k g l)))) N (sS k g l) (fun k'=>if k'=k then F k++[n]else F k')∧N≤(j.set m (.map (As (sS k g l)))).length:=by
 obtain⟨g,j,v,u,S,A,z⟩:=oN (h.lr k) hl n;have U:∀ i:Nat,i<N→j[i]?=J[i]?:=fun i hi=>by
  have L:i<J.length:=by omega
  have hy:J[i]?=aa J[i]:=By L;rw [hy];exact A i _ hy fun e=>by have:=h.lo k i e;omega
 have d:∀ i,aS g=aa i→N≤i:=fun i hi=>by
  rcases z with e | e
  ·rw [e]at hi;exact h.lo k i hi
  ·rw [e]at hi;cases hi;omega
 have M:j[m]?=aa (.map (As l)):=by rw [U m O];exact W
 refine⟨g,j,v,(aad u).2,M,U,⟨fun k'=>?_,fun k' i hi=>?_,fun Q I i B hi=>?_⟩,by rw [ajp];omega⟩
 ·rw [vL];by_cases e:k'=k
  ·rw [ba e,ba e];exact u.set (fun x=>by have:=d m x;omega) _
  ·rw [aR e,aR e];refine LR.set ((h.lr k').bf fun i y hy hi=>A i y hy (h.ne k' k i e hi)) (fun x=>by have:=h.lo k' m x;omega) _
 ·rw [vL]at hi;by_cases e:k'=k
  ·rw [ba e]at hi;exact d i hi
  ·rw [aR e]at hi;exact h.lo k' i hi
 ·rw [vL]at hi ⊢;have b:∀ E,E≠k→∀ i,aS (nz l E)=aa i→aS g≠aa i:=fun E K i hi e=>by
   rcases z with q | q
   ·rw [q]at e;exact h.ne E k i K hi e
   ·rw [q]at e;cases e;have:=(h.lr E).lt hi;omega
  by_cases H:Q=k
  ·have s:¬ I=k:=fun e=>B (H.trans e.symm);rw [ba H]at hi;rw [aR s];exact fun q=>b I s i q hi
  ·rw [aR H]at hi;by_cases s:I=k
   ·rw [ba s];exact b Q H i hi
   ·rw [aR s];exact h.ne Q I i B hi
theorem Z3(t:T)(H:an):bC t H .jX=aa (.c (.mp H.length),H++[.map []]):=rfl
theorem mJ(t:T)(H:an)(b:CK)(z:FC)(m k:Arg):bC t H (.lookup b z m k)=(gQ H b z (m.ev t) (k.ev t)).map (·,H):=rfl
def wi(H:an)(g:CK):V→V→V→Option (V × an)
 | .c (.mp b),.c (.f k),v=>match qn v,H[b]? with
  | some v,aa (.map d)=>if isKey g k then(qD g k v d).map fun d=>(.top,H.set b (.map d))else ab
  | _,_=>ab
 | _,_,_=>ab
theorem Z2(t:T)(H:an)(b:CK)(m k v:Arg):bC t H (.lN b m k v)=wi H b (m.ev t) (k.ev t) (v.ev t):=by
 simp only [bC];unfold wi;split<;>split<;>simp_all
 all_goals (split<;>simp_all)
def b7(b d:aE)(st:Int)(j l:C)(g:Int)(m:Nat):List C:=[.f (sl b.hg (ints b.head)),.f (fi b.fr),.f (fi b.aJ),.f (sl b.cg (ints b.a5)),.f (sl d.hg (ints d.head)),.f (fi d.fr),.f (fi d.aJ),.f (sl d.cg (ints d.a5)),.f (fi st),j,l,.f (fi g),.mp m]
def zG:List C:=[.f .aA,.f (fi 0),.f (fi 0),.f .aA,.f .aA,.f (fi 0),.f (fi 0),.f .aA,.f (fi 0),.f .aA,.f .aA,.f (fi 0),.f .oV]
def ju(g:Int)(Y:List Int)(k:Int):List Int:=Y.filter fun y=>decide (y % g=k)
structure PH(J:an)(N:Nat)(X Y:List Int)(g:Int)(l:List (Int × C))(cx cy:C)(m:Nat):Prop where
 lx:LR J cx 1 (ints X)
 ly:LR J cy 1 (ints Y)
 mp:J[m]?=aa (.map (As l))
 ok:jr J N l (ju g Y)
theorem PH.bf{J J':an}{N:Nat}{X Y:List Int}{g:Int}{l:List (Int × C)}{d j:C}{m:Nat}(h:PH J N X Y g l d j m)(q:∀ i:Nat,i<J.length→J'[i]?=J[i]?):PH J' N X Y g l d j m:=by
 have b:∀(i:Nat) y,J[i]?=aa y→J'[i]?=aa y:=fun i y hy=>by rw [q i (aj hy)];exact hy
 exact⟨h.lx.bf fun i y hy _=>b i y hy,h.ly.bf fun i y hy _=>b i y hy,b _ _ h.mp,h.ok.bf fun i y _ hy=>b i y hy⟩
def xO(q:aE)(st:Int)(X:List Int):Prop:=X.length=q.a5.length∧X.Pairwise (· < ·)∧(∀ x ∈ X,0≤x∧x<q.aJ)∧∀ d,st≤d→(bF q d=ae↔(d-st) % q.aJ ∈ X)
theorem qF{q:aE}{st fr:Int}{hd b:List Int}(v:q.fr≤st)(B:0≤st)(s:fr=max q.fr st)(u:b.length=q.a5.length)(h:∀ j g:Tg,cu ⟨j,hd,fr,q.aJ,g,b⟩=ae∧∀ d,0≤d→bF ⟨j,hd,fr,q.aJ,g,b⟩ d=(decide (st≤d)&&bF q d)):xO q st b:=by
 obtain⟨l,m⟩:=h .nil .nil;obtain⟨E,F,H,I,J,K,L,z,A⟩:=aV l;have e:fr=st:=by omega
 subst e;refine⟨u,z,fun x y=>by have:=A x y;exact⟨by omega,this.2⟩,fun d hd=>?_⟩;have:=m d (by omega);rw [decide_eq_true hd,aj6]at this;rw [←this];unfold bF;simp only;rw [ba hd,decide_eq_true_eq]
structure NQ(H:an)(qa qb:aE)(st:Int)(X Y:List Int)(g:Int)(N bp m j:Nat)(cx cy:C)(l:List (Int × C))(J:an):Prop where
 kp:∀ i:Nat,i<H.length→J[i]?=H[i]?
 br:J[H.length+2]?=aa (.box zG 0)
 bp:J[bp]?=aa (.box (b7 qa qb st cx cy g m) 0)
 lx:LR J cx 1 (ints X)
 ly:LR J cy 1 (ints Y)
 mp:J[m]?=aa (.map (As l))
 ok:jr J N l (ju g (Y.take j))
 len:N≤J.length
theorem uU{a b c:Int}:wj ag [vi a,vi b,vi c]=aa (vi (max (max a b) c)):=by
 have d:(if a<b then b else a)=max a b:=by split<;>omega
 have g:(if max a b<c then c else max a b)=max (max a b) c:=by split<;>omega
 simp only [wj,qB,uT];simp [d,g,V.int]
structure LdP(J:an)(bp:Nat)(qa qb:aE)(st:Int)(cx cy:C)(g:Int)(m:Nat):Prop where
 la:aU J (aa 4) (.c (.ptr bp 0 0))=aa (.a [.f (sl qa.hg (ints qa.head)),.f (fi qa.fr),.f (fi qa.aJ),.f (sl qa.cg (ints qa.a5))])
 lb:aU J (aa 4) (.c (.ptr bp 4 0))=aa (.a [.f (sl qb.hg (ints qb.head)),.f (fi qb.fr),.f (fi qb.aJ),.f (sl qb.cg (ints qb.a5))])
 laf:aU J ab (.c (.ptr bp 1 0))=aa (vi qa.fr)
 lap:aU J ab (.c (.ptr bp 2 0))=aa (vi qa.aJ)
 lbf:aU J ab (.c (.ptr bp 5 0))=aa (vi qb.fr)
 lbp:aU J ab (.c (.ptr bp 6 0))=aa (vi qb.aJ)
 jV:aU J ab (.c (.ptr bp 8 0))=aa (vi st)
 lx:aU J ab (.c (.ptr bp 9 0))=aa (.c cx)
 ly:aU J ab (.c (.ptr bp 10 0))=aa (.c cy)
 lg:aU J ab (.c (.ptr bp 11 0))=aa (vi g)
 lm:aU J ab (.c (.ptr bp 12 0))=aa (.c (.mp m))
 RX:aU J (aa 13) (.c (.ptr bp 0 0))=aa (.a (b7 qa qb st cx cy g m))
 s8:∀ z:Int,di J (.ptr bp 8 0) [.f (fi z)]=aa (J.set bp (.box (b7 qa qb z cx cy g m) 0))
 s9:∀ z:C,di J (.ptr bp 9 0) [z]=aa (J.set bp (.box (b7 qa qb st z cy g m) 0))
 s10:∀ z:C,di J (.ptr bp 10 0) [z]=aa (J.set bp (.box (b7 qa qb st cx z g m) 0))
 s11:∀ z:Int,di J (.ptr bp 11 0) [.f (fi z)]=aa (J.set bp (.box (b7 qa qb st cx cy z m) 0))
theorem qx{J:an}{bp:Nat}{j l:aE}{st:Int}{b d:C}{g:Int}{m:Nat}(h:J[bp]?=aa (.box (b7 j l st b d g m) 0)):LdP J bp j l st b d g m:=by
 unfold b7 at h;constructor<;>simp [aU,aC,h,aW,di,over,b7]
theorem vd{j l:aE}{st:Int}{b d:C}{g:Int}{m:Nat}:(b7 j l st b d g m).length=13:=rfl
theorem Aa{w x y z:C}:rS 3 ab (.a [w,x,y,z])=aa (.c z):=rfl
theorem AB(a b:aE)(ha:cu a=ae)(hb:cu b=ae)(ca:a.a5.length≤256)(cb:b.a5.length≤256)(la:a.head.length≤1000000)(lb:b.head.length≤1000000)(pa:a.aJ≤1000000)(pb:b.aJ≤1000000)(H:an) :
  ∃ r H',Ev tab (.fn 175) [.a (a.row.map .f),.a (b.row.map .f),vi 0] H r H'∧(∃ d s st X Y v x l m N,lL a d∧lL b s∧d.a5.length≤a.a5.length∧s.a5.length≤b.a5.length∧d.head.length≤a.head.length∧s.head.length≤b.head.length∧r=.a (b7 d s st v x (ajU d.aJ s.aJ:Int) m) ∧
   st=max d.fr s.fr∧xO d st X∧xO s st Y∧PH H' N X Y (ajU d.aJ s.aJ:Int) l v x m∧∀ i:Nat,i<H.length→H'[i]?=H[i]?):=by
 obtain⟨d,sa,xa,ya,j3⟩:=lZ a ha ca la;obtain⟨s,sb,xb,yb,j4⟩:=lZ b hb cb lb;obtain⟨f8,o9,n8,o_⟩:=sa;refine cM rfl rfl fun Q hQ=>?_;apply ai;simp [aE.row];simp only [aE.row,ajd,ajt]at j3 j4;obtain⟨HA,A⟩:=aL (H++[.box [.f (sl a.hg (ints a.head)),.f (fi a.fr),.f (fi a.aJ),.f (sl a.cg (ints a.a5))] 0,.box [.f (sl b.hg (ints b.head)),.f (fi b.fr),.f (fi b.aJ),.f (sl b.cg (ints b.a5))] 0,.box zG 0]:an);obtain⟨b0,z⟩:=aL (H.length);have a0:HA[b0]?=aa (.box [.f (sl a.hg (ints a.head)),.f (fi a.fr),.f (fi a.aJ),.f (sl a.cg (ints a.a5))] 0):=by rw [A,z];simp
 have a1:HA[b0+1]?=aa (.box [.f (sl b.hg (ints b.head)),.f (fi b.fr),.f (fi b.aJ),.f (sl b.cg (ints b.a5))] 0):=by rw [A,z,aje (by omega)];simp
 have a2:HA[b0+2]?=aa (.box zG 0):=by rw [A,z,aje (by omega)];simp
 have al:HA.length=b0+3:=by rw [A,z];simp
 have ak:∀ i:Nat,i<b0→HA[i]?=H[i]?:=fun i hi=>by rw [A,AT (by omega)]
 unfold zG at A;rw [←A,←z];have l0:aU HA (aa 4) (.c (.ptr b0 0 0))=aa (.a [.f (sl a.hg (ints a.head)),.f (fi a.fr),.f (fi a.aJ),.f (sl a.cg (ints a.a5))]):=by simp [aU,aC,a0,aW]
 have l1:aU HA (aa 4) (.c (.ptr (b0+1) 0 0))=aa (.a [.f (sl b.hg (ints b.head)),.f (fi b.fr),.f (fi b.aJ),.f (sl b.cg (ints b.a5))]):=by simp [aU,aC,a1,aW]
 apply ai;simp [l0,l1,-ay,j3,j4,Z3,al];obtain⟨m,hm⟩:=aL (b0+3);obtain⟨bp,i_⟩:=aL (m+1);obtain⟨HB,I⟩:=aL (HA++[bZ.map [],.box (b7 d s 0 (.f .aA) (.f .aA) 0 m) 0]);have b1:HB[m]?=aa (.map []):=by rw [I,hm,aje (by omega),al];simp
 have b2:HB[bp]?=aa (.box (b7 d s 0 (.f .aA) (.f .aA) 0 m) 0):=by rw [I,i_,hm,aje (by omega),al];simp
 have bk:∀ i:Nat,i<b0+3→HB[i]?=HA[i]?:=fun i hi=>by rw [I,AT (by omega)]
 have bl:HB.length=b0+5:=by rw [I];simp [al]
 unfold b7 at I;rw [←hm,←I,←i_]
 suffices f7:∀ t:T,t.g 2=vi 0→t.g 6=.c (.ptr (b0+2) 0 0)→t.g 7=.c (.ptr bp 0 0)→WP tab 175 ab [.code wW] ⟨t,[],HB⟩ Q by exact f7 _ (by simp) (by simp) (by simp)
 intro t g2 g6 E;obtain⟨st,o6⟩:=aL (max d.fr s.fr);obtain⟨q1,q2,q3,q4,q5,q6,q7,q8,q9⟩:=aV f8;obtain⟨w1,w2,w3,w4,w5,w6,w7,w8,w9⟩:=aV sb.ok;have o4:max (max d.fr s.fr) 0=st:=by omega
 have L1:=qx b2;apply ai;simp [g2,E,L1.laf,L1.lbf,L1.s8,uU,o4,-ay,-bu];obtain⟨HC,K⟩:=aL (HB.set bp (.box (b7 d s st (.f .aA) (.f .aA) 0 m) 0));rw [←K];have c1:HC[m]?=aa (.map []):=by rw [K,sh (by omega)];exact b1
 have c2:HC[bp]?=aa (.box (b7 d s st (.f .aA) (.f .aA) 0 m) 0):=by rw [K,If (by omega)]
 have ck:∀ i:Nat,i<b0+3→HC[i]?=HA[i]?:=fun i hi=>by rw [K,sh (by omega),bk i hi]
 have cl:HC.length=b0+5:=by rw [K,ajp];exact bl
 have L2:=qx c2;obtain⟨r1,HD,a_,r7,p8,v,s7,X,rfl,j8,dl,dk,-,i7,-,-,p_,-,i4,hX⟩:=su d f8 (by omega) (by omega) st (by omega) (by omega) HC;have d2:HD[bp]?=aa (.box (b7 d s st (.f .aA) (.f .aA) 0 m) 0):=by rw [dk bp (by omega)];exact c2
 have L3:=qx d2;obtain⟨r2,HE,j7,r8,p9,x,s_,Y,rfl,j9,el,ek,-,i8,-,-,q_,-,i6,hY⟩:=su s sb.ok (by omega) (by omega) st (by omega) (by omega) HD;have e2:HE[bp]?=aa (.box (b7 d s st (.f .aA) (.f .aA) 0 m) 0):=by rw [ek bp (by omega)];exact d2
 have L4:=qx e2;simp only [aE.row,ajd,ajt]at a_ j7;refine aq (eB (.inl rfl) ?_ ?_)
 case refine_2=>
  intro cc U;have c_:cc=(7,4)∨cc=(9,4):=by simpa using U
  rcases c_ with rfl | rfl
  ·refine⟨by decide,_,rfl,.inr ⟨by decide,?_⟩⟩;simp [E,L2.la,L2.jV,L2.lb,L3.lb,-ay,a_.eq,Aa,fx,Bv]
  ·refine⟨by decide,_,rfl,.inr ⟨by decide,?_⟩⟩;simp [E,L2.la,L2.jV,L3.lb,L3.jV,-ay,a_.eq,Aa,fx,pK]
 obtain⟨HF,L⟩:=aL (HE.set bp (.box (b7 d s st v (.f .aA) 0 m) 0));have f2:HF[bp]?=aa (.box (b7 d s st v (.f .aA) 0 m) 0):=by rw [L,If (aj e2)]
 have L5:=qx f2;obtain⟨HG,M⟩:=aL (HF.set bp (.box (b7 d s st v x 0 m) 0));have h2:HG[bp]?=aa (.box (b7 d s st v x 0 m) 0):=by rw [M,If (aj f2)]
 have L6:=qx h2;simp [E,L2.la,L2.jV,L3.lb,L3.jV,-ay,a_.eq,j7.eq,Aa,L4.s9,←L,L5.s10,←M,-bu];obtain⟨g,hg⟩:=aL ((ajU d.aJ s.aJ:Int):Int);have t5:d.aJ≤1000000:=akk (aj7 (by have:=(aV ha).2.2.1;omega) n8) pa;have t6:s.aJ≤1000000:=akk (aj7 (by have:=(aV hb).2.2.1;omega) sb.aJ) pb;have o0:ajU d.aJ s.aJ=akb d.aJ.toNat s.aJ.toNat:=by
  show akb d.aJ.natAbs s.aJ.natAbs=_;rw [show d.aJ.natAbs=d.aJ.toNat by omega,show s.aJ.natAbs=s.aJ.toNat by omega]
 have g0:0<g:=by have:=akg s.aJ (show d.aJ≠0 by omega);omega
 have j_:bR tab 122 [vi d.aJ,vi s.aJ]=Eq (vi g):=by
  have h:=vV (a:=d.aJ.toNat) (b:=s.aJ.toNat) (by omega) (by omega);rw [show((d.aJ.toNat:Nat):Int)=d.aJ by omega,show((s.aJ.toNat:Nat):Int)=s.aJ by omega,←o0,←hg]at h;exact h
 apply ai;simp [E,L6.lap,L6.lbp,L6.s11,j_,-ay,-bu];obtain⟨F,O⟩:=aL (HG.set bp (.box (b7 d s st v x g m) 0));have i2:F[bp]?=aa (.box (b7 d s st v x g m) 0):=by rw [O,If (aj h2)]
 have L7:=qx i2;rw [←O];have kE:∀ i:Nat,i<b0+5→i≠bp→F[i]?=HC[i]?:=fun i hi o5=>by
  rw [O,sh (by omega),M,sh (by omega),L,sh (by omega),ek i (by omega),dk i (by omega)]
 have m_:∀(i:Nat) y,HE[i]?=aa y→i≠bp→F[i]?=aa y:=fun i y B o5=>by
  rw [O,sh (by omega),M,sh (by omega),L,sh (by omega)];exact B
 have e_:LR F x 1 (ints Y):=i8.bf fun i y B hi=>m_ i y B fun e=>i8.bh e2 (e▸hi);have m9:LR F v 1 (ints X):=i7.bf fun i y B hi=>m_ i y (by rw [ek i (aj B)];exact B) fun e=>i7.bh d2 (e▸hi);have iN:F.length=HE.length:=by rw [O,M,L];simp
 have n0:NQ H d s st X Y g F.length bp m 0 v x [] F:=by
  refine⟨fun i hi=>?_,?_,i2,m9,e_,?_,by rw [List.take_zero];exact jr.nil _ _,ai8 _⟩
  ·rw [kE i (by omega) (by omega),ck i (by omega),ak i (by omega)]
  ·rw [←z,kE (b0+2) (by omega) (by omega),ck _ (by omega)];exact a2
  ·rw [kE m (by omega) (by omega)];exact c1
 have f_:bp<F.length:=aj i2;have o7:bg F x=aa Y.length:=by have:=e_.len;simpa [ints]using this
 have n9:=qF (st:=st) (by omega) (by omega) j8 i4 hX;have i9:=qF (st:=st) (by omega) (by omega) j9 i6 hY;have r_:Y.length≤256:=by omega
 apply aq;apply ai;simp [E,L7.ly,-ay,o7];have h_:∀ i,aS v=aa i→i<F.length:=fun i hi=>m9.lt hi;have i3:∀ i,aS x=aa i→i<F.length:=fun i hi=>e_.lt hi;generalize r9:F.length=N at n0 f_ h_ i3;refine bU Y.length (fun j t J=>t.g 6=.c (.ptr (b0+2) 0 0)∧t.g 7=.c (.ptr bp 0 0)∧t.g 48=.c x∧∃ l,NQ H d s st X Y g N bp m j v x l J) (by omega) (by decide) (by decide) (by simp) (by simp)
  ⟨by simp [g6],by simp [E],by simp,[],n0⟩ ?_ ?_
 ·rintro j t J hj ⟨g6,E,b_,l,u⟩ ha hb next
  obtain⟨yb,t7,t8,o8,n6,-⟩:=sx u.ly hj;have L8:=qx u.bp;obtain⟨y,B⟩:=aL (Y[j]);have yb:=i9.2.2.1 _ (IT hj);rw [←B]at n6 yb;have a7:bM .rem (vi y) (vi g)=aa (vi (y % g)):=eP (by omega) g0;obtain⟨c3,H3,S,U,l_,W,Z,k_⟩:=u.ok.app u.mp (by omega) u.len (y % g) (by unfold ju;exact ajw (akO _ _) (by rw [ajF];omega)) y;have d_:=fun J' (h:J'[m]?=aa (bZ.map (As l)))=>u.ok.look (J':=J') h (y % g);have d9:=d_ J u.mp;have m4:wi H3 .int (.c (.mp m)) (vi (y % g)) (.c c3)=aa (.top,H3.set m (.map (As (sS (y % g) c3 l)))):=by
   simp only [wi,U,l_,isKey,if_true,SV,ajK]
  have g_:=W bp f_;have L9:=qx (J:=H3) (by rw [g_];exact u.bp);refine az ?_;apply ai;simp [ha,b_,o8,n6,-ay];refine eB (.inl rfl) ?_ ?_
  case refine_2=>
   intro cc U;have c_:cc=(1,16)∨cc=(4,16):=by simpa using U
   rcases c_ with rfl | rfl
   ·refine⟨by decide,_,rfl,.inl ⟨by decide,?_⟩⟩;simp [E,L8.lm,L8.lg,a7,-ay,mJ,d9,S,L9.lm,fx,V.beq,C.beq]
   ·refine⟨by decide,_,rfl,.inl ⟨by decide,?_⟩⟩;simp [E,L8.lm,L8.lg,a7,-ay,mJ,d9,S,L9.lg,fx,pK]
  simp [E,L8.lm,L8.lg,a7,-ay,mJ,d9,S,Z2,m4];have n_:ju g (Y.take (j+1))=fun k'=>if k'=y % g then ju g (Y.take j) (y % g)++[y]else ju g (Y.take j) k':=by
   funext k';unfold ju;rw [aju,By hj,←B,alu];by_cases e:k'=y % g
   ·subst e;simp
   ·have:¬ y % g=k':=fun q=>e q.symm;simp [e,this]
  rw [←n_]at Z;have t4:m<N:=by omega
  refine ax (next _ _ ?_ (by simp [ha]) (by simp [hb]));refine⟨by simp [g6],by simp [E],by simp [b_],_,⟨fun i hi=>?_,?_,?_,?_,?_,?_,Z,k_⟩⟩
  ·rw [sh (by omega),W i (by omega)];exact u.kp i hi
  ·rw [sh (by omega),W _ (by omega)];exact u.br
  ·rw [sh (by omega),g_];exact u.bp
  ·exact LR.set (u.lx.bf fun i y B hi=>by rw [W i (h_ i hi)];exact B) (kX u.lx u.mp rfl) _
  ·exact LR.set (u.ly.bf fun i y B hi=>by rw [W i (i3 i hi)];exact B) (kX u.ly u.mp rfl) _
  ·exact If (by have:=aj l_;omega)
 ·rintro t J ⟨g6,E,b_,l,u⟩ - -;have L8:=qx u.bp;have Z:=u.ok;rw [ajr]at Z;obtain⟨HZ,a8⟩:=aL (J.set (b0+2) (.box (b7 d s st v x g m) 0));have s2:di J (.ptr (b0+2) 0 0) (b7 d s st v x g m)=aa HZ:=by
   have:=u.br;rw [←z]at this;rw [a8];simp [di,this,over,b7,zG]
  have z2:HZ[b0+2]?=aa (.box (b7 d s st v x g m) 0):=by rw [a8];exact If (by have:=aj u.br;omega)
  have nm:b0+2≠m:=by omega
  apply ai;simp [g6,E,L8.RX,s2,-ay,-bu,vd];have c9:=u.br;rw [←z]at c9;refine aF (hQ _ _ (.a (b7 d s st v x g m)) (by rfl) ?_ ⟨d,s,st,X,Y,v,x,l,m,N,⟨f8,o9,n8,o_⟩,sb,xa,xb,ya,yb,by rw [hg],o6,n9,i9,?_,fun i hi=>?_⟩)
  ·have:=(qx (bp:=b0+2) z2).RX;simp [Km.results,cC,aZ,g6,this,-ay]
  ·rw [←hg,a8];refine⟨u.lx.set (u.lx.bh c9) _,u.ly.set (u.ly.bh c9) _,by rw [sh nm];exact u.mp,Z.bf fun i y hi B=>?_⟩;rw [sh (by omega)];exact B
  ·show HZ[i]?=_;rw [a8,sh (by omega)];exact u.kp i hi
structure HQ(H:an)(p2:aE)(b2:Nat)(c:C)(L:List Int)(J:an):Prop where
 kp:∀ i:Nat,i<H.length→J[i]?=H[i]?
 bx:J[b2]?=aa (.box [.f (sl p2.hg (ints p2.head)),.f (fi p2.fr),.f (fi p2.aJ),.f (sl p2.cg (ints p2.a5))] 0)
 lc:LR J c 1 (ints L)
 lo:∀ i,aS c=aa i→H.length≤i
 hl:H.length≤J.length
theorem head_mem{p:aE}(g:cu p=ae)(d:Int):d ∈ p.head↔0≤d∧d<p.fr∧bF p d=ae:=by
 obtain⟨q,s,u,v,x,y,j,z,A⟩:=aV g;constructor
 ·intro h;have:=j d h;refine⟨by omega,by omega,?_⟩;unfold bF;rw [aR (by omega)];exact decide_eq_true h
 ·rintro⟨l,m,b⟩;unfold bF at b;rw [aR (by omega)]at b;exact of_decide_eq_true b
theorem RS(l b:aE)(Y:cu l=ae)(hb:cu b=ae)(la:l.head.length≤1000000)(lb:b.head.length≤1000000)(st:Int)(i9:st=max l.fr b.fr)(cx cy:C)(g:Int)(m:Nat)(H:an) :
  ∃ r H',Ev tab (.fn 176) [.a (b7 l b st cx cy g m)] H r H'∧∃ c L,r=.c c∧LR H' c 1 (ints L)∧(∀ i,aS c=aa i→H.length≤i)∧(∀ i:Nat,i<H.length→H'[i]?=H[i]?)∧H.length≤H'.length∧L.Pairwise (· < ·)∧L.length≤l.head.length+b.head.length∧∀ d,d ∈ L↔0≤d∧d<st∧bF l d=ae∧bF b d=ae:=by
 refine cM rfl rfl fun Q hQ=>?_;apply ai;simp [b7];obtain⟨b0,O⟩:=aL (H.length);obtain⟨U,A⟩:=aL (H++[.box (b7 l b st cx cy g m) 0]:an);have a0:U[b0]?=aa (.box (b7 l b st cx cy g m) 0):=by rw [A,O];simp
 have al:U.length=b0+1:=by rw [A,O];simp
 have ak:∀ i:Nat,i<b0→U[i]?=H[i]?:=fun i hi=>by rw [A,AT (by omega)]
 unfold b7 at A;rw [←A,←O];have L1:=qx a0;obtain⟨za,i_⟩:=aL ([.f (sl l.hg (ints l.head)),.f (fi l.fr),.f (fi l.aJ),.f (sl l.cg (ints l.a5))]:List C);obtain⟨zb,j3⟩:=aL ([.f (sl b.hg (ints b.head)),.f (fi b.fr),.f (fi b.aJ),.f (sl b.cg (ints b.a5))]:List C);have L2:∀ J:an,aU (U++J) (aa 4) (.c (.ptr b0 4 0))=aa (.a [.f (sl b.hg (ints b.head)),.f (fi b.fr),.f (fi b.aJ),.f (sl b.cg (ints b.a5))]):=fun J=>(qx (bp:=b0) (by rw [AT (by omega)];exact a0)).lb;refine aq (eB (.inl rfl) ?_ ?_)
 case refine_2=>
  intro cc f8;have f7:cc=(3,7):=by simpa using f8
  subst f7;refine⟨by decide,_,rfl,.inl ⟨by decide,?_⟩⟩;simp [L1.la,L1.lb,L2,-ay,fx,Bv]
 simp [L1.la,L1.lb,-ay];obtain⟨z,y⟩:=aL (U++[bZ.box [.f (sl l.hg (ints l.head)),.f (fi l.fr),.f (fi l.aJ),.f (sl l.cg (ints l.a5))] 0,.box [.f (sl b.hg (ints b.head)),.f (fi b.fr),.f (fi b.aJ),.f (sl b.cg (ints b.a5))] 0]);obtain⟨s,K⟩:=aL (U.length);have c0:z[b0]?=aa (.box (b7 l b st cx cy g m) 0):=by rw [y,AT (by omega)];exact a0
 have c1:z[s]?=aa (.box [.f (sl l.hg (ints l.head)),.f (fi l.fr),.f (fi l.aJ),.f (sl l.cg (ints l.a5))] 0):=by rw [y,K];simp
 have c2:z[s+1]?=aa (.box [.f (sl b.hg (ints b.head)),.f (fi b.fr),.f (fi b.aJ),.f (sl b.cg (ints b.a5))] 0):=by rw [y,K,aje (by omega)];simp
 have ck:∀ i:Nat,i<b0→z[i]?=H[i]?:=fun i hi=>by rw [y,AT (by omega)];exact ak i hi
 have cl:z.length=b0+3:=by rw [y];simp [al]
 have i6:s=b0+1:=by rw [K,al]
 rw [←y,←K]
 suffices S:∀ t:T,t.g 1=.c (.ptr b0 0 0)→t.g 3=.c (.ptr s 0 0)→t.g 4=.c (.ptr (s+1) 0 0)→WP tab 176 ab [.code wX] ⟨t,[],z⟩ Q by exact S _ (by simp) (by simp) (by simp)
 intro t g1 X E;have Z:∀(q u:aE) (t:T) (J:an),cu q=ae→cu u=ae→q.fr=st→q.head.length≤1000000→q.head.length≤l.head.length+b.head.length→(∀ d,(bF q d=ae∧bF u d=ae)↔(bF l d=ae∧bF b d=ae))→t.g 3=.c (.ptr s 0 0)→t.g 4=.c (.ptr (s+1) 0 0) →
   J[s]?=aa (.box [.f (sl q.hg (ints q.head)),.f (fi q.fr),.f (fi q.aJ),.f (sl q.cg (ints q.a5))] 0)→J[s+1]?=aa (.box [.f (sl u.hg (ints u.head)),.f (fi u.fr),.f (fi u.aJ),.f (sl u.cg (ints u.a5))] 0)→(∀ i:Nat,i<b0→J[i]?=H[i]?) →
   WP tab 176 ab [.code wY] ⟨t,[],J⟩ Q:=by
  intro q u t J h1 h2 f_ i8 g_ b_ X E j1 j2 jk;obtain⟨q1,q2,q3,q4,q5,q6,q7,q8,q9⟩:=aV h1;have M:aU J ab (.c (.ptr s 0 0))=aa (.c (.f (sl q.hg (ints q.head)))):=by simp [aU,aC,j1]
  have d9:bg J (.f (sl q.hg (ints q.head)))=aa q.head.length:=by simp [ints]
  apply ai;simp;apply aq;apply ai;simp [X,M,-ay,d9];have jl:=aj j2;refine bU q.head.length (fun j t J=>t.g 4=.c (.ptr (s+1) 0 0)∧t.g 20=.c (.f (sl q.hg (ints q.head)))∧∃ c,t.g 5=.c c∧HQ H u (s+1) c ((q.head.take j).filter fun d=>bF u d) J) (by omega) (by decide) (by decide) (by simp) (by simp)
   ⟨by simp [E],by simp,.f .aA,by simp,fun i hi=>jk i (by omega),j2,by simpa [ints]using LR.nil _ _,(fun _ h=>by cases h),by omega⟩ ?_ ?_
  ·rintro j t J hj ⟨E,F,c,g5,v⟩ Y hb next
   have i3:=q7 _ (IT hj);have c_:=fun H:an=>bH (H:=H) (g:=q.hg) (rows:=ints q.head) (sz:=1) (k:=.i64) (i:=(j:Int)) (by omega) (by simp [ints];omega);have M:=fun H:an=>dY (H:=H) hj;simp at c_;obtain⟨x,hx⟩:=aL (q.head[j]);rw [←hx]at i3 M;have c9:q.head.take (j+1)=q.head.take j++[x]:=by rw [aju,By hj,hx];rfl
   have i4:aU J (aa 4) (.c (.ptr (s+1) 0 0))=aa (.a [.f (sl u.hg (ints u.head)),.f (fi u.fr),.f (fi u.aJ),.f (sl u.cg (ints u.a5))]):=by simp [aU,aC,v.bx,aW]
   have N:=uV u h2 x (by omega) (by unfold Day;omega);simp only [aE.row,ajd,ajt]at N;refine az ?_;apply ai;simp [Y,F,c_,M];apply aq;refine au (.inl rfl) ?_;simp [E,i4,-ay,N];cases a_:bF u x with
   | false=>
    refine a6 (by simp) ?_;refine ax (next _ _ ?_ (by simp [Y]) (by simp [hb]));refine⟨by simp [E],by simp [F],c,by simp [g5],?_⟩;rw [c9,alu];simpa [a_]using v
   | true=>
    obtain⟨c3,H3,a7,d_,i7,a8,e_⟩:=oN v.lc (by refine ajw (akO _ _) ?_;rw [ajF];omega) x;refine aw (by simp) ?_;refine au (.inl rfl) ?_;simp [g5,a7];refine ax (next _ _ ?_ (by simp [Y]) (by simp [hb]));refine⟨by simp [E],by simp [F],c3,by simp,fun i hi=>?_,a8 _ _ v.bx (v.lc.bh v.bx),?_,fun i hi=>?_,by have:=v.hl;omega⟩
    ·rw [←v.kp i hi];have h_:i<J.length:=by have:=v.hl;omega
     have hy:J[i]?=aa J[i]:=By h_;rw [hy];exact a8 i _ hy fun e=>by have:=v.lo i e;omega
    ·rw [c9,alu];simpa [a_]using d_
    ·have:=v.hl;rcases e_ with e | e
     ·rw [e]at hi;exact v.lo i hi
     ·rw [e]at hi;cases hi;omega
  ·rintro t J ⟨E,F,c,g5,v⟩ - -;rw [ajr]at v;apply ai;simp [g5];refine aF (hQ _ _ (.c c) rfl (dU (by simp)) ⟨c,_,rfl,v.lc,v.lo,v.kp,v.hl,q6.sublist List.filter_sublist,ajw (akO _ _) g_,fun d=>?_⟩);rw [List.mem_filter,head_mem h1,f_];constructor
   ·rintro⟨⟨k0,k1,k2⟩,k3⟩;obtain⟨k4,k5⟩:=(b_ d).1 ⟨k2,k3⟩;exact⟨k0,k1,k4,k5⟩
   ·rintro⟨k0,k1,k4,k5⟩;obtain⟨k2,k3⟩:=(b_ d).2 ⟨k4,k5⟩;exact⟨⟨k0,k1,k2⟩,k3⟩
 have l1:aU z ab (.c (.ptr s 1 0))=aa (vi l.fr):=by simp [aU,aC,c1]
 have l0:=(qx c0).jV;apply aq;apply ai;simp [g1,X,l0,l1,-ay];by_cases hf:l.fr=st
 ·refine a6 (by simp [hf]) ?_;exact Z l b _ _ Y hb hf la (by omega) (fun d=>Iff.rfl) (by simp [X]) (by simp [E]) c1 c2 ck
 ·refine aw (by simp [hf]) ?_;have l4:aU z (aa 4) (.c (.ptr (s+1) 0 0))=aa (.a [.f (sl b.hg (ints b.head)),.f (fi b.fr),.f (fi b.aJ),.f (sl b.cg (ints b.a5))]):=by simp [aU,aC,c2,aW]
  have l3:aU z (aa 4) (.c (.ptr s 0 0))=aa (.a [.f (sl l.hg (ints l.head)),.f (fi l.fr),.f (fi l.aJ),.f (sl l.cg (ints l.a5))]):=by simp [aU,aC,c1,aW]
  obtain⟨W,B⟩:=aL (z.set s (.box [.f (sl b.hg (ints b.head)),.f (fi b.fr),.f (fi b.aJ),.f (sl b.cg (ints b.a5))] 0));have s1:di z (.ptr s 0 0) [.f (sl b.hg (ints b.head)),.f (fi b.fr),.f (fi b.aJ),.f (sl b.cg (ints b.a5))]=aa W:=by rw [B];simp [di,c1,over]
  have d1:W[s]?=aa (.box [.f (sl b.hg (ints b.head)),.f (fi b.fr),.f (fi b.aJ),.f (sl b.cg (ints b.a5))] 0):=by rw [B];exact If (by omega)
  have d2:W[s+1]?=aa (.box [.f (sl b.hg (ints b.head)),.f (fi b.fr),.f (fi b.aJ),.f (sl b.cg (ints b.a5))] 0):=by rw [B,sh (by omega)];exact c2
  have dl:W.length=z.length:=by rw [B];simp
  obtain⟨HD,I⟩:=aL (W.set (s+1) (.box [.f (sl l.hg (ints l.head)),.f (fi l.fr),.f (fi l.aJ),.f (sl l.cg (ints l.a5))] 0));have s2:di W (.ptr (s+1) 0 0) [.f (sl l.hg (ints l.head)),.f (fi l.fr),.f (fi l.aJ),.f (sl l.cg (ints l.a5))]=aa HD:=by rw [I];simp [di,d2,over]
  refine au (.inl rfl) ?_;simp [X,E,l3,l4,-ay,s1,s2,-bu];refine Z b l _ _ hb Y (by omega) lb (by omega) (fun d=>And.comm) (by simp [X]) (by simp [E]) ?_ ?_ fun i hi=>?_
  ·rw [I,sh (by omega)];exact d1
  ·rw [I];exact If (by omega)
  ·rw [I,sh (by omega),B,sh (by omega)];exact ck i hi
def wK(m n x y:Nat):Option (V × an)→Bool
 | some (.t [.c (.f (.int .i64 (.ofNat k))),.c (.f (.int .i64 _)),.c (.f (.int .i64 (.ofNat 0)))],_)=>Nat.beq (k % m) x&&(Nat.beq (k % n) y&&Nat.ble (k+1) (Nat.lcm m n))| _=>ag
def afM(m n:Nat):Bool:=Nat.ble (Nat.lcm m n) 12
noncomputable def gk (m:Nat):Bool:=(List.range 12).all fun b=>!afM m (b+1)||(List.range m).all fun x=>(List.range (b+1)).all fun y=>!Nat.beq (x % (akb m (b+1))) (y % (akb m (b+1))) ||
  wK m (b+1) x y (CF tab 60 60 (.fn 218) [vi x,vi m,vi y,vi (b+1:Nat)] [])
theorem ZL:gk 1=ae:=by kernel_rfl
theorem ZM:gk 2=ae:=by kernel_rfl
theorem ZN:gk 3=ae:=by kernel_rfl
theorem ZO:gk 4=ae:=by kernel_rfl
theorem ZP:gk 5=ae:=by kernel_rfl
theorem ZQ:gk 6=ae:=by kernel_rfl
theorem ZR:gk 7=ae:=by kernel_rfl
theorem ZS:gk 8=ae:=by kernel_rfl
theorem ZT:gk 9=ae:=by kernel_rfl
theorem Tf:gk 10=ae:=by kernel_rfl
theorem Th:gk 11=ae:=by kernel_rfl
theorem Ti:gk 12=ae:=by kernel_rfl
theorem Iz(m:Nat)(b:1≤m)(d:m≤12):gk m=ae:=by
 have:m=1∨m=2∨m=3∨m=4∨m=5∨m=6∨m=7∨m=8∨m=9∨m=10∨m=11∨m=12:=by omega
 rcases this with rfl | rfl | rfl | rfl | rfl | rfl | rfl | rfl | rfl | rfl | rfl | rfl
 ·exact ZL
 ·exact ZM
 ·exact ZN
 ·exact ZO
 ·exact ZP
 ·exact ZQ
 ·exact ZR
 ·exact ZS
 ·exact ZT
 ·exact Tf
 ·exact Th
 ·exact Ti
theorem wL{m n x y:Nat}{o:Option (V × an)}(h:wK m n x y o=ae):∃(k u:Nat) (v:Int) (J:an),o=aa (.t [vi k,vi v,vi 0],J)∧k % m=x∧k % n=y∧k<Nat.lcm m n∧u=0:=by
 unfold wK at h;split at h
 ·rename_i o k w J;simp only [BY,Nat.ble_eq]at h;exact⟨k,0,w,J,rfl,Nat.eq_of_beq_eq_true h.1,Nat.eq_of_beq_eq_true h.2.1,by omega,rfl⟩
 ·cases h
structure xN(a b P:Int):Prop where
 pos:0<P
 da:a ∣ P
 db:b ∣ P
 dvd:∀ k,a ∣ k→b ∣ k→P ∣ k
theorem BV{m n:Nat}(d:1≤m)(g:1≤n):(m:Int) / (ajU (m:Int) (n:Int):Int)*n=(Nat.lcm m n:Int):=by
 have b:ajU (m:Int) (n:Int)=akb m n:=rfl;rw [b,←Int.natCast_ediv,←Int.natCast_mul,Nat.lcm,ak5 m n,Nat.mul_div_assoc _ (Nat.gcd_dvd_left m n),ak5]
theorem RZ{a b:Int}(a1:1≤a)(q:1≤b):xN a b (a / (ajU a b:Int)*b):=by
 obtain⟨m,rfl⟩:=akz (show 0≤a by omega);obtain⟨n,rfl⟩:=akz (show 0≤b by omega);rw [BV (by omega) (by omega)];refine⟨?_,Int.ofNat_dvd.2 (Nat.dvd_lcm_left m n),Int.ofNat_dvd.2 (Nat.dvd_lcm_right m n),fun k j l=>?_⟩
 ·have:=Nat.lcm_pos (m:=m) (n:=n) (by omega) (by omega);omega
 ·have d:=aln.2 j;have g:=aln.2 l;rw [Int.natAbs_natCast]at d g;rw [←aln,Int.natAbs_natCast];exact Nat.lcm_dvd d g
theorem xN.uniq{a b P:Int}(h:xN a b P){k k':Int}(h0:0≤k)(h1:k<P)(d:0≤k')(g:k'<P)(l:k % a=k' % a)(hb:k % b=k' % b):k=k':=by
 have:=h.dvd (k-k') (akr (by rw [Int.sub_emod,l,Int.sub_self,Int.zero_emod])) (akr (by rw [Int.sub_emod,hb,Int.sub_self,Int.zero_emod]));have e:(k-k') % P=0:=Int.emod_eq_zero_of_dvd this;have j:k % P=k' % P:=by
  have:=akl k (akw P);rw [←Int.sub_add_cancel k k',Int.add_emod,e,Int.zero_add,akl _ (akw P)]
 rw [akj h0 h1,akj d g]at j;exact j
theorem IA{m n x y:Nat}(A:1≤m)(E:1≤n)(b:Nat.lcm m n≤12)(u:x<m)(z:y<n)(d:x % akb m n=y % akb m n) :
  ∃(k:Nat) (v:Int),k % m=x∧k % n=y∧k<Nat.lcm m n∧bR tab 218 [vi x,vi m,vi y,vi n]=Eq (.t [vi k,vi v,vi 0]):=by
 have j:=Nat.lcm_pos (m:=m) (n:=n) (by omega) (by omega);have B:m≤12:=ajw (Nat.le_of_dvd j (Nat.dvd_lcm_left m n)) b;have F:n≤12:=ajw (Nat.le_of_dvd j (Nat.dvd_lcm_right m n)) b;obtain⟨g,rfl⟩:∃ g,n=g+1:=⟨n-1,by omega⟩
 have h:=Iz m A B;unfold gk at h;rw [aji]at h;have h:=h g (List.mem_range.2 (by omega));rw [Bool.or_eq_true]at h;rcases h with h | h
 ·exfalso;rw [Bool.not_eq_true']at h;unfold afM at h;rw [Nat.ble_eq_true_of_le b]at h;cases h
 rw [aji]at h;have h:=h x (List.mem_range.2 u);rw [aji]at h;have h:=h y (List.mem_range.2 z);rw [Bool.or_eq_true]at h;rcases h with h | h
 ·exfalso;rw [d]at h;simp at h
 obtain⟨k,-,v,J,e,l,q,s,-⟩:=wL h;refine⟨k,v,l,q,s,bR.eq ⟨_,J,⟨60,60,e⟩,by simp [mR,dI,aZ]⟩⟩
theorem Tj{a b x y P:Int}(a1:1≤a)(u:1≤b)(j:P=a / (ajU a b:Int)*b)(hd:P≤12)(q:0≤x)(E:x<a)(s:0≤y)(F:y<b)(d:x % (ajU a b:Int)=y % (ajU a b:Int)) :
  ∃ k v:Int,0≤k∧k<P∧k % a=x∧k % b=y∧bR tab 218 [vi x,vi a,vi y,vi b]=Eq (.t [vi k,vi v,vi 0]):=by
 obtain⟨m,rfl⟩:=akz (show 0≤a by omega);obtain⟨n,rfl⟩:=akz (show 0≤b by omega);obtain⟨x,rfl⟩:=akz q;obtain⟨y,rfl⟩:=akz s;rw [BV (by omega) (by omega)]at j;have l:ajU (m:Int) (n:Int)=akb m n:=rfl;rw [l]at d;obtain⟨k,v,z,A,B,g⟩:=IA (m:=m) (n:=n) (x:=x) (y:=y) (by omega) (by omega) (by omega) (by omega) (by omega) (by omega);exact⟨k,v,by omega,by omega,by omega,by omega,g⟩
theorem G0{X Y:List Int}{g:Int}{l:List (Int × C)}{d y:C}{m N:Nat}(M O:aE)(st:Int){H:an}(h:PH H N X Y g l d y m)(f:0<g)(I:∀ x ∈ X,0≤x∧x≤1000000)(hX:X.length≤1000)(o:Y.length≤1000) :
  ∃ r H',Ev tab (.fn 177) [.a (b7 M O st d y g m)] H r H'∧∃ n:Int,r=vi n∧0≤n∧n≤(X.length:Int)*1000∧(∀ i:Nat,i<H.length→H'[i]?=H[i]?)∧H.length≤H'.length:=by
 refine cM rfl rfl fun Q k=>?_;apply ai;simp [b7];obtain⟨b0,s⟩:=aL (H.length);obtain⟨q,b⟩:=aL (H++[.box (b7 M O st d y g m) 0]:an);have e:q[b0]?=aa (.box (b7 M O st d y g m) 0):=by rw [b,s];simp
 have U:∀ i:Nat,i<H.length→q[i]?=H[i]?:=fun i hi=>by rw [b,AT (by omega)]
 have al:q.length=H.length+1:=by rw [b];simp
 unfold b7 at b;rw [←b,←s];have h:=h.bf U;have L:=qx e;have lx:bg q d=aa X.length:=by have:=h.lx.len;simpa [ints]using this
 apply ai;simp;apply aq;apply ai;simp [L.lx,-ay,lx];refine bU X.length (fun j t J=>J=q∧t.g 1=.c (.ptr b0 0 0)∧t.g 7=.c d∧∃ n:Int,t.g 3=vi n∧0≤n∧n≤(j:Int)*1000) (by omega) (by decide) (by decide) (by simp) (by simp)
  ⟨rfl,by simp,by simp,0,by simp,by omega,by omega⟩ ?_ ?_
 ·rintro j t J Z ⟨rfl,z,B,n,A,a,c⟩ W p next
  obtain⟨xb,a7,a8,S,v,-⟩:=sx h.lx Z;have K:=I _ (IT Z);obtain⟨x,I⟩:=aL (X[j]);rw [←I]at K v;have u:bM .rem (vi x) (vi g)=aa (vi (x % g)):=eP (by omega) f;have E:=h.ok.look h.mp (x % g);have F:bg J (nz l (x % g))=aa (ju g Y (x % g)).length:=by have:=(h.ok.lr (x % g)).len;simpa [ints]using this
  have w:(ju g Y (x % g)).length≤1000:=ajw (akO _ _) o;refine az ?_;apply ai;simp [W,B,S,v,-ay];refine au (.inl rfl) ?_;simp [z,A,L.lm,L.lg,u,-ay,mJ,E,F,aM (n:=n+((ju g Y (x % g)).length:Int))];refine ax (next _ _ ?_ (by simp [W]) (by simp [p]));exact⟨rfl,by simp [z],by simp [B],n+((ju g Y (x % g)).length:Int),by simp,by omega,by omega⟩
 ·rintro t J ⟨rfl,z,B,n,A,a,c⟩ - -;apply ai;simp [A];exact aF (k _ _ (vi n) rfl (dU (by simp)) ⟨n,rfl,a,c,U,by show H.length≤J.length;omega⟩)
structure MQ(H0:an)(qa qb:aE)(st g:Int)(cx cy:C)(m b0:Nat)(c:C)(L:List Int)(J:an):Prop where
 kp:∀ i:Nat,i<H0.length→J[i]?=H0[i]?
 bx:J[b0]?=aa (.box (b7 qa qb st cx cy g m) 0)
 lc:LR J c 1 (ints L)
 lo:∀ i,aS c=aa i→H0.length≤i
 hl:H0.length≤J.length
theorem MQ.app{H0:an}{z qb:aE}{st g:Int}{v x:C}{m b0:Nat}{c:C}{L:List Int}{J:an}(h:MQ H0 z qb st g v x m b0 c L J)(hl:L.length≤1000000)(n:Int) :
  ∃ l j,bD (J++[.box [.f (fi n)] 0]) 1 8 (.c c) (.c (.sl J.length 0 1 1 0 1))=aa (.c l,j)∧MQ H0 z qb st g v x m b0 l (L++[n]) j:=by
 obtain⟨l,j,b,q,y,d,s⟩:=oN h.lc hl n;have A:=h.hl;refine⟨l,j,b,fun i hi=>?_,d _ _ h.bx (h.lc.bh h.bx),q,fun i hi=>?_,by omega⟩
 ·rw [←h.kp i hi];have u:i<J.length:=by omega
  have hy:J[i]?=aa J[i]:=By u;rw [hy];exact d i _ hy fun e=>by have:=h.lo i e;omega
 ·rcases s with e | e
  ·rw [e]at hi;exact h.lo i hi
  ·rw [e]at hi;cases hi;omega
structure MM(X Y XS YS:List Int)(x0 pa pb P st:Int)(M:List Int):Prop where
 of:∀ d ∈ M,∃ k,d=st+k∧0≤k∧k<P∧k % pa ∈ X∧k % pb ∈ Y
 to:∀ k,0≤k→k<P→k % pb ∈ Y→(k % pa ∈ XS∨(k % pa=x0∧k % pb ∈ YS))→st+k ∈ M
theorem Sc{X Y L0:List Int}{g:Int}{l:List (Int × C)}{K f ch:C}{m N:Nat}(b s:aE)(st:Int){H0 H:an}(h:PH H0 N X Y g l K f m)(U:∀ i:Nat,i<H0.length→H[i]?=H0[i]?)(n8:H0.length≤H.length)(j8:LR H ch 1 (ints L0))(l_:∀ i,aS ch=aa i→H0.length≤i)
  (hg:g=(ajU b.aJ s.aJ:Int)) {P:Int} (a1:1≤b.aJ) (b1:1≤s.aJ) (hP:P=b.aJ / (ajU b.aJ s.aJ:Int)*s.aJ) (E:P≤12) (hx:∀ x ∈ X,0≤x∧x<b.aJ) (hy:∀ y ∈ Y,0≤y∧y<s.aJ) (hX:X.length≤12) (hY:Y.length≤12) (n9:L0.length≤100000) (s0:0≤st) (s1:st≤2000000000000) :
  ∃ r H',Ev tab (.fn 179) [.a (b7 b s st K f g m),.c ch] H r H'∧∃ c M,r=.c c∧LR H' c 1 (ints (L0++M))∧(∀ i,aS c=aa i→H0.length≤i)∧(∀ i:Nat,i<H0.length→H'[i]?=H0[i]?)∧H0.length≤H'.length∧M.length≤12*12∧(∀ d ∈ M,∃ k,d=st+k∧0≤k∧k<P∧k % b.aJ ∈ X∧k % s.aJ ∈ Y) ∧
   ∀ k,0≤k→k<P→k % b.aJ ∈ X→k % s.aJ ∈ Y→st+k ∈ M:=by
 have F:=(hP▸RZ a1 b1:xN b.aJ s.aJ P)
 have a2:b.aJ≤12:=akk (aj7 F.pos F.da) E;have b2:s.aJ≤12:=akk (aj7 F.pos F.db) E;have g0:0<g:=by rw [hg];have:=akg s.aJ (show b.aJ≠0 by omega);omega
 have j4:g ∣ b.aJ:=by rw [hg];exact Int.gcd_dvd_left ..
 have j7:g ∣ s.aJ:=by rw [hg];exact Int.gcd_dvd_right ..
 refine cM rfl rfl fun Q hQ=>?_;apply ai;simp [b7];obtain⟨b0,f7⟩:=aL (H.length);obtain⟨HA,B⟩:=aL (H++[.box (b7 b s st K f g m) 0]:an);have a0:HA[b0]?=aa (.box (b7 b s st K f g m) 0):=by rw [B,f7];simp
 have ak:∀ i:Nat,i<H.length→HA[i]?=H[i]?:=fun i hi=>by rw [B,AT (by omega)]
 have al:HA.length=H.length+1:=by rw [B];simp
 have q0:MQ H0 b s st g K f m b0 ch (L0++[]) HA:=⟨fun i hi=>by rw [ak i (by omega)];exact U i hi,a0,by rw [ajP,B];exact j8.push _,l_,by omega⟩
 unfold b7 at B;rw [←B,←f7];have hA:=h.bf (J':=HA) fun i hi=>q0.kp i hi;have L:=qx a0;have lx:bg HA K=aa X.length:=by have:=hA.lx.len;simpa [ints]using this
 apply aq;apply ai;simp [L.lx,-ay,lx];refine bU X.length (fun j t J=>t.g 2=.c (.ptr b0 0 0)∧t.g 13=.c K∧∃ c M,t.g 1=.c c∧MQ H0 b s st g K f m b0 c (L0++M) J∧M.length≤j*12∧MM X Y (X.take j) [] 0 b.aJ s.aJ P st M) (by omega) (by decide) (by decide) (by simp) (by simp)
  ⟨by simp,by simp,ch,[],by simp,q0,by simp,⟨fun _ h=>(by cases h),fun k _ _ _ h=>(by simp at h)⟩⟩ ?_ ?_
 ·rintro j t J hj ⟨S,u,c,M,o,A,a8,z⟩ ha hb next
  have hJ:=h.bf (J':=J) A.kp;obtain⟨xb,o0,o4,m_,i_,-⟩:=sx hJ.lx hj;have a_:=hx _ (IT hj);have i7:=IT hj;have i6:X.take (j+1)=X.take j++[X[j]]:=by rw [aju,By hj];rfl
  obtain⟨x,hx⟩:=aL (X[j]);rw [←hx]at a_ i_ i6 i7;have i3:bM .rem (vi x) (vi g)=aa (vi (x % g)):=eP (by omega) g0;have g_:=hJ.ok.look hJ.mp (x % g);obtain⟨ys,b_⟩:=aL (ju g Y (x % g));have i8:∀ y,y ∈ ys↔y ∈ Y∧y % g=x % g:=fun y=>by rw [b_];simp [ju]
  obtain⟨cc,f_⟩:=aL (nz l (x % g));have f8:∀ J':an,(∀ i:Nat,i<H0.length→J'[i]?=H0[i]?)→LR J' cc 1 (ints ys):=fun J' W=>by rw [b_,f_];exact(h.bf W).ok.lr (x % g)
  have k_:bg J cc=aa ys.length:=by have:=(f8 J A.kp).len;simpa [ints]using this
  have n_:ys.length≤12:=by rw [b_];exact ajw (akO _ _) hY
  rw [←f_]at g_;have LJ:=qx A.bx;refine az ?_;apply ai;simp [ha,u,m_,i_,-ay];apply ai;simp [S,LJ.lm,LJ.lg,i3,-ay,mJ,g_,k_];refine bU ys.length (fun i a J=>a.g 2=.c (.ptr b0 0 0)∧a.g 13=.c K∧a.g 15=vi j∧a.g 14=t.g 14∧a.g 6=vi x∧a.g 25=.c cc∧∃ c M,a.g 1=.c c∧MQ H0 b s st g K f m b0 c (L0++M) J∧M.length≤j*12+i∧MM X Y (X.take j) (ys.take i) x b.aJ s.aJ P st M) (by omega) (by decide) (by decide) (by simp) (by simp)
   ⟨by simp [S],by simp [u],by simp [ha],by simp,by simp,by simp,c,M,by simp [o],A,by omega,⟨z.of,fun k k0 Z O U=>by
    rcases U with U | U
    ·exact z.to k k0 Z O (.inl U)
    ·simp at U⟩⟩ ?_ ?_
  ·rintro i a J' hi ⟨S,u,w,p,g6,a7,c,M,o,A,a8,z⟩ d_ j9 d9;obtain⟨yb,o5,o6,n6,j3,-⟩:=sx (f8 J' A.kp) hi;have I:=(i8 _).1 (IT hi);have e:ys.take (i+1)=ys.take i++[ys[i]]:=by rw [aju,By hi];rfl
   obtain⟨y,m9⟩:=aL (ys[i]);rw [←m9]at j3 I e;obtain⟨k,v,k0,Z,ka,O,i4⟩:=Tj a1 b1 hP E a_.1 a_.2 (hy y I.1).1 (hy y I.1).2 (by rw [←hg];exact I.2.symm);have LJ:=qx A.bx;obtain⟨c3,H3,e_,h_⟩:=A.app (by rw [ai7];omega) (st+k);rw [ajI]at h_;refine az ?_;apply ai;simp [d_,a7,n6,j3,-ay];apply ai;simp [S,g6,LJ.lap,LJ.lbp,-ay,i4];refine au (.inl rfl) ?_;simp [o,S,LJ.jV,-ay,aM (n:=st+k),e_];refine ax (d9 _ _ ?_ (by simp [d_]) (by simp [j9]));refine⟨by simp [S],by simp [u],by simp [w],by simp [p],by simp [g6],by simp [a7],c3,M++[st+k],by simp,h_,by simp;omega,⟨fun d j_=>?_,fun k' c9 c_ i9 W=>?_⟩⟩
   ·rcases aja.1 j_ with q | q
    ·exact z.of d q
    ·rw [ai9]at q;exact⟨k,q,k0,Z,by rw [ka];exact i7,by rw [O];exact I.1⟩
   ·rw [e,aja,ai9]at W;rcases W with q | ⟨q1,q | q⟩
    ·exact ajM _ (z.to k' c9 c_ i9 (.inl q))
    ·exact ajM _ (z.to k' c9 c_ i9 (.inr ⟨q1,q⟩))
    ·have:k'=k:=xN.uniq F c9 c_ k0 Z (by rw [q1,ka]) (by rw [q,O]);rw [this];simp
  ·rintro a J' ⟨S,u,w,p,g6,a7,c,M,o,A,a8,z⟩ - -;rw [ajr]at z;refine ax (next _ _ ?_ (by simp [w]) (by simp [p,hb]));refine⟨by simp [S],by simp [u],c,M,by simp [o],A,by omega,⟨z.of,fun k k0 Z O U=>?_⟩⟩;rcases U with q | q
   ·rw [i6,aja,ai9]at q;rcases q with q | q
    ·exact z.to k k0 Z O (.inl q)
    ·refine z.to k k0 Z O (.inr ⟨q,(i8 _).2 ⟨O,?_⟩⟩);rw [akl _ j7,←q,akl _ j4]
   ·simp at q
 ·rintro t J ⟨S,u,c,M,o,A,a8,z⟩ - -;rw [ajr]at z;apply ai;simp [o];refine aF (hQ _ _ (.c c) rfl (dU (by simp)) ⟨c,M,rfl,A.lc,A.lo,A.kp,A.hl,by omega,z.of,fun k k0 Z ka O=>z.to k k0 Z O (.inl ka)⟩)
structure iI(S:Int→Prop)(U:Int)(ds:List Int):Prop where
 lt:∀ d ∈ ds,d<U
 iff:∀ d,d<U→(d ∈ ds↔S d)
 pw:ds.Pairwise (· < ·)
section
variable{S:Int→Prop}{U:Int}{ds:List Int}
theorem iI.skip(h:iI S U ds){V:Int}(g:U≤V)(b:∀ d,U≤d→d<V→¬ S d):iI S V ds:=
 ⟨fun d hd=>by have:=h.lt d hd;omega,fun d hd=>by
  by_cases k:d<U
  ·exact h.iff d k
  ·exact⟨fun x=>absurd (h.lt d x) k,fun x=>absurd x (b d (by omega) hd)⟩,h.pw⟩
theorem iI.more(h:iI S U ds){n:Int}(g:U≤n)(b:∀ d,U≤d→d<n→¬ S d)(j:S n):iI S (n+1) (ds++[n]):=by
 have h:=h.skip g b;refine⟨fun d hd=>?_,fun d hd=>?_,?_⟩
 ·rcases aja.1 hd with q | q
  ·have:=h.lt d q;omega
  ·rw [ai9]at q;omega
 ·rw [aja,ai9];by_cases k:d=n
  ·subst k;simp [j]
  ·rw [←h.iff d (by omega)];simp [k]
 ·rw [akd];exact⟨h.pw,aj9 _ _,fun x l y hy=>by rw [ai9]at hy;subst hy;exact h.lt x l⟩
theorem iI.all(h:iI S U ds)(b:∀ d,U≤d→¬ S d)(d:Int):d ∈ ds↔S d:=by
 by_cases k:d<U
 ·exact h.iff d k
 ·exact⟨fun x=>absurd (h.lt d x) k,fun x=>absurd x (b d (by omega))⟩
end
def SW(p:aE)(lo hi d:Int):Prop:=lo≤d∧d<hi∧bF p d=ae
theorem wk{p:aE}{base c:Int}(j:p.fr≤base)(g:(base-p.fr) % p.aJ=0)(b:0≤c)(d:c<p.aJ):bF p (base+c)=ae↔c ∈ p.a5:=by
 unfold bF;rw [ba (by omega),decide_eq_true_eq];have:(base+c-p.fr) % p.aJ=c:=by
  rw [show base+c-p.fr=c+(base-p.fr) by omega,Int.add_emod,g,Int.add_zero,akl _ (akw _),akj b d]
 rw [this]
theorem X5(p:aE)(lo:Int)(H:an):∃ r H',Ev tab (.fn 139) [.a (p.row.map .f),vi lo] H r H'∧(r=.c (.cl 188 [.ptr H.length 0 0,.ptr (H.length+1) 0 0])∧H'=H++[.box [.f (sl p.hg (ints p.head)),.f (fi p.fr),.f (fi p.aJ),.f (sl p.cg (ints p.a5))] 0,.box [.f (fi lo)] 0]):=by
 refine cM rfl rfl fun Q b=>?_;apply ai;simp [aE.row];apply ai;simp;exact aF (b _ _ _ rfl (dU (by simp)) ⟨rfl,rfl⟩)
theorem X6{b bp bl:Nat}(p:aE)(hp:cu p=ae)(p9:p.head.length≤1000000)(o_:p.a5.length≤1000000)(lo hi:Int)(l0:0≤lo)(l1:lo≤1099511627776)(q_:hi≤2199023255552){PP:Int→List Int→an→Prop}{RR:List Int→an→Prop}
  (hb:∀ z ds J,PP z ds J→J[bp]?=aa (.box [.f (sl p.hg (ints p.head)),.f (fi p.fr),.f (fi p.aJ),.f (sl p.cg (ints p.a5))] 0)∧J[bl]?=aa (.box [.f (fi z)] 0))
  (j_:∀ z z' ds J,PP z ds J→PP z' ds (J.set bl (.box [.f (fi z')] 0)))
  (hy:∀ z ds J n,PP z ds J→lo≤n→n<hi→(∀ d ∈ ds,d<n)→ds.Pairwise (· < ·)→(∀ d ∈ ds,SW p lo hi d)→∃ J',Ev tab (.yield b) [vi n] J (vb ae) J'∧PP z (ds++[n]) J')
  (hn:∀ z ds J n,PP z ds J→hi≤n→n≤4611686018427387904→∃ J',Ev tab (.yield b) [vi n] J (vb ag) J'∧RR ds J') {H:an} (h0:PP lo [] H) :
  ∃ r H',Ev tab (.fn 188) [.c (.yl b),.c (.ptr bp 0 0),.c (.ptr bl 0 0)] H r H'∧(r=.t []∧∃ ds,((∃ z,PP z ds H')∨RR ds H')∧ds.Pairwise (· < ·)∧∀ d,d ∈ ds↔SW p lo hi d):=by
 obtain⟨q1,q2,q3,q4,q5,q6,q7,q8,q9⟩:=aV hp;obtain⟨i,p_,j7,o4,n8⟩:=fH p.hg p.head lo (by omega) q6;have Y:∀ z ds J,PP z ds J→aU J ab (.c (.ptr bp 0 0))=aa (.c (.f (sl p.hg (ints p.head))))∧aU J ab (.c (.ptr bp 1 0))=aa (vi p.fr)∧aU J ab (.c (.ptr bp 2 0))=aa (vi p.aJ)∧aU J ab (.c (.ptr bp 3 0))=aa (.c (.f (sl p.cg (ints p.a5))))∧aU J ab (.c (.ptr bl 0 0))=aa (vi z)∧∀ z':Int,di J (.ptr bl 0 0) [.f (fi z')]=aa (J.set bl (.box [.f (fi z')] 0)):=fun z ds J h=>by
  obtain⟨h1,h2⟩:=hb z ds J h;refine⟨?_,?_,?_,?_,?_,fun z'=>?_⟩<;>simp [aU,aC,di,over,h1,h2]
 obtain⟨e0,e1,e2,e3,e4,e5⟩:=Y _ _ _ h0;have i_:∀(l:List Int) (k:Nat),(ints l).drop k=ints (l.drop k):=fun l k=>by simp [ints,ak0]
 refine cM rfl rfl fun Q hQ=>?_;apply ai;simp [e0,e4,-ay,n8];obtain⟨g1,k_⟩:=wI (H:=H) (g:=p.hg) (k:=i) (Km.Ord.bP p.head) (by simp [ints];omega) (by simp [ints];omega);rw [i_]at k_;have a_:∀(J:an) (g:Tg) (l:List Int),bg J (.f (sl g (ints l)))=aa l.length:=fun J g l=>by simp [ints]
 have f_:∀ d,d<p.fr→0≤d→(bF p d=ae↔d ∈ p.head):=fun d hd h0=>by unfold bF;rw [aR (by omega),decide_eq_true_eq]
 apply aq;apply ai;simp [e0,-ay,k_,a_];refine bU (p.head.drop i).length (fun j t J=>t.g 0=.c (.yl b)∧t.g 1=.c (.ptr bp 0 0)∧t.g 2=.c (.ptr bl 0 0)∧t.g 21=.c (.f (sl g1 (ints (p.head.drop i))))∧∃ ds,PP lo ds J∧(∃ U,iI (SW p lo hi) U ds∧(lo≤U∧U≤max lo p.fr)∧(∀(k:Nat) (h:k<(p.head.drop i).length),k<j→(p.head.drop i)[k]<U)∧∀(k:Nat) (h:k<(p.head.drop i).length),j≤k→U≤(p.head.drop i)[k])∧∀ d ∈ ds,SW p lo hi d) (by rw [ajm];omega) (by decide) (by decide) (by simp) (by simp)
  ⟨by simp,by simp,by simp,by simp,[],h0,⟨lo,⟨by simp,fun d hd=>⟨fun h=>(by simp at h),fun h=>(by have:=h.1;omega)⟩,List.Pairwise.nil⟩,⟨aky _,by omega⟩,fun k _ h=>(by omega),fun k h _=>(by rw [akB];exact o4 _ (by simp at h;omega) (by omega))⟩,by simp⟩ ?_ ?_
 ·rintro j t J L ⟨W,v,g2,d_,ds,I,⟨U,F,hU,E,Z⟩,y⟩ ha f8 next
  have a7:=fun H:an=>bH (H:=H) (g:=g1) (rows:=ints (p.head.drop i)) (sz:=1) (k:=.i64) (i:=(j:Int)) (by omega) (by simpa [ints]using L);have a8:=fun H:an=>dY (H:=H) L;simp only [akL,ajA]at a7;have j8:(p.head.drop i).Pairwise (· < ·):=q6.sublist (List.drop_sublist _ _);have x:∀(k:Nat) (h:k<(p.head.drop i).length),j+1≤k→(p.head.drop i)[j]<(p.head.drop i)[k]:=fun k h X=>ajQ.1 j8 j k L h (by omega);have A:∀(k:Nat) (h:k<(p.head.drop i).length),k<j→(p.head.drop i)[k]<(p.head.drop i)[j]:=fun k h X=>ajQ.1 j8 k j h L X;have f:=Z j L (ai8 _);have a:(p.head.drop i)[j] ∈ p.head:=ajJ (IT L);have i3:∀ d,d ∈ p.head→d<lo∨∃(k:Nat) (h:k<(p.head.drop i).length),d=(p.head.drop i)[k]:=fun d hd=>by
   obtain⟨k,X,rfl⟩:=ajn hd;by_cases g_:k<i
   ·exact .inl (j7 k X g_)
   ·refine .inr ⟨k-i,by rw [ajm];omega,?_⟩;rw [akB]
    congr 1;omega
  obtain⟨n,hx⟩:=aL ((p.head.drop i)[j]);rw [←hx]at a8 x A f a;have r_:=q7 n a;have K:∀ d,U≤d→d<n→¬ SW p lo hi d:=fun d h1 h2 B=>by
   have:=(f_ d (by omega) (by omega)).1 B.2.2;rcases i3 d this with h | ⟨k,X,rfl⟩
   ·omega
   ·by_cases S:k<j
    ·have:=E k X S;omega
    ·by_cases j4:k=j
     ·subst j4;omega
     ·have:=x k X (by omega);omega
  have o8:=Y _ _ _ I;refine az ?_;apply ai;simp [ha,d_,a7,a8];by_cases o:n<hi
  ·obtain⟨J',N,f7⟩:=hy lo ds J n I (by omega) o (fun d hd=>by have:=F.lt d hd;omega) F.pw y;apply ai;simp [W,N.eq];refine a6 (by simp) ?_;have B:SW p lo hi n:=⟨by omega,o,(f_ n (by omega) (by omega)).2 a⟩
   refine ax (next _ _ ?_ (by simp [ha]) (by simp [f8]));refine⟨by simp [W],by simp [v],by simp [g2],by simp [d_],ds++[n],f7,⟨n+1,F.more f K B,⟨by omega,by omega⟩,fun k h X=>?_,fun k h X=>by have:=x k h X;omega⟩,fun d hd=>?_⟩
   ·by_cases e:k=j
    ·subst e;omega
    ·have:=A k h (by omega);omega
   ·rcases aja.1 hd with q | q
    ·exact y d q
    ·rw [ai9]at q;rw [q];exact B
  ·obtain⟨J',N,hR⟩:=hn lo ds J n I (by omega) (by omega);apply ai;simp [W,N.eq];refine aw (by simp) ?_;exact aF (hQ _ _ _ rfl rfl ⟨rfl,ds,.inr hR,F.pw,F.all fun d hd B=>by
    by_cases h:d<n
    ·exact K d hd h B
    ·have:=B.2.1;omega⟩)
 ·rintro t J ⟨W,v,g2,d_,ds,I,⟨U,F,hU,E,-⟩,y⟩ - -;obtain⟨V,hV⟩:=aL (max lo p.fr);have b_:iI (SW p lo hi) V ds:=F.skip (by omega) fun d h1 h2 B=>by
   have n_:d<p.fr:=by omega
   have o0:=(f_ d n_ (by omega)).1 B.2.2;obtain⟨k,X,rfl⟩:=ajn o0;by_cases g_:k<i
   ·have:=j7 k X g_;omega
   ·have j3:k-i<(p.head.drop i).length:=by rw [ajm];omega
    have:=E (k-i) j3 j3;rw [akB]at this;simp only [show i+(k-i)=k by omega]at this;omega
  obtain⟨-,e1,e2,e3,e4,e5⟩:=Y _ _ _ I;apply aq;apply ai;simp [v,e3,-ay,a_];by_cases hc:p.a5=[]
  ·refine aw (by simp [hc]) ?_;refine aF (hQ _ _ _ rfl rfl ⟨rfl,ds,.inl ⟨lo,I⟩,b_.pw,b_.all fun d hd B=>?_⟩);have:=B.2.2;unfold bF at this;rw [ba (by omega),hc]at this;simp at this
  have p8:0<p.a5.length:=ajE.2 hc;refine a6 (by simp [hc]) ?_;have o7:max lo p.fr=V:=hV.symm;have s2:=e5 V;have c9:=j_ lo V ds J I;generalize J.set bl (.box [.f (fi V)] 0)=J2 at s2 c9;obtain⟨-,f1,f2,f3,f4,-⟩:=Y _ _ _ c9;apply ai;simp [v,g2,e1,e4,-ay,o7,s2,-bu];have r7:=ajV (V-p.fr) (show p.aJ≠0 by omega);have r8:=ajT (V-p.fr) (show 0<p.aJ by omega);have r9:(V-p.fr) % p.aJ≤V-p.fr:=by
   have h1:=ajS (V-p.fr) p.aJ;have h2:0≤p.aJ*((V-p.fr) / p.aJ):=akf (by omega) (ake (by omega) (by omega));omega
  have d9:bM .rem (vi (V-p.fr)) (vi p.aJ)=aa (vi ((V-p.fr) % p.aJ)):=eP (by omega) (by omega);obtain⟨base,M⟩:=aL (V-(V-p.fr) % p.aJ);have i6:(base-p.fr) % p.aJ=0:=by
   rw [M,show V-(V-p.fr) % p.aJ-p.fr=(V-p.fr)-(V-p.fr) % p.aJ by omega,Int.sub_emod,akl _ (akw _),Int.sub_self,Int.zero_emod]
  apply ai;simp [v,g2,f1,f2,f4,-ay,aM (n:=V-p.fr),d9,←M,aM (n:=base)];obtain⟨k0,c_,m_,m9,l_⟩:=fH p.cg p.a5 (V-base) (by omega) q8;apply ai;simp [v,g2,f3,f4,-ay,aM (n:=V-base),l_];refine az ?_;refine bJ (fun m s=>∃(T0:T) (J:an) (ds:List Int) (base U:Int) (k:Nat),s=⟨T0,[],J⟩∧m=(hi-base).toNat+(if k=0 then 0 else 1)∧T0.g 0=.c (.yl b)∧T0.g 1=.c (.ptr bp 0 0)∧T0.g 4=vi k∧T0.g 8=vi base∧PP V ds J∧iI (SW p lo hi) U ds∧(∀ d ∈ ds,SW p lo hi d) ∧
   p.fr≤base∧(base-p.fr) % p.aJ=0∧base≤U∧U≤base+p.aJ∧V≤U∧k≤p.a5.length∧(∀(j:Nat) (h:j<p.a5.length),j<k→base+p.a5[j]<U)∧(∀(j:Nat) (h:j<p.a5.length),k≤j→U≤base+p.a5[j])∧(k=0∨base≤1099511627776)∧base≤4398046511104) ((hi-base).toNat+(if k0=0 then 0 else 1))
   ⟨_,J2,ds,base,V,k0,rfl,rfl,by simp [W],by simp [v],by simp,by simp,c9,b_,y,by omega,i6,by omega,by omega,aky _,c_,fun j h L=>by have:=m_ j h L;omega,fun j h L=>by have:=m9 j h L;omega,by omega,by omega⟩ ?_
  clear b_ c9 i6 I M m_ m9 l_ d9 f1 f2 f3 f4 s2 e1 e2 e3 e4 e5;rintro m s ⟨t,J,ds,base,U,k,rfl,rfl,W,v,g4,g8,I,F,y,b1,b2,b3,b4,b5,X,E,Z,o5,b6⟩ ih;obtain⟨-,e1,e2,e3,e4,-⟩:=Y _ _ _ I;obtain⟨g3,j9⟩:=wI (H:=J) (g:=p.cg) (k:=k) (Km.Ord.bP p.a5) (by simp [ints];omega) (by simp [ints];omega);rw [i_]at j9;refine az ?_;apply aq;apply ai;simp [v,g4,e3,-ay,j9,a_];refine bU (p.a5.drop k).length (fun j t' J=>t'.g 0=.c (.yl b)∧t'.g 1=.c (.ptr bp 0 0)∧t'.g 8=vi base∧t'.g 61=.c (.f (sl g3 (ints (p.a5.drop k))))∧∃ ds U,PP V ds J∧iI (SW p lo hi) U ds∧(∀ d ∈ ds,SW p lo hi d)∧base≤U∧U≤base+p.aJ∧V≤U∧(∀(i:Nat) (h:i<p.a5.length),i<k+j→base+p.a5[i]<U)∧(∀(i:Nat) (h:i<p.a5.length),k+j≤i→U≤base+p.a5[i])∧(0<j→base<hi)) (by rw [ajm];omega) (by decide) (by decide) (by simp) (by simp)
   ⟨by simp [W],by simp [v],by simp [g8],by simp,ds,U,I,F,y,b3,b4,b5,E,Z,by omega⟩ ?_ ?_
  ·rintro j t' J L ⟨W,v,g8,e_,ds,U,I,F,y,b3,b4,b5,E,Z,-⟩ ha f8 next
   have S:k+j<p.a5.length:=by rw [ajm]at L;omega
   have a7:=fun H:an=>bH (H:=H) (g:=g3) (rows:=ints (p.a5.drop k)) (sz:=1) (k:=.i64) (i:=(j:Int)) (by omega) (by simpa [ints]using L);have a8:=fun H:an=>dY (H:=H) L;simp only [akL,ajA]at a7;have n9:(p.a5.drop k)[j]=p.a5[k+j]:=by rw [akB]
   have i7:=q9 _ (IT S);have i9:=IT S;have f:=Z (k+j) S (ai8 _);have x:∀(i:Nat) (h:i<p.a5.length),k+j+1≤i→p.a5[k+j]<p.a5[i]:=fun i h hi=>ajQ.1 q8 (k+j) i S h (by omega);have A:∀(i:Nat) (h:i<p.a5.length),i<k+j→p.a5[i]<p.a5[k+j]:=fun i h hi=>ajQ.1 q8 i (k+j) h S hi;obtain⟨c,i8⟩:=aL (p.a5[k+j]);rw [n9,←i8]at a8;rw [←i8]at i7 i9 f x A;have h_:bF p (base+c)=ae:=(wk b1 b2 (by omega) i7.2).2 i9;have K:∀ d,U≤d→d<base+c→¬ SW p lo hi d:=fun d h1 h2 B=>by
    have h3:=B.2.2;rw [show d=base+(d-base) by omega,wk b1 b2 (by omega) (by omega)]at h3;obtain⟨w,O,e⟩:=ajn h3;by_cases u:w<k+j
    ·have:=E w O u;omega
    ·by_cases u2:w=k+j
     ·subst u2;omega
     ·have:=x w O (by omega);omega
   refine az ?_;apply ai;simp [ha,e_,a7,a8];by_cases o:base+c<hi
   ·obtain⟨J',N,f7⟩:=hy V ds J (base+c) I (by omega) o (fun d hd=>by have:=F.lt d hd;omega) F.pw y;apply ai;simp [W,g8,aM (n:=base+c),N.eq];refine a6 (by simp) ?_;have B:SW p lo hi (base+c):=⟨by omega,o,h_⟩
    refine ax (next _ _ ?_ (by simp [ha]) (by simp [f8]));refine⟨by simp [W],by simp [v],by simp [g8],by simp [e_],ds++[base+c],base+c+1,f7,F.more f K B,fun d hd=>?_,by omega,by omega,by omega,fun w h O=>?_,fun w h O=>?_,fun _=>by omega⟩
    ·rcases aja.1 hd with q | q
     ·exact y d q
     ·rw [ai9]at q;rw [q];exact B
    ·by_cases e:w=k+j
     ·subst e;omega
     ·have:=A w h (by omega);omega
    ·have:=x w h (by omega);omega
   ·obtain⟨J',N,hR⟩:=hn V ds J (base+c) I (by omega) (by omega);apply ai;simp [W,g8,aM (n:=base+c),N.eq];refine aw (by simp) ?_;exact aF (hQ _ _ _ rfl rfl ⟨rfl,ds,.inr hR,F.pw,F.all fun d hd B=>by
     by_cases h:d<base+c
     ·exact K d hd h B
     ·have:=B.2.1;omega⟩)
  ·rintro t' J ⟨W,v,g8,e_,ds,U,I,F,y,b3,b4,b5,E,-,i4⟩ - -;have o6:k+(p.a5.drop k).length=p.a5.length:=by rw [ajm];omega
   rw [o6]at E;obtain⟨-,e1,e2,e3,e4,-⟩:=Y _ _ _ I;have n6:iI (SW p lo hi) (base+p.aJ) ds:=F.skip b4 fun d h1 h2 B=>by
    have h3:=B.2.2;rw [show d=base+(d-base) by omega,wk b1 b2 (by omega) (by omega)]at h3;obtain⟨w,O,e⟩:=ajn h3;have:=E w O O;omega
   have o9:base≤2199023255552:=by
    rcases o5 with rfl | h
    ·have:=i4 (by rw [ajm];omega);omega
    ·omega
   apply ai;simp;refine au (.inl rfl) ?_;simp [v,g8,e2,-ay,aM (n:=base+p.aJ)];refine ax (ih ((hi-(base+p.aJ)).toNat+0) _ ?_ ⟨_,J,ds,base+p.aJ,base+p.aJ,0,rfl,by simp,by simp [W],by simp [v],by simp,by simp,I,n6,y,by omega,?_,aky _,by omega,by omega,by omega,fun j h L=>by omega,fun j h L=>by have:=q9 _ (IT h);omega,.inl rfl,by omega⟩)
   ·by_cases c_:k=0
    ·rw [ba c_];have:=i4 (by rw [ajm];omega);omega
    ·rw [aR c_];omega
   ·rw [show base+p.aJ-p.fr=base-p.fr+p.aJ by omega,Int.add_emod_right];exact b2
structure WQ(p:aE)(hi:Int)(tm:T)(st:dz)(pd:Option av)(z:Int)(ds:List Int)(J:an):Prop where
 h1:J[1]?=aa (.box [.f (fi hi)] 0)
 bp:J[3]?=aa (.box [.f (sl p.hg (ints p.head)),.f (fi p.fr),.f (fi p.aJ),.f (sl p.cg (ints p.a5))] 0)
 bl:J[4]?=aa (.box [.f (fi z)] 0)
 df:J[5]?=aa (.fg ae)
 lp:J[6]?=aa (.lp 181 tm [P.nat 12] jo iC st pd 5)
 ls:∃ c,J[2]?=aa (.box [c] 0)∧LR J c 1 (ints ds)∧∀ i,aS c=aa i→6<i
theorem WQ.six{p:aE}{hi:Int}{b:T}{st st':dz}{g pd':Option av}{z:Int}{ds:List Int}{J:an}(h:WQ p hi b st g z ds J):WQ p hi b st' pd' z ds (J.set 6 (.lp 181 b [P.nat 12] jo iC st' pd' 5)):=by
 obtain⟨h1,h3,h4,h5,h6,c,h2,d,hc⟩:=h;refine⟨?_,?_,?_,?_,If (aj h6),c,?_,d.set (fun e=>by have:=hc 6 e;omega) _,hc⟩
 all_goals (rw [sh (by omega)];assumption)
theorem WQ.low{p:aE}{hi:Int}{d:T}{st:dz}{b:Option av}{z:Int}{ds:List Int}{J:an}(h:WQ p hi d st b z ds J)(g:Int):WQ p hi d st b g ds (J.set 4 (.box [.f (fi g)] 0)):=by
 obtain⟨h1,h3,h4,h5,h6,c,h2,j,hc⟩:=h;refine⟨?_,?_,If (aj h4),?_,?_,c,?_,j.set (fun e=>by have:=hc 4 e;omega) _,hc⟩
 all_goals (rw [sh (by omega)];assumption)
theorem px{p:aE}{hi:Int}{j:T}(L:j.g 5=.c (.ptr 1 0 0))(M:j.g 7=.c (.ptr 2 0 0)){z:Int}{ds:List Int}{J:an}(h:WQ p hi j .ready ab z ds J)(n:Int)(O:n<hi→ds.length≤1000000) :
  ∃ r H',Ev tab (.yield 6) [vi n] J r H'∧((n<hi∧r=vb ae∧WQ p hi j .ready ab z (ds++[n]) H')∨(hi≤n∧r=vb ag∧WQ p hi j .done (aa (.exit 0)) z ds H')):=by
 refine ey (tab:=tab) (b:=6) (args:=[vi n]) (H:=J) h.lp rfl fun X m=>?_;refine au (.inr rfl) ?_;simp;refine ja h.lp ?_;have d:=h.six (st':=.busy) (pd':=ab);generalize J.set 6 (.lp 181 j [P.nat 12] jo iC .busy ab 5)=v at d ⊢;have U:aU v ab (.c (.ptr 1 0 0))=aa (vi hi):=by simp [aU,aC,d.h1]
 obtain⟨c,E,N,F⟩:=d.ls;refine az ?_;apply aq;refine aq (au (.inr rfl) ?_);simp [L,U,-ay];by_cases k:n<hi
 ·refine aG (by simp;omega) (aP ?_);obtain⟨u,s,q,l,I,A,x⟩:=oN N (O k) n;have g:∀(i:Nat) y,i≤6→v[i]?=aa y→s[i]?=aa y:=fun i y hi Q=>A i y Q fun e=>by have:=F i e;omega
  have S:aU v ab (.c (.ptr 2 0 0))=aa (.c c):=by simp [aU,aC,E]
  have B:=g 2 _ (by omega) E;have W:di s (.ptr 2 0 0) [u]=aa (s.set 2 (.box [u] 0)):=by simp [di,B,over]
  refine au (.inr rfl) ?_;simp [M,S,-ay,q,W,-bu];have K:WQ p hi j .busy ab z (ds++[n]) (s.set 2 (.box [u] 0)):=by
   have Y:=aj (g 6 _ (by omega) d.lp);refine⟨?_,?_,?_,?_,?_,u,If (aj B),l.set (l.bh B) _,fun i hi=>?_⟩
   ·rw [sh (by omega)];exact g 1 _ (by omega) d.h1
   ·rw [sh (by omega)];exact g 3 _ (by omega) d.bp
   ·rw [sh (by omega)];exact g 4 _ (by omega) d.bl
   ·rw [sh (by omega)];exact g 5 _ (by omega) d.df
   ·rw [sh (by omega)];exact g 6 _ (by omega) d.lp
   ·rcases x with e | e
    ·rw [e]at hi;exact F i hi
    ·rw [e]at hi;cases hi;have:=aj d.lp;omega
  exact ax (dh (m _ _ _ _ _ _ _ _ _ _ rfl K.lp (.inl ⟨k,rfl,K.six⟩)))
 ·refine aw (by simp;omega) ?_;exact mh rfl (m _ _ _ _ _ _ _ _ _ _ rfl d.lp (.inr ⟨by omega,rfl,d.six⟩))
theorem vt(p:aE)(W:cu p=ae)(U:p.head.length≤1000000)(N:p.a5.length≤1000000)(lo hi:Int)(l0:0≤lo)(l1:lo≤1099511627776)(hh:hi≤lo+1000000) :
  ∃ L g,bR tab 181 [.a (p.row.map .f),vi lo,vi hi]=Eq (.c (.f (sl g (ints L))))∧L.Pairwise (· < ·)∧∀ d,d ∈ L↔SW p lo hi d:=by
 obtain⟨r,⟨L,g,rfl,I,K⟩,h⟩:∃ r,(∃ L g,r=.c (.f (sl g (ints L)))∧L.Pairwise (· < ·)∧∀ d,d ∈ L↔SW p lo hi d)∧bR tab 181 [.a (p.row.map .f),vi lo,vi hi] r:=by
  refine sR abz rfl fun Q w=>?_;apply ai;simp [aE.row];apply ai;simp;obtain⟨m,q⟩:=aL ([.box [.f (sl p.hg (ints p.head)),.f (fi p.fr),.f (fi p.aJ),.f (sl p.cg (ints p.a5))] 0,.box [.f (fi hi)] 0,.box [.f .aA] 0]:an);rw [←q];have la:aU m (aa 4) (.c (.ptr 0 0 0))=aa (.a [.f (sl p.hg (ints p.head)),.f (fi p.fr),.f (fi p.aJ),.f (sl p.cg (ints p.a5))]):=by rw [q];simp [aU,aC,aW]
  obtain⟨r0,H0,S,rfl,rfl⟩:=X5 p lo m;simp only [aE.row,ajd,ajt]at S;have a:m.length=3:=by rw [q];rfl
  rw [a]at S;apply aq;apply ai;simp [la,-ay,S.eq];refine az ?_
  suffices go:∀ j:T,j.g 5=.c (.ptr 1 0 0)→j.g 7=.c (.ptr 2 0 0)→j.g 11=.c (.cl 188 [.ptr 3 0 0,.ptr 4 0 0])→WP tab 181 ab [.code wZ,.inBlock 0,.code pB] ⟨j,[],m++[.box [.f (sl p.hg (ints p.head)),.f (fi p.fr),.f (fi p.aJ),.f (sl p.cg (ints p.a5))] 0,.box [.f (fi lo)] 0]⟩ Q by exact go _ (by simp) (by simp) (by simp)
  intro j f F E;obtain⟨o,y⟩:=aL (m++[.box [.f (sl p.hg (ints p.head)),.f (fi p.fr),.f (fi p.aJ),.f (sl p.cg (ints p.a5))] 0,.box [.f (fi lo)] 0]++[.fg ae,.lp 181 j [P.nat 12] jo iC .ready ab 5]:an);have q0:WQ p hi j .ready ab lo [] o:=by
   rw [y,q];refine⟨rfl,rfl,rfl,rfl,rfl,.f .aA,rfl,?_,fun i h=>by cases h⟩;exact LR.nil _ _
  obtain⟨r,H',he,rfl,ds,s,X,B⟩:=X6 (b:=6) (bp:=3) (bl:=4) p W U N lo hi l0 l1 (by omega) (PP:=fun z ds J=>WQ p hi j .ready ab z ds J) (RR:=fun ds J=>∃ z,WQ p hi j .done (aa (.exit 0)) z ds J)
   (fun z ds J h=>⟨h.bp,h.bl⟩) (fun z z' ds J h=>h.low z')
   (fun z ds J n h a7 hn a8 W hS=>by
    have A:ds.length≤1000000:=by
     have:=mW ds lo (hi-lo) W fun x hx=>by have:=hS x hx;unfold SW at this;omega
     omega
    obtain⟨r,H',u,Z⟩:=px f F h n fun _=>A;rcases Z with⟨_,rfl,Y⟩ | ⟨H,_,_⟩
    ·exact⟨H',u,Y⟩
    ·omega)
   (fun z ds J n h hn _=>by
    obtain⟨r,H',u,Z⟩:=px f F h n fun h=>by omega
    rcases Z with⟨H,_,_⟩ | ⟨_,rfl,Y⟩
    ·omega
    ·exact⟨H',u,z,Y⟩)
   q0
  have l:(m++[bZ.box [.f (sl p.hg (ints p.head)),.f (fi p.fr),.f (fi p.aJ),.f (sl p.cg (ints p.a5))] 0,.box [.f (fi lo)] 0]).length=5:=by simp [a]
  have O:Ev tab (.fn 188) [.c (.yl ((m++[bZ.box [.f (sl p.hg (ints p.head)),.f (fi p.fr),.f (fi p.aJ),.f (sl p.cg (ints p.a5))] 0,.box [.f (fi lo)] 0]).length+1)),.c (.ptr 3 0 0),.c (.ptr 4 0 0)] (m++[bZ.box [.f (sl p.hg (ints p.head)),.f (fi p.fr),.f (fi p.aJ),.f (sl p.cg (ints p.a5))] 0,.box [.f (fi lo)] 0]++[.fg ae,.lp 181 j [P.nat 12] jo iC .ready ab (m++[bZ.box [.f (sl p.hg (ints p.head)),.f (fi p.fr),.f (fi p.aJ),.f (sl p.cg (ints p.a5))] 0,.box [.f (fi lo)] 0]).length]) (.t []) H':=by
   rw [l,←y];exact he
  refine fO (g:=188) (by rw [ry,E];simp [bS]) O ?_;rw [l];have v:∀(J:an) (st:dz) (k:Option av) (z:Int),WQ p hi j st k z ds J→WP tab 181 ab [.code pB] ⟨j,[.er 5],J⟩ Q:=by
   intro J st k z h;obtain⟨c,H,t,hc⟩:=h.ls;have l2:aU J ab (.c (.ptr 2 0 0))=aa (.c c):=by simp [aU,aC,H]
   have M:=t.set (fun e=>by have:=hc 5 e;omega) (.fg ag);obtain⟨g,hg⟩:=M.ex (Km.Ord.bP _) 63;apply ai;simp [F,l2,-ay];refine aF (w _ _ _ ⟨ds,g,rfl,X,B⟩ (.inr ⟨5,rfl,h.df,.c c,?_,?_⟩))
   ·exact dU (by simp)
   ·simp [mR,deep,hg]
  rcases s with⟨z,h⟩ | ⟨z,h⟩
  ·refine gW h.lp (by decide) (ax (v _ _ _ z h.six))
  ·refine oJ h.lp (by decide) (bw rfl (v _ _ _ z h.six))
 exact⟨L,g,h.eq,I,K⟩
end Go.Proofs.YthkmdpgdicohdaaGreat
