/-
  What the program's functions and the reference's answer, for all arguments of their kind, in the small machine: part 2.
-/
import Derived.Test.YtmbjejcfadllnaaGreatS1
import Derived.Test.YtmbjejcfadllnaaGreatK4
import Derived.Test.YtmbjejcfadllnaaGreatProg
import Derived.Test.YtmbjejcfadllnaaGreatTie
import Derived.Test.YtmbjejcfadllnaaGreatEv
open Nat renaming eq_zero_or_pos → cH, le_refl → aq, le_trans → a7, zero_add → cg
open List renaming getElem_mem → az, getElem?_eq_getElem → ai, map_cons → ax, map_nil → aE, getElem?_append_left → ae, length_pos_iff → cQ, getElem_of_mem → b7, mem_append → bX, take_succ_eq_append_getElem → aD, take_length → bO, getElem?_set_self → ap, getElem?_set_ne → al, length_append → aL, map_append → cq, length_map → bL, drop_zero → cG, take_of_length_le → bi, mem_of_mem_drop → cX, mem_of_mem_take → cN, mem_map → ci, foldl_cons → cm, getElem?_append_right → bc
open Int renaming emod_nonneg → cr, tmod_eq_emod_of_nonneg → b9, emod_lt_of_pos → co, le_refl → cR, toNat_of_nonneg → cS
open Option renaming map_some → bz, bind_some → bh
set_option linter.unusedVariables false
set_option linter.unusedSimpArgs false
set_option linter.unusedSectionVars false
set_option linter.unnecessarySimpa false
set_option maxRecDepth 100000
namespace Go.Proofs.YtmbjejcfadllnaaGreat
open Go Km
section
structure axp(z:ZD):Prop where
 c:z.c<3
 st:-1080≤z.start∧z.start≤1080
 tl:z.tr.length≤3
 tb:∀ x ∈ z.tr,0≤x.at_∧x.at_<z.hor∧-1080≤x.off∧x.off≤1080
 ts:∀(i:Nat) x y,z.tr[i]?=some x→z.tr[i+1]?=some y→x.at_+2160≤y.at_
 ho:0≤z.hor∧z.hor≤40000
theorem axp.none{z:ZD}(h:axp z)(e:z.yr=[]):OKZ z []:=⟨h.c,h.st,h.tl,h.tb,h.ts,h.ho,.inl ⟨e,rfl⟩⟩
theorem axn{o:List TrD}{size t:Int}(hb:∀ x ∈ o,AtB x)(hs:iU o size=true)(s0:1≤size)(s1:size≤400000)(t0:0≤t)(t1:t≤40000){x:TrD}(hx:aft o size t=some x):0≤x.at_∧x.at_≤10000000:=by
 have o0:0<o.length:=by
  rcases cH o.length with e | e
  ·have:o=[]:=List.length_eq_zero_iff.1 e;subst this;simp [aft,xB]at hx
  ·exact e
 have hb0:=hb _ (az o0);unfold AtB at hb0;have hK:turns o size t=if o[0].at_<t then(t-o[0].at_) / size else 0:=by unfold turns;rw [ai o0]
 have q0:=Int.mul_ediv_add_emod (t-o[0].at_) size;have q1:=cr (t-o[0].at_) (show size≠0 by omega)
 have hKs:turns o size t*size≤2000000:=by
  rw [hK];split
  ·rw [Int.mul_comm];omega
  ·omega
 have key:∀ k,k*size≤4000000→xB o size t k=some x→0≤x.at_∧x.at_≤10000000:=by
  intro k hk hx;obtain⟨⟨y,hy,rfl⟩,h2,-⟩:=axo hs hx;have:=hb _ hy;unfold AtB at this;simp only at h2 ⊢;omega
 unfold aft at hx
 cases h1:xB o size t (turns o size t)with
 | some w=>
  rw [h1]at hx;simp at hx;subst hx
  exact key _ (by omega) h1
 | none=>
  rw [h1]at hx;simp at hx;exact key _ (by rw [Int.add_mul,Int.one_mul];omega) hx
theorem MO(g:Tg)(n t:Int):Km.Pure tab.get DR [.c (.f (sl g (aY []))),vi n,vi t]=Eq (.t [.a [.f (fi 0),.f (fi 0)],vb false]):=Km.Pure.eq (by
 refine bZ aEb rfl fun Q hQ=>?_
 refine kw_sr ?_;simp;refine kw_seq ?_;refine kw_sr ?_;have hsl:∀ H:Heap,bV H (.f (sl g (aY [])))=some 0:=fun H=>by simpa using VY (H:=H) g (aY [])
 simp [hsl];refine ak (by simp) ?_
 refine kw_sr ?_;simp;refine aQ (hQ _ _ ?_)
 simp)
theorem JQ{z:ZD}(h:axp z){r q:YrD}(hz:z.yr=[r,q])(hr:r.OK)(hq:q.OK) :
  ∃ e:Int,Km.Pure tab.get Ij [z.v]=Eq (vi e)∧(e=0→∃ o,OKZ z o):=by
 obtain⟨rr,⟨e,he,rfl⟩,hp⟩:∃ rr,(∃ e:Int,(e=0→∃ o,OKZ z o)∧rr=vi e)∧Km.Pure tab.get Ij [z.v] rr:=by
  have hc:=h.c;have hst:=h.st;have hho:=h.ho;have htl:=h.tl;have hcy:z.cyc=cyc z.c:=by simp [ZD.cyc,hz]
  have hyl:z.yr.length=2:=by rw [hz];rfl
  have hyo:∀ x ∈ z.yr,x.OK:=by
   rw [hz];intro x hx;simp at hx;rcases hx with rfl | rfl
   ·exact hr
   ·exact hq
  obtain⟨g,o,ho,hyp⟩:=Fz z hc hz hr hq;have hcp:=x9 z hc;refine dY aN7 rfl fun Q hQ=>?_
  refine kw_sr ?_;simp;obtain⟨H0,hH0⟩:∃ H0:Heap,H0=[.box (z.row.map .f) 0]:=⟨_,rfl⟩;rw [←hH0];have z0:H0[0]?=some (.box (z.row.map .f) 0):=by rw [hH0];rfl
  clear hH0;refine kw_seq (kw_sr ?_);simp [uj z0 hc,-aC,show¬ 512<(z.tr.length:Int) by omega]
  refine bQ (by simp) ?_
  refine kw_seq (kw_sr ?_);simp [yT z0 hc,aIe z0 hc,zY z0 hc,wQ z0 hc,-aC,Pz hc,y7 (n:=z.start) (m:=1080) (by decide) (by decide) hst.1 hst.2,y7 (n:=z.hor) (m:=2251799813685248) (by decide) (by decide) (by omega) (by omega),hyl]
  refine bQ (by simp) ?_
  refine kw_seq (kw_sr ?_);simp;refine dS (H:=H0) z.tr.length (fun j t J=>J[0]?=some (.box (z.row.map .f) 0)∧t.g 1=.c (.ptr 0 0 0)) (by omega) (by decide) (by simp) ⟨z0,by simp⟩ ?_ ?_ ?_
  ·rintro j t J L hj ⟨y0,g1⟩ ha hn;simp [g1,ha,uj y0 hc,-aC];exact hn _ ⟨y0,by simp [g1]⟩ (by simp [ha]) (by simp)
  ·rintro j t J hj ⟨y0,g1⟩ ha nx;have hii:=Kq (g:=z.tg) J hj;have hll:=aEv J hj;simp only [TrD.row,ax,aE]at hll;have hx:=h.tb _ (az hj);obtain⟨J1,hJ1⟩:∃ J1:Heap,J1=J++[.box [.f (fi z.tr[j].at_),.f (fi z.tr[j].off)] 0]:=⟨_,rfl⟩;have eb:J1[J.length]?=some (.box [.f (fi z.tr[j].at_),.f (fi z.tr[j].off)] 0):=by rw [hJ1];simp
   have y1:J1[0]?=some (.box (z.row.map .f) 0):=by rw [hJ1,ae (ay y0)];exact y0
   refine aN ?_;refine kw_sr ?_;simp [g1,ha,hii,hll,uj y0 hc,-aC];rw [←hJ1];have la:ldV J1 none (.c (.ptr J.length 0 0))=some (vi z.tr[j].at_):=by simp [ldV,aG,eb,aS]
   have lo:ldV J1 none (.c (.ptr J.length 1 0))=some (vi z.tr[j].off):=by simp [ldV,aG,eb,aS]
   have wo:=y7 (n:=z.tr[j].off) (m:=1080) (by decide) (by decide) hx.2.2.1 hx.2.2.2
   have wa:=y7 (n:=z.tr[j].at_) (m:=2251799813685248) (by decide) (by decide) (by omega) (by omega)
   refine kw_sr ?_;by_cases hj0:j=0
   ·subst hj0;simp [g1,ha,la,lo,wo,wa,zY y1 hc,-aC,show¬ z.hor≤z.tr[0].at_ by omega]
    refine ah (by simp) (aW (aF ?_))
    exact nx _ _ ⟨y1,by simp [g1]⟩ (by simp [ha])
   ·obtain⟨k,rfl⟩:∃ k,j=k+1:=⟨j-1,by omega⟩
    have hik:=Kq (g:=z.tg) J1 (show k<z.tr.length by omega)
    have hlk:=aDW J1 (show k<z.tr.length by omega)
    have hs:=h.ts k _ _ (ai (by omega)) (ai hj)
    have hx':=h.tb _ (az (show k<z.tr.length by omega))
    have wk:IntKind.i64.wrap (k:Nat)=(k:Nat):=wrap64 (by omega) (by omega)
    have wd:IntKind.i64.wrap (z.tr[k+1].at_-z.tr[k].at_)=z.tr[k+1].at_-z.tr[k].at_:=wrap64 (by omega) (by omega)
    simp [g1,ha,la,lo,wo,wa,zY y1 hc,uj y1 hc,-aC,show¬ z.hor≤z.tr[k+1].at_ by omega,wk,hik,hlk,wd,show¬ z.tr[k+1].at_-z.tr[k].at_<2160 by omega,show(0:Int)<(k:Int)+1 by omega]
    refine ah (by simp) (aW (aF ?_))
    exact nx _ _ ⟨y1,by simp [g1]⟩ (by simp [ha])
  clear z0;rintro t J ⟨z0,g1⟩ ha;refine kw_seq (kw_sr ?_);simp;refine dS (H:=J) z.yr.length (fun j t J=>J[0]?=some (.box (z.row.map .f) 0)∧t.g 1=.c (.ptr 0 0 0)) (by omega) (by decide) (by simp) ⟨z0,by simp [g1]⟩ ?_ ?_ ?_
  ·clear g1 ha z0;rintro j t J L hj ⟨y0,g1⟩ ha hn;simp [g1,ha,wQ y0 hc,-aC];exact hn _ ⟨y0,by simp [g1]⟩ (by simp [ha]) (by simp)
  ·clear g1 ha z0;rintro j t J hj ⟨y0,g1⟩ ha nx
   have hii:aO J 5 none (.c (.f (sl z.yg (dH z.yr)))) (vi j)=some (.c (.f (.fp (dH z.yr).flatten (j*5)))):=by
    have:=iE (H:=J) (g:=z.yg) (rows:=dH z.yr) (sz:=5) (k:=.i64) (i:=(j:Int)) (by omega) (by simp;omega)
    simpa using this
   have hll:ldV J (some 5) (.c (.f (.fp (dH z.yr).flatten (j*5))))=some (.a (z.yr[j].row.map .f)):=nM (qy z.yr) (Py hj);have hx:=hyo _ (az hj);obtain⟨J1,hJ1⟩:∃ J1:Heap,J1=J++[.box (z.yr[j].row.map .f) 0]:=⟨_,rfl⟩;have y1:J1[0]?=some (.box (z.row.map .f) 0):=by rw [hJ1,ae (ay y0)];exact y0
   have eb:J1[J.length]?=some (.box (z.yr[j].row.map .f) 0):=by rw [hJ1];simp
   have l0:ldV J1 none (.c (.ptr J.length 0 0))=some (vi z.yr[j].mo):=by simp [ldV,aG,eb,aS,YrD.row]
   have l1:ldV J1 none (.c (.ptr J.length 1 0))=some (vi z.yr[j].wk):=by simp [ldV,aG,eb,aS,YrD.row]
   have l2:ldV J1 none (.c (.ptr J.length 2 0))=some (vi z.yr[j].wd):=by simp [ldV,aG,eb,aS,YrD.row]
   have l3:ldV J1 none (.c (.ptr J.length 3 0))=some (vi z.yr[j].mi):=by simp [ldV,aG,eb,aS,YrD.row]
   have l4:ldV J1 none (.c (.ptr J.length 4 0))=some (vi z.yr[j].off):=by simp [ldV,aG,eb,aS,YrD.row]
   obtain⟨cs,lm⟩:=aIf y1 hc;simp only [YrD.row,ax,aE]at hJ1 hll;refine aN ?_;refine kw_sr ?_;simp [g1,ha,hii,hll,wQ y0 hc,-aC];rw [←hJ1];have wo:=y7 (n:=z.yr[j].off) (m:=1080) (by decide) (by decide) hx.of0 hx.of
   refine kw_sr ?_;have hsl:bV J1 (.f (.fs cs 2))=some 2:=rfl;have f1:¬ z.yr[j].mo<1:=by have:=hx.mo;omega
   have f2:¬ 2<z.yr[j].mo:=by have:=hx.mo;omega
   have f3:¬ z.yr[j].wk<1:=by have:=hx.wk;omega
   have f4:¬ 5<z.yr[j].wk:=by have:=hx.wk;omega
   have f5:¬ z.yr[j].wd<0:=by have:=hx.wd0;omega
   have f6:¬ 6<z.yr[j].wd:=by have:=hx.wd;omega
   have f7:¬ z.yr[j].mi<0:=by have:=hx.mi0;omega
   have f8:¬ 1439<z.yr[j].mi:=by have:=hx.mi;omega
   simp [g1,l0,l1,l2,l3,l4,lm,wo,-aC,f1,f2,f3,f4,f5,f6,f7,f8,hsl];refine ah (by simp) (aW (aF ?_))
   exact nx _ _ ⟨y1,by simp [g1]⟩ (by simp [ha])
  clear g1 ha z0;rintro t J ⟨z0,g1⟩ ha;refine kw_sr ?_;simp [g1,uY z0 hc,-aC,hyp];refine kw_seq (kw_sr ?_)
  cases hs:iU o (cyc z.c*1440)with
  | false=>
   simp;refine ak (by simp) (kw_sr ?_)
   simp;refine aQ (hQ _ _ _ ⟨1,by simp,rfl⟩ ⟨rfl,vi 1,?_,?_⟩)
   ·simp [Km.results,bU,bC]
   ·simp [exV,dB]
  | true=>
   simp;refine bQ (by simp) ?_
   have mk:(∀ x a,aft o (cyc z.c*1440) z.hor=some x→a ∈ z.tr→a.at_+2160≤x.at_)→∃ o,OKZ z o:=fun hx=>⟨o,h.c,h.st,h.tl,h.tb,h.ts,h.ho,.inr ⟨r,q,hz,hr,hq,ho,hs,hx⟩⟩
   have good:(∀ x a,aft o (cyc z.c*1440) z.hor=some x→a ∈ z.tr→a.at_+2160≤x.at_)→∀(t:T) (J:Heap),WP tab.get Ij none [.code Jb] ⟨t,[],J⟩ Q:=by
    intro hx t J;refine kw_sr ?_;simp;refine aQ (hQ _ _ _ ⟨0,fun _=>mk hx,rfl⟩ ⟨rfl,vi 0,?_,?_⟩)
    ·simp [Km.results,bU,bC]
    ·simp [exV,dB]
   have hcB:1≤cyc z.c∧cyc z.c≤217:=by
    have:cyc z.c=91∨cyc z.c=217:=by unfold cyc yG;split<;>simp
    omega
   rcases cH o.length with e0 | o0
   ·have e0:o=[]:=List.length_eq_zero_iff.1 e0;subst e0;have haf:=MO g z.cyc z.hor;refine kw_sr ?_;simp [g1,uY z0 hc,zY z0 hc,-aC,hcp,haf];refine kw_seq (kw_sr ?_);simp;refine bQ (by simp) ?_
    exact good (by simp [aft,xB]) _ _
   ·have hbd:∀ x ∈ o,AtB x:=fun x hx=>Es hc hr hq _ (aq _) x (ho.perm.subset hx)
    have hol:o.length≤1000:=by
     have h1:=uP z.c r q (nY z.c);have h2:=VJ z.c;have:=ho.len;omega
    obtain⟨x,hx,haf⟩:=MN g o o0 hol hbd z.cyc z.hor (by rw [hcy];exact hcB.1) (by rw [hcy];omega) (by omega) (by omega)
    rw [hcy]at hx;have hxb:=axn hbd hs (by omega) (by omega) (by omega) (by omega) hx
    simp only [TrD.row,ax,aE]at haf;refine kw_sr ?_;simp [g1,uY z0 hc,zY z0 hc,-aC,hcp,haf];obtain⟨J1,hJ1⟩:∃ J1:Heap,J1=J++[.box [.f (fi x.at_),.f (fi x.off)] 0]:=⟨_,rfl⟩;rw [←hJ1];have y1:J1[0]?=some (.box (z.row.map .f) 0):=by rw [hJ1,ae (ay z0)];exact z0
    have eb:J1[J.length]?=some (.box [.f (fi x.at_),.f (fi x.off)] 0):=by rw [hJ1];simp
    have la:ldV J1 none (.c (.ptr J.length 0 0))=some (vi x.at_):=by simp [ldV,aG,eb,aS]
    refine kw_seq (kw_sr ?_);by_cases htr:z.tr=[]
    ·simp [g1,uj y1 hc,-aC,htr];refine bQ (by simp) ?_
     exact good (by rw [htr];intro x a _ ha;cases ha) _ _
    ·have hn0:0<z.tr.length:=cQ.2 htr;have ii:=Kq (g:=z.tg) J1 (show z.tr.length-1<z.tr.length by omega)
     have il:=aDW J1 (show z.tr.length-1<z.tr.length by omega)
     have hla:=h.tb _ (az (show z.tr.length-1<z.tr.length by omega))
     have e1:IntKind.i64.wrap ((z.tr.length:Int)-1)=((z.tr.length-1:Nat):Int):=by rw [wrap64 (by omega) (by omega)];omega
     have e2:IntKind.i64.wrap (x.at_-z.tr[z.tr.length-1].at_)=x.at_-z.tr[z.tr.length-1].at_:=wrap64 (by omega) (by omega)
     by_cases hd:x.at_-z.tr[z.tr.length-1].at_<2160
     ·simp [g1,uj y1 hc,-aC,hn0,e1,e2,ii,il,la,hd];refine ak (by simp) (kw_sr ?_)
      simp;refine aQ (hQ _ _ _ ⟨1,by simp,rfl⟩ ⟨rfl,vi 1,?_,?_⟩)
      ·simp [Km.results,bU,bC]
      ·simp [exV,dB]
     ·simp [g1,uj y1 hc,-aC,hn0,e1,e2,ii,il,la,hd];refine bQ (by simp) ?_
      refine good ?_ _ _;intro x' a hx' ha;rw [hx]at hx';cases hx';obtain⟨i,hi,rfl⟩:=b7 ha;rcases Nat.lt_or_eq_of_le (show i≤z.tr.length-1 by omega)with h1 | h1
      ·have:=aEn h.ts i _ h1 (by omega);omega
      ·subst h1;omega
 exact⟨e,hp.eq,he⟩
end
section
abbrev u8(n:Nat):FC:=.int .u8 (n:Nat)
structure jY where
 st:Nat
 gg:Tg
 gaps:List Nat
 og:Tg
 zM:List Nat
 be:Nat
 y:Nat→Nat→Nat
 cal:Nat
 rules:Bool
def eU(l:List Nat):List (List FC):=l.map fun n=>[u8 n]
@[simp] theorem aKd (l:List Nat):(eU l).length=l.length:=by simp [eU]
theorem MH(l:List Nat):Grid 1 (eU l):=Grid.map fun _=>rfl
theorem Aa{j:Nat}{l:List Nat}(hj:j<l.length){H:Heap}:ldV H none (.c (.f (.fp (eU l).flatten j)))=some (.c (.f (u8 l[j]))):=by
 have:=nN (H:=H) (rows:=eU l) (j:=j) (sz:=1) (row:=[u8 l[j]]) (x:=u8 l[j]) (MH l) (by simp [eU,hj]) rfl
 simpa using this
theorem wU{j:Nat}{l:List Nat}{g:Tg}(hj:j<l.length){H:Heap}:aO H 1 none (.c (.f (sl g (eU l)))) (vi j)=some (.c (.f (.fp (eU l).flatten j))):=by
 have:=iE (H:=H) (g:=g) (rows:=eU l) (sz:=1) (k:=.i64) (i:=(j:Int)) (by omega) (by simp;omega)
 simpa using this
def jY.row(x:jY):List FC:=[u8 x.st,sl x.gg (eU x.gaps),sl x.og (eU x.zM),u8 x.be,u8 (x.y 0 0),u8 (x.y 0 1),u8 (x.y 0 2),u8 (x.y 0 3),u8 (x.y 1 0),u8 (x.y 1 1),u8 (x.y 1 2),u8 (x.y 1 3),u8 x.cal,.bool x.rules]
structure jY.OK(x:jY):Prop where
 st:x.st<256
 gl:x.gaps.length≤9223372036854775807
 ol:x.zM.length≤9223372036854775807
 ga:∀ n ∈ x.gaps,n<256
 of:∀ n ∈ x.zM,n<256
 be:x.be<256
 y:∀ k i,k<2→i<4→x.y k i<256
 cal:x.cal<256
theorem y8(n:Nat){m:Nat}(hm:0<m):dG .rem (.c (.f (u8 n))) (.c (.f (u8 m)))=some (.c (.f (u8 (n % m)))):=by
 have:¬ ((m:Int)=0):=by omega
 simp only [dG,qp,if_true,this,if_false];rfl
theorem u8_quo{n:Nat}(hn:n<256){m:Nat}(hm:0<m):dG .quo (.c (.f (u8 n))) (.c (.f (u8 m)))=some (.c (.f (u8 (n / m)))):=by
 have:¬ ((m:Int)=0):=by omega
 have h1:n / m≤n:=Nat.div_le_self n m;simp only [dG,qp,if_true,this,if_false];rw [show(n:Int).tdiv (m:Int)=((n / m:Nat):Int) from rfl]
 have:IntKind.u8.wrap ((n / m:Nat):Int)=((n / m:Nat):Int):=by
  revert h1;generalize n / m=q;intro h1;exact wrapu8 (by omega) (by omega)
 rw [this];rfl
def ku(J:Heap)(cs:List C)(c:Nat):Prop:=
 (c=0∧cs=[.f (fi 2),.sl 2 0 2 2 0 1,.f (fi (-1)),.f .au]∧∃ fl,J[2]?=some (.box [.f (fi 7),.f (fi 6)] fl)) ∨
 ∃ k:Nat,k<2∧c=k+1∧cs=[.f (fi 5),.sl 4 0 2 2 0 1,.f (fi 1),.sl 5 0 1 1 0 3]∧(∃ fl,J[4]?=some (.box [.f (fi 7),.f (fi 8)] fl))∧∃ fl,J[5]?=some (.box [.f (fi 2),.f (fi k),.f (.bool true)] fl)
section
variable{J J':Heap}{cs:List C}{c:Nat}{s h:Int}{ct cy ct' cy':C}
theorem ku.keep'(hc:ku J cs c)(hk:∀(i:Nat) (l:List C) (fl:Nat),J[i]?=some (.box l fl)→(i=2∨i=4∨i=5)→∃ fl',J'[i]?=some (.box l fl')):ku J' cs c:=by
 rcases hc with⟨h1,h2,fl,h3⟩ | ⟨k,h0,h1,h2,⟨f3,h3⟩,f4,h4⟩
 ·exact .inl ⟨h1,h2,hk _ _ _ h3 (by omega)⟩
 ·exact .inr ⟨k,h0,h1,h2,hk _ _ _ h3 (by omega),hk _ _ _ h4 (by omega)⟩
theorem ku.keep(hc:ku J cs c)(hk:∀ i y,J[i]?=some y→(i=2∨i=4∨i=5)→J'[i]?=some y):ku J' cs c:=hc.keep' fun i l fl h hi=>⟨fl,hk i _ h hi⟩
theorem ku.four(hc:ku J cs c):∃ a b d e,cs=[a,b,d,e]:=by
 rcases hc with⟨-,rfl,-⟩ | ⟨k,-,-,rfl,-,-⟩<;>exact⟨_,_,_,_,rfl⟩
theorem ku.lt(hc:ku J cs c):c<3:=by
 rcases hc with⟨rfl,-⟩ | ⟨k,h0,rfl,-⟩<;>omega
theorem ku.ex(hc:ku J cs c):bC (exC 64 J) cs=some (pO c):=by
 rcases hc with⟨rfl,rfl,fl,h1⟩ | ⟨k,h0,rfl,rfl,⟨f1,h1⟩,f2,h2⟩
 ·simp [bC,sZ,h1,pO]
 ·simp [bC,sZ,h1,h2,pO]
abbrev qw(cs:List C)(s:Int)(ct:C)(h:Int)(cy:C):Blk:=.box (cs++[.f (fi s),ct,.f (fi h),cy]) 0
theorem aKj(hc:ku J cs c)(hb:J[3]?=some (qw cs s ct h cy)):ldV J none (.c (.ptr 3 5 0))=some (.c ct):=by
 obtain⟨a,b,d,e,rfl⟩:=hc.four;simp [ldV,aG,hb,aS]
theorem aDS(hc:ku J cs c)(hb:J[3]?=some (qw cs s ct h cy)):ldV J none (.c (.ptr 3 7 0))=some (.c cy):=by
 obtain⟨a,b,d,e,rfl⟩:=hc.four;simp [ldV,aG,hb,aS]
theorem JK(hc:ku J cs c)(hb:J[3]?=some (qw cs s ct h cy)):ldV J (some 8) (.c (.ptr 3 0 0))=some (.a (cs++[.f (fi s),ct,.f (fi h),cy])):=by
 obtain⟨a,b,d,e,rfl⟩:=hc.four;simp [ldV,aG,hb,aS]
theorem aKh(hc:ku J cs c)(hb:J[3]?=some (qw cs s ct h cy)):stC J (.ptr 3 5 0) [ct']=some (J.set 3 (qw cs s ct' h cy)):=by
 obtain⟨a,b,d,e,rfl⟩:=hc.four;simp [stC,hb,over];rfl
theorem aKi{h':Int}(hc:ku J cs c)(hb:J[3]?=some (qw cs s ct h cy)):stC J (.ptr 3 6 0) [.f (fi h')]=some (J.set 3 (qw cs s ct h' cy)):=by
 obtain⟨a,b,d,e,rfl⟩:=hc.four;simp [stC,hb,over];rfl
theorem aDR(hc:ku J cs c)(hb:J[3]?=some (qw cs s ct h cy)):stC J (.ptr 3 7 0) [cy']=some (J.set 3 (qw cs s ct h cy')):=by
 obtain⟨a,b,d,e,rfl⟩:=hc.four;simp [stC,hb,over];rfl
end
structure TrP(tr:List TrD)(at_:Int):Prop where
 tl:tr.length≤3
 lo:0≤at_∧at_≤7260*tr.length
 tb:∀ x ∈ tr,0≤x.at_∧x.at_≤at_∧-1080≤x.off∧x.off≤1080
 ts:∀(i:Nat) x y,tr[i]?=some x→tr[i+1]?=some y→x.at_+2160≤y.at_
theorem TrP.nil:TrP [] 0:=⟨by simp,by simp,by simp,by simp⟩
theorem TrP.app{tr:List TrD}{at_:Int}(h:TrP tr at_)(hl:tr.length≤2){n m:Nat}(hn:n<256):TrP (tr++[⟨at_+2160+20*n,pW m⟩]) (at_+2160+20*n):=by
 have hb:=oh m;have h0:=h.lo;refine⟨by simp;omega,by simp;omega,fun x hx=>?_,fun i x y hx hy=>?_⟩
 ·rcases bX.1 hx with hx | hx
  ·have:=h.tb x hx;omega
  ·simp at hx;subst hx;simp only;omega
 ·rw [List.getElem?_append]at hx hy;split at hy
  ·rename_i h1;rw [if_pos (by omega)]at hx
   exact h.ts i x y hx hy
  ·rename_i h1
   have hi:i+1=tr.length:=by
    have:=LC hy;simp at this;omega
   rw [if_pos (by omega)]at hx
   have h2:=h.tb x (List.mem_of_getElem? hx);rw [←hi]at hy;simp at hy;subst hy;simp only;omega
 where LC {α:Type} {l:List α} {i:Nat} {x:α} (h:l[i]?=some x):i<l.length:=(List.getElem?_eq_some_iff.1 h).1
end
section
abbrev i8v(n:Int):V:=.c (.f (.int .i8 n))
theorem pq{n k:Int}(hn:-128≤n∧n≤127)(hk:1≤k∧k≤1000):∃ m,0≤m∧m<k∧Km.Pure tab.get DX [i8v n,vi k]=Eq (vi m):=by
 obtain⟨rr,⟨m,h1,h2,rfl⟩,hp⟩:∃ rr,(∃ m,0≤m∧m<k∧rr=vi m)∧Km.Pure tab.get DX [i8v n,vi k] rr:=by
  refine dY aOi rfl fun Q hQ=>?_
  refine kw_sr ?_;simp;have hw:IntKind.i64.wrap n=n:=wrap64 (by omega) (by omega)
  have hr:dG .rem (vi n) (vi k)=some (vi (n.tmod k)):=su (by omega)
  have hb:-k<n.tmod k∧n.tmod k<k:=by
   rcases Int.le_total 0 n with h | h
   ·rw [b9 h];have:=cr n (show k≠0 by omega)
    have:=co n (show 0<k by omega)
    omega
   ·have:n = -(-n):=by omega
    rw [this,Int.neg_tmod,b9 (by omega)]
    have:=cr (-n) (show k≠0 by omega)
    have:=co (-n) (show 0<k by omega)
    omega
  refine kw_sr ?_;simp [hw,hr];obtain⟨r,hrr⟩:∃ r,r=n.tmod k:=⟨_,rfl⟩;rw [←hrr]at hb ⊢;refine kw_seq (kw_sr ?_);simp;by_cases h0:r<0
  ·have hng:unV .neg (vi r)=some (vi (-r)):=by
    show some (V.c (.f (.int .i64 (IntKind.i64.wrap (0-r)))))=_
    rw [wrap64 (by omega) (by omega),Int.zero_sub]
   refine ak (by simp [h0]) (kw_sr ?_)
   simp [hng];exact aQ (hQ _ _ _ ⟨-r,by omega,by omega,rfl⟩ (by simp))
  ·refine bQ (by simp [h0]) ?_
   refine kw_sr ?_;simp;exact aQ (hQ _ _ _ ⟨r,by omega,by omega,rfl⟩ (by simp))
 exact⟨m,h1,h2,hp.eq⟩
theorem Di(l:List Int)(v:Int):ints (l++[v])=ints l++[[fi v]]:=by simp [ints]
structure AX(lo x:Int)(zero:Bool)(li:List Int):Prop where
 pw:li.Pairwise (· < ·)
 bd:∀ v ∈ li,lo≤v∧v<x∧(zero=false→v≠0)
theorem AX.snoc{lo x:Int}{zero:Bool}{li:List Int}(h:AX lo x zero li)(hx:lo≤x)(hz:zero=false→x≠0):AX lo (x+1) zero (li++[x]):=by
 refine⟨List.pairwise_append.2 ⟨h.pw,List.pairwise_singleton _ _,fun a ha b hb=>?_⟩,fun v hv=>?_⟩
 ·simp at hb;subst hb;exact(h.bd a ha).2.1
 ·rcases bX.1 hv with hv | hv
  ·have:=h.bd v hv;exact⟨this.1,by omega,this.2.2⟩
  ·simp at hv;subst hv;exact⟨hx,by omega,hz⟩
theorem AX.skip{lo x:Int}{zero:Bool}{li:List Int}(h:AX lo x zero li):AX lo (x+1) zero li:=⟨h.pw,fun v hv=>by have:=h.bd v hv;exact⟨this.1,by omega,this.2.2⟩⟩
theorem U8{lo:Int}:∀ {n:Nat} {li:List Int},li.Pairwise (· < ·)→(∀ v ∈ li,lo≤v∧v<lo+n)→li.length≤n
 | 0,li,_,hb=>by
  cases li with
  | nil=>exact aq _
  | cons v li=>have:=hb v List.mem_cons_self;omega
 | n+1,li,hp,hb=>by
  rcases List.eq_nil_or_concat li with rfl | ⟨l',v,rfl⟩
  ·simp
  ·rw [List.concat_eq_append]at hp hb ⊢;have hp':=List.pairwise_append.1 hp;have hv:=hb v (by simp)
   have:=U8 (lo:=lo) (n:=n) (li:=l') hp'.1 fun w hw=>by
    have h1:=hb w (List.mem_append_left _ hw);have h2:=hp'.2.2 w hw v (by simp)
    omega
   simp;omega
set_option maxHeartbeats 1000000 in
theorem oZ(g:Tg)(l:List Nat)(hll:l.length≤9223372036854775807)(hlb:∀ n ∈ l,n<256){lo hi:Int}(h1:-1000≤lo)(h2:lo≤hi)(h3:hi≤1000)(zero:Bool)(hz:zero=false→hi≠0) :
  ∃ g' li,Ris li lo hi zero∧li.length≤(hi-lo+1).toNat∧Km.Pure tab.get qh [.c (.f (sl g (eU l))),vi lo,vi hi,vb zero]=Eq (.c (.f (sl g' (ints li)))):=by
 obtain⟨rr,⟨g',li,hr,hl,rfl⟩,hp⟩:∃ rr,(∃ g' li,Ris li lo hi zero∧li.length≤(hi-lo+1).toNat∧rr=.c (.f (sl g' (ints li))))∧Km.Pure tab.get qh [.c (.f (sl g (eU l))),vi lo,vi hi,vb zero] rr:=by
  refine dY aOe rfl fun Q hQ=>?_
  refine kw_sr ?_;simp;refine kw_sr ?_;simp;refine kw_seq (kw_sr ?_);simp;refine aN ?_
  refine iL (fun n s=>∃(x:Int) (li:List Int) (c:C) (t:T) (J:Heap),s=⟨t,[],J⟩∧lo≤x∧x≤hi+1∧n=(hi+1-x).toNat∧AX lo x zero li∧LR J c 1 (ints li)∧t.g 0=.c (.f (sl g (eU l)))∧t.g 1=vi lo∧t.g 2=vi hi∧t.g 3=vb zero∧t.g 9=.c c∧t.g 10=vi x) (hi+1-lo).toNat
   ⟨lo,[],.f .es,_,[],rfl,cR _,by omega,rfl,⟨List.Pairwise.nil,by simp⟩,.inl ⟨rfl,.inr rfl⟩,by simp,by simp,by simp,by simp,by simp,by simp⟩ ?_
  rintro n s ⟨x,li,c,t,J,rfl,hx0,hx1,rfl,hI,hL,g0,g1,g2,g3,g9,g10⟩ ih;have hlen:li.length≤(x-lo).toNat:=U8 (lo:=lo) hI.pw fun v hv=>by have:=hI.bd v hv;omega
  refine kw_seq (kw_sr ?_);simp [g10,g2];by_cases hx:x≤hi
  case neg=>
   refine ah (by simp [hx]) ?_
   refine iM (k':=[.code wC]) rfl ?_;have hln:=hL.len
   have fin:∀(t:T) (J:Heap) (c:C) (li:List Int),Ris li lo hi zero→li.length≤(hi-lo+1).toNat→LR J c 1 (ints li)→t.g 9=.c c→WP tab.get qh none [.code Jq] ⟨t,[],J⟩ Q:=by
    intro t J c li hr hl hL g9;obtain⟨g',hx⟩:=hL.ex (iO _) 63;have hx':exC deep J c=some (sl g' (ints li)):=hx;refine kw_sr ?_;simp [g9];refine aQ (hQ _ _ _ ⟨g',li,hr,hl,rfl⟩ ⟨rfl,.c c,?_,?_⟩)
    ·simp [Km.results,bU,bC]
    ·simp [exV,dB,hx']
   refine kw_seq (kw_sr ?_);simp [g9,hln];by_cases h0:li=[]
   ·subst h0;obtain⟨J1,hJ1⟩:∃ J1:Heap,J1=J++[.box ([fi hi].map .f) 0]:=⟨_,rfl⟩;have hL1:LR J1 c 1 (ints []):=by rw [hJ1];exact hL.push _
    have hb1:J1[J.length]?=some (.box ([fi hi].map .f) 0):=by rw [hJ1];simp
    obtain⟨c',H',happ,hL',hK',hc'⟩:=hL1.app (iO _) (by decide) (row:=[fi hi]) rfl (bytes:=8) (by decide) hb1
    simp only [ax,aE]at hJ1;refine ak (by simp) (kw_region (.inl rfl) ?_)
    simp [g9,g2];rw [←hJ1];simp [happ];have hr:Ris [hi] lo hi zero:=⟨by simp,List.pairwise_singleton _ _,fun v hv=>by simp at hv;subst hv;exact⟨h2,cR _,hz⟩⟩
    exact fin _ _ c' [hi] hr (by simp;omega) (by simpa [ints]using hL') (by simp)
   ·refine bQ (by simp [h0]) ?_
    have hr:Ris li lo hi zero:=⟨h0,hI.pw,fun v hv=>by have:=hI.bd v hv;exact⟨this.1,by omega,this.2.2⟩⟩
    exact fin _ _ c li hr (by omega) hL (by simp [g9])
  refine ak (by simp [hx]) (aW ?_)
  refine kw_seq (aN (kw_sr ?_));simp;have hx2:IntKind.i64.wrap (x+1)=x+1:=wrap64 (by omega) (by omega)
  refine kw_seq (kw_sr ?_);simp;obtain⟨N,hN⟩:∃ N,N=min l.length 4:=⟨_,rfl⟩
  refine dS N (fun i t K=>K=J∧t.g 0=.c (.f (sl g (eU l)))∧t.g 1=vi lo∧t.g 2=vi hi∧t.g 3=vb zero∧t.g 9=.c c∧t.g 10=vi x∧∃ b,t.g 11=vb b) (by omega) (by decide) (by simp)
   ⟨rfl,by simp [g0],by simp [g1],by simp [g2],by simp [g3],by simp [g9],by simp [g10],false,by simp⟩ ?_ ?_ ?_
  ·rintro i t K L hi' ⟨rfl,g0,g1,g2,g3,g9,g10,b,g11⟩ ha hn;by_cases c1:(i:Int)<l.length
   ·simp [ha,g0,c1];exact hn _ ⟨rfl,by simp [g0],by simp [g1],by simp [g2],by simp [g3],by simp [g9],by simp [g10],b,by simp [g11]⟩ (by simp [ha]) (by simp;omega)
   ·simp [ha,g0,c1];exact hn _ ⟨rfl,by simp [g0],by simp [g1],by simp [g2],by simp [g3],by simp [g9],by simp [g10],b,by simp [g11]⟩ (by simp [ha]) (by simp;omega)
  ·rintro i t K hi' ⟨rfl,g0,g1,g2,g3,g9,g10,b,g11⟩ ha nx;have hil:i<l.length:=by omega
   have hv:=hlb _ (az hil);refine aN (kw_region (.inl rfl) ?_);cases b
   ·have w1:IntKind.i64.wrap (l[i]:Int)=l[i]:=wrap64 (by omega) (by omega)
    have w2:IntKind.i64.wrap (hi-lo)=hi-lo:=wrap64 (by omega) (by omega)
    have w3:IntKind.i64.wrap (hi-lo+1)=hi-lo+1:=wrap64 (by omega) (by omega)
    have w4:=wM (a:=(l[i]:Int)) (b:=hi-lo+1) (by omega) (by omega)
    simp [g11,g1,g0,ha,wU hil,Aa hil,w1,g2,w2,w3,w4,g10];refine aF (nx _ _ ⟨rfl,by simp [g0],by simp [g1],by simp [g2],by simp [g3],by simp [g9],by simp [g10],_,by simp;rfl⟩ (by simp [ha]))
   ·simp [g11];refine aF (nx _ _ ⟨rfl,by simp [g0],by simp [g1],by simp [g2],by simp [g3],by simp [g9],by simp [g10],true,by simp⟩ (by simp [ha]))
  ·rintro t K ⟨rfl,g0,g1,g2,g3,g9,g10,b,g11⟩ ha
   have no:∀ t:T,t.g 0=.c (.f (sl g (eU l)))→t.g 1=vi lo→t.g 2=vi hi→t.g 3=vb zero→t.g 9=.c c→t.g 10=vi x→t.g 54=vb false →
     WP tab.get qh none [.code Bo,.inBlock 1,.code Bl,.inLoop Fv,.inBlock 0,.code wC] ⟨t,[],K⟩ Q:=by
    intro t g0 g1 g2 g3 g9 g10 g54;refine ah g54 (aW (aF (kw_region (.inl rfl) ?_)));simp [g10,hx2];exact ih (hi+1-(x+1)).toNat _ (by omega) ⟨x+1,li,c,_,_,rfl,by omega,by omega,rfl,hI.skip,hL,by simp [g0],by simp [g1],by simp [g2],by simp [g3],by simp [g9],by simp⟩
   have yes:(zero=false→x≠0)→∀ t:T,t.g 0=.c (.f (sl g (eU l)))→t.g 1=vi lo→t.g 2=vi hi→t.g 3=vb zero→t.g 9=.c c→t.g 10=vi x→t.g 54=vb true →
     WP tab.get qh none [.code Bo,.inBlock 1,.code Bl,.inLoop Fv,.inBlock 0,.code wC] ⟨t,[],K⟩ Q:=by
    intro hzx t g0 g1 g2 g3 g9 g10 g54;obtain⟨J1,hJ1⟩:∃ J1:Heap,J1=K++[.box ([fi x].map .f) 0]:=⟨_,rfl⟩;have hL1:LR J1 c 1 (ints li):=by rw [hJ1];exact hL.push _
    have hb1:J1[K.length]?=some (.box ([fi x].map .f) 0):=by rw [hJ1];simp
    obtain⟨c',H',happ,hL',hK',hc'⟩:=hL1.app (iO _) (by decide) (row:=[fi x]) rfl (bytes:=8) (fH (by simp;omega) (by decide)) hb1
    simp only [ax,aE]at hJ1;refine ak g54 (kw_region (.inl rfl) ?_);simp [g9,g10];rw [←hJ1];simp [happ];refine aF (kw_region (.inl rfl) ?_);simp [g10,hx2];exact ih (hi+1-(x+1)).toNat _ (by omega) ⟨x+1,li++[x],c',_,_,rfl,by omega,by omega,rfl,hI.snoc hx0 hzx,by rw [Di];exact hL',by simp [g0],by simp [g1],by simp [g2],by simp [g3],by simp,by simp⟩
   refine kw_sr ?_;cases b
   ·simp [g11];exact no _ (by simp [g0]) (by simp [g1]) (by simp [g2]) (by simp [g3]) (by simp [g9]) (by simp [g10]) (by simp)
   ·by_cases Qr:x=0
    ·cases zero
     ·simp [g11,g10,Qr,g3];exact no _ (by simp [g0]) (by simp [g1]) (by simp [g2]) (by simp [g3]) (by simp [g9]) (by simp [g10,Qr]) (by simp)
     ·simp [g11,g10,Qr,g3];exact yes (fun e=>by cases e) _ (by simp [g0]) (by simp [g1]) (by simp [g2]) (by simp [g3]) (by simp [g9]) (by simp [g10,Qr]) (by simp)
    ·simp [g11,g10,Qr];exact yes (fun _=>Qr) _ (by simp [g0]) (by simp [g1]) (by simp [g2]) (by simp [g3]) (by simp [g9]) (by simp [g10]) (by simp)
 exact⟨g',li,hr,hl,hp.eq⟩
end
section
def qL:List C:=[.f (fi 0),.f (fi 0),.f (fi 0),.f (fi 0),.f (fi 0),.f (fi 0),.f .au,.f (.str ⟨#[]⟩)]
theorem BU(l:List aK)(x:aK):aB (l++[x])=aB l++[x.row]:=by simp [aB]
theorem zZ{H:Heap}{b fl:Nat}{x:aK}(hb:H[b]?=some (.box (x.row.map .f) fl)) :
  ldV H none (.c (.ptr b 0 0))=some (vi x.d.k)∧ldV H none (.c (.ptr b 1 0))=some (vi x.d.cal)∧ldV H none (.c (.ptr b 2 0))=some (vi x.d.l)∧ldV H none (.c (.ptr b 3 0))=some (vi x.d.r) ∧
  ldV H none (.c (.ptr b 4 0))=some (vi x.d.n)∧ldV H none (.c (.ptr b 5 0))=some (vi x.d.m)∧ldV H none (.c (.ptr b 6 0))=some (.c (.f (sl x.tg (ints x.d.li))))∧ldV H (some 8) (.c (.ptr b 0 0))=some (.a (x.row.map .f)):=by
 refine⟨?_,?_,?_,?_,?_,?_,?_,?_⟩<;>simp [ldV,hb,aG,aS,aK.row]
theorem mF(x:aK)(hxl:x.d.li.length≤61):∃ tg,Km.Pure tab.get yC [.a (x.row.map .f)]=Eq (.a ((aK.row ⟨x.d,tg⟩).map .f)):=by
 obtain⟨rr,⟨tg,rfl⟩,hp⟩:∃ rr,(∃ tg,rr=.a ((aK.row ⟨x.d,tg⟩).map .f))∧Km.Pure tab.get yC [.a (x.row.map .f)] rr:=by
  refine dY aOl rfl fun Q hQ=>?_
  refine kw_sr ?_;simp;obtain⟨H,hH⟩:∃ H:Heap,H=[.box (x.row.map .f) 0,.box qL 0]:=⟨_,rfl⟩;have b0:H[0]?=some (.box (x.row.map .f) 0):=by rw [hH];rfl
  have b1:H[1]?=some (.box qL 0):=by rw [hH];rfl
  have hl:H.length=2:=by rw [hH];rfl
  simp only [qL]at hH;rw [←hH];clear hH;refine kw_sr ?_;simp;refine kw_seq (kw_sr ?_);simp
  refine dS x.d.li.length (fun j t K=>∃ c,t.g 1=.c (.ptr 0 0 0)∧t.g 2=.c (.ptr 1 0 0)∧t.g 3=.c c∧LR K c 1 (ints (x.d.li.take j))∧Kb H K (.f .es)∧(∀ b,aX c=some b→2≤b)) (by omega) (by decide) (by simp)
   ⟨.f .es,by simp,by simp,by simp,.inl ⟨rfl,.inr rfl⟩,Kb.refl _ _,by simp [aX]⟩ ?_ ?_ ?_
  ·rintro j t K L hj ⟨c,g1,g2,g3,hLR,hKb,hcb⟩ ha hn;obtain⟨-,-,-,-,-,-,e6,-⟩:=zZ (hKb.2 0 _ b0 (by simp [aX]))
   simp [ha,g1,e6,-aC];exact hn _ ⟨c,by simp [g1],by simp [g2],by simp [g3],hLR,hKb,hcb⟩ (by simp [ha]) (by simp)
  ·rintro j t K hj ⟨c,g1,g2,g3,hLR,hKb,hcb⟩ ha nx;obtain⟨-,-,-,-,-,-,e6,-⟩:=zZ (hKb.2 0 _ b0 (by simp [aX]))
   have hix:∀ H,aO H 1 none (.c (.f (sl x.tg (ints x.d.li)))) (vi j)=some (.c (.f (.fp (ints x.d.li).flatten j))):=fun H=>by
    have:=iE (H:=H) (g:=x.tg) (rows:=ints x.d.li) (sz:=1) (k:=.i64) (i:=(j:Int)) (by omega) (by simp;omega)
    simpa using this
   obtain⟨v,hv⟩:∃ v,v=x.d.li[j]:=⟨_,rfl⟩;have hlj:ldV K none (.c (.f (.fp (ints x.d.li).flatten j)))=some (vi v):=by rw [hv];exact qR hj
   obtain⟨K1,hK1⟩:∃ K1:Heap,K1=K++[.box ([fi v].map .f) 0]:=⟨_,rfl⟩;have hL1:LR K1 c 1 (ints (x.d.li.take j)):=by rw [hK1];exact hLR.push _
   have hb1:K1[K.length]?=some (.box ([fi v].map .f) 0):=by rw [hK1];simp
   obtain⟨c',H',happ,hL',hK',hc'⟩:=hL1.app (iO _) (by decide) (row:=[fi v]) rfl (bytes:=8) (fH (by simp;omega) (by decide)) hb1
   simp only [ax,aE]at hK1;refine aN (kw_region (.inl rfl) ?_);simp [g1,g3,e6,-aC,ha,hix,hlj];rw [←hK1];simp [happ]
   have h1:Kb H K1 (.f .es):=by
    refine⟨by have:=hKb.1;rw [hK1];simp;omega,fun i y hy hn=>?_⟩
    rw [hK1,ae (ay (hKb.2 i y hy hn))];exact hKb.2 i y hy hn
   refine aF ?_;refine nx _ _ ⟨c',by simp [g1],by simp [g2],by simp,?_,?_,?_⟩ (by simp [ha])
   ·rw [aD hj,←hv,Di];exact hL'
   ·refine⟨a7 h1.1 hK'.1,fun i y hy hn=>hK'.2 i y (h1.2 i y hy hn) fun e=>?_⟩
    have:=hcb i e;have:=ay hy;omega
   ·intro b hb;rcases hc' with e | e
    ·exact hcb b (by rw [←e];exact hb)
    ·rw [hb]at e;cases e;have:=h1.1;omega
  ·rintro t K ⟨c,g1,g2,g3,hLR,hKb,hcb⟩ ha;rw [bO]at hLR;have k0:=hKb.2 0 _ b0 (by simp [aX])
   have k1:=hKb.2 1 _ b1 (by simp [aX])
   have st1:stC K (.ptr 0 6 0) [c]=some (K.set 0 (.box (x.cel c) 0)):=by simp [stC,k0,aK.row,aK.cel,over]
   obtain⟨K2,hK2⟩:∃ K2:Heap,K2=K.set 0 (.box (x.cel c) 0):=⟨_,rfl⟩;have k20:K2[0]?=some (.box (x.cel c) 0):=by rw [hK2];exact ap (ay k0)
   have k21:K2[1]?=some (.box qL 0):=by rw [hK2,al (by decide)];exact k1
   have e8:ldV K2 (some 8) (.c (.ptr 0 0 0))=some (.a (x.cel c)):=by simp [ldV,k20,aG,aS,aK.cel]
   have st2:stC K2 (.ptr 1 0 0) (x.cel c)=some (K2.set 1 (.box (x.cel c) 0)):=by simp [stC,k21,over,qL,aK.cel]
   obtain⟨K3,hK3⟩:∃ K3:Heap,K3=K2.set 1 (.box (x.cel c) 0):=⟨_,rfl⟩;have k31:K3[1]?=some (.box (x.cel c) 0):=by rw [hK3];exact ap (ay k21)
   have hL3:LR K3 c 1 (ints x.d.li):=by
    rw [hK3,hK2];exact(hLR.set (fun e=>by have:=hcb 0 e;omega) _).set (fun e=>by have:=hcb 1 e;omega) _
   have hc8:(x.cel c).length=8:=rfl;obtain⟨g',hx⟩:=hL3.ex (iO _) 63;have hx':exC deep K3 c=some (sl g' (ints x.d.li)):=hx;have e31:ldV K3 (some 8) (.c (.ptr 1 0 0))=some (.a (x.cel c)):=by simp [ldV,k31,aG,aS,aK.cel]
   refine kw_sr ?_;simp [g1,g3,st1,-bJ];rw [←hK2];refine kw_sr ?_;simp [g1,g2,e8,st2,-bJ,-aC,hc8];rw [←hK3];refine aQ (hQ _ _ _ ⟨g',rfl⟩ ⟨rfl,.a (x.cel c),?_,?_⟩)
   ·simp [Km.results,bU,bC,g2,e31,-aC]
   ·simp [exV,dB,bC,aK.cel,hx',aK.row]
 exact⟨tg,hp.eq⟩
def plc(d n:Nat):List Int:=(List.range n).map fun k:Nat=>((d+k:Nat):Int)
@[simp] theorem aOO (d n:Nat):(plc d n).length=n:=by simp [plc]
theorem atg{d n k:Nat}(h:k<n):(plc d n)[k]'(by simpa using h)=((d+k:Nat):Int):=by simp [plc]
theorem Vb(d n:Nat):plc d (n+1)=plc d n++[((d+n:Nat):Int)]:=by simp [plc,List.range_succ]
theorem OD{H:Heap}{g:Tg}{d n:Nat}{k:Int}(h0:0≤k)(h1:k<n)(hn:n≤1000):aO H 1 none (.c (.f (sl g (ints (plc d n))))) (vi k)=some (.c (.f (.fp (ints (plc d n)).flatten k.toNat))) ∧
  ldV H none (.c (.f (.fp (ints (plc d n)).flatten k.toNat)))=some (vi (k+d)):=by
 constructor
 ·have:=iE (H:=H) (g:=g) (rows:=ints (plc d n)) (sz:=1) (k:=.i64) (i:=k) (by omega) (by simp;omega)
  simpa using this
 ·have:=qR (j:=k.toNat) (l:=plc d n) (by simp;omega) (H:=H)
  rw [atg (by omega)]at this
  rw [this]
  congr 4
  omega
theorem P9(x:aK){i:Nat}(hA:pR i x.d)(hi:i≤100)(g:Tg)(d:Nat) :
  ∃ tg,Km.Pure tab.get DW [.a (x.row.map .f),.c (.f (sl g (ints (plc d (i+1)))))]=Eq (.a ((aK.row ⟨x.d.shift d,tg⟩).map .f)):=by
 obtain⟨rr,⟨tg,rfl⟩,hp⟩:∃ rr,(∃ tg,rr=.a ((aK.row ⟨x.d.shift d,tg⟩).map .f))∧Km.Pure tab.get DW [.a (x.row.map .f),.c (.f (sl g (ints (plc d (i+1)))))] rr:=by
  obtain⟨tg,sK⟩:=mF x hA.ok.1;have hops:=qI hA.ok;have ho2:=rV x.d.k;obtain⟨⟨k,cal,l,r,n,m,li⟩,tg0⟩:=x;simp only at sK hops ho2;have hl1:=hA.l1;have hr2:=hA.r2;simp only at hl1 hr2;refine dY aOh rfl fun Q hQ=>?_
  have sh1:∀ tg,aK.row ⟨aZ.shift d ⟨k,cal,l,r,n,m,li⟩,tg⟩=aK.row ⟨⟨k,cal,if 1≤fD k then l+d else l,if fD k=2 then r+d else r,n,m,li⟩,tg⟩:=fun tg=>rfl
  simp only [sh1]at hQ;refine kw_sr ?_;simp [aK.row];refine kw_sr ?_;simp only [aK.row,ax,aE]at sK;simp [sK];obtain⟨y,hy⟩:∃ y:aK,y=⟨⟨k,cal,l,r,n,m,li⟩,tg⟩:=⟨_,rfl⟩;refine kw_sr ?_;simp [hops];obtain⟨o,ho⟩:∃ o,o=fD k:=⟨_,rfl⟩;rw [←ho]at hQ hl1 hr2 ho2 ⊢
  have fin:∀(t:T) (l' r':Int) ,t.g 2=.c (.ptr 0 0 0)→t.g 4=.c (.ptr 1 0 0)→l'=(if 1≤o then l+d else l)→r'=(if o=2 then r+d else r) →
    WP tab.get DW none [.code Jz] ⟨t,[],[.box ((aK.row ⟨⟨k,cal,l',r',n,m,li⟩,tg⟩).map .f) 0,.box qL 0]⟩ Q:=by
   intro t l' r' g2 g4 hl hr;refine kw_sr ?_;simp [g2,g4,aK.row,qL];refine aQ (hQ _ _ _ ⟨tg,rfl⟩ ⟨rfl,.a ((aK.row ⟨⟨k,cal,l',r',n,m,li⟩,tg⟩).map .f),?_,?_⟩)
   ·simp [Km.results,bU,bC,g4,aK.row,aS]
   ·simp [exV,dB,aK.row,bC,hl,hr]
  have fin2:∀(t:T) (l':Int) ,t.g 1=.c (.f (sl g (ints (plc d (i+1)))))→t.g 2=.c (.ptr 0 0 0)→t.g 4=.c (.ptr 1 0 0)→t.g 5=vi o→l'=(if 1≤o then l+d else l) →
    WP tab.get DW none [.code JA] ⟨t,[],[.box ((aK.row ⟨⟨k,cal,l',r,n,m,li⟩,tg⟩).map .f) 0,.box qL 0]⟩ Q:=by
   intro t l' g1 g2 g4 g5 hl;refine kw_seq (kw_sr ?_);simp [g5];by_cases h2:o=2
   ·have hrr:=hr2 h2;obtain⟨f1,f2⟩:=OD (H:=[.box ((aK.row ⟨⟨k,cal,l',r,n,m,li⟩,tg⟩).map .f) 0,.box qL 0]) (g:=g) (d:=d) (n:=i+1) (k:=r) hrr.1 (by omega) (by omega)
    simp only [aK.row,ax,aE]at f1 f2;refine ak (by simp [h2]) (kw_region (.inl rfl) ?_)
    simp [g1,g2,aK.row,f1,f2];exact fin _ l' (r+d) (by simp [g2]) (by simp [g4]) hl (by rw [if_pos h2])
   ·refine ah (by simp;omega) (aW ?_)
    exact fin _ l' r (by simp [g2]) (by simp [g4]) hl (by rw [if_neg h2])
  refine kw_seq (kw_sr ?_);simp;by_cases h1:1≤o
  ·have hll:=hl1 h1;obtain⟨f1,f2⟩:=OD (H:=[.box ((aK.row ⟨⟨k,cal,l,r,n,m,li⟩,tg⟩).map .f) 0,.box qL 0]) (g:=g) (d:=d) (n:=i+1) (k:=l) hll.1 (by omega) (by omega)
   simp only [aK.row,qL,ax,aE]at f1 f2;refine ak (by simp;omega) (kw_region (.inl rfl) ?_)
   simp [aK.row,f1,f2];exact fin2 _ (l+d) (by simp) (by simp) (by simp) (by simp) (by rw [if_pos h1])
  ·refine ah (by simp;omega) (aW ?_)
   exact fin2 _ l (by simp) (by simp) (by simp) (by simp) (by rw [if_neg h1])
 exact⟨tg,hp.eq⟩
end
section
def LiB(r:List aK):Prop:=∀ x ∈ r,x.d.li.length≤61
theorem qK{J:Heap}{c:C}{l:List aK}(hL:LR J c 8 (aB l))(hl:l.length≤1000)(x:aK) :
  ∃ c' H',dn (J++[.box (x.row.map .f) 0]) 8 88 (.c c) (.c (.sl J.length 0 1 1 0 8))=some (.c c',H')∧LR H' c' 8 (aB (l++[x]))∧Kb (J++[.box (x.row.map .f) 0]) H' c∧(aX c'=aX c∨aX c'=some (J.length+1)):=by
 have hL1:=hL.push [.box (x.row.map .f) 0];have hb1:(J++[.box (x.row.map .f) 0])[J.length]?=some (.box (x.row.map .f) 0):=by simp
 obtain⟨c',H',happ,hL',hK',hc'⟩:=hL1.app (fO _) (by decide) (row:=x.row) rfl (bytes:=88) (fH (by simp;omega) (by decide)) hb1
 rw [aL,List.length_singleton]at hc';exact⟨c',H',happ,by rw [BU];exact hL',hK',hc'⟩
theorem UG(y:aK)(hy:y.d.li.length≤61)(g:Tg){r:List aK}(hr:r.length≤60)(hb:LiB r) :
  ∃ g' l',dat l'=dat r++[⟨y.d.k,y.d.cal,(r.length:Int)-1,y.d.r,y.d.n,y.d.m,y.d.li⟩]∧Km.Pure tab.get Po [.a (y.row.map .f),.c (.f (sl g (aB r)))]=Eq (.c (.f (sl g' (aB l')))):=by
 obtain⟨rr,⟨g',l',hd,rfl⟩,hp⟩:∃ rr,(∃ g' l',dat l'=dat r++[⟨y.d.k,y.d.cal,(r.length:Int)-1,y.d.r,y.d.n,y.d.m,y.d.li⟩]∧rr=.c (.f (sl g' (aB l'))))∧Km.Pure tab.get Po [.a (y.row.map .f),.c (.f (sl g (aB r)))] rr:=by
  refine dY aOn rfl fun Q hQ=>?_
  refine kw_sr ?_;simp;obtain⟨H,hH⟩:∃ H:Heap,H=[.box (y.row.map .f) 0]:=⟨_,rfl⟩;have b0:H[0]?=some (.box (y.row.map .f) 0):=by rw [hH];rfl
  have hl:H.length=1:=by rw [hH];rfl
  rw [←hH];clear hH;refine kw_sr ?_;simp;refine kw_seq (kw_sr ?_);simp
  refine dS r.length (fun j t K=>∃ c l,t.g 1=.c (.f (sl g (aB r)))∧t.g 2=.c (.ptr 0 0 0)∧t.g 5=.c c∧LR K c 8 (aB l)∧dat l=dat (r.take j)∧K[0]?=some (.box (y.row.map .f) 0)) (by omega) (by decide) (by simp)
   ⟨.f .es,[],by simp,by simp,by simp,.inl ⟨rfl,.inr rfl⟩,by simp,b0⟩ ?_ ?_ ?_
  ·rintro j t K L hj ⟨c,l,g1,g2,g5,hLR,hd,b0⟩ ha hn;simp [ha,g1];exact hn _ ⟨c,l,by simp [g1],by simp [g2],by simp [g5],hLR,hd,b0⟩ (by simp [ha]) (by simp)
  ·rintro j t K hj ⟨c,l,g1,g2,g5,hLR,hd,b0⟩ ha nx;obtain⟨x,hx⟩:∃ x,x=r[j]:=⟨_,rfl⟩;obtain⟨tg,sK⟩:=mF x (by rw [hx];exact hb _ (az hj))
   have hll:l.length=j:=by have:=congrArg List.length hd;simp at this;omega
   obtain⟨c',H',happ,hL',hK',hc'⟩:=qK hLR (by omega) ⟨x.d,tg⟩
   have hr8:((aK.row ⟨x.d,tg⟩).map C.f).length=8:=rfl;refine aN (kw_region (.inl rfl) ?_);simp [g1,g5,ha,gX hj (by omega),nO hj,←hx,sK,hr8,happ]
   refine aF ?_;refine nx _ _ ⟨c',l++[⟨x.d,tg⟩],by simp [g1],by simp [g2],by simp,hL',?_,?_⟩ (by simp [ha])
   ·rw [aD hj,←hx];simp only [dat,cq,ax,aE]at hd ⊢;rw [hd]
   ·exact hK'.2 0 _ (by rw [ae (ay b0)];exact b0) (hLR.gq b0)
  ·rintro t K ⟨c,l,g1,g2,g5,hLR,hd,b0⟩ ha;rw [bO]at hd;have hll:l.length=r.length:=by have:=congrArg List.length hd;simpa using this
   obtain⟨y',hy'⟩:∃ y':aK,y'=⟨⟨y.d.k,y.d.cal,(r.length:Int)-1,y.d.r,y.d.n,y.d.m,y.d.li⟩,y.tg⟩:=⟨_,rfl⟩;have st1:stC K (.ptr 0 2 0) [.f (fi ((r.length:Int)-1))]=some (K.set 0 (.box (y'.row.map .f) 0)):=by simp [stC,b0,over,aK.row,hy']
   obtain⟨K2,hK2⟩:∃ K2:Heap,K2=K.set 0 (.box (y'.row.map .f) 0):=⟨_,rfl⟩;have k20:K2[0]?=some (.box (y'.row.map .f) 0):=by rw [hK2];exact ap (ay b0)
   have hL2:LR K2 c 8 (aB l):=by rw [hK2];exact hLR.set (hLR.gq b0) _
   obtain⟨-,-,-,-,-,-,-,e8⟩:=zZ k20;obtain⟨tg,sK⟩:=mF y' (by rw [hy'];exact hy)
   obtain⟨c',H',happ,hL',hK',hc'⟩:=qK hL2 (by omega) ⟨y'.d,tg⟩
   have hr8:((aK.row ⟨y'.d,tg⟩).map C.f).length=8:=rfl;obtain⟨g',hx⟩:=hL'.ex (fO _) 63;have hx':exC deep H' c'=some (sl g' (aB (l++[⟨y'.d,tg⟩]))):=hx;refine kw_sr ?_;simp [g1,g2,wrap64 (n:=(r.length:Int)-1) (by omega) (by omega),st1,-bJ]
   rw [←hK2];refine kw_sr ?_;simp [g5,g2,e8,-aC,sK,hr8,happ];refine aQ (hQ _ _ _ ⟨g',l++[⟨y'.d,tg⟩],?_,rfl⟩ ⟨rfl,.c c',?_,?_⟩)
   ·simp only [dat,cq,ax,aE]at hd ⊢;rw [hd,hy']
   ·simp [Km.results,bU,bC]
   ·simp [exV,dB,hx']
 exact⟨g',l',hd,hp.eq⟩
end
section
section
variable{J:Heap}{x:jY}
theorem NY(h:J[0]?=some (.box (x.row.map .f) 0)):ldV J none (.c (.ptr 0 1 0))=some (.c (.f (sl x.gg (eU x.gaps)))):=by simp [ldV,aG,h,aS,jY.row]
theorem NW(h:J[0]?=some (.box (x.row.map .f) 0)):ldV J none (.c (.ptr 0 2 0))=some (.c (.f (sl x.og (eU x.zM)))):=by simp [ldV,aG,h,aS,jY.row]
theorem aKs(h:J[0]?=some (.box (x.row.map .f) 0)):ldV J none (.c (.ptr 0 3 0))=some (.c (.f (u8 x.be))):=by simp [ldV,aG,h,aS,jY.row]
theorem Gi(h:J[0]?=some (.box (x.row.map .f) 0)):ldV J none (.c (.ptr 0 13 0))=some (vb x.rules):=by simp [ldV,aG,h,aS,jY.row]
theorem aQh(h:J[0]?=some (.box (x.row.map .f) 0)){k:Nat}(hk:k<2):ldV J (some 4) (.c (.ptr 0 (4+k*4) 0))=some (.a [.f (u8 (x.y k 0)),.f (u8 (x.y k 1)),.f (u8 (x.y k 2)),.f (u8 (x.y k 3))]):=by
 have:k=0∨k=1:=by omega
 rcases this with rfl | rfl<;>simp [ldV,aG,h,aS,jY.row]
end
theorem OKZ.retag{c:Nat}{s h:Int}{tr:List TrD}{yr:List YrD}{tg tg' yg yg':Tg}{o:List TrD}(k:OKZ ⟨c,s,tg,tr,h,yg,yr⟩ o):OKZ ⟨c,s,tg',tr,h,yg',yr⟩ o:=⟨k.c,k.st,k.tl,k.tb,k.ts,k.ho,k.y⟩
structure ZI(x:jY)(cs:List C)(c:Nat)(s h:Int)(tr:List TrD)(ct:C)(yr:List YrD)(cy:C)(t:T)(J:Heap):Prop where
 raw:J[0]?=some (.box (x.row.map .f) 0)
 res:J[1]?=some (.box [.f (fi 0),.f .au,.f (fi 0),.f .au,.f (fi 0),.f .au,.f (fi 0),.f .au] 0)
 cal:ku J cs c
 zb:J[3]?=some (qw cs s ct h cy)
 lt:LR J ct 2 (aY tr)
 ly:LR J cy 5 (dH yr)
 ne:∀ i,aX ct=some i→aX cy≠some i
 g1:t.g 1=.c (.ptr 0 0 0)
 g2:t.g 2=.c (.ptr 1 0 0)
 g3:t.g 3=.c (.ptr 3 0 0)
def LRw(H:Heap)(c:C)(sz:Nat)(rows:List (List FC)):Prop:=(rows=[]∧(c=.f .au∨c=.f .es))∨(rows≠[]∧∃ b ep fl,c=.sl b 0 rows.length 0 ep sz∧H[b]?=some (.opn sz (rows.flatten.map .f) fl ep .loc))
section
variable{H H':Heap}{c:C}{sz:Nat}{rows:List (List FC)}
theorem LRw.of(h:LR H c sz rows):LRw H c sz rows:=by
 rcases h with h | ⟨h,b,ep,h1,h2⟩
 ·exact .inl h
 ·exact .inr ⟨h,b,ep,0,h1,h2⟩
theorem LRw.exU(h:LRw H c sz rows)(hg:Grid sz rows):∃ g,∀(H':Heap) (n:Nat),LRw H' c sz rows→exC (n+1) H' c=some (sl g rows):=by
 by_cases hr:rows=[]
 ·rcases h with⟨rfl,rfl | rfl⟩ | ⟨h,_⟩
  ·exact⟨.nil,fun _ _ _=>rfl⟩
  ·exact⟨.es,fun _ _ _=>rfl⟩
  ·exact absurd hr h
 ·refine⟨.fs,fun H' n hk=>?_⟩
  rcases hk with⟨h,_⟩ | ⟨_,b,ep,fl,rfl,h2⟩
  ·exact absurd h hr
  have hl:rows.length*sz=rows.flatten.length:=(ji hg).symm;simp only [sZ,h2];rw [if_pos ⟨trivial,trivial,by rw [bL,cg,hl];exact aq _⟩,cG,bi (by rw [bL];omega),EG]
  cases rows with
  | nil=>exact absurd rfl hr
  | cons x l=>simp [sl]
theorem LRw.keep(h:LRw H c sz rows)(hk:∀(i s:Nat) (l:List C) (fl ep:Nat) (st:Km.Os),H[i]?=some (.opn s l fl ep st)→∃ fl',H'[i]?=some (.opn s l fl' ep st)):LRw H' c sz rows:=by
 rcases h with h | ⟨h,b,ep,fl,h1,h2⟩
 ·exact .inl h
 ·obtain⟨fl',h3⟩:=hk _ _ _ _ _ _ h2;exact .inr ⟨h,b,ep,fl',h1,h3⟩
theorem LRw.mk(h:LRw H c sz rows):(∀(i:Nat) (l:List C) (fl:Nat),H[i]?=some (.box l fl)→(mkC deep c H)[i]?=some (.box l fl))∧∀(i s:Nat) (l:List C) (fl ep:Nat) (st:Km.Os),H[i]?=some (.opn s l fl ep st)→∃ fl',(mkC deep c H)[i]?=some (.opn s l fl' ep st):=by
 rcases h with⟨_,rfl | rfl⟩ | ⟨h,b,ep,fl,rfl,h2⟩
 ·exact⟨fun i l fl h=>by simpa using h,fun i s l fl ep st h=>⟨fl,by simpa using h⟩⟩
 ·exact⟨fun i l fl h=>by simpa using h,fun i s l fl ep st h=>⟨fl,by simpa using h⟩⟩
 ·have e:mkC deep (.sl b 0 rows.length 0 ep sz) H=H.set b (.opn sz (rows.flatten.map .f) (Nat.max fl (0+rows.length*sz)) ep .loc):=by
   simp only [deep,Om,h2];rw [vJ];intro x hx;have hx:=cX (cN hx);obtain⟨m,_,rfl⟩:=ci.1 hx;exact⟨_,rfl⟩
  rw [e];refine⟨fun i l fl h=>?_,fun i s l fl ep st h=>?_⟩
  ·rw [al (by rintro rfl;rw [h2]at h;cases h)];exact h
  ·by_cases e:b=i
   ·subst e;rw [h2]at h;cases h;exact⟨_,ap (ay h2)⟩
   ·rw [al e];exact⟨fl,h⟩
end
theorem mk_box{H:Heap}{b l cp e sz fl:Nat}{xs:List FC}(h:H[b]?=some (.box (xs.map .f) fl)):mkC deep (.sl b 0 l cp e sz) H=H.set b (.box (xs.map .f) (Nat.max fl (0+l*sz))):=by
 simp only [deep,Om,h];rw [vJ];intro x hx;have hx:=cX (cN hx);obtain⟨m,_,rfl⟩:=ci.1 hx;exact⟨_,rfl⟩
theorem ku.mk{H:Heap}{cs:List C}{c:Nat}(hc:ku H cs c):ku (cs.foldl (fun H x=>mkC deep x H) H) cs c∧(∀ i y,H[i]?=some y→i≠2→i≠4→i≠5→(cs.foldl (fun H x=>mkC deep x H) H)[i]?=some y)∧(∀(i s:Nat) (l:List C) (fl ep:Nat) (st:Km.Os),H[i]?=some (.opn s l fl ep st)→∃ fl',(cs.foldl (fun H x=>mkC deep x H) H)[i]?=some (.opn s l fl' ep st)):=by
 rcases hc with⟨rfl,rfl,fl,h1⟩ | ⟨k,h0,rfl,rfl,⟨f1,h1⟩,f2,h2⟩
 ·have e:=mk_box (H:=H) (b:=2) (l:=2) (cp:=2) (e:=0) (sz:=1) (xs:=[fi 7,fi 6]) h1;simp only [cm,List.foldl_nil,Oo,e];refine⟨.inl ⟨rfl,rfl,_,ap (ay h1)⟩,fun i y hy h2 _ _=>by rw [al (Ne.symm h2)];exact hy,fun i s l fl ep st h=>⟨fl,?_⟩⟩
  rw [al (by rintro rfl;rw [h1]at h;cases h)];exact h
 ·have e:=mk_box (H:=H) (b:=4) (l:=2) (cp:=2) (e:=0) (sz:=1) (xs:=[fi 7,fi 8]) h1;simp only [cm,List.foldl_nil,Oo,e];have h2':(H.set 4 (.box ([fi 7,fi 8].map .f) (Nat.max f1 (0+2*1))))[5]?=some (.box ([fi 2,fi k,.bool true].map .f) f2):=by rw [al (by decide)];exact h2
  have e2:=mk_box (l:=1) (cp:=1) (e:=0) (sz:=3) h2';rw [e2];refine⟨.inr ⟨k,h0,rfl,rfl,⟨Nat.max f1 (0+2*1),?_⟩,_,ap (ay h2')⟩,fun i y hy h2 h4 h5=>?_,fun i s l fl ep st h=>⟨fl,?_⟩⟩
  ·rw [al (by decide),ap (ay h1)];rfl
  ·rw [al (Ne.symm h5),al (Ne.symm h4)];exact hy
  ·rw [al (by rintro rfl;rw [h2]at h;cases h),al (by rintro rfl;rw [h1]at h;cases h)];exact h
structure ZE(cs:List C)(c:Nat)(s h:Int)(tr:List TrD)(ct:C)(yr:List YrD)(cy:C)(J:Heap):Prop where
 res:J[1]?=some (.box [.f (fi 0),.f .au,.f (fi 0),.f .au,.f (fi 0),.f .au,.f (fi 0),.f .au] 0)
 cal:ku J cs c
 zb:J[3]?=some (qw cs s ct h cy)
 lt:LRw J ct 2 (aY tr)
 ly:LRw J cy 5 (dH yr)
section
variable{x:jY}{cs:List C}{c:Nat}{s h:Int}{tr:List TrD}{ct:C}{yr:List YrD}{cy:C}{t:T}{J:Heap}
theorem ZI.e(k:ZI x cs c s h tr ct yr cy t J):ZE cs c s h tr ct yr cy J:=⟨k.res,k.cal,k.zb,LRw.of k.lt,LRw.of k.ly⟩
theorem ZE.ex(k:ZE cs c s h tr ct yr cy J) :
  ∃ tg yg,∀ J':Heap,(∀ i y,J[i]?=some y→i≠1→J'[i]?=some y)→bC (exC 64 J') (cs++[.f (fi s),ct,.f (fi h),cy])=some (ZD.row ⟨c,s,tg,tr,h,yg,yr⟩):=by
 obtain⟨tg,ht⟩:=k.lt.exU (eG _);obtain⟨yg,hy⟩:=k.ly.exU (qy _);refine⟨tg,yg,fun J' hk=>?_⟩
 have hc:ku J' cs c:=k.cal.keep fun i y hy hi=>hk i y hy (by omega)
 have ho:∀(i s:Nat) (l:List C) (fl ep:Nat) (st:Km.Os),J[i]?=some (.opn s l fl ep st)→∃ fl',J'[i]?=some (.opn s l fl' ep st):=fun i s l fl ep st h=>⟨fl,hk i _ h (by
  rintro rfl
  rw [k.res]at h;cases h)⟩
 have e1:=ht J' 63 (k.lt.keep ho);have e2:=hy J' 63 (k.ly.keep ho);exact qP hc.ex (by simp [bC,e1,e2])
theorem ZE.fin(k:ZE cs c s h tr ct yr cy J)(ho:∃ tg yg o,OKZ ⟨c,s,tg,tr,h,yg,yr⟩ o)
  (t':T) (ht':t'.g 2=.c (.ptr 1 0 0)):∃ z o J',OKZ z o∧stC J (.ptr 1 0 0) (cs++[.f (fi s),ct,.f (fi h),cy])=some J'∧yK [.cell (P.nat 2) (some 8)] (.a (z.row.map .f)) ⟨t',[],J'⟩:=by
 obtain⟨tg,yg,hex⟩:=k.ex;obtain⟨tg',yg',o,ho⟩:=ho;obtain⟨a,b,d,e,rfl⟩:=k.cal.four;have hs:stC J (.ptr 1 0 0) ([a,b,d,e]++[.f (fi s),ct,.f (fi h),cy])=some (J.set 1 (.box ([a,b,d,e]++[.f (fi s),ct,.f (fi h),cy]) 0)):=by simp [stC,k.res,over]
 have h1:=ay k.res;refine⟨⟨c,s,tg,tr,h,yg,yr⟩,o,_,ho.retag,hs,rfl,.a ([a,b,d,e]++[.f (fi s),ct,.f (fi h),cy]),?_,?_⟩
 ·simp [Km.results,bU,bC,ht',h1,aS]
 ·have:=hex (J.set 1 (.box ([a,b,d,e]++[.f (fi s),ct,.f (fi h),cy]) 0)) fun i y hy hi=>by rw [al (by omega)];exact hy
  simp only [exV,dB,deep,this];rfl
theorem ZE.marked(k:ZE cs c s h tr ct yr cy J):ZE cs c s h tr ct yr cy (mkC deep cy (mkC deep ct (cs.foldl (fun H x=>mkC deep x H) J))):=by
 obtain⟨m1,m2,m3⟩:=k.cal.mk;obtain⟨J1,hJ1⟩:∃ J1,J1=cs.foldl (fun H x=>mkC deep x H) J:=⟨_,rfl⟩
 rw [←hJ1]at m1 m2 m3 ⊢;have lt1:=k.lt.keep m3;have ly1:=k.ly.keep m3;have z1:=m2 _ _ k.zb (by decide) (by decide) (by decide)
 have r1:=m2 _ _ k.res (by decide) (by decide) (by decide)
 obtain⟨a1,a2⟩:=lt1.mk;have lt2:=lt1.keep a2;have ly2:=ly1.keep a2;obtain⟨b1,b2⟩:=ly2.mk;exact⟨b1 _ _ _ (a1 _ _ _ r1),(m1.keep' fun i l fl h _=>⟨fl,a1 i l fl h⟩).keep' fun i l fl h _=>⟨fl,b1 i l fl h⟩,b1 _ _ _ (a1 _ _ _ z1),lt2.keep b2,ly2.keep b2⟩
end
end
section
theorem Ox{H:Heap}{c:C}{sz:Nat}{rows:List (List FC)}(h:LR H c sz rows)(hg:Grid sz rows):∃ g,exC deep H c=some (sl g rows):=h.ex hg 63
def LM(H:Heap)(c:C)(l:List Int):Prop:=(l=[]∧(c=.f .au∨c=.f .es))∨(l≠[]∧∃ b ep fl,c=.sl b 0 l.length 0 ep 1∧H[b]?=some (.opn 1 (l.map cI) fl ep .loc)∧fl≤l.length)
section
variable{H H':Heap}{c:C}{l:List Int}
theorem LM.keep(h:LM H c l)(hk:∀(i:Nat) (y:Blk),H[i]?=some y→aX c=some i→H'[i]?=some y):LM H' c l:=by
 rcases h with h | ⟨h,b,ep,fl,rfl,h2,h3⟩
 ·exact .inl h
 ·exact .inr ⟨h,b,ep,fl,rfl,hk _ _ h2 rfl,h3⟩
theorem LM.push(h:LM H c l)(J:Heap):LM (H++J) c l:=h.keep fun i y hy _=>by rw [ae (ay hy)];exact hy
theorem LM.gq(h:LM H c l){i:Nat}{cs:List C}{fl:Nat}(hx:H[i]?=some (.box cs fl)):aX c≠some i:=by
 rcases h with⟨_,rfl | rfl⟩ | ⟨_,b,ep,fl,rfl,h2,h3⟩
 ·simp [aX]
 ·simp [aX]
 ·intro e;simp [aX]at e;subst e;rw [hx]at h2;cases h2
theorem LM.aH2(h:LM H c l){c8:C}{rows:List (List FC)}(hc:LR H c8 8 rows):∀ i,aX c8=some i→aX c≠some i:=by
 intro i hi hpi;rcases hc with⟨_,rfl | rfl⟩ | ⟨_,bb,ep,rfl,h8⟩
 ·simp [aX]at hi
 ·simp [aX]at hi
 ·simp [aX]at hi;subst hi;unfold RB at h8;rcases h with⟨_,rfl | rfl⟩ | ⟨_,b,ep,fl,rfl,h2,h3⟩
  ·simp [aX]at hpi
  ·simp [aX]at hpi
  ·simp [aX]at hpi;subst hpi;rw [h8]at h2;cases h2
theorem LM.app(h:LM H c l)(hl:l.length≤1000){v:Int}{b1 fl1:Nat}(hb1:H[b1]?=some (.box [.f (fi v)] fl1)) :
  ∃ c' H',dn H 1 8 (.c c) (.c (.sl b1 0 1 1 0 1))=some (.c c',H')∧LM H' c' (l++[v])∧Kb H H' c∧(aX c'=aX c∨aX c'=some H.length):=by
 have hadd:eY H 1 (.c (.sl b1 0 1 1 0 1))=some (1,[.f (fi v)]):=sF hb1 rfl;rcases h with⟨rfl,he⟩ | ⟨hne,b,ep,fl,rfl,h2,h3⟩
 ·have hroom:bK 1 8=true:=by decide
  refine⟨.sl H.length 0 1 0 0 1,H++[.opn 1 [.f (fi v)] 0 0 .loc],?_,.inr ⟨by simp,H.length,0,0,rfl,by simp,Nat.zero_le _⟩,⟨by simp,fun i y hy _=>by rw [ae (ay hy)];exact hy⟩,.inr rfl⟩
  rcases he with rfl | rfl<;>simp [dn,hadd,hroom]
 ·have hroom:bK (l.length+1) 8=true:=fH (by omega) (by decide)
  refine⟨.sl b 0 (l.length+1) 0 (ep+1) 1,H.set b (.opn 1 (l.map cI++[.f (fi v)]) fl (ep+1) .loc),?_,.inr ⟨by simp,b,ep+1,fl,by simp,?_,by simp;omega⟩,⟨by simp,fun i y hy hn=>?_⟩,.inl rfl⟩
  ·simp only [dn,hadd,h2,and_self,if_true];rw [if_neg (by decide),if_neg (by decide),if_pos ⟨trivial,by simp,by simpa using h3⟩,hroom]
   simp
  ·rw [ap (ay h2)];simp
  ·have:b≠i:=by rintro rfl;exact hn rfl
   rw [al this];exact hy
theorem LM.ex(h:LM H c l):∃ g,exC deep H c=some (sl g (ints l)):=by
 rcases h with⟨rfl,rfl | rfl⟩ | ⟨hne,b,ep,fl,rfl,h2,h3⟩
 ·exact⟨.nil,rfl⟩
 ·exact⟨.es,rfl⟩
 ·refine⟨.fs,?_⟩
  show exC (63+1) H _=_
  rw [sZ,h2];have e:(((l.map cI).drop 0).take (l.length*1))=(l.map fi).map .f:=by rw [cG,bi (by simp)];simp
  have hne':¬ (ints l).isEmpty=true:=by simpa [ints]using hne
  simp only [e,yR,bz];rw [if_pos ⟨trivial,trivial,by simp⟩,sl,if_neg hne',Dj,GV]
theorem LM.mk(h:LM H c l):LM (mkC deep c H) c l∧(∀(i:Nat) (y:Blk),H[i]?=some y→aX c≠some i→(mkC deep c H)[i]?=some y):=by
 rcases h with⟨rfl,rfl | rfl⟩ | ⟨hne,b,ep,fl,rfl,h2,h3⟩
 ·exact⟨.inl ⟨rfl,.inl rfl⟩,fun i y hy _=>by simpa using hy⟩
 ·exact⟨.inl ⟨rfl,.inr rfl⟩,fun i y hy _=>by simpa using hy⟩
 ·have e:mkC deep (.sl b 0 l.length 0 ep 1) H=H.set b (.opn 1 (l.map cI) (Nat.max fl (0+l.length*1)) ep .loc):=by
   simp only [deep,Om,h2];rw [vJ];intro x hx;have hx:=cX (cN hx);obtain⟨m,_,rfl⟩:=ci.1 hx;exact⟨_,rfl⟩
  rw [e];refine⟨.inr ⟨hne,b,ep,_,rfl,ap (ay h2),?_⟩,fun i y hy hn=>?_⟩
  ·rw [cg,Nat.mul_one];exact Nat.max_le.2 ⟨h3,aq _⟩
  ·have:b≠i:=by rintro rfl;exact hn rfl
   rw [al this];exact hy
end
set_option maxHeartbeats 1000000 in
theorem DF(y:aK)(hy:y.d.li.length≤61)(ga gb:Tg){a b:List aK}(hal:a.length≤50)(hbl:b.length≤50)(hab:LiB a)(hat:∀(i:Nat) (hi:i<b.length),pR i b[i].d)(hb0:0<a.length+b.length) :
  ∃ g' l',dat l'=dat a++(dat b).map (aZ.shift a.length)++[⟨y.d.k,y.d.cal,(a.length:Int)-1,(a.length:Int)+b.length-1,y.d.n,y.d.m,y.d.li⟩] ∧
   Km.Pure tab.get DY [.a (y.row.map .f),.c (.f (sl ga (aB a))),.c (.f (sl gb (aB b)))]=Eq (.c (.f (sl g' (aB l')))):=by
 obtain⟨rr,⟨g',l',hd,rfl⟩,hp⟩:∃ rr,(∃ g' l',dat l'=dat a++(dat b).map (aZ.shift a.length)++[⟨y.d.k,y.d.cal,(a.length:Int)-1,(a.length:Int)+b.length-1,y.d.n,y.d.m,y.d.li⟩]∧rr=.c (.f (sl g' (aB l')))) ∧
   Km.Pure tab.get DY [.a (y.row.map .f),.c (.f (sl ga (aB a))),.c (.f (sl gb (aB b)))] rr:=by
  refine dY aOq rfl fun Q hQ=>?_
  refine kw_sr ?_;simp;obtain⟨H,hH⟩:∃ H:Heap,H=[.box (y.row.map .f) 0]:=⟨_,rfl⟩;have b0:H[0]?=some (.box (y.row.map .f) 0):=by rw [hH];rfl
  rw [←hH];clear hH;refine kw_sr ?_;simp;refine kw_seq (kw_sr ?_);simp
  refine dS a.length (fun j t K=>∃ c l,t.g 1=.c (.f (sl ga (aB a)))∧t.g 2=.c (.f (sl gb (aB b)))∧t.g 3=.c (.ptr 0 0 0)∧t.g 7=.c c∧LR K c 8 (aB l)∧dat l=dat (a.take j)∧K[0]?=some (.box (y.row.map .f) 0)) (by omega) (by decide) (by simp)
   ⟨.f .es,[],by simp,by simp,by simp,by simp,.inl ⟨rfl,.inr rfl⟩,by simp,b0⟩ ?_ ?_ ?_
  ·rintro j t K L hj ⟨c,l,g1,g2,g3,g7,hLR,hd,b0⟩ ha hn;simp [ha,g1];exact hn _ ⟨c,l,by simp [g1],by simp [g2],by simp [g3],by simp [g7],hLR,hd,b0⟩ (by simp [ha]) (by simp)
  ·rintro j t K hj ⟨c,l,g1,g2,g3,g7,hLR,hd,b0⟩ ha nx;obtain⟨x,hx⟩:∃ x,x=a[j]:=⟨_,rfl⟩;obtain⟨tg,sK⟩:=mF x (by rw [hx];exact hab _ (az hj))
   have hll:l.length=j:=by have:=congrArg List.length hd;simp at this;omega
   obtain⟨c',H',happ,hL',hK',hc'⟩:=qK hLR (by omega) ⟨x.d,tg⟩
   have hr8:((aK.row ⟨x.d,tg⟩).map C.f).length=8:=rfl;refine aN (kw_region (.inl rfl) ?_);simp [g1,g7,ha,gX hj (by omega),nO hj,←hx,sK,hr8,happ]
   refine aF ?_;refine nx _ _ ⟨c',l++[⟨x.d,tg⟩],by simp [g1],by simp [g2],by simp [g3],by simp,hL',?_,?_⟩ (by simp [ha])
   ·rw [aD hj,←hx];simp only [dat,cq,ax,aE]at hd ⊢;rw [hd]
   ·exact hK'.2 0 _ (by rw [ae (ay b0)];exact b0) (hLR.gq b0)
  ·rintro t K ⟨c,l,g1,g2,g3,g7,hLR,hd,b0⟩ ha;rw [bO]at hd;refine kw_sr ?_;simp;refine kw_seq (kw_sr ?_);simp
   refine dS b.length (fun j t K=>∃ c l p,t.g 1=.c (.f (sl ga (aB a)))∧t.g 2=.c (.f (sl gb (aB b)))∧t.g 3=.c (.ptr 0 0 0)∧t.g 7=.c c∧t.g 9=.c p∧LR K c 8 (aB l)∧LM K p (plc a.length j)∧dat l=dat a++(dat (b.take j)).map (aZ.shift a.length)∧K[0]?=some (.box (y.row.map .f) 0)) (by omega) (by decide) (by simp)
    ⟨c,l,.f .es,by simp [g1],by simp [g2],by simp [g3],by simp [g7],by simp,hLR,.inl ⟨rfl,.inr rfl⟩,by simpa using hd,b0⟩ ?_ ?_ ?_
   ·rintro j t K L hj ⟨c,l,p,g1,g2,g3,g7,g9,hLR,hLp,hd,b0⟩ ha hn;simp [ha,g2];exact hn _ ⟨c,l,p,by simp [g1],by simp [g2],by simp [g3],by simp [g7],by simp [g9],hLR,hLp,hd,b0⟩ (by simp [ha]) (by simp)
   ·rintro j t K hj ⟨c,l,p,g1,g2,g3,g7,g9,hLR,hLp,hd,b0⟩ ha nx;obtain⟨x,hx⟩:∃ x,x=b[j]:=⟨_,rfl⟩;have hA:pR j x.d:=by rw [hx];exact hat j hj
    have hll:l.length=a.length+j:=by have:=congrArg List.length hd;simp at this;omega
    obtain⟨v,hv⟩:∃ v:Int,v=(a.length:Int)+j:=⟨_,rfl⟩;have hwv:IntKind.i64.wrap ((a.length:Int)+j)=v:=by rw [hv];exact wrap64 (by omega) (by omega)
    obtain⟨K1,hK1⟩:∃ K1:Heap,K1=K++[.box [.f (fi v)] 0]:=⟨_,rfl⟩;have hL1:LM K1 p (plc a.length j):=by rw [hK1];exact hLp.push _
    have hb1:K1[K.length]?=some (.box [.f (fi v)] 0):=by rw [hK1];simp
    have up1:∀ {i:Nat} {z:Blk},K[i]?=some z→K1[i]?=some z:=fun {i z} hz=>by rw [hK1,ae (ay hz)];exact hz
    have hc1:LR K1 c 8 (aB l):=by rw [hK1];exact hLR.push _
    obtain⟨p',K2,happ,WC,hK',hp'⟩:=hL1.app (by simp;omega) hb1
    rw [hv,show(a.length:Int)+(j:Int)=((a.length+j:Nat):Int) by omega,←Vb]at WC
    have b2:K2[0]?=some (.box (y.row.map .f) 0):=hK'.2 0 _ (up1 b0) (hL1.gq (up1 b0));have hc2:LR K2 c 8 (aB l):=hc1.keep fun i z hz hi=>hK'.2 i z hz (hL1.aH2 hc1 i hi)
    obtain⟨gp,hxp⟩:=WC.ex;obtain⟨hLm,hmk⟩:=WC.mk;obtain⟨tg,hmov⟩:=P9 x hA (by omega) gp a.length
    obtain⟨K3,hK3⟩:∃ K3:Heap,K3=mkC deep p' K2:=⟨_,rfl⟩;rw [←hK3]at hLm hmk;have b3:K3[0]?=some (.box (y.row.map .f) 0):=hmk 0 _ b2 (WC.gq b2);have hc3:LR K3 c 8 (aB l):=hc2.keep fun i z hz hi=>hmk i z hz (WC.aH2 hc2 i hi)
    obtain⟨c',H',aMR,hL',hKc,hc'⟩:=qK hc3 (by omega) ⟨x.d.shift a.length,tg⟩
    have hr8:((aK.row ⟨x.d.shift a.length,tg⟩).map C.f).length=8:=rfl;refine aN (kw_sr ?_);simp [g9,g1,ha,hwv];rw [←hK1];simp [happ];refine kw_region (.inl rfl) ?_;simp [g7,g2,ha,gX hj (by omega),nO hj,←hx,hxp,hmov,←hK3,hr8,aMR]
    refine aF ?_;refine nx _ _ ⟨c',l++[⟨x.d.shift a.length,tg⟩],p',by simp [g1],by simp [g2],by simp [g3],by simp,by simp,hL',?_,?_,?_⟩ (by simp [ha])
    ·refine(hLm.push _).keep fun i z hz hi=>hKc.2 i z hz fun e=>?_
     exact(hLm.push [.box ((aK.row ⟨x.d.shift a.length,tg⟩).map .f) 0]).aH2 (hc3.push _) i e hi
    ·rw [aD hj,←hx];simp only [dat,cq,ax,aE]at hd ⊢;rw [hd,List.append_assoc]
    ·exact hKc.2 0 _ (by rw [ae (ay b3)];exact b3) (hc3.gq b3)
   ·rintro t K ⟨c,l,p,g1,g2,g3,g7,g9,hLR,hLp,hd,b0⟩ ha;rw [bO]at hd;have hll:l.length=a.length+b.length:=by have:=congrArg List.length hd;simpa using this
    obtain⟨y1,hy1⟩:∃ y1:aK,y1=⟨⟨y.d.k,y.d.cal,(a.length:Int)-1,y.d.r,y.d.n,y.d.m,y.d.li⟩,y.tg⟩:=⟨_,rfl⟩;obtain⟨y2,hy2⟩:∃ y2:aK,y2=⟨⟨y.d.k,y.d.cal,(a.length:Int)-1,(a.length:Int)+b.length-1,y.d.n,y.d.m,y.d.li⟩,y.tg⟩:=⟨_,rfl⟩;have st1:stC K (.ptr 0 2 0) [.f (fi ((a.length:Int)-1))]=some (K.set 0 (.box (y1.row.map .f) 0)):=by simp [stC,b0,over,aK.row,hy1]
    obtain⟨K2,hK2⟩:∃ K2:Heap,K2=K.set 0 (.box (y1.row.map .f) 0):=⟨_,rfl⟩;have k20:K2[0]?=some (.box (y1.row.map .f) 0):=by rw [hK2];exact ap (ay b0)
    have hL2:LR K2 c 8 (aB l):=by rw [hK2];exact hLR.set (hLR.gq b0) _
    have st2:stC K2 (.ptr 0 3 0) [.f (fi ((a.length:Int)+b.length-1))]=some (K2.set 0 (.box (y2.row.map .f) 0)):=by simp [stC,k20,over,aK.row,hy1,hy2]
    obtain⟨K3,hK3⟩:∃ K3:Heap,K3=K2.set 0 (.box (y2.row.map .f) 0):=⟨_,rfl⟩;have k30:K3[0]?=some (.box (y2.row.map .f) 0):=by rw [hK3];exact ap (ay k20)
    have hL3:LR K3 c 8 (aB l):=by rw [hK3];exact hL2.set (hL2.gq k20) _
    obtain⟨-,-,-,-,-,-,-,e8⟩:=zZ k30;obtain⟨tg,sK⟩:=mF y2 (by rw [hy2];exact hy)
    obtain⟨c',H',happ,hL',hK',hc'⟩:=qK hL3 (by omega) ⟨y2.d,tg⟩
    have hr8:((aK.row ⟨y2.d,tg⟩).map C.f).length=8:=rfl;obtain⟨g',hx⟩:=Ox hL' (fO _);have hln:=hL2.len;rw [uS,hll]at hln;have hw2:IntKind.i64.wrap (((a.length+b.length:Nat):Int)-1)=(a.length:Int)+b.length-1:=by rw [wrap64 (by omega) (by omega)];omega
    refine kw_sr ?_;simp [g1,g3,wrap64 (n:=(a.length:Int)-1) (by omega) (by omega),st1,-bJ]
    rw [←hK2];refine kw_sr ?_;simp only [Int.natCast_add]at hw2;simp [g7,g3,hln,hw2,st2,-bJ];rw [←hK3];refine kw_sr ?_;simp [g7,g3,e8,-aC,sK,hr8,happ];refine aQ (hQ _ _ _ ⟨g',l++[⟨y2.d,tg⟩],?_,rfl⟩ ⟨rfl,.c c',?_,?_⟩)
    ·simp only [dat,cq,ax,aE]at hd ⊢;rw [hd,hy2]
    ·simp [Km.results,bU,bC]
    ·simp [exV,dB,hx]
 exact⟨g',l',hd,hp.eq⟩
end
section
structure oN where
 k:Nat
 n:Int
 m:Nat
 lg:Tg
 li:List Nat
def oN.row(x:oN):List FC:=[u8 x.k,.int .i8 x.n,u8 x.m,sl x.lg (eU x.li)]
structure oN.OK(x:oN):Prop where
 k:x.k<256
 n:-128≤x.n∧x.n≤127
 m:x.m<256
 ll:x.li.length≤9223372036854775807
 lb:∀ v ∈ x.li,v<256
theorem NU{n k:Int}(hk:0<k):-k<n.tmod k∧n.tmod k<k:=by
 rcases Int.le_total 0 n with h | h
 ·rw [b9 h];have:=cr n (show k≠0 by omega)
  have:=co n hk;omega
 ·have:n = -(-n):=by omega
  rw [this,Int.neg_tmod,b9 (by omega)]
  have:=cr (-n) (show k≠0 by omega)
  have:=co (-n) hk;omega
def H9(x:aZ):Prop:=x.OK∧fD x.k=0∧(x.k≠7→x.l=0)∧x.r=0
theorem H9.good{x:aZ}(h:H9 x):Good [x]:=.leaf h.1 h.2.1 h.2.2.1 h.2.2.2
theorem jO(n:Nat){m:Int}(hm:0<m):∃ a:Nat,(a:Int)<m∧dG .rem (.c (.f (.int .u8 n))) (.c (.f (.int .u8 m)))=some (.c (.f (.int .u8 a))):=by
 have h0:=cr (n:Int) (show m≠0 by omega)
 have h1:=co (n:Int) hm;refine⟨((n:Int) % m).toNat,by omega,?_⟩
 rw [su (by omega),b9 (by omega),cS h0]
theorem yL{n:Nat}(hn:n<256){m:Int}(hm:0<m):∃ a:Nat,(a:Int)≤255 / m∧dG .quo (.c (.f (.int .u8 n))) (.c (.f (.int .u8 m)))=some (.c (.f (.int .u8 a))):=by
 have h0:0≤(n:Int) / m:=Int.ediv_nonneg (by omega) (by omega)
 have h1:(n:Int) / m≤255 / m:=Int.ediv_le_ediv hm (by omega)
 have h2:(n:Int) / m≤n:=Int.ediv_le_self _ (by omega)
 refine⟨((n:Int) / m).toNat,by omega,?_⟩
 rw [OX (by omega),Int.tdiv_eq_ediv_of_nonneg (by omega),wrapu8 h0 (by omega),cS h0]
theorem U3{a b:Int}(ha:0≤a)(hb:0<b):∃ r,0≤r∧r<b∧dG .rem (vi a) (vi b)=some (vi r):=⟨a % b,cr _ (by omega),co _ hb,wM ha hb⟩
theorem qA(n:Nat)(h:n≤1000000):IntKind.i64.wrap (n:Int)=n:=wrap64 (by omega) (by omega)
set_option maxHeartbeats 2000000 in
theorem Vd(x:oN)(hx:x.OK){jW:Nat}(hc:jW=0∨jW=2):∃ y:aK,H9 y.d∧Km.Pure tab.get yB [.a (x.row.map .f),vi jW]=Eq (.a (y.row.map .f)):=by
 obtain⟨rr,⟨y,hy,rfl⟩,hp⟩:∃ rr,(∃ y:aK,H9 y.d∧rr=.a (y.row.map .f))∧Km.Pure tab.get yB [.a (x.row.map .f),vi jW] rr:=by
  refine dY aOd rfl fun Q hQ=>?_
  obtain⟨xk,xn,xm,lg,li⟩:=x;obtain⟨hk,hn,hm,hll,hlb⟩:=hx;simp only at hk hn hm hll hlb;refine kw_sr ?_;simp [oN.row];obtain⟨q,hq⟩:∃ q:Int,q=(xk:Int) % 7:=⟨_,rfl⟩;obtain⟨κ0,hκ0⟩:∃ κ0:Nat,κ0=1+xk % 7:=⟨_,rfl⟩;have w1:IntKind.i64.wrap (xk:Int)=xk:=wrap64 (by omega) (by omega)
  have r1:dG .rem (vi xk) (vi 7)=some (vi q):=by rw [wM (by omega) (by omega),hq]
  have w2:IntKind.i64.wrap (1+q)=κ0:=by rw [wrap64 (by omega) (by omega)];omega
  refine kw_sr ?_;simp [w1,r1,w2]
  have fin:∀(t:T) (y:aK),H9 y.d→t.g 4=.c (.ptr 1 0 0)→t.g 6=.c (.ptr 2 0 0) →
    WP tab.get yB none [.code Bj] ⟨t,[],[.box [.f (u8 xk),.f (.int .i8 xn),.f (u8 xm),.f (sl lg (eU li))] 0,.box qL 0,.box (y.row.map .f) 0]⟩ Q:=by
   intro t y hy g4 g6;refine kw_sr ?_;simp [g4,g6,aK.row,qL];refine aQ (hQ _ _ _ ⟨y,hy,rfl⟩ ⟨rfl,.a (y.row.map .f),?_,?_⟩)
   ·simp [Km.results,bU,bC,g4,aK.row,aS]
   ·simp [exV,dB]
  have main:∀(t:T) (κ:Nat) (cal:Int),1≤κ→κ≤7→0≤cal→cal≤1→(κ=1∨κ=5→cal=0)→t.g 2=.c (.ptr 0 0 0)→t.g 4=.c (.ptr 1 0 0)→t.g 5=vi κ→t.g 6=.c (.ptr 2 0 0) →
    WP tab.get yB none [.code Jp] ⟨t,[],[.box [.f (u8 xk),.f (.int .i8 xn),.f (u8 xm),.f (sl lg (eU li))] 0,.box qL 0,.box [cI κ,cI cal,cI 0,cI 0,cI 0,cI 0,.f .au,.f (.str ⟨#[]⟩)] 0]⟩ Q:=by
   intro t κ cal h1 h7 c0 c1 oH g2 g4 g5 g6;refine kw_seq (kw_sr ?_);simp [g5];refine aN (kw_sr ?_);simp;rcases(show κ=1∨κ=2∨κ=3∨κ=4∨κ=5∨κ=6∨κ=7 by omega)with rfl | rfl | rfl | rfl | rfl | rfl | rfl
   ·obtain⟨mg,m0,m1,hmg⟩:=pq hn (k:=9) (by decide)
    obtain⟨a,a1,ra⟩:=jO xm (m:=12) (by decide)
    have hc0:=oH (.inl rfl);subst hc0;refine ak (by simp) (kw_sr ?_)
    simp [g2,g6,hmg,wrap64 (n:=1+mg) (by omega) (by omega)]
    refine kw_region (.inl rfl) ?_;simp [g2,g6,ra,qA a (by omega)]
    refine aF ?_;exact fin _ ⟨⟨1,0,0,0,1+mg,a,[]⟩,.nil⟩ ⟨⟨by simp,.inl ⟨rfl,rfl,rfl,(by dsimp only;omega),(by dsimp only;omega),(by dsimp only;omega),(by dsimp only;omega)⟩⟩,rfl,fun _=>rfl,rfl⟩ (by simp [g4]) (by simp [g6])
   ·obtain⟨mg,m0,m1,hmg⟩:=pq hn (k:=4) (by decide)
    obtain⟨a,a1,ra⟩:=jO xm (m:=8) (by decide)
    obtain⟨b,b0,b1,rb⟩:=U3 (a:=(a:Int)) (b:=1+mg) (by omega) (by omega)
    refine ah (by simp) (kw_sr ?_)
    simp;refine ak (by simp) (kw_sr ?_)
    simp [g2,g6,hmg,wrap64 (n:=1+mg) (by omega) (by omega)]
    refine kw_region (.inl rfl) ?_;simp [g2,g6,ra,qA a (by omega),rb]
    refine aF ?_;exact fin _ ⟨⟨2,cal,0,0,1+mg,b,[]⟩,.nil⟩ ⟨⟨by simp,.inr (.inl ⟨rfl,c0,c1,rfl,(by dsimp only;omega),(by dsimp only;omega),b0,by dsimp only;omega⟩)⟩,rfl,fun _=>rfl,rfl⟩ (by simp [g4]) (by simp [g6])
   ·obtain⟨gp,lp,hr,hlp,hpk⟩:=oZ lg li hll hlb (lo:=1) (hi:=4) (by decide) (by decide) (by decide) true (by decide)
    refine ah (by simp) (kw_sr ?_)
    simp;refine ah (by simp) (kw_sr ?_)
    simp;refine ak (by simp) (kw_region (.inl rfl) ?_)
    simp [g2,g6,hpk];refine aF ?_;exact fin _ ⟨⟨3,cal,0,0,0,0,lp⟩,gp⟩ ⟨⟨by simp at hlp ⊢;omega,.inr (.inr (.inl ⟨rfl,c0,c1,hr,rfl,rfl⟩))⟩,rfl,fun _=>rfl,rfl⟩ (by simp [g4]) (by simp [g6])
   ·obtain⟨gp,lp,hr,hlp,hpk⟩:=oZ lg li hll hlb (lo:=(-3)) (hi:=6) (by decide) (by decide) (by decide) false (by decide)
    refine ah (by simp) (kw_sr ?_)
    simp;refine ah (by simp) (kw_sr ?_)
    simp;refine ah (by simp) (kw_sr ?_)
    simp;refine ak (by simp) (kw_region (.inl rfl) ?_)
    simp [g2,g6,hpk];refine aF ?_;exact fin _ ⟨⟨4,cal,0,0,0,0,lp⟩,gp⟩ ⟨⟨by simp at hlp ⊢;omega,.inr (.inr (.inr (.inl ⟨rfl,c0,c1,hr,rfl,rfl⟩)))⟩,rfl,fun _=>rfl,rfl⟩ (by simp [g4]) (by simp [g6])
   ·obtain⟨gp,lp,hr,hlp,hpk⟩:=oZ lg li hll hlb (lo:=0) (hi:=6) (by decide) (by decide) (by decide) true (by decide)
    have hc0:=oH (.inr rfl);subst hc0;refine ah (by simp) (kw_sr ?_)
    simp;refine ah (by simp) (kw_sr ?_)
    simp;refine ah (by simp) (kw_sr ?_)
    simp;refine ah (by simp) (kw_sr ?_)
    simp;refine ak (by simp) (kw_region (.inl rfl) ?_)
    simp [g2,g6,hpk];refine aF ?_;exact fin _ ⟨⟨5,0,0,0,0,0,lp⟩,gp⟩ ⟨⟨by simp at hlp ⊢;omega,.inr (.inr (.inr (.inr (.inl ⟨rfl,rfl,hr,rfl,rfl⟩))))⟩,rfl,fun _=>rfl,rfl⟩ (by simp [g4]) (by simp [g6])
   ·obtain⟨gp,lp,hr,hlp,hpk⟩:=oZ lg li hll hlb (lo:=1) (hi:=5) (by decide) (by decide) (by decide) true (by decide)
    refine ah (by simp) (kw_sr ?_)
    simp;refine ah (by simp) (kw_sr ?_)
    simp;refine ah (by simp) (kw_sr ?_)
    simp;refine ah (by simp) (kw_sr ?_)
    simp;refine ah (by simp) (kw_sr ?_)
    simp;refine ak (by simp) (kw_region (.inl rfl) ?_)
    simp [g2,g6,hpk];refine aF ?_;exact fin _ ⟨⟨6,cal,0,0,0,0,lp⟩,gp⟩ ⟨⟨by simp at hlp ⊢;omega,.inr (.inr (.inr (.inr (.inr (.inl ⟨rfl,c0,c1,hr,rfl,rfl⟩)))))⟩,rfl,fun _=>rfl,rfl⟩ (by simp [g4]) (by simp [g6])
   ·obtain⟨a,a1,ra⟩:=jO xm (m:=8) (by decide)
    obtain⟨b,b0,b1,rb⟩:=U3 (a:=(a:Int)) (b:=7) (by omega) (by omega)
    obtain⟨d,d1,rd⟩:=yL hk (m:=128) (by decide)
    obtain⟨e,e0,e1,re⟩:=U3 (a:=(d:Int)) (b:=2) (by omega) (by omega)
    have hw:IntKind.i64.wrap xn=xn:=wrap64 (by omega) (by omega)
    have hbd:=NU (n:=xn) (k:=4) (by decide)
    obtain⟨r,hr⟩:∃ r,r=xn.tmod 4:=⟨_,rfl⟩;have hrr:dG .rem (vi xn) (vi 4)=some (vi r):=by rw [hr];exact su (by decide)
    rw [←hr]at hbd;refine ah (by simp) (kw_sr ?_)
    simp;refine ah (by simp) (kw_sr ?_)
    simp;refine ah (by simp) (kw_sr ?_)
    simp;refine ah (by simp) (kw_sr ?_)
    simp;refine ah (by simp) (kw_sr ?_)
    simp;refine ah (by simp) (kw_sr ?_)
    simp;refine ak (by simp) (kw_sr ?_)
    simp [g2,g6,hw,hrr]
    have tail:∀(t:T) (n:Int),(n=1∨n=2∨n=3∨-3≤n∧n≤-1)→t.g 2=.c (.ptr 0 0 0)→t.g 4=.c (.ptr 1 0 0)→t.g 6=.c (.ptr 2 0 0) →
      WP tab.get yB none [.code Jo,.inBlock 0,.code Bj] ⟨t,[],[.box [.f (u8 xk),.f (.int .i8 xn),.f (u8 xm),.f (sl lg (eU li))] 0,.box qL 0,.box [cI 7,cI cal,cI 0,cI 0,cI n,cI 0,.f .au,.f (.str ⟨#[]⟩)] 0]⟩ Q:=by
     intro t n hn g2 g4 g6;refine kw_sr ?_;simp [g2,g6,ra,qA a (by omega),rb]
     refine kw_region (.inl rfl) ?_;simp [g2,g6,rd,qA d (by omega),re]
     refine aF ?_;exact fin _ ⟨⟨7,cal,e,0,n,b,[]⟩,.nil⟩ ⟨⟨by simp,.inr (.inr (.inr (.inr (.inr (.inr (.inl ⟨rfl,c0,c1,rfl,hn,b0,(by dsimp only;omega),e0,(by dsimp only;omega)⟩))))))⟩,rfl,fun h=>absurd rfl h,rfl⟩ (by simp [g4]) (by simp [g6])
    refine kw_seq (kw_sr ?_);simp [g6];by_cases hr0:r=0
    ·refine ak (by simp [hr0]) (kw_region (.inl rfl) ?_)
     simp [g6];exact tail _ 1 (.inl rfl) (by simp [g2]) (by simp [g4]) (by simp [g6])
    ·refine bQ (by simp [hr0]) ?_
     exact tail _ r (by omega) (by simp [g2]) (by simp [g4]) (by simp [g6])
  have aI2:∀(t:T) (κ:Nat),1≤κ→κ≤7→(jW=0→κ=1∨κ=5)→t.g 1=vi jW→t.g 2=.c (.ptr 0 0 0)→t.g 4=.c (.ptr 1 0 0)→t.g 5=vi κ →
    WP tab.get yB none [.code Px] ⟨t,[],[.box [.f (u8 xk),.f (.int .i8 xn),.f (u8 xm),.f (sl lg (eU li))] 0,.box qL 0]⟩ Q:=by
   intro t κ h1 h7 h0 g1 g2 g4 g5;have hu:=qB κ (by omega)
   refine kw_sr ?_;simp [g5,qL];refine kw_seq (kw_sr ?_);simp [g5,hu];cases hs:kF κ
   ·refine bQ (by simp) ?_
    exact main _ κ 0 h1 h7 (by omega) (by omega) (fun _=>rfl) (by simp [g2]) (by simp [g4]) (by simp [g5]) (by simp)
   ·have hκ:κ≠1∧κ≠5:=by
     constructor<;>(rintro rfl;simp [kF]at hs)
    have hc2:jW=2:=by
     rcases hc with e | e
     ·have:=h0 e;omega
     ·exact e
    subst hc2;obtain⟨a,a1,ra⟩:=yL hm (m:=8) (by decide)
    obtain⟨b,b0,b1,rb⟩:=U3 (a:=(a:Int)) (b:=2) (by omega) (by omega)
    refine ak (by simp) (kw_region (.inl rfl) ?_)
    simp [g1,g2,ra,qA a (by omega),rb]
    exact main _ κ b h1 h7 b0 (by omega) (fun e=>by omega) (by simp [g2]) (by simp [g4]) (by simp [g5]) (by simp)
  refine kw_seq (kw_sr ?_);have hu:=qB κ0 (by omega)
  rcases hc with rfl | rfl
  ·simp [hu];cases hs:kF κ0
   ·refine bQ (by simp) ?_
    refine aI2 _ κ0 (by omega) (by omega) (fun _=>?_) (by simp) (by simp) (by simp) (by simp)
    simp [kF]at hs;omega
   ·refine ak (by simp) (kw_region (.inl rfl) ?_)
    simp;exact aI2 _ 1 (by omega) (by omega) (fun _=>.inl rfl) (by simp) (by simp) (by simp) (by simp)
  ·simp;refine bQ (by simp) ?_
   exact aI2 _ κ0 (by omega) (by omega) (fun h=>by omega) (by simp) (by simp) (by simp) (by simp)
 exact⟨y,hy,hp.eq⟩
end
section
structure RuV where
 tg:Tg
 l:List aK
def RuV.row(x:RuV):List FC:=[sl x.tg (aB x.l)]
def cO(l:List RuV):List (List FC):=l.map RuV.row
@[simp] theorem aEr (l:List RuV):(cO l).length=l.length:=by simp [cO]
theorem nD(l:List RuV):Grid 1 (cO l):=Grid.map fun _=>rfl
theorem xP(l:List RuV)(x:RuV):cO (l++[x])=cO l++[x.row]:=by simp [cO]
theorem PD{l:List RuV}{j:Nat}(hj:j<l.length):(cO l)[j]?=some l[j].row:=by simp [cO,hj]
theorem wS{H:Heap}{g:Tg}{st:List RuV}{j:Nat}(hj:j<st.length)(_:st.length≤1000):aO H 1 none (.c (.f (sl g (cO st)))) (vi j)=some (.c (.f (.fp (cO st).flatten j))):=by
 have:=iE (H:=H) (g:=g) (rows:=cO st) (sz:=1) (k:=.i64) (i:=(j:Int)) (by omega) (by simp;omega)
 simpa using this
theorem Dh{H:Heap}{st:List RuV}{j:Nat}(hj:j<st.length):ldV H none (.c (.f (.fp (cO st).flatten j)))=some (.c (.f (sl st[j].tg (aB st[j].l)))):=by
 have:=nN (H:=H) (rows:=cO st) (j:=j) (sz:=1) (row:=st[j].row) (x:=sl st[j].tg (aB st[j].l)) (nD st) (PD hj) rfl;simpa using this
theorem atf(g:Tg)(st:List RuV)(hl:st.length≤1000)(n:Nat)(hn:n≤st.length)(r:RuV) :
  ∃ g',Km.Pure tab.get DU [.c (.f (sl g (cO st))),vi n,.c (.f (sl r.tg (aB r.l)))]=Eq (.c (.f (sl g' (cO (st.take n++[r]))))):=by
 obtain⟨rr,⟨g',rfl⟩,hp⟩:∃ rr,(∃ g',rr=.c (.f (sl g' (cO (st.take n++[r])))))∧Km.Pure tab.get DU [.c (.f (sl g (cO st))),vi n,.c (.f (sl r.tg (aB r.l)))] rr:=by
  refine dY aOc rfl fun Q hQ=>?_
  refine kw_sr ?_;simp;refine kw_sr ?_;simp;refine kw_seq (kw_sr ?_);simp
  refine dS n (fun j t K=>∃ c,t.g 0=.c (.f (sl g (cO st)))∧t.g 1=vi n∧t.g 2=.c (.f (sl r.tg (aB r.l)))∧t.g 7=.c c∧LR K c 1 (cO (st.take j))) (by omega) (by decide) (by simp)
   ⟨.f .es,by simp,by simp,by simp,by simp,.inl ⟨rfl,.inr rfl⟩⟩ ?_ ?_ ?_
  ·rintro j t K L hj ⟨c,g0,g1,g2,g7,hLR⟩ ha hn';simp [ha,g1];exact hn' _ ⟨c,by simp [g0],by simp [g1],by simp [g2],by simp [g7],hLR⟩ (by simp [ha]) (by simp)
  ·rintro j t K hj ⟨c,g0,g1,g2,g7,hLR⟩ ha nx;have hj':j<st.length:=by omega
   obtain⟨x,hx⟩:∃ x,x=st[j]:=⟨_,rfl⟩;obtain⟨K1,hK1⟩:∃ K1:Heap,K1=K++[.box (x.row.map .f) 0]:=⟨_,rfl⟩;have hL1:LR K1 c 1 (cO (st.take j)):=by rw [hK1];exact hLR.push _
   have hb1:K1[K.length]?=some (.box (x.row.map .f) 0):=by rw [hK1];simp
   obtain⟨c',H',happ,hL',hK',hc'⟩:=hL1.app (nD _) (by decide) (row:=x.row) rfl (bytes:=24) (fH (by simp;omega) (by decide)) hb1
   simp only [RuV.row,ax,aE]at hK1;refine aN (kw_region (.inl rfl) ?_);simp [g0,g7,ha,wS hj' hl,Dh hj',←hx];rw [←hK1];simp [happ];refine aF ?_;refine nx _ _ ⟨c',by simp [g0],by simp [g1],by simp [g2],by simp,?_⟩ (by simp [ha])
   rw [aD hj',←hx,xP];exact hL'
  ·rintro t K ⟨c,g0,g1,g2,g7,hLR⟩ ha;obtain⟨K1,hK1⟩:∃ K1:Heap,K1=K++[.box (r.row.map .f) 0]:=⟨_,rfl⟩;have hL1:LR K1 c 1 (cO (st.take n)):=by rw [hK1];exact hLR.push _
   have hb1:K1[K.length]?=some (.box (r.row.map .f) 0):=by rw [hK1];simp
   obtain⟨c',H',happ,hL',hK',hc'⟩:=hL1.app (nD _) (by decide) (row:=r.row) rfl (bytes:=24) (fH (by simp;omega) (by decide)) hb1
   rw [←xP]at hL';obtain⟨g',hx⟩:=Ox hL' (nD _);simp only [RuV.row,ax,aE]at hK1;refine kw_sr ?_;simp [g2,g7];rw [←hK1];simp [happ];refine aQ (hQ _ _ _ ⟨g',rfl⟩ ⟨rfl,.c c',?_,?_⟩)
   ·simp [Km.results,bU,bC]
   ·simp [exV,dB,hx]
 exact⟨g',hp.eq⟩
end
section
abbrev stD(st:List RuV):List (List aZ):=st.map fun x=>dat x.l
theorem WE{H:Heap}{b fl:Nat}{x:aK}(hb:H[b]?=some (.box (x.row.map .f) fl)){l:List aK}(hl:l=[x]):exC deep H (.sl b 0 1 1 0 8)=some (sl .fs (aB l)):=by
 subst hl
 show exC (63+1) H _=_
 rw [sZ,hb];simp [sl,aB];exact⟨aq 8,yR (n:=63) (H:=H) x.row⟩
theorem Good.lib{r:List aK}(h:Good (dat r)):LiB r:=by
 intro x hx;obtain⟨i,hi,rfl⟩:=b7 hx;have:=(h.at_ i (by simpa using hi)).ok.1
 simpa using this
theorem st_len{st:List RuV}{k:Nat}(h:dA (stD st) k){j:Nat}(hj:j<st.length):st[j].l.length≤k:=by
 have h1:=h.tot;have h2:=tK (st:=stD st) (i:=j) (by simpa using hj)
 have h3:=sS (stD st) (j+1);simp at h2;omega
theorem uI{st:List RuV}{k:Nat}(h:dA (stD st) k){j:Nat}(hj:j<st.length):Good (dat st[j].l):=
 h.good _ (ci.2 ⟨st[j],az hj,rfl⟩)
theorem Xg(X:Blk){q:Int}(h:14≤q∧q<18):∃(j κ:Nat),(κ=8∨κ=9∨κ=10∨κ=17)∧aO [X,.box [cI 8,cI 9,cI 10,cI 17] 0] 1 none (.c (.sl 1 0 4 4 0 1)) (vi (q-14))=some (.c (.ptr 1 j 0))∧ldV [X,.box [cI 8,cI 9,cI 10,cI 17] 0] none (.c (.ptr 1 j 0))=some (vi κ):=by
 rcases(show q=14∨q=15∨q=16∨q=17 by omega)with rfl | rfl | rfl | rfl
 ·exact⟨0,8,by simp,rfl,rfl⟩
 ·exact⟨1,9,by simp,rfl,rfl⟩
 ·exact⟨2,10,by simp,rfl,rfl⟩
 ·exact⟨3,17,by simp,rfl,rfl⟩
theorem aPu(X:Blk){e:Int}(h:0≤e∧e<7):∃(j κ:Nat),(11≤κ∧κ≤16)∧aO [X,.box [cI 11,cI 12,cI 13,cI 14,cI 15,cI 16,cI 11] 0] 1 none (.c (.sl 1 0 7 7 0 1)) (vi e)=some (.c (.ptr 1 j 0))∧ldV [X,.box [cI 11,cI 12,cI 13,cI 14,cI 15,cI 16,cI 11] 0] none (.c (.ptr 1 j 0))=some (vi κ):=by
 rcases(show e=0∨e=1∨e=2∨e=3∨e=4∨e=5∨e=6 by omega)with rfl | rfl | rfl | rfl | rfl | rfl | rfl
 ·exact⟨0,11,by simp,rfl,rfl⟩
 ·exact⟨1,12,by simp,rfl,rfl⟩
 ·exact⟨2,13,by simp,rfl,rfl⟩
 ·exact⟨3,14,by simp,rfl,rfl⟩
 ·exact⟨4,15,by simp,rfl,rfl⟩
 ·exact⟨5,16,by simp,rfl,rfl⟩
 ·exact⟨6,11,by simp,rfl,rfl⟩
set_option maxHeartbeats 2000000 in
theorem asz{jW:Nat}(hc:jW=0∨jW=2)(g:Tg)(st:List RuV){k:Nat}(hst:dA (stD st) k)(hk:k≤8)(x:oN)(hx:x.OK) :
  ∃ g' st',st'≠[]∧dA (stD st') (k+1)∧Km.Pure tab.get vY [.c (.f (sl g (cO st))),.a (x.row.map .f),vi jW]=Eq (.c (.f (sl g' (cO st')))):=by
 obtain⟨rr,⟨g',st',h0,h1,rfl⟩,hp⟩:∃ rr,(∃ g' st',st'≠[]∧dA (stD st') (k+1)∧rr=.c (.f (sl g' (cO st'))))∧Km.Pure tab.get vY [.c (.f (sl g (cO st))),.a (x.row.map .f),vi jW] rr:=by
  have hcnt:=hst.count;simp only [bL]at hcnt;obtain⟨yp,hyp,hpl⟩:=Vd x hx hc;obtain⟨n,hn⟩:∃ n,n=st.length:=⟨_,rfl⟩;refine dY aOa rfl fun Q hQ=>?_
  obtain⟨xk,xn,xm,lg,li⟩:=x;obtain⟨hxk,hxn,hxm,hll,hlb⟩:=hx;simp only at hxk hxn hxm hll hlb;simp only [oN.row]at hpl;refine kw_sr ?_;simp [oN.row];refine kw_sr ?_;simp;obtain⟨q,hq⟩:∃ q:Int,q=(xk:Int) % 25:=⟨_,rfl⟩;have w1:IntKind.i64.wrap (xk:Int)=xk:=wrap64 (by omega) (by omega)
  have r1:dG .rem (vi xk) (vi 25)=some (vi q):=by rw [wM (by omega) (by omega),hq]
  refine kw_sr ?_;simp [w1,r1];refine kw_seq (kw_sr ?_);simp;have hpush:=fun(m:Nat) (hm:m≤st.length) (r:RuV)=>atf g st (by omega) m hm r
  have aTg:∀(b:Int),True:=fun _=>trivial
  have leaf:∀(t:T),t.g 0=.c (.f (sl g (cO st)))→t.g 2=vi jW→t.g 4=.c (.ptr 0 0 0)→t.g 7=vi st.length →
    WP tab.get vY none [.code Jj,.code Ji] ⟨t,[],[.box [.f (u8 xk),.f (.int .i8 xn),.f (u8 xm),.f (sl lg (eU li))] 0]⟩ Q:=by
   intro t g0 g2 g4 g7;obtain⟨g',hps⟩:=hpush st.length (aq _) ⟨.fs,[yp]⟩;refine kw_sr ?_;simp only [ax,aE]at hpl;have hr8:yp.row.length=8:=rfl;have hx:exC deep [.box [.f (u8 xk),.f (.int .i8 xn),.f (u8 xm),.f (sl lg (eU li))] 0,.box (yp.row.map .f) 0] (.sl 1 0 1 1 0 8)=some (sl .fs (aB [yp])):=WE rfl rfl;simp [g0,g2,g4,g7,hpl,hr8,hx,hps];refine aQ (hQ _ _ _ ⟨g',st++[⟨.fs,[yp]⟩],by simp,?_,rfl⟩ ?_)
   ·have:=hst.leaf hyp.good (r:=[yp.d]) rfl;rw [bO]at this;simpa [stD]using this
   ·simp
  obtain⟨X,hX⟩:∃ X:Blk,X=.box [.f (u8 xk),.f (.int .i8 xn),.f (u8 xm),.f (sl lg (eU li))] 0:=⟨_,rfl⟩
  have bin:∀(t:T) (y:aK) (H:Heap),2≤st.length→(∀ l r,aZ.OK ⟨y.d.k,y.d.cal,l,r,y.d.n,y.d.m,y.d.li⟩)→fD y.d.k=2→H[2]?=some (.box (y.row.map .f) 0)→t.g 0=.c (.f (sl g (cO st)))→t.g 7=vi st.length→t.g 9=.c (.ptr 2 0 0) →
    WP tab.get vY none [.code Jh,.code Bh] ⟨t,[],H⟩ Q:=by
   intro t y H h2 hy hop b2 g0 g7 g9;obtain⟨-,-,-,-,-,-,-,e8⟩:=zZ b2;have hA:=st_len hst (j:=st.length-2) (by omega)
   have hB:=st_len hst (j:=st.length-1) (by omega)
   have gA:=uI hst (j:=st.length-2) (by omega)
   have gB:=uI hst (j:=st.length-1) (by omega)
   obtain⟨a,ha⟩:∃ a,a=st[st.length-2]'(by omega):=⟨_,rfl⟩
   obtain⟨b,hb⟩:∃ b,b=st[st.length-1]'(by omega):=⟨_,rfl⟩
   have lA:=Dh (H:=H) (st:=st) (j:=st.length-2) (by omega)
   have lB:=Dh (H:=H) (st:=st) (j:=st.length-1) (by omega)
   have iA:=wS (H:=H) (g:=g) (st:=st) (j:=st.length-2) (by omega) (by omega)
   have iB:=wS (H:=H) (g:=g) (st:=st) (j:=st.length-1) (by omega) (by omega)
   rw [←ha]at hA gA lA;rw [←hb]at hB gB lB;have pA:=gA.pos;have pB:=gB.pos;simp only [vO]at pA pB
   obtain⟨g1,l1,hd,hbn⟩:=DF y (hy 0 0).1 a.tg b.tg (a:=a.l) (b:=b.l) (by omega) (by omega) gA.lib (fun i hi=>by
    have:=gB.at_ i (by simpa using hi)
    simpa using this) (by omega)
   obtain⟨g',hps⟩:=hpush (st.length-2) (by omega) ⟨g1,l1⟩
   have c2:((st.length-2:Nat):Int)=(st.length:Int)-2:=by omega
   have c1:((st.length-1:Nat):Int)=(st.length:Int)-1:=by omega
   rw [c2]at iA hps;rw [c1]at iB;have w2:IntKind.i64.wrap ((st.length:Int)-2)=(st.length:Int)-2:=wrap64 (by omega) (by omega)
   have w1':IntKind.i64.wrap ((st.length:Int)-1)=(st.length:Int)-1:=wrap64 (by omega) (by omega)
   refine kw_sr ?_;simp [g0,g7,g9,w2,w1',e8,-aC,iA,iB,lA,lB,hbn,hps];refine aQ (hQ _ _ _ ⟨g',st.take (st.length-2)++[⟨g1,l1⟩],by simp,?_,rfl⟩ (by simp))
   have hG:Good (dat l1):=by
    rw [hd,←vO a.l];exact .bin (x:=⟨y.d.k,y.d.cal,((dat a.l).length:Int)-1,((dat a.l).length:Int)+b.l.length-1,y.d.n,y.d.m,y.d.li⟩) gA gB (hy _ _) hop (by simp) (by simp)
   have:=hst.bin (r:=dat l1) (by simpa using h2) hG (by
    have:=congrArg List.length hd;simp at this;simp [←ha,←hb]
    omega)
   simpa [stD]using this
  have una:∀(t:T) (y:aK) (H:Heap),1≤st.length→(∀ l,aZ.OK ⟨y.d.k,y.d.cal,l,y.d.r,y.d.n,y.d.m,y.d.li⟩)→fD y.d.k=1→y.d.r=0→H[2]?=some (.box (y.row.map .f) 0)→t.g 0=.c (.f (sl g (cO st)))→t.g 7=vi st.length→t.g 10=.c (.ptr 2 0 0) →
    WP tab.get vY none [.code Je] ⟨t,[],H⟩ Q:=by
   intro t y H h2 hy hop hyr b2 g0 g7 g10;obtain⟨-,-,-,-,-,-,-,e8⟩:=zZ b2;have hB:=st_len hst (j:=st.length-1) (by omega)
   have gB:=uI hst (j:=st.length-1) (by omega)
   obtain⟨b,hb⟩:∃ b,b=st[st.length-1]'(by omega):=⟨_,rfl⟩
   have lB:=Dh (H:=H) (st:=st) (j:=st.length-1) (by omega)
   have iB:=wS (H:=H) (g:=g) (st:=st) (j:=st.length-1) (by omega) (by omega)
   rw [←hb]at hB gB lB;have pB:=gB.pos;simp only [vO]at pB;obtain⟨g1,l1,hd,hbn⟩:=UG y (hy 0).1 b.tg (r:=b.l) (by omega) gB.lib
   obtain⟨g',hps⟩:=hpush (st.length-1) (by omega) ⟨g1,l1⟩
   have c1:((st.length-1:Nat):Int)=(st.length:Int)-1:=by omega
   rw [c1]at iB hps;have w1':IntKind.i64.wrap ((st.length:Int)-1)=(st.length:Int)-1:=wrap64 (by omega) (by omega)
   refine kw_sr ?_;simp [g0,g7,g10,w1',e8,-aC,iB,lB,hbn,hps];refine aQ (hQ _ _ _ ⟨g',st.take (st.length-1)++[⟨g1,l1⟩],by simp,?_,rfl⟩ (by simp))
   have hG:Good (dat l1):=by
    rw [hd];exact .un (x:=⟨y.d.k,y.d.cal,(b.l.length:Int)-1,y.d.r,y.d.n,y.d.m,y.d.li⟩) gB (hy _) hop (by simp) hyr
   have:=hst.un (r:=dat l1) (by simp;omega) hG (by
    have:=congrArg List.length hd;simp at this;simp [←hb]
    omega)
   simpa [stD]using this
  by_cases hA:q<14∨st.length=0
  ·have hR:(if decide (q<14)=true then some true else some (decide (st.length=0)))=some true:=by
    rcases hA with h | h<;>simp [h]
   by_cases awv:q<14
   ·simp [awv];refine ak (by simp) (leaf _ (by simp) (by simp) (by simp) (by simp))
   ·have h0:st.length=0:=by omega
    have h0':(st.length:Int)=0:=by omega
    have hnil:=List.eq_nil_of_length_eq_zero h0;simp [awv,h0'];refine ak (by simp [hnil]) (leaf _ (by simp) (by simp) (by simp) (by simp [h0]))
  ·have awv:¬ q<14:=fun h=>hA (.inl h)
   have hn0:st.length≠0:=fun h=>hA (.inr h)
   have aTD:14≤q∧q<25:=by omega
   have hne:st≠[]:=fun h=>hn0 (by rw [h];rfl)
   simp [awv];refine bQ (by simp [hne]) ?_
   refine kw_seq (kw_sr ?_);by_cases hB:q<18∧2≤st.length
   ·simp [hB.1,show(2:Int)≤st.length by omega]
    refine ak (by simp) (kw_sr ?_)
    have w14:IntKind.i64.wrap (q-14)=q-14:=wrap64 (by omega) (by omega)
    obtain⟨j,κ,hκ,hix,hld⟩:=Xg (.box [.f (u8 xk),.f (.int .i8 xn),.f (u8 xm),.f (sl lg (eU li))] 0) (q:=q) (by omega)
    simp [w14,hix,hld,-aC];refine kw_seq (kw_sr ?_);simp;rcases hκ with rfl | rfl | rfl | rfl
    ·refine bQ (by simp) ?_
     exact bin _ ⟨⟨8,0,0,0,0,0,[]⟩,.nil⟩ _ hB.2 (fun l r=>⟨by simp,by simp [dW]⟩) (by rfl) (by rfl) (by simp) (by simp) (by simp)
    ·refine bQ (by simp) ?_
     exact bin _ ⟨⟨9,0,0,0,0,0,[]⟩,.nil⟩ _ hB.2 (fun l r=>⟨by simp,by simp [dW]⟩) (by rfl) (by rfl) (by simp) (by simp) (by simp)
    ·refine bQ (by simp) ?_
     exact bin _ ⟨⟨10,0,0,0,0,0,[]⟩,.nil⟩ _ hB.2 (fun l r=>⟨by simp,by simp [dW]⟩) (by rfl) (by rfl) (by simp) (by simp) (by simp)
    ·obtain⟨mg,m0,m1,hmg⟩:=pq hxn (k:=3) (by decide)
     refine ak (by simp) (kw_region (.inl rfl) ?_)
     simp [hmg,wrap64 (n:=1+mg) (by omega) (by omega)]
     exact bin _ ⟨⟨17,0,0,0,1+mg,0,[]⟩,.nil⟩ _ hB.2 (fun l r=>⟨by simp,by simp [dW];omega⟩) (by rfl) (by rfl) (by simp) (by simp) (by simp)
   ·have hun:∀(t:T),t.g 0=.c (.f (sl g (cO st)))→t.g 2=vi jW→t.g 4=.c (.ptr 0 0 0)→t.g 7=vi st.length→t.g 8=vi q →
      WP tab.get vY none [.code Bh] ⟨t,[],[.box [.f (u8 xk),.f (.int .i8 xn),.f (u8 xm),.f (sl lg (eU li))] 0]⟩ Q:=by
     intro t g0 g2 g4 g7 g8;obtain⟨e,he⟩:∃ e:Int,e=max q 18-18:=⟨_,rfl⟩;obtain⟨j,κ,hκ,hix,hld⟩:=aPu (.box [.f (u8 xk),.f (.int .i8 xn),.f (u8 xm),.f (sl lg (eU li))] 0) (e:=e) (by omega)
     have wE:IntKind.i64.wrap (max q 18-18)=e:=by rw [he];exact wrap64 (by omega) (by omega)
     refine kw_sr ?_;simp [g8,wE,hix,hld,-aC];have hn1:1≤st.length:=by omega
     have hxi:IntKind.i64.wrap xn=xn:=wrap64 (by omega) (by omega)
     have aMB:IntKind.i64.wrap (xm:Int)=xm:=wrap64 (by omega) (by omega)
     have cut:∀(t:T),t.g 0=.c (.f (sl g (cO st)))→t.g 4=.c (.ptr 0 0 0)→t.g 7=vi st.length→t.g 10=.c (.ptr 2 0 0)→∀ κ:Nat,(κ=12∨κ=13) →
       WP tab.get vY none [.code Jg] ⟨t,[],[.box [.f (u8 xk),.f (.int .i8 xn),.f (u8 xm),.f (sl lg (eU li))] 0,.box [cI 11,cI 12,cI 13,cI 14,cI 15,cI 16,cI 11] 0,.box [cI κ,cI 0,cI 0,cI 0,cI 0,cI 0,.f .au,.f (.str ⟨#[]⟩)] 0]⟩ Q:=by
      intro t g0 g4 g7 g10 κ hκ;refine kw_seq (kw_sr ?_);simp [g10];refine aN (kw_sr ?_);rcases hκ with rfl | rfl
      ·simp;refine ah (by simp) (kw_seq (kw_sr ?_))
       simp;refine ak (by simp) (aW ?_)
       refine ak (by simp) (kw_region (.inl rfl) ?_)
       simp [g4,g10,aMB];refine aF ?_;exact una _ ⟨⟨12,0,0,0,xm,0,[]⟩,.nil⟩ _ hn1 (fun l=>⟨by simp,by simp [dW];omega⟩) (by rfl) rfl (by rfl) (by simp [g0]) (by simp [g7]) (by simp [g10])
      ·simp;refine ah (by simp) (kw_seq (kw_sr ?_))
       simp;refine ah (by simp) (kw_region (.inl rfl) ?_)
       simp;refine ak (by simp) (kw_region (.inl rfl) ?_)
       simp [g4,g10,aMB];refine aF ?_;exact una _ ⟨⟨13,0,0,0,xm,0,[]⟩,.nil⟩ _ hn1 (fun l=>⟨by simp,by simp [dW];omega⟩) (by rfl) rfl (by rfl) (by simp [g0]) (by simp [g7]) (by simp [g10])
     refine kw_seq (kw_sr ?_);rcases(show κ=11∨κ=12∨κ=13∨κ=14∨κ=15∨κ=16 by omega)with rfl | rfl | rfl | rfl | rfl | rfl
     ·obtain⟨r,hr⟩:∃ r,r=xn.tmod 12:=⟨_,rfl⟩;have hrr:dG .rem (vi xn) (vi 12)=some (vi r):=by rw [hr];exact su (by decide)
      have hbd:=NU (n:=xn) (k:=12) (by decide)
      rw [←hr]at hbd;simp;refine ah (by simp) (aW (kw_seq (kw_sr ?_)))
      simp;refine aN (kw_sr ?_);simp;refine ak (by simp) (kw_region (.inl rfl) ?_)
      simp [g4,hxi,hrr];refine aF ?_;exact una _ ⟨⟨11,0,0,0,r,0,[]⟩,.nil⟩ _ hn1 (fun l=>⟨by simp,by simp [dW];omega⟩) (by rfl) rfl (by rfl) (by simp [g0]) (by simp [g7]) (by simp)
     ·simp;refine bQ (by simp) ?_
      exact cut _ (by simp [g0]) (by simp [g4]) (by simp [g7]) (by simp) 12 (.inl rfl)
     ·simp;refine bQ (by simp) ?_
      exact cut _ (by simp [g0]) (by simp [g4]) (by simp [g7]) (by simp) 13 (.inr rfl)
     ·obtain⟨gp,lp,hr,hlp,hpk⟩:=oZ lg li hll hlb (lo:=0) (hi:=60) (by decide) (by decide) (by decide) true (by decide)
      simp;refine ah (by simp) (aW (kw_seq (kw_sr ?_)))
      simp;refine aN (kw_sr ?_);simp;refine ah (by simp) (kw_seq (kw_sr ?_))
      simp;refine ah (by simp) (kw_region (.inl rfl) ?_)
      simp;refine ah (by simp) (kw_seq (kw_sr ?_))
      simp;refine ak (by simp) (aW ?_)
      refine ak (by simp) (kw_region (.inl rfl) ?_)
      simp [g4,hpk];refine aF ?_;exact una _ ⟨⟨14,0,0,0,0,0,lp⟩,gp⟩ _ hn1 (fun l=>⟨by simp at hlp ⊢;omega,by simp [dW];exact hr⟩) (by rfl) rfl (by rfl) (by simp [g0]) (by simp [g7]) (by simp)
     ·obtain⟨gp,lp,hr,hlp,hpk⟩:=oZ lg li hll hlb (lo:=0) (hi:=60) (by decide) (by decide) (by decide) true (by decide)
      simp;refine ah (by simp) (aW (kw_seq (kw_sr ?_)))
      simp;refine aN (kw_sr ?_);simp;refine ah (by simp) (kw_seq (kw_sr ?_))
      simp;refine ah (by simp) (kw_region (.inl rfl) ?_)
      simp;refine ah (by simp) (kw_seq (kw_sr ?_))
      simp;refine ah (by simp) (kw_region (.inl rfl) ?_)
      simp;refine ak (by simp) (kw_region (.inl rfl) ?_)
      simp [g4,hpk];refine aF ?_;exact una _ ⟨⟨15,0,0,0,0,0,lp⟩,gp⟩ _ hn1 (fun l=>⟨by simp at hlp ⊢;omega,by simp [dW];exact hr⟩) (by rfl) rfl (by rfl) (by simp [g0]) (by simp [g7]) (by simp)
     ·rcases hc with rfl | rfl
      ·simp [g2];refine ak (by simp) (kw_region (.inl rfl) ?_)
       simp;exact cut _ (by simp [g0]) (by simp [g4]) (by simp [g7]) (by simp) 12 (.inl rfl)
      ·obtain⟨gp,lp,hr,hlp,hpk⟩:=oZ lg li hll hlb (lo:=(-3)) (hi:=4) (by decide) (by decide) (by decide) false (by decide)
       obtain⟨a,a1,ra⟩:=yL hxm (m:=8) (by decide)
       obtain⟨b,b0,b1,rb⟩:=U3 (a:=(a:Int)) (b:=2) (by omega) (by omega)
       obtain⟨d,d1,rd⟩:=jO xm (m:=2) (by decide)
       simp [g2];refine ah (by simp) (aW (kw_seq (kw_sr ?_)))
       simp;refine aN (kw_sr ?_);simp;refine ah (by simp) (kw_seq (kw_sr ?_))
       simp;refine ah (by simp) (kw_region (.inl rfl) ?_)
       simp;refine ah (by simp) (kw_seq (kw_sr ?_))
       simp;refine ah (by simp) (kw_region (.inl rfl) ?_)
       simp;refine ah (by simp) (kw_sr ?_)
       simp;refine ak (by simp) (kw_sr ?_)
       simp [g2,g4,ra,qA a (by omega),rb]
       refine kw_sr ?_;simp [g4,rd,qA d (by omega)]
       refine kw_region (.inl rfl) ?_;simp [g4,hpk];refine aF ?_;exact una _ ⟨⟨16,b,0,0,0,d,lp⟩,gp⟩ _ hn1 (fun l=>⟨by simp at hlp ⊢;omega,by simp [dW];exact⟨b0,by omega,hr,by omega⟩⟩) (by rfl) rfl (by rfl) (by simp [g0]) (by simp [g7]) (by simp)
    by_cases aMF:q<18
    ·simp [aMF,show¬ (2:Int)≤st.length by omega]
     refine ah (by simp) (aW (hun _ (by simp) (by simp) (by simp) (by simp) (by simp)))
    ·simp [aMF];refine ah (by simp) (aW (hun _ (by simp) (by simp) (by simp) (by simp) (by simp)))
 exact⟨g',st',h0,h1,hp.eq⟩
end
section
def gJ(l:List oN):List (List FC):=l.map oN.row
@[simp] theorem aDZ (l:List oN):(gJ l).length=l.length:=by simp [gJ]
theorem Et(l:List oN):Grid 4 (gJ l):=Grid.map fun _=>rfl
theorem KF{l:List oN}{j:Nat}(hj:j<l.length):(gJ l)[j]?=some l[j].row:=by simp [gJ,hj]
theorem awp{H:Heap}{g:Tg}{l:List oN}{j:Nat}(hj:j<l.length)(hl:l.length≤9223372036854775807):aO H 4 none (.c (.f (sl g (gJ l)))) (vi j)=some (.c (.f (.fp (gJ l).flatten (j*4)))):=by
 have:=iE (H:=H) (g:=g) (rows:=gJ l) (sz:=4) (k:=.i64) (i:=(j:Int)) (by omega) (by simp;omega)
 simpa using this
theorem aIi{H:Heap}{l:List oN}{j:Nat}(hj:j<l.length):ldV H (some 4) (.c (.f (.fp (gJ l).flatten (j*4))))=some (.a (l[j].row.map .f)):=by
 have:=nM (H:=H) (rows:=gJ l) (j:=j) (sz:=4) (row:=l[j].row) (Et l) (KF hj);simpa using this
set_option maxHeartbeats 1000000 in
theorem VT{jW:Nat}(hc:jW=0∨jW=2)(g:Tg)(l:List oN)(hl:l.length≤9223372036854775807)(hx:∀ x ∈ l,x.OK) :
  ∃ r:RuV,Good (dat r.l)∧r.l.length≤15∧Km.Pure tab.get Ip [.c (.f (sl g (gJ l))),vi jW]=Eq (.c (.f (sl r.tg (aB r.l)))):=by
 obtain⟨rr,⟨r,h1,h2,rfl⟩,hp⟩:∃ rr,(∃ r:RuV,Good (dat r.l)∧r.l.length≤15∧rr=.c (.f (sl r.tg (aB r.l))))∧Km.Pure tab.get Ip [.c (.f (sl g (gJ l))),vi jW] rr:=by
  refine dY aOo rfl fun Q hQ=>?_
  have fin:∀(t:T) (H:Heap) (c:C) (r:RuV),exC deep H c=some (sl r.tg (aB r.l))→Good (dat r.l)→r.l.length≤15→t.g 7=.c c →
    WP tab.get Ip none [.code JC] ⟨t,[],H⟩ Q:=by
   intro t H c r hx hg hl g7;refine kw_sr ?_;simp [g7];refine aQ (hQ _ _ _ ⟨r,hg,hl,rfl⟩ ⟨rfl,.c c,?_,?_⟩)
   ·simp [Km.results,bU,bC]
   ·simp [exV,dB,hx]
  refine kw_sr ?_;simp;refine kw_sr ?_;simp;refine kw_seq (kw_sr ?_);simp;obtain⟨N,hN⟩:∃ N,N=min l.length 8:=⟨_,rfl⟩
  refine dS N (fun i t K=>∃ g' st,(st=[]→g'=.es)∧dA (stD st) i∧t.g 0=.c (.f (sl g (gJ l)))∧t.g 1=vi jW∧t.g 5=.c (.f (sl g' (cO st)))) (by omega) (by decide) (by simp)
   ⟨.es,[],fun _=>rfl,.nil,by simp,by simp,by simp [sl,cO,Tg.fc]⟩ ?_ ?_ ?_
  ·rintro i t K L hi' ⟨g',st,hem,hst,g0,g1,g5⟩ ha hn;by_cases c1:(i:Int)<l.length
   ·simp [ha,g0,c1];exact hn _ ⟨g',st,hem,hst,by simp [g0],by simp [g1],by simp [g5]⟩ (by simp [ha]) (by simp;omega)
   ·simp [ha,g0,c1];exact hn _ ⟨g',st,hem,hst,by simp [g0],by simp [g1],by simp [g5]⟩ (by simp [ha]) (by simp;omega)
  ·rintro i t K hi' ⟨g',st,hem,hst,g0,g1,g5⟩ ha nx;have hil:i<l.length:=by omega
   obtain⟨x,hxe⟩:∃ x,x=l[i]:=⟨_,rfl⟩;obtain⟨g2,st2,hne2,hst2,hp⟩:=asz hc g' st hst (by omega) x (by rw [hxe];exact hx _ (az hil))
   refine aN (kw_region (.inl rfl) ?_);simp [g5,g1,g0,ha,awp hil hl,aIi hil,←hxe,hp];refine aF ?_;exact nx _ _ ⟨g2,st2,fun e=>absurd e hne2,hst2,by simp [g0],by simp [g1],by simp⟩ (by simp [ha])
  ·rintro t K ⟨g',st,hem,hst,g0,g1,g5⟩ ha;have hcnt:=hst.count;simp only [bL]at hcnt;refine kw_seq (kw_sr ?_);simp [g5];by_cases h0:st=[]
   ·subst h0;have hes:=hem rfl;subst hes;refine ak (by simp) (kw_region (.inl rfl) ?_)
    have hr1:RuV:=⟨.fs,[⟨⟨1,0,0,0,2,0,[]⟩,.nil⟩]⟩;obtain⟨K1,hK1⟩:∃ K1:Heap,K1=K++[.box [cI 1,cI 0,cI 0,cI 0,cI 2,cI 0,.f .au,.f (.str ⟨#[]⟩)] 0,.box [.sl K.length 0 1 1 0 8] 0]:=⟨_,rfl⟩;have b0:K1[K.length]?=some (.box ((aK.row ⟨⟨1,0,0,0,2,0,[]⟩,.nil⟩).map .f) 0):=by rw [hK1,bc (by omega),Nat.sub_self];rfl
    have b1:K1[K.length+1]?=some (.box [.sl K.length 0 1 1 0 8] 0):=by rw [hK1,bc (by omega),Nat.add_sub_cancel_left];rfl
    have hadd:eY K1 1 (.c (.sl (K.length+1) 0 1 1 0 1))=some (1,[.sl K.length 0 1 1 0 8]):=by simp [eY,bV,dF,b1]
    have hroom:bK 1 24=true:=by decide
    have happ:dn K1 1 24 (.c (.f (sl .es (cO [])))) (.c (.sl (K.length+1) 0 1 1 0 1))=some (.c (.sl K1.length 0 1 0 0 1),K1++[.opn 1 [.sl K.length 0 1 1 0 8] 0 0 .loc]):=by
     simp [dn,hadd,hroom,sl,cO,Tg.fc]
    simp [g5];rw [←hK1];simp [happ];obtain⟨K2,hK2⟩:∃ K2:Heap,K2=K1++[.opn 1 [.sl K.length 0 1 1 0 8] 0 0 .loc]:=⟨_,rfl⟩;have c0:K2[K.length]?=some (.box ((aK.row ⟨⟨1,0,0,0,2,0,[]⟩,.nil⟩).map .f) 0):=by rw [hK2,ae (ay b0)];exact b0
    have c1:K2[K1.length]?=some (.opn 1 [.sl K.length 0 1 1 0 8] 0 0 .loc):=by rw [hK2,bc (by omega),Nat.sub_self];rfl
    rw [←hK2];have i0:aO K2 1 none (.c (.sl K1.length 0 1 0 0 1)) (vi 0)=some (.c (.ptr K1.length 0 0)):=by simp [aO,gW,c1]
    have l0:ldV K2 none (.c (.ptr K1.length 0 0))=some (.c (.sl K.length 0 1 1 0 8)):=by simp [ldV,aG,c1,aS]
    have n0:bV K2 (.sl K1.length 0 1 0 0 1)=some 1:=by simp [bV,c1]
    refine kw_sr ?_;simp [i0,l0,-aC];refine kw_seq (kw_sr ?_);simp;refine aN (iL (fun m s=>∃(t:T),s=⟨t,[],K2⟩∧t.g 5=.c (.sl K1.length 0 1 0 0 1)∧t.g 7=.c (.sl K.length 0 1 1 0 8)∧t.g 8=vi 1) 0 ⟨_,rfl,by simp,by simp,by simp⟩ ?_)
    rintro m s ⟨t,rfl,g5,g7,g8⟩ ih;refine kw_seq (kw_sr ?_);simp [g5,g8,n0];refine ah (by simp) (iM rfl ?_)
    refine fin _ _ _ ⟨.fs,[⟨⟨1,0,0,0,2,0,[]⟩,.nil⟩]⟩ (WE c0 rfl) ?_ (by simp) (by simp [g7])
    exact .leaf ⟨by simp,by simp [dW]⟩ rfl (fun _=>rfl) rfl
   ·refine bQ (by simp [h0]) ?_
    have hpos:=cQ.2 h0;have l0:=Dh (H:=K) (st:=st) (j:=0) (by omega)
    have i0:=wS (H:=K) (g:=g') (st:=st) (j:=0) (by omega) (by omega)
    refine kw_sr ?_;simp only [Int.natCast_zero]at i0;simp [g5,i0,l0];refine kw_seq (kw_sr ?_);simp
    refine aN (iL (fun m s=>∃(j:Nat) (r:RuV) (t:T) (K:Heap),s=⟨t,[],K⟩∧1≤j∧j≤st.length∧m=st.length-j∧Good (dat r.l)∧r.l.length+1=total ((stD st).take j)+j∧t.g 5=.c (.f (sl g' (cO st)))∧t.g 7=.c (.f (sl r.tg (aB r.l)))∧t.g 8=vi j) (st.length-1)
     ⟨1,st[0],_,_,rfl,by omega,by omega,rfl,uI hst (by omega),?_,by simp [g5],by simp,by simp⟩ ?_)
    ·have:=tK (st:=stD st) (i:=0) (by simpa using hpos)
     rw [this];simp [total]
    ·rintro m s ⟨j,r,t,K,rfl,j1,j2,rfl,hr,hrl,g5,g7,g8⟩ ih;refine kw_seq (kw_sr ?_);simp [g5,g8];by_cases hj:j<st.length
     ·refine ak (by simp [hj]) (aW ?_)
      have hB:=st_len hst (j:=j) hj;have gB:=uI hst (j:=j) hj;have htt:=tK (st:=stD st) (i:=j) (by simpa using hj)
      have htl:=sS (stD st) (j+1);have htot:=hst.tot;obtain⟨b,hb⟩:∃ b,b=st[j]:=⟨_,rfl⟩;have lB:=Dh (H:=K) (st:=st) (j:=j) hj;have iB:=wS (H:=K) (g:=g') (st:=st) (j:=j) hj (by omega)
      simp at htt;rw [←hb]at hB gB lB htt;have pA:=hr.pos;have pB:=gB.pos;simp only [vO]at pA pB
      obtain⟨g1,l1,hd,hbn⟩:=DF ⟨⟨9,0,0,0,0,0,[]⟩,.nil⟩ (by simp) r.tg b.tg (a:=r.l) (b:=b.l) (by omega) (by omega) hr.lib (fun i hi=>by
       have:=gB.at_ i (by simpa using hi)
       simpa using this) (by omega)
      have hw:IntKind.i64.wrap ((j:Int)+1)=((j+1:Nat):Int):=by rw [wrap64 (by omega) (by omega)];omega
      have aQ6:Km.Pure tab.get DY [.a [cI 9,cI 0,cI 0,cI 0,cI 0,cI 0,.f .au,.f (.str ⟨#[]⟩)],.c (.f (sl r.tg (aB r.l))),.c (.f (sl b.tg (aB b.l)))]=Eq (.c (.f (sl g1 (aB l1)))):=hbn;refine kw_seq (aN (kw_region (.inl rfl) ?_));simp [g5,g7,g8,iB,lB,aQ6];refine aF (kw_region (.inl rfl) ?_);simp [g8,hw]
      have hll:l1.length=r.l.length+b.l.length+1:=by
       have:=congrArg List.length hd;simp at this;omega
      refine ih (st.length-(j+1)) _ (by omega) ⟨j+1,⟨g1,l1⟩,_,_,rfl,by omega,by omega,rfl,?_,?_,by simp [g5],by simp,by simp⟩
      ·rw [hd,←vO r.l];exact .bin (x:=⟨9,0,((dat r.l).length:Int)-1,((dat r.l).length:Int)+b.l.length-1,0,0,[]⟩) hr gB ⟨by simp,by simp [dW]⟩ rfl (by simp) (by simp)
      ·simp only [hll];omega
     ·have hjl:j=st.length:=by omega
      subst hjl;have htl:(stD st).take st.length=stD st:=by rw [bi (by simp)]
      rw [htl]at hrl;have htot:=hst.tot;refine ah (by simp) (iM rfl ?_)
      exact fin _ _ (.f (sl r.tg (aB r.l))) r (by simp [deep]) hr (by omega) (by simp [g7])
 exact⟨r,h1,h2,hp.eq⟩
end
section
end
section
end
section
end
section
section
variable{z:ZD}{o:List TrD}
end
end
section
section
variable{z:ZD}{o:List TrD}{h:OKZ z o}{lo tm:Int}{l:List Int}{r:Option TrD}
end
end
section
end
section
section
variable{z:ZD}{o:List TrD}
end
end
section
def aOw(a b:IsD):Prop:=a.fr<b.fr∨a.fr=b.fr∧(a.day<b.day∨a.day=b.day∧a.to<b.to)
instance(a b:IsD):Decidable (aOw a b):=by unfold aOw;exact inferInstance
end
section
structure bI.Na(s:bI):Prop where
 ok:s.OK
 ml:s.mv.length≤4
 zo:s.zo=⟨#[122]⟩
 rl:s.ru.length≤15
 le:s.le≤2880
 mo:∀ m ∈ s.mv,m.day≤39∧m.to≤39∧m.mi≤1275∧m.le≤256
end
section
structure M5 where
 a:Nat
 b:Nat
 c:Nat
 d:Nat
 e:Nat
def M5.row(x:M5):List FC:=[u8 x.a,u8 x.b,u8 x.c,u8 x.d,u8 x.e]
structure M5.OK(x:M5):Prop where
 a:x.a<256
 b:x.b<256
 c:x.c<256
 d:x.d<256
 e:x.e<256
theorem Qb{x:M5}(hx:x.OK):∃ m:bD,m.OK∧(m.day≤39∧m.to≤39∧m.mi≤1275∧m.le≤256)∧Km.Pure tab.get Ph [.a (x.row.map .f)]=Eq (.a (m.row.map .f)):=by
 obtain⟨rr,⟨m,h1,h2,rfl⟩,hp⟩:∃ rr,(∃ m:bD,m.OK∧(m.day≤39∧m.to≤39∧m.mi≤1275∧m.le≤256)∧rr=.a (m.row.map .f))∧Km.Pure tab.get Ph [.a (x.row.map .f)] rr:=by
  obtain⟨a,b,c,d,e⟩:=x;obtain⟨ha,hb,hc,hd,he⟩:=hx;simp only at ha hb hc hd he;obtain⟨p,p1,rp⟩:=jO a (m:=40) (by decide)
  obtain⟨q,q1,rq⟩:=jO b (m:=40) (by decide)
  obtain⟨r,r1,r2⟩:=jO e (m:=4) (by decide)
  have w5:IntKind.i64.wrap ((c:Int)*5)=(c:Int)*5:=wrap64 (by omega) (by omega)
  have w1:IntKind.i64.wrap (1+(d:Int))=1+d:=wrap64 (by omega) (by omega)
  have i0:∀ H,aO H 1 (some 5) (.c (.ptr 0 0 0)) (vi 0)=some (.c (.ptr 0 0 0)):=fun _=>rfl
  have i1:∀ H,aO H 1 (some 5) (.c (.ptr 0 0 0)) (vi 1)=some (.c (.ptr 0 1 0)):=fun _=>rfl
  have i2:∀ H,aO H 1 (some 5) (.c (.ptr 0 0 0)) (vi 2)=some (.c (.ptr 0 2 0)):=fun _=>rfl
  have i3:∀ H,aO H 1 (some 5) (.c (.ptr 0 0 0)) (vi 3)=some (.c (.ptr 0 3 0)):=fun _=>rfl
  have i4:∀ H,aO H 1 (some 5) (.c (.ptr 0 0 0)) (vi 4)=some (.c (.ptr 0 4 0)):=fun _=>rfl
  refine dY aN1 rfl fun Q hQ=>?_
  refine kw_sr ?_;simp [M5.row];refine kw_seq (kw_sr ?_);simp [i4,r2];by_cases h0:r=0
  ·refine ak (by simp [h0]) (kw_sr ?_)
   simp [i0,rp,qA p (by omega)]
   refine aQ (hQ _ _ _ ⟨⟨p,true,0,0,0⟩,⟨by dsimp only;omega,fun _=>⟨rfl,rfl,rfl⟩,fun h=>by cases h⟩,by dsimp only;omega,rfl⟩ ?_)
   simp [bD.row,exV,dB,bC]
  ·refine ah (by simp [h0]) (aW (kw_sr ?_))
   simp [i0,i1,i2,i3,rp,rq,qA p (by omega),qA q (by omega),qA c (by omega),qA d (by omega),w5,w1]
   refine aQ (hQ _ _ _ ⟨⟨p,false,q,(c:Int)*5,1+d⟩,⟨(by dsimp only;omega),fun h=>(by cases h),fun _=>(by dsimp only;omega)⟩,by dsimp only;omega,rfl⟩ ?_)
   simp [bD.row,exV,dB,bC]
 exact⟨m,h1,h2,hp.eq⟩
def jr(l:List M5):List (List FC):=l.map M5.row
@[simp] theorem aIc (l:List M5):(jr l).length=l.length:=by simp [jr]
theorem GN(l:List M5):Grid 5 (jr l):=Grid.map fun _=>rfl
theorem Qj{l:List M5}{j:Nat}(hj:j<l.length):(jr l)[j]?=some l[j].row:=by simp [jr,hj]
theorem aIA{H:Heap}{g:Tg}{l:List M5}{j:Nat}(hj:j<l.length)(_:l.length≤9223372036854775807):aO H 5 none (.c (.f (sl g (jr l)))) (vi j)=some (.c (.f (.fp (jr l).flatten (j*5)))):=by
 have:=iE (H:=H) (g:=g) (rows:=jr l) (sz:=5) (k:=.i64) (i:=(j:Int)) (by omega) (by simp;omega)
 simpa using this
theorem aMk{H:Heap}{l:List M5}{j:Nat}(hj:j<l.length):ldV H (some 5) (.c (.f (.fp (jr l).flatten (j*5))))=some (.a (l[j].row.map .f)):=by
 have:=nM (H:=H) (rows:=jr l) (j:=j) (sz:=5) (row:=l[j].row) (GN l) (Qj hj);simpa using this
structure xC where
 ng:Tg
 no:List oN
 mi:Nat
 le:Nat
 gap:Nat
 fold:Nat
 mg:Tg
 mv:List M5
abbrev u16(n:Nat):FC:=.int .u16 n
def xC.row(x:xC):List FC:=[sl x.ng (gJ x.no),u16 x.mi,u16 x.le,u8 x.gap,u8 x.fold,sl x.mg (jr x.mv)]
structure xC.OK(x:xC):Prop where
 nl:x.no.length≤9223372036854775807
 no:∀ n ∈ x.no,n.OK
 mi:x.mi<65536
 le:x.le<65536
 gap:x.gap<256
 fold:x.fold<256
 ml:x.mv.length≤9223372036854775807
 mv:∀ m ∈ x.mv,m.OK
theorem FT(n:Nat){m:Int}(hm:0<m):∃ a:Nat,(a:Int)<m∧dG .rem (.c (.f (.int .u16 n))) (.c (.f (.int .u16 m)))=some (.c (.f (.int .u16 a))):=by
 have h0:=cr (n:Int) (show m≠0 by omega)
 have h1:=co (n:Int) hm;refine⟨((n:Int) % m).toNat,by omega,?_⟩
 rw [su (by omega),b9 (by omega),cS h0]
theorem bI.Eqv.near{a b:bI}(h:bI.Eqv a b)(k:b.Na):a.Na:=by
 have hrl:a.ru.length=b.ru.length:=by have:=congrArg List.length h.ru;simpa using this
 refine⟨⟨by rw [h.ru];exact k.ok.ru,by rw [hrl];exact k.ok.rl,by rw [h.mi];exact k.ok.mi,by rw [h.le];exact k.ok.le,by rw [h.zo];exact k.ok.zo,by rw [h.gap];exact k.ok.gap,by rw [h.fold];exact k.ok.fold,by rw [h.mv];exact k.ok.ml,by rw [h.mv];exact k.ok.ms,by rw [h.mv];exact k.ok.mo⟩,by rw [h.mv];exact k.ml,by rw [h.zo];exact k.zo,by rw [hrl];exact k.rl,by rw [h.le];exact k.le,by rw [h.mv];exact k.mo⟩
set_option maxHeartbeats 1000000 in
theorem Qd{jW:Nat}(hc:jW=0∨jW=2){x:xC}(hx:x.OK) :
  ∃ s:bI,s.Na∧Km.Pure tab.get Pj [.a (x.row.map .f),vi jW]=Eq s.v:=by
 obtain⟨rr,⟨s,h1,rfl⟩,hp⟩:∃ rr,(∃ s:bI,s.Na∧rr=s.v)∧Km.Pure tab.get Pj [.a (x.row.map .f),vi jW] rr:=by
  obtain⟨r,hr,hrl,aMI⟩:=VT hc x.ng x.no hx.nl hx.no;have hxm:=hx.mi;have hxl:=hx.le;have hxg:=hx.gap;have hxf:=hx.fold;obtain⟨p,p1,rp⟩:=FT x.mi (m:=1440) (by decide)
  obtain⟨q,q1,rq⟩:=FT x.le (m:=2880) (by decide)
  obtain⟨ga,ga1,rga⟩:=jO x.gap (m:=3) (by decide)
  obtain⟨fo,fo1,rfo⟩:=jO x.fold (m:=3) (by decide)
  have w1:IntKind.i64.wrap (1+(q:Int))=1+q:=wrap64 (by omega) (by omega)
  refine dY aN2 rfl fun Q hQ=>?_
  refine kw_sr ?_;simp [xC.row];refine kw_sr ?_;simp [aMI,rp,rq,rga,rfo,qA p (by omega),qA q (by omega),qA ga (by omega),qA fo (by omega),w1]
  obtain⟨K0,hK0⟩:∃ K0:Heap,K0=[.box (x.row.map .f) 0,.box fC 0,.box ((bI.row ⟨r.tg,r.l,p,1+q,⟨#[122]⟩,ga,fo,.nil,[]⟩).map .f) 0]:=⟨_,rfl⟩
  have hn0:bI.Na ⟨r.tg,r.l,p,1+q,⟨#[122]⟩,ga,fo,.nil,[]⟩:=
   ⟨⟨hr,by dsimp only;omega,by dsimp only;omega,by dsimp only;omega,by dsimp only;decide,by dsimp only;omega,by dsimp only;omega,by simp,List.Pairwise.nil,by simp⟩,by simp,rfl,hrl,by dsimp only;omega,by simp⟩
  have hk0:K0[0]?=some (.box (x.row.map .f) 0)∧K0[1]?=some (.box fC 0):=by rw [hK0];exact⟨rfl,rfl⟩
  have hk2:K0[2]?=some (.box ((bI.row ⟨r.tg,r.l,p,1+q,⟨#[122]⟩,ga,fo,.nil,[]⟩).map .f) 0):=by rw [hK0];rfl
  have eK:K0=[.box [.f (sl x.ng (gJ x.no)),.f (u16 x.mi),.f (u16 x.le),.f (u8 x.gap),.f (u8 x.fold),.f (sl x.mg (jr x.mv))] 0,.box [.f .au,.f (fi 0),.f (fi 0),.f (.str ⟨#[]⟩),.f (fi 0),.f (fi 0),.f .au] 0,
   .box [.f (sl r.tg (aB r.l)),.f (fi p),.f (fi (1+q)),.f (.str ⟨#[122]⟩),.f (fi ga),.f (fi fo),.f .au] 0]:=by rw [hK0];rfl
  rw [←eK];refine kw_seq (kw_sr ?_);simp;obtain⟨N,hN⟩:∃ N,N=min x.mv.length 4:=⟨_,rfl⟩
  refine dS N (fun i t K=>∃ s:bI,s.Na∧s.mv.length≤i∧(K[0]?=some (.box (x.row.map .f) 0)∧K[1]?=some (.box fC 0))∧K[2]?=some (.box (s.row.map .f) 0)∧t.g 2=.c (.ptr 0 0 0)∧t.g 4=.c (.ptr 1 0 0)∧t.g 5=.c (.ptr 2 0 0)) (by omega) (by decide) (by simp)
   ⟨_,hn0,by simp,hk0,hk2,by simp,by simp,by simp⟩ ?_ ?_ ?_
  ·rintro i t K L hi' ⟨s,hs,hsl,hk,hk2,g2,g4,g5⟩ ha hn;have h0:=hk.1;have l5:ldV K none (.c (.ptr 0 5 0))=some (.c (.f (sl x.mg (jr x.mv)))):=by simp [ldV,h0,aG,aS,xC.row]
   by_cases c1:(i:Int)<x.mv.length
   ·simp [ha,g2,l5,-aC,c1];exact hn _ ⟨s,hs,hsl,hk,hk2,by simp [g2],by simp [g4],by simp [g5]⟩ (by simp [ha]) (by simp;omega)
   ·simp [ha,g2,l5,-aC,c1];exact hn _ ⟨s,hs,hsl,hk,hk2,by simp [g2],by simp [g4],by simp [g5]⟩ (by simp [ha]) (by simp;omega)
  ·rintro i t K hi' ⟨s,hs,hsl,hk,hk2,g2,g4,g5⟩ ha nx;have h0:=hk.1;have l5:ldV K none (.c (.ptr 0 5 0))=some (.c (.f (sl x.mg (jr x.mv)))):=by simp [ldV,h0,aG,aS,xC.row]
   obtain⟨-,-,-,-,-,-,-,e8⟩:=jU hk2;have hil:i<x.mv.length:=by omega
   obtain⟨y,hy⟩:∃ y,y=x.mv[i]:=⟨_,rfl⟩;obtain⟨m,hm,hmb,hmv⟩:=Qb (x:=y) (by rw [hy];exact hx.mv _ (az hil))
   obtain⟨s2,hs2,hov⟩:=BQ hs.ok (by omega) hm
   have hol:=Oh (m:=m) hs.ok.ms
   have aMH:bI.Na ⟨s.rg,s.ru,s.mi,s.le,s.zo,s.gap,s.fold,s.mg,ovr s.mv m⟩:=by
    have k:=hs.ok;refine⟨⟨k.ru,k.rl,k.mi,k.le,k.zo,k.gap,k.fold,by dsimp only;omega,KT k.ms,fun z hz=>?_⟩,by dsimp only;omega,hs.zo,hs.rl,hs.le,fun z hz=>?_⟩
    ·rcases Og hz with rfl | hz
     ·exact hm
     ·exact k.mo z hz
    ·rcases Og hz with rfl | hz
     ·exact hmb
     ·exact hs.mo z hz
   have aQT:s2.mv.length≤i+1:=by rw [hs2.mv];dsimp only;omega
   have hl2:=ay hk2;obtain⟨K1,hK1⟩:∃ K1:Heap,K1=K++[.box (s2.row.map .f) 0]:=⟨_,rfl⟩;have hn1:K1[K.length]?=some (.box (s2.row.map .f) 0):=by rw [hK1];simp
   have hk1:(K1[0]?=some (.box (x.row.map .f) 0)∧K1[1]?=some (.box fC 0))∧K1[2]?=some (.box (s.row.map .f) 0):=by
    rw [hK1,ae (by omega),ae (by omega),ae (by omega)]
    exact⟨hk,hk2⟩
   obtain⟨-,-,-,-,-,-,-,e9⟩:=jU hn1
   have st1:stC K1 (.ptr 2 0 0) (s2.row.map .f)=some (K1.set 2 (.box (s2.row.map .f) 0)):=by
    have:=hk1.2;simp [stC,this,over,bI.row]
   have hr7:(s2.row.map C.f).length=7:=rfl;have aQU:s2.row.length=7:=rfl;refine aN (kw_sr ?_);simp [g2,g5,e8,l5,-aC,ha,aIA hil hx.ml,aMk hil,←hy,hmv,hov,hr7];rw [←hK1];refine kw_sr ?_;simp;refine ak (by simp) (kw_region (.inl rfl) ?_)
   simp [g5,e9,-aC,aQU,st1,-bJ];refine aF ?_;refine nx _ _ ⟨s2,hs2.near aMH,aQT,?_,?_,by simp [g2],by simp [g4],by simp [g5]⟩ (by simp [ha])
   ·rw [al (by decide),al (by decide)];exact hk1.1
   ·exact ap (ay hk1.2)
  ·rintro t K ⟨s,hs,hsl,hk,hk2,g2,g4,g5⟩ ha;obtain⟨-,-,-,-,-,-,-,e8⟩:=jU hk2;have h1:=hk.2;have st1:stC K (.ptr 1 0 0) (s.row.map .f)=some (K.set 1 (.box (s.row.map .f) 0)):=by simp [stC,h1,over,bI.row,fC]
   obtain⟨K1,hK1⟩:∃ K1:Heap,K1=K.set 1 (.box (s.row.map .f) 0):=⟨_,rfl⟩;have hn1:K1[1]?=some (.box (s.row.map .f) 0):=by rw [hK1];exact ap (ay h1)
   obtain⟨-,-,-,-,-,-,-,e9⟩:=jU hn1;have hr7:s.row.length=7:=rfl;refine kw_sr ?_;simp [g4,g5,e8,-aC,st1,-bJ,hr7];rw [←hK1];refine aQ (hQ _ _ _ ⟨s,hs,rfl⟩ ⟨rfl,s.v,?_,?_⟩)
   ·simp [Km.results,bU,bC,g4,e9,-aC]
   ·simp [exV,dB]
 exact⟨s,h1,hp.eq⟩
end
section
end
section
theorem ZI.aEo{x:jY}{cs:List C}{c:Nat}{s h:Int}{tr:List TrD}{ct:C}{cy:C}{t:T}{J:Heap}(k:ZI x cs c s h tr ct [] cy t J)(hcy:aX cy=none)(hl:tr.length≤2)(q:TrD) :
  ∃ c3 H3,dn (J++[.box (q.row.map .f) 0]) 2 16 (.c ct) (.c (.sl J.length 0 1 1 0 2))=some (.c c3,H3)∧stC H3 (.ptr 3 5 0) [c3]=some (H3.set 3 (qw cs s c3 h cy)) ∧
   ∀ t',t'.g 1=.c (.ptr 0 0 0)→t'.g 2=.c (.ptr 1 0 0)→t'.g 3=.c (.ptr 3 0 0)→ZI x cs c s h (tr++[q]) c3 [] cy t' (H3.set 3 (qw cs s c3 h cy)):=by
 obtain⟨J2,hJ2⟩:∃ J2:Heap,J2=J++[.box (q.row.map .f) 0]:=⟨_,rfl⟩;rw [←hJ2];have up:∀ i y,J[i]?=some y→J2[i]?=some y:=fun i y hy=>by rw [hJ2,ae (ay hy)];exact hy
 have hL2:LR J2 ct 2 (aY tr):=by rw [hJ2];exact k.lt.push _
 have hb2:J2[J.length]?=some (.box (q.row.map .f) 0):=by rw [hJ2];simp
 obtain⟨c3,H3,happ,hL3,hK3,hc3⟩:=hL2.app (eG tr) (by decide) (row:=q.row) rfl (bytes:=16) (fH (by simp;omega) (by decide)) hb2
 have up3:∀(i:Nat) (cs:List C) (fl:Nat),J[i]?=some (.box cs fl)→H3[i]?=some (.box cs fl):=fun i cs fl hy=>hK3.2 i _ (up _ _ hy) (hL2.gq (up _ _ hy))
 have oH:ku H3 cs c:=k.cal.keep' fun i l fl h _=>⟨fl,up3 i l fl h⟩
 have hzb:=up3 _ _ _ k.zb;have e3:aY tr++[q.row]=aY (tr++[q]):=by simp [aY]
 rw [e3]at hL3;refine⟨c3,H3,happ,aKh oH hzb,fun t' g1 g2 g3=>?_⟩
 refine⟨?_,?_,?_,?_,?_,?_,?_,g1,g2,g3⟩
 ·rw [al (by decide)];exact up3 _ _ _ k.raw
 ·rw [al (by decide)];exact up3 _ _ _ k.res
 ·exact oH.keep fun i y hy hi=>by rw [al (by omega)];exact hy
 ·exact ap (ay hzb)
 ·exact hL3.set (hL3.gq hzb) _
 ·rcases k.ly with⟨h1,h2⟩ | ⟨h1,-⟩
  ·exact .inl ⟨h1,h2⟩
  ·exact absurd rfl h1
 ·intro i _;rw [hcy];exact fun e=>by cases e
theorem made1{x:jY}(hx:x.OK){cs:List C}{c:Nat}{s:Int}{t:T}{J:Heap}(k:ZI x cs c s 0 [] (.f .au) [] (.f .au) t J){Q:Option ACode→St→Prop}
  (next:∀(t:T) (J:Heap) (tr:List TrD) (ct:C) (h:Int),ZI x cs c s h tr ct [] (.f .au) t J→tr.length≤3→(∀ y ∈ tr,0≤y.at_∧y.at_<h∧-1080≤y.off∧y.off≤1080)→(∀(i:Nat) a b,tr[i]?=some a→tr[i+1]?=some b→a.at_+2160≤b.at_)→0≤h∧h≤40000 →
   WP tab.get rG none [.code Bg] ⟨t,[],J⟩ Q) :
  WP tab.get rG none [.code Fq] ⟨t,[],J⟩ Q:=by
 obtain⟨N,hN⟩:∃ N,N=min (min x.gaps.length x.zM.length) 3:=⟨_,rfl⟩;refine kw_sr ?_;simp;refine kw_seq (kw_sr ?_);simp
 refine dS N (fun j t J=>∃ tr ct at_,tr.length=j∧TrP tr at_∧ZI x cs c s 0 tr ct [] (.f .au) t J∧t.g 4=vi at_) (by omega) (by decide) (by simp)
  ⟨[],.f .au,0,rfl,TrP.nil,⟨k.raw,k.res,k.cal,k.zb,k.lt,k.ly,k.ne,by simp [k.g1],by simp [k.g2],by simp [k.g3]⟩,by simp⟩ ?_ ?_ ?_
 ·rintro j t J L hj ⟨tr,ct,at_,htl,hT,k,g4⟩ ha hn;have hgl:=hx.gl;have hol:=hx.ol;have l1:=NY k.raw;have l2:=NW k.raw
  have hn':∀ t',t'.g 1=t.g 1→t'.g 2=t.g 2→t'.g 3=t.g 3→t'.g 4=t.g 4→t'.g 5=t.g 5→t'.g 43=vb (decide ((j:Int)<(N:Int)))→L ⟨t',[],J⟩:=fun t' e1 e2 e3 e4 e5 e43=>
   hn t' ⟨tr,ct,at_,htl,hT,⟨k.raw,k.res,k.cal,k.zb,k.lt,k.ly,k.ne,by rw [e1];exact k.g1,by rw [e2];exact k.g2,by rw [e3];exact k.g3⟩,by rw [e4];exact g4⟩ (by rw [e5];exact ha) e43
  by_cases c1:(j:Int)<x.gaps.length
  ·by_cases c2:(j:Int)<x.zM.length
   ·simp [k.g1,ha,l1,l2,-aC,c1,c2];exact hn' _ (by simp [k.g1]) (by simp [k.g2]) (by simp [k.g3]) (by simp) (by simp) (by simp;omega)
   ·simp [k.g1,ha,l1,l2,-aC,c1,c2];exact hn' _ (by simp [k.g1]) (by simp [k.g2]) (by simp [k.g3]) (by simp) (by simp) (by simp;omega)
  ·simp [k.g1,ha,l1,l2,-aC,c1];exact hn' _ (by simp [k.g1]) (by simp [k.g2]) (by simp [k.g3]) (by simp) (by simp) (by simp;omega)
 ·rintro j t J hj ⟨tr,ct,at_,htl,hT,k,g4⟩ ha nx;have hg:j<x.gaps.length:=by omega
  have ho:j<x.zM.length:=by omega
  have bg:=hx.ga _ (az hg);have bo:=hx.of _ (az ho);have hlo:=hT.lo;have l1:=NY k.raw;have l2:=NW k.raw;have i1:=wU (g:=x.gg) hg (H:=J);have i2:=wU (g:=x.og) ho (H:=J);have d1:=Aa hg (H:=J);have d2:=Aa ho (H:=J);have w1:IntKind.i64.wrap (at_+2160)=at_+2160:=wrap64 (by omega) (by omega)
  have w2:IntKind.i64.wrap ((x.gaps[j]:Nat):Int)=((x.gaps[j]:Nat):Int):=wrap64 (by omega) (by omega)
  have w3:IntKind.i64.wrap (20*((x.gaps[j]:Nat):Int))=20*((x.gaps[j]:Nat):Int):=wrap64 (by omega) (by omega)
  have w4:IntKind.i64.wrap (at_+2160+20*((x.gaps[j]:Nat):Int))=at_+2160+20*((x.gaps[j]:Nat):Int):=wrap64 (by omega) (by omega)
  have hso:=Ef bo;obtain⟨c3,H3,happ,hst,hk⟩:=k.aEo rfl (by omega) ⟨at_+2160+20*((x.gaps[j]:Nat):Int),pW x.zM[j]⟩
  simp only [TrD.row,ax,aE]at happ;refine aN (kw_sr ?_);simp [k.g1,g4,ha,l1,i1,d1,-aC,w1,w2,w3,w4];refine kw_region (.inl rfl) ?_;simp [k.g1,k.g3,ha,l2,i2,d2,-aC,hso,aKj k.cal k.zb,happ,hst,-bJ];refine aF ?_;refine nx _ _ ⟨_,_,_,by simp;omega,hT.app (by omega) bg (m:=x.zM[j]),hk _ (by simp [k.g1]) (by simp [k.g2]) (by simp [k.g3]),by simp⟩ (by simp [ha])
 rintro t J ⟨tr,ct,at_,htl,hT,k,g4⟩ ha;have hlo:=hT.lo;have bb:=hx.be;have l3:=aKs k.raw;have w1:IntKind.i64.wrap (at_+2160)=at_+2160:=wrap64 (by omega) (by omega)
 have w2:IntKind.i64.wrap ((x.be:Nat):Int)=((x.be:Nat):Int):=wrap64 (by omega) (by omega)
 have w3:IntKind.i64.wrap (20*((x.be:Nat):Int))=20*((x.be:Nat):Int):=wrap64 (by omega) (by omega)
 have w4:IntKind.i64.wrap (at_+2160+20*((x.be:Nat):Int))=at_+2160+20*((x.be:Nat):Int):=wrap64 (by omega) (by omega)
 refine kw_sr ?_;simp [k.g1,k.g3,g4,l3,-aC,w1,w2,w3,w4,aKi k.cal k.zb,-bJ];refine next _ _ tr ct (at_+2160+20*((x.be:Nat):Int)) ⟨?_,?_,?_,?_,?_,?_,k.ne,by simp [k.g1],by simp [k.g2],by simp [k.g3]⟩ hT.tl (fun y hy=>by have:=hT.tb y hy;omega) hT.ts (by omega)
 ·rw [al (by decide)];exact k.raw
 ·rw [al (by decide)];exact k.res
 ·exact k.cal.keep fun i y hy hi=>by rw [al (by omega)];exact hy
 ·exact ap (ay k.zb)
 ·exact k.lt.set (k.lt.gq k.zb) _
 ·exact k.ly.set (k.ly.gq k.zb) _
end
section
theorem ZI.aEj{x:jY}{cs:List C}{c:Nat}{s h:Int}{tr:List TrD}{ct:C}{yr:List YrD}{cy:C}{t:T}{J:Heap}(k:ZI x cs c s h tr ct yr cy t J)(hl:yr.length≤2)(q:YrD) :
  ∃ c3 H3,dn (J++[.box (q.row.map .f) 0]) 5 40 (.c cy) (.c (.sl J.length 0 1 1 0 5))=some (.c c3,H3)∧stC H3 (.ptr 3 7 0) [c3]=some (H3.set 3 (qw cs s ct h c3)) ∧
   (∀(b:Nat) (l:List C) (fl:Nat),J[b]?=some (.box l fl)→b≠3→(H3.set 3 (qw cs s ct h c3))[b]?=some (.box l fl)) ∧
   ∀ t',t'.g 1=.c (.ptr 0 0 0)→t'.g 2=.c (.ptr 1 0 0)→t'.g 3=.c (.ptr 3 0 0)→ZI x cs c s h tr ct (yr++[q]) c3 t' (H3.set 3 (qw cs s ct h c3)):=by
 obtain⟨J2,hJ2⟩:∃ J2:Heap,J2=J++[.box (q.row.map .f) 0]:=⟨_,rfl⟩;rw [←hJ2];have up:∀ i y,J[i]?=some y→J2[i]?=some y:=fun i y hy=>by rw [hJ2,ae (ay hy)];exact hy
 have hL2:LR J2 cy 5 (dH yr):=by rw [hJ2];exact k.ly.push _
 have hb2:J2[J.length]?=some (.box (q.row.map .f) 0):=by rw [hJ2];simp
 obtain⟨c3,H3,happ,hL3,hK3,hc3⟩:=hL2.app (qy yr) (by decide) (row:=q.row) rfl (bytes:=40) (fH (by simp;omega) (by decide)) hb2
 have up3:∀(i:Nat) (cs:List C) (fl:Nat),J[i]?=some (.box cs fl)→H3[i]?=some (.box cs fl):=fun i cs fl hy=>hK3.2 i _ (up _ _ hy) (hL2.gq (up _ _ hy))
 have oH:ku H3 cs c:=k.cal.keep' fun i l fl h _=>⟨fl,up3 i l fl h⟩
 have hzb:=up3 _ _ _ k.zb;have e3:dH yr++[q.row]=dH (yr++[q]):=by simp [dH]
 rw [e3]at hL3;have hLt:LR H3 ct 2 (aY tr):=k.lt.keep fun i y hy hi=>hK3.2 i y (up _ _ hy) (k.ne i hi)
 refine⟨c3,H3,happ,aDR oH hzb,fun b l fl hb hb3=>by rw [al (Ne.symm hb3)];exact up3 _ _ _ hb,fun t' g1 g2 g3=>?_⟩
 refine⟨?_,?_,?_,?_,?_,?_,?_,g1,g2,g3⟩
 ·rw [al (by decide)];exact up3 _ _ _ k.raw
 ·rw [al (by decide)];exact up3 _ _ _ k.res
 ·exact oH.keep fun i y hy hi=>by rw [al (by omega)];exact hy
 ·exact ap (ay hzb)
 ·exact hLt.set (hLt.gq hzb) _
 ·exact hL3.set (hL3.gq hzb) _
 ·intro i hi;rcases hc3 with e | e
  ·rw [e];exact k.ne i hi
  ·rw [e];intro e';cases e';have:=k.lt.lt hi;have h2:J2.length=J.length+1:=by rw [hJ2];simp
   omega
theorem ZI.aEi{x:jY}{cs:List C}{c:Nat}{s h:Int}{tr:List TrD}{ct:C}{yr:List YrD}{q:YrD}{cy:C}{t:T}{J:Heap}(k:ZI x cs c s h tr ct (yr++[q]) cy t J)(hl:yr.length≤1) :
  ∃ b ep H3,aO J 5 none (.c cy) (vi yr.length)=some (.c (.ptr b (yr.length*5) ep))∧stC J (.ptr b (yr.length*5+1) ep) [.f (fi 5)]=some H3 ∧
   ∀ t',t'.g 1=.c (.ptr 0 0 0)→t'.g 2=.c (.ptr 1 0 0)→t'.g 3=.c (.ptr 3 0 0)→ZI x cs c s h tr ct (yr++[⟨q.mo,5,q.wd,q.mi,q.off⟩]) cy t' H3:=by
 rcases k.ly with⟨h1,_⟩ | ⟨_,b,ep,e,hb⟩
 ·simp [dH]at h1
 subst e;unfold RB at hb
 have hbx:∀(i:Nat) (l:List C) (fl:Nat),J[i]?=some (.box l fl)→b≠i:=by
  rintro i l fl hi rfl;rw [hb]at hi;cases hi
 have hbt:aX ct≠some b:=fun e=>k.ne b e rfl
 have key:∃ cs',stC J (.ptr b (yr.length*5+1) ep) [.f (fi 5)]=some (J.set b (.opn 5 cs' 0 ep .loc))∧cs'=(dH (yr++[⟨q.mo,5,q.wd,q.mi,q.off⟩])).flatten.map .f:=by
  match yr,hl,hb with
  | [],_,hb=>exact⟨_,by simp [stC,hb,over,dH,YrD.row];rfl,by simp [dH,YrD.row]⟩
  | [p],_,hb=>exact⟨_,by simp [stC,hb,over,dH,YrD.row];rfl,by simp [dH,YrD.row]⟩
  | _::_::_,hl,_=>simp at hl
 obtain⟨cs',hst,hcs⟩:=key;refine⟨b,ep,_,?_,hst,fun t' g1 g2 g3=>?_⟩
 ·simp [aO,gW,hb];omega
 refine⟨?_,?_,?_,?_,?_,?_,?_,g1,g2,g3⟩
 ·rw [al (hbx _ _ _ k.raw)];exact k.raw
 ·rw [al (hbx _ _ _ k.res)];exact k.res
 ·exact k.cal.keep' fun i l fl h _=>⟨fl,by rw [al (hbx _ _ _ h)];exact h⟩
 ·rw [al (hbx _ _ _ k.zb)];exact k.zb
 ·exact k.lt.set hbt _
 ·refine .inr ⟨by simp [dH],b,ep,?_,?_⟩
  ·simp
  ·unfold RB;rw [ap (ay hb),hcs]
 ·exact k.ne
end
section
theorem aMf{x:jY}(hx:x.OK){cs:List C}{c:Nat}{s h:Int}{tr:List TrD}{ct:C}{yr:List YrD}{cy:C}{t:T}{J:Heap}(k:ZI x cs c s h tr ct yr cy t J){j:Nat}(hj:j<2)(hjl:yr.length=j)(g6:t.g 6=vi j){K:List AItem}{Q:Option ACode→St→Prop}
  (next:∀(t:T) (J:Heap) (q:YrD) (cy:C),q.OK→ZI x cs c s h tr ct (yr++[q]) cy t J→t.g 6=vi j→WP tab.get rG none K ⟨t,[],J⟩ Q) :
  WP tab.get rG none (.code Jd::K) ⟨t,[],J⟩ Q:=by
 have y0:=hx.y j 0 hj (by decide)
 have y1:=hx.y j 1 hj (by decide)
 have y2:=hx.y j 2 hj (by decide)
 have y3:=hx.y j 3 hj (by decide)
 have lr:=aQh k.raw hj;have hib:aO J 4 (some 2) (.c (.ptr 0 4 0)) (vi j)=some (.c (.ptr 0 (4+j*4) 0)):=by simp [aO,gW];omega
 refine aN (kw_sr ?_);simp [k.g1,g6,hib,lr,-aC];obtain⟨J1,hJ1⟩:∃ J1:Heap,J1=J++[.box [.f (u8 (x.y j 0)),.f (u8 (x.y j 1)),.f (u8 (x.y j 2)),.f (u8 (x.y j 3))] 0]:=⟨_,rfl⟩;rw [←hJ1];have up:∀ i y,J[i]?=some y→J1[i]?=some y:=fun i y hy=>by rw [hJ1,ae (ay hy)];exact hy
 have eb:J1[J.length]?=some (.box [.f (u8 (x.y j 0)),.f (u8 (x.y j 1)),.f (u8 (x.y j 2)),.f (u8 (x.y j 3))] 0):=by rw [hJ1];simp
 have k1:∀ t',t'.g 1=.c (.ptr 0 0 0)→t'.g 2=.c (.ptr 1 0 0)→t'.g 3=.c (.ptr 3 0 0)→ZI x cs c s h tr ct yr cy t' J1:=fun t' g1 g2 g3=>
  ⟨up _ _ k.raw,up _ _ k.res,k.cal.keep fun i y hy _=>up i y hy,up _ _ k.zb,by rw [hJ1];exact k.lt.push _,by rw [hJ1];exact k.ly.push _,k.ne,g1,g2,g3⟩
 have n3:J.length≠3:=by have:=ay k.zb;omega
 have k1':=k1 t k.g1 k.g2 k.g3;have l0:ldV J1 none (.c (.ptr J.length 0 0))=some (.c (.f (u8 (x.y j 0)))):=by simp [ldV,aG,eb,aS]
 have l1:ldV J1 none (.c (.ptr J.length 1 0))=some (.c (.f (u8 (x.y j 1)))):=by simp [ldV,aG,eb,aS]
 have l2:ldV J1 none (.c (.ptr J.length 2 0))=some (.c (.f (u8 (x.y j 2)))):=by simp [ldV,aG,eb,aS]
 have i0:aO J1 1 (some 4) (.c (.ptr J.length 0 0)) (vi 0)=some (.c (.ptr J.length 0 0)):=by simp [aO,gW]
 have i1:aO J1 1 (some 4) (.c (.ptr J.length 0 0)) (vi 1)=some (.c (.ptr J.length 1 0)):=by simp [aO,gW]
 have i2:aO J1 1 (some 4) (.c (.ptr J.length 0 0)) (vi 2)=some (.c (.ptr J.length 2 0)):=by simp [aO,gW]
 have r0:dG .rem (.c (.f (u8 (x.y j 0)))) (.c (.f (.int .u8 3)))=some (.c (.f (u8 (x.y j 0 % 3)))):=y8 _ (by decide)
 have r2:dG .rem (.c (.f (u8 (x.y j 2)))) (.c (.f (.int .u8 5)))=some (.c (.f (u8 (x.y j 2 % 5)))):=y8 _ (by decide)
 have r3:dG .rem (.c (.f (u8 (x.y j 3)))) (.c (.f (.int .u8 2)))=some (.c (.f (u8 (x.y j 3 % 2)))):=y8 _ (by decide)
 have hso:=Ef (n:=x.y j 2 % 5) (by omega)
 have w0:IntKind.i64.wrap (1+(j:Int))=1+(j:Int):=wrap64 (by omega) (by omega)
 have w1:IntKind.i64.wrap ((x.y j 0:Int) % 3)=(x.y j 0:Int) % 3:=wrap64 (by omega) (by omega)
 have w2:IntKind.i64.wrap ((x.y j 1:Nat):Int)=((x.y j 1:Nat):Int):=wrap64 (by omega) (by omega)
 have w3:IntKind.i64.wrap (((x.y j 1:Nat):Int)*5)=((x.y j 1:Nat):Int)*5:=wrap64 (by omega) (by omega)
 obtain⟨c3,H3,happ,hst,hbk,hk⟩:=k1'.aEj (by omega) ⟨1+(j:Int),1,(x.y j 0:Int) % 3,((x.y j 1:Nat):Int)*5,pW (x.y j 2 % 5)⟩
 have hq1:YrD.OK ⟨1+(j:Int),1,(x.y j 0:Int) % 3,((x.y j 1:Nat):Int)*5,pW (x.y j 2 % 5)⟩:=
  ⟨by simp only;omega,.inl rfl,by simp only;omega,by simp only;omega,by simp only;omega,by simp only;omega,(oh _).1,(oh _).2⟩
 have hq5:YrD.OK ⟨1+(j:Int),5,(x.y j 0:Int) % 3,((x.y j 1:Nat):Int)*5,pW (x.y j 2 % 5)⟩:=
  ⟨by simp only;omega,.inr rfl,by simp only;omega,by simp only;omega,by simp only;omega,by simp only;omega,(oh _).1,(oh _).2⟩
 simp only [YrD.row,ax,aE]at happ;refine kw_sr ?_;simp [k.g3,g6,aDS k1'.cal k1'.zb,-aC,i0,i1,i2,l0,l1,l2,r0,r2,hso,w0,w1,w2,w3,happ,hst,-bJ];obtain⟨J4,hJ4⟩:∃ J4:Heap,J4=H3.set 3 (qw cs s ct h c3):=⟨_,rfl⟩;rw [←hJ4]at hk hbk ⊢;have eb4:=hbk _ _ _ eb n3;have l3:ldV J4 none (.c (.ptr J.length 3 0))=some (.c (.f (u8 (x.y j 3)))):=by simp [ldV,aG,eb4,aS]
 have i3:aO J4 1 (some 4) (.c (.ptr J.length 0 0)) (vi 3)=some (.c (.ptr J.length 3 0)):=by simp [aO,gW]
 have hk':=hk t k.g1 k.g2 k.g3;refine kw_sr ?_;by_cases h3:x.y j 3 % 2=1
 ·simp [i3,l3,r3,-aC,h3];refine ak (by simp) (kw_region (.inl rfl) ?_)
  obtain⟨b,ep,H5,hix,hst5,hk5⟩:=hk'.aEi (by omega)
  rw [hjl]at hix hst5;simp [k.g3,g6,aDS hk'.cal hk'.zb,-aC,hix,hst5,-bJ];exact aF (next _ _ _ _ hq5 (hk5 _ (by simp [k.g1]) (by simp [k.g2]) (by simp [k.g3])) (by simp [g6]))
 ·have h3':x.y j 3 % 2=0:=by omega
  simp [i3,l3,r3,-aC,h3'];refine bQ (by simp) ?_
  exact aF (next _ _ _ _ hq1 (hk _ (by simp [k.g1]) (by simp [k.g2]) (by simp [k.g3])) (by simp [g6]))
end
section
theorem made2{x:jY}(hx:x.OK){cs:List C}{c:Nat}{s h:Int}{tr:List TrD}{ct:C}{t:T}{J:Heap}(k:ZI x cs c s h tr ct [] (.f .au) t J)(hs:-1080≤s∧s≤1080)(htl:tr.length≤3)(htb:∀ y ∈ tr,0≤y.at_∧y.at_<h∧-1080≤y.off∧y.off≤1080)
  (hts:∀(i:Nat) a b,tr[i]?=some a→tr[i+1]?=some b→a.at_+2160≤b.at_) (hh:0≤h∧h≤40000) {Q:Option ACode→St→Prop}
  (hQ:∀ j s z o,OKZ z o→yK [.cell (P.nat 2) (some 8)] (.a (z.row.map .f)) s→Q j s) :
  WP tab.get rG none [.code Bg] ⟨t,[],J⟩ Q:=by
 have hc:=k.cal.lt;have pre:∀(tg yg:Tg) (yr:List YrD),axp ⟨c,s,tg,tr,h,yg,yr⟩:=fun tg yg yr=>⟨hc,hs,htl,htb,hts,hh⟩
 refine kw_seq (kw_sr ?_)
 cases hr:x.rules with
 | false=>
  simp [k.g1,Gi k.raw,-aC,hr];refine ak (by simp) (kw_sr ?_)
  obtain⟨z,o,J',hz,hst,hf⟩:=k.e.fin ⟨.nil,.nil,[],(pre .nil .nil []).none rfl⟩ (((t.s 77 (.c (.ptr 0 13 0))).s 78 (vb false)).s 79 (vb true) |>.s 80 (.a (cs++[.f (fi s),ct,.f (fi h),.f .au]))) (by simp [k.g2])
  have hl4:cs.length=4:=by obtain⟨a,b,d,e,e4⟩:=k.cal.four;rw [e4];rfl
  simp [k.g2,k.g3,JK k.cal k.zb,-aC,hl4,hst,-bJ]
  exact aQ (hQ _ _ z o hz hf)
 | true=>
  simp [k.g1,Gi k.raw,-aC,hr];refine bQ (by simp) ?_
  refine kw_seq (kw_sr ?_);simp
  refine dS 2 (fun j t J=>∃ yr cy,yr.length=j∧(∀ q ∈ yr,q.OK)∧ZI x cs c s h tr ct yr cy t J) (by decide) (by decide) (by simp)
   ⟨[],_,rfl,by simp,⟨k.raw,k.res,k.cal,k.zb,k.lt,k.ly,k.ne,by simp [k.g1],by simp [k.g2],by simp [k.g3]⟩⟩ ?_ ?_ ?_
  ·rintro j t J L hj ⟨yr,cy,hyl,hyo,k⟩ ha hn;simp [ha];exact hn _ ⟨yr,cy,hyl,hyo,⟨k.raw,k.res,k.cal,k.zb,k.lt,k.ly,k.ne,by simp [k.g1],by simp [k.g2],by simp [k.g3]⟩⟩ (by simp [ha]) (by simp)
  ·rintro j t J hj ⟨yr,cy,hyl,hyo,k⟩ ha nx;refine aMf hx k hj hyl ha fun t J q cy hq k g6=>?_
   refine nx _ _ ⟨yr++[q],cy,by simp;omega,fun p hp=>?_,⟨k.raw,k.res,k.cal,k.zb,k.lt,k.ly,k.ne,by simp [k.g1],by simp [k.g2],by simp [k.g3]⟩⟩ g6
   rcases bX.1 hp with hp | hp
   ·exact hyo p hp
   ·simp at hp;subst hp;exact hq
  rintro t J ⟨yr,cy,hyl,hyo,k⟩ ha
  obtain⟨r,q,rfl⟩:∃ r q,yr=[r,q]:=by
   match yr,hyl with
   | [r,q],_=>exact⟨r,q,rfl⟩
  obtain⟨tg,yg,hex⟩:=k.e.ex;obtain⟨e,hv,he⟩:=JQ (pre tg yg [r,q]) (r:=r) (q:=q) rfl (hyo r (by simp)) (hyo q (by simp))
  have hex':=hex J (fun _ _ h _=>h)
  have hvv:dB deep J (.a (cs++[.f (fi s),ct,.f (fi h),cy]))=some (ZD.v ⟨c,s,tg,tr,h,yg,[r,q]⟩):=by
   simp only [dB,deep,hex'];rfl
  have tail:∀(t:T) (J:Heap) (yr:List YrD) (cy:C),ZE cs c s h tr ct yr cy J→t.g 2=.c (.ptr 1 0 0)→t.g 3=.c (.ptr 3 0 0)→(∃ tg yg o,OKZ ⟨c,s,tg,tr,h,yg,yr⟩ o)→WP tab.get rG none [.code Jc] ⟨t,[],J⟩ Q:=by
   intro t J yr cy k g2 g3 ho;refine kw_sr ?_;obtain⟨z,o,J',hz,hst,hf⟩:=k.fin ho (t.s 122 (.a (cs++[.f (fi s),ct,.f (fi h),cy]))) (by simp [g2])
   have hl4:cs.length=4:=by obtain⟨a,b,d,e,e4⟩:=k.cal.four;rw [e4];rfl
   simp [g2,g3,JK k.cal k.zb,-aC,hl4,hst,-bJ];exact aQ (hQ _ _ z o hz hf)
  have km:=k.e.marked;refine kw_seq (kw_sr ?_);simp only [dB]at hvv;simp [k.g3,JK k.cal k.zb,-aC];simp only [hvv,bh,axr,hv,aOv];obtain⟨J5,hJ5⟩:∃ J5,J5=mkC deep cy (mkC deep ct (List.foldl (fun H x=>mkC deep x H) J cs)):=⟨_,rfl⟩
  rw [←hJ5]at km ⊢;simp;by_cases h0:e=0
  ·subst h0;obtain⟨o,ho⟩:=he rfl;simp;refine bQ (by simp) ?_
   exact tail _ _ _ _ km (by simp [k.g2]) (by simp [k.g3]) ⟨_,_,o,ho⟩
  ·simp [h0];refine ak (by simp) (kw_region (.inl rfl) ?_)
   simp [k.g3,aDR km.cal km.zb,-bJ];refine tail _ _ [] (.f .au) ⟨?_,?_,?_,?_,.inl ⟨rfl,.inl rfl⟩⟩ (by simp [k.g2]) (by simp [k.g3]) ⟨.nil,.nil,[],(pre .nil .nil []).none rfl⟩
   ·rw [al (by decide)];exact km.res
   ·exact km.cal.keep fun i y hy hi=>by rw [al (by omega)];exact hy
   ·exact ap (ay km.zb)
   ·exact km.lt.keep fun i s l fl ep st h=>⟨fl,by rw [al (by rintro rfl;rw [km.zb]at h;cases h)];exact h⟩
end
section
theorem Qe{x:jY}(hx:x.OK):∃ z o,OKZ z o∧Km.Pure tab.get rG [.a (x.row.map .f)]=Eq (.a (z.row.map .f)):=by
 obtain⟨rr,⟨z,o,hz,rfl⟩,hp⟩:∃ rr,(∃ z o,OKZ z o∧rr=.a (z.row.map .f))∧Km.Pure tab.get rG [.a (x.row.map .f)] rr:=by
  refine dY aN8 rfl fun Q hQ=>?_
  have hQ':∀ j s z o,OKZ z o→yK [.cell (P.nat 2) (some 8)] (.a (z.row.map .f)) s→Q j s:=fun j s z o h1 h2=>hQ j s _ ⟨z,o,h1,rfl⟩ h2
  have hs:=oh x.st;have hso:=Ef hx.st;have oH:=hx.cal
  have rest:∀(t:T) (J:Heap) (cs:List C) (c:Nat),ZI x cs c (pW x.st) 0 [] (.f .au) [] (.f .au) t J→WP tab.get rG none [.code Fq] ⟨t,[],J⟩ Q:=fun t J cs c k=>
   made1 hx k fun t J tr ct h k htl htb hts hh=>made2 hx k hs htl htb hts hh hQ'
  refine kw_sr ?_;simp;obtain⟨B0,hB0⟩:∃ B0:Blk,B0=.box (x.row.map .f) 0:=⟨_,rfl⟩;rw [←hB0];have l0:∀(b1:Blk) (J:Heap),ldV (B0::b1::J) none (.c (.ptr 0 0 0))=some (.c (.f (u8 x.st))):=fun b1 J=>by simp [ldV,aG,hB0,aS,jY.row]
  have l12:∀(b1:Blk) (J:Heap),ldV (B0::b1::J) none (.c (.ptr 0 12 0))=some (.c (.f (u8 x.cal))):=fun b1 J=>by simp [ldV,aG,hB0,aS,jY.row]
  have r2:dG .rem (.c (.f (u8 x.cal))) (.c (.f (.int .u8 2)))=some (.c (.f (u8 (x.cal % 2)))):=y8 _ (by decide)
  have q2:dG .quo (.c (.f (u8 x.cal))) (.c (.f (.int .u8 2)))=some (.c (.f (u8 (x.cal / 2)))):=u8_quo oH (by decide)
  have r4:dG .rem (.c (.f (u8 (x.cal / 2)))) (.c (.f (.int .u8 2)))=some (.c (.f (u8 (x.cal / 2 % 2)))):=y8 _ (by decide)
  have w4:IntKind.i64.wrap ((x.cal:Int) / 2 % 2)=(x.cal:Int) / 2 % 2:=wrap64 (by omega) (by omega)
  refine kw_sr ?_;simp [l0,-aC,hso];refine kw_seq (kw_sr ?_);by_cases hodd:x.cal % 2=1
  ·simp [l12,-aC,r2,hodd];refine ak (by simp) (kw_region (.inl rfl) ?_)
   simp [l12,-aC,q2,r4,w4];refine rest _ _ [.f (fi 5),.sl 4 0 2 2 0 1,.f (fi 1),.sl 5 0 1 1 0 3] (x.cal / 2 % 2+1) ⟨by rw [hB0];rfl,rfl,.inr ⟨x.cal / 2 % 2,by omega,rfl,rfl,⟨0,rfl⟩,0,rfl⟩,rfl,LR.nil _ _,LR.nil _ _,(fun i h=>by cases h),by simp,by simp,by simp⟩
  ·have h0:x.cal % 2=0:=by omega
   simp [l12,-aC,r2,h0];refine bQ (by simp) ?_
   refine rest _ _ [.f (fi 2),.sl 2 0 2 2 0 1,.f (fi (-1)),.f .au] 0 ⟨by rw [hB0];rfl,rfl,.inl ⟨rfl,rfl,0,rfl⟩,rfl,LR.nil _ _,LR.nil _ _,(fun i h=>by cases h),by simp,by simp,by simp⟩
 exact⟨z,o,hz,hp.eq⟩
end
section
end
section
theorem sane:Km.Pure tab.get Iq [] (vb true):=BJ (reckoned ev)
theorem byte_of{x:List FC}(h:∃ m,x=[FC.int .u8 m]∧Lit.wf (.int .u8 m)):∃ m:Nat,x=[u8 m]∧m<256:=by
 obtain⟨m,rfl,hw⟩:=h;simp [Lit.wf,IntKind.min,IntKind.max,IntKind.signed,IntKind.bits]at hw;refine⟨m.toNat,?_,by omega⟩
 have:((m.toNat:Nat):Int)=m:=cS hw.1;simp [this]
theorem NS{x:List FC}(h:∃ m,x=[FC.int .u16 m]∧Lit.wf (.int .u16 m)):∃ m:Nat,x=[u16 m]∧m<65536:=by
 obtain⟨m,rfl,hw⟩:=h;simp [Lit.wf,IntKind.min,IntKind.max,IntKind.signed,IntKind.bits]at hw;refine⟨m.toNat,?_,by omega⟩
 have:((m.toNat:Nat):Int)=m:=cS hw.1;simp [this]
theorem LH{n:Nat}(h:n≤maxLen):n≤9223372036854775807:=a7 h (by decide)
theorem AO{n:Nat}{ys:List FC}(h:Shp Tryz.prog (n+2) 27 ys):∃ g l,ys=[sl g (eU l)]∧l.length≤9223372036854775807∧∀ m ∈ l,m<256:=by
 obtain⟨g,rows,rfl,_,hl,hr⟩:=wK Tryz.underlying27 h;obtain⟨l,rfl,hx⟩:=rU (enc:=fun n:Nat=>[u8 n]) (p:=fun n=>n<256) fun r hr'=>byte_of (iw Tryz.underlying5 (hr r hr'))
 exact⟨g,l,rfl,LH (by simpa using hl),hx⟩
theorem OH{n:Nat}{ys:List FC}(h:Shp Tryz.prog (n+2) 28 ys):∃ y:Nat→Nat,ys=[u8 (y 0),u8 (y 1),u8 (y 2),u8 (y 3)]∧∀ i,i<4→y i<256:=by
 obtain⟨rows,rfl,hl,_,hr⟩:=Ei Tryz.underlying28 h;obtain⟨l,rfl,hx⟩:=rU (enc:=fun n:Nat=>[u8 n]) (p:=fun n=>n<256) fun r hr'=>byte_of (iw Tryz.underlying5 (hr r hr'))
 match l,hl,hx with
 | [a,b,c,d],_,hx=>
  refine⟨fun i=>match i with | 0=>a | 1=>b | 2=>c | _=>d,rfl,fun i hi=>?_⟩
  have:i=0∨i=1∨i=2∨i=3:=by omega
  rcases this with rfl | rfl | rfl | rfl
  ·exact hx a (by simp)
  ·exact hx b (by simp)
  ·exact hx c (by simp)
  ·exact hx d (by simp)
 | [],hl,_=>simp at hl
 | [_],hl,_=>simp at hl
 | [_,_],hl,_=>simp at hl
 | [_,_,_],hl,_=>simp at hl
 | _::_::_::_::_::_,hl,_=>simp at hl
theorem Oa{n:Nat}{ys:List FC}(h:Shp Tryz.prog (n+4) 31 ys):∃ x:jY,ys=x.row∧x.OK:=by
 obtain⟨_,q1,rfl,h1,k1⟩:=dU (tN (ts:=[5,27,27,5,29,5,4]) Tryz.underlying31 rfl h);obtain⟨st,rfl,b1⟩:=byte_of (iw Tryz.underlying5 h1);obtain⟨_,q2,rfl,h1,k2⟩:=dU k1;obtain⟨gg,gaps,rfl,lg,bg⟩:=AO h1;obtain⟨_,q3,rfl,h1,k3⟩:=dU k2;obtain⟨og,zM,rfl,lo,bo⟩:=AO h1;obtain⟨_,q4,rfl,h1,k4⟩:=dU k3;obtain⟨be,rfl,b4⟩:=byte_of (iw Tryz.underlying5 h1);obtain⟨_,q5,rfl,h1,k5⟩:=dU k4;obtain⟨rows,rfl,hl,_,hr⟩:=Ei Tryz.underlying29 h1;obtain⟨_,q6,rfl,h1,k6⟩:=dU k5;obtain⟨cal,rfl,b6⟩:=byte_of (iw Tryz.underlying5 h1);obtain⟨_,q7,rfl,h1,k7⟩:=dU k6;obtain⟨rules,rfl⟩:=UW Tryz.underlying4 h1;obtain rfl:q7=[]:=k7
 match rows,hl,hr with
 | [r0,r1],_,hr=>
  obtain⟨y0,rfl,c0⟩:=OH (hr r0 (by simp))
  obtain⟨y1,rfl,c1⟩:=OH (hr r1 (by simp))
  refine⟨⟨st,gg,gaps,og,zM,be,fun k=>if k=0 then y0 else y1,cal,rules⟩,rfl,b1,lg,lo,bg,bo,b4,fun k i hk hi=>?_,b6⟩
  simp only;split
  ·exact c0 i hi
  ·exact c1 i hi
 | [],hl,_=>simp at hl
 | [_],hl,_=>simp at hl
 | _::_::_::_,hl,_=>simp at hl
theorem aMA{x:List FC}(h:∃ m,x=[FC.int .i8 m]∧Lit.wf (.int .i8 m)):∃ m:Int,x=[.int .i8 m]∧-128≤m∧m≤127:=by
 obtain⟨m,rfl,hw⟩:=h;simp [Lit.wf,IntKind.min,IntKind.max,IntKind.signed,IntKind.bits]at hw;exact⟨m,rfl,by omega,by omega⟩
theorem asR{n:Nat}{ys:List FC}(h:Shp Tryz.prog (n+4) 173 ys):∃ x:oN,ys=x.row∧x.OK:=by
 obtain⟨_,q1,rfl,h1,k1⟩:=dU (tN (ts:=[5,171,5,27]) Tryz.underlying173 rfl h);obtain⟨k,rfl,b1⟩:=byte_of (iw Tryz.underlying5 h1);obtain⟨_,q2,rfl,h1,k2⟩:=dU k1;obtain⟨m,rfl,b2⟩:=aMA (iw Tryz.underlying171 h1);obtain⟨_,q3,rfl,h1,k3⟩:=dU k2;obtain⟨o,rfl,b3⟩:=byte_of (iw Tryz.underlying5 h1);obtain⟨_,q4,rfl,h1,k4⟩:=dU k3;obtain⟨lg,li,rfl,l4,b4⟩:=AO h1;obtain rfl:q4=[]:=k4;exact⟨⟨k,m,o,lg,li⟩,rfl,b1,b2,b3,l4,b4⟩
theorem aMi{n:Nat}{ys:List FC}(h:Shp Tryz.prog (n+2) 77 ys):∃ x:M5,ys=x.row∧x.OK:=by
 obtain⟨rows,rfl,hl,_,hr⟩:=Ei Tryz.underlying77 h;obtain⟨l,rfl,hx⟩:=rU (enc:=fun n:Nat=>[u8 n]) (p:=fun n=>n<256) fun r hr'=>byte_of (iw Tryz.underlying5 (hr r hr'))
 match l,hl,hx with
 | [a,b,c,d,e],_,hx=>exact⟨⟨a,b,c,d,e⟩,rfl,hx a (by simp),hx b (by simp),hx c (by simp),hx d (by simp),hx e (by simp)⟩
 | [],hl,_=>simp at hl
 | [_],hl,_=>simp at hl
 | [_,_],hl,_=>simp at hl
 | [_,_,_],hl,_=>simp at hl
 | [_,_,_,_],hl,_=>simp at hl
 | _::_::_::_::_::_::_,hl,_=>simp at hl
theorem Ob{n:Nat}{ys:List FC}(h:Shp Tryz.prog (n+6) 26 ys):∃ x:xC,ys=x.row∧x.OK:=by
 obtain⟨_,q1,rfl,h1,k1⟩:=dU (tN (ts:=[22,23,23,5,5,24]) Tryz.underlying26 rfl h);obtain⟨ng,rows,rfl,_,hl,hr⟩:=wK Tryz.underlying22 h1;obtain⟨no,rfl,hno⟩:=rU (enc:=oN.row) (p:=fun x=>x.OK) fun r hr'=>asR (hr r hr')
 obtain⟨_,q2,rfl,h1,k2⟩:=dU k1;obtain⟨mi,rfl,b2⟩:=NS (iw Tryz.underlying23 h1);obtain⟨_,q3,rfl,h1,k3⟩:=dU k2;obtain⟨le,rfl,b3⟩:=NS (iw Tryz.underlying23 h1);obtain⟨_,q4,rfl,h1,k4⟩:=dU k3;obtain⟨ga,rfl,b4⟩:=byte_of (iw Tryz.underlying5 h1);obtain⟨_,q5,rfl,h1,k5⟩:=dU k4;obtain⟨fo,rfl,b5⟩:=byte_of (iw Tryz.underlying5 h1);obtain⟨_,q6,rfl,h1,k6⟩:=dU k5;obtain⟨mg,aSi,rfl,_,hl2,hr2⟩:=wK Tryz.underlying24 h1;obtain⟨mv,rfl,hmv⟩:=rU (enc:=M5.row) (p:=fun x=>x.OK) fun r hr'=>aMi (hr2 r hr')
 obtain rfl:q6=[]:=k6;exact⟨⟨ng,no,mi,le,ga,fo,mg,mv⟩,rfl,LH (by simpa using hl),hno,b2,b3,b4,b5,LH (by simpa using hl2),hmv⟩
theorem U6{a:V}(h:xM Tryz.prog 26 a):∃ x:xC,a=.a (x.row.map .f)∧x.OK:=by
 rcases h with⟨xs,rfl,hs,_⟩ | ⟨x,rfl,hs⟩
 ·obtain⟨x,rfl,hx⟩:=Ob (n:=34) hs;exact⟨x,rfl,hx⟩
 ·exfalso;obtain⟨x,e,_⟩:=Ob (n:=34) hs;simp [xC.row]at e
theorem U5{a:V}(h:xM Tryz.prog 31 a):∃ x:jY,a=.a (x.row.map .f)∧x.OK:=by
 rcases h with⟨xs,rfl,hs,_⟩ | ⟨x,rfl,hs⟩
 ·obtain⟨x,rfl,hx⟩:=Oa (n:=36) hs;exact⟨x,rfl,hx⟩
 ·exfalso;obtain⟨x,e,_⟩:=Oa (n:=36) hs;simp [jY.row]at e
end
section
theorem aEG{k:Nat}(h:k<19):(iR.drop (k*4+1)).take 1=[.bool (kF k)]:=by
 match k,h with
 | 0,_=>rfl
 | 1,_=>rfl
 | 2,_=>rfl
 | 3,_=>rfl
 | 4,_=>rfl
 | 5,_=>rfl
 | 6,_=>rfl
 | 7,_=>rfl
 | 8,_=>rfl
 | 9,_=>rfl
 | 10,_=>rfl
 | 11,_=>rfl
 | 12,_=>rfl
 | 13,_=>rfl
 | 14,_=>rfl
 | 15,_=>rfl
 | 16,_=>rfl
 | 17,_=>rfl
 | 18,_=>rfl
 | n+19,h=>omega
theorem aIh{H:Heap}{b fl:Nat}(hb:H[b]?=some (.box (iR.map .f) fl)){k:Nat}(h:k<19):ldV H none (.c (.ptr b (k*4+1) 0))=some (vb (kF k)):=by
 have h1:=aEG h
 have h2:∃ xs,iR.drop (k*4+1)=.bool (kF k)::xs:=by
  cases hd:iR.drop (k*4+1)with
  | nil=>rw [hd]at h1;cases h1
  | cons x xs=>
   rw [hd]at h1;simp at h1;exact⟨xs,by rw [h1]⟩
 obtain⟨xs,h2⟩:=h2;simp only [ldV,aG,hb];simp [aS,←List.map_drop,h2]
theorem aJp{x:aK}(hx:x.d.li.length≤64):Kf tab.get Ie [.a (x.row.map .f)] (vb false):=by
 refine OB aNS rfl fun H Q hQ=>?_
 refine kw_sr ?_;simp;obtain⟨K,hK⟩:∃ K:Heap,K=H++[.box (x.row.map .f) 0]:=⟨_,rfl⟩;have hb:K[H.length]?=some (.box (x.row.map .f) 0):=by rw [hK];simp
 rw [←hK];have l6:ldV K none (.c (.ptr H.length 6 0))=some (.c (.f (sl x.tg (ints x.d.li)))):=by simp [ldV,hb,aG,aS,aK.row]
 have l7:ldV K none (.c (.ptr H.length 7 0))=some (.c (.f (.str zi))):=by simp [ldV,hb,aG,aS,aK.row]
 have hs:zi.size=0:=rfl;refine kw_sr ?_;simp [l6,l7,-aC,show¬ (64:Int)<x.d.li.length by omega,hs]
 refine aQ (hQ _ _ ?_);simp;exact⟨_,hK⟩
theorem QM(g:Tg)(l:List aK)(hl:l.length≤9223372036854775807)(h:∀ x ∈ l,x.d.li.length≤64) :
  Km.Pure tab.get Nh [.c (.f (sl g (aB l))),.c (.f (.fn Ie []))]=Eq (vb false):=by
 have:=(yc aJA (Dk aJy l aK.row (fun r=>.a (r.row.map .f)) (fun _=>false) g Ie [] hl
  (fun j hj H=>nM (fO l) (nH hj)) (fun p hp=>aJp (h p hp)))).eq
 have e:l.any (fun _=>false)=false:=by simp
 rw [e]at this;exact this
set_option maxHeartbeats 1000000 in
theorem PO(g:Tg){r:List aK}(hG:Good (dat r))(hl:r.length≤64):∃ e:Int,(e=0∨e=1)∧Km.Pure tab.get yx [.c (.f (sl g (aB r))),.c (.f .au)]=Eq (vi e):=by
 obtain⟨rr,⟨e,he,rfl⟩,hp⟩:∃ rr,(∃ e:Int,(e=0∨e=1)∧rr=vi e)∧Km.Pure tab.get yx [.c (.f (sl g (aB r))),.c (.f .au)] rr:=by
  have hab:=QM g r (by omega) (fun x hx=>by
   obtain⟨i,hi,rfl⟩:=b7 hx;have:=(hG.at_ i (by simpa using hi)).ok.1
   simp at this
   omega)
  have hwf:=sO g hG hl;refine dY aNT rfl fun Q hQ=>?_
  refine kw_sr ?_;simp;refine kw_sr ?_;simp;refine kw_seq (kw_sr ?_);simp [show¬ (64:Int)<r.length by omega,hab]
  refine bQ (by simp) ?_
  refine kw_seq (kw_sr ?_);have hn0:∀ H,bV H (.f .au)=some 0:=fun _=>rfl
  simp [hwf,hn0];refine bQ (by simp) ?_
  refine kw_seq (kw_sr ?_);simp [hn0];refine qU 0 (fun j t K=>K=[]∧t.g 0=.c (.f (sl g (aB r)))∧t.g 1=.c (.f .au)) (by omega) (by decide) (by decide) (by simp) (by simp) ⟨rfl,by simp,by simp⟩ (fun j t H hj=>absurd hj (by omega)) ?_
  rintro t K ⟨rfl,g0,g1⟩ ha hb;have hsl:iR.length=76:=by decide
  refine kw_sr ?_;simp [rP,hsl];refine kw_seq (kw_sr ?_);simp [g0];refine qU r.length (fun j t K=>K[0]?=some (.box (iR.map .f) 0)∧t.g 1=.c (.f .au)∧t.g 8=.c (.ptr 0 0 0)∧t.g 38=.c (.f (sl g (aB r)))) (by omega) (by decide) (by decide) (by simp) (by simp) ⟨rfl,by simp [g1],by simp,by simp⟩ ?_ ?_
  ·rintro i t K hi ⟨h0,g1,g8,g38⟩ ha hb nx;have hA:=hG.at_ i (by simpa using hi)
   obtain⟨x,hx⟩:∃ x,x=r[i]:=⟨_,rfl⟩;have hxd:(dat r)[i]'(by simpa using hi)=x.d:=by rw [hx];simp
   rw [hxd]at hA;have hk:=hA.ok.2.k;have oH:=hA.ok.2.cal;obtain⟨k,hkk⟩:∃ k:Nat,x.d.k=k:=⟨x.d.k.toNat,by omega⟩
   have aIH:k<19:=by omega
   have hr8:x.row.length=8:=rfl;refine aN (kw_sr ?_);simp [ha,g38,gX hi hl,nO hi,←hx,hr8];obtain⟨J,hJ⟩:∃ J:Heap,J=K++[.box (x.row.map .f) 0]:=⟨_,rfl⟩;have j0:J[0]?=some (.box (iR.map .f) 0):=by rw [hJ,ae (ay h0)];exact h0
   have jx:J[K.length]?=some (.box (x.row.map .f) 0):=by rw [hJ];simp
   rw [←hJ];obtain⟨e0,e1,-,-,-,-,-,-⟩:=zZ jx
   have hix:∀ H,aO H 4 (some 19) (.c (.ptr 0 0 0)) (vi x.d.k)=some (.c (.ptr 0 (k*4) 0)):=fun H=>by
    rw [hkk,OC (by omega) (by omega)];simp
   have lc:=aIh j0 aIH;refine kw_sr ?_;cases hsc:kF k
   ·rw [hsc]at lc;simp [g1,g8,e0,e1,hix,lc,-aC];refine ah (by simp) (aW (aF ?_))
    exact nx _ _ ⟨j0,by simp [g1],by simp [g8],by simp [g38]⟩ (by simp [ha]) (by simp [hb])
   ·rw [hsc]at lc;simp [g1,g8,e0,e1,hix,lc,-aC,oH.1,hn0];refine ak (by simp) (kw_sr ?_)
    simp;refine aQ (hQ _ _ _ ⟨1,.inr rfl,rfl⟩ ?_);simp
  ·rintro t K ⟨h0,g1,g8,g38⟩ ha hb;refine kw_sr ?_;simp;refine aQ (hQ _ _ _ ⟨0,.inl rfl,rfl⟩ ?_);simp
 exact⟨e,he,hp.eq⟩
end
section
abbrev Ej:V:=.a fC
section
variable{s:bI}(hs:Km.Pure tab.get iq [s.v]=Eq (vb false))
include hs
theorem UF{e:Int}(he:e=0∨e=1)(hv:Km.Pure tab.get yx [.c (.f (sl s.rg (aB s.ru))),.c (.f .au)]=Eq (vi e))(hz:s.zo.size≤32)(hm:s.mv.length≤64) :
  Km.Pure tab.get AY [s.v,.c (.f .au)]=Eq (vi 1):=Km.Pure.eq (by
 refine bZ aJE rfl fun Q hQ=>?_
 refine kw_sr ?_;simp;obtain⟨K,hK⟩:∃ K:Heap,K=[.box (s.row.map .f) 0]:=⟨_,rfl⟩;have b0:K[0]?=some (.box (s.row.map .f) 0):=by rw [hK];rfl
 rw [←hK];clear hK;obtain⟨e0,-,-,e3,-,-,e6,e7⟩:=jU b0;refine kw_sr ?_;simp [e0,-aC,hv];refine kw_seq (aN (kw_sr ?_));rcases he with rfl | rfl
 ·simp [e3,e6,-aC,show¬ (32:Int)<s.zo.size by omega,show¬ (64:Int)<s.mv.length by omega]
  refine ah (by simp) (kw_sr ?_)
  simp [e7,-aC,hs];refine ak (by simp) (kw_sr ?_)
  simp;refine aQ (hQ _ _ ?_);simp
 ·simp [e3,e6,-aC,show¬ (32:Int)<s.zo.size by omega,show¬ (64:Int)<s.mv.length by omega]
  refine ah (by simp) (kw_sr ?_)
  simp;refine ak (by simp) (kw_sr ?_)
  simp;refine aQ (hQ _ _ ?_)
  simp)
omit hs in
theorem axc(hv:Km.Pure tab.get AY [s.v,.c (.f .au)]=Eq (vi 1)):Km.Pure tab.get Nq [s.v,.c (.f .au),.c (.f .au)]=Eq (.t [.a [.f .au],vi 1]):=Km.Pure.eq (by
 refine bZ aJJ rfl fun Q hQ=>?_
 refine kw_sr ?_;simp;obtain⟨K,hK⟩:∃ K:Heap,K=[.box (s.row.map .f) 0,.box [.f .au] 0]:=⟨_,rfl⟩;have b0:K[0]?=some (.box (s.row.map .f) 0):=by rw [hK];rfl
 have b1:K[1]?=some (.box [.f .au] 0):=by rw [hK];rfl
 rw [←hK];clear hK;obtain⟨-,-,-,-,-,-,-,e7⟩:=jU b0;refine kw_seq (kw_sr ?_);simp [e7,-aC,hv];refine ak (by simp) (kw_sr ?_)
 simp [stC,b1,over];refine aQ (hQ _ _ ?_);have hl:=ay b1;simp [ldV,aG,aS,ap hl]
 trace_state)
theorem aLM{z:ZD}(hc:z.c<3)(d:Int):Km.Pure tab.get Np [s.v,z.v,vi d]=Eq (.t [.c (.f .au),vi 1]):=Km.Pure.eq (by
 refine bZ aJH rfl fun Q hQ=>?_
 refine kw_sr ?_;simp;obtain⟨K,hK⟩:∃ K:Heap,K=[.box (s.row.map .f) 0,.box (z.row.map .f) 0]:=⟨_,rfl⟩;have b0:K[0]?=some (.box (s.row.map .f) 0):=by rw [hK];rfl
 rw [←hK];clear hK;obtain⟨-,-,-,-,-,-,-,e7⟩:=jU b0;refine kw_seq (kw_sr ?_);simp [e7,-aC,hs];refine ak (by simp) (kw_sr ?_)
 simp;refine aQ (hQ _ _ ?_)
 simp)
theorem Gv(m:bD):Km.Pure tab.get Nl [s.v,.a (m.row.map .f)]=Eq (.t [Ej,vi 1]):=Km.Pure.eq (by
 refine bZ aJG rfl fun Q hQ=>?_
 refine kw_sr ?_;simp;obtain⟨K,hK⟩:∃ K:Heap,K=[.box (s.row.map .f) 0,.box (m.row.map .f) 0,.box fC 0]:=⟨_,rfl⟩;have b0:K[0]?=some (.box (s.row.map .f) 0):=by rw [hK];rfl
 have b2:K[2]?=some (.box fC 0):=by rw [hK];rfl
 simp only [fC]at hK;rw [←hK];clear hK;obtain⟨-,-,-,-,-,-,-,e7⟩:=jU b0;refine kw_seq (kw_sr ?_);simp [e7,-aC,hs];refine ak (by simp) (kw_sr ?_)
 have st:stC K (.ptr 2 0 0) [.f .au,.f (fi 0),.f (fi 0),.f (.str ⟨#[]⟩),.f (fi 0),.f (fi 0),.f .au]=some (K.set 2 (.box fC 0)):=by simp [stC,b2,over,fC]
 simp [st,-bJ];obtain⟨K1,hK1⟩:∃ K1:Heap,K1=K.set 2 (.box fC 0):=⟨_,rfl⟩;have c2:K1[2]?=some (.box fC 0):=by rw [hK1];exact ap (ay b2)
 have l2:ldV K1 (some 7) (.c (.ptr 2 0 0))=some Ej:=by simp [ldV,c2,aG,aS,fC]
 rw [←hK1];refine aQ (hQ _ _ ⟨rfl,.t [Ej,vi 1],?_,?_⟩)
 ·simp [Km.results,bU,bC,l2,-aC]
 ·simp [exV,dB,bC,fC])
theorem UQ(d:Int):Km.Pure tab.get Nk [s.v,vi d]=Eq (.t [Ej,Ej,vi 1]):=Km.Pure.eq (by
 refine bZ aJF rfl fun Q hQ=>?_
 refine kw_sr ?_;simp;obtain⟨K,hK⟩:∃ K:Heap,K=[.box (s.row.map .f) 0,.box [cI d] 0,.box fC 0,.box fC 0]:=⟨_,rfl⟩;have b0:K[0]?=some (.box (s.row.map .f) 0):=by rw [hK];rfl
 have b2:K[2]?=some (.box fC 0):=by rw [hK];rfl
 have b3:K[3]?=some (.box fC 0):=by rw [hK];rfl
 simp only [fC]at hK;rw [←hK];clear hK;obtain⟨-,-,-,-,-,-,-,e7⟩:=jU b0;refine kw_seq (aN (kw_sr ?_));simp [e7,-aC,hs];refine ak (by simp) (kw_sr ?_)
 have st:stC K (.ptr 2 0 0) [.f .au,.f (fi 0),.f (fi 0),.f (.str ⟨#[]⟩),.f (fi 0),.f (fi 0),.f .au]=some (K.set 2 (.box fC 0)):=by simp [stC,b2,over,fC]
 obtain⟨K1,hK1⟩:∃ K1:Heap,K1=K.set 2 (.box fC 0):=⟨_,rfl⟩;rw [←hK1]at st;have c2:K1[2]?=some (.box fC 0):=by rw [hK1];exact ap (ay b2)
 have c3:K1[3]?=some (.box fC 0):=by rw [hK1,al (by decide)];exact b3
 have st2:stC K1 (.ptr 3 0 0) [.f .au,.f (fi 0),.f (fi 0),.f (.str ⟨#[]⟩),.f (fi 0),.f (fi 0),.f .au]=some (K1.set 3 (.box fC 0)):=by simp [stC,c3,over,fC]
 obtain⟨K2,hK2⟩:∃ K2:Heap,K2=K1.set 3 (.box fC 0):=⟨_,rfl⟩;rw [←hK2]at st2;have d3:K2[3]?=some (.box fC 0):=by rw [hK2];exact ap (ay c3)
 have d2:K2[2]?=some (.box fC 0):=by rw [hK2,al (by decide)];exact c2
 have l2:ldV K2 (some 7) (.c (.ptr 2 0 0))=some Ej:=by simp [ldV,d2,aG,aS,fC]
 have l3:ldV K2 (some 7) (.c (.ptr 3 0 0))=some Ej:=by simp [ldV,d3,aG,aS,fC]
 simp [st,st2,-bJ];refine aQ (hQ _ _ ⟨rfl,.t [Ej,Ej,vi 1],?_,?_⟩)
 ·simp [Km.results,bU,bC,l2,l3,-aC]
 ·simp [exV,dB,bC,fC])
theorem Xc:Km.Pure tab.get Xw [s.v]=Eq (.t [.c (.f .au),vi 1]):=Km.Pure.eq (by
 refine bZ aNL rfl fun Q hQ=>?_
 refine kw_sr ?_;simp;obtain⟨K,hK⟩:∃ K:Heap,K=[.box (s.row.map .f) 0]:=⟨_,rfl⟩;have b0:K[0]?=some (.box (s.row.map .f) 0):=by rw [hK];rfl
 rw [←hK];clear hK;obtain⟨-,-,-,-,-,-,-,e7⟩:=jU b0;refine kw_seq (kw_sr ?_);simp [e7,-aC,hs];refine ak (by simp) (kw_sr ?_)
 simp;refine aQ (hQ _ _ ?_)
 simp)
end
structure MC(c:C)(g:Tg)(mv:List bD)(P:Heap→Prop):Prop where
 ex:∀ K,P K→exC deep K c=some (sl g (aU mv))
 mark:∀ K,P K→P (mkC deep c K)∧(∀ i,i<4→(mkC deep c K)[i]?=K[i]?)∧(mkC deep c K).length=K.length
 app:∀ K L,P K→P (K++L)
theorem MC.val(g:Tg)(mv:List bD):MC (.f (sl g (aU mv))) g mv (fun _=>True):=⟨fun K _=>by simp [deep],fun K _=>by simp,fun _ _ _=>trivial⟩
def mvB(mv:List bD)(K:Heap):Prop:=∃ fl,K[4]?=some (.box ((aU mv).flatten.map .f) fl)
theorem Cb(mv:List bD):(aU mv).flatten.length=mv.length*5:=by
 induction mv with
 | nil=>rfl
 | cons m mv ih=>simp only [aU,ax,List.flatten_cons,aL,List.length_cons]at ih ⊢;rw [ih,show m.row.length=5 from rfl];omega
theorem MC.box{mv:List bD}(hm:mv≠[]):MC (.sl 4 0 mv.length mv.length 0 5) .fs mv (mvB mv):=by
 have hfl:=Cb mv;refine⟨fun K ⟨fl,hk⟩=>?_,fun K ⟨fl,hk⟩=>?_,fun K L ⟨fl,hk⟩=>⟨fl,by rw [ae (ay hk)];exact hk⟩⟩
 ·show exC (63+1) K _=_
  rw [sZ,hk];have e:((((aU mv).flatten.map C.f).drop 0).take (mv.length*5))=(aU mv).flatten.map .f:=by rw [cG,bi (by rw [bL,hfl];exact aq _)]
  have hne:¬ (aU mv).isEmpty=true:=by simpa [aU]using hm
  simp only [e,yR,bz];rw [if_pos (by rw [bL,hfl];omega),sl,if_neg hne,EF]
 ·have e:mkC deep (.sl 4 0 mv.length mv.length 0 5) K=K.set 4 (.box ((aU mv).flatten.map .f) (Nat.max fl (0+mv.length*5))):=by
   simp only [deep,Om,hk];rw [vJ];intro x hx;have hx:=cX (cN hx);obtain⟨m,_,rfl⟩:=ci.1 hx;exact⟨_,rfl⟩
  rw [e];exact⟨⟨_,ap (ay hk)⟩,fun i hi=>al (by omega),by simp⟩
end
section
theorem awh{s:bI}(hs:Km.Pure tab.get iq [s.v]=Eq (vb false)){c:C}{P:Heap→Prop}(h:MC c s.mg s.mv P)(d:FC){z:ZD}(hc:z.c<3)(K:Heap)(hl:4≤K.length)(hk:P K) :
  ∃ K',Ev tab.get (.fn Fj) [.a (s.cel c),.a [.f d],z.v,.a [cI 0,cI 3]] K (.t [.c (.f .au),vi 1]) K'∧P K'∧(∀ i,i<4→K'[i]?=K[i]?)∧4≤K'.length:=by
 suffices hh:∃ r K',Ev tab.get (.fn Fj) [.a (s.cel c),.a [.f d],z.v,.a [cI 0,cI 3]] K r K'∧(r=.t [.c (.f .au),vi 1]∧P K'∧(∀ i,i<4→K'[i]?=K[i]?)∧4≤K'.length) by
  obtain⟨r,K',h1,rfl,h2⟩:=hh;exact⟨K',h1,h2⟩
 refine He aJI rfl fun Q hQ=>?_
 refine kw_sr ?_;simp;obtain⟨K1,hK1⟩:∃ K1:Heap,K1=K++[.box (s.cel c) 0,.box [.f d] 0,.box (z.row.map .f) 0,.box [cI 0,cI 3] 0]:=⟨_,rfl⟩;have k1:P K1:=by rw [hK1];exact h.app _ _ hk
 have b0:K1[K.length]?=some (.box (s.cel c) 0):=by rw [hK1];simp
 have l0:ldV K1 (some 7) (.c (.ptr K.length 0 0))=some (.a (s.cel c)):=by simp [ldV,b0,aG,aS,bI.cel]
 have low:∀ i,i<4→K1[i]?=K[i]?:=fun i hi=>by rw [hK1,ae (by omega)]
 have hl1:4≤K1.length:=by rw [hK1];simp
 rw [←hK1];obtain⟨hm1,hm2,hm3⟩:=h.mark K1 k1;have hex:=h.ex K1 k1;obtain⟨K2,hK2⟩:∃ K2:Heap,K2=mkC deep c K1:=⟨_,rfl⟩;rw [←hK2]at hm1 hm2 hm3;have hsv:Km.Pure tab.get iq [.a [.f (sl s.rg (aB s.ru)),cI s.mi,cI s.le,.f (.str s.zo),cI s.gap,cI s.fold,.f (sl s.mg (aU s.mv))]]=Eq (vb false):=hs;refine kw_seq (aN (kw_sr ?_));simp [l0,-aC,bI.cel,hex,←hK2,hsv];refine ak (by simp) (kw_sr ?_)
 simp;refine aQ (hQ _ _ _ rfl (by simp [Km.results,bU,bC]) ⟨rfl,hm1,fun i hi=>by rw [hm2 i hi,low i hi],by rw [hm3];exact hl1⟩)
def WI:FC:=.fs [.fs [.au,.int .i64 0,.int .i64 1,.fs [.int .i64 0] 1] 1] 1
theorem WH:Km.Pure tab.get aEf []=Eq (.a [.f WI]):=Km.Pure.eq (aJ (m:=60) (d:=10) (by kernel_rfl))
theorem KI:Km.Pure tab.get yx [.c (.f .au),.c (.f .au)]=Eq (vi 1):=Km.Pure.eq (aJ (m:=200) (d:=20) (by kernel_rfl))
theorem Vf:∃ F,Km.Pure tab.get Ih [.c (.f .au),vi 0]=Eq (.t [.c (.f F),vi 1]):=⟨.au,Km.Pure.eq (aJ (m:=200) (d:=20) (by kernel_rfl))⟩
theorem PE{s:bI}(hr:s.ru=[])(hg:s.rg=.nil):Km.Pure tab.get iq [s.v]=Eq (vb false):=Km.Pure.eq (by
 obtain⟨F,hpart⟩:=Vf;refine bZ Xr rfl fun Q hQ=>?_
 refine kw_sr ?_;simp;obtain⟨K,hK⟩:∃ K:Heap,K=[.box (s.row.map .f) 0]:=⟨_,rfl⟩;have b0:K[0]?=some (.box (s.row.map .f) 0):=by rw [hK];rfl
 rw [←hK];clear hK;obtain⟨e0,-,-,-,-,-,-,e7⟩:=jU b0;rw [hr,hg]at e0;have e0:ldV K none (.c (.ptr 0 0 0))=some (.c (.f .au)):=e0;refine kw_seq (kw_sr ?_);simp [e0,-aC,hpart];refine kw_sr ?_;simp;refine ak (by simp) (kw_sr ?_)
 simp;refine aQ (hQ _ _ ?_)
 simp)
structure RjI(s:bI)(z:ZD)(c:C)(P:Heap→Prop)(K:Heap):Prop where
 s:K[2]?=some (.box (s.cel c) 0)
 z:K[3]?=some (.box (z.row.map .f) 0)
 p:P K
 l:4≤K.length
theorem RjI.mk'{s:bI}{z:ZD}{c:C}{P:Heap→Prop}{g:Tg}{mv:List bD}(h:MC c g mv P){K:Heap}(k:RjI s z c P K):RjI s z c P (mkC deep c K):=by
 obtain⟨h1,h2,h3⟩:=h.mark K k.p;exact⟨by rw [h2 2 (by decide)];exact k.s,by rw [h2 3 (by decide)];exact k.z,h1,by rw [h3];exact k.l⟩
theorem RjI.app{s:bI}{z:ZD}{c:C}{P:Heap→Prop}{g:Tg}{mv:List bD}(h:MC c g mv P){K:Heap}(k:RjI s z c P K)(L:Heap):RjI s z c P (K++L):=
 ⟨by rw [ae (ay k.s)];exact k.s,by rw [ae (ay k.z)];exact k.z,h.app _ _ k.p,by simp;have:=k.l;omega⟩
set_option maxHeartbeats 1000000 in
theorem qG{s:bI}{z:ZD}(hc:z.c<3){c:C}{P:Heap→Prop}(h:MC c s.mg s.mv P)(hs:Km.Pure tab.get iq [s.v]=Eq (vb false))
  {e:Int} (he:e=0∨e=1) (hv:Km.Pure tab.get yx [.c (.f (sl s.rg (aB s.ru))),.c (.f .au)]=Eq (vi e)) (hz:s.zo.size≤32) (hm:s.mv.length≤64)
  {Q:Option ACode→St→Prop} (hQ:∀ j st,yK [.tmp (Km.P.nat 6)] (vb true) st→Q j st) (t:T) (K:Heap) (hK:RjI s z c P K) (g7:t.g 7=vb true) (g8:t.g 8=.c (.ptr 2 0 0)) (g9:t.g 9=.c (.ptr 3 0 0)) :
  WP tab.get vZ none [.code Bz] ⟨t,[],K⟩ Q:=by
 have hval:=UF hs he hv hz hm;have aMP:=axc hval;have hon:=aLM hs hc 3;have hov:=Gv hs ⟨1,true,0,0,0⟩;have hsp:=UQ hs 2;have hby:=Xc hs
 have ld7:∀ {K:Heap},RjI s z c P K→ldV K (some 7) (.c (.ptr 2 0 0))=some (.a [.f (sl s.rg (aB s.ru)),cI s.mi,cI s.le,.f (.str s.zo),cI s.gap,cI s.fold,c]):=fun k=>by
  have:=k.s;simp [ldV,this,aG,aS,bI.cel]
 have ld8:∀ {K:Heap},RjI s z c P K→ldV K (some 8) (.c (.ptr 3 0 0))=some z.v:=fun k=>uY k.z hc
 have ex:∀ {K:Heap},RjI s z c P K→exC deep K c=some (sl s.mg (aU s.mv)):=fun k=>h.ex _ k.p
 simp only [bI.v,bI.row,bD.row,ax,aE]at aMP hon hov hsp hby hval
 have s59:∀(t:T) (K:Heap),RjI s z c P K→t.g 7=vb true→t.g 8=.c (.ptr 2 0 0)→t.g 12=vi 1→t.g 13=.c (.f .au)→t.g 14=vi 1→t.g 15=.c (.f .au)→t.g 16=vi 1→t.g 18=vi 1→t.g 21=vi 1→t.g 22=.c (.f .au)→t.g 23=vi 1 →
   WP tab.get vZ none [.code JH] ⟨t,[],K⟩ Q:=by
  intro t K hK g7 g8 g12 g13 g14 g15 g16 g18 g21 g22 g23;have hn0:∀ H,bV H (.f .au)=some 0:=fun _=>rfl
  refine kw_sr ?_;have w0:IntKind.i64.wrap 0=0:=wrap64 (by decide) (by decide)
  simp [g7,g8,ld7 hK,ex hK,-aC,hval,g12,g13,g14,g15,g16,g18,g21,g22,g23,hn0];refine aQ (hQ _ _ ?_);simp [w0]
 have s57:∀(t:T) (K:Heap),RjI s z c P K→t.g 7=vb true→t.g 8=.c (.ptr 2 0 0)→t.g 12=vi 1→t.g 13=.c (.f .au)→t.g 14=vi 1→t.g 15=.c (.f .au)→t.g 16=vi 1→t.g 18=vi 1→t.g 21=vi 1 →
   WP tab.get vZ none [.code JI] ⟨t,[],K⟩ Q:=by
  intro t K hK g7 g8 g12 g13 g14 g15 g16 g18 g21;refine kw_sr ?_;simp [g8,ld7 hK,ex hK,-aC,hby];exact s59 _ _ (hK.mk' h) (by simp [g7]) (by simp [g8]) (by simp [g12]) (by simp [g13]) (by simp [g14]) (by simp [g15]) (by simp [g16]) (by simp [g18]) (by simp [g21]) (by simp) (by simp)
 have s55:∀(t:T) (K:Heap),RjI s z c P K→t.g 7=vb true→t.g 8=.c (.ptr 2 0 0)→t.g 12=vi 1→t.g 13=.c (.f .au)→t.g 14=vi 1→t.g 15=.c (.f .au)→t.g 16=vi 1→t.g 18=vi 1 →
   WP tab.get vZ none [.code JJ] ⟨t,[],K⟩ Q:=by
  intro t K hK g7 g8 g12 g13 g14 g15 g16 g18;refine kw_sr ?_;simp [g8,ld7 hK,ex hK,-aC,hsp,fC];exact s57 _ _ ((hK.mk' h).app h _) (by simp [g7]) (by simp [g8]) (by simp [g12]) (by simp [g13]) (by simp [g14]) (by simp [g15]) (by simp [g16]) (by simp [g18]) (by simp)
 refine kw_sr ?_;simp [g8,ld7 hK,ex hK,-aC,aMP];have k2:=(hK.mk' h).app h [.box [.f .au] 0];generalize mkC deep c K++[.box [.f .au] 0]=K2 at k2 ⊢;refine kw_sr ?_;simp [g8,g9,ld7 k2,ld8 k2,ex k2,-aC,hon];have k3:=k2.mk' h;generalize mkC deep c K2=K3 at k3 ⊢;obtain⟨K4,hli,p4,low4,l4⟩:=awh hs h WI hc K3 k3.l k3.p;have k4:RjI s z c P K4:=⟨by rw [low4 2 (by decide)];exact k3.s,by rw [low4 3 (by decide)];exact k3.z,p4,l4⟩
 have hle:=hli.eq;simp only [bI.cel]at hle;refine kw_sr ?_;simp [g8,g9,ld7 k3,ld8 k3,-aC,WH,hle];refine kw_sr ?_;simp [g8,ld7 k4,ex k4,-aC,hov,fC];exact s55 _ _ ((k4.mk' h).app h _) (by simp [g7]) (by simp [g8]) (by simp) (by simp) (by simp) (by simp) (by simp) (by simp)
theorem unsound{s:bI}(h:¬ ((0≤s.mi∧s.mi≤1439)∧(1≤s.le∧s.le≤10080)∧(0≤s.gap∧s.gap≤2)∧(0≤s.fold∧s.fold≤2)∧(1≤(s.zo.size:Int)∧(s.zo.size:Int)≤32))):nP s=false:=by
 rw [Bool.eq_false_iff];intro hb;simp only [nP,headB,Bool.and_eq_true,decide_eq_true_eq]at hb;exact h ⟨hb.1.1.1.1.1.1,hb.1.1.1.1.1.2,hb.1.1.1.1.2,hb.1.1.1.2,hb.1.1.2⟩
theorem FQ{s:bI}(h:iC none s.mv=false):nP s=false:=by
 unfold nP;rw [h,Bool.and_false]
set_option maxHeartbeats 1000000 in
theorem Ky(sane:Km.Pure tab.get Iq [] (vb true)){x:xC}(hx:x.OK){y:jY}(hy:y.OK){sp:Nat}(hsp:sp<256) :
  Km.Pure tab.get vZ [.a (x.row.map .f),.a (y.row.map .f),.c (.f (u8 sp))] (vb true):=by
 obtain⟨s,hs,hsm⟩:=Qd (jW:=0) (.inl rfl) hx;rw [show((0:Nat):Int)=0 from rfl]at hsm
 obtain⟨z,o,hz,hzm⟩:=Qe hy;have hsn:=sane.eq;have hc:=hz.c;have hz8:=ZD.N8 hc;obtain⟨q,q1,rq⟩:=yL hsp (m:=8) (by decide)
 obtain⟨r,r1,rr⟩:=jO sp (m:=8) (by decide)
 have hq:(q:Int)≤31:=by omega
 obtain⟨e,he,hrv⟩:=PO s.rg hs.ok.ru hs.ok.rl;have hml:=hs.ml;have hzo:=hs.ok.zo;refine bZ aOr rfl fun Q hQ=>?_
 refine kw_sr ?_;simp;refine kw_sr ?_;simp [hsn];obtain⟨K0,hK0⟩:∃ K0:Heap,K0=[.box (x.row.map .f) 0,.box (y.row.map .f) 0]:=⟨_,rfl⟩;have a0:K0[0]?=some (.box (x.row.map .f) 0):=by rw [hK0];rfl
 have a1:K0[1]?=some (.box (y.row.map .f) 0):=by rw [hK0];rfl
 have hl0:K0.length=2:=by rw [hK0];rfl
 rw [←hK0];have lx:ldV K0 (some 6) (.c (.ptr 0 0 0))=some (.a (x.row.map .f)):=by simp [ldV,a0,aG,aS,xC.row]
 have hs7:s.row.length=7:=rfl;refine kw_sr ?_;simp [lx,-aC,hsm,hs7,hl0];obtain⟨K1,hK1⟩:∃ K1:Heap,K1=K0++[.box (s.row.map .f) 0]:=⟨_,rfl⟩;have c1:K1[1]?=some (.box (y.row.map .f) 0):=by rw [hK1,ae (ay a1)];exact a1
 have c2:K1[2]?=some (.box (s.row.map .f) 0):=by rw [hK1,←hl0];simp
 have hl1:K1.length=3:=by rw [hK1];simp [hl0]
 rw [←hK1];have ly:ldV K1 (some 14) (.c (.ptr 1 0 0))=some (.a (y.row.map .f)):=by simp [ldV,c1,aG,aS,jY.row]
 refine kw_sr ?_;simp [ly,-aC,hzm,hz8,hl1];obtain⟨K2,hK2⟩:∃ K2:Heap,K2=K1++[.box (z.row.map .f) 0]:=⟨_,rfl⟩;have d2:K2[2]?=some (.box (s.row.map .f) 0):=by rw [hK2,ae (ay c2)];exact c2
 have d3:K2[3]?=some (.box (z.row.map .f) 0):=by rw [hK2,←hl1];simp
 have hl2:K2.length=4:=by rw [hK2];simp [hl1]
 rw [←hK2];clear hK2 hK1 hK0;refine kw_sr ?_;simp [rq,qA q (by omega)]
 refine kw_seq (kw_sr ?_);simp [rr]
 have one:∀(t:T) (f:Nat) (s':bI) (xf:FC),s'.mg=s.mg→s'.mv=s.mv→stC K2 (.ptr 2 f 0) [.f xf]=some (K2.set 2 (.box (s'.row.map .f) 0)) →
   Km.Pure tab.get iq [s'.v]=Eq (vb false)→(∃ e:Int,(e=0∨e=1)∧Km.Pure tab.get yx [.c (.f (sl s'.rg (aB s'.ru))),.c (.f .au)]=Eq (vi e))→s'.zo.size≤32→t.g 7=vb true→t.g 8=.c (.ptr 2 0 0)→t.g 9=.c (.ptr 3 0 0) →
   WP tab.get vZ none [.inBlock 0,.code Bz] ⟨t,[],K2.set 2 (.box (s'.row.map .f) 0)⟩ Q:=by
  rintro t f s' xf hmg hmv hst hns ⟨e,he,hrv⟩ hzo g7 g8 g9;refine aF ?_;have hMC:=MC.val s'.mg s'.mv;exact qG hc hMC hns he hrv hzo (by rw [hmv];omega) hQ t _ ⟨ap (ay d2),by rw [al (by decide)];exact d3,trivial,by simp [hl2]⟩ g7 g8 g9
 have uns:∀ s':bI,s'.ru=s.ru→s'.mv=s.mv→s'.zo.size≤32→nP s'=false→Km.Pure tab.get iq [s'.v]=Eq (vb false):=by
  intro s' hru hmv hzo hb;have:=zn (s:=s') (by rw [hru];exact hs.ok.ru) (by rw [hru];exact hs.ok.rl) (by rw [hmv];omega) (by omega)
  rw [this,hb]
 have hb:=hs.ok.sound
 have hng:unV .neg (vi (q:Int))=some (vi (-(q:Int))):=by
  show some (V.c (.f (.int .i64 (IntKind.i64.wrap (0-(q:Int))))))=_
  rw [wrap64 (by omega) (by omega),Int.zero_sub]
 refine aN (kw_sr ?_);rcases(show r=0∨r=1∨r=2∨r=3∨r=4∨r=5∨r=6∨r=7 by omega)with rfl | rfl | rfl | rfl | rfl | rfl | rfl | rfl
 ·simp;refine ak (by simp) (kw_region (.inl rfl) ?_)
  have st:stC K2 (.ptr 2 1 0) [.f (fi (1440+(q:Int)))]=some (K2.set 2 (.box ((bI.row ⟨s.rg,s.ru,1440+(q:Int),s.le,s.zo,s.gap,s.fold,s.mg,s.mv⟩).map .f) 0)):=by simp [stC,d2,over,bI.row,sl,aB,Tg.fc]
  simp [wrap64 (n:=1440+(q:Int)) (by omega) (by omega),st,-bJ]
  exact one _ 1 ⟨s.rg,s.ru,1440+(q:Int),s.le,s.zo,s.gap,s.fold,s.mg,s.mv⟩ (fi (1440+(q:Int))) rfl rfl st (uns ⟨s.rg,s.ru,1440+(q:Int),s.le,s.zo,s.gap,s.fold,s.mg,s.mv⟩ rfl rfl (by dsimp only;omega) (unsound fun hb=>by dsimp only at hb;omega)) ⟨e,he,hrv⟩ (by dsimp only;omega) (by simp) (by simp) (by simp)
 ·simp;refine ah (by simp) (kw_sr ?_)
  simp;refine ak (by simp) (kw_region (.inl rfl) ?_)
  have st:stC K2 (.ptr 2 2 0) [.f (fi (-(q:Int)))]=some (K2.set 2 (.box ((bI.row ⟨s.rg,s.ru,s.mi,-(q:Int),s.zo,s.gap,s.fold,s.mg,s.mv⟩).map .f) 0)):=by simp [stC,d2,over,bI.row,sl,aB,Tg.fc]
  simp [hng,st,-bJ];exact one _ 2 ⟨s.rg,s.ru,s.mi,-(q:Int),s.zo,s.gap,s.fold,s.mg,s.mv⟩ (fi (-(q:Int))) rfl rfl st (uns ⟨s.rg,s.ru,s.mi,-(q:Int),s.zo,s.gap,s.fold,s.mg,s.mv⟩ rfl rfl (by dsimp only;omega) (unsound fun hb=>by dsimp only at hb;omega)) ⟨e,he,hrv⟩ (by dsimp only;omega) (by simp) (by simp) (by simp)
 ·simp;refine ah (by simp) (kw_sr ?_)
  simp;refine ah (by simp) (kw_sr ?_)
  simp;refine ak (by simp) (kw_region (.inl rfl) ?_)
  have st:stC K2 (.ptr 2 4 0) [.f (fi (3+(q:Int)))]=some (K2.set 2 (.box ((bI.row ⟨s.rg,s.ru,s.mi,s.le,s.zo,3+(q:Int),s.fold,s.mg,s.mv⟩).map .f) 0)):=by simp [stC,d2,over,bI.row,sl,aB,Tg.fc]
  simp [wrap64 (n:=3+(q:Int)) (by omega) (by omega),st,-bJ]
  exact one _ 4 ⟨s.rg,s.ru,s.mi,s.le,s.zo,3+(q:Int),s.fold,s.mg,s.mv⟩ (fi (3+(q:Int))) rfl rfl st (uns ⟨s.rg,s.ru,s.mi,s.le,s.zo,3+(q:Int),s.fold,s.mg,s.mv⟩ rfl rfl (by dsimp only;omega) (unsound fun hb=>by dsimp only at hb;omega)) ⟨e,he,hrv⟩ (by dsimp only;omega) (by simp) (by simp) (by simp)
 ·simp;refine ah (by simp) (kw_sr ?_)
  simp;refine ah (by simp) (kw_sr ?_)
  simp;refine ah (by simp) (kw_sr ?_)
  simp;refine ak (by simp) (kw_region (.inl rfl) ?_)
  have st:stC K2 (.ptr 2 5 0) [.f (fi (-1-(q:Int)))]=some (K2.set 2 (.box ((bI.row ⟨s.rg,s.ru,s.mi,s.le,s.zo,s.gap,-1-(q:Int),s.mg,s.mv⟩).map .f) 0)):=by simp [stC,d2,over,bI.row,sl,aB,Tg.fc]
  simp [wrap64 (n:=-1-(q:Int)) (by omega) (by omega),st,-bJ]
  exact one _ 5 ⟨s.rg,s.ru,s.mi,s.le,s.zo,s.gap,-1-(q:Int),s.mg,s.mv⟩ (fi (-1-(q:Int))) rfl rfl st (uns ⟨s.rg,s.ru,s.mi,s.le,s.zo,s.gap,-1-(q:Int),s.mg,s.mv⟩ rfl rfl (by dsimp only;omega) (unsound fun hb=>by dsimp only at hb;omega)) ⟨e,he,hrv⟩ (by dsimp only;omega) (by simp) (by simp) (by simp)
 ·simp;refine ah (by simp) (kw_sr ?_)
  simp;refine ah (by simp) (kw_sr ?_)
  simp;refine ah (by simp) (kw_sr ?_)
  simp;refine ah (by simp) (kw_sr ?_)
  simp;refine ak (by simp) (kw_region (.inl rfl) ?_)
  have st:stC K2 (.ptr 2 3 0) [.f (.str ⟨#[]⟩)]=some (K2.set 2 (.box ((bI.row ⟨s.rg,s.ru,s.mi,s.le,⟨#[]⟩,s.gap,s.fold,s.mg,s.mv⟩).map .f) 0)):=by simp [stC,d2,over,bI.row,sl,aB,Tg.fc]
  simp [st,-bJ];exact one _ 3 ⟨s.rg,s.ru,s.mi,s.le,⟨#[]⟩,s.gap,s.fold,s.mg,s.mv⟩ (.str ⟨#[]⟩) rfl rfl st (uns ⟨s.rg,s.ru,s.mi,s.le,⟨#[]⟩,s.gap,s.fold,s.mg,s.mv⟩ rfl rfl (show(ByteArray.mk #[]).size≤32 by decide) (unsound fun hb=>by have:(ByteArray.mk #[]).size=0:=rfl;dsimp only at hb;omega)) ⟨e,he,hrv⟩ (show(ByteArray.mk #[]).size≤32 by decide) (by simp) (by simp) (by simp)
 ·simp;refine ah (by simp) (kw_sr ?_)
  simp;refine ah (by simp) (kw_sr ?_)
  simp;refine ah (by simp) (kw_sr ?_)
  simp;refine ah (by simp) (kw_sr ?_)
  simp;refine ah (by simp) (kw_sr ?_)
  simp;refine ak (by simp) (kw_region (.inl rfl) ?_)
  have st:stC K2 (.ptr 2 0 0) [.f .au]=some (K2.set 2 (.box ((bI.row ⟨.nil,[],s.mi,s.le,s.zo,s.gap,s.fold,s.mg,s.mv⟩).map .f) 0)):=by simp [stC,d2,over,bI.row,sl,aB,Tg.fc]
  simp [st,-bJ];exact one _ 0 ⟨.nil,[],s.mi,s.le,s.zo,s.gap,s.fold,s.mg,s.mv⟩ .au rfl rfl st (PE rfl rfl) ⟨1,.inr rfl,KI⟩ (by dsimp only;omega) (by simp) (by simp) (by simp)
 ·simp;refine ah (by simp) (kw_sr ?_)
  simp;refine ah (by simp) (kw_sr ?_)
  simp;refine ah (by simp) (kw_sr ?_)
  simp;refine ah (by simp) (kw_sr ?_)
  simp;refine ah (by simp) (kw_sr ?_)
  simp;refine ah (by simp) (kw_sr ?_)
  simp;refine ak (by simp) (kw_region (.inl rfl) ?_)
  obtain⟨mv,hmv⟩:∃ mv:List bD,mv=[⟨3,true,0,0,0⟩,⟨3,true,0,0,0⟩]:=⟨_,rfl⟩;obtain⟨K3,hK3⟩:∃ K3:Heap,K3=K2++[.box ((aU mv).flatten.map .f) 0]:=⟨_,rfl⟩;have eK:K2++[.box [.f (fi 3),.f (.bool true),.f (fi 0),.f (fi 0),.f (fi 0),.f (fi 3),.f (.bool true),.f (fi 0),.f (fi 0),.f (fi 0)] 0]=K3:=by rw [hK3,hmv];rfl
  have f2:K3[2]?=some (.box (s.row.map .f) 0):=by rw [hK3,ae (ay d2)];exact d2
  have f3:K3[3]?=some (.box (z.row.map .f) 0):=by rw [hK3,ae (ay d3)];exact d3
  have f4:K3[4]?=some (.box ((aU mv).flatten.map .f) 0):=by rw [hK3,←hl2];simp
  have hl3:K3.length=5:=by rw [hK3];simp [hl2]
  have hlm:mv.length=2:=by rw [hmv];rfl
  have st:stC K3 (.ptr 2 6 0) [.sl 4 0 2 2 0 5]=some (K3.set 2 (.box (s.cel (.sl 4 0 2 2 0 5)) 0)):=by simp [stC,f2,over,bI.row,bI.cel]
  have hMC:=MC.box (mv:=mv) (by rw [hmv];simp)
  rw [hlm]at hMC;simp [hl2,eK,st,-bJ];refine aF ?_
  exact qG (s:=⟨s.rg,s.ru,s.mi,s.le,s.zo,s.gap,s.fold,.fs,mv⟩) hc hMC (by
   have:=zn (s:=⟨s.rg,s.ru,s.mi,s.le,s.zo,s.gap,s.fold,.fs,mv⟩) hs.ok.ru hs.ok.rl (by dsimp only;omega) (by dsimp only;omega)
   rw [this,FQ (by rw [hmv];rfl)]) he hrv (by dsimp only;omega) (by dsimp only;omega) hQ _ _ ⟨ap (ay f2),by rw [al (by decide)];exact f3,⟨0,by rw [al (by decide)];exact f4⟩,by simp [hl3]⟩ (by simp) (by simp) (by simp)
 ·simp;refine ah (by simp) (kw_sr ?_)
  simp;refine ah (by simp) (kw_sr ?_)
  simp;refine ah (by simp) (kw_sr ?_)
  simp;refine ah (by simp) (kw_sr ?_)
  simp;refine ah (by simp) (kw_sr ?_)
  simp;refine ah (by simp) (kw_sr ?_)
  simp;refine ah (by simp) (kw_sr ?_)
  simp;refine ak (by simp) (kw_region (.inl rfl) ?_)
  obtain⟨mv,hmv⟩:∃ mv:List bD,mv=[⟨3,true,0,0,1+(q:Int)⟩]:=⟨_,rfl⟩;obtain⟨K3,hK3⟩:∃ K3:Heap,K3=K2++[.box ((aU mv).flatten.map .f) 0]:=⟨_,rfl⟩;have eK:K2++[.box [.f (fi 3),.f (.bool true),.f (fi 0),.f (fi 0),.f (fi (1+(q:Int)))] 0]=K3:=by rw [hK3,hmv];rfl
  have f2:K3[2]?=some (.box (s.row.map .f) 0):=by rw [hK3,ae (ay d2)];exact d2
  have f3:K3[3]?=some (.box (z.row.map .f) 0):=by rw [hK3,ae (ay d3)];exact d3
  have f4:K3[4]?=some (.box ((aU mv).flatten.map .f) 0):=by rw [hK3,←hl2];simp
  have hl3:K3.length=5:=by rw [hK3];simp [hl2]
  have hlm:mv.length=1:=by rw [hmv];rfl
  have st:stC K3 (.ptr 2 6 0) [.sl 4 0 1 1 0 5]=some (K3.set 2 (.box (s.cel (.sl 4 0 1 1 0 5)) 0)):=by simp [stC,f2,over,bI.row,bI.cel]
  have hMC:=MC.box (mv:=mv) (by rw [hmv];simp)
  rw [hlm]at hMC;simp [wrap64 (n:=1+(q:Int)) (by omega) (by omega),hl2,eK,st,-bJ]
  refine aF ?_
  exact qG (s:=⟨s.rg,s.ru,s.mi,s.le,s.zo,s.gap,s.fold,.fs,mv⟩) hc hMC (by
   have:=zn (s:=⟨s.rg,s.ru,s.mi,s.le,s.zo,s.gap,s.fold,.fs,mv⟩) hs.ok.ru hs.ok.rl (by dsimp only;omega) (by dsimp only;omega)
   rw [this,FQ (by rw [hmv];simp [iC,moveB];omega)]) he hrv (by dsimp only;omega) (by dsimp only;omega) hQ _ _ ⟨ap (ay f2),by rw [al (by decide)];exact f3,⟨0,by rw [al (by decide)];exact f4⟩,by simp [hl3]⟩ (by simp) (by simp) (by simp)
end
section
theorem Xd{a:V}(h:xM Tryz.prog 5 a):∃ n:Nat,a=.c (.f (u8 n))∧n<256:=by
 rcases h with⟨xs,_,_,d,hd,hd'⟩ | ⟨z,rfl,h1⟩
 ·rw [Tryz.underlying5]at hd;cases hd;rcases hd' with⟨_,e⟩ | ⟨_,_,e⟩<;>cases e
 ·obtain⟨m,e,hw⟩:=byte_of (iw Tryz.underlying5 h1);cases e;exact⟨m,rfl,hw⟩
theorem Ep(ar:List V)(h:yY Tryz.prog [26,31,5] ar):Km.Pure tab.get vZ ar (vb true):=by
 obtain⟨a0,_,rfl,h0,a1,_,rfl,h1,a2,_,rfl,h2,rfl⟩:=h;obtain⟨x,rfl,hx⟩:=U6 h0;obtain⟨y,rfl,hy⟩:=U5 h1;obtain⟨d,rfl,hd⟩:=Xd h2;exact Ky sane hx hy hd
end
end Go.Proofs.YtmbjejcfadllnaaGreat
