/-
  What the program's functions and the reference's answer, for all arguments of their kind, in the small machine: part 2.
-/
import Derived.Test.YthfeogjbpgocbaaGreatS1
import Derived.Test.YthfeogjbpgocbaaGreatK4
import Derived.Test.YthfeogjbpgocbaaGreatProg
import Derived.Test.YthfeogjbpgocbaaGreatTie
import Derived.Test.YthfeogjbpgocbaaGreatEv
open Nat renaming eq_zero_or_pos → cB, le_refl → aw
open List renaming getElem_mem → av, getElem?_eq_getElem → ae, map_cons → aR, map_nil → bh, getElem?_append_left → al, length_pos_iff → db, getElem_of_mem → bp, mem_append → bS, length_map → cC, take_of_length_le → bA, mem_map → cJ, getElem?_set_ne → ag, getElem?_set_self → ax, foldl_cons → cK, getElem?_eq_none_iff → co, mem_cons_self → bB, mem_cons_of_mem → bO, pairwise_append → dm, pairwise_singleton → cV, append_assoc → cQ, all_eq_true → aL
open Int renaming mul_ediv_add_emod → bz, emod_nonneg → bX, emod_lt_of_pos → b5, tmod_eq_emod_of_nonneg → c5, emod_eq_zero_of_dvd → dc, toNat_of_nonneg → dq
open Option renaming bind_some → bR
open Bool renaming and_eq_true → am
set_option linter.unusedVariables false
set_option linter.unusedSimpArgs false
set_option linter.unusedSectionVars false
set_option linter.unnecessarySimpa false
section
namespace Go.Proofs.YthfeogjbpgocbaaGreat
open Go Km
structure ayH(z:ZD):Prop where
 c:z.c<3
 st:-1080≤z.start∧z.start≤1080
 tl:z.tr.length≤3
 tb:∀ x ∈ z.tr,0≤x.at_∧x.at_<z.hor∧-1080≤x.off∧x.off≤1080
 ts:∀(i:Nat) x y,z.tr[i]?=some x→z.tr[i+1]?=some y→x.at_+2160≤y.at_
 ho:0≤z.hor∧z.hor≤40000
theorem ayH.none{z:ZD}(h:ayH z)(e:z.yr=[]):OKZ z []:=⟨h.c,h.st,h.tl,h.tb,h.ts,h.ho,.inl ⟨e,rfl⟩⟩
theorem ayF{o:List TrD}{size t:Int}(hb:∀ x ∈ o,AtB x)(hs:dW o size=true)(s0:1≤size)(s1:size≤400000)(t0:0≤t)(t1:t≤40000){x:TrD}(hx:aft o size t=some x):0≤x.at_∧x.at_≤10000000:=by
 have o0:0<o.length:=by
  rcases cB o.length with e | e
  ·have:o=[]:=List.length_eq_zero_iff.1 e
   subst this;simp [aft,kU]at hx
  ·exact e
 have hb0:=hb _ (av o0)
 unfold AtB at hb0
 have hK:turns o size t=if o[0].at_<t then(t-o[0].at_) / size else 0:=by unfold turns;rw [ae o0]
 have q0:=bz (t-o[0].at_) size
 have q1:=bX (t-o[0].at_) (show size≠0 by omega)
 have hKs:turns o size t*size≤2000000:=by
  rw [hK]
  split
  ·rw [Int.mul_comm];omega
  ·omega
 have key:∀ k,k*size≤4000000→kU o size t k=some x→0≤x.at_∧x.at_≤10000000:=by
  intro k hk hx
  obtain⟨⟨y,hy,rfl⟩,h2,-⟩:=zD hs hx
  have:=hb _ hy
  unfold AtB at this
  simp only at h2 ⊢
  omega
 unfold aft at hx
 cases h1:kU o size t (turns o size t)with
 | some w=>
  rw [h1]at hx;simp at hx;subst hx
  exact key _ (by omega) h1
 | none=>
  rw [h1]at hx;simp at hx
  exact key _ (by rw [Int.add_mul,Int.one_mul];omega) hx
set_option maxRecDepth 100000 in
theorem Nh(g:Tg)(n t:Int):Km.Pure tab.get yx [.c (.f (sl g (aT []))),vi n,vi t]=Eq (.t [.a [.f (fi 0),.f (fi 0)],vb false]):=Km.Pure.eq (by
 refine dD aj9 rfl fun Q hQ=>?_
 refine ak (aj (.inl rfl) ?_)
 simp
 refine ak ?_
 refine ak (aj (.inl rfl) ?_)
 have hsl:∀ H:Heap,bJ H (.f (sl g (aT [])))=some 0:=fun H=>by simpa using F9 (H:=H) g (aT [])
 simp [hsl]
 refine aA (by simp) ?_
 refine ak (aj (.inl rfl) ?_)
 simp
 refine aO (hQ _ _ ?_)
 simp)
set_option maxRecDepth 100000 in
theorem Kv{z:ZD}(h:ayH z){r q:YrD}(hz:z.yr=[r,q])(hr:r.OK)(hq:q.OK) :
  ∃ e:Int,Km.Pure tab.get BP [z.v]=Eq (vi e)∧(e=0→∃ o,OKZ z o):=by
 obtain⟨rr,⟨e,he,rfl⟩,hp⟩:∃ rr,(∃ e:Int,(e=0→∃ o,OKZ z o)∧rr=vi e)∧Km.Pure tab.get BP [z.v] rr:=by
  have hc:=h.c
  have hst:=h.st
  have hho:=h.ho
  have htl:=h.tl
  have hcy:z.cyc=cyc z.c:=by simp [ZD.cyc,hz]
  have hyl:z.yr.length=2:=by rw [hz];rfl
  have hyo:∀ x ∈ z.yr,x.OK:=by
   rw [hz];intro x hx
   simp at hx
   rcases hx with rfl | rfl
   ·exact hr
   ·exact hq
  obtain⟨g,o,ho,hyp⟩:=HY z hc hz hr hq
  have hcp:=yT z hc
  refine iL aH8 rfl fun Q hQ=>?_
  refine ak (aj (.inl rfl) ?_)
  simp
  obtain⟨H0,hH0⟩:∃ H0:Heap,H0=[.box (z.row.map .f) 0]:=⟨_,rfl⟩
  rw [←hH0]
  have z0:H0[0]?=some (.box (z.row.map .f) 0):=by rw [hH0];rfl
  clear hH0
  refine ak (ak (aj (.inl rfl) ?_))
  simp [jk z0 hc,-aG,show¬ 512<(z.tr.length:Int) by omega]
  refine ay (by simp) (aF ?_)
  refine ak (ak (aj (.inl rfl) ?_))
  simp [mY z0 hc,ai6 z0 hc,oP z0 hc,jW z0 hc,-aG,QL hc,zK (n:=z.start) (m:=1080) (by decide) (by decide) hst.1 hst.2,zK (n:=z.hor) (m:=2251799813685248) (by decide) (by decide) (by omega) (by omega),hyl]
  refine ay (by simp) (aF ?_)
  refine ak (ak (aj (.inl rfl) ?_))
  simp
  refine ku (H:=H0) z.tr.length (fun j t J=>J[0]?=some (.box (z.row.map .f) 0)∧t.g 1=.c (.ptr 0 0 0)) (by omega) (by decide) (by simp) ⟨z0,by simp⟩ ?_ ?_ ?_
  ·rintro j t J L hj ⟨y0,g1⟩ ha hn
   simp [g1,ha,jk y0 hc,-aG]
   exact hn _ ⟨y0,by simp [g1]⟩ (by simp [ha]) (by simp)
  ·rintro j t J hj ⟨y0,g1⟩ ha nx
   have hii:=jS (g:=z.tg) J hj
   have hll:=xq J hj
   simp only [TrD.row,aR,bh]at hll
   have hx:=h.tb _ (av hj)
   obtain⟨J1,hJ1⟩:∃ J1:Heap,J1=J++[.box [.f (fi z.tr[j].at_),.f (fi z.tr[j].off)] 0]:=⟨_,rfl⟩
   have eb:J1[J.length]?=some (.box [.f (fi z.tr[j].at_),.f (fi z.tr[j].off)] 0):=by rw [hJ1];simp
   have y1:J1[0]?=some (.box (z.row.map .f) 0):=by rw [hJ1,al (aN y0)];exact y0
   refine aH ?_
   refine ak (aj (.inl rfl) ?_)
   simp [g1,ha,hii,hll,jk y0 hc,-aG]
   rw [←hJ1]
   have la:ldV J1 none (.c (.ptr J.length 0 0))=some (vi z.tr[j].at_):=by simp [ldV,aP,eb,aQ]
   have lo:ldV J1 none (.c (.ptr J.length 1 0))=some (vi z.tr[j].off):=by simp [ldV,aP,eb,aQ]
   have wo:=zK (n:=z.tr[j].off) (m:=1080) (by decide) (by decide) hx.2.2.1 hx.2.2.2
   have wa:=zK (n:=z.tr[j].at_) (m:=2251799813685248) (by decide) (by decide) (by omega) (by omega)
   refine ak (aj (.inl rfl) ?_)
   by_cases hj0:j=0
   ·subst hj0
    simp [g1,ha,la,lo,wo,wa,oP y1 hc,-aG,show¬ z.hor≤z.tr[0].at_ by omega]
    refine ay (by simp) (aF (aI ?_))
    exact nx _ _ ⟨y1,by simp [g1]⟩ (by simp [ha])
   ·obtain⟨k,rfl⟩:∃ k,j=k+1:=⟨j-1,by omega⟩
    have hik:=jS (g:=z.tg) J1 (show k<z.tr.length by omega)
    have hlk:=zT J1 (show k<z.tr.length by omega)
    have hs:=h.ts k _ _ (ae (by omega)) (ae hj)
    have hx':=h.tb _ (av (show k<z.tr.length by omega))
    have wk:IntKind.i64.wrap (k:Nat)=(k:Nat):=wrap64 (by omega) (by omega)
    have wd:IntKind.i64.wrap (z.tr[k+1].at_-z.tr[k].at_)=z.tr[k+1].at_-z.tr[k].at_:=wrap64 (by omega) (by omega)
    simp [g1,ha,la,lo,wo,wa,oP y1 hc,jk y1 hc,-aG,show¬ z.hor≤z.tr[k+1].at_ by omega,wk,hik,hlk,wd,show¬ z.tr[k+1].at_-z.tr[k].at_<2160 by omega,show(0:Int)<(k:Int)+1 by omega]
    refine ay (by simp) (aF (aI ?_))
    exact nx _ _ ⟨y1,by simp [g1]⟩ (by simp [ha])
  clear z0
  rintro t J ⟨z0,g1⟩ ha
  refine ak (ak (aj (.inl rfl) ?_))
  simp
  refine ku (H:=J) z.yr.length (fun j t J=>J[0]?=some (.box (z.row.map .f) 0)∧t.g 1=.c (.ptr 0 0 0)) (by omega) (by decide) (by simp) ⟨z0,by simp [g1]⟩ ?_ ?_ ?_
  ·clear g1 ha z0
   rintro j t J L hj ⟨y0,g1⟩ ha hn
   simp [g1,ha,jW y0 hc,-aG]
   exact hn _ ⟨y0,by simp [g1]⟩ (by simp [ha]) (by simp)
  ·clear g1 ha z0
   rintro j t J hj ⟨y0,g1⟩ ha nx
   have hii:aV J 5 none (.c (.f (sl z.yg (bK z.yr)))) (vi j)=some (.c (.f (.fp (bK z.yr).flatten (j*5)))):=by
    have:=iD (H:=J) (g:=z.yg) (rows:=bK z.yr) (sz:=5) (k:=.i64) (i:=(j:Int)) (by omega) (by simp;omega)
    simpa using this
   have hll:ldV J (some 5) (.c (.f (.fp (bK z.yr).flatten (j*5))))=some (.a (z.yr[j].row.map .f)):=mZ (mP z.yr) (CW hj)
   have hx:=hyo _ (av hj)
   obtain⟨J1,hJ1⟩:∃ J1:Heap,J1=J++[.box (z.yr[j].row.map .f) 0]:=⟨_,rfl⟩
   have y1:J1[0]?=some (.box (z.row.map .f) 0):=by rw [hJ1,al (aN y0)];exact y0
   have eb:J1[J.length]?=some (.box (z.yr[j].row.map .f) 0):=by rw [hJ1];simp
   have l0:ldV J1 none (.c (.ptr J.length 0 0))=some (vi z.yr[j].mo):=by simp [ldV,aP,eb,aQ,YrD.row]
   have l1:ldV J1 none (.c (.ptr J.length 1 0))=some (vi z.yr[j].wk):=by simp [ldV,aP,eb,aQ,YrD.row]
   have l2:ldV J1 none (.c (.ptr J.length 2 0))=some (vi z.yr[j].wd):=by simp [ldV,aP,eb,aQ,YrD.row]
   have l3:ldV J1 none (.c (.ptr J.length 3 0))=some (vi z.yr[j].mi):=by simp [ldV,aP,eb,aQ,YrD.row]
   have l4:ldV J1 none (.c (.ptr J.length 4 0))=some (vi z.yr[j].off):=by simp [ldV,aP,eb,aQ,YrD.row]
   obtain⟨cs,lm⟩:=ai7 y1 hc
   simp only [YrD.row,aR,bh]at hJ1 hll
   refine aH ?_
   refine ak (aj (.inl rfl) ?_)
   simp [g1,ha,hii,hll,jW y0 hc,-aG]
   rw [←hJ1]
   have wo:=zK (n:=z.yr[j].off) (m:=1080) (by decide) (by decide) hx.of0 hx.of
   refine ak (aj (.inl rfl) ?_)
   have hsl:bJ J1 (.f (.fs cs 2))=some 2:=rfl
   have f1:¬ z.yr[j].mo<1:=by have:=hx.mo;omega
   have f2:¬ 2<z.yr[j].mo:=by have:=hx.mo;omega
   have f3:¬ z.yr[j].wk<1:=by have:=hx.wk;omega
   have f4:¬ 5<z.yr[j].wk:=by have:=hx.wk;omega
   have f5:¬ z.yr[j].wd<0:=by have:=hx.wd0;omega
   have f6:¬ 6<z.yr[j].wd:=by have:=hx.wd;omega
   have f7:¬ z.yr[j].mi<0:=by have:=hx.mi0;omega
   have f8:¬ 1439<z.yr[j].mi:=by have:=hx.mi;omega
   simp [g1,l0,l1,l2,l3,l4,lm,wo,-aG,f1,f2,f3,f4,f5,f6,f7,f8,hsl]
   refine ay (by simp) (aF (aI ?_))
   exact nx _ _ ⟨y1,by simp [g1]⟩ (by simp [ha])
  clear g1 ha z0
  rintro t J ⟨z0,g1⟩ ha
  refine ak (aj (.inl rfl) ?_)
  simp [g1,jD z0 hc,-aG,hyp]
  refine ak (ak (aj (.inl rfl) ?_))
  cases hs:dW o (cyc z.c*1440)with
  | false=>
   simp
   refine aA (by simp) (ak (aj (.inl rfl) ?_))
   simp
   refine aO (hQ _ _ _ ⟨1,by simp,rfl⟩ ⟨rfl,vi 1,?_,?_⟩)
   ·simp [Km.results,resOne,bf]
   ·simp [exV,dw]
  | true=>
   simp
   refine ay (by simp) (aF ?_)
   have mk:(∀ x a,aft o (cyc z.c*1440) z.hor=some x→a ∈ z.tr→a.at_+2160≤x.at_)→∃ o,OKZ z o:=fun hx=>⟨o,h.c,h.st,h.tl,h.tb,h.ts,h.ho,.inr ⟨r,q,hz,hr,hq,ho,hs,hx⟩⟩
   have good:(∀ x a,aft o (cyc z.c*1440) z.hor=some x→a ∈ z.tr→a.at_+2160≤x.at_)→∀(t:T) (J:Heap),WP tab.get BP none [.code EL] ⟨t,[],J⟩ Q:=by
    intro hx t J
    refine ak (aj (.inl rfl) ?_)
    simp
    refine aO (hQ _ _ _ ⟨0,fun _=>mk hx,rfl⟩ ⟨rfl,vi 0,?_,?_⟩)
    ·simp [Km.results,resOne,bf]
    ·simp [exV,dw]
   have hcB:1≤cyc z.c∧cyc z.c≤217:=by
    have:cyc z.c=91∨cyc z.c=217:=by unfold cyc kT;split<;>simp
    omega
   rcases cB o.length with e0 | o0
   ·have e0:o=[]:=List.length_eq_zero_iff.1 e0
    subst e0
    have haf:=Nh g z.cyc z.hor
    refine ak (aj (.inl rfl) ?_)
    simp [g1,jD z0 hc,oP z0 hc,-aG,hcp,haf]
    refine ak (ak (aj (.inl rfl) ?_))
    simp
    refine ay (by simp) (aF ?_)
    exact good (by simp [aft,kU]) _ _
   ·have hbd:∀ x ∈ o,AtB x:=fun x hx=>uX hc hr hq _ (aw _) x (ho.perm.subset hx)
    have hol:o.length≤1000:=by
     have h1:=lT z.c r q (nY z.c)
     have h2:=Dv z.c
     have:=ho.len
     omega
    obtain⟨x,hx,haf⟩:=Nc g o o0 hol hbd z.cyc z.hor (by rw [hcy];exact hcB.1) (by rw [hcy];omega) (by omega) (by omega)
    rw [hcy]at hx
    have hxb:=ayF hbd hs (by omega) (by omega) (by omega) (by omega) hx
    simp only [TrD.row,aR,bh]at haf
    refine ak (aj (.inl rfl) ?_)
    simp [g1,jD z0 hc,oP z0 hc,-aG,hcp,haf]
    obtain⟨J1,hJ1⟩:∃ J1:Heap,J1=J++[.box [.f (fi x.at_),.f (fi x.off)] 0]:=⟨_,rfl⟩
    rw [←hJ1]
    have y1:J1[0]?=some (.box (z.row.map .f) 0):=by rw [hJ1,al (aN z0)];exact z0
    have eb:J1[J.length]?=some (.box [.f (fi x.at_),.f (fi x.off)] 0):=by rw [hJ1];simp
    have la:ldV J1 none (.c (.ptr J.length 0 0))=some (vi x.at_):=by simp [ldV,aP,eb,aQ]
    refine ak (ak (aj (.inl rfl) ?_))
    by_cases htr:z.tr=[]
    ·simp [g1,jk y1 hc,-aG,htr]
     refine ay (by simp) (aF ?_)
     exact good (by rw [htr];intro x a _ ha;cases ha) _ _
    ·have hn0:0<z.tr.length:=db.2 htr
     have ii:=jS (g:=z.tg) J1 (show z.tr.length-1<z.tr.length by omega)
     have il:=zT J1 (show z.tr.length-1<z.tr.length by omega)
     have hla:=h.tb _ (av (show z.tr.length-1<z.tr.length by omega))
     have e1:IntKind.i64.wrap ((z.tr.length:Int)-1)=((z.tr.length-1:Nat):Int):=by rw [wrap64 (by omega) (by omega)];omega
     have e2:IntKind.i64.wrap (x.at_-z.tr[z.tr.length-1].at_)=x.at_-z.tr[z.tr.length-1].at_:=wrap64 (by omega) (by omega)
     by_cases hd:x.at_-z.tr[z.tr.length-1].at_<2160
     ·simp [g1,jk y1 hc,-aG,hn0,e1,e2,ii,il,la,hd]
      refine aA (by simp) (ak (aj (.inl rfl) ?_))
      simp
      refine aO (hQ _ _ _ ⟨1,by simp,rfl⟩ ⟨rfl,vi 1,?_,?_⟩)
      ·simp [Km.results,resOne,bf]
      ·simp [exV,dw]
     ·simp [g1,jk y1 hc,-aG,hn0,e1,e2,ii,il,la,hd]
      refine ay (by simp) (aF ?_)
      refine good ?_ _ _
      intro x' a hx' ha
      rw [hx]at hx';cases hx'
      obtain⟨i,hi,rfl⟩:=bp ha
      rcases Nat.lt_or_eq_of_le (show i≤z.tr.length-1 by omega)with h1 | h1
      ·have:=wZ h.ts i _ h1 (by omega);omega
      ·subst h1;omega
 exact⟨e,hp.eq,he⟩
end Go.Proofs.YthfeogjbpgocbaaGreat
end
section
namespace Go.Proofs.YthfeogjbpgocbaaGreat
open Go Km
theorem IU:Km.Pure tab.get ako []=Eq (.a [.f (.fn He []),.f (.fn 212 []),.f (.fn 213 [])]):=Km.Pure.eq (jA (m:=40) (d:=10) (by kernel_rfl))
theorem aui(a b c:V)(H:Heap):Ev tab.get (.fn He) [a,b,c] H (.c (.f .aB)) H:=by
 obtain⟨r,H',he,rfl,rfl⟩:∃ r H',Ev tab.get (.fn He) [a,b,c] H r H'∧r=.c (.f .aB)∧H'=H:=by
  refine gu aHr rfl fun Q hQ=>?_
  refine ak (aj (.inl rfl) ?_)
  simp
  refine ak (aj (.inl rfl) ?_)
  simp
  exact aO (hQ _ _ _ rfl (res_one (by simp)) ⟨rfl,rfl⟩)
 exact he
set_option maxRecDepth 100000 in
theorem Gj{z:ZD}{o:List TrD}(h:OKZ z o){lo:Int}(l0:0≤lo)(l1:lo≤400000) :
  ∃(l:List Int) (tg:Tg),l.length≤2∧(∀ a ∈ l,qp h lo a)∧Km.Pure tab.get Hl [z.v,vi lo,vi 0,vi 2]=Eq (.t [.c (.f (sl tg (fK l))),vi 0]):=by
 obtain⟨g,hop⟩:=FN h
 obtain⟨l,tg,e,b,hl,hA,hin⟩:=Jl h g l0 l1
 have hc:=h.c
 obtain⟨rr,⟨tg',rfl⟩,hp⟩:∃ rr,(∃ tg':Tg,rr=.t [.c (.f (sl tg' (fK l))),vi 0])∧Km.Pure tab.get Hl [z.v,vi lo,vi 0,vi 2] rr:=by
  refine iL aHD rfl fun Q hQ=>?_
  refine ak (aj (.inl rfl) ?_)
  simp
  obtain⟨H0,hH0⟩:∃ H0:Heap,H0=[.box (z.row.map .f) 0]:=⟨_,rfl⟩
  rw [←hH0]
  have z0:H0[0]?=some (.box (z.row.map .f) 0):=by rw [hH0];rfl
  clear hH0
  refine ak (aj (.inl rfl) ?_)
  simp [jD z0 hc,-aG,hop]
  refine ak (ak (aj (.inl rfl) ?_))
  simp [zI (n:=lo) (m:=2251799813684168) (by decide) (by decide) (by omega) (by omega)]
  refine ay (by simp) (aF ?_)
  refine ak (aj (.inl rfl) ?_)
  simp [hin]
  refine ak (aH (ak (aj (.inl rfl) ?_)))
  by_cases h0:l=[]
  ·subst h0
   have hsl:bJ H0 (.f (sl tg (fK [])))=some 0:=by simpa using F9 (H:=H0) tg (fK [])
   simp at hsl
   simp [hsl]
   refine aA (by simp) (aj (.inl rfl) ?_)
   have hsk:=(aui (vi lo) (vi e) (vi b) H0).eq
   simp [IU,DK,jm,aQ,bV,hsk]
   refine aI (ak (aj (.inl rfl) ?_))
   simp
   refine aO (hQ _ _ _ ⟨.nil,rfl⟩ ⟨rfl,.t [.c (.f .aB),vi 0],?_,?_⟩)
   ·simp [Km.results,resOne,bf]
   ·simp [exV,dw,bf,sl,Tg.fc]
  ·have hpos:0<l.length:=db.2 h0
   have hsl:bJ H0 (.f (sl tg (fK l)))=some l.length:=by simpa using F9 (H:=H0) tg (fK l)
   simp [hsl,h0]
   refine ay (by simp) ?_
   refine ak (aj (.inl rfl) ?_)
   simp
   refine ay (by simp) ?_
   refine ak (aj (.inl rfl) ?_)
   simp
   refine ay (by simp) (aF (aI ?_))
   refine ak (aj (.inl rfl) ?_)
   simp
   refine aO (hQ _ _ _ ⟨tg,rfl⟩ ?_)
   simp
 exact⟨l,tg',hl,hA,hp.eq⟩
end Go.Proofs.YthfeogjbpgocbaaGreat
end
section
namespace Go.Proofs.YthfeogjbpgocbaaGreat
open Go Km
abbrev u8(n:Nat):FC:=.int .u8 (n:Nat)
structure jM where
 st:Nat
 gg:Tg
 gaps:List Nat
 og:Tg
 Ah:List Nat
 be:Nat
 y:Nat→Nat→Nat
 cal:Nat
 rules:Bool
def dZ(l:List Nat):List (List FC):=l.map fun n=>[u8 n]
@[simp] theorem aID (l:List Nat):(dZ l).length=l.length:=by simp [dZ]
theorem MX(l:List Nat):Grid 1 (dZ l):=Grid.map fun _=>rfl
theorem vU{j:Nat}{l:List Nat}(hj:j<l.length){H:Heap}:ldV H none (.c (.f (.fp (dZ l).flatten j)))=some (.c (.f (u8 l[j]))):=by
 have:=rD (H:=H) (rows:=dZ l) (j:=j) (sz:=1) (row:=[u8 l[j]]) (x:=u8 l[j]) (MX l) (by simp [dZ,hj]) rfl
 simpa using this
theorem rF{j:Nat}{l:List Nat}{g:Tg}(hj:j<l.length){H:Heap}:aV H 1 none (.c (.f (sl g (dZ l)))) (vi j)=some (.c (.f (.fp (dZ l).flatten j))):=by
 have:=iD (H:=H) (g:=g) (rows:=dZ l) (sz:=1) (k:=.i64) (i:=(j:Int)) (by omega) (by simp;omega)
 simpa using this
def jM.row(x:jM):List FC:=[u8 x.st,sl x.gg (dZ x.gaps),sl x.og (dZ x.Ah),u8 x.be,u8 (x.y 0 0),u8 (x.y 0 1),u8 (x.y 0 2),u8 (x.y 0 3),u8 (x.y 1 0),u8 (x.y 1 1),u8 (x.y 1 2),u8 (x.y 1 3),u8 x.cal,.bool x.rules]
structure jM.OK(x:jM):Prop where
 st:x.st<256
 gl:x.gaps.length≤9223372036854775807
 ol:x.Ah.length≤9223372036854775807
 ga:∀ n ∈ x.gaps,n<256
 of:∀ n ∈ x.Ah,n<256
 be:x.be<256
 y:∀ k i,k<2→i<4→x.y k i<256
 cal:x.cal<256
theorem wY(n:Nat){m:Nat}(hm:0<m):bM .rem (.c (.f (u8 n))) (.c (.f (u8 m)))=some (.c (.f (u8 (n % m)))):=by
 have:¬ ((m:Int)=0):=by omega
 simp only [bM,mM,if_true,this,if_false]
 rfl
theorem u8_quo{n:Nat}(hn:n<256){m:Nat}(hm:0<m):bM .quo (.c (.f (u8 n))) (.c (.f (u8 m)))=some (.c (.f (u8 (n / m)))):=by
 have:¬ ((m:Int)=0):=by omega
 have h1:n / m≤n:=Nat.div_le_self n m
 simp only [bM,mM,if_true,this,if_false]
 rw [show(n:Int).tdiv (m:Int)=((n / m:Nat):Int) from rfl]
 have:IntKind.u8.wrap ((n / m:Nat):Int)=((n / m:Nat):Int):=by
  revert h1;generalize n / m=q;intro h1
  exact wrapu8 (by omega) (by omega)
 rw [this];rfl
def kM(J:Heap)(cs:List C)(c:Nat):Prop:=
 (c=0∧cs=[.f (fi 2),.sl 2 0 2 2 0 1,.f (fi (-1)),.f .aB]∧∃ fl,J[2]?=some (.box [.f (fi 7),.f (fi 6)] fl)) ∨
 ∃ k:Nat,k<2∧c=k+1∧cs=[.f (fi 5),.sl 4 0 2 2 0 1,.f (fi 1),.sl 5 0 1 1 0 3]∧(∃ fl,J[4]?=some (.box [.f (fi 7),.f (fi 8)] fl))∧∃ fl,J[5]?=some (.box [.f (fi 2),.f (fi k),.f (.bool true)] fl)
section
variable{J J':Heap}{cs:List C}{c:Nat}{s h:Int}{ct cy ct' cy':C}
theorem kM.keep'(hc:kM J cs c)(hk:∀(i:Nat) (l:List C) (fl:Nat),J[i]?=some (.box l fl)→(i=2∨i=4∨i=5)→∃ fl',J'[i]?=some (.box l fl')):kM J' cs c:=by
 rcases hc with⟨h1,h2,fl,h3⟩ | ⟨k,h0,h1,h2,⟨f3,h3⟩,f4,h4⟩
 ·exact .inl ⟨h1,h2,hk _ _ _ h3 (by omega)⟩
 ·exact .inr ⟨k,h0,h1,h2,hk _ _ _ h3 (by omega),hk _ _ _ h4 (by omega)⟩
theorem kM.keep(hc:kM J cs c)(hk:∀ i y,J[i]?=some y→(i=2∨i=4∨i=5)→J'[i]?=some y):kM J' cs c:=hc.keep' fun i l fl h hi=>⟨fl,hk i _ h hi⟩
theorem kM.four(hc:kM J cs c):∃ a b d e,cs=[a,b,d,e]:=by
 rcases hc with⟨-,rfl,-⟩ | ⟨k,-,-,rfl,-,-⟩<;>exact⟨_,_,_,_,rfl⟩
theorem kM.lt(hc:kM J cs c):c<3:=by
 rcases hc with⟨rfl,-⟩ | ⟨k,h0,rfl,-⟩<;>omega
theorem kM.ex(hc:kM J cs c):bf (exC 64 J) cs=some (jy c):=by
 rcases hc with⟨rfl,rfl,fl,h1⟩ | ⟨k,h0,rfl,rfl,⟨f1,h1⟩,f2,h2⟩
 ·simp [bf,DV,h1,jy]
 ·simp [bf,DV,h1,h2,jy]
abbrev qg(cs:List C)(s:Int)(ct:C)(h:Int)(cy:C):Blk:=.box (cs++[.f (fi s),ct,.f (fi h),cy]) 0
theorem aII(hc:kM J cs c)(hb:J[3]?=some (qg cs s ct h cy)):ldV J none (.c (.ptr 3 5 0))=some (.c ct):=by
 obtain⟨a,b,d,e,rfl⟩:=hc.four
 simp [ldV,aP,hb,aQ]
theorem aBm(hc:kM J cs c)(hb:J[3]?=some (qg cs s ct h cy)):ldV J none (.c (.ptr 3 7 0))=some (.c cy):=by
 obtain⟨a,b,d,e,rfl⟩:=hc.four
 simp [ldV,aP,hb,aQ]
theorem J9(hc:kM J cs c)(hb:J[3]?=some (qg cs s ct h cy)):ldV J (some 8) (.c (.ptr 3 0 0))=some (.a (cs++[.f (fi s),ct,.f (fi h),cy])):=by
 obtain⟨a,b,d,e,rfl⟩:=hc.four
 simp [ldV,aP,hb,aQ]
theorem aIG(hc:kM J cs c)(hb:J[3]?=some (qg cs s ct h cy)):stC J (.ptr 3 5 0) [ct']=some (J.set 3 (qg cs s ct' h cy)):=by
 obtain⟨a,b,d,e,rfl⟩:=hc.four
 simp [stC,hb,over]
 rfl
theorem aIH{h':Int}(hc:kM J cs c)(hb:J[3]?=some (qg cs s ct h cy)):stC J (.ptr 3 6 0) [.f (fi h')]=some (J.set 3 (qg cs s ct h' cy)):=by
 obtain⟨a,b,d,e,rfl⟩:=hc.four
 simp [stC,hb,over]
 rfl
theorem aBl(hc:kM J cs c)(hb:J[3]?=some (qg cs s ct h cy)):stC J (.ptr 3 7 0) [cy']=some (J.set 3 (qg cs s ct h cy')):=by
 obtain⟨a,b,d,e,rfl⟩:=hc.four
 simp [stC,hb,over]
 rfl
end
structure TrP(tr:List TrD)(at_:Int):Prop where
 tl:tr.length≤3
 lo:0≤at_∧at_≤7260*tr.length
 tb:∀ x ∈ tr,0≤x.at_∧x.at_≤at_∧-1080≤x.off∧x.off≤1080
 ts:∀(i:Nat) x y,tr[i]?=some x→tr[i+1]?=some y→x.at_+2160≤y.at_
theorem TrP.nil:TrP [] 0:=⟨by simp,by simp,by simp,by simp⟩
theorem TrP.app{tr:List TrD}{at_:Int}(h:TrP tr at_)(hl:tr.length≤2){n m:Nat}(hn:n<256):TrP (tr++[⟨at_+2160+20*n,pK m⟩]) (at_+2160+20*n):=by
 have hb:=nX m
 have h0:=h.lo
 refine⟨by simp;omega,by simp;omega,fun x hx=>?_,fun i x y hx hy=>?_⟩
 ·rcases bS.1 hx with hx | hx
  ·have:=h.tb x hx;omega
  ·simp at hx;subst hx;simp only;omega
 ·rw [List.getElem?_append]at hx hy
  split at hy
  ·rename_i h1
   rw [if_pos (by omega)]at hx
   exact h.ts i x y hx hy
  ·rename_i h1
   have hi:i+1=tr.length:=by
    have:=LX hy
    simp at this;omega
   rw [if_pos (by omega)]at hx
   have h2:=h.tb x (List.mem_of_getElem? hx)
   rw [←hi]at hy
   simp at hy;subst hy;simp only;omega
 where LX {α:Type} {l:List α} {i:Nat} {x:α} (h:l[i]?=some x):i<l.length:=(List.getElem?_eq_some_iff.1 h).1
end Go.Proofs.YthfeogjbpgocbaaGreat
end
section
namespace Go.Proofs.YthfeogjbpgocbaaGreat
open Go Km
section
variable{J:Heap}{x:jM}
theorem PE(h:J[0]?=some (.box (x.row.map .f) 0)):ldV J none (.c (.ptr 0 1 0))=some (.c (.f (sl x.gg (dZ x.gaps)))):=by simp [ldV,aP,h,aQ,jM.row]
theorem PD(h:J[0]?=some (.box (x.row.map .f) 0)):ldV J none (.c (.ptr 0 2 0))=some (.c (.f (sl x.og (dZ x.Ah)))):=by simp [ldV,aP,h,aQ,jM.row]
theorem aIX(h:J[0]?=some (.box (x.row.map .f) 0)):ldV J none (.c (.ptr 0 3 0))=some (.c (.f (u8 x.be))):=by simp [ldV,aP,h,aQ,jM.row]
theorem Iy(h:J[0]?=some (.box (x.row.map .f) 0)):ldV J none (.c (.ptr 0 13 0))=some (vb x.rules):=by simp [ldV,aP,h,aQ,jM.row]
theorem aPs(h:J[0]?=some (.box (x.row.map .f) 0)){k:Nat}(hk:k<2):ldV J (some 4) (.c (.ptr 0 (4+k*4) 0))=some (.a [.f (u8 (x.y k 0)),.f (u8 (x.y k 1)),.f (u8 (x.y k 2)),.f (u8 (x.y k 3))]):=by
 have:k=0∨k=1:=by omega
 rcases this with rfl | rfl<;>simp [ldV,aP,h,aQ,jM.row]
end
theorem OKZ.retag{c:Nat}{s h:Int}{tr:List TrD}{yr:List YrD}{tg tg' yg yg':Tg}{o:List TrD}(k:OKZ ⟨c,s,tg,tr,h,yg,yr⟩ o):OKZ ⟨c,s,tg',tr,h,yg',yr⟩ o:=⟨k.c,k.st,k.tl,k.tb,k.ts,k.ho,k.y⟩
structure ZI(x:jM)(cs:List C)(c:Nat)(s h:Int)(tr:List TrD)(ct:C)(yr:List YrD)(cy:C)(t:T)(J:Heap):Prop where
 raw:J[0]?=some (.box (x.row.map .f) 0)
 res:J[1]?=some (.box [.f (fi 0),.f .aB,.f (fi 0),.f .aB,.f (fi 0),.f .aB,.f (fi 0),.f .aB] 0)
 cal:kM J cs c
 zb:J[3]?=some (qg cs s ct h cy)
 lt:LR J ct 2 (aT tr)
 ly:LR J cy 5 (bK yr)
 ne:∀ i,dO ct=some i→dO cy≠some i
 g1:t.g 1=.c (.ptr 0 0 0)
 g2:t.g 2=.c (.ptr 1 0 0)
 g3:t.g 3=.c (.ptr 3 0 0)
def LRw(H:Heap)(c:C)(sz:Nat)(rows:List (List FC)):Prop:=(rows=[]∧(c=.f .aB∨c=.f .es))∨(rows≠[]∧∃ b ep fl,c=.sl b 0 rows.length 0 ep sz∧H[b]?=some (.opn sz (rows.flatten.map .f) fl ep .loc))
section
variable{H H':Heap}{c:C}{sz:Nat}{rows:List (List FC)}
theorem LRw.of(h:LR H c sz rows):LRw H c sz rows:=by
 rcases h with h | ⟨h,b,ep,h1,h2⟩
 ·exact .inl h
 ·exact .inr ⟨h,b,ep,0,h1,h2⟩
theorem LRw.exU(h:LRw H c sz rows)(hg:Grid sz rows):∃ g,∀(H':Heap) (n:Nat),LRw H' c sz rows→exC (n+1) H' c=some (sl g rows):=by
 by_cases hr:rows=[]
 ·rcases h with⟨rfl,rfl | rfl⟩ | ⟨h,_⟩
  ·exact⟨.nil,fun _ _ _=>rfl⟩
  ·exact⟨.es,fun _ _ _=>rfl⟩
  ·exact absurd hr h
 ·refine⟨.fs,fun H' n hk=>?_⟩
  rcases hk with⟨h,_⟩ | ⟨_,b,ep,fl,rfl,h2⟩
  ·exact absurd h hr
  have hl:rows.length*sz=rows.flatten.length:=(kH hg).symm
  simp only [DV,h2]
  rw [if_pos ⟨trivial,trivial,by rw [cC,Nat.zero_add,hl];exact aw _⟩,List.drop_zero,bA (by rw [cC];omega),xH]
  cases rows with
  | nil=>exact absurd rfl hr
  | cons x l=>simp [sl]
theorem LRw.keep(h:LRw H c sz rows)(hk:∀(i s:Nat) (l:List C) (fl ep:Nat) (st:Km.Os),H[i]?=some (.opn s l fl ep st)→∃ fl',H'[i]?=some (.opn s l fl' ep st)):LRw H' c sz rows:=by
 rcases h with h | ⟨h,b,ep,fl,h1,h2⟩
 ·exact .inl h
 ·obtain⟨fl',h3⟩:=hk _ _ _ _ _ _ h2
  exact .inr ⟨h,b,ep,fl',h1,h3⟩
theorem LRw.mk(h:LRw H c sz rows):(∀(i:Nat) (l:List C) (fl:Nat),H[i]?=some (.box l fl)→(mkC deep c H)[i]?=some (.box l fl))∧∀(i s:Nat) (l:List C) (fl ep:Nat) (st:Km.Os),H[i]?=some (.opn s l fl ep st)→∃ fl',(mkC deep c H)[i]?=some (.opn s l fl' ep st):=by
 rcases h with⟨_,rfl | rfl⟩ | ⟨h,b,ep,fl,rfl,h2⟩
 ·exact⟨fun i l fl h=>by simpa using h,fun i s l fl ep st h=>⟨fl,by simpa using h⟩⟩
 ·exact⟨fun i l fl h=>by simpa using h,fun i s l fl ep st h=>⟨fl,by simpa using h⟩⟩
 ·have e:mkC deep (.sl b 0 rows.length 0 ep sz) H=H.set b (.opn sz (rows.flatten.map .f) (Nat.max fl (0+rows.length*sz)) ep .loc):=by
   simp only [deep,aBD,h2]
   rw [Gs]
   intro x hx
   have hx:=List.mem_of_mem_drop (List.mem_of_mem_take hx)
   obtain⟨m,_,rfl⟩:=cJ.1 hx
   exact⟨_,rfl⟩
  rw [e]
  refine⟨fun i l fl h=>?_,fun i s l fl ep st h=>?_⟩
  ·rw [ag (by rintro rfl;rw [h2]at h;cases h)];exact h
  ·by_cases e:b=i
   ·subst e
    rw [h2]at h;cases h
    exact⟨_,ax (aN h2)⟩
   ·rw [ag e];exact⟨fl,h⟩
end
theorem mk_box{H:Heap}{b l cp e sz fl:Nat}{xs:List FC}(h:H[b]?=some (.box (xs.map .f) fl)):mkC deep (.sl b 0 l cp e sz) H=H.set b (.box (xs.map .f) (Nat.max fl (0+l*sz))):=by
 simp only [deep,aBD,h]
 rw [Gs]
 intro x hx
 have hx:=List.mem_of_mem_drop (List.mem_of_mem_take hx)
 obtain⟨m,_,rfl⟩:=cJ.1 hx
 exact⟨_,rfl⟩
theorem kM.mk{H:Heap}{cs:List C}{c:Nat}(hc:kM H cs c):kM (cs.foldl (fun H x=>mkC deep x H) H) cs c∧(∀ i y,H[i]?=some y→i≠2→i≠4→i≠5→(cs.foldl (fun H x=>mkC deep x H) H)[i]?=some y)∧(∀(i s:Nat) (l:List C) (fl ep:Nat) (st:Km.Os),H[i]?=some (.opn s l fl ep st)→∃ fl',(cs.foldl (fun H x=>mkC deep x H) H)[i]?=some (.opn s l fl' ep st)):=by
 rcases hc with⟨rfl,rfl,fl,h1⟩ | ⟨k,h0,rfl,rfl,⟨f1,h1⟩,f2,h2⟩
 ·have e:=mk_box (H:=H) (b:=2) (l:=2) (cp:=2) (e:=0) (sz:=1) (xs:=[fi 7,fi 6]) h1
  simp only [cK,List.foldl_nil,Qa,e]
  refine⟨.inl ⟨rfl,rfl,_,ax (aN h1)⟩,fun i y hy h2 _ _=>by rw [ag (Ne.symm h2)];exact hy,fun i s l fl ep st h=>⟨fl,?_⟩⟩
  rw [ag (by rintro rfl;rw [h1]at h;cases h)];exact h
 ·have e:=mk_box (H:=H) (b:=4) (l:=2) (cp:=2) (e:=0) (sz:=1) (xs:=[fi 7,fi 8]) h1
  simp only [cK,List.foldl_nil,Qa,e]
  have h2':(H.set 4 (.box ([fi 7,fi 8].map .f) (Nat.max f1 (0+2*1))))[5]?=some (.box ([fi 2,fi k,.bool true].map .f) f2):=by rw [ag (by decide)];exact h2
  have e2:=mk_box (l:=1) (cp:=1) (e:=0) (sz:=3) h2'
  rw [e2]
  refine⟨.inr ⟨k,h0,rfl,rfl,⟨Nat.max f1 (0+2*1),?_⟩,_,ax (aN h2')⟩,fun i y hy h2 h4 h5=>?_,fun i s l fl ep st h=>⟨fl,?_⟩⟩
  ·rw [ag (by decide),ax (aN h1)];rfl
  ·rw [ag (Ne.symm h5),ag (Ne.symm h4)];exact hy
  ·rw [ag (by rintro rfl;rw [h2]at h;cases h),ag (by rintro rfl;rw [h1]at h;cases h)];exact h
structure ZE(cs:List C)(c:Nat)(s h:Int)(tr:List TrD)(ct:C)(yr:List YrD)(cy:C)(J:Heap):Prop where
 res:J[1]?=some (.box [.f (fi 0),.f .aB,.f (fi 0),.f .aB,.f (fi 0),.f .aB,.f (fi 0),.f .aB] 0)
 cal:kM J cs c
 zb:J[3]?=some (qg cs s ct h cy)
 lt:LRw J ct 2 (aT tr)
 ly:LRw J cy 5 (bK yr)
section
variable{x:jM}{cs:List C}{c:Nat}{s h:Int}{tr:List TrD}{ct:C}{yr:List YrD}{cy:C}{t:T}{J:Heap}
theorem ZI.e(k:ZI x cs c s h tr ct yr cy t J):ZE cs c s h tr ct yr cy J:=⟨k.res,k.cal,k.zb,LRw.of k.lt,LRw.of k.ly⟩
theorem ZE.ex(k:ZE cs c s h tr ct yr cy J) :
  ∃ tg yg,∀ J':Heap,(∀ i y,J[i]?=some y→i≠1→J'[i]?=some y)→bf (exC 64 J') (cs++[.f (fi s),ct,.f (fi h),cy])=some (ZD.row ⟨c,s,tg,tr,h,yg,yr⟩):=by
 obtain⟨tg,ht⟩:=k.lt.exU (bY _)
 obtain⟨yg,hy⟩:=k.ly.exU (mP _)
 refine⟨tg,yg,fun J' hk=>?_⟩
 have hc:kM J' cs c:=k.cal.keep fun i y hy hi=>hk i y hy (by omega)
 have ho:∀(i s:Nat) (l:List C) (fl ep:Nat) (st:Km.Os),J[i]?=some (.opn s l fl ep st)→∃ fl',J'[i]?=some (.opn s l fl' ep st):=fun i s l fl ep st h=>⟨fl,hk i _ h (by
  rintro rfl
  rw [k.res]at h;cases h)⟩
 have e1:=ht J' 63 (k.lt.keep ho)
 have e2:=hy J' 63 (k.ly.keep ho)
 exact mX hc.ex (by simp [bf,e1,e2])
set_option maxRecDepth 100000 in
theorem ZE.fin(k:ZE cs c s h tr ct yr cy J)(ho:∃ tg yg o,OKZ ⟨c,s,tg,tr,h,yg,yr⟩ o)
  (t':T) (ht':t'.g 2=.c (.ptr 1 0 0)):∃ z o J',OKZ z o∧stC J (.ptr 1 0 0) (cs++[.f (fi s),ct,.f (fi h),cy])=some J'∧wR [.cell (P.nat 2) (some 8)] (.a (z.row.map .f)) ⟨t',[],J'⟩:=by
 obtain⟨tg,yg,hex⟩:=k.ex
 obtain⟨tg',yg',o,ho⟩:=ho
 obtain⟨a,b,d,e,rfl⟩:=k.cal.four
 have hs:stC J (.ptr 1 0 0) ([a,b,d,e]++[.f (fi s),ct,.f (fi h),cy])=some (J.set 1 (.box ([a,b,d,e]++[.f (fi s),ct,.f (fi h),cy]) 0)):=by simp [stC,k.res,over]
 have h1:=aN k.res
 refine⟨⟨c,s,tg,tr,h,yg,yr⟩,o,_,ho.retag,hs,rfl,.a ([a,b,d,e]++[.f (fi s),ct,.f (fi h),cy]),?_,?_⟩
 ·simp [Km.results,resOne,bf,ht',h1,aQ]
 ·have:=hex (J.set 1 (.box ([a,b,d,e]++[.f (fi s),ct,.f (fi h),cy]) 0)) fun i y hy hi=>by rw [ag (by omega)];exact hy
  simp only [exV,dw,deep,this]
  rfl
theorem ZE.marked(k:ZE cs c s h tr ct yr cy J):ZE cs c s h tr ct yr cy (mkC deep cy (mkC deep ct (cs.foldl (fun H x=>mkC deep x H) J))):=by
 obtain⟨m1,m2,m3⟩:=k.cal.mk
 obtain⟨J1,hJ1⟩:∃ J1,J1=cs.foldl (fun H x=>mkC deep x H) J:=⟨_,rfl⟩
 rw [←hJ1]at m1 m2 m3 ⊢
 have lt1:=k.lt.keep m3
 have ly1:=k.ly.keep m3
 have z1:=m2 _ _ k.zb (by decide) (by decide) (by decide)
 have r1:=m2 _ _ k.res (by decide) (by decide) (by decide)
 obtain⟨a1,a2⟩:=lt1.mk
 have lt2:=lt1.keep a2
 have ly2:=ly1.keep a2
 obtain⟨b1,b2⟩:=ly2.mk
 exact⟨b1 _ _ _ (a1 _ _ _ r1),(m1.keep' fun i l fl h _=>⟨fl,a1 i l fl h⟩).keep' fun i l fl h _=>⟨fl,b1 i l fl h⟩,b1 _ _ _ (a1 _ _ _ z1),lt2.keep b2,ly2.keep b2⟩
end
end Go.Proofs.YthfeogjbpgocbaaGreat
end
section
namespace Go.Proofs.YthfeogjbpgocbaaGreat
open Go Km
theorem ZI.aBZ{x:jM}{cs:List C}{c:Nat}{s h:Int}{tr:List TrD}{ct:C}{cy:C}{t:T}{J:Heap}(k:ZI x cs c s h tr ct [] cy t J)(hcy:dO cy=none)(hl:tr.length≤2)(q:TrD) :
  ∃ c3 H3,dI (J++[.box (q.row.map .f) 0]) 2 16 (.c ct) (.c (.sl J.length 0 1 1 0 2))=some (.c c3,H3)∧stC H3 (.ptr 3 5 0) [c3]=some (H3.set 3 (qg cs s c3 h cy)) ∧
   ∀ t',t'.g 1=.c (.ptr 0 0 0)→t'.g 2=.c (.ptr 1 0 0)→t'.g 3=.c (.ptr 3 0 0)→ZI x cs c s h (tr++[q]) c3 [] cy t' (H3.set 3 (qg cs s c3 h cy)):=by
 obtain⟨J2,hJ2⟩:∃ J2:Heap,J2=J++[.box (q.row.map .f) 0]:=⟨_,rfl⟩
 rw [←hJ2]
 have up:∀ i y,J[i]?=some y→J2[i]?=some y:=fun i y hy=>by rw [hJ2,al (aN hy)];exact hy
 have hL2:LR J2 ct 2 (aT tr):=by rw [hJ2];exact k.lt.push _
 have hb2:J2[J.length]?=some (.box (q.row.map .f) 0):=by rw [hJ2];simp
 obtain⟨c3,H3,happ,hL3,hK3,hc3⟩:=hL2.app (bY tr) (by decide) (row:=q.row) rfl (bytes:=16) (iK (by simp;omega) (by decide)) hb2
 have up3:∀(i:Nat) (cs:List C) (fl:Nat),J[i]?=some (.box cs fl)→H3[i]?=some (.box cs fl):=fun i cs fl hy=>hK3.2 i _ (up _ _ hy) (hL2.dF (up _ _ hy))
 have fD:kM H3 cs c:=k.cal.keep' fun i l fl h _=>⟨fl,up3 i l fl h⟩
 have hzb:=up3 _ _ _ k.zb
 have e3:aT tr++[q.row]=aT (tr++[q]):=by simp [aT]
 rw [e3]at hL3
 refine⟨c3,H3,happ,aIG fD hzb,fun t' g1 g2 g3=>?_⟩
 refine⟨?_,?_,?_,?_,?_,?_,?_,g1,g2,g3⟩
 ·rw [ag (by decide)];exact up3 _ _ _ k.raw
 ·rw [ag (by decide)];exact up3 _ _ _ k.res
 ·exact fD.keep fun i y hy hi=>by rw [ag (by omega)];exact hy
 ·exact ax (aN hzb)
 ·exact hL3.set (hL3.dF hzb) _
 ·rcases k.ly with⟨h1,h2⟩ | ⟨h1,-⟩
  ·exact .inl ⟨h1,h2⟩
  ·exact absurd rfl h1
 ·intro i _;rw [hcy];exact fun e=>by cases e
set_option maxRecDepth 100000 in
theorem made1{x:jM}(hx:x.OK){cs:List C}{c:Nat}{s:Int}{t:T}{J:Heap}(k:ZI x cs c s 0 [] (.f .aB) [] (.f .aB) t J){Q:Option ah→St→Prop}
  (next:∀(t:T) (J:Heap) (tr:List TrD) (ct:C) (h:Int),ZI x cs c s h tr ct [] (.f .aB) t J→tr.length≤3→(∀ y ∈ tr,0≤y.at_∧y.at_<h∧-1080≤y.off∧y.off≤1080)→(∀(i:Nat) a b,tr[i]?=some a→tr[i+1]?=some b→a.at_+2160≤b.at_)→0≤h∧h≤40000 →
   WP tab.get mJ none [.code yF] ⟨t,[],J⟩ Q) :
  WP tab.get mJ none [.code BX] ⟨t,[],J⟩ Q:=by
 obtain⟨N,hN⟩:∃ N,N=min (min x.gaps.length x.Ah.length) 3:=⟨_,rfl⟩
 refine ak (aj (.inl rfl) ?_)
 simp
 refine ak (ak (aj (.inl rfl) ?_))
 simp
 refine ku N (fun j t J=>∃ tr ct at_,tr.length=j∧TrP tr at_∧ZI x cs c s 0 tr ct [] (.f .aB) t J∧t.g 4=vi at_) (by omega) (by decide) (by simp)
  ⟨[],.f .aB,0,rfl,TrP.nil,⟨k.raw,k.res,k.cal,k.zb,k.lt,k.ly,k.ne,by simp [k.g1],by simp [k.g2],by simp [k.g3]⟩,by simp⟩ ?_ ?_ ?_
 ·rintro j t J L hj ⟨tr,ct,at_,htl,hT,k,g4⟩ ha hn
  have hgl:=hx.gl
  have hol:=hx.ol
  have l1:=PE k.raw
  have l2:=PD k.raw
  have hn':∀ t',t'.g 1=t.g 1→t'.g 2=t.g 2→t'.g 3=t.g 3→t'.g 4=t.g 4→t'.g 5=t.g 5→t'.g 43=vb (decide ((j:Int)<(N:Int)))→L ⟨t',[],J⟩:=fun t' e1 e2 e3 e4 e5 e43=>
   hn t' ⟨tr,ct,at_,htl,hT,⟨k.raw,k.res,k.cal,k.zb,k.lt,k.ly,k.ne,by rw [e1];exact k.g1,by rw [e2];exact k.g2,by rw [e3];exact k.g3⟩,by rw [e4];exact g4⟩ (by rw [e5];exact ha) e43
  by_cases c1:(j:Int)<x.gaps.length
  ·by_cases c2:(j:Int)<x.Ah.length
   ·simp [k.g1,ha,l1,l2,-aG,c1,c2]
    exact hn' _ (by simp [k.g1]) (by simp [k.g2]) (by simp [k.g3]) (by simp) (by simp) (by simp;omega)
   ·simp [k.g1,ha,l1,l2,-aG,c1,c2]
    exact hn' _ (by simp [k.g1]) (by simp [k.g2]) (by simp [k.g3]) (by simp) (by simp) (by simp;omega)
  ·simp [k.g1,ha,l1,l2,-aG,c1]
   exact hn' _ (by simp [k.g1]) (by simp [k.g2]) (by simp [k.g3]) (by simp) (by simp) (by simp;omega)
 ·rintro j t J hj ⟨tr,ct,at_,htl,hT,k,g4⟩ ha nx
  have hg:j<x.gaps.length:=by omega
  have ho:j<x.Ah.length:=by omega
  have bg:=hx.ga _ (av hg)
  have bo:=hx.of _ (av ho)
  have hlo:=hT.lo
  have l1:=PE k.raw
  have l2:=PD k.raw
  have i1:=rF (g:=x.gg) hg (H:=J)
  have i2:=rF (g:=x.og) ho (H:=J)
  have d1:=vU hg (H:=J)
  have d2:=vU ho (H:=J)
  have w1:IntKind.i64.wrap (at_+2160)=at_+2160:=wrap64 (by omega) (by omega)
  have w2:IntKind.i64.wrap ((x.gaps[j]:Nat):Int)=((x.gaps[j]:Nat):Int):=wrap64 (by omega) (by omega)
  have w3:IntKind.i64.wrap (20*((x.gaps[j]:Nat):Int))=20*((x.gaps[j]:Nat):Int):=wrap64 (by omega) (by omega)
  have w4:IntKind.i64.wrap (at_+2160+20*((x.gaps[j]:Nat):Int))=at_+2160+20*((x.gaps[j]:Nat):Int):=wrap64 (by omega) (by omega)
  have hso:=E5 bo
  obtain⟨c3,H3,happ,hst,hk⟩:=k.aBZ rfl (by omega) ⟨at_+2160+20*((x.gaps[j]:Nat):Int),pK x.Ah[j]⟩
  simp only [TrD.row,aR,bh]at happ
  refine aH (ak (aj (.inl rfl) ?_))
  simp [k.g1,g4,ha,l1,i1,d1,-aG,w1,w2,w3,w4]
  refine aj (.inl rfl) ?_
  simp [k.g1,k.g3,ha,l2,i2,d2,-aG,hso,aII k.cal k.zb,happ,hst,-bI]
  refine aI ?_
  refine nx _ _ ⟨_,_,_,by simp;omega,hT.app (by omega) bg (m:=x.Ah[j]),hk _ (by simp [k.g1]) (by simp [k.g2]) (by simp [k.g3]),by simp⟩ (by simp [ha])
 rintro t J ⟨tr,ct,at_,htl,hT,k,g4⟩ ha
 have hlo:=hT.lo
 have bb:=hx.be
 have l3:=aIX k.raw
 have w1:IntKind.i64.wrap (at_+2160)=at_+2160:=wrap64 (by omega) (by omega)
 have w2:IntKind.i64.wrap ((x.be:Nat):Int)=((x.be:Nat):Int):=wrap64 (by omega) (by omega)
 have w3:IntKind.i64.wrap (20*((x.be:Nat):Int))=20*((x.be:Nat):Int):=wrap64 (by omega) (by omega)
 have w4:IntKind.i64.wrap (at_+2160+20*((x.be:Nat):Int))=at_+2160+20*((x.be:Nat):Int):=wrap64 (by omega) (by omega)
 refine ak (aj (.inl rfl) ?_)
 simp [k.g1,k.g3,g4,l3,-aG,w1,w2,w3,w4,aIH k.cal k.zb,-bI]
 refine next _ _ tr ct (at_+2160+20*((x.be:Nat):Int)) ⟨?_,?_,?_,?_,?_,?_,k.ne,by simp [k.g1],by simp [k.g2],by simp [k.g3]⟩ hT.tl (fun y hy=>by have:=hT.tb y hy;omega) hT.ts (by omega)
 ·rw [ag (by decide)];exact k.raw
 ·rw [ag (by decide)];exact k.res
 ·exact k.cal.keep fun i y hy hi=>by rw [ag (by omega)];exact hy
 ·exact ax (aN k.zb)
 ·exact k.lt.set (k.lt.dF k.zb) _
 ·exact k.ly.set (k.ly.dF k.zb) _
end Go.Proofs.YthfeogjbpgocbaaGreat
end
section
namespace Go.Proofs.YthfeogjbpgocbaaGreat
open Go Km
theorem ZI.aBV{x:jM}{cs:List C}{c:Nat}{s h:Int}{tr:List TrD}{ct:C}{yr:List YrD}{cy:C}{t:T}{J:Heap}(k:ZI x cs c s h tr ct yr cy t J)(hl:yr.length≤2)(q:YrD) :
  ∃ c3 H3,dI (J++[.box (q.row.map .f) 0]) 5 40 (.c cy) (.c (.sl J.length 0 1 1 0 5))=some (.c c3,H3)∧stC H3 (.ptr 3 7 0) [c3]=some (H3.set 3 (qg cs s ct h c3)) ∧
   (∀(b:Nat) (l:List C) (fl:Nat),J[b]?=some (.box l fl)→b≠3→(H3.set 3 (qg cs s ct h c3))[b]?=some (.box l fl)) ∧
   ∀ t',t'.g 1=.c (.ptr 0 0 0)→t'.g 2=.c (.ptr 1 0 0)→t'.g 3=.c (.ptr 3 0 0)→ZI x cs c s h tr ct (yr++[q]) c3 t' (H3.set 3 (qg cs s ct h c3)):=by
 obtain⟨J2,hJ2⟩:∃ J2:Heap,J2=J++[.box (q.row.map .f) 0]:=⟨_,rfl⟩
 rw [←hJ2]
 have up:∀ i y,J[i]?=some y→J2[i]?=some y:=fun i y hy=>by rw [hJ2,al (aN hy)];exact hy
 have hL2:LR J2 cy 5 (bK yr):=by rw [hJ2];exact k.ly.push _
 have hb2:J2[J.length]?=some (.box (q.row.map .f) 0):=by rw [hJ2];simp
 obtain⟨c3,H3,happ,hL3,hK3,hc3⟩:=hL2.app (mP yr) (by decide) (row:=q.row) rfl (bytes:=40) (iK (by simp;omega) (by decide)) hb2
 have up3:∀(i:Nat) (cs:List C) (fl:Nat),J[i]?=some (.box cs fl)→H3[i]?=some (.box cs fl):=fun i cs fl hy=>hK3.2 i _ (up _ _ hy) (hL2.dF (up _ _ hy))
 have fD:kM H3 cs c:=k.cal.keep' fun i l fl h _=>⟨fl,up3 i l fl h⟩
 have hzb:=up3 _ _ _ k.zb
 have e3:bK yr++[q.row]=bK (yr++[q]):=by simp [bK]
 rw [e3]at hL3
 have hLt:LR H3 ct 2 (aT tr):=k.lt.keep fun i y hy hi=>hK3.2 i y (up _ _ hy) (k.ne i hi)
 refine⟨c3,H3,happ,aBl fD hzb,fun b l fl hb hb3=>by rw [ag (Ne.symm hb3)];exact up3 _ _ _ hb,fun t' g1 g2 g3=>?_⟩
 refine⟨?_,?_,?_,?_,?_,?_,?_,g1,g2,g3⟩
 ·rw [ag (by decide)];exact up3 _ _ _ k.raw
 ·rw [ag (by decide)];exact up3 _ _ _ k.res
 ·exact fD.keep fun i y hy hi=>by rw [ag (by omega)];exact hy
 ·exact ax (aN hzb)
 ·exact hLt.set (hLt.dF hzb) _
 ·exact hL3.set (hL3.dF hzb) _
 ·intro i hi
  rcases hc3 with e | e
  ·rw [e];exact k.ne i hi
  ·rw [e]
   intro e'
   cases e'
   have:=k.lt.lt hi
   have h2:J2.length=J.length+1:=by rw [hJ2];simp
   omega
theorem ZI.aBU{x:jM}{cs:List C}{c:Nat}{s h:Int}{tr:List TrD}{ct:C}{yr:List YrD}{q:YrD}{cy:C}{t:T}{J:Heap}(k:ZI x cs c s h tr ct (yr++[q]) cy t J)(hl:yr.length≤1) :
  ∃ b ep H3,aV J 5 none (.c cy) (vi yr.length)=some (.c (.ptr b (yr.length*5) ep))∧stC J (.ptr b (yr.length*5+1) ep) [.f (fi 5)]=some H3 ∧
   ∀ t',t'.g 1=.c (.ptr 0 0 0)→t'.g 2=.c (.ptr 1 0 0)→t'.g 3=.c (.ptr 3 0 0)→ZI x cs c s h tr ct (yr++[⟨q.mo,5,q.wd,q.mi,q.off⟩]) cy t' H3:=by
 rcases k.ly with⟨h1,_⟩ | ⟨_,b,ep,e,hb⟩
 ·simp [bK]at h1
 subst e
 unfold RB at hb
 have hbx:∀(i:Nat) (l:List C) (fl:Nat),J[i]?=some (.box l fl)→b≠i:=by
  rintro i l fl hi rfl;rw [hb]at hi;cases hi
 have hbt:dO ct≠some b:=fun e=>k.ne b e rfl
 have key:∃ cs',stC J (.ptr b (yr.length*5+1) ep) [.f (fi 5)]=some (J.set b (.opn 5 cs' 0 ep .loc))∧cs'=(bK (yr++[⟨q.mo,5,q.wd,q.mi,q.off⟩])).flatten.map .f:=by
  match yr,hl,hb with
  | [],_,hb=>exact⟨_,by simp [stC,hb,over,bK,YrD.row];rfl,by simp [bK,YrD.row]⟩
  | [p],_,hb=>exact⟨_,by simp [stC,hb,over,bK,YrD.row];rfl,by simp [bK,YrD.row]⟩
  | _::_::_,hl,_=>simp at hl
 obtain⟨cs',hst,hcs⟩:=key
 refine⟨b,ep,_,?_,hst,fun t' g1 g2 g3=>?_⟩
 ·simp [aV,jm,hb]
  omega
 refine⟨?_,?_,?_,?_,?_,?_,?_,g1,g2,g3⟩
 ·rw [ag (hbx _ _ _ k.raw)];exact k.raw
 ·rw [ag (hbx _ _ _ k.res)];exact k.res
 ·exact k.cal.keep' fun i l fl h _=>⟨fl,by rw [ag (hbx _ _ _ h)];exact h⟩
 ·rw [ag (hbx _ _ _ k.zb)];exact k.zb
 ·exact k.lt.set hbt _
 ·refine .inr ⟨by simp [bK],b,ep,?_,?_⟩
  ·simp
  ·unfold RB
   rw [ax (aN hb),hcs]
 ·exact k.ne
end Go.Proofs.YthfeogjbpgocbaaGreat
end
section
namespace Go.Proofs.YthfeogjbpgocbaaGreat
open Go Km
set_option maxRecDepth 100000 in
theorem aKL{x:jM}(hx:x.OK){cs:List C}{c:Nat}{s h:Int}{tr:List TrD}{ct:C}{yr:List YrD}{cy:C}{t:T}{J:Heap}(k:ZI x cs c s h tr ct yr cy t J){j:Nat}(hj:j<2)(hjl:yr.length=j)(g6:t.g 6=vi j){K:List cu}{Q:Option ah→St→Prop}
  (next:∀(t:T) (J:Heap) (q:YrD) (cy:C),q.OK→ZI x cs c s h tr ct (yr++[q]) cy t J→t.g 6=vi j→WP tab.get mJ none K ⟨t,[],J⟩ Q) :
  WP tab.get mJ none (.code EN::K) ⟨t,[],J⟩ Q:=by
 have y0:=hx.y j 0 hj (by decide)
 have y1:=hx.y j 1 hj (by decide)
 have y2:=hx.y j 2 hj (by decide)
 have y3:=hx.y j 3 hj (by decide)
 have lr:=aPs k.raw hj
 have hib:aV J 4 (some 2) (.c (.ptr 0 4 0)) (vi j)=some (.c (.ptr 0 (4+j*4) 0)):=by simp [aV,jm];omega
 refine aH (ak (aj (.inl rfl) ?_))
 simp [k.g1,g6,hib,lr,-aG]
 obtain⟨J1,hJ1⟩:∃ J1:Heap,J1=J++[.box [.f (u8 (x.y j 0)),.f (u8 (x.y j 1)),.f (u8 (x.y j 2)),.f (u8 (x.y j 3))] 0]:=⟨_,rfl⟩
 rw [←hJ1]
 have up:∀ i y,J[i]?=some y→J1[i]?=some y:=fun i y hy=>by rw [hJ1,al (aN hy)];exact hy
 have eb:J1[J.length]?=some (.box [.f (u8 (x.y j 0)),.f (u8 (x.y j 1)),.f (u8 (x.y j 2)),.f (u8 (x.y j 3))] 0):=by rw [hJ1];simp
 have k1:∀ t',t'.g 1=.c (.ptr 0 0 0)→t'.g 2=.c (.ptr 1 0 0)→t'.g 3=.c (.ptr 3 0 0)→ZI x cs c s h tr ct yr cy t' J1:=fun t' g1 g2 g3=>
  ⟨up _ _ k.raw,up _ _ k.res,k.cal.keep fun i y hy _=>up i y hy,up _ _ k.zb,by rw [hJ1];exact k.lt.push _,by rw [hJ1];exact k.ly.push _,k.ne,g1,g2,g3⟩
 have n3:J.length≠3:=by have:=aN k.zb;omega
 have k1':=k1 t k.g1 k.g2 k.g3
 have l0:ldV J1 none (.c (.ptr J.length 0 0))=some (.c (.f (u8 (x.y j 0)))):=by simp [ldV,aP,eb,aQ]
 have l1:ldV J1 none (.c (.ptr J.length 1 0))=some (.c (.f (u8 (x.y j 1)))):=by simp [ldV,aP,eb,aQ]
 have l2:ldV J1 none (.c (.ptr J.length 2 0))=some (.c (.f (u8 (x.y j 2)))):=by simp [ldV,aP,eb,aQ]
 have i0:aV J1 1 (some 4) (.c (.ptr J.length 0 0)) (vi 0)=some (.c (.ptr J.length 0 0)):=by simp [aV,jm]
 have i1:aV J1 1 (some 4) (.c (.ptr J.length 0 0)) (vi 1)=some (.c (.ptr J.length 1 0)):=by simp [aV,jm]
 have i2:aV J1 1 (some 4) (.c (.ptr J.length 0 0)) (vi 2)=some (.c (.ptr J.length 2 0)):=by simp [aV,jm]
 have r0:bM .rem (.c (.f (u8 (x.y j 0)))) (.c (.f (.int .u8 3)))=some (.c (.f (u8 (x.y j 0 % 3)))):=wY _ (by decide)
 have r2:bM .rem (.c (.f (u8 (x.y j 2)))) (.c (.f (.int .u8 5)))=some (.c (.f (u8 (x.y j 2 % 5)))):=wY _ (by decide)
 have r3:bM .rem (.c (.f (u8 (x.y j 3)))) (.c (.f (.int .u8 2)))=some (.c (.f (u8 (x.y j 3 % 2)))):=wY _ (by decide)
 have hso:=E5 (n:=x.y j 2 % 5) (by omega)
 have w0:IntKind.i64.wrap (1+(j:Int))=1+(j:Int):=wrap64 (by omega) (by omega)
 have w1:IntKind.i64.wrap ((x.y j 0:Int) % 3)=(x.y j 0:Int) % 3:=wrap64 (by omega) (by omega)
 have w2:IntKind.i64.wrap ((x.y j 1:Nat):Int)=((x.y j 1:Nat):Int):=wrap64 (by omega) (by omega)
 have w3:IntKind.i64.wrap (((x.y j 1:Nat):Int)*5)=((x.y j 1:Nat):Int)*5:=wrap64 (by omega) (by omega)
 obtain⟨c3,H3,happ,hst,hbk,hk⟩:=k1'.aBV (by omega) ⟨1+(j:Int),1,(x.y j 0:Int) % 3,((x.y j 1:Nat):Int)*5,pK (x.y j 2 % 5)⟩
 have hq1:YrD.OK ⟨1+(j:Int),1,(x.y j 0:Int) % 3,((x.y j 1:Nat):Int)*5,pK (x.y j 2 % 5)⟩:=
  ⟨by simp only;omega,.inl rfl,by simp only;omega,by simp only;omega,by simp only;omega,by simp only;omega,(nX _).1,(nX _).2⟩
 have hq5:YrD.OK ⟨1+(j:Int),5,(x.y j 0:Int) % 3,((x.y j 1:Nat):Int)*5,pK (x.y j 2 % 5)⟩:=
  ⟨by simp only;omega,.inr rfl,by simp only;omega,by simp only;omega,by simp only;omega,by simp only;omega,(nX _).1,(nX _).2⟩
 simp only [YrD.row,aR,bh]at happ
 refine ak (aj (.inl rfl) ?_)
 simp [k.g3,g6,aBm k1'.cal k1'.zb,-aG,i0,i1,i2,l0,l1,l2,r0,r2,hso,w0,w1,w2,w3,happ,hst,-bI]
 obtain⟨J4,hJ4⟩:∃ J4:Heap,J4=H3.set 3 (qg cs s ct h c3):=⟨_,rfl⟩
 rw [←hJ4]at hk hbk ⊢
 have eb4:=hbk _ _ _ eb n3
 have l3:ldV J4 none (.c (.ptr J.length 3 0))=some (.c (.f (u8 (x.y j 3)))):=by simp [ldV,aP,eb4,aQ]
 have i3:aV J4 1 (some 4) (.c (.ptr J.length 0 0)) (vi 3)=some (.c (.ptr J.length 3 0)):=by simp [aV,jm]
 have hk':=hk t k.g1 k.g2 k.g3
 refine ak (aj (.inl rfl) ?_)
 by_cases h3:x.y j 3 % 2=1
 ·simp [i3,l3,r3,-aG,h3]
  refine aA (by simp) (aj (.inl rfl) ?_)
  obtain⟨b,ep,H5,hix,hst5,hk5⟩:=hk'.aBU (by omega)
  rw [hjl]at hix hst5
  simp [k.g3,g6,aBm hk'.cal hk'.zb,-aG,hix,hst5,-bI]
  exact aI (next _ _ _ _ hq5 (hk5 _ (by simp [k.g1]) (by simp [k.g2]) (by simp [k.g3])) (by simp [g6]))
 ·have h3':x.y j 3 % 2=0:=by omega
  simp [i3,l3,r3,-aG,h3']
  refine ay (by simp) (aF ?_)
  exact aI (next _ _ _ _ hq1 (hk _ (by simp [k.g1]) (by simp [k.g2]) (by simp [k.g3])) (by simp [g6]))
end Go.Proofs.YthfeogjbpgocbaaGreat
end
section
namespace Go.Proofs.YthfeogjbpgocbaaGreat
open Go Km
set_option maxRecDepth 100000 in
theorem made2{x:jM}(hx:x.OK){cs:List C}{c:Nat}{s h:Int}{tr:List TrD}{ct:C}{t:T}{J:Heap}(k:ZI x cs c s h tr ct [] (.f .aB) t J)(hs:-1080≤s∧s≤1080)(htl:tr.length≤3)(htb:∀ y ∈ tr,0≤y.at_∧y.at_<h∧-1080≤y.off∧y.off≤1080)
  (hts:∀(i:Nat) a b,tr[i]?=some a→tr[i+1]?=some b→a.at_+2160≤b.at_) (hh:0≤h∧h≤40000) {Q:Option ah→St→Prop}
  (hQ:∀ j s z o,OKZ z o→wR [.cell (P.nat 2) (some 8)] (.a (z.row.map .f)) s→Q j s) :
  WP tab.get mJ none [.code yF] ⟨t,[],J⟩ Q:=by
 have hc:=k.cal.lt
 have pre:∀(tg yg:Tg) (yr:List YrD),ayH ⟨c,s,tg,tr,h,yg,yr⟩:=fun tg yg yr=>⟨hc,hs,htl,htb,hts,hh⟩
 refine ak (ak (aj (.inl rfl) ?_))
 cases hr:x.rules with
 | false=>
  simp [k.g1,Iy k.raw,-aG,hr]
  refine aA (by simp) (ak (aj (.inl rfl) ?_))
  obtain⟨z,o,J',hz,hst,hf⟩:=k.e.fin ⟨.nil,.nil,[],(pre .nil .nil []).none rfl⟩ (((t.s 77 (.c (.ptr 0 13 0))).s 78 (vb false)).s 79 (vb true) |>.s 80 (.a (cs++[.f (fi s),ct,.f (fi h),.f .aB]))) (by simp [k.g2])
  have hl4:cs.length=4:=by obtain⟨a,b,d,e,e4⟩:=k.cal.four;rw [e4];rfl
  simp [k.g2,k.g3,J9 k.cal k.zb,-aG,hl4,hst,-bI]
  exact aO (hQ _ _ z o hz hf)
 | true=>
  simp [k.g1,Iy k.raw,-aG,hr]
  refine ay (by simp) (aF ?_)
  refine ak (ak (aj (.inl rfl) ?_))
  simp
  refine ku 2 (fun j t J=>∃ yr cy,yr.length=j∧(∀ q ∈ yr,q.OK)∧ZI x cs c s h tr ct yr cy t J) (by decide) (by decide) (by simp)
   ⟨[],_,rfl,by simp,⟨k.raw,k.res,k.cal,k.zb,k.lt,k.ly,k.ne,by simp [k.g1],by simp [k.g2],by simp [k.g3]⟩⟩ ?_ ?_ ?_
  ·rintro j t J L hj ⟨yr,cy,hyl,hyo,k⟩ ha hn
   simp [ha]
   exact hn _ ⟨yr,cy,hyl,hyo,⟨k.raw,k.res,k.cal,k.zb,k.lt,k.ly,k.ne,by simp [k.g1],by simp [k.g2],by simp [k.g3]⟩⟩ (by simp [ha]) (by simp)
  ·rintro j t J hj ⟨yr,cy,hyl,hyo,k⟩ ha nx
   refine aKL hx k hj hyl ha fun t J q cy hq k g6=>?_
   refine nx _ _ ⟨yr++[q],cy,by simp;omega,fun p hp=>?_,⟨k.raw,k.res,k.cal,k.zb,k.lt,k.ly,k.ne,by simp [k.g1],by simp [k.g2],by simp [k.g3]⟩⟩ g6
   rcases bS.1 hp with hp | hp
   ·exact hyo p hp
   ·simp at hp;subst hp;exact hq
  rintro t J ⟨yr,cy,hyl,hyo,k⟩ ha
  obtain⟨r,q,rfl⟩:∃ r q,yr=[r,q]:=by
   match yr,hyl with
   | [r,q],_=>exact⟨r,q,rfl⟩
  obtain⟨tg,yg,hex⟩:=k.e.ex
  obtain⟨e,hv,he⟩:=Kv (pre tg yg [r,q]) (r:=r) (q:=q) rfl (hyo r (by simp)) (hyo q (by simp))
  have hex':=hex J (fun _ _ h _=>h)
  have hvv:dw deep J (.a (cs++[.f (fi s),ct,.f (fi h),cy]))=some (ZD.v ⟨c,s,tg,tr,h,yg,[r,q]⟩):=by
   simp only [dw,deep,hex'];rfl
  have tail:∀(t:T) (J:Heap) (yr:List YrD) (cy:C),ZE cs c s h tr ct yr cy J→t.g 2=.c (.ptr 1 0 0)→t.g 3=.c (.ptr 3 0 0)→(∃ tg yg o,OKZ ⟨c,s,tg,tr,h,yg,yr⟩ o)→WP tab.get mJ none [.code EM] ⟨t,[],J⟩ Q:=by
   intro t J yr cy k g2 g3 ho
   refine ak (aj (.inl rfl) ?_)
   obtain⟨z,o,J',hz,hst,hf⟩:=k.fin ho (t.s 122 (.a (cs++[.f (fi s),ct,.f (fi h),cy]))) (by simp [g2])
   have hl4:cs.length=4:=by obtain⟨a,b,d,e,e4⟩:=k.cal.four;rw [e4];rfl
   simp [g2,g3,J9 k.cal k.zb,-aG,hl4,hst,-bI]
   exact aO (hQ _ _ z o hz hf)
  have km:=k.e.marked
  refine ak (ak (aj (.inl rfl) ?_))
  simp only [dw]at hvv
  simp [k.g3,J9 k.cal k.zb,-aG]
  simp only [hvv,bR,ayK,hv,aNc]
  obtain⟨J5,hJ5⟩:∃ J5,J5=mkC deep cy (mkC deep ct (List.foldl (fun H x=>mkC deep x H) J cs)):=⟨_,rfl⟩
  rw [←hJ5]at km ⊢
  simp
  by_cases h0:e=0
  ·subst h0
   obtain⟨o,ho⟩:=he rfl
   simp
   refine ay (by simp) (aF ?_)
   exact tail _ _ _ _ km (by simp [k.g2]) (by simp [k.g3]) ⟨_,_,o,ho⟩
  ·simp [h0]
   refine aA (by simp) (aj (.inl rfl) ?_)
   simp [k.g3,aBl km.cal km.zb,-bI]
   refine tail _ _ [] (.f .aB) ⟨?_,?_,?_,?_,.inl ⟨rfl,.inl rfl⟩⟩ (by simp [k.g2]) (by simp [k.g3]) ⟨.nil,.nil,[],(pre .nil .nil []).none rfl⟩
   ·rw [ag (by decide)];exact km.res
   ·exact km.cal.keep fun i y hy hi=>by rw [ag (by omega)];exact hy
   ·exact ax (aN km.zb)
   ·exact km.lt.keep fun i s l fl ep st h=>⟨fl,by rw [ag (by rintro rfl;rw [km.zb]at h;cases h)];exact h⟩
end Go.Proofs.YthfeogjbpgocbaaGreat
end
section
namespace Go.Proofs.YthfeogjbpgocbaaGreat
open Go Km
set_option maxRecDepth 100000 in
theorem RY{x:jM}(hx:x.OK):∃ z o,OKZ z o∧Km.Pure tab.get mJ [.a (x.row.map .f)]=Eq (.a (z.row.map .f)):=by
 obtain⟨rr,⟨z,o,hz,rfl⟩,hp⟩:∃ rr,(∃ z o,OKZ z o∧rr=.a (z.row.map .f))∧Km.Pure tab.get mJ [.a (x.row.map .f)] rr:=by
  refine iL aH9 rfl fun Q hQ=>?_
  have hQ':∀ j s z o,OKZ z o→wR [.cell (P.nat 2) (some 8)] (.a (z.row.map .f)) s→Q j s:=fun j s z o h1 h2=>hQ j s _ ⟨z,o,h1,rfl⟩ h2
  have hs:=nX x.st
  have hso:=E5 hx.st
  have fD:=hx.cal
  have rest:∀(t:T) (J:Heap) (cs:List C) (c:Nat),ZI x cs c (pK x.st) 0 [] (.f .aB) [] (.f .aB) t J→WP tab.get mJ none [.code BX] ⟨t,[],J⟩ Q:=fun t J cs c k=>
   made1 hx k fun t J tr ct h k htl htb hts hh=>made2 hx k hs htl htb hts hh hQ'
  refine ak (aj (.inl rfl) ?_)
  simp
  obtain⟨B0,hB0⟩:∃ B0:Blk,B0=.box (x.row.map .f) 0:=⟨_,rfl⟩
  rw [←hB0]
  have l0:∀(b1:Blk) (J:Heap),ldV (B0::b1::J) none (.c (.ptr 0 0 0))=some (.c (.f (u8 x.st))):=fun b1 J=>by simp [ldV,aP,hB0,aQ,jM.row]
  have l12:∀(b1:Blk) (J:Heap),ldV (B0::b1::J) none (.c (.ptr 0 12 0))=some (.c (.f (u8 x.cal))):=fun b1 J=>by simp [ldV,aP,hB0,aQ,jM.row]
  have r2:bM .rem (.c (.f (u8 x.cal))) (.c (.f (.int .u8 2)))=some (.c (.f (u8 (x.cal % 2)))):=wY _ (by decide)
  have q2:bM .quo (.c (.f (u8 x.cal))) (.c (.f (.int .u8 2)))=some (.c (.f (u8 (x.cal / 2)))):=u8_quo fD (by decide)
  have r4:bM .rem (.c (.f (u8 (x.cal / 2)))) (.c (.f (.int .u8 2)))=some (.c (.f (u8 (x.cal / 2 % 2)))):=wY _ (by decide)
  have w4:IntKind.i64.wrap ((x.cal:Int) / 2 % 2)=(x.cal:Int) / 2 % 2:=wrap64 (by omega) (by omega)
  refine ak (aj (.inl rfl) ?_)
  simp [l0,-aG,hso]
  refine ak (ak (aj (.inl rfl) ?_))
  by_cases hodd:x.cal % 2=1
  ·simp [l12,-aG,r2,hodd]
   refine aA (by simp) (aj (.inl rfl) ?_)
   simp [l12,-aG,q2,r4,w4]
   refine rest _ _ [.f (fi 5),.sl 4 0 2 2 0 1,.f (fi 1),.sl 5 0 1 1 0 3] (x.cal / 2 % 2+1) ⟨by rw [hB0];rfl,rfl,.inr ⟨x.cal / 2 % 2,by omega,rfl,rfl,⟨0,rfl⟩,0,rfl⟩,rfl,LR.nil _ _,LR.nil _ _,(fun i h=>by cases h),by simp,by simp,by simp⟩
  ·have h0:x.cal % 2=0:=by omega
   simp [l12,-aG,r2,h0]
   refine ay (by simp) (aF ?_)
   refine rest _ _ [.f (fi 2),.sl 2 0 2 2 0 1,.f (fi (-1)),.f .aB] 0 ⟨by rw [hB0];rfl,rfl,.inl ⟨rfl,rfl,0,rfl⟩,rfl,LR.nil _ _,LR.nil _ _,(fun i h=>by cases h),by simp,by simp,by simp⟩
 exact⟨z,o,hz,hp.eq⟩
end Go.Proofs.YthfeogjbpgocbaaGreat
end
section
namespace Go.Proofs.YthfeogjbpgocbaaGreat
open Go Km
def atN(b:List Nat)(i:Nat):Nat:=b[i]?.getD 0
theorem GY{b:List Nat}(h:∀ n ∈ b,n<256)(i:Nat):atN b i<256:=by
 unfold atN
 by_cases hi:i<b.length
 ·rw [ae hi];exact h _ (av hi)
 ·rw [co.2 (by omega)];decide
theorem D6(g:Tg)(b:List Nat)(hb:∀ n ∈ b,n<256)(hl:b.length≤9223372036854775807)(i:Nat)(hi:i≤1000):Km.Pure tab.get jL [.c (.f (sl g (dZ b))),vi i]=Eq (vi (atN b i:Nat)):=Km.Pure.eq (by
 refine dD aIb rfl fun Q hQ=>?_
 refine ak (aj (.inl rfl) ?_)
 simp
 refine ak (ak (aj (.inl rfl) ?_))
 simp
 by_cases h:i<b.length
 ·have h1:=rF (g:=g) h (H:=[])
  have h2:=vU h (H:=[])
  have h3:=hb _ (av h)
  have w:IntKind.i64.wrap ((b[i]:Nat):Int)=((b[i]:Nat):Int):=wrap64 (by omega) (by omega)
  refine aA (by simp [h]) (ak (aj (.inl rfl) ?_))
  simp [h1,h2,w]
  refine aO (hQ _ _ ?_)
  simp [atN,ae h]
 ·refine ay (by simp [h]) (aF ?_)
  refine ak (aj (.inl rfl) ?_)
  simp
  refine aO (hQ _ _ ?_)
  simp [atN,co.2 (show b.length≤i by omega)])
theorem Dk{limit:Int}:∀ {l:List Int} {last:Int},(∀ x ∈ l,last<x∧x<limit)→l.Pairwise (· < ·)→fP limit last l=true
 | [],_,_,_=>rfl
 | n::r,last,h,hp=>by
  have h0:=h n bB
  rw [List.pairwise_cons]at hp
  simp only [fP,decide_eq_true h0.1,decide_eq_true h0.2,Bool.true_and]
  exact Dk (fun x hx=>⟨hp.1 x hx,(h x (bO _ hx)).2⟩) hp.2
def Up(l:List Int)(n:Nat):Prop:=(∀ x ∈ l,0≤x∧x<n)∧l.Pairwise (· < ·)∧l.length≤n
theorem Up.nil:Up [] 0:=⟨by simp,List.Pairwise.nil,by simp⟩
theorem Up.skip{l:List Int}{n:Nat}(h:Up l n):Up l (n+1):=⟨fun x hx=>by have:=h.1 x hx;omega,h.2.1,by have:=h.2.2;omega⟩
theorem Up.app{l:List Int}{n:Nat}(h:Up l n):Up (l++[(n:Int)]) (n+1):=by
 refine⟨fun x hx=>?_,?_,by simp;exact h.2.2⟩
 ·rcases bS.1 hx with hx | hx
  ·have:=h.1 x hx;omega
  ·simp at hx;subst hx;omega
 ·rw [dm]
  exact⟨h.2.1,cV _ _,fun a ha b hb=>by simp at hb;subst hb;have:=h.1 a ha;omega⟩
theorem Up.rising{l:List Int}{n:Nat}(h:Up l n):fP n (-1) l=true:=Dk (fun x hx=>by have:=h.1 x hx;omega) h.2.1
theorem jX(l:List Int):Grid 1 (ints l):=Grid.map fun _=>rfl
structure FI(b:V)(fr per:Nat)(hd cy:List Int)(ch cc:C)(t:T)(J:Heap):Prop where
 res:J[0]?=some (.box [.f .aB,.f (fi 0),.f (fi 0),.f .aB] 0)
 pb:J[1]?=some (.box [ch,.f (fi fr),.f (fi per),cc] 0)
 lh:LR J ch 1 (ints hd)
 lc:LR J cc 1 (ints cy)
 ne:∀ i,dO ch=some i→dO cc≠some i
 g0:t.g 0=b
 g2:t.g 2=.c (.ptr 0 0 0)
 g3:t.g 3=.c (.ptr 1 0 0)
section
variable{b:V}{fr per:Nat}{hd cy:List Int}{ch cc:C}{t:T}{J:Heap}
theorem FI.to(k:FI b fr per hd cy ch cc t J){t':T}(g0:t'.g 0=b)(g2:t'.g 2=.c (.ptr 0 0 0))(g3:t'.g 3=.c (.ptr 1 0 0)):FI b fr per hd cy ch cc t' J:=⟨k.res,k.pb,k.lh,k.lc,k.ne,g0,g2,g3⟩
theorem FI.ayv(k:FI b fr per hd cy ch cc t J)(hl:cy.length≤1000)(n:Int) :
  ∃ c3 H3,dI (J++[.box [.f (fi n)] 0]) 1 8 (.c cc) (.c (.sl J.length 0 1 1 0 1))=some (.c c3,H3)∧stC H3 (.ptr 1 3 0) [c3]=some (H3.set 1 (.box [ch,.f (fi fr),.f (fi per),c3] 0)) ∧
   ∀ t':T,t'.g 0=b→t'.g 2=.c (.ptr 0 0 0)→t'.g 3=.c (.ptr 1 0 0)→FI b fr per hd (cy++[n]) ch c3 t' (H3.set 1 (.box [ch,.f (fi fr),.f (fi per),c3] 0)):=by
 obtain⟨J2,hJ2⟩:∃ J2:Heap,J2=J++[.box ([fi n].map .f) 0]:=⟨_,rfl⟩
 have up:∀ i y,J[i]?=some y→J2[i]?=some y:=fun i y hy=>by rw [hJ2,al (aN hy)];exact hy
 have hL2:LR J2 cc 1 (ints cy):=by rw [hJ2];exact k.lc.push _
 have hb2:J2[J.length]?=some (.box ([fi n].map .f) 0):=by rw [hJ2];simp
 obtain⟨c3,H3,happ,hL3,hK3,hc3⟩:=hL2.app (jX cy) (by decide) (row:=[fi n]) rfl (bytes:=8) (iK (by simp [ints];omega) (by decide)) hb2
 have up3:∀(i:Nat) (cs:List C) (fl:Nat),J[i]?=some (.box cs fl)→H3[i]?=some (.box cs fl):=fun i cs fl hy=>hK3.2 i _ (up _ _ hy) (hL2.dF (up _ _ hy))
 have hpb:=up3 _ _ _ k.pb
 have e3:ints cy++[[fi n]]=ints (cy++[n]):=by simp [ints]
 rw [e3]at hL3
 have hLh:LR H3 ch 1 (ints hd):=k.lh.keep fun i y hy hi=>hK3.2 i y (up _ _ hy) (k.ne i hi)
 refine⟨c3,H3,by rw [hJ2]at happ;exact happ,by simp [stC,hpb,over],fun t' g0 g2 g3=>⟨?_,ax (aN hpb),hLh.set (hLh.dF hpb) _,hL3.set (hL3.dF hpb) _,?_,g0,g2,g3⟩⟩
 ·rw [ag (by decide)];exact up3 _ _ _ k.res
 ·intro i hi
  rcases hc3 with e | e
  ·rw [e];exact k.ne i hi
  ·rw [e]
   intro e'
   cases e'
   have:=k.lh.lt hi
   have h2:J2.length=J.length+1:=by rw [hJ2];simp
   omega
theorem FI.ajs(k:FI b fr per hd cy ch cc t J)(hl:hd.length≤1000)(n:Int) :
  ∃ c3 H3,dI (J++[.box [.f (fi n)] 0]) 1 8 (.c ch) (.c (.sl J.length 0 1 1 0 1))=some (.c c3,H3)∧stC H3 (.ptr 1 0 0) [c3]=some (H3.set 1 (.box [c3,.f (fi fr),.f (fi per),cc] 0)) ∧
   ∀ t':T,t'.g 0=b→t'.g 2=.c (.ptr 0 0 0)→t'.g 3=.c (.ptr 1 0 0)→FI b fr per (hd++[n]) cy c3 cc t' (H3.set 1 (.box [c3,.f (fi fr),.f (fi per),cc] 0)):=by
 obtain⟨J2,hJ2⟩:∃ J2:Heap,J2=J++[.box ([fi n].map .f) 0]:=⟨_,rfl⟩
 have up:∀ i y,J[i]?=some y→J2[i]?=some y:=fun i y hy=>by rw [hJ2,al (aN hy)];exact hy
 have hL2:LR J2 ch 1 (ints hd):=by rw [hJ2];exact k.lh.push _
 have hb2:J2[J.length]?=some (.box ([fi n].map .f) 0):=by rw [hJ2];simp
 obtain⟨c3,H3,happ,hL3,hK3,hc3⟩:=hL2.app (jX hd) (by decide) (row:=[fi n]) rfl (bytes:=8) (iK (by simp [ints];omega) (by decide)) hb2
 have up3:∀(i:Nat) (cs:List C) (fl:Nat),J[i]?=some (.box cs fl)→H3[i]?=some (.box cs fl):=fun i cs fl hy=>hK3.2 i _ (up _ _ hy) (hL2.dF (up _ _ hy))
 have hpb:=up3 _ _ _ k.pb
 have e3:ints hd++[[fi n]]=ints (hd++[n]):=by simp [ints]
 rw [e3]at hL3
 have hLc:LR H3 cc 1 (ints cy):=k.lc.keep fun i y hy hi=>hK3.2 i y (up _ _ hy) (fun e=>k.ne i e hi)
 refine⟨c3,H3,by rw [hJ2]at happ;exact happ,by simp [stC,hpb,over],fun t' g0 g2 g3=>⟨?_,ax (aN hpb),hL3.set (hL3.dF hpb) _,hLc.set (hLc.dF hpb) _,?_,g0,g2,g3⟩⟩
 ·rw [ag (by decide)];exact up3 _ _ _ k.res
 ·intro i hi hi'
  rcases hc3 with e | e
  ·rw [e]at hi;exact k.ne i hi hi'
  ·rw [e]at hi
   cases hi
   have:=k.lc.lt hi'
   have h2:J2.length=J.length+1:=by rw [hJ2];simp
   omega
end
end Go.Proofs.YthfeogjbpgocbaaGreat
end
section
namespace Go.Proofs.YthfeogjbpgocbaaGreat
open Go Km
theorem ahP(a:Int)(j:Nat):bM .shr (vi a) (vi j)=some (vi (a.fdiv (2 ^ (min j 64)))):=by
 have:¬ ((j:Int)<0):=by omega
 simp only [bM,this,if_false]
 rw [Int.toNat_natCast]
 rfl
theorem Px(a:Int)(j:Nat):bM .rem (vi (a.fdiv (2 ^ (min j 64)))) (vi 2)=some (vi ((a.fdiv (2 ^ (min j 64))).tmod 2)):=by
 simp [bM,mM,V.int]
set_option maxRecDepth 100000 in
theorem CQ(g:Tg){b:List Nat}(hb:∀ n ∈ b,n<256)(hbl:b.length≤9223372036854775807) :
  ∃ p:bZ,jv p=true∧Km.Pure tab.get Hw [.c (.f (sl g (dZ b)))]=Eq (.a (p.row.map .f)):=by
 obtain⟨rr,⟨p,hp,rfl⟩,hpp⟩:∃ rr,(∃ p:bZ,jv p=true∧rr=.a (p.row.map .f))∧Km.Pure tab.get Hw [.c (.f (sl g (dZ b)))] rr:=by
  refine iL aIc rfl fun Q hQ=>?_
  have a0:Km.Pure tab.get jL [.c (.f (sl g (dZ b))),vi 0]=Eq (vi (atN b 0:Nat)):=D6 g b hb hbl 0 (by decide)
  have a1:Km.Pure tab.get jL [.c (.f (sl g (dZ b))),vi 1]=Eq (vi (atN b 1:Nat)):=D6 g b hb hbl 1 (by decide)
  have a2:Km.Pure tab.get jL [.c (.f (sl g (dZ b))),vi 2]=Eq (vi (atN b 2:Nat)):=D6 g b hb hbl 2 (by decide)
  have a3:Km.Pure tab.get jL [.c (.f (sl g (dZ b))),vi 3]=Eq (vi (atN b 3:Nat)):=D6 g b hb hbl 3 (by decide)
  have a4:Km.Pure tab.get jL [.c (.f (sl g (dZ b))),vi 4]=Eq (vi (atN b 4:Nat)):=D6 g b hb hbl 4 (by decide)
  have b0:=GY hb 0
  have b1:=GY hb 1
  have b2:=GY hb 2
  have b3:=GY hb 3
  obtain⟨fr,hfr⟩:∃ fr:Nat,fr=atN b 1 % 9:=⟨_,rfl⟩
  obtain⟨per,aPR⟩:∃ per:Nat,per=1+atN b 0 % 12:=⟨_,rfl⟩
  have r1:bM .rem (vi (atN b 1:Nat)) (vi 9)=some (vi fr):=by rw [nH (by omega) (by decide),hfr];simp
  have r0:bM .rem (vi (atN b 0:Nat)) (vi 12)=some (vi (atN b 0 % 12:Nat)):=by rw [nH (by omega) (by decide)];simp
  have w0:IntKind.i64.wrap (1+(atN b 0:Int) % 12)=per:=by rw [wrap64 (by omega) (by omega),aPR];simp
  have w3:IntKind.i64.wrap (256*(atN b 3:Int))=256*(atN b 3:Int):=wrap64 (by omega) (by omega)
  obtain⟨bits,aLn⟩:∃ x,x=IntKind.i64.wrap ((atN b 2:Int)+256*(atN b 3:Int)):=⟨_,rfl⟩
  refine ak (aj (.inl rfl) ?_)
  simp
  refine ak (aj (.inl rfl) ?_)
  simp [a0,a1,r0,r1,w0]
  refine ak (aj (.inl rfl) ?_)
  simp [a2,a3,w3,←aLn]
  refine ak (ak (aj (.inl rfl) ?_))
  simp
  refine ku per (fun j t J=>∃ cy cc,Up cy j∧FI (.c (.f (sl g (dZ b)))) fr per [] cy (.f .aB) cc t J∧t.g 4=vi bits) (by omega) (by decide) (by simp)
   ⟨[],.f .aB,Up.nil,⟨rfl,rfl,LR.nil _ _,LR.nil _ _,(fun i h=>by cases h),by simp,by simp,by simp⟩,by simp⟩ ?_ ?_ ?_
  ·rintro j t J L hj ⟨cy,cc,hu,k,g4⟩ ha hn
   simp [ha,k.g3,k.pb,aQ]
   exact hn _ ⟨cy,cc,hu,k.to (by simp [k.g0]) (by simp [k.g2]) (by simp [k.g3]),by simp [g4]⟩ (by simp [ha]) (by simp)
  ·rintro j t J hj ⟨cy,cc,hu,k,g4⟩ ha nx
   refine aH (ak (aj (.inl rfl) ?_))
   simp [ha,g4,ahP,Px]
   by_cases h1:(bits.fdiv (2 ^ (min j 64))).tmod 2=1
   ·simp [h1]
    refine aA (by simp) (aj (.inl rfl) ?_)
    obtain⟨c3,H3,happ,hst,hk⟩:=k.ayv (by have:=hu.2.2;omega) j
    simp [ha,k.g3,k.pb,aQ,happ,hst,-bI]
    refine aI (nx _ _ ⟨_,_,hu.app,hk _ (by simp [k.g0]) (by simp [k.g2]) (by simp [k.g3]),by simp [g4]⟩ (by simp [ha]))
   ·simp [h1]
    refine ay (by simp) (aF ?_)
    refine aI (nx _ _ ⟨_,_,hu.skip,k.to (by simp [k.g0]) (by simp [k.g2]) (by simp [k.g3]),by simp [g4]⟩ (by simp [ha]))
  rintro t J ⟨cy,cc,hu,k,g4⟩ ha
  refine ak (ak (aj (.inl rfl) ?_))
  simp
  refine ku fr (fun j t J=>∃ hd ch,Up hd j∧FI (.c (.f (sl g (dZ b)))) fr per hd cy ch cc t J) (by omega) (by decide) (by simp)
   ⟨[],.f .aB,Up.nil,k.to (by simp [k.g0]) (by simp [k.g2]) (by simp [k.g3])⟩ ?_ ?_ ?_
  ·clear k g4 ha
   rintro j t J L hj ⟨hd,ch,hv,k⟩ ha hn
   simp [ha,k.g3,k.pb,aQ]
   exact hn _ ⟨hd,ch,hv,k.to (by simp [k.g0]) (by simp [k.g2]) (by simp [k.g3])⟩ (by simp [ha]) (by simp)
  ·clear k g4 ha
   rintro j t J hj ⟨hd,ch,hv,k⟩ ha nx
   refine aH (ak (aj (.inl rfl) ?_))
   simp [ha,k.g0,a4,ahP,Px]
   by_cases h1:((atN b 4:Int).fdiv (2 ^ (min j 64))).tmod 2=1
   ·simp [h1]
    refine aA (by simp) (aj (.inl rfl) ?_)
    obtain⟨c3,H3,happ,hst,hk⟩:=k.ajs (by have:=hv.2.2;omega) j
    simp [ha,k.g3,k.pb,aQ,happ,hst,-bI]
    refine aI (nx _ _ ⟨_,_,hv.app,hk _ (by simp [k.g0]) (by simp [k.g2]) (by simp [k.g3])⟩ (by simp [ha]))
   ·simp [h1]
    refine ay (by simp) (aF ?_)
    refine aI (nx _ _ ⟨_,_,hv.skip,k.to (by simp [k.g0]) (by simp [k.g2]) (by simp [k.g3])⟩ (by simp [ha]))
  clear k g4 ha
  rintro t J ⟨hd,ch,hv,k⟩ ha
  refine ak (aj (.inl rfl) ?_)
  simp [k.g2,k.g3,k.pb,k.res,aQ]
  obtain⟨hg,hh⟩:=k.lh.exU (jX _)
  obtain⟨cg,hc⟩:=k.lc.exU (jX _)
  have hl0:=aN k.res
  have e1:=hh (J.set 0 (.box [ch,.f (fi fr),.f (fi per),cc] 0)) 63 fun i y hi he=>by
   rw [ag (by rintro rfl;exact k.lh.dF k.res he)];exact hi
  have e2:=hc (J.set 0 (.box [ch,.f (fi fr),.f (fi per),cc] 0)) 63 fun i y hi he=>by
   rw [ag (by rintro rfl;exact k.lc.dF k.res he)];exact hi
  refine aO (hQ _ _ _ ⟨⟨hg,hd,fr,per,cg,cy⟩,?_,rfl⟩ ⟨rfl,.a [ch,.f (fi fr),.f (fi per),cc],?_,?_⟩)
  ·have h1:=hu.2.2
   have h2:=hv.2.2
   have h3:=hu.rising
   have h4:=hv.rising
   simp [jv,h3,h4]
   omega
  ·simp [Km.results,resOne,bf,k.g2,hl0,aQ]
  ·simp [exV,dw,bf,deep,e1,e2,bZ.row]
 exact⟨p,hp,hpp.eq⟩
end Go.Proofs.YthfeogjbpgocbaaGreat
end
section
namespace Go.Proofs.YthfeogjbpgocbaaGreat
open Go Km
def Inner(J:Heap)(c:C)(fs:List bZ):Prop:=
 (∃ p m,fs=[p]∧c=.sl m 0 1 1 0 4∧J[m]?=some (.box (p.row.map .f) 0))∨(fs≠[]∧LR J c 4 (bU fs))
theorem FB(fs:List bZ)(q:bZ):bU fs++[q.row]=bU (fs++[q]):=by simp [bU]
section
variable{J J':Heap}{c:C}{fs:List bZ}
theorem Inner.keep(h:Inner J c fs)(hk:∀ i y,J[i]?=some y→dO c=some i→J'[i]?=some y):Inner J' c fs:=by
 rcases h with⟨p,m,rfl,rfl,h⟩ | ⟨h,h2⟩
 ·exact .inl ⟨p,m,rfl,rfl,hk m _ h rfl⟩
 ·exact .inr ⟨h,h2.keep hk⟩
theorem Inner.push(h:Inner J c fs)(L:Heap):Inner (J++L) c fs:=h.keep fun i y hy _=>by rw [al (aN hy)];exact hy
theorem Inner.len(h:Inner J c fs):bJ J c=some fs.length:=by
 rcases h with⟨p,m,rfl,rfl,h⟩ | ⟨h,h2⟩
 ·simp [bJ,h]
 ·simpa using h2.len
theorem Inner.blk(h:Inner J c fs):∃ m,dO c=some m∧m<J.length∧∀ cs fl ep st,J[m]?≠some (.opn 1 cs fl ep st):=by
 rcases h with⟨p,m,rfl,rfl,h⟩ | ⟨h,⟨h1,_⟩ | ⟨_,b,ep,rfl,hb⟩⟩
 ·exact⟨m,rfl,aN h,fun cs fl ep st e=>by rw [h]at e;cases e⟩
 ·exact absurd (by simpa [bU]using h1) h
 ·unfold RB at hb
  exact⟨b,rfl,aN hb,fun cs fl ep st e=>by rw [hb]at e;cases e⟩
theorem Inner.app(h:Inner J c fs)(hl:fs.length≤10)(q:bZ){b1:Nat}(hb1:J[b1]?=some (.box (q.row.map .f) 0)) :
  ∃ c' H',dI J 4 64 (.c c) (.c (.sl b1 0 1 1 0 4))=some (.c c',H')∧Inner H' c' (fs++[q])∧Kb J H' c∧(dO c'=dO c∨dO c'=some J.length):=by
 rcases h with⟨p,m,rfl,rfl,h⟩ | ⟨h,h2⟩
 ·have hadd:gY J 4 (.c (.sl b1 0 1 1 0 4))=some (1,q.row.map .f):=D8 hb1 rfl
  have hroom:dh 2 64=true:=iK (by decide) (by decide)
  refine⟨.sl J.length 0 2 0 0 4,J++[.opn 4 (p.row.map .f++q.row.map .f) 0 0 .loc],?_,.inr ⟨by simp,.inr ⟨by simp [bU],J.length,0,rfl,?_⟩⟩,Kb.push _ _ _,.inr rfl⟩
  ·simp [dI,hadd,h,hroom,bZ.row]
  ·unfold RB;simp [bU]
 ·obtain⟨c3,H3,happ,hL3,hK3,hc3⟩:=h2.app (kY fs) (by decide) (row:=q.row) rfl (bytes:=64) (iK (by simp;omega) (by decide)) hb1
  exact⟨c3,H3,happ,.inr ⟨by simp,FB fs q▸hL3⟩,hK3,hc3⟩
theorem Inner.ex(h:Inner J c fs)(n:Nat):exC (n+1) J c=some (sl .fs (bU fs)):=by
 rcases h with⟨p,m,rfl,rfl,h⟩ | ⟨h,h2⟩
 ·simp [DV,h,bU,sl,bZ.row,bf]
 ·obtain⟨g,e⟩:=h2.ex (kY fs) n
  rw [e,ahM (g':=.fs) (by simpa [bU]using h)]
end
inductive Fa2{α β:Type}(R:α→β→Prop):List α→List β→Prop
 | nil:Fa2 R [] []
 | cons {a b l m}:R a b→Fa2 R l m→Fa2 R (a::l) (b::m)
def TL(J:Heap)(ct:C)(ts:List (List bZ)):Prop:=(ts=[]∧ct=.f .aB) ∨
 (ts≠[]∧∃ b ep cs,ct=.sl b 0 ts.length 0 ep 1∧J[b]?=some (.opn 1 cs 0 ep .loc)∧Fa2 (Inner J) cs ts∧cs.Pairwise (fun a b=>dO a≠dO b))
theorem kG{α β:Type}{R S:α→β→Prop}:∀ {l:List α} {m:List β},Fa2 R l m→(∀ a b,a ∈ l→R a b→S a b)→Fa2 S l m
 | [],[],_,_=>.nil
 | a::l,b::m,.cons h t,hi=>.cons (hi a b bB h) (kG t fun x y hx=>hi x y (bO _ hx))
theorem ng{α β:Type}{R:α→β→Prop}:∀ {l:List α} {m:List β},Fa2 R l m→l.length=m.length
 | [],[],_=>rfl
 | _::_,_::_,.cons _ t=>by simp [ng t]
theorem oW{α β:Type}{R:α→β→Prop}:∀ {l:List α} {m:List β},Fa2 R l m→∀ {a b},R a b→Fa2 R (l++[a]) (m++[b])
 | [],[],_,a,b,h=>.cons h .nil
 | _::_,_::_,.cons h t,a,b,h'=>.cons h (oW t h')
theorem qE{α β:Type}{R:α→β→Prop}:∀ {l:List α} {m:List β} {b:β},Fa2 R l (m++[b])→∃ l' a,l=l'++[a]∧Fa2 R l' m∧R a b
 | _,[],b,h=>by
  cases h with
  | cons h t=>cases t;exact⟨[],_,rfl,.nil,h⟩
 | _,y::m,b,h=>by
  cases h with
  | cons h t=>
   obtain⟨l',a,rfl,h1,h2⟩:=qE t
   exact⟨_::l',a,rfl,.cons h h1,h2⟩
theorem qF{α β:Type}{R:α→β→Prop}:∀ {l:List α} {m:List β},Fa2 R l m→∀ a ∈ l,∃ b,R a b
 | [],[],_,a,h=>by cases h
 | x::_,y::_,.cons h t,a,ha=>by
  rcases List.mem_cons.1 ha with rfl | ha
  ·exact⟨y,h⟩
  ·exact qF t a ha
section
variable{J J':Heap}{ct:C}{ts:List (List bZ)}
theorem TL.keep(h:TL J ct ts)(hk:∀ i y,J[i]?=some y→i≠0→i≠1→J'[i]?=some y)(h0:∃ x fl,J[0]?=some (.box [x] fl))(h1:∃ x fl,J[1]?=some (.box [x] fl)):TL J' ct ts:=by
 obtain⟨x0,f0,h0⟩:=h0
 obtain⟨x1,f1,h1⟩:=h1
 rcases h with h | ⟨h,b,ep,cs,rfl,hb,hf,hp⟩
 ·exact .inl h
 ·refine .inr ⟨h,b,ep,cs,rfl,hk _ _ hb (by rintro rfl;rw [h0]at hb;cases hb) (by rintro rfl;rw [h1]at hb;cases hb),kG hf fun c fs _ hi=>hi.keep fun i y hy hi'=>hk i y hy ?_ ?_,hp⟩
  all_goals
   rintro rfl
   rcases hi with⟨p,m,rfl,rfl,hm⟩ | ⟨hne,⟨e,_⟩ | ⟨_,m,ep',rfl,hm⟩⟩
   ·cases hi'
    first | (rw [h0]at hm;simp [bZ.row]at hm) | (rw [h1]at hm;simp [bZ.row]at hm)
   ·exact hne (by simpa [bU]using e)
   ·cases hi'
    unfold RB at hm
    first | (rw [h0]at hm;cases hm) | (rw [h1]at hm;cases hm)
theorem TL.push(h:TL J ct ts)(L:Heap):TL (J++L) ct ts:=by
 rcases h with h | ⟨h,b,ep,cs,rfl,hb,hf,hp⟩
 ·exact .inl h
 ·exact .inr ⟨h,b,ep,cs,rfl,by rw [al (aN hb)];exact hb,kG hf fun c fs _ hi=>hi.push L,hp⟩
theorem TL.len(h:TL J ct ts):bJ J ct=some ts.length:=by
 rcases h with⟨rfl,rfl⟩ | ⟨h,b,ep,cs,rfl,hb,hf,hp⟩
 ·rfl
 ·simp [bJ,hb]
theorem vN{α β γ:Type}{R:α→β→Prop}{g:α→Option γ}{k:β→γ}(hg:∀ a b,R a b→g a=some (k b)):∀ {l:List α} {m:List β},Fa2 R l m→bf g l=some (m.map k)
 | [],[],_=>rfl
 | _::_,_::_,.cons h t=>by simp only [bf,hg _ _ h,vN hg t,aR]
theorem pW:∀ {l:List (List bZ)},(l.map fun fs=>[sl .fs (bU fs)]).flatten=l.map fun fs=>sl .fs (bU fs)
 | []=>rfl
 | x::l=>by simp [pW (l:=l)]
theorem TL.ex(h:TL J ct ts)(n:Nat):∃ g,exC (n+2) J ct=some (sl g (termRows (ts.map fun fs=>⟨.fs,fs⟩))):=by
 rcases h with⟨rfl,rfl⟩ | ⟨h,b,ep,cs,rfl,hb,hf,hp⟩
 ·exact⟨.nil,rfl⟩
 ·refine⟨.fs,?_⟩
  have hl:=ng hf
  have hm:=vN (g:=exC (n+1) J) (k:=fun fs=>sl .fs (bU fs)) (fun c fs hi=>hi.ex n) hf
  simp only [DV,hb]
  rw [if_pos ⟨trivial,trivial,by omega⟩,List.drop_zero,bA (by omega),hm]
  have hne:¬ (termRows (ts.map fun fs=>(⟨.fs,fs⟩:TermD))).isEmpty=true:=by simpa [termRows]using h
  have e:(termRows (ts.map fun fs=>(⟨.fs,fs⟩:TermD))).flatten=ts.map fun fs=>sl .fs (bU fs):=by
   simp only [termRows,List.map_map]
   exact pW
  have el:(termRows (ts.map fun fs=>(⟨.fs,fs⟩:TermD))).length=ts.length:=by simp
  have es:sl .fs (termRows (ts.map fun fs=>(⟨.fs,fs⟩:TermD)))=.fs (ts.map fun fs=>sl .fs (bU fs)) ts.length:=by
   rw [←e,←el];unfold sl;rw [if_neg hne]
  rw [es];rfl
end
end Go.Proofs.YthfeogjbpgocbaaGreat
end
section
namespace Go.Proofs.YthfeogjbpgocbaaGreat
open Go Km
structure SI(J:Heap)(ct:C)(ts:List (List bZ)):Prop where
 res:J[0]?=some (.box [.f .aB] 0)
 out:J[1]?=some (.box [ct] 0)
 tl:TL J ct ts
theorem SI.push{J:Heap}{ct:C}{ts:List (List bZ)}(h:SI J ct ts)(L:Heap):SI (J++L) ct ts:=
 ⟨by rw [al (aN h.res)];exact h.res,by rw [al (aN h.out)];exact h.out,h.tl.push L⟩
theorem PL{R:C→C→Prop}{l:List C}{a:C}(h:l.Pairwise R)(ha:∀ x ∈ l,R x a):(l++[a]).Pairwise R:=by
 rw [dm]
 exact⟨h,cV _ _,fun x hx y hy=>by simp at hy;subst hy;exact ha x hx⟩
theorem SI.new{J:Heap}{ct:C}{ts:List (List bZ)}(h:SI J ct ts)(hl:ts.length≤10)(q:bZ) :
  ∃ c' H',dI (J++[.box (q.row.map .f) 0]++[.box [.sl J.length 0 1 1 0 4] 0]) 1 24 (.c ct) (.c (.sl (J.length+1) 0 1 1 0 1))=some (.c c',H')∧stC H' (.ptr 1 0 0) [c']=some (H'.set 1 (.box [c'] 0))∧SI (H'.set 1 (.box [c'] 0)) c' (ts++[[q]]):=by
 obtain⟨J1,hJ1⟩:∃ J1:Heap,J1=J++[.box (q.row.map .f) 0]:=⟨_,rfl⟩
 obtain⟨J2,hJ2⟩:∃ J2:Heap,J2=J1++[.box [.sl J.length 0 1 1 0 4] 0]:=⟨_,rfl⟩
 rw [←hJ1,←hJ2]
 have l1:J1.length=J.length+1:=by rw [hJ1];simp
 have l2:J2.length=J.length+2:=by rw [hJ2];simp [l1]
 have k2:SI J2 ct ts:=by rw [hJ2,hJ1];exact(h.push _).push _
 have bq:J2[J.length]?=some (.box (q.row.map .f) 0):=by rw [hJ2,al (by omega),hJ1];simp
 have bx:J2[J.length+1]?=some (.box [.sl J.length 0 1 1 0 4] 0):=by rw [hJ2,←l1];simp
 have hadd:gY J2 1 (.c (.sl (J.length+1) 0 1 1 0 1))=some (1,[.sl J.length 0 1 1 0 4]):=by simp [gY,bJ,dX,bx]
 have hroom:dh (ts.length+1) 24=true:=iK (by omega) (by decide)
 have h0:=aN h.res
 have h1:=aN h.out
 rcases k2.tl with⟨e1,e2⟩ | ⟨hne,b,ep,cs,rfl,hb,hf,hp⟩
 ·subst e1 e2
  have hroom:dh 1 24=true:=iK (by decide) (by decide)
  refine⟨.sl J2.length 0 1 0 0 1,J2++[.opn 1 [.sl J.length 0 1 1 0 4] 0 0 .loc],?_,?_,?_,?_,?_⟩
  ·simp [dI,hadd,hroom]
  ·have:(J2++[.opn 1 [.sl J.length 0 1 1 0 4] 0 0 .loc])[1]?=some (.box [.f .aB] 0):=by rw [al (by omega)];exact k2.out
   simp [stC,this,over]
  ·rw [ag (by decide),al (by omega)];exact k2.res
  ·rw [ax (by simp;omega)]
  ·refine .inr ⟨by simp,J2.length,0,[.sl J.length 0 1 1 0 4],rfl,?_,.cons (.inl ⟨q,J.length,rfl,rfl,?_⟩) .nil,cV _ _⟩
   ·rw [ag (by omega)];simp
   ·rw [ag (by omega),al (by omega)];exact bq
 ·have hcl:=ng hf
  have b1:b≠1:=by rintro rfl;rw [k2.out]at hb;cases hb
  have b0:b≠0:=by rintro rfl;rw [k2.res]at hb;cases hb
  have bl:=aN hb
  obtain⟨H',hH'⟩:∃ H':Heap,H'=J2.set b (.opn 1 (cs++[.sl J.length 0 1 1 0 4]) 0 (ep+1) .loc):=⟨_,rfl⟩
  have hb1:H'[1]?=some (.box [.sl b 0 ts.length 0 ep 1] 0):=by rw [hH',ag b1];exact k2.out
  have lH:H'.length=J2.length:=by rw [hH'];simp
  refine⟨.sl b 0 (ts.length+1) 0 (ep+1) 1,H',?_,?_,?_,?_,?_⟩
  ·simp [dI,hadd,hroom,hb,hcl,hH']
  ·simp [stC,hb1,over]
  ·rw [ag (by decide),hH',ag b0];exact k2.res
  ·rw [ax (by omega)]
  ·refine .inr ⟨by simp,b,ep+1,cs++[.sl J.length 0 1 1 0 4],by simp,?_,oW (kG hf fun c fs hc hi=>?_) (.inl ⟨q,J.length,rfl,rfl,?_⟩),PL hp fun c hc=>?_⟩
   ·rw [ag (Ne.symm b1),hH',ax bl]
   ·obtain⟨m,em,lm,om⟩:=hi.blk
    refine hi.keep fun i y hy hi'=>?_
    rw [em]at hi';cases hi'
    have m1:1≠m:=by
     rintro rfl
     rcases hi with⟨p,m,rfl,rfl,hm⟩ | ⟨hne,⟨e,_⟩ | ⟨_,m,ep',rfl,hm⟩⟩
     ·cases em;rw [k2.out]at hm;simp [bZ.row]at hm
     ·exact hne (by simpa [bU]using e)
     ·cases em;unfold RB at hm;rw [k2.out]at hm;cases hm
    have mb:b≠m:=by rintro rfl;exact om _ _ _ _ hb
    rw [ag m1,hH',ag mb];exact hy
   ·rw [ag (by omega),hH',ag (by rintro rfl;rw [bq]at hb;cases hb)];exact bq
   ·have h3:Fa2 (Inner J) cs ts:=by
     rcases h.tl with⟨e,_⟩ | ⟨_,b',ep',cs',e,hb',hf',_⟩
     ·exact absurd e hne
     ·cases e
      have:J2[b]?=some (.opn 1 cs' 0 ep .loc):=by rw [hJ2,hJ1,cQ,al (aN hb')];exact hb'
      rw [hb]at this;cases this
      exact hf'
    obtain⟨fs,hi⟩:=qF h3 c hc
    obtain⟨m,em,lm,om⟩:=hi.blk
    rw [em]
    intro e;cases e;omega
theorem SI.more{J:Heap}{ct:C}{ts:List (List bZ)}{fs:List bZ}(h:SI J ct (ts++[fs]))(hl:fs.length≤10)(q:bZ) :
  ∃ b ep c,aV J 1 none (.c ct) (vi ts.length)=some (.c (.ptr b ts.length ep))∧ldV J none (.c (.ptr b ts.length ep))=some (.c c)∧bJ J c=some fs.length ∧
   ∃ c' H',dI (J++[.box (q.row.map .f) 0]) 4 64 (.c c) (.c (.sl J.length 0 1 1 0 4))=some (.c c',H')∧aV H' 1 none (.c ct) (vi ts.length)=some (.c (.ptr b ts.length ep))∧H'[1]?=some (.box [ct] 0) ∧
    ∃ H2,stC H' (.ptr b ts.length ep) [c']=some H2∧SI H2 ct (ts++[fs++[q]]):=by
 rcases h.tl with⟨e,_⟩ | ⟨_,b,ep,cs,rfl,hb,hf,hp⟩
 ·simp at e
 obtain⟨cs',c,rfl,hf',hi⟩:=qE hf
 have hcl:=ng hf'
 obtain⟨J1,hJ1⟩:∃ J1:Heap,J1=J++[.box (q.row.map .f) 0]:=⟨_,rfl⟩
 have l1:J1.length=J.length+1:=by rw [hJ1];simp
 have k1:SI J1 (.sl b 0 (ts++[fs]).length 0 ep 1) (ts++[fs]):=by rw [hJ1];exact h.push _
 have bq:J1[J.length]?=some (.box (q.row.map .f) 0):=by rw [hJ1];simp
 have hi1:Inner J1 c fs:=by rw [hJ1];exact hi.push _
 obtain⟨m,em,lm,om⟩:=hi.blk
 obtain⟨c',H',happ,hi',hK,hc'⟩:=hi1.app hl q bq
 have up:∀ i y,J[i]?=some y→J1[i]?=some y:=fun i y hy=>by rw [hJ1,al (aN hy)];exact hy
 have upH:∀ i y,J[i]?=some y→i≠m→H'[i]?=some y:=fun i y hy hne=>hK.2 i y (up i y hy) (by rw [em];intro e;cases e;exact hne rfl)
 have mb:b≠m:=by rintro rfl;exact om _ _ _ _ hb
 have hbH:=upH _ _ hb mb
 have m01:m≠0∧m≠1:=by
  rcases hi with⟨p,m',rfl,rfl,hm⟩ | ⟨hne,⟨e,_⟩ | ⟨_,m',ep',rfl,hm⟩⟩
  ·cases em
   exact⟨by rintro rfl;rw [h.res]at hm;simp [bZ.row]at hm,by rintro rfl;rw [h.out]at hm;simp [bZ.row]at hm⟩
  ·exact absurd (by simpa [bU]using e) hne
  ·cases em
   unfold RB at hm
   exact⟨(by rintro rfl;rw [h.res]at hm;cases hm),(by rintro rfl;rw [h.out]at hm;cases hm)⟩
 have r0:=upH _ _ h.res (Ne.symm m01.1)
 have r1:=upH _ _ h.out (Ne.symm m01.2)
 have b0:b≠0:=by rintro rfl;rw [h.res]at hb;cases hb
 have b1:b≠1:=by rintro rfl;rw [h.out]at hb;cases hb
 obtain⟨m',em',lm',om'⟩:=hi'.blk
 have mb':b≠m':=by rintro rfl;exact om' _ _ _ _ hbH
 rw [dm]at hp
 obtain⟨p1,-,p3⟩:=hp
 refine⟨b,ep,c,?_,?_,hi.len,c',H',by rw [hJ1]at happ;exact happ,?_,r1,H'.set b (.opn 1 (cs'++[c']) 0 ep .loc),?_,?_,?_,?_⟩
 ·simp [aV,jm,hb];omega
 ·simp [ldV,aP,hb,←hcl,aQ]
 ·simp [aV,jm,hbH];omega
 ·simp [stC,hbH,over,←hcl]
 ·rw [ag b0];exact r0
 ·rw [ag b1];simpa using r1
 ·refine .inr ⟨by simp,b,ep,cs'++[c'],by simp,ax (aN hbH),oW (kG hf' fun a f ha hia=>?_) (hi'.keep fun i y hy hiy=>?_),PL p1 fun a ha=>?_⟩
  ·obtain⟨k,ek,lk,ok⟩:=hia.blk
   refine hia.keep fun i y hy hiy=>?_
   rw [ek]at hiy;cases hiy
   have hkm:k≠m:=by
    have:=p3 a ha c (by simp)
    rw [ek,em]at this
    exact fun e=>this (by rw [e])
   rw [ag (by rintro rfl;exact ok _ _ _ _ hb)]
   exact upH _ _ hy hkm
  ·rw [em']at hiy;cases hiy
   rw [ag mb'];exact hy
  ·rcases hc' with e | e
   ·rw [e];exact p3 a ha c (by simp)
   ·obtain⟨f,hia⟩:=qF hf' a ha
    obtain⟨k,ek,lk,ok⟩:=hia.blk
    rw [e,ek]
    intro e2;cases e2;omega
end Go.Proofs.YthfeogjbpgocbaaGreat
end
section
namespace Go.Proofs.YthfeogjbpgocbaaGreat
open Go Km
abbrev ByD:=Tg × List Nat
def aIm(b:ByD):Prop:=b.2.length≤9223372036854775807∧∀ n ∈ b.2,n<256
def iV(l:List ByD):List (List FC):=l.map fun b=>[sl b.1 (dZ b.2)]
@[simp] theorem aGH (l:List ByD):(iV l).length=l.length:=by simp [iV]
theorem JH(l:List ByD):Grid 1 (iV l):=Grid.map fun _=>rfl
theorem aKS{j:Nat}{l:List ByD}(hj:j<l.length){H:Heap}:ldV H none (.c (.f (.fp (iV l).flatten j)))=some (.c (.f (sl l[j].1 (dZ l[j].2)))):=by
 have:=rD (H:=H) (rows:=iV l) (j:=j) (sz:=1) (row:=[sl l[j].1 (dZ l[j].2)]) (x:=sl l[j].1 (dZ l[j].2)) (JH l) (by simp [iV,hj]) rfl
 simpa using this
theorem aF9{j:Nat}{l:List ByD}{g:Tg}(hj:j<l.length){H:Heap}:aV H 1 none (.c (.f (sl g (iV l)))) (vi j)=some (.c (.f (.fp (iV l).flatten j))):=by
 have:=iD (H:=H) (g:=g) (rows:=iV l) (sz:=1) (k:=.i64) (i:=(j:Int)) (by omega) (by simp;omega)
 simpa using this
def G8(ts:List (List bZ)):Prop:=ts.length≤3∧∀ fs ∈ ts,fs≠[]∧fs.length≤3∧∀ p ∈ fs,jv p=true
theorem G8.new{ts:List (List bZ)}(h:G8 ts)(hl:ts.length<3){p:bZ}(hp:jv p=true):G8 (ts++[[p]]):=by
 refine⟨by simp;omega,fun fs hf=>?_⟩
 rcases bS.1 hf with hf | hf
 ·exact h.2 fs hf
 ·simp at hf;subst hf;exact⟨by simp,by simp,fun q hq=>by simp at hq;subst hq;exact hp⟩
theorem G8.more{ts:List (List bZ)}{fs:List bZ}(h:G8 (ts++[fs]))(hl:fs.length<3){p:bZ}(hp:jv p=true):G8 (ts++[fs++[p]]):=by
 refine⟨by have:=h.1;simpa using this,fun gs hg=>?_⟩
 rcases bS.1 hg with hg | hg
 ·exact h.2 gs (List.mem_append_left _ hg)
 ·simp at hg;subst hg
  have h2:=(h.2 fs (by simp)).2.2
  refine⟨by simp,by simp;omega,fun q hq=>?_⟩
  rcases bS.1 hq with hq | hq
  ·exact h2 q hq
  ·simp at hq;subst hq;exact hp
theorem G8.mix{ts:List (List bZ)}(h:G8 ts):mixB (ts.map fun fs=>⟨.fs,fs⟩)=true:=by
 have h1:=h.1
 simp only [mixB,am,decide_eq_true_eq,aL,cC]
 refine⟨by omega,fun t ht=>?_⟩
 obtain⟨fs,hf,rfl⟩:=cJ.1 ht
 obtain⟨a,b,c⟩:=h.2 fs hf
 have:=db.2 a
 simp only [nU,am,decide_eq_true_eq,aL]
 exact⟨⟨by omega,by omega⟩,c⟩
set_option maxRecDepth 100000 in
theorem ai1(g:Tg){l:List ByD}(hl:l.length≤9223372036854775807)(hb:∀ b ∈ l,aIm b) :
  ∃ tg ts,mixB ts=true∧Km.Pure tab.get uJ [.c (.f (sl g (iV l)))]=Eq (.a [.f (sl tg (termRows ts))]):=by
 obtain⟨rr,⟨tg,ts,hm,rfl⟩,hp⟩:∃ rr,(∃ tg ts,mixB ts=true∧rr=.a [.f (sl tg (termRows ts))])∧Km.Pure tab.get uJ [.c (.f (sl g (iV l)))] rr:=by
  refine iL aId rfl fun Q hQ=>?_
  obtain⟨N,hN⟩:∃ N,N=min l.length 9:=⟨_,rfl⟩
  refine ak (aj (.inl rfl) ?_)
  simp
  refine ak (aj (.inl rfl) ?_)
  simp
  refine ak (ak (aj (.inl rfl) ?_))
  simp
  refine ku N (fun j t J=>∃ ct ts,G8 ts∧SI J ct ts∧t.g 0=.c (.f (sl g (iV l)))∧t.g 2=.c (.ptr 0 0 0)∧t.g 3=.c (.ptr 1 0 0)) (by omega) (by decide) (by simp)
   ⟨.f .aB,[],⟨by simp,by simp⟩,⟨rfl,rfl,.inl ⟨rfl,rfl⟩⟩,by simp,by simp,by simp⟩ ?_ ?_ ?_
  ·rintro j t J L hj ⟨ct,ts,hT,k,g0,g2,g3⟩ ha hn
   by_cases c1:(j:Int)<l.length
   ·simp [ha,g0,c1]
    exact hn _ ⟨ct,ts,hT,k,by simp [g0],by simp [g2],by simp [g3]⟩ (by simp [ha]) (by simp;omega)
   ·simp [ha,g0,c1]
    exact hn _ ⟨ct,ts,hT,k,by simp [g0],by simp [g2],by simp [g3]⟩ (by simp [ha]) (by simp;omega)
  ·rintro j t J hj ⟨ct,ts,hT,k,g0,g2,g3⟩ ha nx
   have hjl:j<l.length:=by omega
   obtain⟨bl,bb⟩:=hb _ (av hjl)
   obtain⟨p,hpB,hmf⟩:=CQ l[j].1 bb bl
   have ha0:Km.Pure tab.get jL [.c (.f (sl l[j].1 (dZ l[j].2))),vi 0]=Eq (vi (atN l[j].2 0:Nat)):=D6 l[j].1 l[j].2 bb bl 0 (by decide)
   obtain⟨a,hav⟩:∃ a,a=(atN l[j].2 0:Int):=⟨_,rfl⟩
   rw [←hav]at ha0
   have ii:=fun H=>aF9 (g:=g) hjl (H:=H)
   have dd:=fun H=>aKS hjl (H:=H)
   have aOg:=k.tl.len
   have ld1:ldV J none (.c (.ptr 1 0 0))=some (.c ct):=by simp [ldV,aP,k.out,aQ]
   refine aH (ak (aj (.inl rfl) ?_))
   simp [g3,ld1,-aG,aOg]
   refine ak (aj (.inl rfl) ?_)
   simp [g0,ha,ii,dd,hmf,bZ.row,-aG]
   obtain⟨J1,hJ1⟩:∃ J1:Heap,J1=J++[.box (p.row.map .f) 0]:=⟨_,rfl⟩
   have k1:SI J1 ct ts:=by rw [hJ1];exact k.push _
   have l1:J1.length=J.length+1:=by rw [hJ1];simp
   have bx:J1[J.length]?=some (.box (p.row.map .f) 0):=by rw [hJ1];simp
   have ldp:ldV J1 (some 4) (.c (.ptr J.length 0 0))=some (.a [.f (sl p.hg (ints p.head)),.f (fi p.fr),.f (fi p.per),.f (sl p.cg (ints p.cyc))]):=by simp [ldV,aP,bx,aQ,bZ.row]
   have ld2:ldV J1 none (.c (.ptr 1 0 0))=some (.c ct):=by simp [ldV,aP,k1.out,aQ]
   simp only [bZ.row,aR,bh]at hJ1
   rw [←hJ1]
   have new:∀ t:T,t.g 0=.c (.f (sl g (iV l)))→t.g 2=.c (.ptr 0 0 0)→t.g 3=.c (.ptr 1 0 0)→t.g 4=vi j→t.g 5=vi ts.length→t.g 6=.c (.ptr J.length 0 0) →
     WP tab.get uJ none [.code yG,.inBlock 1,.code (DJ 4 16 17),.inLoop wV,.inBlock 0,.code rM] ⟨t,[],J1⟩ Q:=by
    intro t g0 g2 g3 g4 g5 g6
    refine ak (aj (.inl rfl) ?_)
    by_cases h3:ts.length<3
    ·simp [g5,show(ts.length:Int)<3 by omega]
     refine aA (by simp) (aj (.inl rfl) ?_)
     obtain⟨c',H',happ,hst,hk⟩:=k1.new (by omega) p
     simp only [bZ.row,aR,bh]at happ
     have aLo:dI (J1++[.box [.f (sl p.hg (ints p.head)),.f (fi p.fr),.f (fi p.per),.f (sl p.cg (ints p.cyc))] 0,.box [.sl J1.length 0 1 1 0 4] 0]) 1 24 (.c ct) (.c (.sl (J1.length+1) 0 1 1 0 1))=some (.c c',H'):=by
      rw [←happ,cQ];rfl
     simp [g3,g6,ld2,ldp,-aG,aLo,hst,-bI]
     refine aI (nx _ _ ⟨c',_,hT.new h3 hpB,hk,by simp [g0],by simp [g2],by simp [g3]⟩ (by simp [g4]))
    ·simp [g5,show¬ (ts.length:Int)<3 by omega]
     refine ay (by simp) (aF ?_)
     refine aI (nx _ _ ⟨ct,ts,hT,k1,by simp [g0],by simp [g2],by simp [g3]⟩ (by simp [g4]))
   have w0:IntKind.i64.wrap 0=0:=by decide
   refine ak (aj (.inl rfl) ?_)
   rcases List.eq_nil_or_concat ts with rfl | ⟨ts',fs,rfl⟩
   ·simp
    refine ay (by simp) ?_
    exact new _ (by simp [g0]) (by simp [g2]) (by simp [g3]) (by simp [ha]) (by simp) (by simp)
   rw [List.concat_eq_append]at *
   have hT1:=hT.1
   simp at hT1
   have h3:=(hT.2 fs (by simp)).2.1
   obtain⟨b,ep,c,ix,ldc,Sv,c',H',happ,ix',hout,H2,hst,k2⟩:=k1.more (by omega) p
   simp only [bZ.row,aR,bh]at happ
   have wn:IntKind.i64.wrap (ts'.length:Int)=ts'.length:=wrap64 (by omega) (by omega)
   have ld3:ldV H' none (.c (.ptr 1 0 0))=some (.c ct):=by simp [ldV,aP,hout,aQ]
   have hbeq:(V.c ct).beq (.c ct)=true:=by
    rcases k1.tl with⟨e,_⟩ | ⟨_,b,ep,cs,rfl,_⟩
    ·simp at e
    ·simp [V.beq,C.beq]
   have more:∀ t:T,fs.length<3→t.g 0=.c (.f (sl g (iV l)))→t.g 2=.c (.ptr 0 0 0)→t.g 3=.c (.ptr 1 0 0)→t.g 4=vi j→t.g 5=vi ((ts'.length:Int)+1)→t.g 6=.c (.ptr J.length 0 0) →
     WP tab.get uJ none [.code EO,.inBlock 1,.code (DJ 4 16 17),.inLoop wV,.inBlock 0,.code rM] ⟨t,[],J1⟩ Q:=by
    intro t h3 g0 g2 g3 g4 g5 g6
    refine oQ (.inl rfl) ?_ ?_
    case refine_2=>
     intro c hcm
     have hcc:c=(1,14):=by simpa using hcm
     subst hcc
     refine⟨by decide,_,rfl,.inl ⟨by decide,?_⟩⟩
     simp [g3,g5,g6,ld2,ldp,ix,ldc,wn,happ,ix',ld3,sH,-aG]
     exact hbeq
    simp [g3,g5,g6,ld2,ldp,ix,ldc,wn,happ,ix',hst,-aG,-bI]
    refine aI (nx _ _ ⟨ct,_,hT.more h3 hpB,k2,by simp [g0],by simp [g2],by simp [g3]⟩ (by simp [g4]))
   have hnew:∀ t:T,t.g 0=.c (.f (sl g (iV l)))→t.g 2=.c (.ptr 0 0 0)→t.g 3=.c (.ptr 1 0 0)→t.g 4=vi j→t.g 5=vi ((ts'.length:Int)+1)→t.g 6=.c (.ptr J.length 0 0) →
     WP tab.get uJ none [.code yG,.inBlock 1,.code (DJ 4 16 17),.inLoop wV,.inBlock 0,.code rM] ⟨t,[],J1⟩ Q:=fun t g0 g2 g3 g4 g5 g6=>new t g0 g2 g3 g4 (by rw [g5];simp) g6
   by_cases ha1:a<128
   ·by_cases h3':fs.length<3
    ·simp [g0,g3,ha,ii,dd,ha0,ha1,ld2,-aG,wn,ix,ldc,Sv,show(fs.length:Int)<3 by omega,show(0:Int)<(ts'.length:Int)+1 by omega]
     refine aA (by simp) ?_
     exact more _ h3' (by simp [g0]) (by simp [g2]) (by simp [g3]) (by simp [ha]) (by simp) (by simp)
    ·simp [g0,g3,ha,ii,dd,ha0,ha1,ld2,-aG,wn,ix,ldc,Sv,show¬ (fs.length:Int)<3 by omega,show(0:Int)<(ts'.length:Int)+1 by omega]
     refine ay (by simp) ?_
     exact hnew _ (by simp [g0]) (by simp [g2]) (by simp [g3]) (by simp [ha]) (by simp) (by simp)
   ·by_cases h4:(ts'.length:Int)+1=3
    ·by_cases h3':fs.length<3
     ·simp [g0,g3,ha,ii,dd,ha0,ha1,ld2,-aG,wn,ix,ldc,Sv,show(fs.length:Int)<3 by omega,show(0:Int)<(ts'.length:Int)+1 by omega]
      rw [decide_eq_true h4]
      simp [g3,ld2,-aG,wn,ix,ldc,Sv,show(fs.length:Int)<3 by omega]
      refine aA (by simp) ?_
      exact more _ h3' (by simp [g0]) (by simp [g2]) (by simp [g3]) (by simp [ha]) (by simp) (by simp)
     ·simp [g0,g3,ha,ii,dd,ha0,ha1,ld2,-aG,wn,ix,ldc,Sv,show¬ (fs.length:Int)<3 by omega,show(0:Int)<(ts'.length:Int)+1 by omega]
      rw [decide_eq_true h4]
      simp [g3,ld2,-aG,wn,ix,ldc,Sv,show¬ (fs.length:Int)<3 by omega]
      refine ay (by simp) ?_
      exact hnew _ (by simp [g0]) (by simp [g2]) (by simp [g3]) (by simp [ha]) (by simp) (by simp)
    ·simp [g0,g3,ha,ii,dd,ha0,ha1,h4,show(0:Int)<(ts'.length:Int)+1 by omega]
     refine ay (by simp) ?_
     exact hnew _ (by simp [g0]) (by simp [g2]) (by simp [g3]) (by simp [ha]) (by simp) (by simp)
  rintro t J ⟨ct,ts,hT,k,g0,g2,g3⟩ ha
  have h0:=aN k.res
  have ld1:ldV J (some 1) (.c (.ptr 1 0 0))=some (.a [ct]):=by simp [ldV,aP,k.out,aQ]
  have st0:stC J (.ptr 0 0 0) [ct]=some (J.set 0 (.box [ct] 0)):=by simp [stC,k.res,over]
  refine ak (aj (.inl rfl) ?_)
  simp [g2,g3,ld1,st0,-aG,-bI]
  have kl:TL (J.set 0 (.box [ct] 0)) ct ts:=k.tl.keep (fun i y hy hi _=>by rw [ag (Ne.symm hi)];exact hy) ⟨_,_,k.res⟩ ⟨_,_,k.out⟩
  obtain⟨tg,hex⟩:=kl.ex 62
  refine aO (hQ _ _ _ ⟨tg,_,hT.mix,rfl⟩ ⟨rfl,.a [ct],?_,?_⟩)
  ·simp [Km.results,resOne,bf,g2,h0,aQ]
  ·simp [exV,dw,bf,deep,hex]
 exact⟨tg,ts,hm,hp.eq⟩
end Go.Proofs.YthfeogjbpgocbaaGreat
end
section
namespace Go.Proofs.YthfeogjbpgocbaaGreat
open Go Km
structure HrD where
 dg:Tg
 days:List ByD
 fr:Nat
 le:Nat
abbrev u16(n:Nat):FC:=.int .u16 (n:Nat)
def HrD.row(x:HrD):List FC:=[sl x.dg (iV x.days),u16 x.fr,u16 x.le]
structure HrD.OK(x:HrD):Prop where
 dl:x.days.length≤9223372036854775807
 d:∀ b ∈ x.days,aIm b
 fr:x.fr<65536
 le:x.le<65536
set_option maxRecDepth 100000 in
theorem FZ{x:HrD}(hx:x.OK):∃ h:gJ,h.OK∧Km.Pure tab.get NG [.a (x.row.map .f)]=Eq (.a (h.row.map .f)):=by
 obtain⟨tg,ts,hm,hmd⟩:=ai1 x.dg hx.dl hx.d
 have hf:=hx.fr
 have hle:=hx.le
 refine⟨⟨tg,ts,(x.fr:Int) % 1440,min 1440 ((x.fr:Int) % 1440+1+(x.le:Int) % 1440)⟩,⟨hm,by simp only;omega,by simp only;omega,by simp only;omega⟩,Km.Pure.eq ?_⟩
 refine dD aH2 rfl fun Q hQ=>?_
 have w1:IntKind.i64.wrap (x.fr:Int)=x.fr:=wrap64 (by omega) (by omega)
 have w2:IntKind.i64.wrap (x.le:Int)=x.le:=wrap64 (by omega) (by omega)
 have w3:IntKind.i64.wrap ((x.fr:Int) % 1440+1)=(x.fr:Int) % 1440+1:=wrap64 (by omega) (by omega)
 have w4:IntKind.i64.wrap ((x.fr:Int) % 1440+1+(x.le:Int) % 1440)=(x.fr:Int) % 1440+1+(x.le:Int) % 1440:=wrap64 (by omega) (by omega)
 have r1:bM .rem (vi x.fr) (vi 1440)=some (vi ((x.fr:Int) % 1440)):=nH (by omega) (by decide)
 have r2:bM .rem (vi x.le) (vi 1440)=some (vi ((x.le:Int) % 1440)):=nH (by omega) (by decide)
 refine ak (aj (.inl rfl) ?_)
 simp [HrD.row]
 refine ak (aj (.inl rfl) ?_)
 simp [aQ,w1,r1]
 refine ak (aj (.inl rfl) ?_)
 simp [aQ,hmd,w2,r2,w3,w4]
 refine aO (hQ _ _ ?_)
 simp [gJ.row,aQ,exV,dw,bf]
end Go.Proofs.YthfeogjbpgocbaaGreat
end
section
namespace Go.Proofs.YthfeogjbpgocbaaGreat
open Go Km
structure rV where
 z:jM
 hg:Tg
 hs:List HrD
 cg:Tg
 cl:List Nat
def l9(l:List HrD):List (List FC):=l.map HrD.row
@[simp] theorem aGg (l:List HrD):(l9 l).length=l.length:=by simp [l9]
theorem Jr(l:List HrD):Grid 3 (l9 l):=Grid.map fun _=>rfl
theorem SK{l:List HrD}{j:Nat}(hj:j<l.length):(l9 l)[j]?=some l[j].row:=by simp [l9,hj]
def rV.row(x:rV):List FC:=x.z.row++[sl x.hg (l9 x.hs),sl x.cg (dZ x.cl)]
structure rV.OK(x:rV):Prop where
 z:x.z.OK
 hl:x.hs.length≤9223372036854775807
 hs:∀ h ∈ x.hs,h.OK
 cl:x.cl.length≤9223372036854775807
 cs:∀ n ∈ x.cl,n<256
structure OpD where
 z:ZD
 hg:Tg
 hs:List gJ
 cg:Tg
 cl:List Int
def OpD.row(x:OpD):List FC:=x.z.row++[sl x.hg (dA x.hs),sl x.cg (ints x.cl)]
structure OpD.OK(x:OpD)(o:List TrD):Prop where
 z:OKZ x.z o
 hl:x.hs.length≤4
 hs:∀ h ∈ x.hs,h.OK
 cl:x.cl.length≤64
 cb:∀ d ∈ x.cl,0≤d∧d≤1000000
 cp:x.cl.Pairwise (· < ·)
theorem yY{z:ZD}(hc:z.c<3):∃ a b c d e f g h,z.row=[a,b,c,d,e,f,g,h]:=by
 have:=ZD.zn hc
 match hr:z.row,this with
 | [a,b,c,d,e,f,g,h],_=>exact⟨a,b,c,d,e,f,g,h,rfl⟩
structure OI(x:rV)(z:ZD)(hs:List gJ)(ch:C)(cl:List Int)(cc:C)(t:T)(J:Heap):Prop where
 raw:J[0]?=some (.box (x.row.map .f) 0)
 res:J[1]?=some (.box [.f (fi 0),.f .aB,.f (fi 0),.f .aB,.f (fi 0),.f .aB,.f (fi 0),.f .aB,.f .aB,.f .aB] 0)
 ob:J[2]?=some (.box (z.row.map .f++[ch,cc]) 0)
 lh:LR J ch 3 (dA hs)
 lc:LR J cc 1 (ints cl)
 ne:∀ i,dO ch=some i→dO cc≠some i
 g1:t.g 1=.c (.ptr 0 0 0)
 g2:t.g 2=.c (.ptr 1 0 0)
 g3:t.g 3=.c (.ptr 2 0 0)
section
variable{x:rV}{z:ZD}{hs:List gJ}{ch ch':C}{cl:List Int}{cc cc':C}{t:T}{J:Heap}
theorem OI.to(k:OI x z hs ch cl cc t J){t':T}(g1:t'.g 1=.c (.ptr 0 0 0))(g2:t'.g 2=.c (.ptr 1 0 0))(g3:t'.g 3=.c (.ptr 2 0 0)):OI x z hs ch cl cc t' J:=⟨k.raw,k.res,k.ob,k.lh,k.lc,k.ne,g1,g2,g3⟩
theorem aPM(hc:z.c<3)(h:J[2]?=some (.box (z.row.map .f++[ch,cc]) 0)):ldV J none (.c (.ptr 2 8 0))=some (.c ch):=by
 obtain⟨a,b,c,d,e,f,g,i,hr⟩:=yY hc
 rw [hr]at h
 simp [ldV,aP,h,aQ]
theorem aPN(hc:z.c<3)(h:J[2]?=some (.box (z.row.map .f++[ch,cc]) 0)):ldV J none (.c (.ptr 2 9 0))=some (.c cc):=by
 obtain⟨a,b,c,d,e,f,g,i,hr⟩:=yY hc
 rw [hr]at h
 simp [ldV,aP,h,aQ]
theorem aFA(hc:z.c<3)(h:J[2]?=some (.box (z.row.map .f++[ch,cc]) 0)):ldV J (some 10) (.c (.ptr 2 0 0))=some (.a (z.row.map .f++[ch,cc])):=by
 obtain⟨a,b,c,d,e,f,g,i,hr⟩:=yY hc
 rw [hr]at h ⊢
 simp [ldV,aP,h,aQ]
theorem aPJ(hc:z.c<3)(h:J[2]?=some (.box (z.row.map .f++[ch,cc]) 0)):stC J (.ptr 2 8 0) [ch']=some (J.set 2 (.box (z.row.map .f++[ch',cc]) 0)):=by
 obtain⟨a,b,c,d,e,f,g,i,hr⟩:=yY hc
 rw [hr]at h ⊢
 simp [stC,h,over]
theorem aPK(hc:z.c<3)(h:J[2]?=some (.box (z.row.map .f++[ch,cc]) 0)):stC J (.ptr 2 9 0) [cc']=some (J.set 2 (.box (z.row.map .f++[ch,cc']) 0)):=by
 obtain⟨a,b,c,d,e,f,g,i,hr⟩:=yY hc
 rw [hr]at h ⊢
 simp [stC,h,over]
theorem aJb(hx:J[0]?=some (.box (x.row.map .f) 0)):ldV J (some 14) (.c (.ptr 0 0 0))=some (.a (x.z.row.map .f)):=by
 simp [ldV,aP,hx,aQ,rV.row,jM.row]
theorem aBw(hx:J[0]?=some (.box (x.row.map .f) 0)):ldV J none (.c (.ptr 0 14 0))=some (.c (.f (sl x.hg (l9 x.hs)))):=by
 simp [ldV,aP,hx,aQ,rV.row,jM.row]
theorem aBx(hx:J[0]?=some (.box (x.row.map .f) 0)):ldV J none (.c (.ptr 0 15 0))=some (.c (.f (sl x.cg (dZ x.cl)))):=by
 simp [ldV,aP,hx,aQ,rV.row,jM.row]
theorem OI.aLq(hzc:z.c<3)(k:OI x z hs ch cl cc t J)(hl:hs.length≤10)(q:gJ) :
  ∃ c3 H3,dI (J++[.box (q.row.map .f) 0]) 3 40 (.c ch) (.c (.sl J.length 0 1 1 0 3))=some (.c c3,H3)∧stC H3 (.ptr 2 8 0) [c3]=some (H3.set 2 (.box (z.row.map .f++[c3,cc]) 0)) ∧
   ∀ t':T,t'.g 1=.c (.ptr 0 0 0)→t'.g 2=.c (.ptr 1 0 0)→t'.g 3=.c (.ptr 2 0 0)→OI x z (hs++[q]) c3 cl cc t' (H3.set 2 (.box (z.row.map .f++[c3,cc]) 0)):=by
 obtain⟨J2,hJ2⟩:∃ J2:Heap,J2=J++[.box (q.row.map .f) 0]:=⟨_,rfl⟩
 have up:∀ i y,J[i]?=some y→J2[i]?=some y:=fun i y hy=>by rw [hJ2,al (aN hy)];exact hy
 have hL2:LR J2 ch 3 (dA hs):=by rw [hJ2];exact k.lh.push _
 have hb2:J2[J.length]?=some (.box (q.row.map .f) 0):=by rw [hJ2];simp
 obtain⟨c3,H3,happ,hL3,hK3,hc3⟩:=hL2.app (nM hs) (by decide) (row:=q.row) rfl (bytes:=40) (iK (by simp;omega) (by decide)) hb2
 have up3:∀(i:Nat) (cs:List C) (fl:Nat),J[i]?=some (.box cs fl)→H3[i]?=some (.box cs fl):=fun i cs fl hy=>hK3.2 i _ (up _ _ hy) (hL2.dF (up _ _ hy))
 have hpb:=up3 _ _ _ k.ob
 have e3:dA hs++[q.row]=dA (hs++[q]):=by simp [dA]
 rw [e3]at hL3
 have hLc:LR H3 cc 1 (ints cl):=k.lc.keep fun i y hy hi=>hK3.2 i y (up _ _ hy) (fun e=>k.ne i e hi)
 refine⟨c3,H3,by rw [hJ2]at happ;exact happ,aPJ hzc hpb,fun t' g1 g2 g3=>⟨?_,?_,ax (aN hpb),hL3.set (hL3.dF hpb) _,hLc.set (hLc.dF hpb) _,?_,g1,g2,g3⟩⟩
 ·rw [ag (by decide)];exact up3 _ _ _ k.raw
 ·rw [ag (by decide)];exact up3 _ _ _ k.res
 ·intro i hi hi'
  rcases hc3 with e | e
  ·rw [e]at hi;exact k.ne i hi hi'
  ·rw [e]at hi
   cases hi
   have:=k.lc.lt hi'
   have h2:J2.length=J.length+1:=by rw [hJ2];simp
   omega
theorem OI.aLC(hzc:z.c<3)(k:OI x z hs ch cl cc t J)(hl:cl.length≤10)(n:Int) :
  ∃ c3 H3,dI (J++[.box [.f (fi n)] 0]) 1 8 (.c cc) (.c (.sl J.length 0 1 1 0 1))=some (.c c3,H3)∧stC H3 (.ptr 2 9 0) [c3]=some (H3.set 2 (.box (z.row.map .f++[ch,c3]) 0)) ∧
   ∀ t':T,t'.g 1=.c (.ptr 0 0 0)→t'.g 2=.c (.ptr 1 0 0)→t'.g 3=.c (.ptr 2 0 0)→OI x z hs ch (cl++[n]) c3 t' (H3.set 2 (.box (z.row.map .f++[ch,c3]) 0)):=by
 obtain⟨J2,hJ2⟩:∃ J2:Heap,J2=J++[.box ([fi n].map .f) 0]:=⟨_,rfl⟩
 have up:∀ i y,J[i]?=some y→J2[i]?=some y:=fun i y hy=>by rw [hJ2,al (aN hy)];exact hy
 have hL2:LR J2 cc 1 (ints cl):=by rw [hJ2];exact k.lc.push _
 have hb2:J2[J.length]?=some (.box ([fi n].map .f) 0):=by rw [hJ2];simp
 obtain⟨c3,H3,happ,hL3,hK3,hc3⟩:=hL2.app (jX cl) (by decide) (row:=[fi n]) rfl (bytes:=8) (iK (by simp [ints];omega) (by decide)) hb2
 have up3:∀(i:Nat) (cs:List C) (fl:Nat),J[i]?=some (.box cs fl)→H3[i]?=some (.box cs fl):=fun i cs fl hy=>hK3.2 i _ (up _ _ hy) (hL2.dF (up _ _ hy))
 have hpb:=up3 _ _ _ k.ob
 have e3:ints cl++[[fi n]]=ints (cl++[n]):=by simp [ints]
 rw [e3]at hL3
 have hLh:LR H3 ch 3 (dA hs):=k.lh.keep fun i y hy hi=>hK3.2 i y (up _ _ hy) (k.ne i hi)
 refine⟨c3,H3,by rw [hJ2]at happ;exact happ,aPK hzc hpb,fun t' g1 g2 g3=>⟨?_,?_,ax (aN hpb),hLh.set (hLh.dF hpb) _,hL3.set (hL3.dF hpb) _,?_,g1,g2,g3⟩⟩
 ·rw [ag (by decide)];exact up3 _ _ _ k.raw
 ·rw [ag (by decide)];exact up3 _ _ _ k.res
 ·intro i hi
  rcases hc3 with e | e
  ·rw [e];exact k.ne i hi
  ·rw [e]
   intro e'
   cases e'
   have:=k.lh.lt hi
   have h2:J2.length=J.length+1:=by rw [hJ2];simp
   omega
end
set_option maxRecDepth 100000 in
theorem RX{x:rV}(hx:x.OK):∃ p o,OpD.OK p o∧p.hs.length≤3∧Km.Pure tab.get Hr [.a (x.row.map .f)]=Eq (.a (p.row.map .f)):=by
 obtain⟨z,o,hz,hmz⟩:=RY hx.z
 have hzc:=hz.c
 obtain⟨z0,z1,z2,z3,z4,z5,z6,z7,hr⟩:=yY hzc
 obtain⟨rr,⟨p,hp,hp3,rfl⟩,hpp⟩:∃ rr,(∃ p,OpD.OK p o∧p.hs.length≤3∧rr=.a (p.row.map .f))∧Km.Pure tab.get Hr [.a (x.row.map .f)] rr:=by
  refine iL aH3 rfl fun Q hQ=>?_
  have hhl:=hx.hl
  have hcl:=hx.cl
  obtain⟨N,hN⟩:∃ N,N=min x.hs.length 3:=⟨_,rfl⟩
  obtain⟨M,hM⟩:∃ M,M=min x.cl.length 5:=⟨_,rfl⟩
  refine ak (aj (.inl rfl) ?_)
  simp
  obtain⟨B0,hB0⟩:∃ B0:Blk,B0=.box (x.row.map .f) 0:=⟨_,rfl⟩
  rw [←hB0]
  have lz:∀(J:Heap),ldV (B0::J) (some 14) (.c (.ptr 0 0 0))=some (.a (x.z.row.map .f)):=fun J=>aJb (by rw [hB0];rfl)
  refine ak (aj (.inl rfl) ?_)
  simp [lz,-aG,hmz,hr]
  obtain⟨J0,hJ0⟩:∃ J0:Heap,J0=[B0,.box [.f (fi 0),.f .aB,.f (fi 0),.f .aB,.f (fi 0),.f .aB,.f (fi 0),.f .aB,.f .aB,.f .aB] 0,.box [.f z0,.f z1,.f z2,.f z3,.f z4,.f z5,.f z6,.f z7,.f .aB,.f .aB] 0]:=⟨_,rfl⟩
  rw [←hJ0]
  have k0:∀ t:T,t.g 1=.c (.ptr 0 0 0)→t.g 2=.c (.ptr 1 0 0)→t.g 3=.c (.ptr 2 0 0)→OI x z [] (.f .aB) [] (.f .aB) t J0:=fun t g1 g2 g3=>
   ⟨by rw [hJ0,hB0];rfl,by rw [hJ0];rfl,by rw [hJ0,hr];rfl,LR.nil _ _,LR.nil _ _,(fun i h=>by cases h),g1,g2,g3⟩
  refine ak (ak (aj (.inl rfl) ?_))
  simp
  refine ku N (fun j t J=>∃ hs ch,hs.length=j∧(∀ h ∈ hs,h.OK)∧OI x z hs ch [] (.f .aB) t J) (by omega) (by decide) (by simp)
   ⟨[],.f .aB,rfl,by simp,k0 _ (by simp) (by simp) (by simp)⟩ ?_ ?_ ?_
  ·rintro j t J L hj ⟨hs,ch,hl,ho,k⟩ ha hn
   have lh:=aBw k.raw
   by_cases c1:(j:Int)<x.hs.length
   ·simp [ha,k.g1,lh,-aG,c1]
    exact hn _ ⟨hs,ch,hl,ho,k.to (by simp [k.g1]) (by simp [k.g2]) (by simp [k.g3])⟩ (by simp [ha]) (by simp;omega)
   ·simp [ha,k.g1,lh,-aG,c1]
    exact hn _ ⟨hs,ch,hl,ho,k.to (by simp [k.g1]) (by simp [k.g2]) (by simp [k.g3])⟩ (by simp [ha]) (by simp;omega)
  ·rintro j t J hj ⟨hs,ch,hl,ho,k⟩ ha nx
   have hjl:j<x.hs.length:=by omega
   have lh:=aBw k.raw
   have ii:aV J 3 none (.c (.f (sl x.hg (l9 x.hs)))) (vi j)=some (.c (.f (.fp (l9 x.hs).flatten (j*3)))):=by
    have:=iD (H:=J) (g:=x.hg) (rows:=l9 x.hs) (sz:=3) (k:=.i64) (i:=(j:Int)) (by omega) (by simp;omega)
    simpa using this
   have dd:ldV J (some 3) (.c (.f (.fp (l9 x.hs).flatten (j*3))))=some (.a (x.hs[j].row.map .f)):=mZ (Jr x.hs) (SK hjl)
   obtain⟨h,hh,hm⟩:=FZ (hx.hs _ (av hjl))
   obtain⟨c3,H3,happ,hst,hk⟩:=k.aLq hzc (by omega) h
   simp only [gJ.row,aR,bh]at happ hm
   refine aH (aj (.inl rfl) ?_)
   simp [ha,k.g1,k.g3,lh,aPM hzc k.ob,ii,dd,hm,happ,hst,-aG,-bI]
   refine aI (nx _ _ ⟨hs++[h],c3,by simp;omega,fun y hy=>?_,hk _ (by simp [k.g1]) (by simp [k.g2]) (by simp [k.g3])⟩ (by simp [ha]))
   rcases bS.1 hy with hy | hy
   ·exact ho y hy
   ·simp at hy;subst hy;exact hh
  rintro t J ⟨hs,ch,hl,ho,k⟩ ha
  refine ak (aj (.inl rfl) ?_)
  simp
  refine ak (ak (aj (.inl rfl) ?_))
  simp
  refine ku M (fun j t J=>∃(cl:List Int) (cc:C) (day:Int),cl.length=j∧-1≤day∧day≤9*j∧(∀ d ∈ cl,0≤d∧d≤day)∧cl.Pairwise (· < ·)∧t.g 5=vi day∧OI x z hs ch cl cc t J) (by omega) (by decide) (by simp)
   ⟨[],.f .aB,-1,rfl,by decide,by decide,by simp,List.Pairwise.nil,by simp,k.to (by simp [k.g1]) (by simp [k.g2]) (by simp [k.g3])⟩ ?_ ?_ ?_
  ·clear k ha
   rintro j t J L hj ⟨cl,cc,day,hcj,d0,d1,hcb,hcp,g5,k⟩ ha hn
   have lc:=aBx k.raw
   by_cases c1:(j:Int)<x.cl.length
   ·simp [ha,k.g1,lc,-aG,c1]
    exact hn _ ⟨cl,cc,day,hcj,d0,d1,hcb,hcp,by simp [g5],k.to (by simp [k.g1]) (by simp [k.g2]) (by simp [k.g3])⟩ (by simp [ha]) (by simp;omega)
   ·simp [ha,k.g1,lc,-aG,c1]
    exact hn _ ⟨cl,cc,day,hcj,d0,d1,hcb,hcp,by simp [g5],k.to (by simp [k.g1]) (by simp [k.g2]) (by simp [k.g3])⟩ (by simp [ha]) (by simp;omega)
  ·clear k ha
   rintro j t J hj ⟨cl,cc,day,hcj,d0,d1,hcb,hcp,g5,k⟩ ha nx
   have hjl:j<x.cl.length:=by omega
   have lc:=aBx k.raw
   have ii:=rF (g:=x.cg) hjl (H:=J)
   have dd:=vU hjl (H:=J)
   have bn:=hx.cs _ (av hjl)
   have r9:bM .rem (.c (.f (u8 x.cl[j]))) (.c (.f (.int .u8 9)))=some (.c (.f (u8 (x.cl[j] % 9)))):=wY _ (by decide)
   have w1:IntKind.i64.wrap (day+1)=day+1:=wrap64 (by omega) (by omega)
   have w2:IntKind.i64.wrap ((x.cl[j]:Int) % 9)=(x.cl[j]:Int) % 9:=wrap64 (by omega) (by omega)
   have w3:IntKind.i64.wrap (day+1+(x.cl[j]:Int) % 9)=day+1+(x.cl[j]:Int) % 9:=wrap64 (by omega) (by omega)
   obtain⟨c3,H3,happ,hst,hk⟩:=k.aLC hzc (by omega) (day+1+(x.cl[j]:Int) % 9)
   refine aH (ak (aj (.inl rfl) ?_))
   simp [ha,k.g1,g5,lc,ii,dd,r9,w1,w2,w3,-aG]
   refine aj (.inl rfl) ?_
   simp [k.g3,aPN hzc k.ob,happ,hst,-aG,-bI]
   refine aI (nx _ _ ⟨cl++[day+1+(x.cl[j]:Int) % 9],c3,day+1+(x.cl[j]:Int) % 9,by simp;omega,by omega,by omega,fun y hy=>?_,?_,by simp,hk _ (by simp [k.g1]) (by simp [k.g2]) (by simp [k.g3])⟩ (by simp [ha]))
   ·rcases bS.1 hy with hy | hy
    ·have:=hcb y hy;omega
    ·simp at hy;subst hy;omega
   ·rw [dm]
    exact⟨hcp,cV _ _,fun a ha b hb=>by simp at hb;subst hb;have:=hcb a ha;omega⟩
  clear k ha
  rintro t J ⟨cl,cc,day,hcj,d0,d1,hcb,hcp,g5,k⟩ ha
  have hres:stC J (.ptr 1 0 0) (z.row.map .f++[ch,cc])=some (J.set 1 (.box (z.row.map .f++[ch,cc]) 0)):=by rw [hr];simp [stC,k.res,over]
  have hl0:=aN k.res
  obtain⟨hg,hh⟩:=k.lh.exU (nM _)
  obtain⟨cg,hc⟩:=k.lc.exU (jX _)
  have e1:=hh (J.set 1 (.box (z.row.map .f++[ch,cc]) 0)) 63 fun i y hi he=>by
   rw [ag (by rintro rfl;exact k.lh.dF k.res he)];exact hi
  have e2:=hc (J.set 1 (.box (z.row.map .f++[ch,cc]) 0)) 63 fun i y hi he=>by
   rw [ag (by rintro rfl;exact k.lc.dF k.res he)];exact hi
  have hall:=aFA hzc k.ob
  rw [hr]at hres hall e1 e2
  simp only [aR,bh,List.cons_append,List.nil_append]at hres hall e1 e2
  refine ak (aj (.inl rfl) ?_)
  simp [k.g2,k.g3,hall,hres,-aG,-bI]
  refine aO (hQ _ _ _ ⟨⟨z,hg,hs,cg,cl⟩,⟨hz,?_,ho,?_,fun d hd=>?_,hcp⟩,?_,rfl⟩ ⟨rfl,.a [.f z0,.f z1,.f z2,.f z3,.f z4,.f z5,.f z6,.f z7,ch,cc],?_,?_⟩)
  ·simp only;omega
  ·simp only;omega
  ·have:=hcb d hd;omega
  ·simp only;omega
  ·simp [Km.results,resOne,bf,k.g2,hl0,aQ]
  ·simp [exV,dw,bf,deep,e1,e2,OpD.row,hr]
 exact⟨p,o,hp,hp3,hpp.eq⟩
end Go.Proofs.YthfeogjbpgocbaaGreat
end
section
namespace Go.Proofs.YthfeogjbpgocbaaGreat
open Go Km
section
variable{J:Heap}{b fl:Nat}{p:OpD}
theorem ai8(hc:p.z.c<3)(h:J[b]?=some (.box (p.row.map .f) fl)):ldV J (some 8) (.c (.ptr b 0 0))=some p.z.v:=by
 obtain⟨z,hg,hs,cg,cl⟩:=p
 obtain⟨a0,a1,a2,a3,a4,a5,a6,a7,hr⟩:=yY hc
 simp only at hr
 simp [ldV,aP,h,aQ,OpD.row,hr]
theorem aBF(hc:p.z.c<3)(h:J[b]?=some (.box (p.row.map .f) fl)):ldV J none (.c (.ptr b 8 0))=some (.c (.f (sl p.hg (dA p.hs)))):=by
 obtain⟨z,hg,hs,cg,cl⟩:=p
 obtain⟨a0,a1,a2,a3,a4,a5,a6,a7,hr⟩:=yY hc
 simp only at hr
 simp [ldV,aP,h,aQ,OpD.row,hr]
theorem ai9(hc:p.z.c<3)(h:J[b]?=some (.box (p.row.map .f) fl)):ldV J none (.c (.ptr b 9 0))=some (.c (.f (sl p.cg (ints p.cl)))):=by
 obtain⟨z,hg,hs,cg,cl⟩:=p
 obtain⟨a0,a1,a2,a3,a4,a5,a6,a7,hr⟩:=yY hc
 simp only at hr
 simp [ldV,aP,h,aQ,OpD.row,hr]
theorem zy(hc:p.z.c<3)(h:J[b]?=some (.box (p.row.map .f) fl)):ldV J (some 10) (.c (.ptr b 0 0))=some (.a (p.row.map .f)):=by
 obtain⟨z,hg,hs,cg,cl⟩:=p
 obtain⟨a0,a1,a2,a3,a4,a5,a6,a7,hr⟩:=yY hc
 simp only at hr
 simp [ldV,aP,h,aQ,OpD.row,hr]
theorem aKP(hc:p.z.c<3):ldV J none (.c (.f (.fp p.row 8)))=some (.c (.f (sl p.hg (dA p.hs)))):=by
 obtain⟨z,hg,hs,cg,cl⟩:=p
 obtain⟨a0,a1,a2,a3,a4,a5,a6,a7,hr⟩:=yY hc
 simp only at hr
 simp [ldV,aP,aQ,OpD.row,hr]
theorem Qe{j:Nat}(hj:j<p.hs.length):ldV J (some 3) (.c (.f (.fp (dA p.hs).flatten (j*3))))=some (.a (p.hs[j].row.map .f)):=mZ (nM p.hs) (Js hj)
theorem idh{j:Nat}(hj:j<p.hs.length):aV J 3 none (.c (.f (sl p.hg (dA p.hs)))) (vi j)=some (.c (.f (.fp (dA p.hs).flatten (j*3)))):=by
 have:=iD (H:=J) (g:=p.hg) (rows:=dA p.hs) (sz:=3) (k:=.i64) (i:=(j:Int)) (by omega) (by simp;omega)
 simpa using this
theorem idc{j:Nat}(hj:j<p.cl.length):aV J 1 none (.c (.f (sl p.cg (ints p.cl)))) (vi j)=some (.c (.f (.fp (ints p.cl).flatten j))):=by
 have:=iD (H:=J) (g:=p.cg) (rows:=ints p.cl) (sz:=1) (k:=.i64) (i:=(j:Int)) (by omega) (by simp;omega)
 simpa using this
theorem aKR{j:Nat}(hj:j<p.cl.length):ldV J none (.c (.f (.fp (ints p.cl).flatten j)))=some (vi p.cl[j]):=by
 have:=Gg (H:=J) (ae hj)
 simpa [ints]using this
end
theorem mixV_sp(g:Tg){l:List TermD}(h:mixB l=true):Km.Pure tab.get F_x38 [.a [.f (sl g (termRows l))]]=Eq (vb true):=by
 obtain⟨h1,h2⟩:=Dy h
 have hm:=aiW g l (by omega) (fun t ht=>⟨by have:=(jR (h2 t ht)).2.1;omega,fun p hp=>FD ((jR (h2 t ht)).2.2 p hp)⟩)
 rw [hm,h]
set_option maxRecDepth 100000 in
theorem QM{p:OpD}{o:List TrD}(h:p.OK o):Km.Pure tab.get aki [.a (p.row.map .f)]=Eq (vi 0):=Km.Pure.eq (by
 have hz:=QK h.z
 have hc:=h.z.c
 have hhl:=h.hl
 have hcl:=h.cl
 refine dD aMU rfl fun Q hQ=>?_
 refine ak (aj (.inl rfl) ?_)
 simp
 obtain⟨H0,hH0⟩:∃ H0:Heap,H0=[.box (p.row.map .f) 0]:=⟨_,rfl⟩
 rw [←hH0]
 have z0:H0[0]?=some (.box (p.row.map .f) 0):=by rw [hH0];rfl
 clear hH0
 refine ak (ak (aj (.inl rfl) ?_))
 simp [ai8 hc z0,aBF hc z0,-aG,hz,show¬ 32<(p.hs.length:Int) by omega]
 refine ay (by simp) (aF ?_)
 refine ak (ak (aj (.inl rfl) ?_))
 simp [aBF hc z0,-aG]
 refine kS p.hs.length (fun j t J=>J[0]?=some (.box (p.row.map .f) 0)∧t.g 1=.c (.ptr 0 0 0)∧t.g 19=.c (.f (sl p.hg (dA p.hs)))) (by omega) (by decide) (by decide) (by simp) (by simp) ⟨z0,by simp,by simp⟩ ?_ ?_
 ·rintro j t J hj ⟨y0,g1,g19⟩ ha hb nx
  obtain⟨hm,a1,a2,a3⟩:=h.hs _ (av hj)
  have hmv:=mixV_sp p.hs[j].tg hm
  have hrow:=Qe (J:=J) hj
  simp only [gJ.row,aR,bh]at hrow
  obtain⟨J1,hJ1⟩:∃ J1:Heap,J1=J++[.box [.f (sl p.hs[j].tg (termRows p.hs[j].ts)),.f (fi p.hs[j].fr),.f (fi p.hs[j].to)] 0]:=⟨_,rfl⟩
  have y1:J1[0]?=some (.box (p.row.map .f) 0):=by rw [hJ1,al (aN y0)];exact y0
  have eb:J1[J.length]?=some (.box [.f (sl p.hs[j].tg (termRows p.hs[j].ts)),.f (fi p.hs[j].fr),.f (fi p.hs[j].to)] 0):=by rw [hJ1];simp
  refine aH (ak (aj (.inl rfl) ?_))
  simp [g19,ha,idh hj,hrow]
  rw [←hJ1]
  refine ak (aj (.inl rfl) ?_)
  simp [eb,aQ,show¬ p.hs[j].fr<0 by omega,show¬ p.hs[j].to≤p.hs[j].fr by omega,show¬ 1440<p.hs[j].to by omega,hmv]
  refine ay (by simp) (aF (aI ?_))
  exact nx _ _ ⟨y1,by simp [g1],by simp [g19]⟩ (by simp [ha]) (by simp [hb])
 clear z0
 rintro t J ⟨z0,g1,g19⟩ ha hb
 refine ak (aj (.inl rfl) ?_)
 simp
 refine ak (ak (aj (.inl rfl) ?_))
 simp [g1,ai9 hc z0,-aG]
 refine kS p.cl.length (fun j t J=>J[0]?=some (.box (p.row.map .f) 0)∧t.g 1=.c (.ptr 0 0 0)∧t.g 48=.c (.f (sl p.cg (ints p.cl)))∧∃ last:Int,t.g 5=vi last∧∀ i (hi:i<p.cl.length),j≤i→last<p.cl[i]) (by omega) (by decide) (by decide) (by simp) (by simp)
  ⟨z0,by simp [g1],by simp,-1,by simp,fun i hi _=>by have:=h.cb _ (av hi);omega⟩ ?_ ?_
 ·clear g1 g19 ha hb z0
  rintro j t J hj ⟨y0,g1,g48,last,g5,hlast⟩ ha hb nx
  have hcb:=h.cb _ (av hj)
  have hl:=hlast j hj (aw j)
  refine aH (ak (aj (.inl rfl) ?_))
  simp [g48,ha,idc hj,aKR hj]
  refine ak (ak (aj (.inl rfl) ?_))
  simp [g5,show¬ p.cl[j]≤last by omega,show¬ 1099511627776≤p.cl[j] by omega]
  refine ay (by simp) (aF ?_)
  refine aj (.inl rfl) ?_
  simp
  refine aI ?_
  exact nx _ _ ⟨y0,by simp [g1],by simp [g48],_,by simp,fun i hi hji=>List.pairwise_iff_getElem.1 h.cp j i hj hi (by omega)⟩ (by simp [ha]) (by simp [hb])
 clear g1 g19 ha hb z0
 rintro t J ⟨z0,g1,g48,last,g5,hlast⟩ ha hb
 refine ak (ak (aj (.inl rfl) ?_))
 simp [g1,ai9 hc z0,-aG,show¬ 64<(p.cl.length:Int) by omega]
 refine ay (by simp) (aF ?_)
 refine ak (aj (.inl rfl) ?_)
 simp
 refine aO (hQ _ _ ?_)
 simp)
end Go.Proofs.YthfeogjbpgocbaaGreat
end
section
namespace Go.Proofs.YthfeogjbpgocbaaGreat
open Go Km
end Go.Proofs.YthfeogjbpgocbaaGreat
end
section
namespace Go.Proofs.YthfeogjbpgocbaaGreat
open Go Km
theorem ahI(n:Int)(h0:-1000000000≤n)(h1:n≤1000000000):Km.Pure tab.get akg [vi n]=Eq (.t [vi (n / 1440),vi (n % 1440)]):=Km.Pure.eq (by
 have f:=Jv n 1440 (by decide) (by omega) (by omega)
 have m:=aFG n 1440 (by decide) (by omega) (by omega) (by decide)
 refine dD aMQ rfl fun Q hQ=>?_
 refine ak (aj (.inl rfl) ?_)
 simp
 refine ak (aj (.inl rfl) ?_)
 simp [f]
 refine ak (aj (.inl rfl) ?_)
 simp [m]
 refine ak (aj (.inl rfl) ?_)
 simp
 refine aO (hQ _ _ ?_)
 simp)
abbrev elF(p:OpD)(m n:Int):V:=.c (.f (.fn Ea [.fp p.row 0,.fp [fi m] 0,.fp [fi n] 0]))
theorem Jz(p:OpD)(m n:Int):Km.Pure tab.get akh [.a (p.row.map .f),vi m,vi n]=Eq (elF p m n):=Km.Pure.eq (by
 refine dD aMS rfl fun Q hQ=>?_
 refine ak (aj (.inl rfl) ?_)
 simp
 refine ak (aj (.inl rfl) ?_)
 simp
 refine aO (hQ _ _ ?_)
 simp [exV,dw,bf,deep,exC])
set_option maxRecDepth 100000 in
theorem JA{p:OpD}(hc:p.z.c<3)(hhl:p.hs.length≤4)(hb:∀ h ∈ p.hs,h.OK){m n:Int}(m0:0≤m)(m1:m≤1000000)(n0:0≤n)(n1:n≤1000000){b:Nat}{H:Heap}(I:Nat→Heap→Prop){PP:Heap→Prop}
  (hI0:I 0 H) (hpush:∀ j J L,I j J→I j (J++L)) (aBJ:∀ j J (hj:j<p.hs.length),AV p.hs[j] m n=false→I j J→I (j+1) J)
  (aGe:∀ j J (hj:j<p.hs.length),AV p.hs[j] m n=true→I j J→(∃ J',Ev tab.get (.yield b) [.a (p.hs[j].row.map .f)] J (vb true) J'∧I (j+1) J')∨(∃ J',Ev tab.get (.yield b) [.a (p.hs[j].row.map .f)] J (vb false) J'∧PP J'))
  (hdone:∀ J,I p.hs.length J→PP J) :
  ∃ r H',Ev tab.get (.fn Ea) [.c (.yl b),.c (.f (.fp p.row 0)),.c (.f (.fp [fi m] 0)),.c (.f (.fp [fi n] 0))] H r H'∧(r=.t []∧PP H'):=by
 refine gu aMR rfl fun Q hQ=>?_
 have lm:∀ J:Heap,ldV J none (.c (.f (.fp [fi m] 0)))=some (vi m):=fun J=>by simp [ldV,aP,aQ]
 have ln:∀ J:Heap,ldV J none (.c (.f (.fp [fi n] 0)))=some (vi n):=fun J=>by simp [ldV,aP,aQ]
 have w1:IntKind.i64.wrap (m+n)=m+n:=wrap64 (by omega) (by omega)
 refine ak (aj (.inl rfl) ?_)
 simp [aKP hc]
 refine kS p.hs.length (fun j t J=>I j J∧t.g 0=.c (.yl b)∧t.g 2=.c (.f (.fp [fi m] 0))∧t.g 3=.c (.f (.fp [fi n] 0))∧t.g 8=.c (.f (sl p.hg (dA p.hs)))) (by omega) (by decide) (by decide) (by simp) (by simp)
  ⟨hI0,by simp,by simp,by simp,by simp⟩ ?_ ?_
 ·rintro j t J hj ⟨hI,g0,g2,g3,g8⟩ ha hb' nx
  have hrow:=Qe (J:=J) hj
  simp only [gJ.row,aR,bh]at hrow
  obtain⟨J1,hJ1⟩:∃ J1:Heap,J1=J++[.box [.f (sl p.hs[j].tg (termRows p.hs[j].ts)),.f (fi p.hs[j].fr),.f (fi p.hs[j].to)] 0]:=⟨_,rfl⟩
  have eb:J1[J.length]?=some (.box [.f (sl p.hs[j].tg (termRows p.hs[j].ts)),.f (fi p.hs[j].fr),.f (fi p.hs[j].to)] 0):=by rw [hJ1];simp
  have hI1:I j J1:=by rw [hJ1];exact hpush _ _ _ hI
  refine aH (ak (aj (.inl rfl) ?_))
  simp [g8,ha,idh hj,hrow]
  rw [←hJ1]
  refine ak (aj (.inl rfl) ?_)
  by_cases c1:p.hs[j].fr≤m
  ·by_cases c2:m+n≤p.hs[j].to
   ·have hfit:AV p.hs[j] m n=true:=by simp [AV,c1,c2]
    rcases aGe j J1 hj hfit hI1 with⟨J',hev,hI'⟩ | ⟨J',hev,hPP⟩
    ·simp only [gJ.row,aR,bh]at hev
     simp [g0,g2,g3,eb,aQ,lm,ln,w1,c1,c2,hev.eq]
     refine ay (by simp) (aF (aI ?_))
     exact nx _ _ ⟨hI',by simp [g0],by simp [g2],by simp [g3],by simp [g8]⟩ (by simp [ha]) (by simp [hb'])
    ·simp only [gJ.row,aR,bh]at hev
     simp [g0,g2,g3,eb,aQ,lm,ln,w1,c1,c2,hev.eq]
     refine aA (by simp) ?_
     exact aO (hQ _ _ _ rfl rfl ⟨rfl,hPP⟩)
   ·have hfit:AV p.hs[j] m n=false:=by simp [AV,c1,c2]
    simp [g2,g3,eb,aQ,lm,ln,w1,c1,c2]
    refine ay (by simp) (aF (aI ?_))
    exact nx _ _ ⟨aBJ j J1 hj hfit hI1,by simp [g0],by simp [g2],by simp [g3],by simp [g8]⟩ (by simp [ha]) (by simp [hb'])
  ·have hfit:AV p.hs[j] m n=false:=by simp [AV,c1]
   simp [g2,eb,aQ,lm,c1]
   refine ay (by simp) (aF (aI ?_))
   exact nx _ _ ⟨aBJ j J1 hj hfit hI1,by simp [g0],by simp [g2],by simp [g3],by simp [g8]⟩ (by simp [ha]) (by simp [hb'])
 ·rintro t J ⟨hI,-⟩ ha hb'
  exact kR (hQ _ _ _ rfl rfl ⟨rfl,hdone J hI⟩)
end Go.Proofs.YthfeogjbpgocbaaGreat
end
section
namespace Go.Proofs.YthfeogjbpgocbaaGreat
open Go Km
set_option maxRecDepth 100000 in
theorem Nb{p:OpD}{o:List TrD}(h:p.OK o){fr to:Int}(f0:-1000000≤fr)(ft:fr<to)(t1:to≤1000000)(hle:to-fr≤1000000) :
  ∃ r,Last h.z.S fr r∧Km.Pure tab.get nC [.a (p.row.map .f),.a [.f (fi fr),.f (fi to)]]=Eq (vb (nP p.hs p.cl ((fr+offO p.z r) / 1440) ((fr+offO p.z r) % 1440) (to-fr))):=by
 obtain⟨r,hr,hloc⟩:=Sr h.z (t:=fr) (by omega) (by omega)
 refine⟨r,hr,?_⟩
 have hob:=h.z.offO hr
 obtain⟨lo,hlo⟩:∃ lo,lo=fr+offO p.z r:=⟨_,rfl⟩
 rw [←hlo]at hloc ⊢
 have hsp:=ahI lo (by omega) (by omega)
 obtain⟨day,aP1⟩:∃ d,d=lo / 1440:=⟨_,rfl⟩
 obtain⟨mi,hmi⟩:∃ d,d=lo % 1440:=⟨_,rfl⟩
 obtain⟨n,hn⟩:∃ n,n=to-fr:=⟨_,rfl⟩
 rw [←aP1,←hmi]at hsp ⊢
 rw [←hn]
 have dB:Day day:=by unfold Day;omega
 have mB:0≤mi∧mi≤1440:=by omega
 have wn:IntKind.i64.wrap n=n:=wrap64 (by omega) (by omega)
 have hc:=h.z.c
 have hhl:=h.hl
 obtain⟨bi,-,-,-,hbs⟩:=Bz p.cg p.cl day (by have:=h.cl;omega) h.cp
 have hel:=Jz p mi n
 obtain⟨rr,rfl,hp⟩:∃ rr,rr=vb (nP p.hs p.cl day mi n)∧Km.Pure tab.get nC [.a (p.row.map .f),.a [.f (fi fr),.f (fi to)]] rr:=by
  refine IQ aMT rfl fun Q hQ=>?_
  refine ak (aj (.inl rfl) ?_)
  simp
  obtain⟨H0,hH0⟩:∃ H0:Heap,H0=[.box (p.row.map .f) 0,.box [.f (fi fr),.f (fi to)] 0,.box [.f (.bool false)] 0]:=⟨_,rfl⟩
  rw [←hH0]
  have z0:H0[0]?=some (.box (p.row.map .f) 0):=by rw [hH0];rfl
  have z1:H0[1]?=some (.box [.f (fi fr),.f (fi to)] 0):=by rw [hH0];rfl
  have z2:H0[2]?=some (.box [.f (.bool false)] 0):=by rw [hH0];rfl
  have hl0:H0.length=3:=by rw [hH0];rfl
  have lf:∀ J:Heap,J[1]?=some (.box [.f (fi fr),.f (fi to)] 0)→ldV J none (.c (.ptr 1 0 0))=some (vi fr):=fun J hJ=>by simp [ldV,aP,hJ,aQ]
  have lt:∀ J:Heap,J[1]?=some (.box [.f (fi fr),.f (fi to)] 0)→ldV J none (.c (.ptr 1 1 0))=some (vi to):=fun J hJ=>by simp [ldV,aP,hJ,aQ]
  refine ak (aj (.inl rfl) ?_)
  simp [ai8 hc z0,lf H0 z1,-aG,hloc]
  refine ak (aj (.inl rfl) ?_)
  simp [hsp]
  obtain⟨J0,hJ0⟩:∃ J0:Heap,J0=H0++[.box [.f (fi day)] 0]:=⟨_,rfl⟩
  rw [←hJ0]
  have y0:J0[0]?=some (.box (p.row.map .f) 0):=by rw [hJ0,al (by omega)];exact z0
  have y1:J0[1]?=some (.box [.f (fi fr),.f (fi to)] 0):=by rw [hJ0,al (by omega)];exact z1
  have y2:J0[2]?=some (.box [.f (.bool false)] 0):=by rw [hJ0,al (by omega)];exact z2
  have y3:J0[3]?=some (.box [.f (fi day)] 0):=by rw [hJ0,←hl0];simp
  have hl1:J0.length=4:=by rw [hJ0];simp [hl0]
  clear hJ0 hH0
  have ld3:∀ J:Heap,J[3]?=some (.box [.f (fi day)] 0)→ldV J none (.c (.ptr 3 0 0))=some (vi day):=fun J hJ=>by simp [ldV,aP,hJ,aQ]
  have fin:∀(t:T) (J:Heap) (ds:List eP),nP p.hs p.cl day mi n=false→t.g 4=.c (.ptr 2 0 0)→J[2]?=some (.box [.f (.bool false)] 0)→(ds=[]∨∃ b,ds=[.coll b]∧2<b∧J[b]?=some (.dfr true))→∀ s',s'=(⟨t,ds,J.set 2 (.box [.f (.bool false)] 0)⟩:St)→Q (some .ret) s':=by
   rintro t J ds aGk g4 x2 hds s' rfl
   have l2:=aN x2
   have k2:(J.set 2 (.box [.f (.bool false)] 0))[2]?=some (.box [.f (.bool false)] 0):=ax l2
   refine hQ _ _ _ rfl ?_
   rw [aGk]
   rcases hds with rfl | ⟨b,rfl,hb,hxb⟩
   ·refine .inl ⟨rfl,vb false,?_,?_⟩
    ·simp [Km.results,resOne,bf,g4,l2,aQ]
    ·simp [exV,dw]
   ·have kb:(J.set 2 (.box [.f (.bool false)] 0))[b]?=some (.dfr true):=by rw [ag (by omega)];exact hxb
    have r2:((J.set 2 (.box [.f (.bool false)] 0)).set b (.dfr false))[2]?=some (.box [.f (.bool false)] 0):=by rw [ag (by omega)];exact k2
    refine .inr ⟨b,rfl,kb,vb false,?_,?_⟩
    ·simp [Km.results,resOne,bf,g4,r2,aQ]
    ·simp [exV,dw]
  have st2:∀(J:Heap) (v w:Bool),J[2]?=some (.box [.f (.bool v)] 0)→stC J (.ptr 2 0 0) [.f (.bool w)]=some (J.set 2 (.box [.f (.bool w)] 0)):=fun J v w hJ=>by simp [stC,hJ,over]
  refine ak (ak (aj (.inl rfl) ?_))
  simp [hl0,ai9 hc y0,ld3 J0 y3,-aG,hbs]
  refine ak (aj (.inl rfl) ?_)
  simp
  by_cases hcl:day ∈ p.cl
  ·refine aA (by simp [hcl]) (ak (aj (.inl rfl) ?_))
   simp [st2 J0 false false y2,-bI]
   refine aO (fin _ J0 [] (by unfold nP;simp [hcl]) (by simp) y2 (.inl rfl) _ rfl)
  refine ay (by simp [hcl]) (aF ?_)
  have hall:nP p.hs p.cl day mi n=p.hs.any fun h=>AV h mi n&&Dz h.ts day:=by unfold nP;simp [hcl]
  refine ak (ak (aj (.inl rfl) ?_))
  simp [zy hc y0,lf J0 y1,lt J0 y1,-aG,←hn,wn,hel]
  refine aH ?_
  have stage:∀ t:T,t.g 4=.c (.ptr 2 0 0)→t.g 7=.c (.ptr 3 0 0)→t.g 40=elF p mi n →
    WP tab.get nC none [.code (.gK (R 40) [P.nat 41] iH iG),.inBlock 0,.code J7] ⟨t,[],J0⟩ Q:=by
   intro t g4 g7 g40
   obtain⟨H1,hH1⟩:∃ H1:Heap,H1=J0++[.dfr true,.lp nC t [P.nat 41] iH iG .ready none J0.length]:=⟨_,rfl⟩
   have up1:∀ i y,J0[i]?=some y→H1[i]?=some y:=fun i y hy=>by rw [hH1,al (aN hy)];exact hy
   have w2:=up1 _ _ y2
   have w3:=up1 _ _ y3
   have hd:H1[4]?=some (.dfr true):=by rw [hH1,←hl1];simp
   have hlp:H1[5]?=some (.lp nC t [P.nat 41] iH iG .ready none 4):=by rw [hH1,List.getElem?_append_right (by omega),hl1];rfl
   obtain⟨r,H',he,rfl,hPP⟩:=JA hc hhl h.hs mB.1 (show mi≤1000000 by omega) (show 0≤n by omega) (show n≤1000000 by omega) (b:=5) (H:=H1)
    (fun j J=>Keeps H1 J∧∀ i (hi:i<p.hs.length),i<j→(AV p.hs[i] mi n&&Dz p.hs[i].ts day)=false)
    (PP:=fun H'=>(nP p.hs p.cl day mi n=false∧Keeps H1 H')∨(nP p.hs p.cl day mi n=true∧H'[2]?=some (.box [.f (.bool true)] 0)∧H'[4]?=some (.dfr true)∧∃ f2 tm ps aa bd,H'[5]?=some (.lp f2 tm ps aa bd .done (some .ret) 4)))
    ⟨Keeps.refl _,fun i hi h0=>by omega⟩ (fun j J L hI=>⟨hI.1.push L,hI.2⟩)
    (fun j J hj hf hI=>⟨hI.1,fun i hi hij=>by
     by_cases e:i=j
     ·subst e;rw [hf];rfl
     ·exact hI.2 i hi (by omega)⟩)
    (fun j J hj hf hI=>by
     have hmh:=axE p.hs[j].tg p.hs[j].ts (h.hs _ (av hj)).1 day dB
     have hlJ:=aN (hI.1 _ _ hlp)
     obtain⟨M,hM⟩:∃ M:Heap,M=(J++[Blk.box [.f (sl p.hs[j].tg (termRows p.hs[j].ts)),.f (fi p.hs[j].fr),.f (fi p.hs[j].to)] 0]).set 5 (.lp nC t [P.nat 41] iH iG .busy none 4):=⟨_,rfl⟩
     have upM:∀ i y,H1[i]?=some y→i≠5→M[i]?=some y:=fun i y hy hi=>by
      rw [hM,ag (by omega),al (aN (hI.1 _ _ hy))];exact hI.1 _ _ hy
     have m2:=upM _ _ w2 (by decide)
     have m3:=upM _ _ w3 (by decide)
     have m4:=upM _ _ hd (by decide)
     have mb:M[5]?=some (.lp nC t [P.nat 41] iH iG .busy none 4):=by rw [hM,ax (by simp;omega)]
     have mx:M[J.length]?=some (.box [.f (sl p.hs[j].tg (termRows p.hs[j].ts)),.f (fi p.hs[j].fr),.f (fi p.hs[j].to)] 0):=by rw [hM,ag (by omega)];simp
     have lx:ldV M (some 1) (.c (.ptr J.length 0 0))=some (.a [.f (sl p.hs[j].tg (termRows p.hs[j].ts))]):=by simp [ldV,aP,mx,aQ]
     cases hhas:Dz p.hs[j].ts day with
     | true=>
      refine .inr ?_
      obtain⟨r,H',e,rfl,hPP⟩:=qH (tab:=tab.get) (b:=5) (args:=[.a (p.hs[j].row.map .f)]) (H:=J)
       (C:=fun r H'=>r=vb false∧H'[2]?=some (.box [.f (.bool true)] 0)∧H'[4]?=some (.dfr true)∧∃ f2 tm ps aa bd,H'[5]?=some (.lp f2 tm ps aa bd .done (some .ret) 4)) (hI.1 _ _ hlp) rfl fun Q' hQ'=>by
        simp only [gJ.row,aR,bh]
        refine aj (.inr rfl) ?_
        simp
        refine Gi (by rw [al hlJ];exact hI.1 _ _ hlp) ?_
        rw [←hM]
        refine aH (ak (aj (.inr rfl) ?_))
        simp [lx,g7,ld3 M m3,-aG,hmh,hhas]
        refine aA (by simp) (ak (aj (.inr rfl) ?_))
        simp [g4,st2 M false true m2,-bI]
        have kb:(M.set 2 (.box [.f (.bool true)] 0))[5]?=some (.lp nC t [P.nat 41] iH iG .busy none 4):=by rw [ag (by decide)];exact mb
        refine aO (hQ' _ _ _ _ _ _ _ _ _ _ rfl kb ⟨rfl,?_,?_,nC,t,[P.nat 41],iH,iG,?_⟩)
        ·simp only
         rw [ag (by decide),ax (aN m2)]
        ·simp only
         rw [ag (by decide),ag (by decide)];exact m4
        ·exact ax (aN kb)
      refine⟨H',e,.inr ⟨?_,hPP⟩⟩
      rw [hall,List.any_eq_true]
      exact⟨p.hs[j],av hj,by rw [hf,hhas];rfl⟩
     | false=>
      refine .inl ?_
      obtain⟨r,H',e,rfl,hK⟩:=qH (tab:=tab.get) (b:=5) (args:=[.a (p.hs[j].row.map .f)]) (H:=J)
       (C:=fun r H'=>r=vb true∧Keeps H1 H') (hI.1 _ _ hlp) rfl fun Q' hQ'=>by
        simp only [gJ.row,aR,bh]
        refine aj (.inr rfl) ?_
        simp
        refine Gi (by rw [al hlJ];exact hI.1 _ _ hlp) ?_
        rw [←hM]
        refine aH (ak (aj (.inr rfl) ?_))
        simp [lx,g7,ld3 M m3,-aG,hmh,hhas]
        refine ay (by simp) (aF (aI (kR ?_)))
        refine hQ' _ _ _ _ _ _ _ _ _ _ rfl mb ⟨rfl,fun i y hy=>?_⟩
        by_cases e:i=5
        ·subst e
         rw [hlp]at hy;cases hy
         exact ax (aN mb)
        ·simp only
         rw [ag (Ne.symm e)];exact upM _ _ hy e
      refine⟨H',e,hK,fun i hi hij=>?_⟩
      by_cases e:i=j
      ·subst e;rw [hhas,Bool.and_false]
      ·exact hI.2 i hi (by omega))
    (fun J hI=>.inl ⟨by
     rw [hall,List.any_eq_false]
     intro x hx
     obtain⟨i,hi,rfl⟩:=bp hx
     simpa using hI.2 i hi hi,hI.1⟩)
   rw [hH1]at he
   have he':Ev tab.get (.fn Ea) [.c (.yl (J0.length+1)),.c (.f (.fp p.row 0)),.c (.f (.fp [fi mi] 0)),.c (.f (.fp [fi n] 0))] (J0++[.dfr true,.lp nC t [P.nat 41] iH iG .ready none J0.length]) (.t []) H':=by rw [hl1]at he ⊢;exact he
   refine xI (g:=Ea) (by rw [aIh,g40];simp [bV]) he' ?_
   rw [hl1]
   rcases hPP with⟨aGk,hK⟩ | ⟨aPQ,p2,p4,f2,tm,ps,aa,bd,p5⟩
   ·refine Jk (hK _ _ hlp) (by decide) ?_
    refine aI (ak (aj (.inl rfl) ?_))
    have x2:(H'.set 5 (.lp nC t [P.nat 41] iH iG .exhausted none 4))[2]?=some (.box [.f (.bool false)] 0):=by rw [ag (by decide)];exact hK _ _ w2
    have x4:(H'.set 5 (.lp nC t [P.nat 41] iH iG .exhausted none 4))[4]?=some (.dfr true):=by rw [ag (by decide)];exact hK _ _ hd
    simp [g4,st2 _ false false x2,-bI]
    refine aO (fin _ _ _ aGk g4 x2 (.inr ⟨4,rfl,by decide,x4⟩) _ rfl)
   ·refine vV p5 (by decide) ?_
    have x2:((H'.set 5 (.lp f2 tm ps aa bd .exhausted (some .ret) 4)).set 4 (.dfr false))[2]?=some (.box [.f (.bool true)] 0):=by rw [ag (by decide),ag (by decide)];exact p2
    have x4:(H'.set 5 (.lp f2 tm ps aa bd .exhausted (some .ret) 4))[4]?=some (.dfr true):=by rw [ag (by decide)];exact p4
    refine aO (hQ _ _ _ rfl (.inr ⟨4,rfl,x4,vb true,?_,?_⟩))
    ·simp [Km.results,resOne,bf,g4,x2,aQ]
    ·rw [aPQ];simp [exV,dw]
  exact stage _ (by simp) (by simp) (by simp)
 exact hp.eq
end Go.Proofs.YthfeogjbpgocbaaGreat
end
section
namespace Go.Proofs.YthfeogjbpgocbaaGreat
open Go Km
theorem Dl(a b:Int)(hb:1≤b)(hb':b≤1000000000)(ha:-9223372036854775808≤a)(ha':a≤9223372036854775807):Km.Pure tab.get Hy [vi a,vi b]=Eq (vi (a % b)):=Km.Pure.eq (by
 refine dD aIe rfl fun Q hQ=>?_
 refine ak (aj (.inl rfl) ?_)
 simp
 have e0:=bX a (show b≠0 by omega)
 have e1:=b5 a (show 0<b by omega)
 have aP3:bM .rem (vi a) (vi b)=some (vi (a.tmod b)):=by
  have:¬ b=0:=by omega
  simp [bM,mM,this,V.int]
 refine ak (aj (.inl rfl) ?_)
 simp [aP3]
 refine ak (ak (aj (.inl rfl) ?_))
 rcases Int.le_total 0 a with h | h
 ·have ht:a.tmod b=a % b:=c5 h
  simp [ht,show¬ a % b<0 by omega]
  refine ay (by simp) (aF (ak (aj (.inl rfl) ?_)))
  simp
  refine aO (hQ _ _ ?_)
  simp
 ·have ht:a.tmod b = -((-a) % b):=by
   have h1:(-(-a)).tmod b = -((-a).tmod b):=Int.neg_tmod ..
   rw [Int.neg_neg]at h1
   rw [h1,c5 (by omega)]
  have n0:=bX (-a) (show b≠0 by omega)
  have n1:=b5 (-a) (show 0<b by omega)
  by_cases hz:(-a) % b=0
  ·have he:a % b=0:=by
    have hd:b ∣ -a:=Int.dvd_of_emod_eq_zero hz
    exact dc (Int.dvd_neg.1 hd)
   simp [ht,hz]
   refine ay (by simp) (aF (ak (aj (.inl rfl) ?_)))
   simp
   refine aO (hQ _ _ ?_)
   simp [he]
  ·have he:a % b=b-(-a) % b:=by
    have q1:=bz a b
    have q2:=bz (-a) b
    have hs:b*(a / b+(-a) / b) = - (a % b+(-a) % b):=by rw [Int.mul_add];omega
    have hne:a % b≠0:=by
     intro h0
     exact hz (dc (Int.dvd_neg.2 (Int.dvd_of_emod_eq_zero h0)))
    have hk:a / b+(-a) / b = -1:=by
     obtain⟨k,hk⟩:∃ k,k=a / b+(-a) / b:=⟨_,rfl⟩
     rw [←hk]at hs ⊢
     rcases Int.lt_trichotomy k (-1)with h1 | h1 | h1
     ·have:b*k≤b*(-2):=Int.mul_le_mul_of_nonneg_left (by omega) (by omega)
      omega
     ·exact h1
     ·have:0≤b*k:=Int.mul_nonneg (by omega) (by omega)
      omega
    rw [hk]at hs
    omega
   have w:IntKind.i64.wrap (-(-a % b)+b)=b-(-a) % b:=by rw [wrap64 (by omega) (by omega)];omega
   simp [ht,show(0:Int) < -a % b by omega]
   refine aA (by simp) (aj (.inl rfl) ?_)
   simp [w]
   refine ak (aj (.inl rfl) ?_)
   simp
   refine aO (hQ _ _ ?_)
   simp [he])
def I64(n:Int):Prop:=-9223372036854775808≤n∧n≤9223372036854775807
end Go.Proofs.YthfeogjbpgocbaaGreat
end
section
namespace Go.Proofs.YthfeogjbpgocbaaGreat
open Go Km
set_option maxRecDepth 100000 in
theorem TA{p:OpD}{o:List TrD}(h:p.OK o){fr to:Int}(f0:-1000000≤fr)(ft:fr<to)(t1:to≤1000000)(hle:to-fr≤1000000) :
  ∃ r,Last h.z.S fr r∧Km.Pure tab.get QF [.a (p.row.map .f),.a [.f (fi fr),.f (fi to)]]=Eq (.t [vb (nP p.hs p.cl ((fr+offO p.z r) / 1440) ((fr+offO p.z r) % 1440) (to-fr)),vi 0]):=by
 obtain⟨r,hr,hal⟩:=Nb h f0 ft t1 hle
 refine⟨r,hr,Km.Pure.eq ?_⟩
 have hv:=QM h
 have hc:=h.z.c
 refine dD aMV rfl fun Q hQ=>?_
 refine ak (aj (.inl rfl) ?_)
 simp
 obtain⟨H0,hH0⟩:∃ H0:Heap,H0=[.box (p.row.map .f) 0,.box [.f (fi fr),.f (fi to)] 0]:=⟨_,rfl⟩
 rw [←hH0]
 have z0:H0[0]?=some (.box (p.row.map .f) 0):=by rw [hH0];rfl
 have z1:H0[1]?=some (.box [.f (fi fr),.f (fi to)] 0):=by rw [hH0];rfl
 have lf:ldV H0 none (.c (.ptr 1 0 0))=some (vi fr):=by simp [ldV,aP,z1,aQ]
 have lt:ldV H0 none (.c (.ptr 1 1 0))=some (vi to):=by simp [ldV,aP,z1,aQ]
 have ls:ldV H0 (some 2) (.c (.ptr 1 0 0))=some (.a [.f (fi fr),.f (fi to)]):=by simp [ldV,aP,z1,aQ]
 refine ak (ak (aj (.inl rfl) ?_))
 simp [zy hc z0,lf,lt,-aG,hv,show¬ fr < -2251799813685248 by omega,show¬ to≤fr by omega,show¬ 2251799813685248<to by omega]
 refine ay (by simp) (aF (ak (aj (.inl rfl) ?_)))
 simp [zy hc z0,ls,-aG,hal]
 refine aO (hQ _ _ ?_)
 simp
end Go.Proofs.YthfeogjbpgocbaaGreat
end
section
namespace Go.Proofs.YthfeogjbpgocbaaGreat
open Go Km
theorem aIY{p:OpD}(hc:p.z.c<3):∃ a b c d e f g h i j,p.row=[a,b,c,d,e,f,g,h,i,j]:=by
 obtain⟨a,b,c,d,e,f,g,h,hr⟩:=yY hc
 exact⟨a,b,c,d,e,f,g,h,_,_,by simp [OpD.row,hr];exact⟨rfl,rfl⟩⟩
theorem auA{J:Heap}{x:rV}{b:Nat}(h:J[b]?=some (.box (x.row.map .f) 0)):ldV J (some 16) (.c (.ptr b 0 0))=some (.a (x.row.map .f)):=by
 simp [ldV,aP,h,aQ,rV.row,jM.row]
set_option maxRecDepth 100000 in
theorem ai5(sane:Km.Pure tab.get JY [] (vb true)){x:rV}(hx:x.OK){at_ len:Int}(ha:I64 at_)(hl:I64 len) :
  Km.Pure tab.get QG [.a (x.row.map .f),vi at_,vi len] (vb true):=by
 obtain⟨p,o,hp,hp3,hm⟩:=RX hx
 have hs:=sane.eq
 have hc:=hp.z.c
 have m1:=Dl at_ 400000 (by decide) (by decide) ha.1 ha.2
 have m2:=Dl len 1500 (by decide) (by decide) hl.1 hl.2
 obtain⟨lo,hlo⟩:∃ lo,lo=at_ % 400000:=⟨_,rfl⟩
 obtain⟨n,hn⟩:∃ n,n=1+len % 1500:=⟨_,rfl⟩
 rw [←hlo]at m1
 obtain⟨l,tg,hll,hA,hin⟩:=Gj hp.z (lo:=lo) (by omega) (by omega)
 obtain⟨a0,a1,a2,a3,a4,a5,a6,a7,a8,a9,hr⟩:=aIY hc
 obtain⟨B,hB⟩:∃ B,B=nP p.hs p.cl (lo / 1440) (lo % 1440) n:=⟨_,rfl⟩
 have hal:∀ a ∈ l,Km.Pure tab.get QF [.a (p.row.map .f),.a [.f (fi a),.f (fi (a+n))]]=Eq (.t [vb B,vi 0]):=by
  intro a hal
  obtain⟨r,hrl,hro⟩:=hA a hal
  have hb:=hp.z.offO hrl
  obtain⟨r',hr',hall⟩:=TA hp (fr:=a) (to:=a+n) (by omega) (by omega) (by omega) (by omega)
  obtain rfl:=I9 hp.z hrl hr'
  rw [hall,hro,show a+n-a=n by omega,←hB]
 have hbd:∀ a ∈ l,-2000≤a∧a≤500000:=by
  intro a hal
  obtain⟨r,hrl,hro⟩:=hA a hal
  have hb:=hp.z.offO hrl
  omega
 rw [hr]at hm
 refine dD aM5 rfl fun Q hQ=>?_
 refine ak (aj (.inl rfl) ?_)
 simp
 refine ak (aj (.inl rfl) ?_)
 simp [hs]
 obtain⟨H0,hH0⟩:∃ H0:Heap,H0=[.box (x.row.map .f) 0]:=⟨_,rfl⟩
 rw [←hH0]
 have z0:H0[0]?=some (.box (x.row.map .f) 0):=by rw [hH0];rfl
 have hl0:H0.length=1:=by rw [hH0];rfl
 refine ak (aj (.inl rfl) ?_)
 simp [auA z0,-aG,hm,hl0]
 obtain⟨J,hJ⟩:∃ J:Heap,J=H0++[.box [.f a0,.f a1,.f a2,.f a3,.f a4,.f a5,.f a6,.f a7,.f a8,.f a9] 0]:=⟨_,rfl⟩
 rw [←hJ]
 have x1:J[1]?=some (.box (p.row.map .f) 0):=by rw [hJ,hr,←hl0];simp
 clear hJ
 refine ak (aj (.inl rfl) ?_)
 simp [m1]
 refine ak (aj (.inl rfl) ?_)
 simp [ai8 hc x1,-aG,hin]
 have hsl:bJ J (.f (sl tg (fK l)))=some l.length:=by simpa using F9 (H:=J) tg (fK l)
 refine ak (ak (aj (.inl rfl) ?_))
 simp [hsl,show¬ 2<(l.length:Int) by omega]
 refine ay (by simp) (aF ?_)
 have wn:IntKind.i64.wrap (1+len % 1500)=n:=by rw [wrap64 (by omega) (by omega),hn]
 refine ak (aj (.inl rfl) ?_)
 simp [m2,wn]
 refine ak (aj (.inl rfl) ?_)
 simp
 refine ak (ak (aj (.inl rfl) ?_))
 simp
 refine ku (H:=J) l.length (fun j t J'=>J=J'∧t.g 7=vb true∧t.g 8=.c (.ptr 1 0 0)∧t.g 10=.c (.f (sl tg (fK l)))∧t.g 12=vi n∧t.g 13=vi (if B then j else 0:Nat)) (by omega) (by decide) (by simp)
  ⟨rfl,by simp,by simp,by simp,by simp,by simp⟩ ?_ ?_ ?_
 ·rintro j t _ L hj ⟨rfl,g7,g8,g10,g12,g13⟩ ha hn
  simp [ha,g10,hsl]
  exact hn _ ⟨rfl,by simp [g7],by simp [g8],by simp [g10],by simp [g12],by simp [g13]⟩ (by simp [ha]) (by simp)
 ·rintro j t _ hj ⟨rfl,g7,g8,g10,g12,g13⟩ ha nx
  have hmem:=av hj
  have hal':=hal _ hmem
  have hb:=hbd _ hmem
  rw [hr]at hal'
  simp only [aR,bh]at hal'
  have ii:aV J 1 none (.c (.f (sl tg (fK l)))) (vi j)=some (.c (.f (.fp (fK l).flatten j))):=by
   have:=iD (H:=J) (g:=tg) (rows:=fK l) (sz:=1) (k:=.i64) (i:=(j:Int)) (by omega) (by simp;omega)
   simpa using this
  have dd:ldV J none (.c (.f (.fp (fK l).flatten j)))=some (vi l[j]):=by
   have:=Gg (H:=J) (ae hj)
   simpa using this
  have wa:IntKind.i64.wrap (l[j]+n)=l[j]+n:=wrap64 (by omega) (by omega)
  have aFS:=zy hc x1
  rw [hr]at aFS
  simp only [aR,bh]at aFS
  refine aH (ak (aj (.inl rfl) ?_))
  simp [ha,g8,g10,g12,aFS,-aG,ii,dd,wa,hal']
  refine ak (ak (aj (.inl rfl) ?_))
  simp
  refine ay (by simp) (aF ?_)
  refine ak (aj (.inl rfl) ?_)
  simp
  cases B with
  | true=>
   refine aA (by simp) (aj (.inl rfl) ?_)
   simp at g13
   simp [g13,wrap64 (n:=(j:Int)+1) (by omega) (by omega)]
   exact aI (nx _ _ ⟨rfl,by simp [g7],by simp [g8],by simp [g10],by simp [g12],by simp⟩ (by simp [ha]))
  | false=>
   refine ay (by simp) (aF ?_)
   exact aI (nx _ _ ⟨rfl,by simp [g7],by simp [g8],by simp [g10],by simp [g12],by simpa using g13⟩ (by simp [ha]))
 rintro t _ ⟨rfl,g7,g8,g10,g12,g13⟩ ha
 refine ak (aj (.inl rfl) ?_)
 cases B with
 | true=>
  simp at g13
  by_cases h0:l=[]
  ·subst h0
   simp at g13
   simp [g13,g7]
   refine aO (hQ _ _ ?_)
   simp
  ·simp [g13,g7,g10,hsl,h0]
   refine aO (hQ _ _ ?_)
   simp
 | false=>
  simp at g13
  simp [g13,g7]
  refine aO (hQ _ _ ?_)
  simp
end Go.Proofs.YthfeogjbpgocbaaGreat
end
section
namespace Go.Proofs.YthfeogjbpgocbaaGreat
open Go Km
end Go.Proofs.YthfeogjbpgocbaaGreat
end
section
namespace Go.Proofs.YthfeogjbpgocbaaGreat
open Go Km
end Go.Proofs.YthfeogjbpgocbaaGreat
end
section
namespace Go.Proofs.YthfeogjbpgocbaaGreat
open Go Km
end Go.Proofs.YthfeogjbpgocbaaGreat
end
section
namespace Go.Proofs.YthfeogjbpgocbaaGreat
open Go Km
structure FI2(Y P S A B:List C)(hd:gJ)(rows:List (List FC))(c2:C)(J:Heap):Prop where
 y:J[2]?=some (.box Y 0)
 o:J[3]?=some (.box P 0)
 s:J[4]?=some (.box S 0)
 a:J[5]?=some (.box A 0)
 b:J[6]?=some (.box B 0)
 h:∃ fl,J[7]?=some (.box (hd.row.map .f) fl)
 l:LRw J c2 3 rows
section
variable{Y P S A B:List C}{hd:gJ}{rows:List (List FC)}{c2:C}{J:Heap}
end
end Go.Proofs.YthfeogjbpgocbaaGreat
end
section
namespace Go.Proofs.YthfeogjbpgocbaaGreat
open Go Km
set_option maxRecDepth 100000
theorem sane:Km.Pure tab.get JY [] (vb true):=Cj (reckoned ev)
theorem byte_of{x:List FC}(h:∃ m,x=[FC.int .u8 m]∧Lit.wf (.int .u8 m)):∃ m:Nat,x=[u8 m]∧m<256:=by
 obtain⟨m,rfl,hw⟩:=h
 simp [Lit.wf,IntKind.min,IntKind.max,IntKind.signed,IntKind.bits]at hw
 refine⟨m.toNat,?_,by omega⟩
 have:((m.toNat:Nat):Int)=m:=dq hw.1
 simp [this]
theorem Pn{x:List FC}(h:∃ m,x=[FC.int .u16 m]∧Lit.wf (.int .u16 m)):∃ m:Nat,x=[u16 m]∧m<65536:=by
 obtain⟨m,rfl,hw⟩:=h
 simp [Lit.wf,IntKind.min,IntKind.max,IntKind.signed,IntKind.bits]at hw
 refine⟨m.toNat,?_,by omega⟩
 have:((m.toNat:Nat):Int)=m:=dq hw.1
 simp [this]
theorem aGc{m:Int}(hw:Lit.wf (.int .i64 m)):I64 m:=by
 simp [Lit.wf,IntKind.min,IntKind.max,IntKind.signed,IntKind.bits]at hw
 exact⟨by omega,by omega⟩
theorem L6{n:Nat}(h:n≤maxLen):n≤9223372036854775807:=Nat.le_trans h (by decide)
theorem wK{n:Nat}{ys:List FC}(h:Shp Tryz.prog (n+2) 22 ys):∃ g l,ys=[sl g (dZ l)]∧l.length≤9223372036854775807∧∀ m ∈ l,m<256:=by
 obtain⟨g,rows,rfl,_,hl,hr⟩:=xw Tryz.underlying22 h
 obtain⟨l,rfl,hx⟩:=uT (enc:=fun n:Nat=>[u8 n]) (p:=fun n=>n<256) fun r hr'=>byte_of (mQ Tryz.underlying5 (hr r hr'))
 exact⟨g,l,rfl,L6 (by simpa using hl),hx⟩
theorem Qo{n:Nat}{ys:List FC}(h:Shp Tryz.prog (n+2) 23 ys):∃ y:Nat→Nat,ys=[u8 (y 0),u8 (y 1),u8 (y 2),u8 (y 3)]∧∀ i,i<4→y i<256:=by
 obtain⟨rows,rfl,hl,_,hr⟩:=Py Tryz.underlying23 h
 obtain⟨l,rfl,hx⟩:=uT (enc:=fun n:Nat=>[u8 n]) (p:=fun n=>n<256) fun r hr'=>byte_of (mQ Tryz.underlying5 (hr r hr'))
 match l,hl,hx with
 | [a,b,c,d],_,hx=>
  refine⟨fun i=>match i with | 0=>a | 1=>b | 2=>c | _=>d,rfl,fun i hi=>?_⟩
  have:i=0∨i=1∨i=2∨i=3:=by omega
  rcases this with rfl | rfl | rfl | rfl
  ·exact hx a (by simp)
  ·exact hx b (by simp)
  ·exact hx c (by simp)
  ·exact hx d (by simp)
 | [],hl,_=>simp at hl
 | [_],hl,_=>simp at hl
 | [_,_],hl,_=>simp at hl
 | [_,_,_],hl,_=>simp at hl
 | _::_::_::_::_::_,hl,_=>simp at hl
theorem auz{n:Nat}{ys:List FC}(h:Shp Tryz.prog (n+4) 26 ys):∃ x:jM,ys=x.row∧x.OK:=by
 obtain⟨_,q1,rfl,h1,k1⟩:=fQ (sO (ts:=[5,22,22,5,24,5,4]) Tryz.underlying26 rfl h)
 obtain⟨st,rfl,b1⟩:=byte_of (mQ Tryz.underlying5 h1)
 obtain⟨_,q2,rfl,h1,k2⟩:=fQ k1
 obtain⟨gg,gaps,rfl,lg,bg⟩:=wK h1
 obtain⟨_,q3,rfl,h1,k3⟩:=fQ k2
 obtain⟨og,Ah,rfl,lo,bo⟩:=wK h1
 obtain⟨_,q4,rfl,h1,k4⟩:=fQ k3
 obtain⟨be,rfl,b4⟩:=byte_of (mQ Tryz.underlying5 h1)
 obtain⟨_,q5,rfl,h1,k5⟩:=fQ k4
 obtain⟨rows,rfl,hl,_,hr⟩:=Py Tryz.underlying24 h1
 obtain⟨_,q6,rfl,h1,k6⟩:=fQ k5
 obtain⟨cal,rfl,b6⟩:=byte_of (mQ Tryz.underlying5 h1)
 obtain⟨_,q7,rfl,h1,k7⟩:=fQ k6
 obtain⟨rules,rfl⟩:=ahQ Tryz.underlying4 h1
 obtain rfl:q7=[]:=k7
 match rows,hl,hr with
 | [r0,r1],_,hr=>
  obtain⟨y0,rfl,c0⟩:=Qo (hr r0 (by simp))
  obtain⟨y1,rfl,c1⟩:=Qo (hr r1 (by simp))
  refine⟨⟨st,gg,gaps,og,Ah,be,fun k=>if k=0 then y0 else y1,cal,rules⟩,rfl,b1,lg,lo,bg,bo,b4,fun k i hk hi=>?_,b6⟩
  simp only
  split
  ·exact c0 i hi
  ·exact c1 i hi
 | [],hl,_=>simp at hl
 | [_],hl,_=>simp at hl
 | _::_::_::_,hl,_=>simp at hl
theorem aLc{n:Nat}{ys:List FC}(h:Shp Tryz.prog (n+4) 61 ys):∃ x:HrD,ys=x.row∧x.OK:=by
 obtain⟨_,q1,rfl,h1,k1⟩:=fQ (sO (ts:=[58,59,59]) Tryz.underlying61 rfl h)
 obtain⟨dg,rows,rfl,_,hl,hr⟩:=xw Tryz.underlying58 h1
 obtain⟨days,rfl,hd⟩:=uT (enc:=fun b:ByD=>[sl b.1 (dZ b.2)]) (p:=aIm) fun r hr'=>by
  obtain⟨g,l,rfl,a,b⟩:=wK (hr r hr')
  exact⟨(g,l),rfl,a,b⟩
 obtain⟨_,q2,rfl,h1,k2⟩:=fQ k1
 obtain⟨fr,rfl,b2⟩:=Pn (mQ Tryz.underlying59 h1)
 obtain⟨_,q3,rfl,h1,k3⟩:=fQ k2
 obtain⟨le,rfl,b3⟩:=Pn (mQ Tryz.underlying59 h1)
 obtain rfl:q3=[]:=k3
 exact⟨⟨dg,days,fr,le⟩,rfl,L6 (by simpa using hl),hd,b2,b3⟩
theorem ahZ{n:Nat}{ys:List FC}(h:Shp Tryz.prog (n+6) 29 ys):∃ x:rV,ys=x.row∧x.OK:=by
 obtain⟨_,q1,rfl,h1,k1⟩:=fQ (sO (ts:=[26,27,22]) Tryz.underlying29 rfl h)
 obtain⟨z,rfl,hz⟩:=auz h1
 obtain⟨_,q2,rfl,h1,k2⟩:=fQ k1
 obtain⟨hg,rows,rfl,_,hl,hr⟩:=xw Tryz.underlying27 h1
 obtain⟨hs,rfl,hh⟩:=uT (enc:=HrD.row) (p:=fun x=>x.OK) fun r hr'=>aLc (hr r hr')
 obtain⟨_,q3,rfl,h1,k3⟩:=fQ k2
 obtain⟨cg,cl,rfl,lc,bc⟩:=wK h1
 obtain rfl:q3=[]:=k3
 exact⟨⟨z,hg,hs,cg,cl⟩,rfl,hz,L6 (by simpa using hl),hh,lc,bc⟩
theorem auy{a:V}(h:BZ Tryz.prog 29 a):∃ x:rV,a=.a (x.row.map .f)∧x.OK:=by
 rcases h with⟨xs,rfl,hs,_⟩ | ⟨x,rfl,hs⟩
 ·obtain⟨x,rfl,hx⟩:=ahZ (n:=34) hs
  exact⟨x,rfl,hx⟩
 ·exfalso
  obtain⟨x,e,_⟩:=ahZ (n:=34) hs
  simp [rV.row,jM.row]at e
theorem Qi{a:V}(h:BZ Tryz.prog 3 a):∃ n:Int,a=vi n∧I64 n:=by
 rcases h with⟨xs,_,_,d,hd,hd'⟩ | ⟨z,rfl,h1⟩
 ·rw [Tryz.underlying3]at hd;cases hd;rcases hd' with⟨_,e⟩ | ⟨_,_,e⟩<;>cases e
 ·obtain⟨m,e,hw⟩:=mQ Tryz.underlying3 h1
  cases e
  exact⟨m,rfl,aGc hw⟩
theorem LY(ar:List V)(h:zF Tryz.prog [29,3,3] ar):Km.Pure tab.get QG ar (vb true):=by
 obtain⟨a0,_,rfl,h0,a1,_,rfl,h1,a2,_,rfl,h2,rfl⟩:=h
 obtain⟨x,rfl,hx⟩:=auy h0
 obtain⟨n,rfl,hn⟩:=Qi h1
 obtain⟨k,rfl,hk⟩:=Qi h2
 exact ai5 sane hx hn hk
end Go.Proofs.YthfeogjbpgocbaaGreat
end
