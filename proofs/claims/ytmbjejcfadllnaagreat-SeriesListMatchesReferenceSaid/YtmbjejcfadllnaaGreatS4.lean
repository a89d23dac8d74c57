/-
  ajK the oI jQ and the nV answer, for all arguments of their kind, in the small machine: part 4.
-/
import Derived.Test.YtmbjejcfadllnaaGreatS3
import Derived.Test.YtmbjejcfadllnaaGreatS2
open Option renaming some → ab,none → ae
open Bool renaming true → ag,false → ah
open List renaming drop_eq_getElem_cons → at5, getElem?_append_left → AI, map_cons → anc, map_nil → atN, mem_append → at9, getElem_mem → IS, getElem?_eq_getElem → AT, length_eq_zero_iff → aun, take_length → aul, take_succ_eq_append_getElem → at0, getElem?_set_ne → By
open Nat renaming lt_or_eq_of_le → auk, eq_zero_or_pos → auv
open Int renaming natCast_zero → au5
set_option linter.unusedVariables false
set_option linter.constructorNameAsVariable false
set_option linter.unusedSimpArgs false
set_option linter.unusedSectionVars false
set_option linter.unnecessarySimpa false
set_option maxRecDepth 100000
set_option maxHeartbeats 2000000
namespace Go.Proofs.YtmbjejcfadllnaaGreat
open Go Km
theorem DU{F:Nat}(z:tab.get F=ab E7)(g:Tg)(l:List Int)(v:Int)(J:l.length≤1048576):bB tab.get F [.c (.f (sl g (ints l))),vi v]=Eq (vb (decide (v ∈ l))):=bB.eq (by
 refine bI z rfl fun Q x=>?_;apply aj;simp;refine aq (aj ?_);simp;refine bQ l.length (fun j t K=>t.g 0=.c (.f (sl g (ints l)))∧t.g 1=vi v∧decide (v ∈ l)=decide (v ∈ l.drop j)) (by omega) (by decide) (by simp)
  ⟨by simp,by simp,by simp⟩ ?_ ?_ ?_
 ·rintro j t K L u ⟨d,q,b⟩ m A;simp [m,d];exact A _ ⟨by simp [d],by simp [q],b⟩ (by simp [m]) (by simp)
 ·rintro j t K u ⟨d,q,b⟩ m I;obtain⟨w,y⟩:=aP (l[j]);have B:aL K 1 ae (.c (.f (sl g (ints l)))) (vi j)=ab (.c (.f (.fp (ints l).flatten j))):=by
   have:=cE (H:=K) (g:=g) (rows:=ints l) (sz:=1) (k:=.i64) (i:=(j:Int)) (by omega) (by simp;omega);simpa using this
  have E:aV K ae (.c (.f (.fp (ints l).flatten j)))=ab (vi w):=by rw [y];exact ej u
  rw [at5 u,←y]at b;refine az (aj ?_);simp [d,q,m,B,E];by_cases s:w=v
  ·refine ak (by simp [s]) (aj ?_);simp;refine aE (x _ _ ?_);rw [b];simp [s]
  ·refine al (by simp [s]) (aH (aw ?_));refine I _ _ ⟨by simp [d],by simp [q],?_⟩ (by simp [m]);rw [b];simp [Ne.symm s]
 ·rintro t K ⟨d,q,b⟩ m;apply aj;simp;refine aE (x _ _ ?_);rw [b];simp)
theorem af1(g:Tg)(l:List Int)(v:Int)(b:l.length≤100000):bB tab.get 129 [.c (.f (sl g (ints l))),vi v]=Eq (vb (decide (v ∈ l))):=DU anf g l v (by omega)
structure Aro{z:ZD}{o:List bA}(h:dB z o)(lo:Int)(L:List Int):Prop where
 len:L.length≤2
 bd:∀ v ∈ L,-1080≤v∧v≤1080
 all:∀ t r,lo-1080≤t→t≤lo+1080→dX h.S t r→offO z r ∈ L
theorem Bd{z:ZD}{o:List bA}(h:dB z o){lo:Int}(l0:0≤lo)(l1:lo≤460000) :
  ∃ g L,Aro h lo L∧bB tab.get 127 [z.v,vi lo]=Eq (.c (.f (sl g (ints L)))):=by
 obtain⟨rr,⟨g,L,hA,rfl⟩,hp⟩:∃ rr,(∃ g L,Aro h lo L∧rr=.c (.f (sl g (ints L))))∧bB tab.get 127 [z.v,vi lo] rr:=by
  have hc:=h.c;refine bY rfl rfl fun Q hQ=>?_;apply aj;simp;apply aj;simp;have w1:=aN (n:=lo+1080);have w2:=aN (n:=lo-1080);apply aj;simp [w1];obtain⟨H0,I⟩:=aP ([.box (z.row.map .f) 0]:an);have z0:H0[0]?=ab (.box (z.row.map .f) 0):=by rw [I];rfl
  rw [←I];clear I;have d8:=h.st;refine az (bG (fun m st=>∃(H:Int) (l:List Int) (c:C) (t:T) (J:an),st=⟨t,[],J⟩∧m≤1∧J[0]?=ab (.box (z.row.map .f) 0)∧LR J c 1 (ints l)∧t.g 1=vi lo∧t.g 2=.c (.ptr 0 0 0)∧t.g 5=.c c∧t.g 6=vi H ∧
    ((m=1∧H=lo+1080∧l=[])∨(m=0∧∃ x,dX h.S (lo+1080) (ab x)∧lo-1080<x.at_∧H=x.at_-1∧l=[x.off]))) 1
   ⟨lo+1080,[],.f .es,_,H0,rfl,by omega,z0,.inl ⟨rfl,.inr rfl⟩,by simp,by simp,by simp,by simp,.inl ⟨rfl,rfl,rfl⟩⟩ ?_)
  rintro m st ⟨H,l,c,t,J,rfl,hm,z0,a9,g1,g2,g5,g6,b⟩ ih;have d9:-10000≤H∧H≤500000:=by
   rcases b with⟨-,rfl,-⟩ | ⟨-,x,y,Z,rfl,-⟩
   ·omega
   ·have:=y.2.1;omega
  have d6:l.length≤1:=by rcases b with⟨-,-,rfl⟩ | ⟨-,x,-,-,-,rfl⟩<;>simp
  obtain⟨r,hr,N⟩:=oD h (t:=H) (by omega) (by omega);have b9:=h.offO hr;have b7:((r.getD ⟨0,0⟩).row).length=2:=rfl;refine az (aj ?_);simp [g2,g6,cA z0 hc,-av,N,b7];obtain⟨S,j⟩:=aP (J++[.box ((r.getD ⟨0,0⟩).row.map .f) 0]:an);have y0:S[0]?=ab (.box (z.row.map .f) 0):=by rw [j,AI (ax z0)];exact z0
  have y1:S[J.length]?=ab (.box ((r.getD ⟨0,0⟩).row.map .f) 0):=by rw [j];simp
  have a7:LR S c 1 (ints l):=by rw [j];exact a9.push _
  rw [←j];obtain⟨v,hv⟩:=aP (offO z r);obtain⟨J2,d⟩:=aP (S++[.box ([fi v].map .f) 0]:an);have M:LR J2 c 1 (ints l):=by rw [d];exact a7.push _
  have a_:J2[S.length]?=ab (.box ([fi v].map .f) 0):=by rw [d];simp
  obtain⟨c',H',B,K,U,d5⟩:=M.app (ei _) (by decide) (row:=[fi v]) rfl (bytes:=8) (cB (by simp;omega) (by decide)) a_;rw [←rM]at K;have x0:H'[0]?=ab (.box (z.row.map .f) 0):=by
   have:J2[0]?=ab (.box (z.row.map .f) 0):=by rw [d,AI (ax y0)];exact y0
   exact U.2 0 _ this (M.cw this)
  have x1:H'[J.length]?=ab (.box ((r.getD ⟨0,0⟩).row.map .f) 0):=by
   have:J2[J.length]?=ab (.box ((r.getD ⟨0,0⟩).row.map .f) 0):=by rw [d,AI (ax y1)];exact y1
   exact U.2 _ _ this (M.cw this)
  simp only [anc,atN]at d;have c_:∀(t':T),Aro h lo (l++[v])→∀ p,t'.g p=.c c'→True:=fun _ _ _ _=>trivial;obtain⟨g',W⟩:=mf K (ei _);have A:(r=ae∨∃ x,r=ab x∧x.at_≤lo-1080)→Aro h lo (l++[v]):=by
   intro O;refine⟨by simp;omega,fun w F=>?_,fun s q d7 X hq=>?_⟩
   ·rcases at9.1 F with F | F
    ·rcases b with⟨-,-,rfl⟩ | ⟨-,x,y,-,-,rfl⟩
     ·cases F
     ·simp at F;subst F;exact h.off y.1
    ·simp at F;subst F;rw [hv];exact b9
   ·have low:s≤H→offO z q ∈ l++[v]:=fun E=>by
     have:q=r:=by
      rcases O with rfl | ⟨x,rfl,y⟩
      ·exact dT h hq (hr.rS E)
      ·exact dT h hq (hr.back (by omega) E)
     rw [this,←hv];simp
    rcases b with⟨-,rfl,rfl⟩ | ⟨-,x,y,Z,rfl,rfl⟩
    ·exact low X
    ·rcases Int.lt_or_le s x.at_ with h1 | h1
     ·exact low (by omega)
     ·have:=dT h hq (y.back h1 X);rw [this];simp [offO]
  refine aq (aj ?_);simp;cases r with
  | none=>
   refine ak (by simp) (aj ?_);have u:z.start=v:=by rw [hv];rfl
   simp [g2,g5,rP y0 hc,-av,u];rw [←d];simp [B];refine aE (hQ _ _ _ ⟨g',_,A (.inl rfl),rfl⟩ ⟨rfl,.c c',?_,?_⟩)
   ·simp [Km.results,bw,aZ]
   ·simp [fZ,bX,W]
  | some x=>
   have u:x.off=v:=by rw [hv];rfl
   have e1:aV S ae (.c (.ptr J.length 1 0))=ab (vi v):=by simp [aV,y1,aF,aK,bA.row,u]
   have e2:aV H' ae (.c (.ptr J.length 0 0))=ab (vi x.at_):=by simp [aV,x1,aF,aK,bA.row]
   refine al (by simp) (aH (aj ?_));simp [g5,e1,-av];rw [←d];simp [B];refine aq (aj ?_);simp [g1,e2,-av,w2];by_cases y:x.at_≤lo-1080
   ·refine ak (by simp [y]) (aj ?_);simp;refine aE (hQ _ _ _ ⟨g',_,A (.inr ⟨x,rfl,y⟩),rfl⟩ ⟨rfl,.c c',?_,?_⟩)
    ·simp [Km.results,bw,aZ]
    ·simp [fZ,bX,W]
   ·have b_:=hr.2.1;rcases b with⟨rfl,rfl,rfl⟩ | ⟨rfl,x',Y,Z,rfl,rfl⟩
    ·have wx:=aN (n:=x.at_-1);refine al (by simp;omega) (aH (au (.inl rfl) ?_));simp [e2,-av,wx];refine aw ?_;exact ih 0 _ (by omega) ⟨x.at_-1,[v],c',_,H',rfl,by omega,x0,by simpa using K,by simp [g1],by simp [g2],by simp,by simp,.inr ⟨rfl,x,hr,by omega,rfl,by rw [u]⟩⟩
    ·exfalso;have c9:=zp h Y x hr.1 b_;have:=Y.2.1;omega
 exact⟨g,L,hA,hp.eq⟩
theorem aiO{H:an}{c:C}{l:List Int}(h:LM H c l){j:Nat}(m:j<l.length):∃ b d,aL H 1 ae (.c c) (vi j)=ab (.c (.ptr b j d))∧aV H ae (.c (.ptr b j d))=ab (vi l[j]):=by
 rcases h with⟨rfl,_⟩ | ⟨v,b,d,x,rfl,g,_⟩
 ·simp at m
 ·have q:(0:Int)≤(j:Int):=by omega
  have s:(j:Int)<(l.length:Int):=by omega
  refine⟨b,d,?_,?_⟩
  ·simp [aL,dD,g,q,s]
  ·have u:List.drop j (l.map cI)=cI l[j]::List.drop (j+1) (l.map cI):=by rw [at5 (by simpa using m),List.getElem_map]
   simp [aV,aF,g,aK,u]
structure ExI{z:ZD}{o:List bA}(h:dB z o)(lo:Int)(L:List Int)(j:Nat)(out:List Int):Prop where
 at_:∀ a ∈ out,dm h lo a
 nd:out.Nodup
 all:∀ i (hi:i<L.length),i<j→dm h lo (lo-L[i])→lo-L[i] ∈ out
 len:out.length≤j
theorem ExI.step{z:ZD}{o:List bA}{h:dB z o}{lo:Int}{L:List Int}{j:Nat}{out:List Int}(k:ExI h lo L j out)(u:j<L.length) :
  (dm h lo (lo-L[j])→lo-L[j] ∉ out→ExI h lo L (j+1) (out++[lo-L[j]]))∧((dm h lo (lo-L[j])→lo-L[j] ∈ out)→ExI h lo L (j+1) out):=by
 refine⟨fun l s=>⟨fun a d=>?_,?_,fun i hi m g=>?_,by have:=k.len;simp;omega⟩,fun l=>⟨k.at_,k.nd,fun i hi m g=>?_,by have:=k.len;omega⟩⟩
 ·rcases at9.1 d with d | d
  ·exact k.at_ a d
  ·simp at d;subst d;exact l
 ·rw [List.nodup_append];refine⟨k.nd,by simp,fun a d b q e=>?_⟩;simp at q;subst q;subst e;exact s d
 ·rcases auk (show i≤j by omega)with e | e
  ·exact at9.2 (.inl (k.all i hi e g))
  ·subst e;simp
 ·rcases auk (show i≤j by omega)with e | e
  ·exact k.all i hi e g
  ·subst e;exact l g
theorem ExI.done{z:ZD}{o:List bA}{h:dB z o}{lo:Int}{L:List Int}{out:List Int}(g:Aro h lo L)(k:ExI h lo L L.length out):∀ a,a ∈ out↔dm h lo a:=by
 refine fun a=>⟨k.at_ a,fun j=>?_⟩
 obtain⟨r,hr,e⟩:=j;have l:=h.offO hr;have b:=g.all a r (by omega) (by omega) hr;obtain⟨i,hi,m⟩:=List.getElem_of_mem b;have d:lo-L[i]=a:=by omega
 have:=k.all i hi hi (by rw [d];exact⟨r,hr,e⟩);rwa [d]at this
theorem DM{z:ZD}{o:List bA}(h:dB z o){lo:Int}(l0:0≤lo)(l1:lo≤460000) :
  ∃ g,bB tab.get 83 [z.v,vi lo]=Eq (.c (.f (sl g (ints (vK h lo))))):=by
 obtain⟨rr,⟨g,rfl⟩,hp⟩:∃ rr,(∃ g,rr=.c (.f (sl g (ints (vK h lo)))))∧bB tab.get 83 [z.v,vi lo] rr:=by
  have hc:=h.c;obtain⟨ga,L,hA,d8⟩:=Bd h l0 l1;have g_:=hA.len;refine bY rfl rfl fun Q hQ=>?_;apply aj;simp;apply aj;simp;obtain⟨H0,Z⟩:=aP ([.box (z.row.map .f) 0]:an);have z0:H0[0]?=ab (.box (z.row.map .f) 0):=by rw [Z];rfl
  rw [←Z];clear Z;apply aj;simp [cA z0 hc,-av,d8];refine aq (aj ?_);simp;have d_:∀ H:an,bJ H (.f (sl ga (ints L)))=ab L.length:=fun H=>by simpa using pg (H:=H) ga (ints L)
  refine bQ L.length (fun j t J=>∃ c d,t.g 1=vi lo∧t.g 2=.c (.ptr 0 0 0)∧t.g 5=.c c∧t.g 6=.c (.f (sl ga (ints L)))∧J[0]?=ab (.box (z.row.map .f) 0)∧LM J c d∧ExI h lo L j d) (by omega) (by decide) (by simp)
   ⟨.f .es,[],by simp,by simp,by simp,by simp,z0,.inl ⟨rfl,.inr rfl⟩,⟨fun a u=>(by cases u),List.nodup_nil,fun i hi h0=>absurd h0 (by omega),by simp⟩⟩ ?_ ?_ ?_
  ·rintro j t J A hj ⟨c,d,Y,N,s,y,z0,l,O⟩ u hn;simp [u,y,d_];exact hn _ ⟨c,d,by simp [Y],by simp [N],by simp [s],by simp [y],z0,l,O⟩ (by simp [u]) (by simp)
  ·rintro j t J hj ⟨c,d,Y,N,s,y,z0,l,O⟩ u nx;obtain⟨v,hv⟩:=aP (L[j]);have j4:=hA.bd v (by rw [hv];exact IS hj);have ix:∀ K:an,aL K 1 ae (.c (.f (sl ga (ints L)))) (vi j)=ab (.c (.f (.fp (ints L).flatten j))):=fun K=>by
    have:=cE (H:=K) (g:=ga) (rows:=ints L) (sz:=1) (k:=.i64) (i:=(j:Int)) (by omega) (by simp;omega);simpa using this
   have lx:∀ K:an,aV K ae (.c (.f (.fp (ints L).flatten j)))=ab (vi v):=fun K=>by rw [hv];exact ej hj
   obtain⟨a,b7⟩:=aP (lo-v);have wa:IntKind.i64.wrap (lo-v)=a:=by rw [b7];exact aN
   obtain⟨r,hr,I⟩:=nO h (t:=a) (by omega) (by omega);have j3:=h.offO hr;have b_:offO z r=v↔dm h lo a:=by
    constructor
    ·intro e;exact⟨r,hr,by omega⟩
    ·rintro⟨q,hq,e⟩;have:=dT h hr hq;subst this;omega
   obtain⟨c9,a9⟩:=O.step hj;rw [←hv,←b7]at c9 a9;refine az (aj ?_);simp [Y,y,u,ix,lx,wa];apply aj;by_cases he:offO z r=v
   ·have d5:=b_.1 he;obtain⟨gx,B⟩:=l.ex;have U:=af1 gx d a (by have:=O.len;omega);obtain⟨W,e_⟩:=l.mk;have a_:=e_ 0 _ z0 (l.cw z0);by_cases hm:a ∈ d
    ·rw [decide_eq_true hm]at U;simp [N,s,y,u,cA z0 hc,-av,I,ix,lx,he,B,U];refine al (by simp) (aH (aw ?_));exact nx _ _ ⟨c,d,by simp [Y],by simp [N],by simp [s],by simp [y],a_,W,a9 fun _=>hm⟩ (by simp [u])
    ·rw [decide_eq_false hm]at U;simp [N,s,y,u,cA z0 hc,-av,I,ix,lx,he,B,U];obtain⟨J1,S⟩:=aP (iG deep c J++[.box [.f (fi a)] 0]:an);have X:LM J1 c d:=by rw [S];exact W.push _
     have d9:J1[(iG deep c J).length]?=ab (.box [.f (fi a)] 0):=by rw [S];simp
     obtain⟨c',H',b9,d7,d6,h_⟩:=X.app (by have:=O.len;omega) d9;have z1:J1[0]?=ab (.box (z.row.map .f) 0):=by rw [S,AI (ax a_)];exact a_
     refine ak (by simp) (au (.inl rfl) ?_);simp [s];rw [←S];simp [b9];refine aw ?_;exact nx _ _ ⟨c',d++[a],by simp [Y],by simp [N],by simp,by simp [y],d6.2 0 _ z1 (X.cw z1),d7,c9 d5 hm⟩ (by simp [u])
   ·have c_:¬ dm h lo a:=fun e=>he (b_.2 e);simp [N,s,y,u,cA z0 hc,-av,I,ix,lx,he];refine al (by simp) (aH (aw ?_));exact nx _ _ ⟨c,d,by simp [Y],by simp [N],by simp [s],by simp [y],z0,l,a9 fun e=>absurd e c_⟩ (by simp [u])
  ·rintro t J ⟨c,d,Y,N,s,y,z0,l,O⟩ u;have F:=ExI.done hA O;have E:=O.len;obtain⟨gx,B⟩:=l.ex;have m:bJ J c=ab d.length:=by
    rcases l with⟨rfl,rfl | rfl⟩ | ⟨_,b,ep,fl,rfl,h2,_⟩
    ·rfl
    ·rfl
    ·simp [bJ,h2]
   by_cases h2:d.length=2
   ·obtain⟨a,b,rfl⟩:∃ a b,d=[a,b]:=by
     match d,h2 with
     | [a,b],_=>exact⟨a,b,rfl⟩
    obtain⟨b0,f9,i0,e0⟩:=aiO l (j:=0) (by simp);obtain⟨b1,f_,i1,e1⟩:=aiO l (j:=1) (by simp);simp only [au5,Int.natCast_one,List.getElem_cons_zero,List.getElem_cons_succ]at i0 i1 e0 e1;have i_:a≠b:=by
     have:=O.nd;simp at this;exact this
    simp only [List.length_cons,List.length_nil]at m;refine aq (aj ?_);simp [s,m,i0,i1,e0,e1,-av];by_cases a7:b<a
    ·have M:[b,a]=vK h lo:=rK h l0 l1 (by simp;exact a7) (fun x=>by rw [←F x];simp [or_comm]);refine ak (by simp [a7]) (aj ?_);simp [s,i0,i1,e0,e1,-av];refine aE (hQ _ _ _ ⟨.fs,rfl⟩ ⟨rfl,.c (.sl J.length 0 2 2 0 1),?_,?_⟩)
     ·simp [Km.results,bw,aZ]
     ·have hb:(J++[c6.box [.f (fi b),.f (fi a)] 0])[J.length]?=ab (.box [.f (fi b),.f (fi a)] 0):=by simp
      rw [←M];have hx:db deep (J++[c6.box [.f (fi b),.f (fi a)] 0]) (.sl J.length 0 2 2 0 1)=ab (sl .fs (ints [b,a])):=by
       show db (63+1) _ _=_;rw [jf,hb];rfl
      simp [fZ,bX,hx]
    ·have M:[a,b]=vK h lo:=rK h l0 l1 (by simp;omega) F;refine al (by simp [a7]) (aH (aj ?_));simp [s];refine aE (hQ _ _ _ ⟨gx,rfl⟩ ⟨rfl,.c c,?_,?_⟩)
     ·simp [Km.results,bw,aZ]
     ·rw [←M];simp [fZ,bX,B]
   ·have M:d=vK h lo:=rK h l0 l1 (by
     match d,h2,E with
     | [],_,_=>exact List.Pairwise.nil| [a],_,_=>exact List.pairwise_singleton _ _| [_,_],h2,_=>exact absurd rfl h2
     | _::_::_::_,_,E=>simp at E;omega) F
    refine aq (aj ?_);simp [s,m,show¬ (d.length:Int)=2 by omega];refine al (by simp) (aH (aj ?_));simp [s];refine aE (hQ _ _ _ ⟨gx,rfl⟩ ⟨rfl,.c c,?_,?_⟩)
    ·simp [Km.results,bw,aZ]
    ·rw [←M];simp [fZ,bX,B]
 exact⟨g,hp.eq⟩
theorem akm{z:ZD}{o:List bA}(h:dB z o){lo:Int}(g:∀ a,¬ dm h lo a){r:Option bA}(hr:dX h.S (lo+1080) r) :
  ∃ x,r=ab x∧lo<x.at_+x.off∧∀ r2,dX h.S (x.at_-1) r2→x.at_+offO z r2≤lo:=by
 have s:=h.offO hr;cases r with
 | none=>exact absurd (nP h hr (by omega)) (g _)
 | some x=>
  have l:=h.off hr.1;have e:offO z (ab x)=x.off:=rfl;refine⟨x,rfl,?_,fun r2 b=>?_⟩
  ·rcases Int.lt_or_le lo (x.at_+x.off)with d | d
   ·exact d
   ·exact absurd (nQ h hr (by omega) (by omega)) (g _)
  ·rcases Int.lt_or_le lo (x.at_+offO z r2)with d | d
   ·exfalso;have j:=h.offO b;cases r2 with
    | none=>exact g _ (nP h b (by omega))
    | some y=>
     have u:=zp h hr y b.1 b.2.1;have m:=h.off b.1;have q:offO z (ab y)=y.off:=rfl;have:=hr.2.1;exact g _ (nQ h b (by omega) (by omega))
   ·exact d
theorem Nk{z:ZD}{o:List bA}(h:dB z o){lo:Int}(O:0≤lo)(S:lo≤460000){x:bA}{r2:Option bA}(hr:dX h.S (lo+1080) (ab x))(N:lo<x.at_+x.off)(m:dX h.S (x.at_-1) r2)(F:x.at_+offO z r2≤lo) :
  bB tab.get 84 [z.v,vi lo]=Eq (.t [vi x.at_,vi (offO z r2)]):=bB.eq (by
 have A:=h.c;have H:=h.off hr.1;have I:=hr.2.1;have E:=h.offO m;obtain⟨r,y,b⟩:=oD h (t:=lo+1080) (by omega) (by omega);have e:=dT h hr y;subst e;obtain⟨q,v,l⟩:=nO h (t:=x.at_-1) (by omega) (by omega);have e:=dT h m v;subst e;simp [bA.row]at b;refine bI rfl rfl fun Q B=>?_;apply aj;simp;obtain⟨H0,d⟩:=aP ([.box (z.row.map .f) 0]:an);have z0:H0[0]?=ab (.box (z.row.map .f) 0):=by rw [d];rfl
 have j:H0.length=1:=by rw [d];rfl
 rw [←d];clear d;apply aj;simp [aN (n:=lo+1080)];refine az (qo (az ?_));apply aj;simp [cA z0 A,-av,b,j];obtain⟨s,g⟩:=aP (H0++[.box [.f (fi x.at_),.f (fi x.off)] 0]:an);have L:s[0]?=ab (.box (z.row.map .f) 0):=by rw [g,AI (ax z0)];exact z0
 have M:s[1]?=ab (.box [.f (fi x.at_),.f (fi x.off)] 0):=by rw [g,←j];simp
 rw [←g];have u:aV s ae (.c (.ptr 1 0 0))=ab (vi x.at_):=by simp [aV,M,aF,aK]
 have J:=aN (n:=x.at_-1);have K:=aN (n:=x.at_+offO z r2);apply aj;simp [cA L A,-av,u,J,l];refine aq (aj ?_);simp [u,-av,K,F];refine ak (by simp) (aj ?_);simp [u,-av];refine aE (B _ _ ?_);simp)
theorem oh{z:ZD}{o:List bA}(h:dB z o):bB tab.get 28 [z.v]=Eq (vi 0):=bB.eq (by
 have l:=h.c;have K:=h.st;have b_:=h.ho;have d5:=h.tl;have W:=h.Ng;have a_:z.yr.length=0∨z.yr.length=2:=by rcases h.y with⟨e,-⟩ | ⟨r,q,e,-⟩<;>simp [e]
 have b7:∀ x ∈ z.yr,x.OK:=by
  rcases h.y with⟨e,-⟩ | ⟨r,q,e,hr,hq,-⟩
  ·rw [e];intro x b;cases b
  ·rw [e];intro x b;simp at b;rcases b with rfl | rfl
   ·exact hr
   ·exact hq
 have O:∀ x a,s7 o (z.cyc*1440) z.dI=ab x→a ∈ z.tr→a.at_+2160≤x.at_:=by
  rcases h.y with⟨-,rfl⟩ | ⟨r,q,e,-,-,-,-,b⟩
  ·intro x a b;simp [s7,jc]at b
  ·have:z.cyc=cyc z.c:=by simp [ZD.cyc,e]
   rw [this];exact b
 obtain⟨g,b9⟩:=h.abN;have U:=kz z l;refine bI rfl rfl fun Q hQ=>?_;apply aj;simp;obtain⟨H0,N⟩:=aP ([.box (z.row.map .f) 0]:an);rw [←N];have z0:H0[0]?=ab (.box (z.row.map .f) 0):=by rw [N];rfl
 clear N;refine aq (aj ?_);simp [dv z0 l,-av,show¬ 512<(z.tr.length:Int) by omega];refine aW (by simp) ?_;refine aq (aj ?_);have go:∀ t:T,t.g 1=.c (.ptr 0 0 0)→WP tab.get 28 ae [.code AM] ⟨t,[],H0⟩ Q:=by
  intro t d;refine aq (aj ?_);simp;refine bQ (H:=H0) z.tr.length (fun j t J=>J[0]?=ab (.box (z.row.map .f) 0)∧t.g 1=.c (.ptr 0 0 0)) (by omega) (by decide) (by simp) ⟨z0,by simp [d]⟩ ?_ ?_ ?_
  ·rintro j t J L I ⟨y,d⟩ v hn;simp [d,v,dv y l,-av];exact hn _ ⟨y,by simp [d]⟩ (by simp [v]) (by simp)
  ·rintro j t J I ⟨y,d⟩ v Y;have S:=eC (g:=z.tg) J I;have B:=nW J I;simp only [bA.row,anc,atN]at B;have b:=h.tb _ (IS I);obtain⟨u,s⟩:=aP (J++[.box [.f (fi z.tr[j].at_),.f (fi z.tr[j].off)] 0]:an);have F:u[J.length]?=ab (.box [.f (fi z.tr[j].at_),.f (fi z.tr[j].off)] 0):=by rw [s];simp
   have E:u[0]?=ab (.box (z.row.map .f) 0):=by rw [s,AI (ax y)];exact y
   refine az ?_;apply aj;simp [d,v,S,B,dv y l,-av];rw [←s];have la:aV u ae (.c (.ptr J.length 0 0))=ab (vi z.tr[j].at_):=by simp [aV,aF,F,aK]
   have lo:aV u ae (.c (.ptr J.length 1 0))=ab (vi z.tr[j].off):=by simp [aV,aF,F,aK]
   have Z:=iQ (n:=z.tr[j].off) (m:=1080) (by decide) (by decide) b.2.2.1 b.2.2.2;have wa:=iQ (n:=z.tr[j].at_) (m:=2251799813685248) (by decide) (by decide) (by omega) (by omega);apply aj;by_cases p:j=0
   ·subst p;simp [d,v,la,lo,Z,wa,fF E l,-av,show¬ z.dI≤z.tr[0].at_ by omega];refine al (by simp) (aH (aw ?_));exact Y _ _ ⟨E,by simp [d]⟩ (by simp [v])
   ·obtain⟨k,rfl⟩:∃ k,j=k+1:=⟨j-1,by omega⟩
    have f:=eC (g:=z.tg) u (show k<z.tr.length by omega);have w:=mS u (show k<z.tr.length by omega);have hs:=h.ts k _ _ (AT (by omega)) (AT I);have d6:=h.tb _ (IS (show k<z.tr.length by omega));have wk:IntKind.i64.wrap (k:Nat)=(k:Nat):=aN;have wd:=aN (n:=z.tr[k+1].at_-z.tr[k].at_);simp [d,v,la,lo,Z,wa,fF E l,dv E l,-av,show¬ z.dI≤z.tr[k+1].at_ by omega,wk,f,w,wd,show¬ z.tr[k+1].at_-z.tr[k].at_<2160 by omega,show(0:Int)<(k:Int)+1 by omega];refine al (by simp) (aH (aw ?_));exact Y _ _ ⟨E,by simp [d]⟩ (by simp [v])
  clear z0;rintro t J ⟨z0,d⟩ v;refine aq (aj ?_);simp;refine bQ (H:=J) z.yr.length (fun j t J=>J[0]?=ab (.box (z.row.map .f) 0)∧t.g 1=.c (.ptr 0 0 0)) (by omega) (by decide) (by simp) ⟨z0,by simp [d]⟩ ?_ ?_ ?_
  ·clear d v z0;rintro j t J L I ⟨y,d⟩ v hn;simp [d,v,eM y l,-av];exact hn _ ⟨y,by simp [d]⟩ (by simp [v]) (by simp)
  ·clear d v z0;rintro j t J I ⟨y,d⟩ v Y;have S:aL J 5 ae (.c (.f (sl z.yg (bT z.yr)))) (vi j)=ab (.c (.f (.fp (bT z.yr).flatten (j*5)))):=by
    have:=cE (H:=J) (g:=z.yg) (rows:=bT z.yr) (sz:=5) (k:=.i64) (i:=(j:Int)) (by omega) (by simp;omega);simpa using this
   have B:aV J (ab 5) (.c (.f (.fp (bT z.yr).flatten (j*5))))=ab (.a (z.yr[j].row.map .f)):=ez (jo z.yr) (si I);have b:=b7 _ (IS I);obtain⟨u,s⟩:=aP (J++[.box (z.yr[j].row.map .f) 0]:an);have E:u[0]?=ab (.box (z.row.map .f) 0):=by rw [s,AI (ax y)];exact y
   have F:u[J.length]?=ab (.box (z.yr[j].row.map .f) 0):=by rw [s];simp
   have l0:aV u ae (.c (.ptr J.length 0 0))=ab (vi z.yr[j].mo):=by simp [aV,aF,F,aK,ew.row]
   have l1:aV u ae (.c (.ptr J.length 1 0))=ab (vi z.yr[j].wk):=by simp [aV,aF,F,aK,ew.row]
   have l2:aV u ae (.c (.ptr J.length 2 0))=ab (vi z.yr[j].wd):=by simp [aV,aF,F,aK,ew.row]
   have l3:aV u ae (.c (.ptr J.length 3 0))=ab (vi z.yr[j].mi):=by simp [aV,aF,F,aK,ew.row]
   have l4:aV u ae (.c (.ptr J.length 4 0))=ab (vi z.yr[j].off):=by simp [aV,aF,F,aK,ew.row]
   obtain⟨cs,lm⟩:=D1 E l;simp only [ew.row,anc,atN]at s B;refine az ?_;apply aj;simp [d,v,S,B,eM y l,-av];rw [←s];have Z:=iQ (n:=z.yr[j].off) (m:=1080) (by decide) (by decide) b.of0 b.of;apply aj;have a9:bJ u (.f (.fs cs 2))=ab 2:=rfl;have f1:¬ z.yr[j].mo<1:=by have:=b.mo;omega
   have f2:¬ 2<z.yr[j].mo:=by have:=b.mo;omega
   have f3:¬ z.yr[j].wk<1:=by have:=b.wk;omega
   have f4:¬ 5<z.yr[j].wk:=by have:=b.wk;omega
   have f5:¬ z.yr[j].wd<0:=by have:=b.wd0;omega
   have f6:¬ 6<z.yr[j].wd:=by have:=b.wd;omega
   have f7:¬ z.yr[j].mi<0:=by have:=b.mi0;omega
   have f8:¬ 1439<z.yr[j].mi:=by have:=b.mi;omega
   simp [d,l0,l1,l2,l3,l4,lm,Z,-av,f1,f2,f3,f4,f5,f6,f7,f8,a9];refine al (by simp) (aH (aw ?_));exact Y _ _ ⟨E,by simp [d]⟩ (by simp [v])
  clear d v z0;rintro t J ⟨z0,d⟩ v;apply aj;simp [d,cA z0 l,-av,b9];refine aq (aj ?_);simp;refine aW (by simp) ?_;have A:∀(t:T) (J:an),WP tab.get 28 ae [.code tG] ⟨t,[],J⟩ Q:=by
   intro t J;apply aj;simp;refine aE (hQ _ _ ?_);simp
  rcases auv o.length with c | o0
  ·have c:o=[]:=aun.1 c;subst c;have O:=tQ g z.cyc z.dI;apply aj;simp [d,cA z0 l,fF z0 l,-av,U,O];refine aq (aj ?_);simp;refine aW (by simp) ?_;exact A _ _
  ·have c_:=h.len;obtain⟨x,b,M⟩:=tR g o o0 (by omega) (fun x b=>(h.bd x b).1) z.cyc z.dI W.1 (by omega) (by omega) (by omega);have d7:=Fh (fun x b=>(h.bd x b).1) h.sp (by omega) (by omega) (by omega) (by omega) b;simp only [bA.row,anc,atN]at M;apply aj;simp [d,cA z0 l,fF z0 l,-av,U,M];obtain⟨u,s⟩:=aP (J++[.box [.f (fi x.at_),.f (fi x.off)] 0]:an);rw [←s];have E:u[0]?=ab (.box (z.row.map .f) 0):=by rw [s,AI (ax z0)];exact z0
   have F:u[J.length]?=ab (.box [.f (fi x.at_),.f (fi x.off)] 0):=by rw [s];simp
   have la:aV u ae (.c (.ptr J.length 0 0))=ab (vi x.at_):=by simp [aV,aF,F,aK]
   refine aq (aj ?_);by_cases X:z.tr=[]
   ·simp [d,dv E l,-av,X];refine aW (by simp) ?_;exact A _ _
   ·have a7:0<z.tr.length:=List.length_pos_iff.2 X;have ii:=eC (g:=z.tg) u (show z.tr.length-1<z.tr.length by omega);have il:=mS u (show z.tr.length-1<z.tr.length by omega);have c9:=h.tb _ (IS (show z.tr.length-1<z.tr.length by omega));have e1:IntKind.i64.wrap ((z.tr.length:Int)-1)=((z.tr.length-1:Nat):Int):=by rw [aN];omega
    have e2:=aN (n:=x.at_-z.tr[z.tr.length-1].at_);have hd:=O x _ b (IS (show z.tr.length-1<z.tr.length by omega));simp [d,dv E l,-av,a7,e1,e2,ii,il,la,show¬ x.at_-z.tr[z.tr.length-1].at_<2160 by omega];refine aW (by simp) ?_;exact A _ _
 rcases a_ with hy | hy
 ·simp [iV z0 l,rP z0 l,fF z0 l,eM z0 l,-av,se l,iQ (n:=z.start) (m:=1080) (by decide) (by decide) K.1 K.2,iQ (n:=z.dI) (m:=2251799813685248) (by decide) (by decide) (by omega) (by omega),hy];exact al (by simp) (aH (go _ (by simp)))
 ·simp [iV z0 l,rP z0 l,fF z0 l,eM z0 l,-av,se l,iQ (n:=z.start) (m:=1080) (by decide) (by decide) K.1 K.2,iQ (n:=z.dI) (m:=2251799813685248) (by decide) (by decide) (by omega) (by omega),hy];exact al (by simp) (aH (go _ (by simp))))
theorem vL{z:ZD}{o:List bA}(h:dB z o){lo:Int}(l0:0≤lo)(l1:lo≤460000){cR fold:Int}(a_:0≤cR)(b7:cR≤2)(a7:0≤fold)(a9:fold≤2) :
  ∃ tg:Tg,bB tab.get 36 [z.v,vi lo,vi cR,vi fold]=Eq (.t [.c (.f (sl tg (ints (sV h lo cR fold)))),vi 0]):=by
 obtain⟨rr,⟨tg,rfl⟩,hp⟩:∃ rr,(∃ tg:Tg,rr=.t [.c (.f (sl tg (ints (sV h lo cR fold)))),vi 0])∧bB tab.get 36 [z.v,vi lo,vi cR,vi fold] rr:=by
  have Z:=h.c;have hv:=oh h;obtain⟨A,B⟩:=DM h l0 l1;obtain⟨l,e,b,k⟩:=DW h l0 l1;rw [y6 k]at B;rw [k.ins cR fold];have b_:=k.len;have b9:=k.bd;refine bY rfl rfl fun Q hQ=>?_;apply aj;simp;obtain⟨H0,I⟩:=aP ([.box (z.row.map .f) 0]:an);rw [←I];have z0:H0[0]?=ab (.box (z.row.map .f) 0):=by rw [I];rfl
  clear I;refine aq (aj ?_);simp [cA z0 Z,-av,hv,iQ (n:=lo) (m:=2251799813684168) (by decide) (by decide) (by omega) (by omega),show¬ cR<0 by omega,show¬ 2<cR by omega,show¬ fold<0 by omega,show¬ 2<fold by omega];refine aW (by simp) ?_;apply aj;simp [cA z0 Z,-av,B];have d:bJ H0 (.f (sl A (ints l)))=ab l.length:=by simp
  have ix:∀(j:Nat) (n:Int),j<l.length→n=j→aL H0 1 ae (.c (.f (sl A (ints l)))) (vi n)=ab (.c (.f (.fp (ints l).flatten j))):=fun j n hj hn=>by
   have:=cE (H:=H0) (g:=A) (rows:=ints l) (sz:=1) (k:=.i64) (i:=(j:Int)) (by omega) (by simp;omega);subst hn;simpa using this
  have s:∀(t:T) (J:an) (c:C) (tg:Tg) (ks:List cG),t.g 8=.c c→t.g 9=vi 0→db deep J c=ab (sl tg (ints (fk cR fold lo l e b)))→WP tab.get 36 ae (.code .ret::ks) ⟨t,[],J⟩ Q:=by
   intro t J c tg ks g8 g9 B;refine aE (hQ _ _ _ ⟨tg,rfl⟩ ⟨rfl,.t [.c c,vi 0],?_,?_⟩)
   ·simp [Km.results,bw,aZ,g8,g9]
   ·simp [fZ,bX,aZ,B]
  have F:∀(n:Nat) (v:Int),db deep (H0++[.box [.f (fi v)] 0]) (.sl H0.length 0 1 1 0 1)=ab (sl .fs (ints [v])):=fun _ v=>by
   have hb:(H0++[.box [.f (fi v)] 0])[H0.length]?=ab (.box [.f (fi v)] 0):=by simp
   show db (63+1) _ _=_;rw [jf,hb];rfl
  by_cases y:l.length=2
  ·have u:l≠[]:=by intro e;rw [e]at y;cases y
   refine aq (aj ?_);by_cases L:fold=0
   ·have i0:=ix 0 0 (by omega) rfl;have Y:aV H0 ae (.c (.f (.fp (ints l).flatten 0)))=ab (vi l[0]):=ej (by omega);have K:fk cR fold lo l e b=[l[0]]:=by
     unfold fk;rw [aY u,bg L];rcases l with _ | ⟨p,l⟩
     ·exact absurd rfl u
     ·rfl
    simp [d,y,L];refine ak (by simp) (aj ?_);simp [i0,Y,-av];exact s _ _ (.sl H0.length 0 1 1 0 1) .fs _ (by simp) (by simp) (by rw [K];exact F 0 _)
   ·simp [d,y,L];refine al (by simp) (aH (aq (aj ?_)));by_cases W:fold=1
    ·have i0:=ix 1 1 (by omega) rfl;have Y:aV H0 ae (.c (.f (.fp (ints l).flatten 1)))=ab (vi l[1]):=ej (by omega);have K:fk cR fold lo l e b=[l[1]]:=by
      unfold fk;rw [aY u,aY L,bg W];rcases l with _ | ⟨p,_ | ⟨q,_ | ⟨w,l⟩⟩⟩
      ·cases y
      ·cases y
      ·rfl
      ·simp at y
     simp [d,y,W];refine ak (by simp) (aj ?_);simp [i0,Y,-av];exact s _ _ (.sl H0.length 0 1 1 0 1) .fs _ (by simp) (by simp) (by rw [K];exact F 0 _)
    ·simp [d,y,W];refine al (by simp) (aH (aq (aj ?_)));simp [d,y];refine ak (by simp) (aj ?_);simp;exact s _ _ (.f (sl A (ints l))) A _ (by simp) (by simp) (by simp [fk,u,L,W])
  ·have O:¬ (l.length:Int)=2:=by omega
   refine aq (aj ?_);simp [d,O];refine al (by simp) (aH (aq (aj ?_)));simp [d,O];refine al (by simp) (aH (aq (aj ?_)));by_cases X:l.length=1
   ·have u:l≠[]:=by intro e;rw [e]at X;cases X
    have K:fk cR fold lo l e b=l:=by
     unfold fk;rw [aY u];split
     ·exact List.take_of_length_le (by omega)
     ·split
      ·rw [X];rfl
      ·rfl
    simp [d,X];refine ak (by simp) (aj ?_);simp;exact s _ _ (.f (sl A (ints l))) A _ (by simp) (by simp) (by simp [K])
   ·have M:l=[]:=aun.1 (by omega);have N:l.length=0:=by omega
    by_cases p0:cR=0
    ·simp [d,N,p0];refine ak (by simp) (aj ?_);simp;exact s _ _ (.f (sl A (ints l))) A _ (by simp) (by simp) (by simp [fk,M,p0])
    ·simp [d,N,p0];refine al (by simp) (aH (aj ?_));obtain⟨r,hr,-⟩:=oD h (t:=lo+1080) (by omega) (by omega);obtain⟨x,rfl,S,U⟩:=akm h (fun a ha=>by have:=(k.mem a).2 ha;rw [M]at this;cases this) hr;have c9:=h.off hr.1;have c_:=hr.2.1;obtain⟨r2,E,-⟩:=nO h (t:=x.at_-1) (by omega) (by omega);have f:=Nk h l0 l1 hr S E (U r2 E);obtain⟨rfl,rfl⟩:=k.cR M x r2 hr E (U r2 E) S;simp [cA z0 Z,-av,f];refine aq (aj ?_);by_cases p1:cR=1
     ·simp [p1];refine ak (by simp) (aj ?_);simp [aN (n:=lo-offO z r2)];exact s _ _ (.sl H0.length 0 1 1 0 1) .fs _ (by simp) (by simp) (by rw [F 0];simp [fk,M,p1])
     ·simp [p1];refine al (by simp) (aH (aj ?_));simp;exact s _ _ (.sl H0.length 0 1 1 0 1) .fs _ (by simp) (by simp) (by rw [F 0];simp [fk,M,p0,p1])
 exact⟨tg,hp.eq⟩
theorem Eg{s:bW}(E:s.np){d:Int}(d0:0≤d)(d1:d≤300) :
  bB tab.get 35 [s.v,vi d]=Eq (.t [vi (s.at_ d),vi (s.uF d),vb (!s.dropped d)]):=bB.eq (by
 have p:=E.ok.mi;have r:=E.ml;refine bI rfl rfl fun Q Y=>?_;apply aj;simp;obtain⟨H0,v⟩:=aP ([.box (s.row.map .f) 0]:an);have b0:H0[0]?=ab (.box (s.row.map .f) 0):=by rw [v];rfl
 rw [←v];clear v;refine aq (aj ?_);simp;refine bQ s.mv.length (fun j t J=>J[0]?=ab (.box (s.row.map .f) 0)∧t.g 1=vi d∧t.g 2=.c (.ptr 0 0 0)∧dL (s.mv.take j) d=ae) (by omega) (by decide) (by simp)
  ⟨b0,by simp,by simp,by simp [dL]⟩ ?_ ?_ ?_
 ·clear b0;rintro j t J L y ⟨b0,z,u,B⟩ A hn;obtain⟨-,-,-,-,-,-,N,-⟩:=gv b0;simp [A,u,N,-av];exact hn _ ⟨b0,by simp [z],by simp [u],B⟩ (by simp [A]) (by simp)
 ·clear b0;rintro j t J y ⟨b0,z,u,B⟩ A nx;obtain⟨-,W,X,-,a,c,N,-⟩:=gv b0;obtain⟨m,b⟩:=aP (s.mv[j]);have l:=E.ok.mo m (by rw [b];exact IS y);have o:=E.mo m (by rw [b];exact IS y);have S:=uu (H:=J) (g:=s.mg) y (by omega);have K:=xz (H:=J) y;rw [←b]at K;have U:m.row.length=5:=rfl;refine az (aj ?_);simp [u,A,N,-av,S,K,U];obtain⟨q,x⟩:=aP (J++[.box (m.row.map .f) 0]:an);have Z:q[0]?=ab (.box (s.row.map .f) 0):=by rw [x,AI (ax b0)];exact b0
  have F:q[J.length]?=ab (.box (m.row.map .f) 0):=by rw [x];simp
  have e:aV q ae (.c (.ptr J.length 0 0))=ab (vi m.day):=by simp [aV,F,aF,aK,bz.row]
  have f:aV q ae (.c (.ptr J.length 1 0))=ab (vb m.drop):=by simp [aV,F,aF,aK,bz.row]
  have h:aV q ae (.c (.ptr J.length 2 0))=ab (vi m.to):=by simp [aV,F,aF,aK,bz.row]
  have i:aV q ae (.c (.ptr J.length 3 0))=ab (vi m.mi):=by simp [aV,F,aF,aK,bz.row]
  have k:aV q ae (.c (.ptr J.length 4 0))=ab (vi m.le):=by simp [aV,F,aF,aK,bz.row]
  rw [←x];have w:0≤m.to∧0≤m.mi:=by
   cases I:m.drop
   ·have:=l.nd I;omega
   ·have:=l.dr I;omega
  have wA:=aN (n:=m.to*1440);have wB:=aN (n:=m.to*1440+m.mi);apply aj;simp [z,e,-av];by_cases O:m.day=d
  ·have M:=sF (d:=d) E.ok.ms y (by rw [←b];exact O);rw [←b]at M;refine ak (by simp [O]) (aj ?_);simp [f,h,i,k,-av,wA,wB];refine aE (Y _ _ ?_);simp [Zs,uG,rB,M,atO,loO,drO]
  ·refine al (by simp [O]) (aH (aw ?_));refine nx _ _ ⟨Z,by simp [z],by simp [u],?_⟩ (by simp [A]);rw [sG E.ok.ms y,aY (by rw [←b];exact O)];exact B
 ·clear b0;rintro t J ⟨b0,z,u,B⟩ A;rw [aul]at B;obtain⟨-,W,X,-,a,c,N,-⟩:=gv b0;have w1:=aN (n:=d*1440);have w2:=aN (n:=d*1440+s.mi);apply aj;simp [z,u,W,X,-av,w1,w2];refine aE (Y _ _ ?_);simp [Zs,uG,rB,B,atO,loO,drO])
theorem agt{z:ZD}{o:List bA}(h:dB z o){s:bW}(J:s.np){d:Int}(d0:0≤d)(d1:d≤300) :
  ∃ g,bB tab.get 5 [s.v,z.v,vi d]=Eq (.t [.c (.f (sl g (bD (vz h s d)))),vi 0]):=by
 obtain⟨rr,⟨g,rfl⟩,hp⟩:∃ rr,(∃ g,rr=.t [.c (.f (sl g (bD (vz h s d)))),vi 0])∧bB tab.get 5 [s.v,z.v,vi d] rr:=by
  have q:=J.at_ d0 d1;have x:=J.ok.cR;have b:=J.ok.fold;have hc:=h.c;have U:=pD J.ok;have b7:=oh h;have a9:=Eg J d0 d1;have w:=dC d 0 1099511627776 (by omega);refine bY rfl rfl fun Q hQ=>?_;apply aj;simp;obtain⟨K,W⟩:=aP ([.box (s.row.map .f) 0,.box (z.row.map .f) 0]:an);have b0:K[0]?=ab (.box (s.row.map .f) 0):=by rw [W];rfl
  have b1:K[1]?=ab (.box (z.row.map .f) 0):=by rw [W];rfl
  rw [←W];clear W;obtain⟨-,-,-,-,e4,e5,-,e7⟩:=gv b0;have z8:aV K (ab 8) (.c (.ptr 1 0 0))=ab z.v:=cA b1 hc;refine aq (aj ?_);simp [e7,z8,-av,U,b7,w];refine aW (by simp) ?_;apply aj;simp;apply aj;simp [e7,-av,a9];refine aq (aj ?_);simp;cases E:s.dropped d
  ·refine aW (by simp) ?_;obtain⟨tg,y⟩:=vL h q.1 q.2 x.1 x.2 b.1 b.2;obtain⟨I,hI⟩:=aP (sV h (s.at_ d) s.cR s.fold);have Y:=rL h q.1 q.2 (cR:=s.cR) b.1 b.2;have O:=FG h q.1 q.2 (cR:=s.cR) (fold:=s.fold);obtain⟨L,Z⟩:=aP (s.uF d);have a7:=J.uF d E;rw [←Z]at a7;have a_:vz h s d=I.map fun a=>⟨d,a,a+L⟩:=by unfold vz;rw [E,aY (by decide),←hI,Z]
   rw [←hI]at y Y O;rw [←Z];apply aj;simp [e4,e5,z8,-av,y];have c9:∀ H:an,bJ H (.f (sl tg (ints I)))=ab I.length:=fun H=>by simp
   refine aq (aj ?_);simp;refine bQ I.length (fun j t K=>∃ c,t.g 2=vi d∧t.g 10=vi L∧t.g 12=.c (.f (sl tg (ints I)))∧t.g 13=vi 0∧t.g 8=.c c∧LR K c 3 (bD ((I.take j).map fun a=>⟨d,a,a+L⟩))) (by omega) (by decide) (by simp)
    ⟨.f .es,by simp,by simp,by simp,by simp,by simp,.inl ⟨rfl,.inr rfl⟩⟩ ?_ ?_ ?_
   ·rintro j t K A X ⟨c,M,g10,l,u,N,m⟩ F hn;simp [F,l];exact hn _ ⟨c,by simp [M],by simp [g10],by simp [l],by simp [u],by simp [N],m⟩ (by simp [F]) (by simp)
   ·rintro j t K X ⟨c,M,g10,l,u,N,m⟩ F nx;obtain⟨a,B⟩:=aP (I[j]);have p:=O _ (IS X);rw [←B]at p;have ix:aL K 1 ae (.c (.f (sl tg (ints I)))) (vi j)=ab (.c (.f (.fp (ints I).flatten j))):=by
     have:=cE (H:=K) (g:=tg) (rows:=ints I) (sz:=1) (k:=.i64) (i:=(j:Int)) (by omega) (by simp;omega);simpa using this
    have lx:aV K ae (.c (.f (.fp (ints I).flatten j)))=ab (vi a):=by rw [B];exact ej X
    have wa:=aN (n:=a+L);obtain⟨K1,v⟩:=aP (K++[.box ((fB.row ⟨d,a,a+L⟩).map .f) 0]:an);have f:LR K1 c 3 (bD ((I.take j).map fun a=>⟨d,a,a+L⟩)):=by rw [v];exact m.push _
    have r:K1[K.length]?=ab (.box ((fB.row ⟨d,a,a+L⟩).map .f) 0):=by rw [v];simp
    obtain⟨c',H',S,e,b9,b_⟩:=f.app (cU _) (by decide) (row:=fB.row ⟨d,a,a+L⟩) rfl (bytes:=24) (cB (by simp;omega) (by decide)) r;simp only [fB.row,anc,atN]at v;refine az (au (.inl rfl) ?_);simp [M,N,g10,l,F,ix,lx,wa];rw [←v];simp [S];refine aw ?_;refine nx _ _ ⟨c',by simp [M],by simp [g10],by simp [l],by simp [u],by simp,?_⟩ (by simp [F]);rw [at0 X,←B,List.map_append];simp only [anc,atN];rw [sx];exact e
   ·rintro t K ⟨c,M,g10,l,u,N,m⟩ F;rw [aul,←a_]at m;obtain⟨g',hx⟩:=mf m (cU _);apply aj;simp [N,u];refine aE (hQ _ _ _ ⟨g',rfl⟩ ⟨rfl,.t [.c c,vi 0],?_,?_⟩)
    ·simp [Km.results,bw,aZ]
    ·simp [fZ,bX,aZ,hx]
  ·refine ak (by simp) (aj ?_);simp;refine aE (hQ _ _ _ ⟨.es,rfl⟩ ?_);have:vz h s d=[]:=by unfold vz;rw [bg E]
   rw [this];simp [sl,bD,Tg.fc]
 exact⟨g,hp.eq⟩
theorem x6(g:Tg)(l:List Int)(b:Int)(N:l.length≤1048576)(J:l.Pairwise (· < ·))(E:∀ c ∈ l,-1<c∧c<b):bB tab.get 142 [.c (.f (sl g (ints l))),vi b]=Eq (vb ag):=bB.eq (by
 refine bI rfl rfl fun Q B=>?_;apply aj;simp;refine aq (aj ?_);simp;refine bQ l.length (fun j t K=>t.g 0=.c (.f (sl g (ints l)))∧t.g 1=vi b) (by omega) (by decide) (by simp) ⟨by simp,by simp⟩ ?_ ?_ ?_
 ·rintro j t K L s ⟨d,q⟩ m x;simp [m,d];exact x _ ⟨by simp [d],by simp [q]⟩ (by simp [m]) (by simp)
 ·rintro j t K s ⟨d,q⟩ m A;have y:∀(k:Nat) (n:Int),k<l.length→n=k→aL K 1 ae (.c (.f (sl g (ints l)))) (vi n)=ab (.c (.f (.fp (ints l).flatten k))):=fun k n v x=>by
   have:=cE (H:=K) (g:=g) (rows:=ints l) (sz:=1) (k:=.i64) (i:=(k:Int)) (by omega) (by simp;omega);subst x;simpa using this
  have z:∀(k:Nat) (v:k<l.length),aV K ae (.c (.f (.fp (ints l).flatten k)))=ab (vi l[k]):=fun k v=>ej v;have F:=E _ (IS s);refine az (aj ?_);rcases auv j with rfl | u
  ·simp [d,q,m,y 0 0 s rfl,z 0 s,-av,show¬ l[0]<0 by omega,show¬ b≤l[0] by omega];exact al (by simp) (aH (aw (A _ _ ⟨by simp [d],by simp [q]⟩ (by simp [m]))))
  ·have I:=List.pairwise_iff_getElem.1 J (j-1) j (by omega) s (by omega);have M:IntKind.i64.wrap ((j:Int)-1)=((j-1:Nat):Int):=by rw [aN];omega
   simp [d,q,m,y j j s rfl,z j s,y (j-1) ((j-1:Nat):Int) (by omega) rfl,z (j-1) (by omega),M,-av,show¬ l[j]<0 by omega,show¬ b≤l[j] by omega,u,show¬ l[j]≤l[j-1] by omega];exact al (by simp) (aH (aw (A _ _ ⟨by simp [d],by simp [q]⟩ (by simp [m]))))
 ·rintro t K ⟨d,q⟩ m;apply aj;simp;refine aE (B _ _ ?_);simp)
theorem abd(p:cr)(h:fG p=ag):bB tab.get 94 [.a (p.row.map .f)]=Eq (vb ag):=bB.eq (by
 obtain⟨m,q,s,u,v,b,d,g,j⟩:=rW h;have r1:=x6 p.hg p.head p.fr (by omega) b d;have r2:=x6 p.cg p.cyc p.kV (by omega) g j;refine bI rfl rfl fun Q l=>?_;apply aj;simp [cr.row];refine aq (aj ?_);simp [show¬ p.fr<0 by omega,show¬ 1099511627776<p.fr by omega,show¬ p.kV<1 by omega,show¬ 1099511627776<p.kV by omega];refine aW (by simp) ?_;refine aq (aj ?_);simp [show¬ (1048576:Int)<p.head.length by omega,show¬ (1048576:Int)<p.cyc.length by omega,aN (n:=(p.head.length:Int)+p.cyc.length),show¬ (1048576:Int)<(p.head.length:Int)+p.cyc.length by omega];refine aW (by simp) ?_;apply aj;simp [r1,r2];refine aE (l _ _ ?_);simp)
theorem ahq(p:cr)(h:fG p=ag)(d:Int)(g:0≤d)(m:Day d):bB tab.get 143 [.a (p.row.map .f),vi d]=Eq (vb (hasB p d)):=bB.eq (by
 obtain⟨q,s,u,v,x,y,z,A,B⟩:=rW h;unfold Day at m;have l:=abd p h;have i1:=DU (F:=176) aiG p.hg p.head d (by omega);have i2:=DU (F:=176) aiG p.cg p.cyc ((d-p.fr) % p.kV) (by omega);refine bI rfl rfl fun Q j=>?_;simp only [cr.row,anc,atN]at l;apply aj;simp [cr.row];refine aq (aj ?_);simp [l,show¬ d<0 by omega];refine aW (by simp) ?_;refine aq (aj ?_);simp;by_cases k:p.fr≤d
 ·refine al (by simp;omega) (aH (aj ?_));simp [aN (n:=d-p.fr),ke (a:=d-p.fr) (b:=p.kV) (by omega) (by omega),i2];refine aE (j _ _ ?_);simp [hasB,D_,k,g]
 ·refine ak (by simp;omega) (aj ?_);simp [i1];refine aE (j _ _ ?_);simp [hasB,D_,k,g])
theorem amm(g:Tg)(l:List cr)(J:l.length≤64)(h:∀ p ∈ l,fG p=ag)(d:Int)(y:0≤d)(z:Day d):bB tab.get 95 [.c (.f (sl g (bL l))),vi d]=Eq (vb (Bw l d)):=bB.eq (by
 refine bI rfl rfl fun Q v=>?_;apply aj;simp;refine aq (aj ?_);simp;refine bQ l.length (fun j t K=>t.g 0=.c (.f (sl g (bL l)))∧t.g 1=vi d∧Bw l d=Bw (l.drop j) d) (by omega) (by decide) (by simp) ⟨by simp,by simp,by simp⟩ ?_ ?_ ?_
 ·rintro j t K L s ⟨b,q,hi⟩ m B;simp [m,b];exact B _ ⟨by simp [b],by simp [q],hi⟩ (by simp [m]) (by simp)
 ·rintro j t K s ⟨b,q,hi⟩ m I;obtain⟨p,u⟩:=aP (l[j]);have A:=ahq p (h p (by rw [u];exact IS s)) d y z;have E:aL K 4 ae (.c (.f (sl g (bL l)))) (vi j)=ab (.c (.f (.fp (bL l).flatten (j*4)))):=by
   have:=cE (H:=K) (g:=g) (rows:=bL l) (sz:=4) (k:=.i64) (i:=(j:Int)) (by omega) (by simp;omega);simpa using this
  have F:aV K (ab 4) (.c (.f (.fp (bL l).flatten (j*4))))=ab (.a (p.row.map .f)):=by rw [u];exact ez (fj l) (mq s)
  rw [at5 s,←u]at hi;refine az (aj ?_);simp [b,q,m,E,F,A];cases x:hasB p d
  ·refine ak (by simp) (aj ?_);simp;refine aE (v _ _ ?_);rw [hi];simp [Bw,x]
  ·refine al (by simp) (aH (aw (I _ _ ⟨by simp [b],by simp [q],?_⟩ (by simp [m]))));rw [hi];simp [Bw,x]
 ·rintro t K ⟨b,q,hi⟩ m;apply aj;simp;refine aE (v _ _ ?_);rw [hi];simp [Bw])
theorem Gz{g:Tg}{l:List dQ}{j:Nat}(b:j<l.length)(K:an):∃ a,aL K 1 ae (.c (.f (sl g (bj l)))) (vi j)=ab a∧aV K ae a=ab (.c (.f (sl l[j].tg (bL l[j].fs)))):=
 ⟨.c (.f (.fp (bj l).flatten (j*1))),by
  have:=cE (H:=K) (g:=g) (rows:=bj l) (sz:=1) (k:=.i64) (i:=(j:Int)) (by omega) (by simp;omega);simpa using this,gu (kT l) (od b) rfl⟩
theorem abb(g:Tg)(l:List dQ)(h:mY l=ag):bB tab.get 55 [.a [.f (sl g (bj l))]]=Eq (vb ag):=bB.eq (by
 obtain⟨U,M⟩:=oE h;refine bI rfl rfl fun Q I=>?_;apply aj;simp;obtain⟨H0,m⟩:=aP ([.box [.f (sl g (bj l))] 0]:an);have x:aV H0 ae (.c (.ptr 0 0 0))=ab (.c (.f (sl g (bj l)))):=by rw [m];rfl
 rw [←m];clear m;refine aq (aj ?_);simp [x,-av,show¬ (64:Int)<l.length by omega];refine aW (by simp) ?_;refine aq (aj ?_);simp;refine bQ (H:=H0) l.length (fun j t K=>K=H0∧t.g 1=.c (.ptr 0 0 0)) (by omega) (by decide) (by simp) ⟨rfl,by simp⟩ ?_ ?_ ?_
 ·rintro j t K L y ⟨rfl,b⟩ d z;simp [d,b,x,-av];exact z _ ⟨rfl,by simp [b]⟩ (by simp [d]) (by simp)
 ·rintro j t K y ⟨rfl,b⟩ d B;obtain⟨a,A,v⟩:=Gz (g:=g) y K;obtain⟨q,E⟩:=aP (l[j]);rw [←E]at v;obtain⟨O,S,F⟩:=eV (M q (by rw [E];exact IS y));refine az (aj ?_);simp [b,d,x,-av,A,v];refine aq (aj ?_);simp [show¬ (q.fs.length:Int)<1 by omega,show¬ (4:Int)<q.fs.length by omega];refine aW (by simp) ?_;apply aj;simp;refine bQ (H:=K) q.fs.length (fun i t J=>J=K∧t.g 1=.c (.ptr 0 0 0)∧t.g 3=vi j∧t.g 4=.c (.f (sl q.tg (bL q.fs)))) (by omega) (by decide) (by simp) ⟨rfl,by simp [b],by simp [d],by simp⟩ ?_ ?_ ?_
  ·rintro i t J L hi ⟨rfl,b,u,s⟩ d z;simp [d,s];exact z _ ⟨rfl,by simp [b],by simp [u],by simp [s]⟩ (by simp [d]) (by simp)
  ·rintro i t J hi ⟨rfl,b,u,s⟩ d B;have N:=abd q.fs[i] (F _ (IS hi));have A:aL J 4 ae (.c (.f (sl q.tg (bL q.fs)))) (vi i)=ab (.c (.f (.fp (bL q.fs).flatten (i*4)))):=by
    have:=cE (H:=J) (g:=q.tg) (rows:=bL q.fs) (sz:=4) (k:=.i64) (i:=(i:Int)) (by omega) (by simp;omega);simpa using this
   have v:aV J (ab 4) (.c (.f (.fp (bL q.fs).flatten (i*4))))=ab (.a (q.fs[i].row.map .f)):=ez (fj q.fs) (mq hi);refine az (aj ?_);simp [s,d,A,v,-av,N];exact al (by simp) (aH (aw (B _ _ ⟨rfl,by simp [b],by simp [u],by simp [s]⟩ (by simp [d]))))
  ·rintro t J ⟨rfl,b,u,s⟩ -;exact aw (B _ _ ⟨rfl,by simp [b]⟩ (by simp [u]))
 ·rintro t K ⟨rfl,b⟩ d;apply aj;simp;refine aE (I _ _ ?_);simp)
theorem aba(g:Tg)(l:List dQ)(h:mY l=ag)(d:Int)(F:0≤d)(N:Day d):bB tab.get 56 [.a [.f (sl g (bj l))],vi d]=Eq (vb (ji l d)):=bB.eq (by
 obtain⟨c,M⟩:=oE h;have U:=abb g l h;have O:ji l d=l.any fun t=>Bw t.fs d:=by unfold ji;rw [h,Bool.true_and]
 rw [O];refine bI rfl rfl fun Q A=>?_;apply aj;simp;obtain⟨H0,b⟩:=aP ([.box [.f (sl g (bj l))] 0]:an);have z:aV H0 ae (.c (.ptr 0 0 0))=ab (.c (.f (sl g (bj l)))):=by rw [b];rfl
 have I:aV H0 (ab 1) (.c (.ptr 0 0 0))=ab (.a [.f (sl g (bj l))]):=by rw [b];rfl
 rw [←b];clear b;refine aq (aj ?_);simp [I,-av,U];refine aW (by simp) ?_;refine aq (aj ?_);simp;refine bQ (H:=H0) l.length (fun j t K=>K=H0∧t.g 1=vi d∧t.g 2=.c (.ptr 0 0 0)∧(l.any fun t=>Bw t.fs d)=(l.drop j).any fun t=>Bw t.fs d) (by omega) (by decide) (by simp) ⟨rfl,by simp,by simp,by simp⟩ ?_ ?_ ?_
 ·rintro j t K L v ⟨rfl,u,m,hi⟩ s S;simp [s,m,z,-av];exact S _ ⟨rfl,by simp [u],by simp [m],hi⟩ (by simp [s]) (by simp)
 ·rintro j t K v ⟨rfl,u,m,hi⟩ s X;obtain⟨a,W,E⟩:=Gz (g:=g) v K;obtain⟨q,y⟩:=aP (l[j]);rw [←y]at E;obtain⟨Y,Z,J⟩:=eV (M q (by rw [y];exact IS v));have x:=amm q.tg q.fs (by omega) J d F N;rw [at5 v,←y,List.any_cons]at hi;refine az (aj ?_);simp [u,m,s,z,-av,W,E,x];cases B:Bw q.fs d
  ·refine al (by simp) (aH (aw (X _ _ ⟨rfl,by simp [u],by simp [m],?_⟩ (by simp [s]))));rw [hi,B,Bool.false_or]
  ·refine ak (by simp) (aj ?_);simp;refine aE (A _ _ ?_);rw [hi,B,Bool.true_or];simp
 ·rintro t K ⟨rfl,u,m,hi⟩ s;apply aj;simp;refine aE (A _ _ ?_);rw [hi];simp)
theorem NF{z:ZD}{o:List bA}(h:dB z o){s:bW}(hs:s.np)(g:Tg){ts:List dQ}(hm:mY ts=ag){fr:Int}{n:Nat}(f0:0≤fr)(f1:fr+n≤300)(hn:n≤65) :
  ∃(g':Tg) (l:List fB),l.Perm (kS h s (ji ts) fr n)∧l.Pairwise jw∧bB tab.get 13 [s.v,.a [.f (sl g (bj ts))],z.v,.a [cI fr,cI (fr+n)]]=Eq (.t [.c (.f (sl g' (bD l))),vi 0]):=by
 obtain⟨rr,⟨g',l,hp,hw,rfl⟩,e_⟩:∃ rr,(∃(g':Tg) (l:List fB),l.Perm (kS h s (ji ts) fr n)∧l.Pairwise jw∧rr=.t [.c (.f (sl g' (bD l))),vi 0])∧bB tab.get 13 [s.v,.a [.f (sl g (bj ts))],z.v,.a [cI fr,cI (fr+n)]] rr:=by
  have b_:=pD hs.ok;have f9:=oh h;have hc:=h.c;have d9:=abb g ts hm;have d8:=dC fr 0 (fr+n) (by omega);have M:=hs.ok.fold;have Y:∀ k:Nat,k<n→0≤s.at_ (fr+k)∧s.at_ (fr+k)≤460000:=fun k hk=>hs.at_ (by omega) (by omega);refine bY rfl rfl fun Q hQ=>?_;apply aj;simp;obtain⟨K,f⟩:=aP ([.box (s.row.map .f) 0,.box [.f (sl g (bj ts))] 0,.box (z.row.map .f) 0,.box [cI fr,cI (fr+n)] 0]:an);have b0:K[0]?=ab (.box (s.row.map .f) 0):=by rw [f];rfl
  have b1:K[1]?=ab (.box [.f (sl g (bj ts))] 0):=by rw [f];rfl
  have b2:K[2]?=ab (.box (z.row.map .f) 0):=by rw [f];rfl
  have a:K[3]?=ab (.box [cI fr,cI (fr+n)] 0):=by rw [f];rfl
  have g_:K.length=4:=by rw [f];rfl
  rw [←f];clear f;have e7:∀ {J:an},J[0]?=ab (.box (s.row.map .f) 0)→aV J (ab 7) (.c (.ptr 0 0 0))=ab s.v:=fun N=>by obtain⟨-,-,-,-,-,-,-,e⟩:=gv N;exact e
  have e1:∀ {J:an},J[1]?=ab (.box [.f (sl g (bj ts))] 0)→aV J (ab 1) (.c (.ptr 1 0 0))=ab (.a [.f (sl g (bj ts))]):=fun N=>by simp [aV,N,aF,aK]
  have e8:∀ {J:an},J[2]?=ab (.box (z.row.map .f) 0)→aV J (ab 8) (.c (.ptr 2 0 0))=ab z.v:=fun N=>cA N hc;have w0:∀ {J:an},J[3]?=ab (.box [cI fr,cI (fr+n)] 0)→aV J ae (.c (.ptr 3 0 0))=ab (vi fr):=fun N=>by simp [aV,N,aF,aK]
  have w1:∀ {J:an},J[3]?=ab (.box [cI fr,cI (fr+n)] 0)→aV J ae (.c (.ptr 3 1 0))=ab (vi (fr+n)):=fun N=>by simp [aV,N,aF,aK]
  have wn:IntKind.i64.wrap (fr+n-fr)=n:=by rw [aN];omega
  refine aq (aj ?_);simp [e7 b0,e1 b1,e8 b2,w0 a,w1 a,-av,b_,f9,d9,d8,show¬ (1099511627776:Int)<fr+n by omega];refine aW (by simp) ?_;refine aq (aj ?_);simp [w0 a,w1 a,-av,wn,show¬ (4000:Int)<n by omega];refine aW (by simp) ?_;apply aj;simp;refine aq (aj ?_);simp [w0 a,-av];refine az (bG (fun m st=>∃(j:Nat) (c:C) (l:List fB) (t:T) (J:an),st=⟨t,[],J⟩∧j≤n∧m=n-j∧t.g 4=.c (.ptr 0 0 0)∧t.g 5=.c (.ptr 1 0 0)∧t.g 6=.c (.ptr 2 0 0)∧t.g 7=.c (.ptr 3 0 0)∧t.g 10=.c c∧t.g 11=vi (fr+j) ∧
    LR J c 3 (bD l)∧l.Perm (kS h s (ji ts) fr j)∧l.Pairwise jw∧(∀(i:Nat) (y:c6),K[i]?=ab y→J[i]?=ab y)∧(∀ b,aX c=ab b→4≤b)) n
   ⟨0,.f .es,[],_,K,rfl,by omega,rfl,by simp,by simp,by simp,by simp,by simp,by simp,.inl ⟨rfl,.inr rfl⟩,.refl _,List.Pairwise.nil,fun _ _ h=>h,fun b Y=>by simp [aX]at Y⟩ ?_)
  rintro m st ⟨j,c,l,t,J,rfl,N,rfl,O,S,U,W,g10,v,B,u,F,q,E⟩ ih;have h_:=qG (h:=h) (s:=s) (p:=ji ts) (fr:=fr) M (n:=j) fun k hk=>Y k (by omega);have a_:=u.length_eq;refine aq (aj ?_);simp [W,v,w1 (q _ _ a),-av];by_cases X:j<n
  ·refine ak (by simp [X]) (aH ?_);have a7:=aba g ts hm (fr+j) (by omega) (show fr+(j:Int)≤2305843009213693952 by omega);obtain⟨tg,b9⟩:=agt h hs (d:=fr+j) (by omega) (by omega);have wj:IntKind.i64.wrap (fr+(j:Int)+1)=fr+((j+1:Nat):Int):=by rw [aN];omega
   refine aq (az (aq (aj ?_)));simp [S,v,e1 (q _ _ b1),-av,a7];cases hp:ji ts (fr+j)
   ·refine ak (by simp) (bf rfl (au (.inl rfl) ?_));simp [v,wj];refine ih (n-(j+1)) _ (by omega) ⟨j+1,c,l,_,J,rfl,by omega,rfl,by simp [O],by simp [S],by simp [U],by simp [W],by simp [g10],by simp,B,?_,F,q,E⟩;rw [kS,hp,aY (by decide),List.append_nil];exact u
   ·have d_:=zq (h:=h) (s:=s) (d:=fr+j) M (Y j X).1 (Y j X).2;obtain⟨L,hL⟩:=aP (vz h s (fr+j));rw [←hL]at b9 d_;refine aW (by simp) ?_;apply aj;simp [O,U,v,e7 (q _ _ b0),e8 (q _ _ b2),-av,b9];apply aj;simp;refine bQ L.length (fun i t J=>∃(c:C) (l:List fB),t.g 4=.c (.ptr 0 0 0)∧t.g 5=.c (.ptr 1 0 0)∧t.g 6=.c (.ptr 2 0 0)∧t.g 7=.c (.ptr 3 0 0)∧t.g 10=.c c∧t.g 11=vi (fr+j)∧t.g 12=.c (.f (sl tg (bD L))) ∧
      LR J c 3 (bD l)∧l.Perm (kS h s (ji ts) fr j++L.take i)∧l.Pairwise jw∧(∀(i:Nat) (y:c6),K[i]?=ab y→J[i]?=ab y)∧(∀ b,aX c=ab b→4≤b)) (by omega) (by decide) (by simp)
     ⟨c,l,by simp [O],by simp [S],by simp [U],by simp [W],by simp [g10],by simp [v],by simp,B,by simpa using u,F,q,E⟩ ?_ ?_ ?_
    ·rintro i t J A hi ⟨c,l,O,S,U,W,g10,v,I,B,u,F,q,E⟩ r hn;simp [r,I];exact hn _ ⟨c,l,by simp [O],by simp [S],by simp [U],by simp [W],by simp [g10],by simp [v],by simp [I],B,u,F,q,E⟩ (by simp [r]) (by simp)
    ·rintro i t J hi ⟨c,l,O,S,U,W,g10,v,I,B,u,F,q,E⟩ r nx;obtain⟨x,hx⟩:=aP (L[i]);have i1:=DT (H:=J) (g:=tg) (l:=L) (j:=i) hi (by omega);have c9:=aac (H:=J) (l:=L) hi;rw [←hx]at c9;have a_:l.length≤1000:=by
      have:=u.length_eq;simp at this;omega
     obtain⟨oo,c',H',Z,d6,d5,c_,w⟩:=DX B a_ x;have d7:=d6.eq;have f_:4≤J.length:=by
      have:=ax (q _ _ a);omega
     refine az (au (.inl rfl) ?_);simp [g10,I,r,i1,c9,-av,d7];refine aw ?_;refine nx _ _ ⟨c',oo,by simp [O],by simp [S],by simp [U],by simp [W],by simp,by simp [v],by simp [I],d5,?_,Z.sorted F,fun k y hy=>c_.2 k y (q k y hy) fun e=>?_,fun b Y=>?_⟩ (by simp [r])
     ·refine Z.perm.trans ?_;rw [at0 hi,←hx,←List.append_assoc];exact u.append_right [x]
     ·have h4:=E k e;have hk:k<K.length:=ax hy;omega
     ·rcases w with e | ⟨k,e,hk⟩
      ·exact E b (by rw [←e];exact Y)
      ·rw [Y]at e;cases e;omega
    ·rintro t J ⟨c,l,O,S,U,W,g10,v,I,B,u,F,q,E⟩ r;rw [aul]at u;refine aw (au (.inl rfl) ?_);simp [v,wj];refine ih (n-(j+1)) _ (by omega) ⟨j+1,c,l,_,J,rfl,by omega,rfl,by simp [O],by simp [S],by simp [U],by simp [W],by simp [g10],by simp,B,?_,F,q,E⟩;rw [kS,hp,bg rfl,←hL];exact u
  ·have a9:j=n:=by omega
   subst a9;have b7:=B.len;rw [uB]at b7;obtain⟨g',hx⟩:=mf B (cU _);refine al (by simp [X]) (bf rfl ?_);refine aq (aj ?_);simp [g10,b7,show¬ (4096:Int)<l.length by omega];refine aW (by simp) ?_;apply aj;simp [g10];refine aE (hQ _ _ _ ⟨g',l,u,F,rfl⟩ ⟨rfl,.t [.c c,vi 0],?_,?_⟩)
   ·simp [Km.results,bw,aZ]
   ·simp [fZ,bX,aZ,hx]
 exact⟨g',l,hp,hw,e_.eq⟩
theorem FO{z:ZD}{o:List bA}(O:dB z o){s:bW}(x:s.np){tg:Tg}{ts:List dQ}(Z:mY ts=ag){fr n:Nat}(a7:fr≤99)(hn:n≤59)
  {Q:Option ay→St→Prop} (p:∀ j st,mW [.tmp (Km.P.nat 6)] (vb ag) st→Q j st) (t:T) (K:an)
  (a:K[3]?=ab (.box (s.row.map .f) 0)) (c:K[4]?=ab (.box (z.row.map .f) 0)) (f:K[5]?=ab (.box [.f (sl tg (bj ts))] 0))
  (i:t.g 7=vb ag) (X:t.g 8=.c (.ptr 3 0 0)) (Y:t.g 9=.c (.ptr 4 0 0)) (g10:t.g 10=.c (.ptr 5 0 0)) (m:t.g 11=vi fr) (q:t.g 12=vi ((fr:Int)+n)) :
  WP tab.get 0 ae [.code Af] ⟨t,[],K⟩ Q:=by
 have w:=O.c;have d:=x.ok.fold;have b:∀ k:Nat,k<n→0≤s.at_ ((fr:Int)+k)∧s.at_ ((fr:Int)+k)≤460000:=fun k hk=>x.at_ (by omega) (by omega);obtain⟨c1,h,K1,E,A,l,M,g,r⟩:=agf O x tg Z (fr:=(fr:Int)) (n:=n) (by omega) (by omega) (by omega) K;obtain⟨g',y,I,N,F⟩:=NF O x tg Z (fr:=(fr:Int)) (n:=n) (by omega) (by omega) (by omega);have v:h.Pairwise gk:=xw M (l.symm.nodup (u5 b));have he:y=h:=FK v N (I.trans l.symm);subst he;have a9:y.length≤2*n:=by
  rw [l.length_eq];exact qG d b
 have H:=E.eq;obtain⟨gx,B⟩:=mf A (cU y);have L:=abi gx g' y (by omega);have U:∀ {J:an},J[3]?=ab (.box (s.row.map .f) 0)→aV J (ab 7) (.c (.ptr 3 0 0))=ab s.v:=fun u=>by obtain⟨-,-,-,-,-,-,-,e⟩:=gv u;exact e
 have W:∀ {J:an},J[4]?=ab (.box (z.row.map .f) 0)→aV J (ab 8) (.c (.ptr 4 0 0))=ab z.v:=fun u=>cA u w;have S:∀ {J:an},J[5]?=ab (.box [.f (sl tg (bj ts))] 0)→aV J (ab 1) (.c (.ptr 5 0 0))=ab (.a [.f (sl tg (bj ts))]):=fun u=>by simp [aV,u,aF,aK]
 apply aj;simp [X,Y,g10,m,q,U a,W c,S f,-av,H];apply aj;simp [X,Y,g10,m,q,U (g _ _ a),W (g _ _ c),S (g _ _ f),-av,F];apply aj;simp [i,B,L];refine aE (p _ _ ?_);simp
theorem zd(amn:bB tab.get 1 [] (vb ag)){x:rm}(Z:x.OK){y:ja}(hy:y.OK){E F nc d:GI}(ha:o7 E)(hb:o7 F)(b7:o7 nc)(hd:o7 d) :
  bB tab.get 0 [.a (x.row.map .f),.a (y.row.map .f),.a ((b4 E F nc d).map .f)] (vb ag):=by
 obtain⟨s,hs,Y⟩:=NQ (cals:=2) (.inr rfl) Z;rw [show((2:Nat):Int)=2 from rfl]at Y;obtain⟨z,o,w,a9⟩:=NP hy;obtain⟨tg,ts,hm,h⟩:=aaj .fs (l:=[E,F,nc]) (by simp) (by
  intro b W;simp at W;rcases W with rfl | rfl | rfl<;>assumption)
 have r:=amn.eq;have hc:=w.c;have a7:=ZD.tq hc;refine bI rfl rfl fun Q hQ=>?_;apply aj;simp;apply aj;simp [r];obtain⟨N,g⟩:=aP ([.box (x.row.map .f) 0,.box (y.row.map .f) 0,.box ((b4 E F nc d).map .f) 0]:an);have a0:N[0]?=ab (.box (x.row.map .f) 0):=by rw [g];rfl
 have a1:N[1]?=ab (.box (y.row.map .f) 0):=by rw [g];rfl
 have a2:N[2]?=ab (.box ((b4 E F nc d).map .f) 0):=by rw [g];rfl
 have L:N.length=3:=by rw [g];rfl
 rw [←g];have lx:aV N (ab 6) (.c (.ptr 0 0 0))=ab (.a (x.row.map .f)):=by simp [aV,a0,aF,aK,rm.row]
 have k:s.row.length=7:=rfl;apply aj;simp [lx,-av,Y,k,L];obtain⟨O,u⟩:=aP (N++[.box (s.row.map .f) 0]:an);have c1:O[1]?=ab (.box (y.row.map .f) 0):=by rw [u,AI (ax a1)];exact a1
 have c2:O[2]?=ab (.box ((b4 E F nc d).map .f) 0):=by rw [u,AI (ax a2)];exact a2
 have c3:O[3]?=ab (.box (s.row.map .f) 0):=by rw [u,←L];simp
 have M:O.length=4:=by rw [u];simp [L]
 rw [←u];have ly:aV O (ab 14) (.c (.ptr 1 0 0))=ab (.a (y.row.map .f)):=by simp [aV,c1,aF,aK,ja.row]
 apply aj;simp [ly,-av,a9,a7,M];obtain⟨I,v⟩:=aP (O++[.box (z.row.map .f) 0]:an);have a:I[2]?=ab (.box ((b4 E F nc d).map .f) 0):=by rw [v,AI (ax c2)];exact c2
 have d3:I[3]?=ab (.box (s.row.map .f) 0):=by rw [v,AI (ax c3)];exact c3
 have d4:I[4]?=ab (.box (z.row.map .f) 0):=by rw [v,←M];simp
 have f:I.length=5:=by rw [v];simp [M]
 rw [←v];clear v u g;apply aj;have a_:jt I 4 1 (.c (.ptr 2 0 0)) ae (ab (vi 3)) ae=ab (.c (.sl 2 0 3 4 0 1)):=by simp [jt,a];rfl
 have e:db deep I (.sl 2 0 3 4 0 1)=ab (sl .fs (fD [E,F,nc])):=by
  show db (63+1) I _=_;rw [jf,a];rfl
 obtain⟨S,A⟩:=aP (I.set 2 (.box ((b4 E F nc d).map .f) 3):an);have i:iG deep (.sl 2 0 3 4 0 1) I=S:=by
  rw [A];simp only [deep,BI,a];rw [oz]
  ·rfl
  ·intro x Z;have Z:=List.mem_of_mem_drop (List.mem_of_mem_take Z);obtain⟨m,_,rfl⟩:=List.mem_map.1 Z;exact⟨_,rfl⟩
 have e2:S[2]?=ab (.box ((b4 E F nc d).map .f) 3):=by rw [A];exact List.getElem?_set_self (ax a)
 have e3:S[3]?=ab (.box (s.row.map .f) 0):=by rw [A,By (by decide)];exact d3
 have e4:S[4]?=ab (.box (z.row.map .f) 0):=by rw [A,By (by decide)];exact d4
 have X:S.length=5:=by rw [A];simp [f]
 clear A;simp [a_,e,i,h,X];obtain⟨U,B⟩:=aP (S++[.box [.f (sl tg (bj ts))] 0]:an);have f2:U[2]?=ab (.box ((b4 E F nc d).map .f) 3):=by rw [B,AI (ax e2)];exact e2
 have f3:U[3]?=ab (.box (s.row.map .f) 0):=by rw [B,AI (ax e3)];exact e3
 have f4:U[4]?=ab (.box (z.row.map .f) 0):=by rw [B,AI (ax e4)];exact e4
 have f5:U[5]?=ab (.box [.f (sl tg (bj ts))] 0):=by rw [B,←X];simp
 rw [←B];clear B;apply aj;simp;have i3:∀ K,aL K 1 (ab 4) (.c (.ptr 2 0 0)) (vi 3)=ab (.c (.ptr 2 3 0)):=fun _=>rfl;have c:aV U ae (.c (.ptr 2 3 0))=ab (.c (.f (sl d.1 (bZ d.2)))):=by simp [aV,f2,aF,aK,b4]
 have ix:∀(K:an) (j:Nat) (hj:j<d.2.length),aL K 1 ae (.c (.f (sl d.1 (bZ d.2)))) (vi j)=ab (.c (.f (.fp (bZ d.2).flatten j))):=fun K j hj=>lq hj;have rest:∀(t:T) (p:Nat),p≤99→t.g 5=.c (.ptr 2 0 0)→t.g 7=vb ag→t.g 8=.c (.ptr 3 0 0)→t.g 9=.c (.ptr 4 0 0)→t.g 10=.c (.ptr 5 0 0)→t.g 11=vi p →
   WP tab.get 0 ae [.code Ae] ⟨t,[],U⟩ Q:=by
  intro t p hp g5 g7 g8 g9 g10 J;apply aj;simp [J,aN (n:=(p:Int)+30)];refine aq (aj ?_);simp [g5,i3,c,-av];by_cases h1:1<d.2.length
  ·have i1:=fun K=>ix K 1 (by omega);have b1:=fun K:an=>lu (H:=K) (l:=d.2) (j:=1) (by omega);simp only [Int.natCast_one]at i1;obtain⟨q,q1,rq⟩:=hZ (d.2[1]'(by omega)) (m:=60) (by decide);have w1:=aN (n:=(p:Int)+q);refine ak (by simp;omega) (au (.inl rfl) ?_);simp [g5,J,i3,c,-av,i1,b1,rq,na q (by omega),w1];exact FO w hs (tg:=tg) hm (fr:=p) (n:=q) (by omega) (by omega) hQ _ _ f3 f4 f5 (by simp [g7]) (by simp [g8]) (by simp [g9]) (by simp [g10]) (by simp [J]) (by simp)
  ·refine al (by simp;omega) (aH ?_);exact FO w hs (tg:=tg) hm (fr:=p) (n:=30) (by omega) (by omega) hQ _ _ f3 f4 f5 (by simp [g7]) (by simp [g8]) (by simp [g9]) (by simp [g10]) (by simp [J]) (by simp)
 refine aq (aj ?_);simp [i3,c,-av];by_cases h0:0<d.2.length
 ·have i0:=fun K=>ix K 0 h0;have b0:=fun K:an=>lu (H:=K) (l:=d.2) (j:=0) h0;simp only [au5]at i0;obtain⟨p,p1,rp⟩:=hZ (d.2[0]'h0) (m:=100) (by decide);refine ak (by simp;omega) (au (.inl rfl) ?_);simp [i3,c,-av,i0,b0,rp,na p (by omega)];exact rest _ p (by omega) (by simp) (by simp) (by simp) (by simp) (by simp) (by simp)
 ·refine aW (by simp [aun.1 (show d.2.length=0 by omega)]) ?_;exact rest _ 0 (by omega) (by simp) (by simp) (by simp) (by simp) (by simp) (by simp)
theorem uE(b:List V)(h:sZ Tryz.prog [26,31,61] b):bB tab.get 0 b (vb ag):=by
 obtain⟨z,_,rfl,d,a1,_,rfl,g,A,_,rfl,j,rfl⟩:=h;obtain⟨x,rfl,u⟩:=aa8 d;obtain⟨y,rfl,v⟩:=aa9 g;obtain⟨B,E,nc,F,rfl,l,m,q,s⟩:=ajW j;exact zd amn u v l m q s
end Go.Proofs.YtmbjejcfadllnaaGreat
