/-
  ahd the ow jO and the nP answer, for all arguments of their kind, in the small machine: part 4.
-/
import Derived.Test.YtmbjejcfadllnaaGreatS3
import Derived.Test.YtmbjejcfadllnaaGreatS2
open Option renaming some → aa,none → ab
open Bool renaming true → ae,false → ag
open List renaming getElem?_append_left → At, map_cons → aft, map_nil → apr, getElem_mem → IT, getElem?_eq_getElem → AT, length_eq_zero_iff → asr, take_length → ar8, getElem?_set_self → If, getElem?_set_ne → AI, mem_map → ase, filter_append → asu, filter_eq_self → atj, filter_eq_nil_iff → atc
set_option linter.unusedVariables false
set_option linter.constructorNameAsVariable false
set_option linter.unusedSimpArgs false
set_option linter.unusedSectionVars false
set_option linter.unnecessarySimpa false
set_option maxRecDepth 100000
set_option maxHeartbeats 2000000
namespace Go.Proofs.YtmbjejcfadllnaaGreat
open Go Km
theorem ahL{z:ZD}{o:List bC}(h:dZ z o){lo:Int}(g:∀ a,¬ dj h lo a){r:Option bC}(hr:ea h.S (lo+1080) r) :
  ∃ x,r=aa x∧lo<x.at_+x.off∧∀ r2,ea h.S (x.at_-1) r2→x.at_+offO z r2≤lo:=by
 have s:=h.offO hr;cases r with
 | none=>exact absurd (nH h hr (by omega)) (g _)
 | some x=>
  have l:=h.off hr.1;have e:offO z (aa x)=x.off:=rfl;refine⟨x,rfl,?_,fun r2 b=>?_⟩
  ·rcases Int.lt_or_le lo (x.at_+x.off)with d | d
   ·exact d
   ·exact absurd (nI h hr (by omega) (by omega)) (g _)
  ·rcases Int.lt_or_le lo (x.at_+offO z r2)with d | d
   ·exfalso;have j:=h.offO b;cases r2 with
    | none=>exact g _ (nH h b (by omega))
    | some y=>
     have u:=zC h hr y b.1 b.2.1;have m:=h.off b.1;have q:offO z (aa y)=y.off:=rfl;have:=hr.2.1;exact g _ (nI h b (by omega) (by omega))
   ·exact d
theorem Ls{z:ZD}{o:List bC}(h:dZ z o){lo:Int}(O:0≤lo)(S:lo≤460000){x:bC}{r2:Option bC}(hr:ea h.S (lo+1080) (aa x))(N:lo<x.at_+x.off)(m:ea h.S (x.at_-1) r2)(F:x.at_+offO z r2≤lo) :
  bA tab.get 76 [z.v,vi lo]=Eq (.t [vi x.at_,vi (offO z r2)]):=bA.eq (by
 have A:=h.c;have H:=h.off hr.1;have I:=hr.2.1;have E:=h.offO m;obtain⟨r,y,b⟩:=oq h (t:=lo+1080) (by omega) (by omega);have e:=dV h hr y;subst e;obtain⟨q,v,l⟩:=nG h (t:=x.at_-1) (by omega) (by omega);have e:=dV h m v;subst e;simp [bC.row]at b;refine bG rfl rfl fun Q B=>?_;apply ai;simp;obtain⟨H0,d⟩:=aO ([.box (z.row.map .f) 0]:aj);have z0:H0[0]?=aa (.box (z.row.map .f) 0):=by rw [d];rfl
 have j:H0.length=1:=by rw [d];rfl
 rw [←d];clear d;apply ai;simp [aQ (n:=lo+1080)];refine aB (qi (aB ?_));apply ai;simp [cm z0 A,-an,b,j];obtain⟨s,g⟩:=aO (H0++[.box [.f (fi x.at_),.f (fi x.off)] 0]:aj);have L:s[0]?=aa (.box (z.row.map .f) 0):=by rw [g,At (au z0)];exact z0
 have M:s[1]?=aa (.box [.f (fi x.at_),.f (fi x.off)] 0):=by rw [g,←j];simp
 rw [←g];have u:aU s ab (.c (.ptr 1 0 0))=aa (vi x.at_):=by simp [aU,M,aC,aK]
 have J:=aQ (n:=x.at_-1);have K:=aQ (n:=x.at_+offO z r2);apply ai;simp [cm L A,-an,u,J,l];refine aq (ai ?_);simp [u,-an,K,F];refine ak (by simp) (ai ?_);simp [u,-an];refine aJ (B _ _ ?_);simp)
theorem nW{z:ZD}{o:List bC}(h:dZ z o):bA tab.get 25 [z.v]=Eq (vi 0):=bA.eq (by
 have l:=h.c;have K:=h.st;have c9:=h.ho;have d5:=h.tl;have W:=h.Lp;have a_:z.yr.length=0∨z.yr.length=2:=by rcases h.y with⟨e,-⟩ | ⟨r,q,e,-⟩<;>simp [e]
 have b9:∀ x ∈ z.yr,x.OK:=by
  rcases h.y with⟨e,-⟩ | ⟨r,q,e,hr,hq,-⟩
  ·rw [e];intro x b;cases b
  ·rw [e];intro x b;simp at b;rcases b with rfl | rfl
   ·exact hr
   ·exact hq
 have O:∀ x a,tn o (z.cyc*1440) z.dJ=aa x→a ∈ z.tr→a.at_+2160≤x.at_:=by
  rcases h.y with⟨-,rfl⟩ | ⟨r,q,e,-,-,-,-,b⟩
  ·intro x a b;simp [tn,ij]at b
  ·have:z.cyc=cyc z.c:=by simp [ZD.cyc,e]
   rw [this];exact b
 obtain⟨g,b_⟩:=h.ZG;have U:=kD z l;refine bG rfl rfl fun Q hQ=>?_;apply ai;simp;obtain⟨H0,N⟩:=aO ([.box (z.row.map .f) 0]:aj);rw [←N];have z0:H0[0]?=aa (.box (z.row.map .f) 0):=by rw [N];rfl
 clear N;refine aq (ai ?_);simp [du z0 l,-an,show¬ 512<(z.tr.length:Int) by omega];refine a5 (by simp) ?_;refine aq (ai ?_);have go:∀ t:T,t.g 1=.c (.ptr 0 0 0)→WP tab.get 25 ab [.code AS] ⟨t,[],H0⟩ Q:=by
  intro t d;refine aq (ai ?_);simp;refine bV (H:=H0) z.tr.length (fun j t J=>J[0]?=aa (.box (z.row.map .f) 0)∧t.g 1=.c (.ptr 0 0 0)) (by omega) (by decide) (by simp) ⟨z0,by simp [d]⟩ ?_ ?_ ?_
  ·rintro j t J L I ⟨y,d⟩ v hn;simp [d,v,du y l,-an];exact hn _ ⟨y,by simp [d]⟩ (by simp [v]) (by simp)
  ·rintro j t J I ⟨y,d⟩ v Y;have S:=eF (g:=z.tg) J I;have B:=nQ J I;simp only [bC.row,aft,apr]at B;have b:=h.tb _ (IT I);obtain⟨u,s⟩:=aO (J++[.box [.f (fi z.tr[j].at_),.f (fi z.tr[j].off)] 0]:aj);have F:u[J.length]?=aa (.box [.f (fi z.tr[j].at_),.f (fi z.tr[j].off)] 0):=by rw [s];simp
   have E:u[0]?=aa (.box (z.row.map .f) 0):=by rw [s,At (au y)];exact y
   refine aB ?_;apply ai;simp [d,v,S,B,du y l,-an];rw [←s];have la:aU u ab (.c (.ptr J.length 0 0))=aa (vi z.tr[j].at_):=by simp [aU,aC,F,aK]
   have lo:aU u ab (.c (.ptr J.length 1 0))=aa (vi z.tr[j].off):=by simp [aU,aC,F,aK]
   have Z:=gT (n:=z.tr[j].off) (m:=1080) (by decide) (by decide) b.2.2.1 b.2.2.2;have wa:=gT (n:=z.tr[j].at_) (m:=2251799813685248) (by decide) (by decide) (by omega) (by omega);apply ai;by_cases p:j=0
   ·subst p;simp [d,v,la,lo,Z,wa,fF E l,-an,show¬ z.dJ≤z.tr[0].at_ by omega];refine al (by simp) (aL (aw ?_));exact Y _ _ ⟨E,by simp [d]⟩ (by simp [v])
   ·obtain⟨k,rfl⟩:∃ k,j=k+1:=⟨j-1,by omega⟩
    have f:=eF (g:=z.tg) u (show k<z.tr.length by omega);have w:=mI u (show k<z.tr.length by omega);have hs:=h.ts k _ _ (AT (by omega)) (AT I);have d6:=h.tb _ (IT (show k<z.tr.length by omega));have wk:IntKind.i64.wrap (k:Nat)=(k:Nat):=aQ;have wd:=aQ (n:=z.tr[k+1].at_-z.tr[k].at_);simp [d,v,la,lo,Z,wa,fF E l,du E l,-an,show¬ z.dJ≤z.tr[k+1].at_ by omega,wk,f,w,wd,show¬ z.tr[k+1].at_-z.tr[k].at_<2160 by omega,show(0:Int)<(k:Int)+1 by omega];refine al (by simp) (aL (aw ?_));exact Y _ _ ⟨E,by simp [d]⟩ (by simp [v])
  clear z0;rintro t J ⟨z0,d⟩ v;refine aq (ai ?_);simp;refine bV (H:=J) z.yr.length (fun j t J=>J[0]?=aa (.box (z.row.map .f) 0)∧t.g 1=.c (.ptr 0 0 0)) (by omega) (by decide) (by simp) ⟨z0,by simp [d]⟩ ?_ ?_ ?_
  ·clear d v z0;rintro j t J L I ⟨y,d⟩ v hn;simp [d,v,eQ y l,-an];exact hn _ ⟨y,by simp [d]⟩ (by simp [v]) (by simp)
  ·clear d v z0;rintro j t J I ⟨y,d⟩ v Y;have S:aP J 5 ab (.c (.f (sl z.yg (bP z.yr)))) (vi j)=aa (.c (.f (.fp (bP z.yr).flatten (j*5)))):=by
    have:=c5 (H:=J) (g:=z.yg) (rows:=bP z.yr) (sz:=5) (k:=.i64) (i:=(j:Int)) (by omega) (by simp;omega);simpa using this
   have B:aU J (aa 5) (.c (.f (.fp (bP z.yr).flatten (j*5))))=aa (.a (z.yr[j].row.map .f)):=fM (iH z.yr) (sm I);have b:=b9 _ (IT I);obtain⟨u,s⟩:=aO (J++[.box (z.yr[j].row.map .f) 0]:aj);have E:u[0]?=aa (.box (z.row.map .f) 0):=by rw [s,At (au y)];exact y
   have F:u[J.length]?=aa (.box (z.yr[j].row.map .f) 0):=by rw [s];simp
   have l0:aU u ab (.c (.ptr J.length 0 0))=aa (vi z.yr[j].mo):=by simp [aU,aC,F,aK,ey.row]
   have l1:aU u ab (.c (.ptr J.length 1 0))=aa (vi z.yr[j].wk):=by simp [aU,aC,F,aK,ey.row]
   have l2:aU u ab (.c (.ptr J.length 2 0))=aa (vi z.yr[j].wd):=by simp [aU,aC,F,aK,ey.row]
   have l3:aU u ab (.c (.ptr J.length 3 0))=aa (vi z.yr[j].mi):=by simp [aU,aC,F,aK,ey.row]
   have l4:aU u ab (.c (.ptr J.length 4 0))=aa (vi z.yr[j].off):=by simp [aU,aC,F,aK,ey.row]
   obtain⟨cs,lm⟩:=DR E l;simp only [ey.row,aft,apr]at s B;refine aB ?_;apply ai;simp [d,v,S,B,eQ y l,-an];rw [←s];have Z:=gT (n:=z.yr[j].off) (m:=1080) (by decide) (by decide) b.of0 b.of;apply ai;have a9:bH u (.f (.fs cs 2))=aa 2:=rfl;have f1:¬ z.yr[j].mo<1:=by have:=b.mo;omega
   have f2:¬ 2<z.yr[j].mo:=by have:=b.mo;omega
   have f3:¬ z.yr[j].wk<1:=by have:=b.wk;omega
   have f4:¬ 5<z.yr[j].wk:=by have:=b.wk;omega
   have f5:¬ z.yr[j].wd<0:=by have:=b.wd0;omega
   have f6:¬ 6<z.yr[j].wd:=by have:=b.wd;omega
   have f7:¬ z.yr[j].mi<0:=by have:=b.mi0;omega
   have f8:¬ 1439<z.yr[j].mi:=by have:=b.mi;omega
   simp [d,l0,l1,l2,l3,l4,lm,Z,-an,f1,f2,f3,f4,f5,f6,f7,f8,a9];refine al (by simp) (aL (aw ?_));exact Y _ _ ⟨E,by simp [d]⟩ (by simp [v])
  clear d v z0;rintro t J ⟨z0,d⟩ v;apply ai;simp [d,cm z0 l,-an,b_];refine aq (ai ?_);simp;refine a5 (by simp) ?_;have A:∀(t:T) (J:aj),WP tab.get 25 ab [.code tX] ⟨t,[],J⟩ Q:=by
   intro t J;apply ai;simp;refine aJ (hQ _ _ ?_);simp
  rcases Nat.eq_zero_or_pos o.length with c | o0
  ·have c:o=[]:=asr.1 c;subst c;have O:=ug g z.cyc z.dJ;apply ai;simp [d,cm z0 l,fF z0 l,-an,U,O];refine aq (ai ?_);simp;refine a5 (by simp) ?_;exact A _ _
  ·have d3:=h.len;obtain⟨x,b,M⟩:=uh g o o0 (by omega) (fun x b=>(h.bd x b).1) z.cyc z.dJ W.1 (by omega) (by omega) (by omega);have d7:=Fc (fun x b=>(h.bd x b).1) h.sp (by omega) (by omega) (by omega) (by omega) b;simp only [bC.row,aft,apr]at M;apply ai;simp [d,cm z0 l,fF z0 l,-an,U,M];obtain⟨u,s⟩:=aO (J++[.box [.f (fi x.at_),.f (fi x.off)] 0]:aj);rw [←s];have E:u[0]?=aa (.box (z.row.map .f) 0):=by rw [s,At (au z0)];exact z0
   have F:u[J.length]?=aa (.box [.f (fi x.at_),.f (fi x.off)] 0):=by rw [s];simp
   have la:aU u ab (.c (.ptr J.length 0 0))=aa (vi x.at_):=by simp [aU,aC,F,aK]
   refine aq (ai ?_);by_cases X:z.tr=[]
   ·simp [d,du E l,-an,X];refine a5 (by simp) ?_;exact A _ _
   ·have a8:0<z.tr.length:=List.length_pos_iff.2 X;have ii:=eF (g:=z.tg) u (show z.tr.length-1<z.tr.length by omega);have il:=mI u (show z.tr.length-1<z.tr.length by omega);have c_:=h.tb _ (IT (show z.tr.length-1<z.tr.length by omega));have e1:IntKind.i64.wrap ((z.tr.length:Int)-1)=((z.tr.length-1:Nat):Int):=by rw [aQ];omega
    have e2:=aQ (n:=x.at_-z.tr[z.tr.length-1].at_);have hd:=O x _ b (IT (show z.tr.length-1<z.tr.length by omega));simp [d,du E l,-an,a8,e1,e2,ii,il,la,show¬ x.at_-z.tr[z.tr.length-1].at_<2160 by omega];refine a5 (by simp) ?_;exact A _ _
 rcases a_ with hy | hy
 ·simp [gZ z0 l,rQ z0 l,fF z0 l,eQ z0 l,-an,sj l,gT (n:=z.start) (m:=1080) (by decide) (by decide) K.1 K.2,gT (n:=z.dJ) (m:=2251799813685248) (by decide) (by decide) (by omega) (by omega),hy];exact al (by simp) (aL (go _ (by simp)))
 ·simp [gZ z0 l,rQ z0 l,fF z0 l,eQ z0 l,-an,sj l,gT (n:=z.start) (m:=1080) (by decide) (by decide) K.1 K.2,gT (n:=z.dJ) (m:=2251799813685248) (by decide) (by decide) (by omega) (by omega),hy];exact al (by simp) (aL (go _ (by simp))))
theorem vZ{z:ZD}{o:List bC}(h:dZ z o){lo:Int}(l0:0≤lo)(l1:lo≤460000){cF fold:Int}(b9:0≤cF)(b_:cF≤2)(a9:0≤fold)(a_:fold≤2) :
  ∃ I:Tg,bA tab.get 33 [z.v,vi lo,vi cF,vi fold]=Eq (.t [.c (.f (sl I (ints (uS h lo cF fold)))),vi 0]):=by
 obtain⟨rr,⟨I,rfl⟩,hp⟩:∃ rr,(∃ I:Tg,rr=.t [.c (.f (sl I (ints (uS h lo cF fold)))),vi 0])∧bA tab.get 33 [z.v,vi lo,vi cF,vi fold] rr:=by
  have f:=h.c;have hv:=nW h;obtain⟨A,B⟩:=DE h l0 l1;obtain⟨l,e,b,k⟩:=LL h l0 l1;rw [zi k]at B;rw [k.ins cF fold];have c_:=k.len;have c9:=k.bd;refine bQ rfl rfl fun Q hQ=>?_;apply ai;simp;obtain⟨H0,K⟩:=aO ([.box (z.row.map .f) 0]:aj);rw [←K];have z0:H0[0]?=aa (.box (z.row.map .f) 0):=by rw [K];rfl
  clear K;refine aq (ai ?_);simp [cm z0 f,-an,hv,gT (n:=lo) (m:=2251799813684168) (by decide) (by decide) (by omega) (by omega),show¬ cF<0 by omega,show¬ 2<cF by omega,show¬ fold<0 by omega,show¬ 2<fold by omega];refine a5 (by simp) ?_;apply ai;simp [cm z0 f,-an,B];have d:bH H0 (.f (sl A (ints l)))=aa l.length:=by simp
  have ix:∀(j:Nat) (n:Int),j<l.length→n=j→aP H0 1 ab (.c (.f (sl A (ints l)))) (vi n)=aa (.c (.f (.fp (ints l).flatten j))):=fun j n hj hn=>by
   have:=c5 (H:=H0) (g:=A) (rows:=ints l) (sz:=1) (k:=.i64) (i:=(j:Int)) (by omega) (by simp;omega);subst hn;simpa using this
  have s:∀(t:T) (J:aj) (c:C) (I:Tg) (ks:List cA),t.g 8=.c c→t.g 9=vi 0→c8 deep J c=aa (sl I (ints (fK cF fold lo l e b)))→WP tab.get 33 ab (.code .ret::ks) ⟨t,[],J⟩ Q:=by
   intro t J c I ks g8 g9 B;refine aJ (hQ _ _ _ ⟨I,rfl⟩ ⟨rfl,.t [.c c,vi 0],?_,?_⟩)
   ·simp [Km.results,bs,ba,g8,g9]
   ·simp [fJ,bO,ba,B]
  have F:∀(n:Nat) (v:Int),c8 deep (H0++[.box [.f (fi v)] 0]) (.sl H0.length 0 1 1 0 1)=aa (sl .fs (ints [v])):=fun _ v=>by
   have hb:(H0++[.box [.f (fi v)] 0])[H0.length]?=aa (.box [.f (fi v)] 0):=by simp
   show c8 (63+1) _ _=_;rw [kE,hb];rfl
  by_cases y:l.length=2
  ·have u:l≠[]:=by intro e;rw [e]at y;cases y
   refine aq (ai ?_);by_cases M:fold=0
   ·have i0:=ix 0 0 (by omega) rfl;have Z:aU H0 ab (.c (.f (.fp (ints l).flatten 0)))=aa (vi l[0]):=fW (by omega);have L:fK cF fold lo l e b=[l[0]]:=by
     unfold fK;rw [aZ u,bp M];rcases l with _ | ⟨p,l⟩
     ·exact absurd rfl u
     ·rfl
    simp [d,y,M];refine ak (by simp) (ai ?_);simp [i0,Z,-an];exact s _ _ (.sl H0.length 0 1 1 0 1) .fs _ (by simp) (by simp) (by rw [L];exact F 0 _)
   ·simp [d,y,M];refine al (by simp) (aL (aq (ai ?_)));by_cases X:fold=1
    ·have i0:=ix 1 1 (by omega) rfl;have Z:aU H0 ab (.c (.f (.fp (ints l).flatten 1)))=aa (vi l[1]):=fW (by omega);have L:fK cF fold lo l e b=[l[1]]:=by
      unfold fK;rw [aZ u,aZ M,bp X];rcases l with _ | ⟨p,_ | ⟨q,_ | ⟨w,l⟩⟩⟩
      ·cases y
      ·cases y
      ·rfl
      ·simp at y
     simp [d,y,X];refine ak (by simp) (ai ?_);simp [i0,Z,-an];exact s _ _ (.sl H0.length 0 1 1 0 1) .fs _ (by simp) (by simp) (by rw [L];exact F 0 _)
    ·simp [d,y,X];refine al (by simp) (aL (aq (ai ?_)));simp [d,y];refine ak (by simp) (ai ?_);simp;exact s _ _ (.f (sl A (ints l))) A _ (by simp) (by simp) (by simp [fK,u,M,X])
  ·have S:¬ (l.length:Int)=2:=by omega
   refine aq (ai ?_);simp [d,S];refine al (by simp) (aL (aq (ai ?_)));simp [d,S];refine al (by simp) (aL (aq (ai ?_)));by_cases Y:l.length=1
   ·have u:l≠[]:=by intro e;rw [e]at Y;cases Y
    have L:fK cF fold lo l e b=l:=by
     unfold fK;rw [aZ u];split
     ·exact List.take_of_length_le (by omega)
     ·split
      ·rw [Y];rfl
      ·rfl
    simp [d,Y];refine ak (by simp) (ai ?_);simp;exact s _ _ (.f (sl A (ints l))) A _ (by simp) (by simp) (by simp [L])
   ·have N:l=[]:=asr.1 (by omega);have O:l.length=0:=by omega
    by_cases p0:cF=0
    ·simp [d,O,p0];refine ak (by simp) (ai ?_);simp;exact s _ _ (.f (sl A (ints l))) A _ (by simp) (by simp) (by simp [fK,N,p0])
    ·simp [d,O,p0];refine al (by simp) (aL (ai ?_));obtain⟨r,hr,-⟩:=oq h (t:=lo+1080) (by omega) (by omega);obtain⟨x,rfl,U,W⟩:=ahL h (fun a ha=>by have:=(k.mem a).2 ha;rw [N]at this;cases this) hr;have d3:=h.off hr.1;have d5:=hr.2.1;obtain⟨r2,E,-⟩:=nG h (t:=x.at_-1) (by omega) (by omega);have a8:=Ls h l0 l1 hr U E (W r2 E);obtain⟨rfl,rfl⟩:=k.cF N x r2 hr E (W r2 E) U;simp [cm z0 f,-an,a8];refine aq (ai ?_);by_cases p1:cF=1
     ·simp [p1];refine ak (by simp) (ai ?_);simp [aQ (n:=lo-offO z r2)];exact s _ _ (.sl H0.length 0 1 1 0 1) .fs _ (by simp) (by simp) (by rw [F 0];simp [fK,N,p1])
     ·simp [p1];refine al (by simp) (aL (ai ?_));simp;exact s _ _ (.sl H0.length 0 1 1 0 1) .fs _ (by simp) (by simp) (by rw [F 0];simp [fK,N,p0,p1])
 exact⟨I,hp.eq⟩
theorem D7{s:bf}(E:s.oH){d:Int}(d0:0≤d)(d1:d≤300) :
  bA tab.get 32 [s.v,vi d]=Eq (.t [vi (s.at_ d),vi (s.uX d),vb (!s.dropped d)]):=bA.eq (by
 have o:=E.ok.mi;have p:=E.ml;refine bG rfl rfl fun Q X=>?_;apply ai;simp;obtain⟨H0,v⟩:=aO ([.box (s.row.map .f) 0]:aj);have b0:H0[0]?=aa (.box (s.row.map .f) 0):=by rw [v];rfl
 rw [←v];clear v;refine aq (ai ?_);simp;refine bV s.mv.length (fun j t J=>J[0]?=aa (.box (s.row.map .f) 0)∧t.g 1=vi d∧t.g 2=.c (.ptr 0 0 0)∧dO (s.mv.take j) d=ab) (by omega) (by decide) (by simp)
  ⟨b0,by simp,by simp,by simp [dO]⟩ ?_ ?_ ?_
 ·clear b0;rintro j t J L y ⟨b0,z,u,B⟩ A w;obtain⟨-,-,-,-,-,-,N,-⟩:=cR b0;simp [A,u,N,-an];exact w _ ⟨b0,by simp [z],by simp [u],B⟩ (by simp [A]) (by simp)
 ·clear b0;rintro j t J y ⟨b0,z,u,B⟩ A nx;obtain⟨-,U,W,-,Z,a,N,-⟩:=cR b0;obtain⟨m,b⟩:=aO (s.mv[j]);have l:=E.ok.mo m (by rw [b];exact IT y);have k:=E.mo m (by rw [b];exact IT y);have O:=nz (H:=J) (g:=s.mg) y (by omega);have K:=sE (H:=J) y;rw [←b]at K;have S:m.row.length=5:=rfl;refine aB (ai ?_);simp [u,A,N,-an,O,K,S];obtain⟨q,x⟩:=aO (J++[.box (m.row.map .f) 0]:aj);have Y:q[0]?=aa (.box (s.row.map .f) 0):=by rw [x,At (au b0)];exact b0
  have F:q[J.length]?=aa (.box (m.row.map .f) 0):=by rw [x];simp
  have c:aU q ab (.c (.ptr J.length 0 0))=aa (vi m.day):=by simp [aU,F,aC,aK,aX.row]
  have e:aU q ab (.c (.ptr J.length 1 0))=aa (vb m.drop):=by simp [aU,F,aC,aK,aX.row]
  have f:aU q ab (.c (.ptr J.length 2 0))=aa (vi m.to):=by simp [aU,F,aC,aK,aX.row]
  have h:aU q ab (.c (.ptr J.length 3 0))=aa (vi m.mi):=by simp [aU,F,aC,aK,aX.row]
  have i:aU q ab (.c (.ptr J.length 4 0))=aa (vi m.le):=by simp [aU,F,aC,aK,aX.row]
  rw [←x];have r:0≤m.to∧0≤m.mi:=by
   cases I:m.drop
   ·have:=l.nd I;omega
   ·have:=l.dr I;omega
  have wA:=aQ (n:=m.to*1440);have wB:=aQ (n:=m.to*1440+m.mi);apply ai;simp [z,c,-an];by_cases hd:m.day=d
  ·have M:=sJ (d:=d) E.ok.ms y (by rw [←b];exact hd);rw [←b]at M;refine ak (by simp [hd]) (ai ?_);simp [e,f,h,i,-an,wA,wB];refine aJ (X _ _ ?_);simp [W7,uY,rB,M,atO,loO,drO]
  ·refine al (by simp [hd]) (aL (aw ?_));refine nx _ _ ⟨Y,by simp [z],by simp [u],?_⟩ (by simp [A]);rw [sK E.ok.ms y,aZ (by rw [←b];exact hd)];exact B
 ·clear b0;rintro t J ⟨b0,z,u,B⟩ A;rw [ar8]at B;obtain⟨-,U,W,-,Z,a,N,-⟩:=cR b0;have w1:=aQ (n:=d*1440);have w2:=aQ (n:=d*1440+s.mi);apply ai;simp [z,u,U,W,-an,w1,w2];refine aJ (X _ _ ?_);simp [W7,uY,rB,B,atO,loO,drO])
theorem aei{z:ZD}{o:List bC}(h:dZ z o){s:bf}(J:s.oH){d:Int}(d0:0≤d)(d1:d≤300) :
  ∃ g,bA tab.get 5 [s.v,z.v,vi d]=Eq (.t [.c (.f (sl g (cX (Ec h s d)))),vi 0]):=by
 obtain⟨rr,⟨g,rfl⟩,hp⟩:∃ rr,(∃ g,rr=.t [.c (.f (sl g (cX (Ec h s d)))),vi 0])∧bA tab.get 5 [s.v,z.v,vi d] rr:=by
  have q:=J.at_ d0 d1;have x:=J.ok.cF;have b:=J.ok.fold;have hc:=h.c;have U:=gS J.ok;have b_:=nW h;have a_:=D7 J d0 d1;have a8:=dC d 0 1099511627776 (by omega);refine bQ rfl rfl fun Q hQ=>?_;apply ai;simp;obtain⟨K,W⟩:=aO ([.box (s.row.map .f) 0,.box (z.row.map .f) 0]:aj);have b0:K[0]?=aa (.box (s.row.map .f) 0):=by rw [W];rfl
  have b1:K[1]?=aa (.box (z.row.map .f) 0):=by rw [W];rfl
  rw [←W];clear W;obtain⟨-,-,-,-,e4,e5,-,e7⟩:=cR b0;have z8:aU K (aa 8) (.c (.ptr 1 0 0))=aa z.v:=cm b1 hc;refine aq (ai ?_);simp [e7,z8,-an,U,b_,a8];refine a5 (by simp) ?_;apply ai;simp;apply ai;simp [e7,-an,a_];refine aq (ai ?_);simp;cases E:s.dropped d
  ·refine a5 (by simp) ?_;obtain⟨Y,y⟩:=vZ h q.1 q.2 x.1 x.2 b.1 b.2;obtain⟨I,hI⟩:=aO (uS h (s.at_ d) s.cF s.fold);have Z:=rM h q.1 q.2 (cF:=s.cF) b.1 b.2;have O:=FF h q.1 q.2 (cF:=s.cF) (fold:=s.fold);obtain⟨L,e⟩:=aO (s.uX d);have a9:=J.uX d E;rw [←e]at a9;have b9:Ec h s d=I.map fun a=>⟨d,a,a+L⟩:=by unfold Ec;rw [E,aZ (by decide),←hI,e]
   rw [←hI]at y Z O;rw [←e];apply ai;simp [e4,e5,z8,-an,y];have d3:∀ H:aj,bH H (.f (sl Y (ints I)))=aa I.length:=fun H=>by simp
   refine aq (ai ?_);simp;refine bV I.length (fun j t K=>∃ c,t.g 2=vi d∧t.g 10=vi L∧t.g 12=.c (.f (sl Y (ints I)))∧t.g 13=vi 0∧t.g 8=.c c∧LR K c 3 (cX ((I.take j).map fun a=>⟨d,a,a+L⟩))) (by omega) (by decide) (by simp)
    ⟨.f .es,by simp,by simp,by simp,by simp,by simp,.inl ⟨rfl,.inr rfl⟩⟩ ?_ ?_ ?_
   ·rintro j t K A X ⟨c,M,g10,l,u,N,m⟩ F hn;simp [F,l];exact hn _ ⟨c,by simp [M],by simp [g10],by simp [l],by simp [u],by simp [N],m⟩ (by simp [F]) (by simp)
   ·rintro j t K X ⟨c,M,g10,l,u,N,m⟩ F nx;obtain⟨a,B⟩:=aO (I[j]);have r:=O _ (IT X);rw [←B]at r;have ix:aP K 1 ab (.c (.f (sl Y (ints I)))) (vi j)=aa (.c (.f (.fp (ints I).flatten j))):=by
     have:=c5 (H:=K) (g:=Y) (rows:=ints I) (sz:=1) (k:=.i64) (i:=(j:Int)) (by omega) (by simp;omega);simpa using this
    have lx:aU K ab (.c (.f (.fp (ints I).flatten j)))=aa (vi a):=by rw [B];exact fW X
    have wa:=aQ (n:=a+L);obtain⟨K1,v⟩:=aO (K++[.box ((sS.row ⟨d,a,a+L⟩).map .f) 0]:aj);have p:LR K1 c 3 (cX ((I.take j).map fun a=>⟨d,a,a+L⟩)):=by rw [v];exact m.push _
    have w:K1[K.length]?=aa (.box ((sS.row ⟨d,a,a+L⟩).map .f) 0):=by rw [v];simp
    obtain⟨c',H',S,f,c9,c_⟩:=p.app (ir _) (by decide) (row:=sS.row ⟨d,a,a+L⟩) rfl (bytes:=24) (cC (by simp;omega) (by decide)) w;simp only [sS.row,aft,apr]at v;refine aB (av (.inl rfl) ?_);simp [M,N,g10,l,F,ix,lx,wa];rw [←v];simp [S];refine aw ?_;refine nx _ _ ⟨c',by simp [M],by simp [g10],by simp [l],by simp [u],by simp,?_⟩ (by simp [F]);rw [List.take_succ_eq_append_getElem X,←B,List.map_append];simp only [aft,apr];rw [sD];exact f
   ·rintro t K ⟨c,M,g10,l,u,N,m⟩ F;rw [ar8,←b9]at m;obtain⟨g',hx⟩:=qn m (ir _);apply ai;simp [N,u];refine aJ (hQ _ _ _ ⟨g',rfl⟩ ⟨rfl,.t [.c c,vi 0],?_,?_⟩)
    ·simp [Km.results,bs,ba]
    ·simp [fJ,bO,ba,hx]
  ·refine ak (by simp) (ai ?_);simp;refine aJ (hQ _ _ _ ⟨.es,rfl⟩ ?_);have:Ec h s d=[]:=by unfold Ec;rw [bp E]
   rw [this];simp [sl,cX,Tg.fc]
 exact⟨g,hp.eq⟩
def kY:bf:=⟨.nil,[],0,0,⟨#[]⟩,0,0,.nil,[]⟩
section
variable{s:bf}{d:Int}(hd:¬ (0≤d∧d≤1099511627776))
include hd
theorem aod:bA tab.get 28 [vi d,vi 0,vi 1099511627776]=Eq (vb ag):=by rw [mw,decide_eq_false hd]
theorem ahU:bA tab.get 31 [vi d,vi 0,vi 1099511627776]=Eq (vb ag):=by rw [sB,decide_eq_false hd]
theorem ajT(h:s.OK):bA tab.get 26 [s.v]=Eq (vb ae):=by
 have b:=qI h.ru h.rl (by have:=h.ml;omega) (by have:=h.zo;omega);rw [h.sound]at b;exact b
theorem agO{z:ZD}{o:List bC}(l:dZ z o)(h:s.OK):bA tab.get 4 [s.v,z.v,vi d]=Eq (.t [.c (.f .aF),vi 1]):=bA.eq (by
 have b:=ajT hd h;have v:=aod hd;have j:=yy l;have u:=l.c;refine bG rfl rfl fun Q q=>?_;apply ai;simp;obtain⟨K,g⟩:=aO ([.box (s.row.map .f) 0,.box (z.row.map .f) 0]:aj);have b0:K[0]?=aa (.box (s.row.map .f) 0):=by rw [g];rfl
 have b1:K[1]?=aa (.box (z.row.map .f) 0):=by rw [g];rfl
 rw [←g];clear g;obtain⟨-,-,-,-,-,-,-,m⟩:=cR b0;have x:aU K (aa 8) (.c (.ptr 1 0 0))=aa z.v:=cm b1 u;refine aq (ai ?_);simp [m,x,-an,b,j,v];refine ak (by simp) ?_;apply ai;simp;refine aJ (q _ _ ?_);simp)
theorem Yj{z:ZD}{o:List bC}(l:dZ z o)(h:s.OK):bA tab.get 5 [s.v,z.v,vi d]=Eq (.t [.c (.f .aF),vi 1]):=bA.eq (by
 have b:=gS h;have v:=ahU hd;have j:=nW l;have u:=l.c;refine bG rfl rfl fun Q q=>?_;apply ai;simp;obtain⟨K,g⟩:=aO ([.box (s.row.map .f) 0,.box (z.row.map .f) 0]:aj);have b0:K[0]?=aa (.box (s.row.map .f) 0):=by rw [g];rfl
 have b1:K[1]?=aa (.box (z.row.map .f) 0):=by rw [g];rfl
 rw [←g];clear g;obtain⟨-,-,-,-,-,-,-,m⟩:=cR b0;have x:aU K (aa 8) (.c (.ptr 1 0 0))=aa z.v:=cm b1 u;refine aq (ai ?_);simp [m,x,-an,b,j,v];refine ak (by simp) ?_;apply ai;simp;refine aJ (q _ _ ?_);simp)
theorem aj1(m l j:Int):bA tab.get 39 [.a [cI d,.f (.bool ag),cI m,cI l,cI j]]=Eq (vb ag):=bA.eq (by
 have g:=ahU hd;refine bG rfl rfl fun Q b=>?_;apply ai;simp;refine aq (ai ?_);simp [g];refine ak (by simp) ?_;apply ai;simp;refine aJ (b _ _ ?_);simp)
theorem Yn(h:s.OK)(q m l:Int):bA tab.get 6 [s.v,.a ((aX.row ⟨d,ag,q,m,l⟩).map .f)]=Eq (.t [kY.v,vi 1]):=bA.eq (by
 have j:=ajT hd h;have g:=rU ⟨d,ag,q,m,l⟩;rw [show oP ⟨d,ag,q,m,l⟩=ag by simp only [oP,decide_eq_false hd,Bool.false_and]]at g;refine bG rfl rfl fun Q B=>?_;apply ai;simp;obtain⟨H,b⟩:=aO ([.box (s.row.map .f) 0,.box ((aX.row ⟨d,ag,q,m,l⟩).map .f) 0,.box bB 0]:aj);have b0:H[0]?=aa (.box (s.row.map .f) 0):=by rw [b];rfl
 have b1:H[1]?=aa (.box ((aX.row ⟨d,ag,q,m,l⟩).map .f) 0):=by rw [b];rfl
 have u:H[2]?=aa (.box bB 0):=by rw [b];rfl
 simp only [bB]at b;rw [←b];clear b;obtain⟨-,-,-,-,-,-,-,z⟩:=cR b0;obtain⟨y,-⟩:=ad7 b1;have st:cE H (.ptr 2 0 0) bB=aa (H.set 2 (.box bB 0)):=by simp [cE,u,over,bB]
 have v:(H.set 2 (.box bB 0))[2]?=aa (.box bB 0):=If (au u);obtain⟨K,A⟩:=aO (H.set 2 (.box bB 0):aj);rw [←A]at st v;have x:aU K (aa 7) (.c (.ptr 2 0 0))=aa (.a bB):=by simp [aU,v,aC,aK,bB]
 simp only [bB]at st;refine aq (ai ?_);simp [z,y,-an,j,g];refine ak (by simp) ?_;apply ai;simp [st,-bh];refine aJ (B _ _ ⟨rfl,.t [.a bB,vi 1],?_,?_⟩)
 ·simp [Km.results,bs,ba,x,-an]
 ·simp [fJ,bO,ba,bB,kY,bf.row,sl,aH,aI,Tg.fc])
theorem Ee(h:s.OK)(m l j:Int):bA tab.get 7 [s.v,.a ((aX.row ⟨d,ag,m,l,j⟩).map .f)]=Eq (.t [kY.v,vi 1]):=bA.eq (by
 have g:=gS h;have q:=aj1 hd m l j;refine bG rfl rfl fun Q B=>?_;apply ai;simp;obtain⟨H,b⟩:=aO ([.box (s.row.map .f) 0,.box ((aX.row ⟨d,ag,m,l,j⟩).map .f) 0,.box bB 0]:aj);have b0:H[0]?=aa (.box (s.row.map .f) 0):=by rw [b];rfl
 have b1:H[1]?=aa (.box ((aX.row ⟨d,ag,m,l,j⟩).map .f) 0):=by rw [b];rfl
 have u:H[2]?=aa (.box bB 0):=by rw [b];rfl
 simp only [bB]at b;rw [←b];clear b;obtain⟨-,-,-,-,-,-,-,z⟩:=cR b0;obtain⟨v,-⟩:=ad7 b1;have st:cE H (.ptr 2 0 0) bB=aa (H.set 2 (.box bB 0)):=by simp [cE,u,over,bB]
 have x:(H.set 2 (.box bB 0))[2]?=aa (.box bB 0):=If (au u);obtain⟨K,A⟩:=aO (H.set 2 (.box bB 0):aj);rw [←A]at st x;have y:aU K (aa 7) (.c (.ptr 2 0 0))=aa (.a bB):=by simp [aU,x,aC,aK,bB]
 simp only [bB]at st;simp only [aX.row,aft,apr]at v;refine aq (ai ?_);simp [z,v,-an,g,q];refine ak (by simp) ?_;apply ai;simp [st,-bh];refine aJ (B _ _ ⟨rfl,.t [.a bB,vi 1],?_,?_⟩)
 ·simp [Km.results,bs,ba,y,-an]
 ·simp [fJ,bO,ba,bB,kY,bf.row,sl,aH,aI,Tg.fc])
theorem MG(h:s.OK):bA tab.get 8 [s.v,vi d]=Eq (.t [kY.v,kY.v,vi 1]):=bA.eq (by
 have j:=ajT hd h;have E:=aod hd;refine bG rfl rfl fun Q B=>?_;apply ai;simp;obtain⟨H,b⟩:=aO ([.box (s.row.map .f) 0,.box [cI d] 0,.box bB 0,.box bB 0]:aj);have b0:H[0]?=aa (.box (s.row.map .f) 0):=by rw [b];rfl
 have b1:H[1]?=aa (.box [cI d] 0):=by rw [b];rfl
 have u:H[2]?=aa (.box bB 0):=by rw [b];rfl
 have x:H[3]?=aa (.box bB 0):=by rw [b];rfl
 have st:cE H (.ptr 2 0 0) bB=aa (H.set 2 (.box bB 0)):=by simp [cE,u,over,bB]
 obtain⟨K,m⟩:=aO (H.set 2 (.box bB 0):aj);have F:K[2]?=aa (.box bB 0):=by rw [m];exact If (au u)
 have v:K[3]?=aa (.box bB 0):=by rw [m,AI (by decide)];exact x
 have g:cE K (.ptr 3 0 0) bB=aa (K.set 3 (.box bB 0)):=by simp [cE,v,over,bB]
 obtain⟨L,q⟩:=aO (K.set 3 (.box bB 0):aj);have I:L[2]?=aa (.box bB 0):=by rw [q,AI (by decide)];exact F
 have J:L[3]?=aa (.box bB 0):=by rw [q];exact If (au v)
 have y:aU L (aa 7) (.c (.ptr 2 0 0))=aa (.a bB):=by simp [aU,I,aC,aK,bB]
 have z:aU L (aa 7) (.c (.ptr 3 0 0))=aa (.a bB):=by simp [aU,J,aC,aK,bB]
 rw [←m]at st;rw [←q]at g;simp only [bB]at b st g;rw [←b];clear b;obtain⟨-,-,-,-,-,-,-,A⟩:=cR b0;have l:aU H ab (.c (.ptr 1 0 0))=aa (vi d):=by simp [aU,b1,aC,aK]
 refine aq (aB (ai ?_));simp [A,l,-an,j,E];refine ak (by simp) ?_;apply ai;simp [st,g,-bh];refine aJ (B _ _ ⟨rfl,.t [.a bB,.a bB,vi 1],?_,?_⟩)
 ·simp [Km.results,bs,ba,y,z,-an]
 ·simp [fJ,bO,ba,bB,kY,bf.row,sl,aH,aI,Tg.fc])
theorem Cw(h:s.OK):bA tab.get 9 [s.v,vi d]=Eq (.t [kY.v,kY.v,vi 1]):=bA.eq (by
 have j:=gS h;have B:=ahU hd;refine bG rfl rfl fun Q A=>?_;apply ai;simp;obtain⟨H,g⟩:=aO ([.box (s.row.map .f) 0,.box bB 0,.box bB 0]:aj);have b0:H[0]?=aa (.box (s.row.map .f) 0):=by rw [g];rfl
 have q:H[1]?=aa (.box bB 0):=by rw [g];rfl
 have v:H[2]?=aa (.box bB 0):=by rw [g];rfl
 have st:cE H (.ptr 1 0 0) bB=aa (H.set 1 (.box bB 0)):=by simp [cE,q,over,bB]
 obtain⟨K,l⟩:=aO (H.set 1 (.box bB 0):aj);have E:K[1]?=aa (.box bB 0):=by rw [l];exact If (au q)
 have u:K[2]?=aa (.box bB 0):=by rw [l,AI (by decide)];exact v
 have b:cE K (.ptr 2 0 0) bB=aa (K.set 2 (.box bB 0)):=by simp [cE,u,over,bB]
 obtain⟨L,m⟩:=aO (K.set 2 (.box bB 0):aj);have F:L[1]?=aa (.box bB 0):=by rw [m,AI (by decide)];exact E
 have I:L[2]?=aa (.box bB 0):=by rw [m];exact If (au u)
 have x:aU L (aa 7) (.c (.ptr 1 0 0))=aa (.a bB):=by simp [aU,F,aC,aK,bB]
 have y:aU L (aa 7) (.c (.ptr 2 0 0))=aa (.a bB):=by simp [aU,I,aC,aK,bB]
 rw [←l]at st;rw [←m]at b;simp only [bB]at g st b;rw [←g];clear g;obtain⟨-,-,-,-,-,-,-,z⟩:=cR b0;refine aq (ai ?_);simp [z,-an,j,B];refine ak (by simp) ?_;apply ai;simp [st,b,-bh];refine aJ (A _ _ ⟨rfl,.t [.a bB,.a bB,vi 1],?_,?_⟩)
 ·simp [Km.results,bs,ba,x,y,-an]
 ·simp [fJ,bO,ba,bB,kY,bf.row,sl,aH,aI,Tg.fc])
end
structure akw(s:bf)(z:ZD)(d:Int)(L:List sS)(e ge ie:Int)(g g':Tg)(p q a b c k:bf):Prop where
 ll:L.length≤100
 on:bA tab.get 4 [s.v,z.v,vi d]=Eq (.t [.c (.f (sl g (cX L))),vi e])
 apt:bA tab.get 5 [s.v,z.v,vi d]=Eq (.t [.c (.f (sl g' (cX L))),vi e])
 ov:bA tab.get 6 [s.v,.a ((aX.row ⟨d,ag,3,5,7⟩).map .f)]=Eq (.t [p.v,vi ge])
 apw:bA tab.get 7 [s.v,.a ((aX.row ⟨d,ag,3,5,7⟩).map .f)]=Eq (.t [q.v,vi ge])
 so:bA tab.get 11 [p.v,q.v]=Eq (vb ae)
 sp:bA tab.get 8 [s.v,vi d]=Eq (.t [a.v,b.v,vi ie])
 aqJ:bA tab.get 9 [s.v,vi d]=Eq (.t [c.v,k.v,vi ie])
 s1:bA tab.get 11 [a.v,c.v]=Eq (vb ae)
 s2:bA tab.get 11 [b.v,k.v]=Eq (vb ae)
theorem agu{w:bf}(b:w.OK):∀ x ∈ w.ru,x.d.li.length≤61:=fun x d=>by
 obtain⟨i,hi,rfl⟩:=List.getElem_of_mem d;have:=(b.ru.at_ i (by simpa using hi)).ok.1;simpa using this
theorem XY{l:List aR}(h:∀ y ∈ dN l,y.li.length≤61):∀ x ∈ l,x.d.li.length≤61:=fun x b=>h _ (ase.2 ⟨x,b,rfl⟩)
theorem ye{s p q:bf}{k d:Int}{l:List aX}(v:s.OK)(hr:s.ru.length≤60)(A:l.length≤100)(g:gm p s k d l)(u:gm q s k d l):bA tab.get 11 [p.v,q.v]=Eq (vb ae):=by
 have j:=g.1;have m:p.ru.length=s.ru.length+1:=by have:=congrArg List.length j;simpa using this
 refine sa (g.eqv u) (by omega) (XY fun y b=>?_) (by rw [g.2.2.2.2.2.2];omega);rw [j]at b;rcases List.mem_append.1 b with b | b
 ·obtain⟨x,z,rfl⟩:=ase.1 b;exact agu v x z
 ·simp at b;subst b;simp [Xp]
theorem Lm{l:List aX}{i:Nat}{d:Int}(g:∀ x ∈ l.take i,x.day<d)(j:∀ x ∈ l.drop i,d≤x.day) :
  l.take i=l.filter (fun x=>decide (x.day<d))∧l.drop i=l.filter fun x=>decide (d≤x.day):=by
 have e:l=l.take i++l.drop i:=(List.take_append_drop i l).symm;constructor
 ·conv=>rhs;rw [e]
  rw [asu,atj.2 fun x b=>decide_eq_true (g x b),atc.2 fun x b=>by have:=j x b;simp;omega,List.append_nil]
 ·conv=>rhs;rw [e]
  rw [asu,atc.2 fun x b=>by have:=g x b;simp;omega,atj.2 fun x b=>decide_eq_true (j x b),List.nil_append]
theorem agree{s:bf}{z:ZD}{o:List bC}(u:dZ z o)(j:s.oH)(d:Int)(hd:d≤300∨1099511627776<d):∃ L e S ie g F p q a b c k,akw s z d L e S ie g F p q a b c k:=by
 have w:=j.ml;have b9:=j.rl;by_cases l:0≤d∧d≤1099511627776
 ·have B:d≤300:=by omega
  obtain⟨g,U⟩:=akG u j l.1 B;obtain⟨F,W⟩:=aei u j l.1 B;have J:(⟨d,ag,3,5,7⟩:aX).OK:=⟨(by dsimp only;omega),(fun h=>absurd h (by simp)),(fun _=>by dsimp only;omega)⟩
  obtain⟨p,A,X⟩:=aek j.ok (by omega) J;obtain⟨q,hq,Y⟩:=oQ j.ok (by omega) J;have a9:p.ru.length=s.ru.length:=by have:=congrArg List.length A.ru;simpa using this
  have a_:p.mv.length≤9:=by
   have:=zG (m:=⟨d,ag,3,5,7⟩) j.ok.ms;have e:=A.mv;rw [e];dsimp only;omega
  have Z:=sa (A.trans hq.symm) (by omega) (XY fun y K=>by
   rw [A.ru]at K;obtain⟨x,hx,rfl⟩:=ase.1 K;exact agu j.ok x hx) (by omega)
  obtain⟨i,a,b,hi,M,N,H,I,f⟩:=Zm j.ok (by omega) (by omega) l.1 l.2;obtain⟨c,k,r,t,n⟩:=EM j.ok (by omega) (by omega) l.1 l.2;obtain⟨O,Q⟩:=Lm M N;rw [O]at H;rw [Q]at I;have l1:=fT (fun x:aX=>decide (x.day<d)) s.mv;have l2:=fT (fun x:aX=>decide (d≤x.day)) s.mv;have v:=j.at_ l.1 B;have a8:(Ec u s d).length≤2:=by
   unfold Ec;split
   ·simp
   ·rw [List.length_map];exact rM u v.1 v.2 j.ok.fold.1 j.ok.fold.2
  exact⟨_,_,_,_,_,_,_,_,_,_,_,_,by omega,U,W,X,Y,Z,f,n,ye j.ok (by omega) (by omega) H r,ye j.ok (by omega) (by omega) I t⟩
 ·have E:bA tab.get 11 [kY.v,kY.v]=Eq (vb ae):=sa ⟨rfl,rfl,rfl,rfl,rfl,rfl,rfl⟩ (by simp [kY]) (by simp [kY]) (by simp [kY]);exact⟨[],1,1,1,.nil,.nil,kY,kY,kY,kY,kY,kY,by simp,agO l u j.ok,Yj l u j.ok,Yn l j.ok 3 5 7,Ee l j.ok 3 5 7,E,MG l j.ok,Cw l j.ok,E,E⟩
theorem up2{K b:aj}{B D:cT}(h:b=K++[B,D]):yL K b∧b[K.length]?=aa B∧b[K.length+1]?=aa D∧b.length=K.length+2:=by
 subst h;exact⟨fun i y h=>by rw [At (au h)];exact h,by simp,by simp,by simp⟩
theorem X8(ajO:bA tab.get 1 [] (vb ae)){x:rm}(hx:x.OK){y:ib}(hy:y.OK)(l:Int)(d7:-9223372036854775808≤l)(d8:l≤9223372036854775807) :
  bA tab.get 0 [.a (x.row.map .f),.a (y.row.map .f),vi l] (vb ae):=by
 obtain⟨s,hs,-,r⟩:=L8 (cals:=2) (.inr rfl) hx;rw [show((2:Nat):Int)=2 from rfl]at r;obtain⟨z,o,hz,d6⟩:=L7 hy;have d3:=ajO.eq;have hc:=hz.c;have d5:=ZD.tM hc;have c_:s.row.length=7:=rfl;refine bG rfl rfl fun Q hQ=>?_;apply ai;simp;obtain⟨f,u⟩:=aO ([.box (x.row.map .f) 0,.box (y.row.map .f) 0]:aj);have a0:f[0]?=aa (.box (x.row.map .f) 0):=by rw [u];rfl
 have a1:f[1]?=aa (.box (y.row.map .f) 0):=by rw [u];rfl
 have n:f.length=2:=by rw [u];rfl
 rw [←u];clear u;apply ai;simp [d3];have lx:aU f (aa 6) (.c (.ptr 0 0 0))=aa (.a (x.row.map .f)):=by simp [aU,a0,aC,aK,rm.row]
 apply ai;simp [lx,-an,r,c_,n];obtain⟨K1,F⟩:=aO (f++[.box (s.row.map .f) 0]:aj);obtain⟨j,b2,N⟩:=Gn F;rw [n]at b2 N;have b1:=j _ _ a1;rw [←F];clear F j a0 a1 lx;have ly:aU K1 (aa 14) (.c (.ptr 1 0 0))=aa (.a (y.row.map .f)):=by simp [aU,b1,aC,aK,ib.row]
 apply ai;simp [ly,-an,d6,d5,N];obtain⟨K2,H⟩:=aO (K1++[.box (z.row.map .f) 0]:aj);obtain⟨j,c3,O⟩:=Gn H;rw [N]at c3 O;have c2:=j _ _ b2;rw [←H];clear H j b1 b2 ly;have rest:∀(d:Int) (t:T),(d≤300∨1099511627776<d)→t.g 7=vb ae→t.g 8=.c (.ptr 2 0 0)→t.g 9=.c (.ptr 3 0 0)→t.g 10=vi d→WP tab.get 0 ab [.code Am] ⟨t,[],K2⟩ Q:=by
  intro d t hd g7 Z g9 g10;obtain⟨L,e,ge,ie,g,g',p,q,a,b,c,k,A⟩:=agree hz hs d hd;have a8:=A.on;have a9:=A.apt;have h:=A.ov;have i:=A.apw;have a_:=A.sp;have b9:=A.aqJ;have b_:=Za g g' L (by have:=A.ll;omega);simp only [aX.row,aft,apr]at h i;obtain⟨-,-,-,-,-,-,-,m⟩:=cR c2;have z8:aU K2 (aa 8) (.c (.ptr 3 0 0))=aa z.v:=cm c3 hc;have p7:p.row.length=7:=rfl;have q7:q.row.length=7:=rfl;have a7:a.row.length=7:=rfl;have b7:b.row.length=7:=rfl;have c7:c.row.length=7:=rfl;have k7:k.row.length=7:=rfl;apply ai;simp [Z,g9,g10,m,z8,-an,a8];apply ai;simp [Z,g9,g10,m,z8,-an,a9];apply ai;simp [g10,O];obtain⟨K3,B⟩:=aO (K2++[.box ((aX.row ⟨d,ag,3,5,7⟩).map .f) 0]:aj);obtain⟨j,d4,S⟩:=Gn B;rw [O]at d4 S;have d2:=j _ _ c2;simp only [aX.row,aft,apr]at B;rw [←B];clear B j m z8;obtain⟨Y,-⟩:=ad7 d4;simp only [aX.row,aft,apr]at Y;obtain⟨-,-,-,-,-,-,-,m⟩:=cR d2;apply ai;simp [Z,m,Y,-an,h,p7,S];obtain⟨K4,I⟩:=aO (K3++[.box (p.row.map .f) 0]:aj);obtain⟨j,e5,U⟩:=Gn I;rw [S]at e5 U;have e2:=j _ _ d2;have e4:=j _ _ d4;rw [←I];clear I j m Y;obtain⟨Y,-⟩:=ad7 e4;simp only [aX.row,aft,apr]at Y;obtain⟨-,-,-,-,-,-,-,m⟩:=cR e2;apply ai;simp [Z,m,Y,-an,i,q7,U];obtain⟨K5,J⟩:=aO (K4++[.box (q.row.map .f) 0]:aj);obtain⟨j,f6,W⟩:=Gn J;rw [U]at f6 W;have f2:=j _ _ e2;have f5:=j _ _ e5;rw [←J];clear J j m Y;obtain⟨-,-,-,-,-,-,-,m⟩:=cR f2;apply ai;simp [Z,g10,m,-an,a_,a7,b7,W];obtain⟨K6,K⟩:=aO (K5++[.box (a.row.map .f) 0,.box (b.row.map .f) 0]:aj);obtain⟨j,h7,h8,X⟩:=up2 K;rw [W]at h7 h8 X;have h2:=j _ _ f2;have h5:=j _ _ f5;have h6:=j _ _ f6;rw [←K];clear K j m;obtain⟨-,-,-,-,-,-,-,m⟩:=cR h2;apply ai;simp [Z,g10,m,-an,b9,c7,k7,X];obtain⟨K7,M⟩:=aO (K6++[.box (c.row.map .f) 0,.box (k.row.map .f) 0]:aj);obtain⟨j,i9,w,c9⟩:=up2 M;rw [X]at i9 w c9;have i5:=j _ _ h5;have i6:=j _ _ h6;have i7:=j _ _ h7;have i8:=j _ _ h8;rw [←M];clear M j m;obtain⟨-,-,-,-,-,-,-,r5⟩:=cR i5;obtain⟨-,-,-,-,-,-,-,r6⟩:=cR i6;obtain⟨-,-,-,-,-,-,-,r7⟩:=cR i7;obtain⟨-,-,-,-,-,-,-,r8⟩:=cR i8;obtain⟨-,-,-,-,-,-,-,r9⟩:=cR i9;obtain⟨-,-,-,-,-,-,-,ff⟩:=cR w;apply ai;simp [g7,b_,r5,r6,r7,r8,r9,ff,-an,A.so,A.s1,A.s2];exact aJ (hQ _ _ (by simp))
 apply ai;simp;by_cases v:300<l
 ·by_cases E:l≤1099511627776
  ·have hr:bS .rem (vi l) (vi 300)=aa (vi (l % 300)):=by
    rw [lV (by omega),Int.tmod_eq_emod_of_nonneg (by omega)]
   refine aq (ai ?_);simp [v,E];refine ak (by simp) (av (.inl rfl) ?_);simp [hr];exact rest (l % 300) _ (by omega) (by simp) (by simp) (by simp) (by simp)
  ·refine aq (ai ?_);simp [v,E];refine a5 (by simp) ?_;exact rest l _ (by omega) (by simp) (by simp) (by simp) (by simp)
 ·refine aq (ai ?_);simp [v];refine a5 (by simp) ?_;exact rest l _ (by omega) (by simp) (by simp) (by simp) (by simp)
theorem adl{a:V}(h:qT Tryz.prog 3 a):∃ n:Int,a=vi n∧-9223372036854775808≤n∧n≤9223372036854775807:=by
 rcases h with⟨xs,_,_,d,hd,b⟩ | ⟨z,rfl,g⟩
 ·rw [Tryz.underlying3]at hd;cases hd;rcases b with⟨_,e⟩ | ⟨_,_,e⟩<;>cases e
 ·obtain⟨m,e,j⟩:=eU Tryz.underlying3 g;cases e;simp [Lit.wf,IntKind.min,IntKind.max,IntKind.signed,IntKind.bits]at j;exact⟨m,rfl,by omega,by omega⟩
theorem D0(g:List V)(h:tj Tryz.prog [26,31,3] g):bA tab.get 0 g (vb ae):=by
 obtain⟨u,_,rfl,j,a1,_,rfl,l,v,_,rfl,m,rfl⟩:=h;obtain⟨x,rfl,q⟩:=YZ j;obtain⟨y,rfl,s⟩:=Y0 l;obtain⟨n,rfl,b,d⟩:=adl m;exact X8 ajO q s n b d
end Go.Proofs.YtmbjejcfadllnaaGreat
