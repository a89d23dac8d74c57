/-
  afT the nL jY and the ng answer, for all arguments of their kind, in the small machine: part 4.
-/
import Derived.Test.YthkmdpgdicohdaaGreatS3
import Derived.Test.YthkmdpgdicohdaaGreatS1
import Derived.Test.YthkmdpgdicohdaaGreatS2
import Derived.Test.YthkmdpgdicohdaaGreatK3
import Derived.Test.YthkmdpgdicohdaaGreatProg
import Derived.Test.YthkmdpgdicohdaaGreatEv
open Option renaming some → aa,none → ab
open Bool renaming true → ae,false → ag
open List renaming length_map → anq, mem_map → anv, getElem?_set_self → BY, getElem?_set_ne → sh, length_pos_iff → anU, getElem_mem → IS, take_add_one → anu, getElem?_eq_getElem → By, mem_append → anm, mem_singleton → OF, mem_append_left → anO, take_length → ant, map_cons → ano, length_append → ank, length_cons → an2, mem_cons → anK, getElem?_append_left → AT, mem_cons_self → anr, mem_cons_of_mem → anp, all_eq_true → anx, map_nil → anC, length_set → anD, getElem_of_mem → anB, getElem?_append_right → ann, nodup_cons → ao8
open Nat renaming add_mul → anM, one_mul → ao4, le_refl → anl
open Int renaming mul_le_mul → aoG, mul_comm → aoh, toNat_natCast → anJ
open Bool renaming and_eq_true → If, eq_iff_iff → aoW, not_eq_true' → aoD
set_option linter.unusedVariables false
set_option linter.constructorNameAsVariable false
set_option linter.unusedSimpArgs false
set_option linter.unusedSectionVars false
set_option linter.unnecessarySimpa false
set_option maxRecDepth 100000
namespace Go.Proofs.YthkmdpgdicohdaaGreat
open Go Km
def TW(J:an)(c:C)(fs:List aI):Prop:=(∃ g,c=.f (sl g (aJ fs)))∨(∃ b d fl,c=.sl b 0 fs.length 0 d 4∧J[b]?=aa (.cS 4 ((aJ fs).flatten.map .f) fl d .loc))
section
variable{J:an}{c:C}{fs:List aI}
theorem TV.tw(h:TV J c fs):TW J c fs:=by
 rcases h with⟨g,rfl⟩ | ⟨h0,rfl | rfl⟩ | ⟨j,b,d,rfl,hb⟩
 ·exact .inl ⟨g,rfl⟩
 ·exact .inl ⟨.nil,by rw [h0];rfl⟩
 ·exact .inl ⟨.es,by rw [h0];rfl⟩
 ·unfold RB at hb;exact .inr ⟨b,d,0,by rw [AW],hb⟩
theorem TW.ex(h:TW J c fs)(h0:fs≠[])(n:Nat):eL (n+1) J c=aa (sl .fs (aJ fs)):=by
 rcases h with⟨g,rfl⟩ | ⟨b,d,fl,rfl,hb⟩
 ·show aa (sl g (aJ fs))=_;rw [lG h0,lG h0]
 ·have hl:(aJ fs).flatten.length=fs.length*4:=by have:=cC (bD fs);simpa using this
  simp only [jz,hb];rw [bf ⟨trivial,trivial,by rw [anq];omega⟩,List.drop_zero,List.take_of_length_le (by rw [anq];omega),ld,lG h0];rfl
theorem TW.mk(h:TW J c fs)(n:Nat):TW (fo (n+1) c J) c fs∧∀(i:Nat) (y:bV),J[i]?=aa y→aV c≠aa i→(fo (n+1) c J)[i]?=aa y:=by
 rcases h with⟨g,rfl⟩ | ⟨b,d,fl,rfl,hb⟩
 ·exact⟨.inl ⟨g,rfl⟩,fun i y hy _=>hy⟩
 ·have e:fo (n+1) (.sl b 0 fs.length 0 d 4) J=J.set b (.cS 4 ((aJ fs).flatten.map .f) (Nat.max fl (0+fs.length*4)) d .loc):=by
   simp only [pW,hb];rw [jA];intro x j;have j:=List.mem_of_mem_drop (List.mem_of_mem_take j);obtain⟨m,_,rfl⟩:=anv.1 j;exact⟨_,rfl⟩
  rw [e];exact⟨.inr ⟨b,d,_,rfl,BY (aj hb)⟩,fun i y hy hi=>by rw [sh (by rintro rfl;exact hi rfl)];exact hy⟩
theorem TW.set(h:TW J c fs){i:Nat}(hi:aV c≠aa i)(x:bV):TW (J.set i x) c fs:=by
 rcases h with h | ⟨b,d,fl,rfl,hb⟩
 ·exact .inl h
 ·exact .inr ⟨b,d,fl,rfl,by rw [sh (by rintro rfl;exact hi rfl)];exact hb⟩
end
theorem xZ(ps:List aI)(h:lO ps)(n:Int)(hn:0≤n)(b_:n≤1000000000000):∃ d f,eF (Jv ps n) d f∧(0≤d∧d≤1000001000000)∧∀ H g found c,QH H n g found→TW H c ps→(∀ i,aV c=aa i→4<i) →
  ∃ r H',Ev tab (.yield 4) [.c c] H r H'∧(r=vb ae∧QH H' n (if f=ae∧(found=ag∨d<g)then d else g) (found||f)):=by
 obtain⟨d,f,e0,f0,hm,hd,he,hc⟩:=D3 .fs ps h n hn b_;refine⟨d,f,hm,hd,?_⟩;rintro H g found c ⟨h0,h1,h2,h3,s,h4,u,K,L⟩ v N;refine dr (tab:=tab) (b:=4) h4 rfl fun Q' M=>?_;have a_:=aj h4;have F:∀(t:T) (j:an),j[0]?=aa (.box [.f (fi n)] 0)→j[1]?=aa (.box [.f (fi g)] 0)→j[2]?=aa (.box [.f (.bool found)] 0)→j[3]?=aa (.eo ae)→j[4]?=aa (.lp 69 s [P.nat 12] bU bJ .busy ab 3) →
   t.g 3=.c (.ptr 0 0 0)→t.g 6=.c (.ptr 1 0 0)→t.g 7=.c (.ptr 2 0 0)→t.g 9=vi d→t.g 10=vb f→WP tab 69 (aa 4) [.code sN,.inBlock 1] ⟨t,[],j⟩ Q':=by
  rintro t j q0 U A q3 q4 e3 I y J q;have l1:=aj U;have l2:=aj A;have ba:(f=ae∧(found=ag∨d<g)→False)→QH (j.set 4 (.lp 69 s [P.nat 12] bU bJ .ready ab 3)) n (if f=ae∧(found=ag∨d<g)then d else g) (found||f):=by
   intro x;have hf:(found||f)=found:=by
    cases f<;>cases found<;>simp at x ⊢
   rw [aT x,hf];exact⟨by rw [sh (by decide)];exact q0,by rw [sh (by decide)];exact U,by rw [sh (by decide)];exact A,by rw [sh (by decide)];exact q3,s,BY (aj q4),u,K,L⟩
  have c9:(j.set 1 (.box [.f (fi d)] 0))[2]?=aa (.box [.f (.bool found)] 0):=by rw [sh (by decide)];exact A
  have Q:(f=ae∧(found=ag∨d<g))→QH (((j.set 1 (.box [.f (fi d)] 0)).set 2 (.box [.f (.bool ae)] 0)).set 4 (.lp 69 s [P.nat 12] bU bJ .ready ab 3)) n (if f=ae∧(found=ag∨d<g)then d else g) (found||f):=by
   intro l;have hf:(found||f)=ae:=by rw [l.1];simp
   rw [bf l,hf];refine⟨?_,?_,?_,?_,s,BY (by simp;exact aj q4),u,K,L⟩
   ·rw [sh (by decide),sh (by decide),sh (by decide)];exact q0
   ·rw [sh (by decide),sh (by decide),BY l1]
   ·rw [sh (by decide),BY (by simpa using l2)]
   ·rw [sh (by decide),sh (by decide),sh (by decide)];exact q3
  have done:∀ B:T,(f=ae∧(found=ag∨d<g)→False)→WP tab 69 (aa 4) [.inBlock 1] ⟨B,[],j⟩ Q':=by
   intro B x;refine ax (cK (M _ _ _ _ _ _ _ _ _ _ rfl q4 ⟨rfl,?_⟩));have:=ba x;rw [show(j.set 4 (.lp 69 s [P.nat 12] bU bJ .ready ab 3))=j.set 4 (.lp 69 s [P.nat 12] bU bJ (if(ab:Option aw).isNone=ae then .ready else .done) ab 3) from rfl]at this;exact this
  have m:∀ B:T,B.g 6=.c (.ptr 1 0 0)→B.g 7=.c (.ptr 2 0 0)→B.g 9=vi d→(f=ae∧(found=ag∨d<g))→WP tab 69 (aa 4) [.code sO,.inBlock 1] ⟨B,[],j⟩ Q':=by
   intro B I y J l;refine aq (.inr rfl) ?_;simp [I,y,J,U,A,c9];refine ax (cK (M _ _ _ _ _ _ _ _ _ _ rfl (by rw [sh (by decide),sh (by decide)];exact q4) ⟨rfl,?_⟩));exact Q l
  apply au;cases f with
  | false=>
   refine aq (.inr rfl) ?_;simp [y,q,A];refine aF (by simp) (aR (done _ (by simp)))
  | true=>
   cases found with
   | false=>
    refine aq (.inr rfl) ?_;simp [y,q,A];refine av (by simp) (m _ (by simp [I]) (by simp [y]) (by simp [J]) (by simp))
   | true=>
    by_cases k:d<g
    ·refine aq (.inr rfl) ?_;simp [I,y,J,q,U,A,k];refine av (by simp) (m _ (by simp [I]) (by simp [y]) (by simp [J]) (by simp [k]))
    ·refine aq (.inr rfl) ?_;simp [I,y,J,q,U,A,k];refine aF (by simp) (aR (done _ (by simp [k])))
 refine aq (.inr rfl) ?_;simp;refine fW h4 ?_;have b0:(H.set 4 (.lp 69 s [P.nat 12] bU bJ .busy ab 3))[0]?=aa (.box [.f (fi n)] 0):=by rw [sh (by decide)];exact h0
 have b1:(H.set 4 (.lp 69 s [P.nat 12] bU bJ .busy ab 3))[1]?=aa (.box [.f (fi g)] 0):=by rw [sh (by decide)];exact h1
 have X:(H.set 4 (.lp 69 s [P.nat 12] bU bJ .busy ab 3))[2]?=aa (.box [.f (.bool found)] 0):=by rw [sh (by decide)];exact h2
 have Y:(H.set 4 (.lp 69 s [P.nat 12] bU bJ .busy ab 3))[3]?=aa (.eo ae):=by rw [sh (by decide)];exact h3
 have Z:(H.set 4 (.lp 69 s [P.nat 12] bU bJ .busy ab 3))[4]?=aa (.lp 69 s [P.nat 12] bU bJ .busy ab 3):=BY a_;have v:=v.set (i:=4) (fun e=>by have:=N 4 e;omega) (.lp 69 s [P.nat 12] bU bJ .busy ab 3);generalize H.set 4 (.lp 69 s [P.nat 12] bU bJ .busy ab 3)=j at b0 b1 X Y Z v ⊢;have S:∀ i:Nat,i≤4→aV c≠aa i:=fun i hi e=>by have:=N i e;omega
 have step:∀ j:an,j[0]?=aa (.box [.f (fi n)] 0)→j[1]?=aa (.box [.f (fi g)] 0)→j[2]?=aa (.box [.f (.bool found)] 0)→j[3]?=aa (.eo ae)→j[4]?=aa (.lp 69 s [P.nat 12] bU bJ .busy ab 3)→TW j c ps →
   ∃ E:an,E=fo 64 c j∧eL 64 j c=aa (sl .fs (aJ ps))∧E[0]?=aa (.box [.f (fi n)] 0)∧E[1]?=aa (.box [.f (fi g)] 0)∧E[2]?=aa (.box [.f (.bool found)] 0)∧E[3]?=aa (.eo ae)∧E[4]?=aa (.lp 69 s [P.nat 12] bU bJ .busy ab 3)∧TW E c ps:=by
  intro j b0 b1 X Y Z hT;obtain⟨m1,O⟩:=hT.mk 63;exact⟨_,rfl,hT.ex (anU.1 h.l1) 63,O 0 _ b0 (S 0 (by omega)),O 1 _ b1 (S 1 (by omega)),O 2 _ X (S 2 (by omega)),O 3 _ Y (S 3 (by omega)),O 4 _ Z (S 4 (by omega)),m1⟩
 obtain⟨H1,e1,x1,W,a1,a2,a3,a4,a7⟩:=step j b0 b1 X Y Z v;obtain⟨H2,e2,x2,c0,c1,c2,c3,c4,a8⟩:=step H1 W a1 a2 a3 a4 a7;obtain⟨H3,e3,x3,d0,d1,d2,d3,d4,c_⟩:=step H2 c0 c1 c2 c3 c4 a8;refine ay ?_;refine au (aq (.inr rfl) ?_);simp [u,b0,x1,deep,he,←e1];apply au;rcases hc with⟨rfl,rfl,rfl⟩ | ⟨rfl,rfl,b,z,hc⟩
 ·refine au (aq (.inr rfl) ?_);simp;refine aX (by simp) ?_;exact F _ _ W a1 a2 a3 a4 (by simp [u]) (by simp [K]) (by simp [L]) (by simp) (by simp)
 ·rcases hc with⟨rfl,rfl,rfl⟩ | ⟨rfl,hl⟩
  ·refine au (aq (.inr rfl) ?_);simp [u,W,x2,deep,z,←e2,show n≤1152921504606846976 by omega];refine aX (by simp) ?_;exact F _ _ c0 c1 c2 c3 c4 (by simp [u]) (by simp [K]) (by simp [L]) (by simp) (by simp)
  ·refine au (aq (.inr rfl) ?_);simp [u,W,x2,deep,z,←e2,show n≤1152921504606846976 by omega];refine av (by simp) ?_;refine aq (.inr rfl) ?_;simp [u,c0,x3,deep,hl,←e3];exact F _ _ d0 d1 d2 d3 d4 (by simp [u]) (by simp [K]) (by simp [L]) (by simp) (by simp)
def Ma(L:List (List aI))(n x:Int):Prop:=∃ t ∈ L,Jv t n x
theorem adw{H H':an}{n b:Int}{found:Bool}(h:QH H n b found)(v:∀ i:Nat,i<H.length→H'[i]?=H[i]?):QH H' n b found:=by
 obtain⟨g,j,l,m,s,q,u⟩:=h;have k:∀(i:Nat) y,H[i]?=aa y→H'[i]?=aa y:=fun i y d=>by rw [v i (aj d)];exact d
 exact⟨k _ _ g,k _ _ j,k _ _ l,k _ _ m,s,k _ _ q,u⟩
theorem Ky(F:Nat)(l:List FC)(L:List (List aI))(o:CY F l L)(k:∀ t ∈ L,lO t)(n:Int)(hn:0≤n)(K:n≤1000000000000):∃ d f,eF (Ma L n) d f∧(0≤d∧d≤1000001000000) ∧
  bW tab 69 [.c (.f (.fn F l)),vi n]=Eq (.t [vi d,vb f]):=by
 have key:∃ r,(∃ d f,eF (Ma L n) d f∧(0≤d∧d≤1000001000000)∧r=.t [vi d,vb f])∧bW tab 69 [.c (.f (.fn F l)),vi n] r:=by
  refine qn ad3 rfl fun Q p=>?_;have z:∀ s:T,s.g 3=.c (.ptr 0 0 0)→s.g 6=.c (.ptr 1 0 0)→s.g 7=.c (.ptr 2 0 0)→s.g 11=.c (.f (.fn F l)) →
    WP tab 69 ab [.code xu,.inBlock 0,.code sP] ⟨s,[],[.box [.f (fi n)] 0,.box [.f (fi 0)] 0,.box [.f (.bool ag)] 0]⟩ Q:=by
   intro s a O S A;obtain⟨y,Z,b,found,⟨-,w1,w2,w3,N,w4,-⟩,q,U⟩:=o 4 [.box [.f (fi n)] 0,.box [.f (fi 0)] 0,.box [.f (.bool ag)] 0,.eo ae,.lp 69 s [P.nat 12] bU bJ .ready ab 3]
    (fun j H=>∃ b found,QH H n b found∧eF (Ma (L.take j) n) b found∧(0≤b∧b≤1000001000000))
    ⟨0,ag,⟨rfl,rfl,rfl,rfl,s,rfl,a,O,S⟩,.inl ⟨rfl,rfl,fun d v=>by obtain⟨t,m,-⟩:=v;simp at m⟩,by omega,by omega⟩ fun j W Y J c ⟨b,found,u,q,U⟩ hk X w hc=>by
     obtain⟨d,f,I,v,hy⟩:=xZ L[j] (k _ (IS W)) n hn K;have l4:4<Y.length:=by obtain⟨-,-,-,-,s',e,-⟩:=u;exact aj e
     obtain⟨r,H',E,rfl,B⟩:=hy J b found c (adw u hk) w.tw (fun i hi=>by have:=hc i hi;omega);have M:L.take (j+1)=L.take j++[L[j]]:=by rw [anu,By W];rfl
     refine⟨H',E,_,_,B,eF.join q I fun x=>?_,?_⟩
     ·unfold Ma;rw [M];constructor
      ·rintro⟨t,m,h⟩;rcases anm.1 m with m | m
       ·exact .inl ⟨t,m,h⟩
       ·rw [OF.1 m]at h;exact .inr h
      ·rintro(⟨t,m,h⟩ | h)
       ·exact⟨t,anO _ m,h⟩
       ·exact⟨_,List.mem_append_right _ (OF.2 rfl),h⟩
     ·split<;>omega
   rw [ant]at q;refine dZ (g:=F) (by rw [oA,A];simp [bO]) Z ?_;refine ff w4 (by decide) ?_;refine ax ?_;apply ai;have v1:(y.set 4 (.lp 69 N [P.nat 12] bU bJ .exhausted ab 3))[1]?=aa (.box [.f (fi b)] 0):=by rw [sh (by decide)];exact w1
   have v2:(y.set 4 (.lp 69 N [P.nat 12] bU bJ .exhausted ab 3))[2]?=aa (.box [.f (.bool found)] 0):=by rw [sh (by decide)];exact w2
   have v3:(y.set 4 (.lp 69 N [P.nat 12] bU bJ .exhausted ab 3))[3]?=aa (.eo ae):=by rw [sh (by decide)];exact w3
   simp [O,S,v1,v2];refine aE (p _ _ _ ⟨b,found,q,U,rfl⟩ (.inr ⟨3,rfl,v3,.t [vi b,vb found],?_,by simp [kM,dE,aZ]⟩));simp [Km.results,cr,aZ]
  apply ai;simp;apply ai;simp;apply au;apply ai;simp;refine ay ?_;exact z _ (by simp) (by simp) (by simp) (by simp)
 obtain⟨r,⟨d,f,q,v,rfl⟩,h⟩:=key;exact⟨d,f,q,v,h.eq⟩
def ov(ss ts:List (List aI)):List (List aI):=(ss.map fun s=>ts.map fun t=>s++t).flatten
theorem ji{ss ts:List (List aI)}{x:List aI}:x ∈ ov ss ts↔∃ s ∈ ss,∃ t ∈ ts,x=s++t:=by
 unfold ov;rw [List.mem_flatten];constructor
 ·rintro⟨l,g,j⟩;obtain⟨s,b,rfl⟩:=anv.1 g;obtain⟨t,d,rfl⟩:=anv.1 j;exact⟨s,b,t,d,rfl⟩
 ·rintro⟨s,b,t,d,rfl⟩;exact⟨_,anv.2 ⟨s,b,rfl⟩,anv.2 ⟨t,d,rfl⟩⟩
theorem wQ(ss ts:List (List aI)):(ov ss ts).length=ss.length*ts.length:=by
 unfold ov;induction ss with
 | nil=>simp| cons s ss b=>rw [ano,List.flatten_cons,ank,b,anq,an2,Nat.succ_mul,Nat.add_comm]
theorem Wo{ss ts:List (List aI)}{i k:Nat}(hi:i<ss.length)(d:k<ts.length):(ov ss ts)[i*ts.length+k]?=aa (ss[i]++ts[k]):=by
 have h:=tD (rows:=ss.map fun s=>ts.map fun t=>s++t) (sz:=ts.length) (j:=i) (row:=ts.map fun t=>ss[i]++t) (fun r g=>by
  obtain⟨s,-,rfl⟩:=anv.1 g;simp) (by simp [hi])
 have b:(ts.map fun t=>ss[i]++t)[k]?=aa (ss[i]++ts[k]):=by simp [d]
 rw [←h,List.getElem?_take,bf d,List.getElem?_drop]at b;exact b
theorem AU(x y:FC):bW tab 70 [.a [.f x],.a [.f y]]=Eq (.c (.f (.fn 109 [.fp [x] 0,.fp [y] 0]))):=by
 refine bW.eq (cd rfl rfl fun Q b=>?_);apply ai;simp;apply ai;simp;refine aE (b _ _ ?_);simp [deep]
theorem ud(g g':Tg)(ss ts:List cu)(hs:ss.length≤1000)(ht:ts.length≤1000)(c9:∀ s ∈ ss,s.fs.length≤1000)(c_:∀ t ∈ ts,t.fs.length≤1000) :
  CY 109 [.fp [sl g (aA ss)] 0,.fp [sl g' (aA ts)] 0] (ov (ss.map (·.fs)) (ts.map (·.fs))):=by
 intro b H PP h0 hy;have y:(ov (ss.map (·.fs)) (ts.map (·.fs))).length=ss.length*ts.length:=by rw [wQ,anq,anq]
 have W:∀ H:an,bu H (.f (sl g (aA ss)))=aa ss.length:=fun H=>by simp
 have X:∀ H:an,bu H (.f (sl g' (aA ts)))=aa ts.length:=fun H=>by simp
 obtain⟨r,Y,he,rfl,h⟩:∃ r Y,Ev tab (.fn 109) [.c (.yl b),.c (.f (.fp [sl g (aA ss)] 0)),.c (.f (.fp [sl g' (aA ts)] 0))] H r Y∧(r=.t []∧PP (ss.length*ts.length) Y):=by
  refine cM rfl rfl fun Q hQ=>?_;apply ai;simp [rG,W];refine b7 ss.length (fun i s J=>s.g 0=.c (.yl b)∧s.g 2=.c (.f (.fp [sl g' (aA ts)] 0))∧s.g 9=.c (.f (sl g (aA ss)))∧PP (i*ts.length) J) (by omega) (by decide) (by decide) (by simp) (by simp) ⟨by simp,by simp,by simp,by simpa using h0⟩ ?_ ?_
  ·rintro i s J hi ⟨A,I,K,L⟩ n hb next
   have z:=fun H:an=>gG (H:=H) (ft ss) (gr (l:=ss) (j:=i) hi) rfl;have v:=fun H:an=>bG (H:=H) (g:=g) (rows:=aA ss) (sz:=1) (k:=.i64) (i:=i) (by omega) (by simpa using hi);simp at z v;refine ay ?_;apply ai;simp [K,n,v,z];apply ai;simp [I,rG,X];refine b7 ts.length (fun k u J=>u.g 0=.c (.yl b)∧u.g 2=.c (.f (.fp [sl g' (aA ts)] 0))∧u.g 9=.c (.f (sl g (aA ss)))∧u.g 5=.c (.f (sl ss[i].tg (aJ ss[i].fs)))∧u.g 16=.c (.f (sl g' (aA ts)))∧u.g 10=s.g 10∧u.g 11=s.g 11∧PP (i*ts.length+k) J) (by omega) (by decide) (by decide) (by simp) (by simp)
    ⟨by simp [A],by simp [I],by simp [K],by simp,by simp,by simp,by simp,by simpa using L⟩ ?_ ?_
   ·rintro k u J a ⟨A,I,K,f,E,eh,B,L⟩ U o O;have m:=fun H:an=>gG (H:=H) (ft ts) (gr (l:=ts) (j:=k) a) rfl;have d:=fun H:an=>bG (H:=H) (g:=g') (rows:=aA ts) (sz:=1) (k:=.i64) (i:=k) (by omega) (by simpa using a);simp at m d;have a_:i*ts.length+k<(ov (ss.map (·.fs)) (ts.map (·.fs))).length:=by
     rw [y];have:(i+1)*ts.length≤ss.length*ts.length:=Nat.mul_le_mul_right _ hi;rw [anM,ao4]at this;omega
    have w:(ov (ss.map (·.fs)) (ts.map (·.fs)))[i*ts.length+k]=ss[i].fs++ts[k].fs:=by
     have:=Wo (ss:=ss.map (·.fs)) (ts:=ts.map (·.fs)) (i:=i) (k:=k) (by simpa using hi) (by simpa using a);simp only [anq,List.getElem_map]at this;exact(List.getElem?_eq_some_iff.1 this).2
    have e_:=c9 _ (IS hi);have f7:=c_ _ (IS a);obtain⟨Z,q⟩:=aM (J++[bV.box [.f (sl ss[i].tg (aJ ss[i].fs)),.f (sl ts[k].tg (aJ ts[k].fs))] 0]);have b1:Z[J.length]?=aa (.box [.f (sl ss[i].tg (aJ ss[i].fs)),.f (sl ts[k].tg (aJ ts[k].fs))] 0):=by rw [q];simp
    have b_:aJ (ss[i].fs++ts[k].fs)=aJ ss[i].fs++aJ ts[k].fs:=by simp [aJ]
    obtain⟨r,e,N,c,rfl,M,a8,d_,p⟩:=vT (tab:=tab) (H:=Z) (F:=110) (G:=154) (sz:=4) (bytes:=64) (zs:=[.aC,fi 0,fi 0,.aC]) afx afC (by decide) rfl (b:=J.length) [(.f (sl ss[i].tg (aJ ss[i].fs)),aJ ss[i].fs),(.f (sl ts[k].tg (aJ ts[k].fs)),aJ ts[k].fs)] b1 (by simp)
     (fun x S=>by
      simp only [anK,List.not_mem_nil,or_false]at S;rcases S with rfl | rfl
      ·exact⟨bD _,fun H' _=>⟨by simp,pe (bD _)⟩⟩
      ·exact⟨bD _,fun H' _=>⟨by simp,pe (bD _)⟩⟩)
     (by simp;omega) (dH (by simp;omega) (by decide))
    have M:LR e c 4 (aJ (ss[i].fs++ts[k].fs)):=by
     rw [b_];simpa using M
    have d9:Z.length=J.length+1:=by rw [q];simp
    obtain⟨J3,a7,h⟩:=hy (i*ts.length+k) a_ J e c L (fun x S=>by rw [a8 x (by omega),q,AT S]) (by omega) (by rw [w];exact .inr M) (fun x S=>by have:=p x S;omega);have N:Ev tab (.fn 110) [.c (.sl J.length 0 2 2 0 1)] Z (.c c) e:=N;refine ay ?_;apply ai;simp [U,E,d,m];apply au;refine aq (.inl rfl) ?_;simp [A,f,←q,N.eq,a7.eq];refine aX (by simp) ?_;refine ax (O _ _ ?_ (by simp [U]) (by simp [o]));exact⟨by simp [A],by simp [I],by simp [K],by simp [f],by simp [E],by simp [eh],by simp [B],h⟩
   ·rintro u J ⟨A,I,K,f,E,eh,B,L⟩ - -;refine ax (next _ _ ⟨by simp [A],by simp [I],by simp [K],?_⟩ (by simp [B,n]) (by simp [eh,hb]));rw [anM,ao4];exact L
  ·rintro s J ⟨A,I,K,L⟩ n hb;exact cK (hQ _ _ _ rfl rfl ⟨rfl,L⟩)
 exact⟨Y,he,by rw [y];exact h⟩
def dU(ts:List cu)(d:Int):Prop:=∃ t ∈ ts,fC t.fs d
theorem C1(us:List (List aI))(d:Int):dU (us.map fun s=>⟨.fs,s⟩) d↔gQ us d:=by
 unfold gQ dU;constructor
 ·rintro⟨t,b,h⟩;obtain⟨x,g,rfl⟩:=anv.1 b;exact⟨x,g,h⟩
 ·rintro⟨t,b,h⟩;exact⟨_,anv.2 ⟨t,b,rfl⟩,h⟩
theorem wU:∀ {l:List aI},(∀ p ∈ l,nT p)→1≤eA l∧eA l≤12 ^ l.length
 | [],_=>by simp [eA]
 | p::l,h=>by
  have b:=h p anr;have g:=(aY b.ok).2.2.1;have d:=b.aL;obtain⟨j,m⟩:=wU fun q u=>h q (anp _ u);simp only [eA,an2];have v:=aoG g j (by decide) (by omega);have s:=aoG d m (by omega) (by decide);rw [Int.pow_succ,aoh];refine⟨by rw [aoh];omega,by rw [aoh];rw [aoh (12 ^ l.length)];exact s⟩
theorem uB:∀ {l:List aI},(∀ p ∈ l,nT p)→cN l≤50
 | [],_=>by simp [cN]
 | p::l,h=>by
  have d:=(h p anr).fr;have g:=uB fun q b=>h q (anp _ b);simp only [cN];omega
theorem Kj{fs:List aI}(b:fs≠[])(g:fs.length≤4)(h:∀ p ∈ fs,nT p):lO fs:=by
 have m:=anU.2 b;refine⟨by omega,by omega,fun p d=>(h p d).mod,?_,by have:=uB h;omega⟩;have j:=(wU h).2;have l:(12:Int) ^ fs.length≤12 ^ 4:=by
  have:fs.length=1∨fs.length=2∨fs.length=3∨fs.length=4:=by omega
  rcases this with e | e | e | e<;>rw [e]<;>decide
 have:(12:Int) ^ 4=20736:=by decide
 omega
theorem qV(g g':Tg)(ss ts:List cu)(l:rS ss)(m:rS ts)(n:Int)(c:-1000000000000≤n)(O:n≤1000000000000) :
  ∃ d f,eF (fun x=>max n 0≤x∧dU ss x∧dU ts x) d f∧(0≤d∧d≤1000001000000)∧bW tab 36 [.a [.f (sl g (aA ss))],.a [.f (sl g' (aA ts))],vi n]=Eq (.t [vi d,vb f]):=by
 have v:=(mZ g ss (by have:=l.1;omega) (na l.mix)).eq;rw [l.mix]at v;have z:=(mZ g' ts (by have:=m.1;omega) (na m.mix)).eq;rw [m.mix]at z;have H:=AU (sl g (aA ss)) (sl g' (aA ts));have E:=ud g g' ss ts (by have:=l.1;omega) (by have:=m.1;omega) (fun s h=>by have:=(l.2 s h).2.1;omega) (fun t h=>by have:=(m.2 t h).2.1;omega);obtain⟨d,f,N,M,F⟩:=Ky _ _ _ E (fun x U=>by
  obtain⟨s,b,t,j,rfl⟩:=ji.1 U;obtain⟨s,q,rfl⟩:=anv.1 b;obtain⟨t,u,rfl⟩:=anv.1 j;obtain⟨a1,Z,I⟩:=l.2 s q;obtain⟨b1,a,J⟩:=m.2 t u;refine Kj (by simp [a1]) (by rw [ank];omega) fun p S=>?_;rcases anm.1 S with h | h
  ·exact I p h
  ·exact J p h) (max n 0) (by omega) (by omega)
 refine⟨d,f,N.iff fun x=>?_,M,bW.eq (cd rfl rfl fun Q L=>?_)⟩
 ·unfold Ma Jv;constructor
  ·rintro⟨A,⟨s,q,u⟩,⟨t,B,K⟩⟩;refine⟨_,ji.2 ⟨_,anv.2 ⟨s,q,rfl⟩,_,anv.2 ⟨t,B,rfl⟩,rfl⟩,A,(im (by omega)).2 ((fe s.fs t.fs x).2 ⟨u,K⟩)⟩
  ·rintro⟨y,W,A,q⟩;obtain⟨s,b,t,j,rfl⟩:=ji.1 W;obtain⟨s,u,rfl⟩:=anv.1 b;obtain⟨t,B,rfl⟩:=anv.1 j;obtain⟨X,Y⟩:=(fe s.fs t.fs x).1 ((im (by omega)).1 q);exact⟨A,⟨s,u,X⟩,⟨t,B,Y⟩⟩
 ·apply ai;simp;apply au;apply ai;simp [v,z];refine aX (by simp) ?_;apply ai;simp [H,F];refine aE (L _ _ ?_);simp
theorem abz{m:Nat}{ps:List aI}(h:Bm m ps):((∀ d,¬ iO ps 0 ps d)∧¬ nS [] ps)↔∀ d,0≤d→¬ fC ps d:=by
 constructor
 ·rintro⟨j,u⟩ d l;exact te h.2.2 j u d l
 ·intro s;refine⟨fun d ⟨q,j,_⟩=>s d q ((im q).1 j),fun v=>?_⟩;have g:∀ p ∈ ps,1≤p.aL∧p.aL≤12:=fun p g=>⟨(aY (h.2.2 p g).ok).2.2.1,(h.2.2 p g).aL⟩
  obtain⟨d,x,y,l⟩:=WM g v;refine s (d+27720*1) (by omega) fun p b=>?_;have:=(h.2.2 p b).fr;exact(pY (h.2.2 p b).mod (by omega)).2 (BQ g l 1 p b)
def abv(m n:Nat)(us:List (List aI)):Prop:=us.length≤n∧∀ u ∈ us,Bm m u
theorem etr(us:List (List aI)):aA (us.map fun s=>⟨.fs,s⟩)=cA us:=by simp [aA,cA,cu.row]
theorem AH{us:List (List aI)}(h:abv 4 64 us):iD (us.map fun s=>⟨.fs,s⟩)=ae:=by
 simp only [iD,If,decide_eq_true_eq,anx];refine⟨by rw [anq];have:=h.1;omega,fun t j=>?_⟩;obtain⟨u,l,rfl⟩:=anv.1 j;obtain⟨b,m,d⟩:=h.2 u l;have:=anU.2 b;simp only [iS,If,decide_eq_true_eq,anx];exact⟨⟨by omega,by omega⟩,fun p g=>(d p g).ok⟩
theorem acD(g:Tg){us:List (List aI)}(h:abv 4 64 us):bW tab 50 [.a [.f (sl g (cA us))]]=Eq (vb ae):=by
 have b:=(mZ g (us.map fun s=>⟨.fs,s⟩) (by rw [anq];have:=h.1;omega) (na (AH h))).eq;rw [AH h,etr]at b;exact b
theorem acy(g g':Tg)(ss ts:List cu)(j:rS ss)(q:rS ts) :
  ∃ us b,abv 4 4 us∧(∀ d,0≤d→(gQ us d↔dU ss d∧dU ts d))∧bW tab 41 [.a [.f (sl g (aA ss))],.a [.f (sl g' (aA ts))]]=Eq (jE us b):=by
 have A:=(mZ g ss (by have:=j.1;omega) (na j.mix)).eq;rw [j.mix]at A;have B:=(mZ g' ts (by have:=q.1;omega) (na q.mix)).eq;rw [q.mix]at B;have J:=AU (sl g (aA ss)) (sl g' (aA ts));have H:=ud g g' ss ts (by have:=j.1;omega) (by have:=q.1;omega) (fun s h=>by have:=(j.2 s h).2.1;omega) (fun t h=>by have:=(q.2 t h).2.1;omega);have K:(ov (ss.map (·.fs)) (ts.map (·.fs))).length≤4:=by
  rw [wQ,anq,anq];exact Nat.mul_le_mul j.1 q.1
 obtain⟨us,b,F,I⟩:=wM _ _ _ H (m:=4) (by omega) (by omega) (fun x W=>by
  obtain⟨s,l,t,u,rfl⟩:=ji.1 W;obtain⟨s,v,rfl⟩:=anv.1 l;obtain⟨t,z,rfl⟩:=anv.1 u;obtain⟨a1,a,L⟩:=j.2 s v;obtain⟨b1,c,M⟩:=q.2 t z;refine⟨by simp [a1],by rw [ank];omega,fun p U=>?_⟩;rcases anm.1 U with h | h
  ·exact L p h
  ·exact M p h) (by omega)
 refine⟨us,b,⟨by have:=F.len;omega,F.ok⟩,fun d S=>(F.mem d S).trans ?_,bW.eq (cd rfl rfl fun Q O=>?_)⟩
 ·constructor
  ·rintro⟨y,X,v⟩;obtain⟨s,l,t,u,rfl⟩:=ji.1 X;obtain⟨s,z,rfl⟩:=anv.1 l;obtain⟨t,E,rfl⟩:=anv.1 u;obtain⟨Y,Z⟩:=(fe s.fs t.fs d).1 v;exact⟨⟨s,z,Y⟩,⟨t,E,Z⟩⟩
  ·rintro⟨⟨s,v,z⟩,⟨t,E,N⟩⟩;exact⟨_,ji.2 ⟨_,anv.2 ⟨s,v,rfl⟩,_,anv.2 ⟨t,E,rfl⟩,rfl⟩,(fe s.fs t.fs d).2 ⟨z,N⟩⟩
 ·apply ai;simp;apply au;apply ai;simp [A,B];refine aX (by simp) ?_;apply ai;simp [J,I,jE];refine aE (O _ _ ?_);simp [jE]
noncomputable def Br (ps:List aI):Bool:=open Classical in decide (∀ d,0≤d→¬ fC ps d)
theorem af'(g:Tg){ps:List aI}(h:Bm 4 ps):Kf tab 75 [.c (.f (sl g (aJ ps)))] (vb (!Br ps)):=by
 have:=anU.2 h.1;obtain⟨b,l,d⟩:=vO g ps (fun p m=>(h.2.2 p m).mod) (by omega) (by have:=h.2.1;omega);have e:b=Br ps:=by
  rw [aoW,l,abz h];simp [Br]
 rw [e]at d;refine dF rfl rfl fun H Q j=>?_;apply ai;simp;apply ai;simp [d];refine aE (j _ _ ?_);simp
theorem KJ(g:Tg){us:List (List aI)}(h:abv 4 64 us):∃ e:Bool,(e=ae↔∀ d,0≤d→¬ gQ us d)∧bW tab 42 [.a [.f (sl g (cA us))]]=Eq (vb e):=by
 have y:=(gl Bn (jg Bo us (fun s=>[sl .fs (aJ s)]) (fun s=>.c (.f (sl .fs (aJ s)))) (fun s=>!Br s) g 75 [] (by have:=h.1;omega)
  (fun j z H=>by
   have:=gG (H:=H) (uF us) (j:=j) (row:=[sl .fs (aJ us[j])]) (by simp [cA,z]) rfl;simpa [cA]using this)
  (fun s A=>af' .fs (h.2 s A)))).eq
 have m:bW tab 74 [.c (.f (sl g (cA us))),.c (.f (.fn 75 []))]=Eq (vb (us.any fun s=>!Br s)):=y;have B:=acD g h;refine⟨!(us.any fun s=>!Br s),?_,bW.eq (cd rfl rfl fun Q x=>?_)⟩
 ·simp only [aoD,List.any_eq_false,Br];constructor
  ·rintro b d q ⟨u,v,l⟩;have:=b u v;simp only [Bool.not_eq_false,decide_eq_true_eq]at this;exact this d q l
  ·intro b u v;simp only [Bool.not_eq_false,decide_eq_true_eq];exact fun d q l=>b d q ⟨u,v,l⟩
 ·apply ai;simp;apply ai;simp [B,m];refine aE (x _ _ ?_);simp
structure Pr where
 c:cm
 d:cm
 k:Int
 gx:Tg
 xs:List cu
 gy:Tg
 ys:List cu
def Pr.row(p:Pr):List C:=[.f (sl p.c.mg (aA p.c.ts)),.f (fi p.c.min),.f (sl p.d.mg (aA p.d.ts)),.f (fi p.d.min),.f (fi p.k),.f (sl p.gx (aA p.xs)),.f (sl p.gy (aA p.ys)),.f (fi (max 0 (-p.k)))]
def wz(la b:Int)(c d:cm):Int:=(c.min-d.min-b) / 1440+1
def wc(la b:Int)(c d:cm):Int:=(c.min-d.min+la-1) / 1440
structure oz(a b:aN)(p:Pr):Prop where
 ca:p.c ∈ a.cs
 db:p.d ∈ b.cs
 lo:wz a.len b.len p.c p.d≤p.k
 hi:p.k≤wc a.len b.len p.c p.d
 xo:rS p.xs
 yo:rS p.ys
 xm:∀ e,0≤e→(dU p.xs e↔dU p.c.ts (e+max 0 (-p.k)))
 ym:∀ e,0≤e→(dU p.ys e↔dU p.d.ts (e+max 0 p.k))
structure iP(s:aN):Prop where
 ok:jx s
 few:∀ c ∈ s.cs,rS c.ts
 ex:∀ x ∈ s.xs,-1000000≤x.fr∧x.to≤1000000∧x.fr<x.to
theorem iP.cn{s:aN}(h:iP s):s.cs.length≤3:=h.ok.cn
theorem C6{us:List (List aI)}(h:us.length≤2∧∀ u ∈ us,Bm 2 u):rS (us.map fun s=>⟨.fs,s⟩):=⟨by rw [anq];exact h.1,fun t b=>by
 obtain⟨u,d,rfl⟩:=anv.1 b;exact h.2 u d⟩
theorem vV(a b:aN):bW tab 34 [.a (a.row.map .f),.a (b.row.map .f)]=Eq (.c (.f (.fn 66 [.fp a.row 0,.fp b.row 0]))):=by
 refine bW.eq (cd rfl rfl fun Q d=>?_);apply ai;simp [aN.row];apply ai;simp;refine aE (d _ _ ?_);simp [deep,aN.row]
theorem oE{bb:Nat}{H:an}(a b:aN)(ha:iP a)(hb:iP b)(PP:List Pr→an→Prop)(RR:Pr→an→Prop)(h0:PP [] H)
  (hk:∀ ps J J',PP ps J→(∀ i:Nat,i<H.length→J'[i]?=J[i]?)→J.length≤J'.length→PP ps J')
  (hy:∀ ps p J,PP ps J→H.length≤J.length→oz a b p→∃(r:Bool) (J':an),Ev tab (.yield bb) [.a p.row] J (vb r) J'∧(if r then PP (ps++[p]) J'∧J.length≤J'.length∧∀ i:Nat,H.length≤i→i<J.length→J'[i]?=J[i]? else RR p J')) :
  ∃ H2,Ev tab (.fn 66) [.c (.yl bb),.c (.f (.fp a.row 0)),.c (.f (.fp b.row 0))] H (.t []) H2∧((∃ ps,PP ps H2∧(∀ p ∈ ps,oz a b p)∧∀ c ∈ a.cs,∀ d ∈ b.cs,∀ k,wz a.len b.len c d≤k→k≤wc a.len b.len c d→∃ p ∈ ps,p.c=c∧p.d=d∧p.k=k)∨∃ p,oz a b p∧RR p H2):=by
 obtain⟨v8,v9⟩:=ha.ok.len;obtain⟨v_,w_⟩:=hb.ok.len;have t_:=ha.cn;have u5:=hb.cn;have oi:∀ H:an,bu H (.f (sl a.cg (aQ a.cs)))=aa a.cs.length:=fun H=>by simp
 have o7:∀ H:an,bu H (.f (sl b.cg (aQ b.cs)))=aa b.cs.length:=fun H=>by simp
 have o5:∀(J:an),aU J ab (.c (.f (.fp a.row 0)))=aa (.c (.f (sl a.cg (aQ a.cs))))∧aU J ab (.c (.f (.fp a.row 1)))=aa (vi a.len):=fun J=>⟨rfl,rfl⟩
 have o6:∀(J:an),aU J ab (.c (.f (.fp b.row 0)))=aa (.c (.f (sl b.cg (aQ b.cs))))∧aU J ab (.c (.f (.fp b.row 1)))=aa (vi b.len):=fun J=>⟨rfl,rfl⟩
 obtain⟨r,H2,he,rfl,hP⟩:∃ r H2,Ev tab (.fn 66) [.c (.yl bb),.c (.f (.fp a.row 0)),.c (.f (.fp b.row 0))] H r H2∧(r=.t []∧((∃ ps,PP ps H2∧(∀ p ∈ ps,oz a b p)∧∀ c ∈ a.cs,∀ d ∈ b.cs,∀ k,wz a.len b.len c d≤k→k≤wc a.len b.len c d→∃ p ∈ ps,p.c=c∧p.d=d∧p.k=k)∨∃ p,oz a b p∧RR p H2)):=by
  refine cM rfl rfl fun Q hQ=>?_;apply ai;simp [o5,oi];refine b7 a.cs.length (fun i t J=>t.g 0=.c (.yl bb)∧t.g 1=.c (.f (.fp a.row 0))∧t.g 2=.c (.f (.fp b.row 0))∧t.g 13=.c (.f (sl a.cg (aQ a.cs)))∧H.length≤J.length∧∃ ps,PP ps J∧(∀ p ∈ ps,oz a b p)∧∀(A:Nat) (hi:A<a.cs.length),A<i→∀ d ∈ b.cs,∀ k,wz a.len b.len a.cs[A] d≤k→k≤wc a.len b.len a.cs[A] d→∃ p ∈ ps,p.c=a.cs[A]∧p.d=d∧p.k=k) (by omega) (by decide) (by decide) (by simp) (by simp)
   ⟨by simp,by simp,by simp,by simp,anl _,[],h0,by simp,fun A _ h=>by omega⟩ ?_ ?_
  ·rintro i t J hi ⟨Y,Z,W,v,o9,ps,hP,z,l⟩ hc p9 next
   have n_:=fun H:an=>bG (H:=H) (g:=a.cg) (rows:=aQ a.cs) (sz:=2) (k:=.i64) (i:=(i:Int)) (by omega) (by simp;omega);have j4:=fun H:an=>cH (H:=H) (dh a.cs) (eU hi);simp only [anJ]at n_;have p_:=ha.ok.min (IS hi);have d_:=ha.few _ (IS hi);have L:=IS hi;obtain⟨c,k_⟩:=aM (a.cs[i]);rw [←k_]at j4 p_ d_ L;simp only [cm.row,ano,anC]at j4;refine ay ?_;apply ai;simp [hc,v,n_,j4,-az];obtain⟨O,i3⟩:=aM (J.length);obtain⟨J1,y⟩:=aM (J++[bV.box [.f (sl c.mg (aA c.ts)),.f (fi c.min)] 0]);have c5:J1[O]?=aa (.box [.f (sl c.mg (aA c.ts)),.f (fi c.min)] 0):=by rw [y,i3];simp
   have b_:PP ps J1:=hk ps J J1 hP (fun i hi=>by rw [y,AT (by omega)]) (by rw [y,ank];omega);have o4:J1.length=O+1:=by rw [y,ank,i3];rfl
   rw [←y,←i3];apply ai;simp [W,o6,o7];refine b7 b.cs.length (fun j t' J=>t'.g 0=.c (.yl bb)∧t'.g 1=.c (.f (.fp a.row 0))∧t'.g 2=.c (.f (.fp b.row 0))∧t'.g 13=.c (.f (sl a.cg (aQ a.cs)))∧t'.g 14=t.g 14∧t'.g 15=t.g 15∧t'.g 5=.c (.ptr O 0 0)∧t'.g 20=.c (.f (sl b.cg (aQ b.cs)))∧O<J.length∧J[O]?=aa (.box [.f (sl c.mg (aA c.ts)),.f (fi c.min)] 0)∧∃ ps,PP ps J∧(∀ p ∈ ps,oz a b p)∧(∀(A:Nat) (hi:A<a.cs.length),A<i→∀ d ∈ b.cs,∀ k,wz a.len b.len a.cs[A] d≤k→k≤wc a.len b.len a.cs[A] d→∃ p ∈ ps,p.c=a.cs[A]∧p.d=d∧p.k=k) ∧
     ∀(N:Nat) (hj:N<b.cs.length),N<j→∀ k,wz a.len b.len c b.cs[N]≤k→k≤wc a.len b.len c b.cs[N]→∃ p ∈ ps,p.c=c∧p.d=b.cs[N]∧p.k=k) (by omega) (by decide) (by decide) (by simp) (by simp)
    ⟨by simp [Y],by simp [Z],by simp [W],by simp [v],by simp,by simp,by simp,by simp,by omega,c5,ps,b_,z,l,fun N _ h=>by omega⟩ ?_ ?_
   ·clear hP z l b_ c5 o4 y;rintro j t' J hj ⟨Y,Z,W,v,E,F,g5,I,n8,c5,ps,hP,z,l,q⟩ j_ j9 j8;have o0:=fun H:an=>bG (H:=H) (g:=b.cg) (rows:=aQ b.cs) (sz:=2) (k:=.i64) (i:=(j:Int)) (by omega) (by simp;omega);have j7:=fun H:an=>cH (H:=H) (dh b.cs) (eU hj);simp only [anJ]at o0;have r7:=hb.ok.min (IS hj);have e_:=hb.few _ (IS hj);have M:=IS hj;obtain⟨d,l_⟩:=aM (b.cs[j]);rw [←l_]at j7 r7 e_ M;simp only [cm.row,ano,anC]at j7;obtain⟨U,i4⟩:=aM (J.length);obtain⟨J1,y⟩:=aM (J++[bV.box [.f (sl d.mg (aA d.ts)),.f (fi d.min)] 0]);have c7:J1[U]?=aa (.box [.f (sl d.mg (aA d.ts)),.f (fi d.min)] 0):=by rw [y,i4];simp
    have f_:J1[O]?=aa (.box [.f (sl c.mg (aA c.ts)),.f (fi c.min)] 0):=by rw [y,AT n8];exact c5
    have b_:PP ps J1:=hk ps J J1 hP (fun i hi=>by rw [y,AT (by omega)]) (by rw [y,ank];omega);have o4:J1.length=U+1:=by rw [y,ank,i4];rfl
    obtain⟨lo,s7⟩:=aM (wz a.len b.len c d);obtain⟨u,r9⟩:=aM (wc a.len b.len c d);have n9:(c.min-d.min-b.len) / 1440+1=lo:=s7.symm;have m9:(c.min-d.min+a.len-1) / 1440=u:=r9.symm;have f1:=jW (c.min-d.min-b.len) (by omega) (by omega);have f2:=jW (c.min-d.min+a.len-1) (by omega) (by omega);rw [m9]at f2;have x6:-20≤lo∧lo≤20:=by omega
    have u6:-20≤u∧u≤20:=by omega
    have m5:∀ J:an,J[O]?=aa (.box [.f (sl c.mg (aA c.ts)),.f (fi c.min)] 0)→aU J ab (.c (.ptr O 1 0))=aa (vi c.min)∧aU J (aa 2) (.c (.ptr O 0 0))=aa (.a [.f (sl c.mg (aA c.ts)),.f (fi c.min)])∧aU J (aa 1) (.c (.ptr O 0 0))=aa (.a [.f (sl c.mg (aA c.ts))]):=fun J h=>by refine⟨?_,?_,?_⟩<;>simp [aU,aH,h,aW]
    have m7:∀ J:an,J[U]?=aa (.box [.f (sl d.mg (aA d.ts)),.f (fi d.min)] 0)→aU J ab (.c (.ptr U 1 0))=aa (vi d.min)∧aU J (aa 2) (.c (.ptr U 0 0))=aa (.a [.f (sl d.mg (aA d.ts)),.f (fi d.min)])∧aU J (aa 1) (.c (.ptr U 0 0))=aa (.a [.f (sl d.mg (aA d.ts))]):=fun J h=>by refine⟨?_,?_,?_⟩<;>simp [aU,aH,h,aW]
    obtain⟨v5,-,-⟩:=m5 J1 f_;obtain⟨v7,-,-⟩:=m7 J1 c7;refine ay ?_;apply ai;simp [j_,I,o0,j7,-az];rw [←y,←i4];apply ai;simp [W,g5,v5,v7,o6,-az,aP (n:=c.min-d.min),aP (n:=c.min-d.min-b.len),f1,n9,aP (n:=lo)];apply ai;simp [Z,g5,v5,v7,o5,-az,aP (n:=c.min-d.min),aP (n:=c.min-d.min+a.len),aP (n:=c.min-d.min+a.len-1),f2];apply ai;simp;refine ay ?_;refine bI (fun n s=>∃(k:Int) (m:T) (J:an),s=⟨m,[],J⟩∧n=(u+1-k).toNat∧lo≤k∧(k=lo∨k≤u+1)∧m.g 0=.c (.yl bb)∧m.g 1=.c (.f (.fp a.row 0))∧m.g 2=.c (.f (.fp b.row 0))∧m.g 13=.c (.f (sl a.cg (aQ a.cs)))∧m.g 14=t.g 14∧m.g 15=t.g 15∧m.g 5=.c (.ptr O 0 0)∧m.g 7=.c (.ptr U 0 0)∧m.g 9=vi u∧m.g 10=vi k∧m.g 20=.c (.f (sl b.cg (aQ b.cs)))∧m.g 21=t'.g 21∧m.g 22=t'.g 22∧U<J.length∧J[O]?=aa (.box [.f (sl c.mg (aA c.ts)),.f (fi c.min)] 0)∧J[U]?=aa (.box [.f (sl d.mg (aA d.ts)),.f (fi d.min)] 0)∧∃ ps,PP ps J∧(∀ p ∈ ps,oz a b p)∧(∀(A:Nat) (hi:A<a.cs.length),A<i→∀ d ∈ b.cs,∀ k,wz a.len b.len a.cs[A] d≤k→k≤wc a.len b.len a.cs[A] d→∃ p ∈ ps,p.c=a.cs[A]∧p.d=d∧p.k=k) ∧
     (∀(N:Nat) (hj:N<b.cs.length),N<j→∀ k,wz a.len b.len c b.cs[N]≤k→k≤wc a.len b.len c b.cs[N]→∃ p ∈ ps,p.c=c∧p.d=b.cs[N]∧p.k=k)∧∀ k',lo≤k'→k'<k→∃ p ∈ ps,p.c=c∧p.d=d∧p.k=k') (u+1-lo).toNat
     ⟨lo,_,J1,rfl,rfl,by omega,.inl rfl,by simp [Y],by simp [Z],by simp [W],by simp [v],by simp [E],by simp [F],by simp [g5],by simp,by simp,by simp,by simp [I],by simp,by simp,by omega,f_,c7,ps,b_,z,l,q,fun k' _ _=>by omega⟩ ?_
    clear hP z l q b_ c5 f_ c7 v5 v7;rintro n s ⟨k,m,J2,rfl,rfl,k0,k1,Y,Z,W,v,E,F,g5,g7,g9,eh,I,a7,a8,v6,c5,c7,ps,hP,z,l,q,c9⟩ ih;apply au;apply ai;simp [g9,eh];by_cases r_:k≤u
    ·refine av (by simp [r_]) (aR ?_);obtain⟨v5,w5,x5⟩:=m5 J2 c5;obtain⟨v7,w7,x7⟩:=m7 J2 c7;have f8:unV .neg (vi k)=aa (vi (-k)):=by
      show aa (vi (IntKind.i64.wrap (0-k)))=_;rw [Int.zero_sub,aP]
     obtain⟨S,f7⟩:=aM (J2.length);have h_:∀(m:T) (B:an) (p:Pr),oz a b p→p.c=c→p.d=d→p.k=k→m.g 0=.c (.yl bb)→m.g 1=.c (.f (.fp a.row 0))→m.g 2=.c (.f (.fp b.row 0))→m.g 13=.c (.f (sl a.cg (aQ a.cs)))→m.g 14=t.g 14→m.g 15=t.g 15→m.g 5=.c (.ptr O 0 0)→m.g 7=.c (.ptr U 0 0)→m.g 9=vi u→m.g 10=vi k→m.g 11=.c (.ptr S 0 0)→m.g 20=.c (.f (sl b.cg (aQ b.cs)))→m.g 21=t'.g 21→m.g 22=t'.g 22 →
       B[S]?=aa (.box p.row 0)→(∀ i:Nat,i<J2.length→B[i]?=J2[i]?)→B.length=J2.length+1 →
       WP tab 66 ab [.code zw,.inBlock 5,.code zx,.inLoop zv,.inBlock 4,.inBlock 3,.code (rV 22 88),.inLoop (iR 2 22 21 23 88 zu),.inBlock 2,.inBlock 1,.code (rV 15 89),.inLoop (iR 0 15 14 16 89 CI),.inBlock 0] ⟨m,[],B⟩ Q:=by
      intro m B p i7 t4 t5 t6 Y Z W v E F g5 g7 g9 eh o8 I a7 a8 s_ i6 u9;have o_:PP ps B:=hk ps J2 B hP (fun i hi=>i6 i (by omega)) (by omega);obtain⟨r,J4,r8,hr⟩:=hy ps p B o_ (by omega) i7;have t7:p.row.length=8:=rfl;have tk:List.take 8 p.row=p.row:=rfl;have l8:aU B (aa 8) (.c (.ptr S 0 0))=aa (.a p.row):=by simp [aU,aH,s_,aW,t7,tk]
      apply au;refine aq (.inl rfl) ?_;simp [Y,o8,l8,-az,r8.eq];cases r with
      | false=>exact av (by simp) (aE (hQ _ _ (.t []) rfl rfl ⟨rfl,.inr ⟨p,i7,by simpa using hr⟩⟩))
      | true=>
      obtain⟨p8,u_,n6⟩:PP (ps++[p]) J4∧B.length≤J4.length∧∀ i:Nat,H.length≤i→i<B.length→J4[i]?=B[i]?:=by simpa using hr
      refine aF (by simp) (aR (ax ?_));refine aq (.inl rfl) ?_;simp [eh,aP (n:=k+1)];have n5:J4[O]?=J2[O]?:=by rw [n6 O (by omega) (by omega),i6 O (by omega)]
      have n7:J4[U]?=J2[U]?:=by rw [n6 U (by omega) (by omega),i6 U (by omega)]
      refine ih (u+1-(k+1)).toNat _ (by omega) ⟨k+1,_,J4,rfl,rfl,by omega,.inr (by omega),by simp [Y],by simp [Z],by simp [W],by simp [v],by simp [E],by simp [F],by simp [g5],by simp [g7],by simp [g9],by simp,by simp [I],by simp [a7],by simp [a8],by omega,by rw [n5];exact c5,by rw [n7];exact c7,ps++[p],p8,fun x X=>?_,fun A m_ c_ d' q_ k' h1 h2=>?_,fun N a_ c_ k' h1 h2=>?_,fun k' h1 h2=>?_⟩
      ·rcases anm.1 X with h | h
       ·exact z x h
       ·rw [OF]at h;rw [h];exact i7
      ·obtain⟨x,X,h⟩:=l A m_ c_ d' q_ k' h1 h2;exact⟨x,anO _ X,h⟩
      ·obtain⟨x,X,h⟩:=q N a_ c_ k' h1 h2;exact⟨x,anO _ X,h⟩
      ·by_cases e:k'=k
       ·exact⟨p,by simp,t4,t5,by rw [t6,e]⟩
       ·obtain⟨x,X,h⟩:=c9 k' h1 (by omega);exact⟨x,anO _ X,h⟩
     obtain⟨B,d9⟩:=aM (J2++[bV.box [.f (sl c.mg (aA c.ts)),.f (fi c.min),.f (sl d.mg (aA d.ts)),.f (fi d.min),.f (fi k),.f (sl c.mg (aA c.ts)),.f (sl d.mg (aA d.ts)),.f (fi (max 0 (-k)))] 0]);have g_:B[S]?=aa (.box [.f (sl c.mg (aA c.ts)),.f (fi c.min),.f (sl d.mg (aA d.ts)),.f (fi d.min),.f (fi k),.f (sl c.mg (aA c.ts)),.f (sl d.mg (aA d.ts)),.f (fi (max 0 (-k)))] 0):=by rw [d9,f7];simp
     have k3:∀ i:Nat,i<J2.length→B[i]?=J2[i]?:=fun i hi=>by rw [d9,AT hi]
     have l3:B.length=J2.length+1:=by rw [d9,ank];rfl
     obtain⟨-,-,t8⟩:=m5 B (by rw [k3 O (by omega)];exact c5);obtain⟨-,-,t9⟩:=m7 B (by rw [k3 U (by omega)];exact c7);apply au;refine ay ?_;apply ai;simp [g5,g7,eh,w5,x5,w7,x7,-az,f8];rw [←d9,←f7];apply au;apply ai;simp [eh];by_cases kp:0<k
     ·obtain⟨us,g',i_,i9,i8⟩:=wL d.mg d.ts e_ (-k) (by omega) (by omega);obtain⟨J4,K⟩:=aM (B.set S (.box [.f (sl c.mg (aA c.ts)),.f (fi c.min),.f (sl d.mg (aA d.ts)),.f (fi d.min),.f (fi k),.f (sl c.mg (aA c.ts)),.f (sl g' (cA us)),.f (fi (max 0 (-k)))] 0));have s6:cZ B (.ptr S 6 0) [.f (sl g' (cA us))]=aa J4:=by rw [K];simp [cZ,g_,over]
      refine av (by simp [kp]) ?_;refine aq (.inl rfl) ?_;simp [g7,eh,t9,-az,f8,i8,s6,-a6];apply au;apply ai;simp [eh,show¬ k<0 by omega];refine aX (by simp) ?_;have e:aA (us.map fun s=>⟨.fs,s⟩)=cA us:=by simp [aA,cA,cu.row]
      refine h_ _ J4 ⟨c,d,k,c.mg,c.ts,g',us.map fun s=>⟨.fs,s⟩⟩ ⟨L,M,by show wz a.len b.len c d≤k;omega,by show k≤wc a.len b.len c d;omega,d_,C6 i_,fun x X=>?_,fun x X=>?_⟩ rfl rfl rfl (by simp [Y]) (by simp [Z]) (by simp [W]) (by simp [v]) (by simp [E]) (by simp [F]) (by simp [g5]) (by simp [g7]) (by simp [g9]) (by simp [eh]) (by simp) (by simp [I]) (by simp [a7]) (by simp [a8]) ?_ (fun i hi=>by rw [K,sh (by omega)];exact k3 i hi) (by rw [K,anD];exact l3)
      ·show dU c.ts x↔dU c.ts (x+max 0 (-k));rw [show x+max 0 (-k)=x by omega]
      ·show dU (us.map fun s=>⟨.fs,s⟩) x↔dU d.ts (x+max 0 k);rw [C1,i9 x X,show x+max 0 k=x - -k by omega];rfl
      ·rw [K,BY (by omega)];simp [Pr.row,e]
     ·refine aX (by simp [kp]) ?_;apply au;apply ai;simp [eh];by_cases kn:k<0
      ·obtain⟨us,g',i_,i9,i8⟩:=wL c.mg c.ts d_ k (by omega) (by omega);obtain⟨J4,K⟩:=aM (B.set S (.box [.f (sl c.mg (aA c.ts)),.f (fi c.min),.f (sl d.mg (aA d.ts)),.f (fi d.min),.f (fi k),.f (sl g' (cA us)),.f (sl d.mg (aA d.ts)),.f (fi (max 0 (-k)))] 0));have s5:cZ B (.ptr S 5 0) [.f (sl g' (cA us))]=aa J4:=by rw [K];simp [cZ,g_,over]
       refine av (by simp [kn]) ?_;refine aq (.inl rfl) ?_;simp [g5,eh,t8,-az,i8,s5,-a6];have e:aA (us.map fun s=>⟨.fs,s⟩)=cA us:=by simp [aA,cA,cu.row]
       refine h_ _ J4 ⟨c,d,k,g',us.map fun s=>⟨.fs,s⟩,d.mg,d.ts⟩ ⟨L,M,by show wz a.len b.len c d≤k;omega,by show k≤wc a.len b.len c d;omega,C6 i_,e_,fun x X=>?_,fun x X=>?_⟩ rfl rfl rfl (by simp [Y]) (by simp [Z]) (by simp [W]) (by simp [v]) (by simp [E]) (by simp [F]) (by simp [g5]) (by simp [g7]) (by simp [g9]) (by simp [eh]) (by simp) (by simp [I]) (by simp [a7]) (by simp [a8]) ?_ (fun i hi=>by rw [K,sh (by omega)];exact k3 i hi) (by rw [K,anD];exact l3)
       ·show dU (us.map fun s=>⟨.fs,s⟩) x↔dU c.ts (x+max 0 (-k));rw [C1,i9 x X,show x+max 0 (-k)=x-k by omega];rfl
       ·show dU d.ts x↔dU d.ts (x+max 0 k);rw [show x+max 0 k=x by omega]
       ·rw [K,BY (by omega)];simp [Pr.row,e]
      ·refine aX (by simp [kn]) ?_;have u7:k=0:=by omega
       refine h_ _ B ⟨c,d,k,c.mg,c.ts,d.mg,d.ts⟩ ⟨L,M,by show wz a.len b.len c d≤k;omega,by show k≤wc a.len b.len c d;omega,d_,e_,fun x X=>?_,fun x X=>?_⟩ rfl rfl rfl (by simp [Y]) (by simp [Z]) (by simp [W]) (by simp [v]) (by simp [E]) (by simp [F]) (by simp [g5]) (by simp [g7]) (by simp [g9]) (by simp [eh]) (by simp) (by simp [I]) (by simp [a7]) (by simp [a8]) g_ k3 l3
       ·show dU c.ts x↔dU c.ts (x+max 0 (-k));rw [show x+max 0 (-k)=x by omega]
       ·show dU d.ts x↔dU d.ts (x+max 0 k);rw [show x+max 0 k=x by omega]
    ·refine aF (by simp;omega) ?_;refine bh rfl ?_;refine ax (j8 _ _ ⟨by simp [Y],by simp [Z],by simp [W],by simp [v],by simp [E],by simp [F],by simp [g5],by simp [I],by omega,c5,ps,hP,z,l,fun N a_ c_ k' h1 h2=>?_⟩ (by simp [a8,j_]) (by simp [a7,j9]));by_cases e:N=j
     ·subst e;rw [←l_]at h1 h2 ⊢;exact c9 k' (by omega) (by omega)
     ·exact q N a_ (by omega) k' h1 h2
   ·rintro t' J ⟨Y,Z,W,v,E,F,g5,I,n8,c5,ps,hP,z,l,q⟩ - -;refine ax (next _ _ ⟨by simp [Y],by simp [Z],by simp [W],by simp [v],by omega,ps,hP,z,fun A u c_ d hd k h1 h2=>?_⟩ (by simp [F,hc]) (by simp [E,p9]));by_cases e:A=i
    ·subst e;rw [←k_]at h1 h2 ⊢;obtain⟨N,a_,rfl⟩:=anB hd;exact q N a_ a_ k h1 h2
    ·exact l A u (by omega) d hd k h1 h2
  ·rintro t J ⟨Y,Z,W,v,o9,ps,hP,z,l⟩ - -;exact cK (hQ _ _ _ rfl rfl ⟨rfl,.inl ⟨ps,hP,z,fun c hc d hd k h1 h2=>by
    obtain⟨A,u,rfl⟩:=anB hc;exact l A u u d hd k h1 h2⟩⟩)
 exact⟨H2,he,hP⟩
theorem Ke{bb:Nat}{H:an}(a b:aN)(v:iP a)(x:iP b)(PP:List Pr→an→Prop)(j:PP [] H)
  (z:∀ ps J J',PP ps J→(∀ i:Nat,i<H.length→J'[i]?=J[i]?)→J.length≤J'.length→PP ps J')
  (A:∀ ps p J,PP ps J→H.length≤J.length→oz a b p→∃ J',Ev tab (.yield bb) [.a p.row] J (vb ae) J'∧PP (ps++[p]) J'∧J.length≤J'.length∧∀ i:Nat,H.length≤i→i<J.length→J'[i]?=J[i]?) :
  ∃ g,Ev tab (.fn 66) [.c (.yl bb),.c (.f (.fp a.row 0)),.c (.f (.fp b.row 0))] H (.t []) g∧∃ ps,PP ps g∧(∀ p ∈ ps,oz a b p)∧∀ c ∈ a.cs,∀ d ∈ b.cs,∀ k,wz a.len b.len c d≤k→k≤wc a.len b.len c d→∃ p ∈ ps,p.c=c∧p.d=d∧p.k=k:=by
 obtain⟨g,y,h | ⟨_,_,h⟩⟩:=oE a b v x PP (fun _ _=>False) j z fun ps p J l m q=>by
  obtain⟨J',s,u⟩:=A ps p J l m q;exact⟨ae,J',s,by simpa using u⟩
 ·exact⟨g,y,h⟩
 ·exact h.elim
def jT(s:aN)(x y:aB):Prop:=(∃ c ∈ s.cs,∃ d,0≤d∧dU c.ts d∧y=cJ s.len c.min d)∧x.fr<y.to∧y.fr<x.to
theorem V'{ts:List cu}(j:iD ts=ae){d:Int}(g:0≤d):AF ts d=ae↔dU ts d:=by
 unfold AF dU;rw [j,Bool.true_and,List.any_eq_true];constructor
 ·rintro⟨t,b,h⟩;exact⟨t,b,(im g).1 h⟩
 ·rintro⟨t,b,h⟩;exact⟨t,b,(im g).2 h⟩
theorem oF(s:aN)(x:aB):bW tab 38 [.a (s.row.map .f),.a (x.row.map .f)]=Eq (.c (.f (.fn 71 [.fp s.row 0,.fp x.row 0]))):=by
 refine bW.eq (cd rfl rfl fun Q b=>?_);apply ai;simp [aN.row,aB.row];apply ai;simp;refine aE (b _ _ ?_);simp [deep,aN.row,aB.row]
theorem uA{bb:Nat}{H:an}(s:aN)(hs:iP s)(x:aB)(x0:-1000000000000≤x.fr)(x1:x.to≤1000000000000)(x2:x.fr<x.to)(PP:List aB→an→Prop)(RR:aB→an→Prop)(h0:PP [] H)
  (hk:∀ ps J J',PP ps J→(∀ i:Nat,i<H.length→J'[i]?=J[i]?)→J.length≤J'.length→PP ps J')
  (hy:∀ ps y J,PP ps J→H.length≤J.length→jT s x y→∃(r:Bool) (J':an),Ev tab (.yield bb) [.a (y.row.map .f)] J (vb r) J'∧(if r then PP (ps++[y]) J'∧J.length≤J'.length∧∀ i:Nat,H.length≤i→i<J.length→J'[i]?=J[i]? else RR y J')) :
  ∃ O,Ev tab (.fn 71) [.c (.yl bb),.c (.f (.fp s.row 0)),.c (.f (.fp x.row 0))] H (.t []) O∧((∃ ys,PP ys O∧∀ y,y ∈ ys↔jT s x y)∨∃ y,jT s x y∧RR y O):=by
 obtain⟨m9,m_⟩:=hs.ok.len;have j_:=hs.cn;have h_:∀ H:an,bu H (.f (sl s.cg (aQ s.cs)))=aa s.cs.length:=fun H=>by simp
 have c_:∀(J:an),aU J ab (.c (.f (.fp s.row 0)))=aa (.c (.f (sl s.cg (aQ s.cs))))∧aU J ab (.c (.f (.fp s.row 1)))=aa (vi s.len)∧aU J (aa 3) (.c (.f (.fp s.row 0)))=aa (.a [.f (sl s.cg (aQ s.cs)),.f (fi s.len),.f (sl s.xg (aD s.xs))]):=fun J=>⟨rfl,rfl,rfl⟩
 have g_:∀(J:an),aU J ab (.c (.f (.fp x.row 1)))=aa (vi x.fr)∧aU J ab (.c (.f (.fp x.row 2)))=aa (vi x.to):=fun J=>⟨rfl,rfl⟩
 obtain⟨r,O,he,rfl,L⟩:∃ r O,Ev tab (.fn 71) [.c (.yl bb),.c (.f (.fp s.row 0)),.c (.f (.fp x.row 0))] H r O∧(r=.t []∧((∃ ys,PP ys O∧∀ y,y ∈ ys↔jT s x y)∨∃ y,jT s x y∧RR y O)):=by
  refine cM rfl rfl fun Q hQ=>?_;apply ai;simp [c_,h_];refine b7 s.cs.length (fun i t J=>t.g 0=.c (.yl bb)∧t.g 1=.c (.f (.fp s.row 0))∧t.g 2=.c (.f (.fp x.row 0))∧t.g 8=.c (.f (sl s.cg (aQ s.cs)))∧H.length≤J.length∧∃ ys,PP ys J∧∀ y,y ∈ ys↔(∃(b:Nat) (h:b<s.cs.length),b<i∧∃ d,0≤d∧dU s.cs[b].ts d∧y=cJ s.len s.cs[b].min d)∧x.fr<y.to∧y.fr<x.to) (by omega) (by decide) (by decide) (by simp) (by simp)
   ⟨by simp,by simp,by simp,by simp,anl _,[],h0,fun y=>⟨fun h=>by simp at h,fun⟨⟨b,_,h,_⟩,_⟩=>by omega⟩⟩ ?_ ?_
  ·rintro i t J hi ⟨S,I,K,U,i4,ys,L,m⟩ hc hb next
   have f_:=fun H:an=>bG (H:=H) (g:=s.cg) (rows:=aQ s.cs) (sz:=2) (k:=.i64) (i:=(i:Int)) (by omega) (by simp;omega);have c9:=fun H:an=>cH (H:=H) (dh s.cs) (eU hi);simp only [anJ]at f_;have i7:=hs.ok.min (IS hi);have a_:=hs.few _ (IS hi);have B:=IS hi;obtain⟨c,W⟩:=aM (s.cs[i]);rw [←W]at c9 i7 a_ B;simp only [cm.row,ano,anC]at c9;obtain⟨q,a8⟩:=aM (J.length);obtain⟨J1,A⟩:=aM (J++[bV.box [.f (sl c.mg (aA c.ts)),.f (fi c.min)] 0]);have Z:J1[q]?=aa (.box [.f (sl c.mg (aA c.ts)),.f (fi c.min)] 0):=by rw [A,a8];simp
   have d9:PP ys J1:=hk ys J J1 L (fun i hi=>by rw [A,AT (by omega)]) (by rw [A,ank];omega);have l_:J1.length=q+1:=by rw [A,ank,a8];rfl
   have m5:∀ J:an,J[q]?=aa (.box [.f (sl c.mg (aA c.ts)),.f (fi c.min)] 0)→aU J ab (.c (.ptr q 1 0))=aa (vi c.min)∧aU J (aa 2) (.c (.ptr q 0 0))=aa (.a [.f (sl c.mg (aA c.ts)),.f (fi c.min)])∧aU J (aa 1) (.c (.ptr q 0 0))=aa (.a [.f (sl c.mg (aA c.ts))]):=fun J h=>by refine⟨?_,?_,?_⟩<;>simp [aU,aH,h,aW]
   obtain⟨v5,-,-⟩:=m5 J1 Z;have f1:=jW (x.fr-s.len-c.min) (by omega) (by omega);obtain⟨n0,j4⟩:=aM (max 0 ((x.fr-s.len-c.min) / 1440+1));have j9:max 0 ((x.fr-s.len-c.min) / 1440+1)=n0:=j4.symm;refine ay ?_;apply ai;simp [hc,U,f_,c9,-az];rw [←A,←a8];apply ai;simp [I,K,v5,c_,g_,-az,aP (n:=x.fr-s.len),aP (n:=x.fr-s.len-c.min),f1,aP (n:=(x.fr-s.len-c.min) / 1440+1),j9];refine ay ?_;refine bI (fun n st=>∃(d:Int) (M:T) (J:an),st=⟨M,[],J⟩∧n=(x.to-(d*1440+c.min)).toNat∧n0≤d∧d≤1000000000∧M.g 0=.c (.yl bb)∧M.g 1=.c (.f (.fp s.row 0))∧M.g 2=.c (.f (.fp x.row 0))∧M.g 8=.c (.f (sl s.cg (aQ s.cs)))∧M.g 9=t.g 9∧M.g 10=t.g 10∧M.g 5=.c (.ptr q 0 0)∧M.g 6=vi d∧q<J.length∧J[q]?=aa (.box [.f (sl c.mg (aA c.ts)),.f (fi c.min)] 0)∧∃ ys,PP ys J∧∀ y,y ∈ ys↔((∃(b:Nat) (h:b<s.cs.length),b<i∧∃ d,0≤d∧dU s.cs[b].ts d∧y=cJ s.len s.cs[b].min d)∧x.fr<y.to∧y.fr<x.to)∨∃ d',n0≤d'∧d'<d∧d'*1440+c.min<x.to∧dU c.ts d'∧y=cJ s.len c.min d') (x.to-(n0*1440+c.min)).toNat
    ⟨n0,_,J1,rfl,rfl,Int.le_refl _,by omega,by simp [S],by simp [I],by simp [K],by simp [U],by simp,by simp,by simp,by simp,by omega,Z,ys,d9,fun y=>by rw [m];exact⟨.inl,fun h=>h.elim id fun⟨d',u,v,_⟩=>by omega⟩⟩ ?_
   clear L m d9 Z v5;rintro n st ⟨d,M,J2,rfl,rfl,d0,d1,S,I,K,U,g9,eh,g5,g6,e_,Z,ys,L,m⟩ ih;obtain⟨v5,w5,z5⟩:=m5 J2 Z;apply au;apply ai;simp [K,g5,g6,v5,g_,-az,aP (n:=d*1440),aP (n:=d*1440+c.min)];by_cases b_:d*1440+c.min<x.to
   ·refine av (by simp [b_]) (aR ?_);have E:=acB c.mg c.ts a_.mix d (by unfold Day;omega);have F:=V' a_.mix (show 0≤d by omega);obtain⟨i6,i9⟩:=aM (AF c.ts d);rw [←i9]at E F;have f8:=mj (sl s.cg (aQ s.cs)) (sl s.xg (aD s.xs)) (sl c.mg (aA c.ts)) s.len c.min d (by unfold jR;omega) (by unfold jR;omega) (by unfold jR;omega);have Y:∀(N:T) (z:an) (zs:List aB),N.g 0=.c (.yl bb)→N.g 1=.c (.f (.fp s.row 0))→N.g 2=.c (.f (.fp x.row 0))→N.g 8=.c (.f (sl s.cg (aQ s.cs)))→N.g 9=t.g 9→N.g 10=t.g 10→N.g 5=.c (.ptr q 0 0)→N.g 6=vi d→q<z.length→z[q]?=aa (.box [.f (sl c.mg (aA c.ts)),.f (fi c.min)] 0)→PP zs z→(∀ y,y ∈ zs↔y ∈ ys∨(dU c.ts d∧y=cJ s.len c.min d)) →
      WP tab 71 ab [.code zz,.inLoop zy,.inBlock 2,.inBlock 1,.code (rV 10 50),.inLoop (iR 0 10 9 11 50 CJ),.inBlock 0] ⟨N,[],z⟩ Q:=by
     intro N z zs S I K U g9 eh g5 g6 d_ c3 a7 j8;refine aq (.inl rfl) ?_;simp [g6,aP (n:=d+1)];refine ih (x.to-((d+1)*1440+c.min)).toNat _ (by omega) ⟨d+1,_,z,rfl,rfl,by omega,by omega,by simp [S],by simp [I],by simp [K],by simp [U],by simp [g9],by simp [eh],by simp [g5],by simp,d_,c3,zs,a7,fun y=>?_⟩;rw [j8,m];constructor
     ·rintro((h | ⟨d',u,v,j,l⟩) | ⟨u,v⟩)
      ·exact .inl h
      ·exact .inr ⟨d',u,by omega,j,l⟩
      ·exact .inr ⟨d,d0,by omega,b_,u,v⟩
     ·rintro(h | ⟨d',u,v,j,l,h5⟩)
      ·exact .inl (.inl h)
      ·by_cases e:d'=d
       ·subst e;exact .inr ⟨l,h5⟩
       ·exact .inl (.inr ⟨d',u,by omega,j,l,h5⟩)
    apply au;refine ay ?_;cases i6 with
    | false=>
     have j7:¬ dU c.ts d:=fun h=>by have:=F.2 h;cases this
     apply ai;simp [g5,g6,z5,-az,E];refine aF (by simp) (aR (ax ?_));exact Y _ J2 ys (by simp [S]) (by simp [I]) (by simp [K]) (by simp [U]) (by simp [g9]) (by simp [eh]) (by simp [g5]) (by simp [g6]) e_ Z L fun y=>⟨.inl,fun h=>h.elim id fun h=>absurd h.1 j7⟩
    | true=>
     have X:=F.1 rfl;have f7:jT s x (cJ s.len c.min d):=⟨⟨c,B,d,by omega,X,rfl⟩,by show x.fr<d*1440+c.min+s.len;omega,by show d*1440+c.min<x.to;omega⟩
     obtain⟨r,z,i8,hr⟩:=hy ys (cJ s.len c.min d) J2 L (by omega) f7;apply ai;simp [S,I,g5,g6,z5,w5,c_,-az,E,f8,i8.eq];cases r with
     | false=>exact av (by simp) (aE (hQ _ _ (.t []) rfl rfl ⟨rfl,.inr ⟨_,f7,by simpa using hr⟩⟩))
     | true=>
     obtain⟨a7,d_,i_⟩:PP (ys++[cJ s.len c.min d]) z∧J2.length≤z.length∧∀ i:Nat,H.length≤i→i<J2.length→z[i]?=J2[i]?:=by simpa using hr
     refine aF (by simp) (aR (ax ?_));exact Y _ z (ys++[cJ s.len c.min d]) (by simp [S]) (by simp [I]) (by simp [K]) (by simp [U]) (by simp [g9]) (by simp [eh]) (by simp [g5]) (by simp [g6]) (by omega) (by rw [i_ q (by omega) e_];exact Z) a7 fun y=>by
      rw [anm,OF];exact⟨fun h=>h.imp id fun h=>⟨X,h⟩,fun h=>h.imp id fun h=>h.2⟩
   ·refine aF (by simp [b_]) ?_;refine bh rfl ?_;refine ax (next _ _ ⟨by simp [S],by simp [I],by simp [K],by simp [U],by omega,ys,L,fun y=>?_⟩ (by simp [eh,hc]) (by simp [g9,hb]));rw [m];constructor
    ·rintro(⟨⟨b,h,u,v⟩,j⟩ | ⟨d',u,v,j,l,rfl⟩)
     ·exact⟨⟨b,h,by omega,v⟩,j⟩
     ·refine⟨⟨i,hi,by omega,d',by omega,by rw [←W];exact l,by rw [←W]⟩,?_,j⟩;show x.fr<d'*1440+c.min+s.len;omega
    ·rintro⟨⟨b,h,u,d',v,j,l⟩,h5,h6⟩;by_cases e:b=i
     ·subst e;rw [←W]at j l;rw [l]at h5 h6;have k_:x.fr<d'*1440+c.min+s.len:=h5;have i3:d'*1440+c.min<x.to:=h6;exact .inr ⟨d',by omega,by omega,i3,j,l⟩
     ·exact .inl ⟨⟨b,h,by omega,d',v,j,l⟩,h5,h6⟩
  ·rintro t J ⟨S,I,K,U,i4,ys,L,m⟩ - -;refine cK (hQ _ _ _ rfl rfl ⟨rfl,.inl ⟨ys,L,fun y=>?_⟩⟩);rw [m];unfold jT;constructor
   ·rintro⟨⟨b,h,-,d,u,v,j⟩,l⟩;exact⟨⟨_,IS h,d,u,v,j⟩,l⟩
   ·rintro⟨⟨c,hc,d,u,v,j⟩,l⟩;obtain⟨b,h,rfl⟩:=anB hc;exact⟨⟨b,h,h,d,u,v,j⟩,l⟩
 exact⟨O,he,L⟩
theorem wX{bb:Nat}{H:an}(s:aN)(z:iP s)(x:aB)(B:-1000000000000≤x.fr)(E:x.to≤1000000000000)(F:x.fr<x.to)(PP:List aB→an→Prop)(d:PP [] H)
  (v:∀ ps J J',PP ps J→(∀ i:Nat,i<H.length→J'[i]?=J[i]?)→J.length≤J'.length→PP ps J')
  (A:∀ ps y J,PP ps J→H.length≤J.length→jT s x y→∃ J',Ev tab (.yield bb) [.a (y.row.map .f)] J (vb ae) J'∧PP (ps++[y]) J'∧J.length≤J'.length∧∀ i:Nat,H.length≤i→i<J.length→J'[i]?=J[i]?) :
  ∃ b,Ev tab (.fn 71) [.c (.yl bb),.c (.f (.fp s.row 0)),.c (.f (.fp x.row 0))] H (.t []) b∧∃ ys,PP ys b∧∀ y,y ∈ ys↔jT s x y:=by
 obtain⟨b,u,h | ⟨_,_,h⟩⟩:=uA s z x B E F PP (fun _ _=>False) d v fun ps y J g j l=>by
  obtain⟨J',m,q⟩:=A ps y J g j l;exact⟨ae,J',m,by simpa using q⟩
 ·exact⟨b,u,h⟩
 ·exact h.elim
section
structure TK(fr kH:Int)(found:Bool)(X Y:aB)(H:an):Prop where
 h2:H[2]?=aa (.box [.f (fi fr)] 0)
 h5:H[5]?=aa (.box [.f (fi X.day),.f (fi X.fr),.f (fi X.to)] 0)
 h6:H[6]?=aa (.box [.f (fi Y.day),.f (fi Y.fr),.f (fi Y.to)] 0)
 h7:H[7]?=aa (.box [.f (fi kH)] 0)
 h8:H[8]?=aa (.box [.f (.bool found)] 0)
theorem TK.ba{fr kH:Int}{found:Bool}{X Y:aB}{H H':an}(h:TK fr kH found X Y H)(b:∀ i:Nat,i<9→H'[i]?=H[i]?):TK fr kH found X Y H':=
 ⟨by rw [b 2 (by omega)];exact h.h2,by rw [b 5 (by omega)];exact h.h5,by rw [b 6 (by omega)];exact h.h6,by rw [b 7 (by omega)];exact h.h7,by rw [b 8 (by omega)];exact h.h8⟩
def kD(b:Int)(x y:aB):Int:=max (max x.fr y.fr) b
def okB(b:Int)(x y:aB):Prop:=x.to≤2251799813685248∧y.to≤2251799813685248∧kD b x y<min x.to y.to
def ltB(d b:Int)(x y X Y:aB):Prop:=Ce [gw (kD d x y) b,eM x X,eM y Y]<0
open Classical in
noncomputable def ib (d b:Int) (found:Bool) (x y X Y:aB):Bool:=decide (okB d x y∧(found=ag∨ltB d b x y X Y))
theorem W9(g b:Int)(found:Bool)(X Y x y:aB)(H:an)(h:TK g b found X Y H) :
  ∃ H',Ev tab (.fn 31) [.a (x.row.map .f),.a (y.row.map .f),.c (.ptr 2 0 0),.c (.ptr 8 0 0),.c (.ptr 7 0 0),.c (.ptr 5 0 0),.c (.ptr 6 0 0)] H (.t []) H' ∧
   TK g (if ib g b found x y X Y then kD g x y else b) (found||ib g b found x y X Y) (if ib g b found x y X Y then x else X) (if ib g b found x y X Y then y else Y) H'∧H.length≤H'.length∧∀ i:Nat,i<H.length→i<5∨8<i→H'[i]?=H[i]?:=by
 have l8:=aj h.h8;have c_:max (max x.fr y.fr) g=kD g x y:=rfl;obtain⟨r,H',he,rfl,hP⟩:∃ r H',Ev tab (.fn 31) [.a (x.row.map .f),.a (y.row.map .f),.c (.ptr 2 0 0),.c (.ptr 8 0 0),.c (.ptr 7 0 0),.c (.ptr 5 0 0),.c (.ptr 6 0 0)] H r H'∧(r=.t [] ∧
   TK g (if ib g b found x y X Y then kD g x y else b) (found||ib g b found x y X Y) (if ib g b found x y X Y then x else X) (if ib g b found x y X Y then y else Y) H'∧H.length≤H'.length∧∀ i:Nat,i<H.length→i<5∨8<i→H'[i]?=H[i]?):=by
  have o1:=qd x X;have o2:=qd y Y;simp only [aB.row,ano,anC]at o1 o2;have ho:=aef .fs [gw (kD g x y) b,eM x X,eM y Y] (by simp);simp [ints,sl,Tg.fc]at ho;have W:=tr (kD g x y) b;refine cM rfl rfl fun Q hQ=>?_;apply ai;simp [aB.row];obtain⟨d,q⟩:=aM (H++[bV.box [.f (fi x.day),.f (fi x.fr),.f (fi x.to)] 0,.box [.f (fi y.day),.f (fi y.fr),.f (fi y.to)] 0]);obtain⟨m,M⟩:=aM (H.length);have hT:TK g b found X Y d:=h.ba fun i hi=>by rw [q,AT (by omega)]
  have c7:d[m]?=aa (.box [.f (fi x.day),.f (fi x.fr),.f (fi x.to)] 0):=by rw [q,M];simp
  have c8:d[m+1]?=aa (.box [.f (fi y.day),.f (fi y.fr),.f (fi y.to)] 0):=by rw [q,M,ann (by omega)];simp
  have kA:∀ i:Nat,i<H.length→d[i]?=H[i]?:=fun i hi=>by rw [q,AT hi]
  have lA:d.length=m+2:=by rw [q,ank,M];rfl
  rw [←q,←M];have m7:∀ J:an,J[m]?=aa (.box [.f (fi x.day),.f (fi x.fr),.f (fi x.to)] 0)→aU J ab (.c (.ptr m 1 0))=aa (vi x.fr)∧aU J ab (.c (.ptr m 2 0))=aa (vi x.to)∧aU J (aa 3) (.c (.ptr m 0 0))=aa (.a [.f (fi x.day),.f (fi x.fr),.f (fi x.to)]):=fun J h=>by refine⟨?_,?_,?_⟩<;>simp [aU,aH,h,aW]
  have m8:∀ J:an,J[m+1]?=aa (.box [.f (fi y.day),.f (fi y.fr),.f (fi y.to)] 0)→aU J ab (.c (.ptr (m+1) 1 0))=aa (vi y.fr)∧aU J ab (.c (.ptr (m+1) 2 0))=aa (vi y.to)∧aU J (aa 3) (.c (.ptr (m+1) 0 0))=aa (.a [.f (fi y.day),.f (fi y.fr),.f (fi y.to)]):=fun J h=>by refine⟨?_,?_,?_⟩<;>simp [aU,aH,h,aW]
  obtain⟨x1,x2,x3⟩:=m7 d c7;obtain⟨y1,y2,y3⟩:=m8 d c8;have g_:aU d ab (.c (.ptr 2 0 0))=aa (vi g):=by simp [aU,aH,hT.h2]
  have f_:aU d ab (.c (.ptr 7 0 0))=aa (vi b):=by simp [aU,aH,hT.h7]
  have h_:aU d (aa 3) (.c (.ptr 5 0 0))=aa (.a [.f (fi X.day),.f (fi X.fr),.f (fi X.to)]):=by simp [aU,aH,hT.h5,aW]
  have i3:aU d (aa 3) (.c (.ptr 6 0 0))=aa (.a [.f (fi Y.day),.f (fi Y.fr),.f (fi Y.to)]):=by simp [aU,aH,hT.h6,aW]
  have d9:aU d ab (.c (.ptr 8 0 0))=aa (vb found):=by simp [aU,aH,hT.h8]
  obtain⟨l,L⟩:=aM (kD g x y);rw [←L]at c_ ho W;have no:∀(t:T) (J:an),ib g b found x y X Y=ag→(∀ i:Nat,i<d.length→J[i]?=d[i]?)→d.length≤J.length→(∀ j:Option aw,Q j ⟨t,[],J⟩):=by
   intro t J hu hJ hl j;refine hQ _ _ _ rfl rfl ⟨rfl,?_,by show H.length≤J.length;omega,fun i hi _=>by show J[i]?=_;rw [hJ i (by omega),kA i hi]⟩;rw [hu];simpa using hT.ba fun i hi=>hJ i (by omega)
  apply ai;simp [x1,y1,g_,-az,wH,c_]
  suffices a8:∀ t:T,t.g 3=.c (.ptr 8 0 0)→t.g 4=.c (.ptr 7 0 0)→t.g 5=.c (.ptr 5 0 0)→t.g 6=.c (.ptr 6 0 0)→t.g 7=.c (.ptr m 0 0)→t.g 8=.c (.ptr (m+1) 0 0)→t.g 9=vi l→WP tab 31 ab [.code UI] ⟨t,[],d⟩ Q by exact a8 _ (by simp) (by simp) (by simp) (by simp) (by simp) (by simp) (by simp)
  intro t g3 S g5 g6 u v A;have N:okB g x y↔(x.to≤2251799813685248∧y.to≤2251799813685248∧l<min x.to y.to):=by rw [L];rfl
  have z:¬ okB g x y→ib g b found x y X Y=ag:=fun h=>by unfold ib;simp [h]
  apply au;apply ai;by_cases c1:2251799813685248<x.to
  ·simp [u,x2,c1,-az];refine av (by simp) ?_;exact aE (no _ d (z fun h=>by have:=(N.1 h).1;omega) (fun _ _=>rfl) (anl _) _)
  by_cases c2:2251799813685248<y.to
  ·simp [u,v,x2,y2,c1,c2,-az];refine av (by simp) ?_;exact aE (no _ d (z fun h=>by have:=(N.1 h).2.1;omega) (fun _ _=>rfl) (anl _) _)
  by_cases c3:min x.to y.to≤l
  ·simp [u,v,A,x2,y2,c1,c2,c3,-az];refine av (by simp) ?_;exact aE (no _ d (z fun h=>by have:=(N.1 h).2.2;omega) (fun _ _=>rfl) (anl _) _)
  have Z:okB g x y:=N.2 ⟨by omega,by omega,by omega⟩;simp [u,v,A,x2,y2,c1,c2,c3,-az];refine aX (by simp) ?_;have d_:∀(t:T) (J:an),ib g b found x y X Y=ae→t.g 3=.c (.ptr 8 0 0)→t.g 4=.c (.ptr 7 0 0)→t.g 5=.c (.ptr 5 0 0)→t.g 6=.c (.ptr 6 0 0)→t.g 7=.c (.ptr m 0 0)→t.g 8=.c (.ptr (m+1) 0 0)→t.g 9=vi l→(∀ i:Nat,i<d.length→J[i]?=d[i]?)→d.length≤J.length→WP tab 31 ab [.code CV] ⟨t,[],J⟩ Q:=by
   intro t J hu g3 S g5 g6 u v A hJ hl;have s:=hT.ba (H':=J) fun i hi=>hJ i (by omega);have d7:J[m]?=aa (.box [.f (fi x.day),.f (fi x.fr),.f (fi x.to)] 0):=by rw [hJ m (by omega)];exact c7
   have d8:J[m+1]?=aa (.box [.f (fi y.day),.f (fi y.fr),.f (fi y.to)] 0):=by rw [hJ (m+1) (by omega)];exact c8
   obtain⟨-,-,x3⟩:=m7 J d7;obtain⟨-,-,y3⟩:=m8 J d8;obtain⟨O,E⟩:=aM (J.set 7 (.box [.f (fi l)] 0));have s1:cZ J (.ptr 7 0 0) [.f (fi l)]=aa O:=by rw [E];simp [cZ,s.h7,over]
   have k1:∀ i:Nat,i≠7→O[i]?=J[i]?:=fun i hi=>by rw [E,sh (Ne.symm hi)]
   have n1:O.length=J.length:=by rw [E];simp
   obtain⟨J2,F⟩:=aM (O.set 5 (.box [.f (fi x.day),.f (fi x.fr),.f (fi x.to)] 0));have s2:cZ O (.ptr 5 0 0) [.f (fi x.day),.f (fi x.fr),.f (fi x.to)]=aa J2:=by rw [F];simp [cZ,k1 5 (by omega),s.h5,over]
   have k2:∀ i:Nat,i≠5→J2[i]?=O[i]?:=fun i hi=>by rw [F,sh (Ne.symm hi)]
   have n2:J2.length=J.length:=by rw [F];simp [n1]
   obtain⟨J3,I⟩:=aM (J2.set 6 (.box [.f (fi y.day),.f (fi y.fr),.f (fi y.to)] 0));have s3:cZ J2 (.ptr 6 0 0) [.f (fi y.day),.f (fi y.fr),.f (fi y.to)]=aa J3:=by rw [I];simp [cZ,k2 6 (by omega),k1 6 (by omega),s.h6,over]
   have k3:∀ i:Nat,i≠6→J3[i]?=J2[i]?:=fun i hi=>by rw [I,sh (Ne.symm hi)]
   have n3:J3.length=J.length:=by rw [I];simp [n2]
   obtain⟨J4,K⟩:=aM (J3.set 8 (.box [.f (.bool ae)] 0));have s4:cZ J3 (.ptr 8 0 0) [.f (.bool ae)]=aa J4:=by rw [K];simp [cZ,k3 8 (by omega),k2 8 (by omega),k1 8 (by omega),s.h8,over]
   have k4:∀ i:Nat,i≠8→J4[i]?=J3[i]?:=fun i hi=>by rw [K,sh (Ne.symm hi)]
   have i9:=aj s.h7;have i_:8<m:=by omega
   obtain⟨-,-,i4⟩:=m7 O (by rw [k1 m (by omega)];exact d7);obtain⟨-,-,i6⟩:=m8 O (by rw [k1 (m+1) (by omega)];exact d8);obtain⟨-,-,i7⟩:=m8 J2 (by rw [k2 (m+1) (by omega),k1 (m+1) (by omega)];exact d8);refine ew (.inl rfl) ?_ ?_
   case refine_2=>
    intro cc f7;have e_:cc=(1,4)∨cc=(2,4)∨cc=(2,5):=by simpa using f7
    rcases e_ with rfl | rfl | rfl
    ·refine⟨by decide,_,rfl,.inl ⟨by decide,?_⟩⟩;simp [S,u,v,A,x3,y3,i4,s1,-az,-a6,fE,V.beq,C.beq,FC.beq]
    ·refine⟨by decide,_,rfl,.inl ⟨by decide,?_⟩⟩;simp [S,u,v,A,x3,y3,i6,s1,-az,-a6,fE,V.beq,C.beq,FC.beq]
    ·refine⟨by decide,_,rfl,.inl ⟨by decide,?_⟩⟩;simp [S,g5,u,v,A,x3,y3,i7,s1,s2,-az,-a6,fE,V.beq,C.beq,FC.beq]
   simp [g3,S,g5,g6,u,v,A,x3,y3,s1,s2,s3,s4,-az,-a6];refine cK (hQ _ _ _ rfl rfl ⟨rfl,?_,by show H.length≤J4.length;rw [K];simp;omega,fun i hi i8=>?_⟩)
   ·rw [hu];simp only [if_true,Bool.or_true];rw [←L];refine⟨?_,?_,?_,?_,?_⟩
    ·rw [k4 2 (by omega),k3 2 (by omega),k2 2 (by omega),k1 2 (by omega)];exact s.h2
    ·rw [k4 5 (by omega),k3 5 (by omega),F];exact BY (by omega)
    ·rw [k4 6 (by omega),I];exact BY (by omega)
    ·rw [k4 7 (by omega),k3 7 (by omega),k2 7 (by omega),E];exact BY (by omega)
    ·rw [K];exact BY (by omega)
   ·show J4[i]?=_;rw [k4 i (by omega),k3 i (by omega),k2 i (by omega),k1 i (by omega),hJ i (by omega),kA i hi]
  apply au;cases found with
  | false=>
   refine aq (.inl rfl) ?_;simp [g3,d9,-az];refine av (by simp) ?_;exact d_ _ d (by unfold ib;simp [Z]) (by simp [g3]) (by simp [S]) (by simp [g5]) (by simp [g6]) (by simp [u]) (by simp [v]) (by simp [A]) (fun _ _=>rfl) (anl _)
  | true=>
   obtain⟨HB,B⟩:=aM (d++[bV.box [.f (fi (gw l b)),.f (fi (eM x X)),.f (fi (eM y Y))] 0]);have b_:HB[d.length]?=aa (.box [.f (fi (gw l b)),.f (fi (eM x X)),.f (fi (eM y Y))] 0):=by rw [B];simp
   have c9:eL 64 HB (.sl d.length 0 3 3 0 1)=aa (.fs [fi (gw l b),fi (eM x X),fi (eM y Y)] 3):=by
    rw [show(64:Nat)=63+1 from rfl];simp only [jz,b_];rfl
   obtain⟨HC,a_⟩:=aM (fo 64 (.sl d.length 0 3 3 0 1) HB);have U:HC=HB.set d.length (.box [.f (fi (gw l b)),.f (fi (eM x X)),.f (fi (eM y Y))] 3):=by
    rw [a_,show(64:Nat)=63+1 from rfl];simp only [pW,b_];rfl
   have kC:∀ i:Nat,i<d.length→HC[i]?=d[i]?:=fun i hi=>by rw [U,sh (by omega),B,AT hi]
   have lC:d.length≤HC.length:=by rw [U,anD,B,ank];omega
   have a7:Ce [gw l b,eM x X,eM y Y]<0↔ltB g b x y X Y:=by unfold ltB;rw [←L]
   obtain⟨oo,f8⟩:=aM (Ce [gw l b,eM x X,eM y Y]);rw [←f8]at ho a7;refine aq (.inl rfl) ?_;simp [g3,S,g5,g6,u,v,A,d9,f_,h_,i3,x3,y3,-az,W,o1,o2,←B,c9,deep,ho,←a_];by_cases k:oo<0
   ·refine av (by simp [k]) ?_;exact d_ _ HC (by unfold ib;simp [Z,a7.1 k]) (by simp [g3]) (by simp [S]) (by simp [g5]) (by simp [g6]) (by simp [u]) (by simp [v]) (by simp [A]) kC lC
   ·refine aX (by simp [k]) ?_;exact cK (no _ HC (by unfold ib;simp [show¬ ltB g b x y X Y from fun h=>k (a7.2 h)]) kC lC ab)
 exact⟨H',he,hP⟩
end
def yS(b:Int)(x y X Y:aB):Prop:=kD b x y<kD b X Y∨kD b x y=kD b X Y∧(x.lt X∨(x.fr=X.fr∧x.day=X.day∧x.to=X.to)∧y.lt Y)
theorem wN(x y:aB):eM x y=0↔x.fr=y.fr∧x.day=y.day∧x.to=y.to:=by
 have l:∀ a b:Int,gw a b=0↔a=b:=fun a b=>by unfold gw;split<;>(try split)<;>omega
 unfold eM;simp only [Ce];have m:=l x.fr y.fr;have q:=l x.day y.day;have s:=l x.to y.to;by_cases d:gw x.fr y.fr=0
 ·rw [bf d];by_cases g:gw x.day y.day=0
  ·rw [bf g];by_cases j:gw x.to y.to=0
   ·rw [bf j];exact⟨fun _=>⟨m.1 d,q.1 g,s.1 j⟩,fun _=>rfl⟩
   ·rw [aT j];exact⟨fun h=>absurd h j,fun h=>absurd (s.2 h.2.2) j⟩
  ·rw [aT g];exact⟨fun h=>absurd h g,fun h=>absurd (q.2 h.2.1) g⟩
 ·rw [aT d];exact⟨fun h=>absurd h d,fun h=>absurd (m.2 h.1) d⟩
theorem acx(b:Int)(x y X Y:aB):ltB b (kD b X Y) x y X Y↔yS b x y X Y:=by
 unfold ltB yS;have l:gw (kD b x y) (kD b X Y)=0↔kD b x y=kD b X Y:=by unfold gw;split<;>(try split)<;>omega
 have A:gw (kD b x y) (kD b X Y)<0↔kD b x y<kD b X Y:=by unfold gw;split<;>(try split)<;>omega
 have v:=wN x X;have B:=wN y Y;have m:=gJ x X;have q:=gJ y Y;simp only [Ce];by_cases d:gw (kD b x y) (kD b X Y)=0
 ·rw [bf d];have e:=l.1 d;by_cases g:eM x X=0
  ·rw [bf g];have z:=v.1 g;have u:¬ x.lt X:=fun h=>by have:=m.2 h;omega
   by_cases s:eM y Y=0
   ·rw [bf s];have j:¬ y.lt Y:=fun h=>by have:=q.2 h;omega
    constructor
    ·intro h;omega
    ·rintro(h | ⟨-,h | ⟨-,h⟩⟩)
     ·omega
     ·exact absurd h u
     ·exact absurd h j
   ·rw [aT s,q];constructor
    ·intro h;exact .inr ⟨e,.inr ⟨z,h⟩⟩
    ·rintro(h | ⟨-,h | ⟨-,h⟩⟩)
     ·omega
     ·exact absurd h u
     ·exact h
  ·rw [aT g,m];constructor
   ·intro h;exact .inr ⟨e,.inl h⟩
   ·rintro(h | ⟨-,h | ⟨h,-⟩⟩)
    ·omega
    ·exact h
    ·exact absurd (v.2 h) g
 ·rw [aT d,A];constructor
  ·intro h;exact .inl h
  ·rintro(h | ⟨h,-⟩)
   ·exact h
   ·exact absurd (l.2 h) d
theorem wO{b:Int}{x y X Y Z W:aB}(h:yS b x y X Y)(d:yS b X Y Z W):yS b x y Z W:=by
 unfold yS aB.lt at *;omega
theorem acG{b:Int}{x y X Y:aB}(h:¬ yS b x y X Y)(v:¬ yS b X Y x y):x=X∧y=Y:=by
 have d:x.fr=X.fr∧x.day=X.day∧x.to=X.to:=by unfold yS aB.lt at *;omega
 have g:y.fr=Y.fr∧y.day=Y.day∧y.to=Y.to:=by unfold yS aB.lt at *;omega
 cases x;cases X;cases y;cases Y;simp only at d g;obtain⟨j,l,m⟩:=d;obtain⟨q,s,u⟩:=g;subst j l m q s u;exact⟨rfl,rfl⟩
structure FS where
 kH:Int
 found:Bool
 X:aB
 Y:aB
noncomputable def fj (b:Int) (s:FS) (x y:aB):FS:=⟨if ib b s.kH s.found x y s.X s.Y then kD b x y else s.kH,s.found||ib b s.kH s.found x y s.X s.Y,if ib b s.kH s.found x y s.X s.Y then x else s.X,if ib b s.kH s.found x y s.X s.Y then y else s.Y⟩
def jQ(b:Int)(S:aB→aB→Prop)(s:FS):Prop:=(s.found=ag∧s.X=⟨0,0,0⟩∧s.Y=⟨0,0,0⟩∧∀ x y,S x y→¬ okB b x y)∨(s.found=ae∧S s.X s.Y∧okB b s.X s.Y∧s.kH=kD b s.X s.Y∧∀ x y,S x y→okB b x y→¬ yS b x y s.X s.Y)
theorem jQ.iff{fr:Int}{S S':aB→aB→Prop}{s:FS}(h:jQ fr S s)(d:∀ x y,okB fr x y→(S' x y↔S x y)):jQ fr S' s:=by
 rcases h with⟨h1,h2,h3,h4⟩ | ⟨h1,h2,h3,h4,h5⟩
 ·exact .inl ⟨h1,h2,h3,fun x y h b=>h4 x y ((d x y b).1 h) b⟩
 ·exact .inr ⟨h1,(d _ _ h3).2 h2,h3,h4,fun x y h b=>h5 x y ((d x y b).1 h) b⟩
theorem jQ.step{fr:Int}{S T:aB→aB→Prop}{s:FS}(h:jQ fr S s){x y:aB}(v:T x y)(u:∀ d g,T d g→okB fr d g→okB fr x y∧¬ yS fr d g x y):jQ fr (fun x y=>S x y∨T x y) (fj fr s x y):=by
 by_cases j:okB fr x y
 ·rcases h with⟨h1,h2,h3,h4⟩ | ⟨h1,h2,h3,h4,h5⟩
  ·have hu:ib fr s.kH s.found x y s.X s.Y=ae:=by unfold ib;simp [j,h1]
   refine .inr ⟨?_,?_,?_,?_,fun d g b l=>?_⟩
   ·simp [fj,hu]
   ·simp only [fj,hu,if_true];exact .inr v
   ·simp only [fj,hu,if_true];exact j
   ·simp only [fj,hu,if_true]
   ·simp only [fj,hu,if_true];rcases b with b | b
    ·exact absurd l (h4 d g b)
    ·exact(u d g b l).2
  ·have m:ltB fr s.kH x y s.X s.Y↔yS fr x y s.X s.Y:=by rw [h4];exact acx fr x y s.X s.Y
   by_cases k:yS fr x y s.X s.Y
   ·have hu:ib fr s.kH s.found x y s.X s.Y=ae:=by unfold ib;simp [j,m.2 k]
    refine .inr ⟨?_,?_,?_,?_,fun d g b l=>?_⟩
    ·simp [fj,hu]
    ·simp only [fj,hu,if_true];exact .inr v
    ·simp only [fj,hu,if_true];exact j
    ·simp only [fj,hu,if_true]
    ·simp only [fj,hu,if_true];rcases b with b | b
     ·exact fun q=>h5 d g b l (wO q k)
     ·exact(u d g b l).2
   ·have hu:ib fr s.kH s.found x y s.X s.Y=ag:=by unfold ib;simp [h1,show¬ ltB fr s.kH x y s.X s.Y from fun h=>k (m.1 h)]
    refine .inr ⟨?_,?_,?_,?_,fun d g b l=>?_⟩
    ·simp [fj,hu,h1]
    ·simp only [fj,hu];exact .inl h2
    ·simp only [fj,hu];exact h3
    ·simp only [fj,hu];exact h4
    ·simp only [fj,hu];rcases b with b | b
     ·exact h5 d g b l
     ·intro q;have h6:=(u d g b l).2;by_cases e:yS fr x y d g
      ·exact k (wO e q)
      ·obtain⟨rfl,rfl⟩:=acG h6 e;exact k q
 ·have hu:ib fr s.kH s.found x y s.X s.Y=ag:=by unfold ib;simp [j]
  have z:fj fr s x y=s:=by simp [fj,hu]
  rw [z];refine h.iff fun d g l=>⟨fun h=>h.elim id fun h=>absurd (u d g h l).1 j,.inl⟩
theorem jQ.none{fr:Int}{S T:aB→aB→Prop}{s:FS}(h:jQ fr S s)(j:∀ b d,T b d→¬ okB fr b d):jQ fr (fun x y=>S x y∨T x y) s:=
 h.iff fun b d g=>⟨fun h=>h.elim id fun h=>absurd g (j b d h),.inl⟩
theorem jQ.one{fr:Int}{S:aB→aB→Prop}{s:FS}(h:jQ fr S s)(x y:aB):jQ fr (fun b d=>S b d∨(b=x∧d=y)) (fj fr s x y):=
 h.step ⟨rfl,rfl⟩ fun b d ⟨h1,h2⟩ g=>by
  subst h1 h2;exact⟨g,by unfold yS aB.lt;omega⟩
def iI(s:aN):List C:=[.f (sl s.cg (aQ s.cs)),.f (fi s.len),.f (sl s.xg (aD s.xs))]
def ns:C:=.cl 31 [.ptr 2 0 0,.ptr 8 0 0,.ptr 7 0 0,.ptr 5 0 0,.ptr 6 0 0]
structure FQ(a b:aN)(fr:Int)(s:FS)(J:an):Prop where
 h0:J[0]?=aa (.box (iI a) 0)
 h1:J[1]?=aa (.box (iI b) 0)
 h3:J[3]?=aa (.box [.f (fi 0),.f (fi 0),.f (fi 0)] 0)
 h4:J[4]?=aa (.box [.f (fi 0),.f (fi 0),.f (fi 0)] 0)
 h9:J[9]?=aa (.box [ns] 0)
 tk:TK fr s.kH s.found s.X s.Y J
theorem FQ.ba{a b:aN}{fr:Int}{s:FS}{J J':an}(h:FQ a b fr s J)(d:∀ i:Nat,i<10→J'[i]?=J[i]?):FQ a b fr s J':=
 ⟨by rw [d 0 (by omega)];exact h.h0,by rw [d 1 (by omega)];exact h.h1,by rw [d 3 (by omega)];exact h.h3,by rw [d 4 (by omega)];exact h.h4,by rw [d 9 (by omega)];exact h.h9,h.tk.ba fun i hi=>d i (by omega)⟩
structure FT(t:T):Prop where
 g3:t.g 3=.c (.ptr 0 0 0)
 g4:t.g 4=.c (.ptr 1 0 0)
 g5:t.g 5=.c (.ptr 2 0 0)
 g6:t.g 6=.c (.ptr 3 0 0)
 g7:t.g 7=.c (.ptr 4 0 0)
 g9:t.g 9=.c (.ptr 5 0 0)
 eh:t.g 10=.c (.ptr 6 0 0)
 g12:t.g 12=.c (.ptr 8 0 0)
 g13:t.g 13=.c (.ptr 9 0 0)
theorem qv{a b:aN}{g:Int}{s:FS}{J:an}(h:FQ a b g s J)(x y:aB):∃ J',Ev tab (.fn 31) [.a (x.row.map .f),.a (y.row.map .f),.c (.ptr 2 0 0),.c (.ptr 8 0 0),.c (.ptr 7 0 0),.c (.ptr 5 0 0),.c (.ptr 6 0 0)] J (.t []) J'∧FQ a b g (fj g s x y) J'∧J.length≤J'.length∧∀ i:Nat,8<i→i<J.length→J'[i]?=J[i]?:=by
 obtain⟨J',m,l,q,d⟩:=W9 g s.kH s.found s.X s.Y x y J h.tk;have v:=aj h.h9;exact⟨J',m,⟨by rw [d 0 (by omega) (by omega)];exact h.h0,by rw [d 1 (by omega) (by omega)];exact h.h1,by rw [d 3 (by omega) (by omega)];exact h.h3,by rw [d 4 (by omega) (by omega)];exact h.h4,by rw [d 9 (by omega) (by omega)];exact h.h9,l⟩,q,fun i u j=>d i j (by omega)⟩
def VF(a b:aN)(p:Pr):Int:=min (p.c.min+a.len) (p.k*1440+p.d.min+b.len)
def n0P(a b:aN)(d:Int)(p:Pr):Int:=max 0 ((d-VF a b p) / 1440+1-max 0 (-p.k))
def fQ(a:aN)(p:Pr)(e:Int):aB:=cJ a.len p.c.min (e+max 0 (-p.k))
def fR(b:aN)(p:Pr)(e:Int):aB:=cJ b.len p.d.min (e+max 0 (-p.k)+p.k)
noncomputable def Cy (a b:aN) (d:Int) (p:Pr) (e:Int) (f:Bool) (s:FS):FS:=if f then fj d s (fQ a p e) (fR b p e)else s
theorem Cg(a b:aN)(ha:iP a)(hb:iP b){q:Int}(f0:-1000000000000≤q)(f1:q≤100000000000000){O:T}(E:FT O){p:Pr}(Q:oz a b p){s:FS}{J:an}(hq:FQ a b q s J)(a_:J[10]?=aa (.eo ae))(L:J[11]?=aa (.lp 10 O [P.nat 47] gB gC .ready ab 10)) :
  ∃ e f,eF (fun e=>n0P a b q p≤e∧dU p.xs e∧dU p.ys e) e f∧(f=ae→e≤1000001000000)∧∃ r J',Ev tab (.yield 11) [.a p.row] J r J'∧(r=vb ae∧FQ a b q (Cy a b q p e f s) J'∧J'[10]?=aa (.eo ae)∧J'[11]?=aa (.lp 10 O [P.nat 47] gB gC .ready ab 10)∧J.length≤J'.length∧∀ i:Nat,12≤i→i<J.length→J'[i]?=J[i]?):=by
 obtain⟨j4,j7⟩:=ha.ok.len;obtain⟨j8,j9⟩:=hb.ok.len;have i7:=ha.ok.min Q.ca;have i8:=hb.ok.min Q.db;have d9:=Q.lo;have c_:=Q.hi;unfold wz at d9;unfold wc at c_;have kb:-20≤p.k∧p.k≤20:=by omega
 obtain⟨B,M⟩:=aM (VF a b p);have i6:-100000≤B∧B≤100000:=by rw [M];unfold VF;omega
 have X:min (p.c.min+a.len) (p.k*1440+p.d.min+b.len)=B:=M.symm;obtain⟨l,z⟩:=aM (max 0 (-p.k));have i4:0≤l∧l≤20:=by omega
 obtain⟨n,hn⟩:=aM (n0P a b q p);have e_:max 0 ((q-B) / 1440+1-l)=n:=by rw [hn,M,z];rfl
 have i_:0≤n∧n≤1000000000000:=by omega
 obtain⟨e,f,hm,b_,A⟩:=qV p.gx p.gy p.xs p.ys Q.xo Q.yo n (by omega) (by omega);have d_:eF (fun e=>n0P a b q p≤e∧dU p.xs e∧dU p.ys e) e f:=hm.iff fun x=>by rw [←hn,show max n 0=n by omega]
 refine⟨e,f,d_,fun _=>b_.2,?_⟩;refine dr (tab:=tab) (b:=11) (args:=[.a p.row]) (H:=J) L rfl fun Q' W=>?_;obtain⟨d,v⟩:=aM (J.length);obtain⟨S,y⟩:=aM (J++[bV.box p.row 0]);have g_:=aj L;have a8:S[d]?=aa (.box p.row 0):=by rw [y,v];simp
 have k1:∀ i:Nat,i<J.length→S[i]?=J[i]?:=fun i hi=>by rw [y,AT hi]
 have l1:S.length=d+1:=by rw [y,ank,v];rfl
 have f8:p.row.length=8:=rfl;refine aq (.inr rfl) ?_;simp [f8];rw [←y,←v];have i3:S[11]?=aa (.lp 10 O [P.nat 47] gB gC .ready ab 10):=by rw [k1 11 g_];exact L
 refine fW i3 ?_;obtain⟨g,u⟩:=aM (S.set 11 (.lp 10 O [P.nat 47] gB gC .busy ab 10));have k2:∀ i:Nat,i<J.length→i≠11→g[i]?=J[i]?:=fun i hi f7=>by rw [u,sh (Ne.symm f7),k1 i hi]
 have j:g[d]?=aa (.box p.row 0):=by rw [u,sh (by omega)];exact a8
 have K:g[11]?=aa (.lp 10 O [P.nat 47] gB gC .busy ab 10):=by rw [u];exact BY (by omega)
 have U:g[10]?=aa (.eo ae):=by rw [k2 10 (by omega) (by omega)];exact a_
 have m:FQ a b q s g:=hq.ba fun i hi=>k2 i (by omega) (by omega);have l2:g.length=d+1:=by rw [u,anD];exact l1
 rw [←u];unfold Pr.row at j;rw [←z]at j;have c0:aU g ab (.c (.ptr d 1 0))=aa (vi p.c.min):=by simp [aU,aH,j]
 have c1:aU g ab (.c (.ptr d 4 0))=aa (vi p.k):=by simp [aU,aH,j]
 have c2:aU g ab (.c (.ptr d 3 0))=aa (vi p.d.min):=by simp [aU,aH,j]
 have c3:aU g ab (.c (.ptr d 7 0))=aa (vi l):=by simp [aU,aH,j]
 have c4:aU g (aa 1) (.c (.ptr d 5 0))=aa (.a [.f (sl p.gx (aA p.xs))]):=by simp [aU,aH,j,aW]
 have c5:aU g (aa 1) (.c (.ptr d 6 0))=aa (.a [.f (sl p.gy (aA p.ys))]):=by simp [aU,aH,j,aW]
 have c6:aU g (aa 2) (.c (.ptr d 0 0))=aa (.a [.f (sl p.c.mg (aA p.c.ts)),.f (fi p.c.min)]):=by simp [aU,aH,j,aW]
 have c7:aU g (aa 2) (.c (.ptr d 2 0))=aa (.a [.f (sl p.d.mg (aA p.d.ts)),.f (fi p.d.min)]):=by simp [aU,aH,j,aW]
 have a1:aU g ab (.c (.ptr 0 1 0))=aa (vi a.len):=by simp [aU,aH,m.h0,iI]
 have a3:aU g (aa 3) (.c (.ptr 0 0 0))=aa (.a [.f (sl a.cg (aQ a.cs)),.f (fi a.len),.f (sl a.xg (aD a.xs))]):=by simp [aU,aH,m.h0,iI,aW]
 have b1:aU g ab (.c (.ptr 1 1 0))=aa (vi b.len):=by simp [aU,aH,m.h1,iI]
 have b3:aU g (aa 3) (.c (.ptr 1 0 0))=aa (.a [.f (sl b.cg (aQ b.cs)),.f (fi b.len),.f (sl b.xg (aD b.xs))]):=by simp [aU,aH,m.h1,iI,aW]
 have f2:aU g ab (.c (.ptr 2 0 0))=aa (vi q):=by simp [aU,aH,m.tk.h2]
 have f9:aU g ab (.c (.ptr 9 0 0))=aa (.c ns):=by simp [aU,aH,m.h9]
 have fl:=jW (q-B) (by omega) (by omega);have F:=lK (sl a.cg (aQ a.cs)) (sl a.xg (aD a.xs)) (sl p.c.mg (aA p.c.ts)) a.len p.c.min (e+l) (by omega) (by omega) (by omega) (by omega);have I:=lK (sl b.cg (aQ b.cs)) (sl b.xg (aD b.xs)) (sl p.d.mg (aA p.d.ts)) b.len p.d.min (e+l+p.k) (by omega) (by omega) (by omega) (by omega);rw [decide_eq_true (show e+l≤(2251799813685248-p.c.min-a.len) / 1440 by omega)]at F;rw [decide_eq_true (show e+l+p.k≤(2251799813685248-p.d.min-b.len) / 1440 by omega)]at I;have Y:=mj (sl a.cg (aQ a.cs)) (sl a.xg (aD a.xs)) (sl p.c.mg (aA p.c.ts)) a.len p.c.min (e+l) (by unfold jR;omega) (by unfold jR;omega) (by unfold jR;omega);have Z:=mj (sl b.cg (aQ b.cs)) (sl b.xg (aD b.xs)) (sl p.d.mg (aA p.d.ts)) b.len p.d.min (e+l+p.k) (by unfold jR;omega) (by unfold jR;omega) (by unfold jR;omega);have hX:cJ a.len p.c.min (e+l)=fQ a p e:=by unfold fQ;rw [←z]
 have hY:cJ b.len p.d.min (e+l+p.k)=fR b p e:=by unfold fR;rw [←z]
 rw [hX]at Y;rw [hY]at Z;refine ay ?_;refine au (aq (.inr rfl) ?_);simp [E.g3,E.g4,c0,c1,c2,a1,b1,-az,aP (n:=p.c.min+a.len),aP (n:=p.k*1440),aP (n:=p.k*1440+p.d.min),aP (n:=p.k*1440+p.d.min+b.len),X];refine au (aq (.inr rfl) ?_);simp [E.g5,f2,c3,-az,aP (n:=q-B),fl,aP (n:=(q-B) / 1440+1),aP (n:=(q-B) / 1440+1-l),e_];refine au (aq (.inr rfl) ?_);simp [c4,c5,-az,A];apply au;cases f with
 | false=>
  refine aq (.inr rfl) ?_;simp;refine aX (by simp) ?_;refine ax (cK (W _ _ _ _ _ _ _ _ _ _ rfl K ⟨rfl,?_,?_,BY (aj K),by show J.length≤(g.set 11 _).length;rw [anD];omega,fun i h1 h2=>?_⟩))
  ·exact m.ba fun i hi=>by rw [sh (by omega)]
  ·rw [sh (by omega)];exact U
  ·rw [sh (by omega),k2 i h2 (by omega)]
 | true=>
  obtain⟨J3,c9,f_,i9,N⟩:=qv m (fQ a p e) (fR b p e);refine aq (.inr rfl) ?_;simp [E.g3,E.g4,a3,b3,c1,c3,c6,c7,-az,aP (n:=e+l),aP (n:=e+l+p.k),F,I];refine av (by simp) ?_;refine aq (.inr rfl) ?_;simp [E.g3,E.g4,E.g13,f9,a3,b3,c1,c3,c6,c7,-az,aP (n:=e+l),aP (n:=e+l+p.k),Y,Z,ns,c9.eq];have a7:J3[11]?=aa (.lp 10 O [P.nat 47] gB gC .busy ab 10):=by rw [N 11 (by omega) (by omega)];exact K
  have h_:J3[10]?=aa (.eo ae):=by rw [N 10 (by omega) (by omega)];exact U
  refine ax (cK (W _ _ _ _ _ _ _ _ _ _ rfl a7 ⟨rfl,?_,?_,BY (aj a7),by show J.length≤(J3.set 11 _).length;rw [anD];omega,fun i h1 h2=>?_⟩))
  ·exact f_.ba fun i hi=>by rw [sh (by omega)]
  ·rw [sh (by omega)];exact h_
  ·rw [sh (by omega),N i (by omega) (by omega),k2 i h2 (by omega)]
theorem Jy(x y:aB):Kf tab 72 [.a (y.row.map .f),.c (.f (.fp x.row 0))] (vb (eQ x.fr x.to y.fr y.to)):=by
 refine dF rfl rfl fun H Q d=>?_;have b:∀ H:an,aU H (aa 2) (.c (.f (.fp x.row 1)))=aa (.a [.f (fi x.fr),.f (fi x.to)]):=fun H=>by simp [aU,aH,aW,aB.row]
 have g:=C9 x.fr x.to y.fr y.to;apply ai;simp [aB.row];apply ai;simp only [aB.row]at b;simp [b,g];refine aE (d _ _ ?_);simp
theorem J8(g:Tg)(l:List aB)(d:l.length≤1000)(x:aB):bW tab 47 [.c (.f (sl g (aD l))),.c (.f (.fn 72 [.fp x.row 0]))]=Eq (vb (l.any fun y=>eQ x.fr x.to y.fr y.to)):=
 (gl afz (jg afE l aB.row (fun r=>.a (r.row.map .f)) (fun y=>eQ x.fr x.to y.fr y.to) g 72 [.fp x.row 0] (by omega)
  (fun j b H=>cH (bw l) (cD b)) (fun y _=>Jy x y))).eq
def lN(a b:aN)(x:aB):Prop:=(∃ y,jT b x y)∨∃ y ∈ b.xs,eQ x.fr x.to y.fr y.to=ae
structure AQ(a b:aN)(bs:List Nat)(v:Bool)(J:an):Prop where
 h0:J[0]?=aa (.box (iI a) 0)
 h1:J[1]?=aa (.box (iI b) 0)
 h2:J[2]?=aa (.box [.f (.bool v)] 0)
 cl:eb bs J
theorem AQ.ba{a b:aN}{bs:List Nat}{v:Bool}{J J':an}(h:AQ a b bs v J)(d:∀ i:Nat,i<J.length→J'[i]?=J[i]?):AQ a b bs v J':=
 ⟨by rw [d 0 (aj h.h0)];exact h.h0,by rw [d 1 (aj h.h1)];exact h.h1,by rw [d 2 (aj h.h2)];exact h.h2,⟨h.cl.nd,fun i hi=>by rw [d i (aj (h.cl.on i hi))];exact h.cl.on i hi⟩⟩
theorem AQ.set{a b:aN}{bs:List Nat}{v:Bool}{J:an}(h:AQ a b bs v J){i:Nat}{y:bV}(hi:J[i]?=aa y)(h3:3≤i)(hy:y≠.eo ae)(z:bV):AQ a b bs v (J.set i z):=
 ⟨by rw [sh (by omega)];exact h.h0,by rw [sh (by omega)];exact h.h1,by rw [sh (by omega)];exact h.h2,h.cl.set hi hy⟩
theorem zQ(a b:aN)(ha:iP a)(M:iP b)(f7:∀ x ∈ a.xs,-1000000000000≤x.fr∧x.to≤1000000000000∧x.fr<x.to) :
  ∃ r:Bool,(r=ae↔∃ x ∈ a.xs,lN a b x)∧bW tab 40 [.a (a.row.map .f),.a (b.row.map .f)]=Eq (vb r):=by
 have key:∃ v,(∃ r:Bool,(r=ae↔∃ x ∈ a.xs,lN a b x)∧v=vb r)∧bW tab 40 [.a (a.row.map .f),.a (b.row.map .f)] v:=by
  refine ko ajJ rfl fun Q hQ=>?_;have i9:=ha.ok.xn;have i_:=M.ok.xn;have oi:∀ H:an,bu H (.f (sl a.xg (aD a.xs)))=aa a.xs.length:=fun H=>by simp
  have la:∀(bs:List Nat) (v:Bool) (J:an),AQ a b bs v J→aU J ab (.c (.ptr 0 2 0))=aa (.c (.f (sl a.xg (aD a.xs)))):=fun bs v J h=>by simp [aU,aH,h.h0,iI,aW]
  have lb:∀(bs:List Nat) (v:Bool) (J:an),AQ a b bs v J→aU J (aa 3) (.c (.ptr 1 0 0))=aa (.a (iI b))∧aU J ab (.c (.ptr 1 2 0))=aa (.c (.f (sl b.xg (aD b.xs)))):=fun bs v J h=>by refine⟨?_,?_⟩<;>simp [aU,aH,h.h1,iI,aW]
  have S:∀(t:T) (J:an) (bs:List Nat) (v:Bool),t.g 4=.c (.ptr 2 0 0)→(v=ae↔∃ x ∈ a.xs,lN a b x)→AQ a b bs v J→∀ j,Q j ⟨t,bs.map .dN,J⟩:=by
   intro t J bs v m hv h j;refine hQ _ _ _ ⟨v,hv,rfl⟩ ⟨bs,rfl,h.cl,vb v,?_,by simp [kM,dE]⟩;have d2:=(iF (h.cl.not h.h2 (by simp))).trans h.h2;simp [Km.results,cr,aZ,m,d2]
  have a_:∀ {bs:List Nat} {v:Bool} {J:an} (w:Bool),AQ a b bs v J→cZ J (.ptr 2 0 0) [.f (.bool w)]=aa (J.set 2 (.box [.f (.bool w)] 0))∧AQ a b bs w (J.set 2 (.box [.f (.bool w)] 0)):=fun w h=>by
   refine⟨by simp [cZ,h.h2,over],⟨by rw [sh (by omega)];exact h.h0,by rw [sh (by omega)];exact h.h1,BY (aj h.h2),h.cl.set h.h2 (by simp)⟩⟩
  apply ai;simp [aN.row];obtain⟨J0,U⟩:=aM ([.box (iI a) 0,.box (iI b) 0,.box [.f (.bool ag)] 0]:an);have c_:AQ a b [] ag J0:=by rw [U];exact⟨rfl,rfl,rfl,⟨by simp,by simp⟩⟩
  unfold iI at U;rw [←U];apply au;apply ai;simp [la _ _ _ c_,oi,-az];refine ay ?_;refine bI (fun n st=>∃(j:Nat) (t:T) (bs:List Nat) (H:an),st=⟨t,bs.map .dN,H⟩∧n=a.xs.length-j∧j≤a.xs.length∧t.g 2=.c (.ptr 0 0 0)∧t.g 3=.c (.ptr 1 0 0)∧t.g 4=.c (.ptr 2 0 0)∧t.g 8=.c (.f (sl a.xg (aD a.xs)))∧t.g 9=vi a.xs.length∧t.g 10=vi j ∧
   AQ a b bs ag H∧∀ x ∈ a.xs.take j,¬ lN a b x) a.xs.length
   ⟨0,_,[],J0,rfl,by omega,by omega,by simp,by simp,by simp,by simp,by simp,by simp,c_,fun x hx=>by simp at hx⟩ ?_
  rintro n st ⟨j,t,bs,H,rfl,rfl,hj,g2,g3,m,g8,g9,eh,hq,Z⟩ ih;by_cases A:j<a.xs.length
  ·obtain⟨x,hx⟩:=aM (a.xs[j]);have a8:x ∈ a.xs:=hx▸IS A;obtain⟨x0,x1,x2⟩:=f7 x a8;have B:=fun H:an=>cH (H:=H) (bw a.xs) (cD (l:=a.xs) (j:=j) A);have O:=fun H:an=>bG (H:=H) (g:=a.xg) (rows:=aD a.xs) (sz:=3) (k:=.i64) (i:=j) (by omega) (by simpa using A);rw [←hx]at B;simp [aB.row]at B O;have i4:a.xs.take (j+1)=a.xs.take j++[x]:=by rw [anu,By A,hx];rfl
   have a7:=oF b x;simp only [aN.row,aB.row,ano,anC]at a7;apply ai;simp [g9,eh];refine au (av (by simp [A]) (aR ?_));apply au;refine ay ?_;obtain⟨bx,X⟩:=aM (H.length);apply ai;simp [g8,eh,O,B];rw [←X];obtain⟨d,F⟩:=aM (H++[bV.box [.f (fi x.day),.f (fi x.fr),.f (fi x.to)] 0]);rw [←F];have kx:d[bx]?=aa (.box [.f (fi x.day),.f (fi x.fr),.f (fi x.to)] 0):=by rw [F,X];simp
   have kq:AQ a b bs ag d:=hq.ba fun i hi=>by rw [F,AT hi]
   have kn:d.length=bx+1:=by rw [F,X];simp
   have i7:3≤bx:=by have:=aj hq.h2;omega
   have lx:∀ J:an,J[bx]?=aa (.box [.f (fi x.day),.f (fi x.fr),.f (fi x.to)] 0)→aU J (aa 3) (.c (.ptr bx 0 0))=aa (.a [.f (fi x.day),.f (fi x.fr),.f (fi x.to)]):=fun J h=>by simp [aU,aH,h,aW]
   have d9:=(lb _ _ _ kq).1;simp only [iI]at d9;apply au;apply ai;simp [g3,d9,lx d kx,-az,a7];refine ay ?_;have range:∀(u:T),u.g 2=.c (.ptr 0 0 0)→u.g 3=.c (.ptr 1 0 0)→u.g 4=.c (.ptr 2 0 0)→u.g 6=.c (.ptr bx 0 0)→u.g 8=.c (.f (sl a.xg (aD a.xs)))→u.g 9=vi a.xs.length→u.g 10=vi j →
     u.g 16=.c (.f (.fn 71 [.fp b.row 0,.fp x.row 0])) →
     WP tab 40 ab [.code zq,.inBlock 2,.code zr,.inBlock 1,.code zt,.inLoop CG,.inBlock 0,.code sM] ⟨u,bs.map .dN,d⟩ Q:=by
    intro u g2 g3 m g6 g8 g9 eh d_;obtain⟨L,q⟩:∃ L:dw→Option aw→bV,L=fun st pd=>.lp 40 u [P.nat 17] .skip e9 st pd (bx+1):=⟨_,rfl⟩
    obtain⟨E,I⟩:=aM (d++[.eo ae,L .ready ab]);have q4:E[bx+1]?=aa (.eo ae):=by rw [I,ann (by omega),kn];simp
    have q5:E[bx+1+1]?=aa (L .ready ab):=by rw [I,ann (by omega),kn];simp
    have qk:∀ i:Nat,i<d.length→E[i]?=d[i]?:=fun i hi=>by rw [I,AT hi]
    have h_:bx+1 ∉ bs:=fun M=>by have:=aj (kq.cl.on _ M);omega
    have qq:=kq.ba qk;have b_:AQ a b ((bx+1)::bs) ag E:=⟨qq.h0,qq.h1,qq.h2,⟨ao8.2 ⟨h_,qq.cl.nd⟩,fun b M=>by
     rcases anK.1 M with rfl | M
     ·exact q4
     ·exact qq.cl.on b M⟩⟩
    have qx:E[bx]?=aa (.box [.f (fi x.day),.f (fi x.fr),.f (fi x.to)] 0):=by rw [qk bx (by omega)];exact kx
    obtain⟨H2,he,Y⟩:=uA (bb:=bx+1+1) (H:=E) b M x x0 x1 x2 (fun ps J=>ps=[]∧E.length≤J.length∧∀ i:Nat,i<E.length→J[i]?=E[i]?)
     (fun _ J=>AQ a b ((bx+1)::bs) ae J∧J[bx+1+1]?=aa (L .done (aa .ret))) ⟨rfl,anl _,fun _ _=>rfl⟩
     (fun ps J J' ⟨h1,h2,h3⟩ hk hl=>⟨h1,by omega,fun i hi=>by rw [hk i hi];exact h3 i hi⟩)
     (fun ps y J ⟨h1,h2,h3⟩ hl a7=>by
      have K:J[bx+1+1]?=aa (L .ready ab):=by rw [h3 _ (aj q5)];exact q5
      have pq:=b_.ba h3;refine⟨ag,?_⟩;rw [q]at K;obtain⟨r,J',f_,rfl,hr⟩:∃ r J',Ev tab (.yield (bx+1+1)) [.a (y.row.map .f)] J r J'∧(r=vb ag∧AQ a b ((bx+1)::bs) ae J'∧J'[bx+1+1]?=aa (L .done (aa .ret))):=by
       refine dr (tab:=tab) (b:=bx+1+1) (args:=[.a (y.row.map .f)]) (H:=J) K rfl fun Q' e_=>?_;refine aR ?_;refine fW K ?_;have b5:(J.set (bx+1+1) (.lp 40 u [P.nat 17] .skip e9 .busy ab (bx+1)))[bx+1+1]?=aa (.lp 40 u [P.nat 17] .skip e9 .busy ab (bx+1)):=BY (aj K);have bq:=pq.set K (by omega) (by simp) (.lp 40 u [P.nat 17] .skip e9 .busy ab (bx+1));generalize J.set (bx+1+1) (.lp 40 u [P.nat 17] .skip e9 .busy ab (bx+1))=HB at b5 bq ⊢;obtain⟨s1,s2⟩:=a_ ae bq;have s5:(HB.set 2 (.box [.f (.bool ae)] 0))[bx+1+1]?=aa (.lp 40 u [P.nat 17] .skip e9 .busy ab (bx+1)):=by rw [sh (by omega)];exact b5
       refine ay ?_;refine au (aq (.inr rfl) ?_);simp [m,s1,-a6];refine aE (e_ _ _ _ _ _ _ _ _ _ _ rfl s5 ⟨rfl,s2.set s5 (by omega) (by simp) _,?_⟩);rw [q];exact BY (aj s5)
      exact⟨J',f_,by simpa using hr⟩)
    have f8:Ev tab (.fn 71) [.c (.yl (d.length+1)),.c (.f (.fp b.row 0)),.c (.f (.fp x.row 0))] (d++[.eo ae,.lp 40 u [P.nat 17] .skip e9 .ready ab d.length]) (.t []) H2:=by
     have e:d++[.eo ae,.lp 40 u [P.nat 17] .skip e9 .ready ab d.length]=E:=by rw [I,q,kn]
     rw [e,kn];exact he
    refine dZ (g:=71) (by rw [oA,d_];simp [bO]) f8 ?_;rw [kn];rcases Y with⟨ys,⟨rfl,i8,W⟩,i6⟩ | ⟨y,i3,c1,c5⟩
    ·have K:H2[bx+1+1]?=aa (L .ready ab):=by rw [W _ (aj q5)];exact q5
     have pq:=b_.ba W;rw [q]at K;refine ff K (by decide) ?_;have eq:=pq.set K (by omega) (by simp) (.lp 40 u [P.nat 17] .skip e9 .exhausted ab (bx+1));have ex:(H2.set (bx+1+1) (.lp 40 u [P.nat 17] .skip e9 .exhausted ab (bx+1)))[bx]?=aa (.box [.f (fi x.day),.f (fi x.fr),.f (fi x.to)] 0):=by
      rw [sh (by omega),W bx (aj qx)];exact qx
     generalize H2.set (bx+1+1) (.lp 40 u [P.nat 17] .skip e9 .exhausted ab (bx+1))=H3 at eq ex ⊢;have s:=J8 b.xg b.xs (by omega) x;simp only [aB.row]at s;obtain⟨cb,c9⟩:=aM (b.xs.any fun y=>eQ x.fr x.to y.fr y.to);rw [←c9]at s;have N:cb=ae↔∃ y ∈ b.xs,eQ x.fr x.to y.fr y.to=ae:=by rw [c9,List.any_eq_true]
     refine ax ?_;apply ai;simp [g3,g6,(lb _ _ _ eq).2,ex,deep,Dx,yp,s,-az];have e3:=eq.set ex (by omega) (by simp) (.box [.f (fi x.day),.f (fi x.fr),.f (fi x.to)] 3);generalize H3.set bx (.box [.f (fi x.day),.f (fi x.fr),.f (fi x.to)] 3)=H4 at e3 ⊢;cases cb with
     | true=>
      refine av (by simp) ?_;obtain⟨s1,s2⟩:=a_ ae e3;apply ai;simp [m,s1,-a6];exact aE (S _ _ _ ae (by simp [m]) ⟨fun _=>⟨x,a8,.inr (N.1 rfl)⟩,fun _=>rfl⟩ s2 _)
     | false=>
      refine aF (by simp) (aR (ax (aq (.inl rfl) ?_)));simp [eh,aP (n:=(j:Int)+1)];refine ih (a.xs.length-(j+1)) _ (by omega) ⟨j+1,_,(bx+1)::bs,_,rfl,by omega,by omega,by simp [g2],by simp [g3],by simp [m],by simp [g8],by simp [g9],by simp,e3,fun z hz=>?_⟩;rw [i4]at hz;rcases anm.1 hz with hz | hz
      ·exact Z z hz
      ·rw [OF.1 hz];rintro(⟨y,hy⟩ | h)
       ·have:=(i6 y).2 hy;cases this
       ·have:=N.2 h;cases this
    ·rw [q]at c5;refine pN c5 (by decide) ?_;exact aE (S _ _ _ ae m ⟨fun _=>⟨x,a8,.inl ⟨y,i3⟩⟩,fun _=>rfl⟩ (c1.set c5 (by omega) (by simp) _) _)
   exact range _ (by simp [g2]) (by simp [g3]) (by simp [m]) (by simp) (by simp [g8]) (by simp [g9]) (by simp [eh]) (by simp [aN.row,aB.row])
  ·have g_:j=a.xs.length:=by omega
   subst g_;rw [ant]at Z;apply ai;simp [g9,eh];refine au (aF (by simp) ?_);refine bh (k':=[.code sM]) rfl ?_;obtain⟨s1,s2⟩:=a_ ag hq;apply ai;simp [m,s1,-a6];exact aE (S _ _ _ ag (by simp [m]) ⟨fun h=>(by cases h),fun⟨x,hx,h⟩=>absurd h (Z x hx)⟩ s2 _)
 obtain⟨v,⟨r,hr,rfl⟩,h⟩:=key;exact⟨r,hr,h.eq⟩
def Com(c d:cm)(k:Int):Prop:=∃ x,0≤x∧x≤1000001000000∧dU c.ts (x+max 0 (-k))∧dU d.ts (x+max 0 k)
theorem C'{a b:aN}{p:Pr}(d:oz a b p):(∃ x,0≤x∧dU p.xs x∧dU p.ys x)↔Com p.c p.d p.k:=by
 constructor
 ·rintro⟨x,g,j,l⟩;obtain⟨e,f,q,m,-⟩:=qV p.gx p.gy p.xs p.ys d.xo d.yo 0 (by omega) (by omega);rcases q with⟨-,-,k⟩ | ⟨-,⟨v,s,u⟩,-⟩
  ·exact absurd ⟨by omega,j,l⟩ (k x)
  ·exact⟨e,by omega,m.2,(d.xm e (by omega)).1 s,(d.ym e (by omega)).1 u⟩
 ·rintro⟨x,g,-,j,l⟩;exact⟨x,g,(d.xm x g).2 j,(d.ym x g).2 l⟩
def ami(a b:aN):Prop:=∃ c ∈ a.cs,∃ d ∈ b.cs,∃ k,wz a.len b.len c d≤k∧k≤wc a.len b.len c d∧Com c d k
def rq(a b:aN):Prop:=(∃ x ∈ a.xs,lN a b x)∨(∃ y ∈ b.xs,lN b a y)∨ami a b
structure zL(a b:aN)(bs:List Nat)(J:an):Prop where
 h0:J[0]?=aa (.box (iI a) 0)
 h1:J[1]?=aa (.box (iI b) 0)
 h2:∃ v:Bool,J[2]?=aa (.box [.f (.bool v)] 0)
 h3:∃ n:Int,J[3]?=aa (.box [.f (fi n)] 0)
 cl:eb bs J
theorem zL.ba{a b:aN}{bs:List Nat}{J J':an}(h:zL a b bs J)(d:∀ i:Nat,i<J.length→J'[i]?=J[i]?):zL a b bs J':=by
 obtain⟨v,h2⟩:=h.h2;obtain⟨n,h3⟩:=h.h3;exact⟨by rw [d 0 (aj h.h0)];exact h.h0,by rw [d 1 (aj h.h1)];exact h.h1,⟨v,by rw [d 2 (aj h2)];exact h2⟩,⟨n,by rw [d 3 (aj h3)];exact h3⟩,⟨h.cl.nd,fun i hi=>by rw [d i (aj (h.cl.on i hi))];exact h.cl.on i hi⟩⟩
theorem zL.set{a b:aN}{bs:List Nat}{J:an}(h:zL a b bs J){i:Nat}{y:bV}(hi:J[i]?=aa y)(h3:4≤i)(hy:y≠.eo ae)(z:bV):zL a b bs (J.set i z):=by
 obtain⟨v,d⟩:=h.h2;obtain⟨n,g⟩:=h.h3;exact⟨by rw [sh (by omega)];exact h.h0,by rw [sh (by omega)];exact h.h1,⟨v,by rw [sh (by omega)];exact d⟩,⟨n,by rw [sh (by omega)];exact g⟩,h.cl.set hi hy⟩
theorem zL.tell{a b:aN}{bs:List Nat}{J:an}(h:zL a b bs J)(v:Bool)(n:Int) :
  cZ J (.ptr 2 0 0) [.f (.bool v)]=aa (J.set 2 (.box [.f (.bool v)] 0))∧cZ (J.set 2 (.box [.f (.bool v)] 0)) (.ptr 3 0 0) [.f (fi n)]=aa ((J.set 2 (.box [.f (.bool v)] 0)).set 3 (.box [.f (fi n)] 0)) ∧
   eb bs ((J.set 2 (.box [.f (.bool v)] 0)).set 3 (.box [.f (fi n)] 0))∧((J.set 2 (.box [.f (.bool v)] 0)).set 3 (.box [.f (fi n)] 0))[2]?=aa (.box [.f (.bool v)] 0)∧((J.set 2 (.box [.f (.bool v)] 0)).set 3 (.box [.f (fi n)] 0))[3]?=aa (.box [.f (fi n)] 0):=by
 obtain⟨w,g⟩:=h.h2;obtain⟨m,j⟩:=h.h3;have d:(J.set 2 (.box [.f (.bool v)] 0))[3]?=aa (.box [.f (fi m)] 0):=by rw [sh (by omega)];exact j
 refine⟨by simp [cZ,g,over],by simp [cZ,d,over],(h.cl.set g (by simp)).set d (by simp),?_,BY (aj d)⟩;rw [sh (by omega)];exact BY (aj g)
theorem tx(a b:aN)(ha:iP a)(X:iP b):∃ r:Bool,(r=ae↔rq a b)∧bW tab 14 [.a (a.row.map .f),.a (b.row.map .f)]=Eq (.t [vb r,vi 0]):=by
 have key:∃ v,(∃ r:Bool,(r=ae↔rq a b)∧v=.t [vb r,vi 0])∧bW tab 14 [.a (a.row.map .f),.a (b.row.map .f)] v:=by
  refine ko ajI rfl fun Q hQ=>?_;have i9:=(jj a ha.ok.sm).eq;rw [ha.ok.v]at i9;simp [aN.row]at i9;have i_:=(jj b X.ok.sm).eq;rw [X.ok.v]at i_;simp [aN.row]at i_;obtain⟨o8,j4,a8⟩:=zQ a b ha X fun x hx=>by have:=ha.ex x hx;omega
  obtain⟨o9,j8,f8⟩:=zQ b a X ha fun x hx=>by have:=X.ex x hx;omega
  simp only [aN.row,ano,anC]at a8 f8;have i8:=vV a b;simp only [aN.row,ano,anC]at i8;have la:∀(bs:List Nat) (J:an),zL a b bs J→aU J (aa 3) (.c (.ptr 0 0 0))=aa (.a [.f (sl a.cg (aQ a.cs)),.f (fi a.len),.f (sl a.xg (aD a.xs))])∧aU J (aa 3) (.c (.ptr 1 0 0))=aa (.a [.f (sl b.cg (aQ b.cs)),.f (fi b.len),.f (sl b.xg (aD b.xs))]):=fun bs J h=>by refine⟨?_,?_⟩<;>simp [aU,aH,h.h0,h.h1,iI,aW]
  have f_:∀(t:T) (J:an) (bs:List Nat) (v:Bool),t.g 4=.c (.ptr 2 0 0)→t.g 5=.c (.ptr 3 0 0)→(v=ae↔rq a b)→eb bs J→J[2]?=aa (.box [.f (.bool v)] 0)→J[3]?=aa (.box [.f (fi 0)] 0)→∀ j,Q j ⟨t,bs.map .dN,J⟩:=by
   intro t J bs v N O hv h_ M h3 j;refine hQ _ _ _ ⟨v,hv,rfl⟩ ⟨bs,rfl,h_,.t [vb v,vi 0],?_,by simp [kM,dE,aZ]⟩;have d2:=(iF (h_.not M (by simp))).trans M;have d3:=(iF (h_.not h3 (by simp))).trans h3;simp [Km.results,cr,aZ,N,O,d2,d3]
  apply ai;simp [aN.row];obtain⟨J0,b_⟩:=aM ([.box (iI a) 0,.box (iI b) 0,.box [.f (.bool ag)] 0,.box [.f (fi 0)] 0]:an);have l:zL a b [] J0:=by rw [b_];exact⟨rfl,rfl,⟨_,rfl⟩,⟨_,rfl⟩,⟨by simp,by simp⟩⟩
  have l0:J0.length=4:=by rw [b_];rfl
  unfold iI at b_;rw [←b_];apply au;apply ai;simp [(la _ _ l).1,(la _ _ l).2,-az,i9,i_];refine aX (by simp) ?_;apply au;apply ai;have n9:∀(t:T) (J:an) (bs:List Nat),t.g 2=.c (.ptr 0 0 0)→t.g 3=.c (.ptr 1 0 0)→t.g 4=.c (.ptr 2 0 0)→t.g 5=.c (.ptr 3 0 0)→zL a b bs J→(∀ x ∈ a.xs,¬ lN a b x)→(∀ y ∈ b.xs,¬ lN b a y) →
    WP tab 14 ab [.code sL] ⟨t,bs.map .dN,J⟩ Q:=by
   intro t J bs g2 g3 N O hq a7 i6;obtain⟨n3,k3⟩:=hq.h3;have o_:4≤J.length:=by have:=aj k3;omega
   obtain⟨bl,g_⟩:=aM (J.length);apply ai;simp;rw [←g_];obtain⟨HA,a_⟩:=aM (J++[bV.box [.f (.bool ag)] 0]);rw [←a_];have kq:zL a b bs HA:=hq.ba fun i hi=>by rw [a_,AT hi]
   have kl:HA[bl]?=aa (.box [.f (.bool ag)] 0):=by rw [a_,g_];simp
   have kn:HA.length=bl+1:=by rw [a_,g_];simp
   apply au;apply ai;simp [g2,g3,(la _ _ kq).1,(la _ _ kq).2,-az,i8];refine ay ?_
   suffices go:∀ u:T,u.g 4=.c (.ptr 2 0 0)→u.g 5=.c (.ptr 3 0 0)→u.g 9=.c (.ptr bl 0 0)→u.g 44=.c (.f (.fn 66 [.fp a.row 0,.fp b.row 0])) →
     WP tab 14 ab [.code zk,.inBlock 2,.code zl] ⟨u,bs.map .dN,HA⟩ Q by exact go _ (by simp [N]) (by simp [O]) (by simp) (by simp [aN.row])
   clear g2 g3 N O t;intro u N O g9 o4;obtain⟨W,B⟩:∃ W:dw→Option aw→bV,W=fun st pd=>.lp 14 u [P.nat 45] eY eZ st pd (bl+1):=⟨_,rfl⟩
   obtain⟨m,z⟩:=aM (HA++[.eo ae,W .ready ab]);have q4:m[bl+1]?=aa (.eo ae):=by rw [z,ann (by omega),kn];simp
   have q5:m[bl+1+1]?=aa (W .ready ab):=by rw [z,ann (by omega),kn];simp
   have qk:∀ i:Nat,i<HA.length→m[i]?=HA[i]?:=fun i hi=>by rw [z,AT hi]
   have m_:bl+1 ∉ bs:=fun X=>by have:=aj (kq.cl.on _ X);omega
   have qq:=kq.ba qk;have A:zL a b ((bl+1)::bs) m:=⟨qq.h0,qq.h1,qq.h2,qq.h3,⟨ao8.2 ⟨m_,qq.cl.nd⟩,fun b X=>by
    rcases anK.1 X with rfl | X
    ·exact q4
    ·exact qq.cl.on b X⟩⟩
   have ql:m[bl]?=aa (.box [.f (.bool ag)] 0):=by rw [qk bl (by omega)];exact kl
   have o6:m.length=bl+3:=by rw [z,ank,kn];rfl
   obtain⟨H2,he,Z⟩:=oE (bb:=bl+1+1) (H:=m) a b ha X (fun ps J=>m.length≤J.length∧(∀ i:Nat,i<m.length→i≠bl→J[i]?=m[i]?)∧∃ v:Bool,J[bl]?=aa (.box [.f (.bool v)] 0)∧(v=ae↔∃ p ∈ ps,Com p.c p.d p.k))
    (fun _ _=>False) ⟨anl _,fun _ _ _=>rfl,ag,ql,by simp⟩
    (fun ps J J' ⟨h1,M,v,h3,h4⟩ hk hl=>⟨by omega,fun i hi S=>by rw [hk i hi];exact M i hi S,v,by rw [hk bl (by omega)];exact h3,h4⟩)
    (fun ps p J ⟨h1,M,v,h3,h4⟩ hl U=>by
     have I:J[bl+1+1]?=aa (W .ready ab):=by rw [M _ (aj q5) (by omega)];exact q5
     rw [B]at I;obtain⟨us,gu,n8,f7,j7⟩:=acy p.gx p.gy p.xs p.ys U.xo U.yo;obtain⟨em,j_,k_⟩:=KJ gu (us:=us) ⟨by have:=n8.1;omega,n8.2⟩;have F:em=ag↔Com p.c p.d p.k:=by
      rw [←C' U];constructor
      ·intro he;apply Classical.byContradiction;intro hn;have:=j_.2 fun d hd hA=>hn ⟨d,hd,(f7 d hd).1 hA⟩;rw [he]at this;cases this
      ·rintro⟨x,h0,hx⟩;cases em with
       | false=>rfl| true=>exact absurd ((f7 x h0).2 hx) (j_.1 rfl x h0)
     refine⟨ae,?_⟩;obtain⟨r,J',i4,rfl,hr⟩:∃ r J',Ev tab (.yield (bl+1+1)) [.a p.row] J r J'∧(r=vb ae∧(m.length≤J'.length∧(∀ i:Nat,i<m.length→i≠bl→J'[i]?=m[i]?)∧J'[bl]?=aa (.box [.f (.bool (v||!em))] 0))∧J.length≤J'.length∧∀ i:Nat,m.length≤i→i<J.length→J'[i]?=J[i]?):=by
      refine dr (tab:=tab) (b:=bl+1+1) (args:=[.a p.row]) (H:=J) I rfl fun Q' c_=>?_;obtain⟨bp,Y⟩:=aM (J.length);have i7:p.row.length=8:=rfl;refine aq (.inr rfl) ?_;simp [i7];rw [←Y];obtain⟨J1,K⟩:=aM (J++[bV.box p.row 0]);rw [←K];have k1:∀ i:Nat,i<J.length→J1[i]?=J[i]?:=fun i hi=>by rw [K,AT hi]
      have d1:J1[bp]?=aa (.box p.row 0):=by rw [K,Y];simp
      have n1:J1.length=bp+1:=by rw [K,Y];simp
      have e5:J1[bl+1+1]?=aa (.lp 14 u [P.nat 45] eY eZ .ready ab (bl+1)):=by rw [k1 _ (aj I)];exact I
      refine fW e5 ?_;obtain⟨E,s⟩:=aM (J1.set (bl+1+1) (.lp 14 u [P.nat 45] eY eZ .busy ab (bl+1)));rw [←s];have k2:∀ i:Nat,i<J.length→i≠bl+1+1→E[i]?=J[i]?:=fun i hi S=>by rw [s,sh (Ne.symm S),k1 i hi]
      have d2:E[bp]?=aa (.box p.row 0):=by rw [s,sh (by have:=aj I;omega)];exact d1
      have f5:E[bl+1+1]?=aa (.lp 14 u [P.nat 45] eY eZ .busy ab (bl+1)):=by rw [s];exact BY (aj e5)
      have n2:E.length=bp+1:=by rw [s,anD];exact n1
      have v2:E[bl]?=aa (.box [.f (.bool v)] 0):=by rw [k2 bl (by omega) (by omega)];exact h3
      unfold Pr.row at d2;have c5:aU E (aa 1) (.c (.ptr bp 5 0))=aa (.a [.f (sl p.gx (aA p.xs))]):=by simp [aU,aH,d2,aW]
      have c6:aU E (aa 1) (.c (.ptr bp 6 0))=aa (.a [.f (sl p.gy (aA p.ys))]):=by simp [aU,aH,d2,aW]
      obtain⟨bm,j9⟩:=aM (E.length);refine ay ?_;refine au (aq (.inr rfl) ?_);simp [c5,c6,-az,j7,jE];rw [←j9];obtain⟨J3,c9⟩:=aM (E++[bV.box [.f (sl gu (cA us))] 0]);rw [←c9];have k3:∀ i:Nat,i<E.length→J3[i]?=E[i]?:=fun i hi=>by rw [c9,AT hi]
      have m3:J3[bm]?=aa (.box [.f (sl gu (cA us))] 0):=by rw [c9,j9];simp
      have v3:J3[bl]?=aa (.box [.f (.bool v)] 0):=by rw [k3 bl (by omega)];exact v2
      have o5:J3[bl+1+1]?=aa (.lp 14 u [P.nat 45] eY eZ .busy ab (bl+1)):=by rw [k3 _ (aj f5)];exact f5
      have lv:aU J3 ab (.c (.ptr bl 0 0))=aa (vb v):=by simp [aU,aH,v3]
      have lm:aU J3 (aa 1) (.c (.ptr bm 0 0))=aa (.a [.f (sl gu (cA us))]):=by simp [aU,aH,m3,aW]
      have sv:∀ w:Bool,cZ J3 (.ptr bl 0 0) [.f (.bool w)]=aa (J3.set bl (.box [.f (.bool w)] 0)):=fun w=>by simp [cZ,v3,over]
      apply au;refine au (aq (.inr rfl) ?_);simp;refine aX (by simp) ?_;refine aq (.inr rfl) ?_;have d_:∀ t':T,WP tab 14 (aa (bl+1+1)) [.inBlock 3] ⟨t',[],J3.set bl (.box [.f (.bool (v||!em))] 0)⟩ Q':=fun t'=>by
       have s5:(J3.set bl (.box [.f (.bool (v||!em))] 0))[bl+1+1]?=aa (.lp 14 u [P.nat 45] eY eZ .busy ab (bl+1)):=by rw [sh (by omega)];exact o5
       have n3:J3.length=bp+2:=by rw [c9,ank,n2];rfl
       refine ax (cK (c_ _ _ _ _ _ _ _ _ _ _ rfl s5 ⟨rfl,⟨?_,fun i hi S=>?_,?_⟩,?_,fun i h1 M=>?_⟩))
       ·rw [anD,anD,n3];omega
       ·by_cases e:i=bl+1+1
        ·subst e;rw [BY (aj s5)];rw [q5,B];rfl
        ·rw [sh (Ne.symm e),sh (Ne.symm S),k3 i (by omega),k2 i (by omega) e];exact M i hi S
       ·rw [sh (by omega)];exact BY (aj v3)
       ·rw [anD,anD,n3];omega
       ·rw [sh (by omega),sh (by omega),k3 i (by omega),k2 i (by omega) (by omega)]
      cases v with
      | true=>
       simp [g9,lv,sv,-az,-a6];exact d_ _
      | false=>
       simp [g9,lv,lm,sv,-az,-a6,k_];exact d_ _
     refine⟨J',i4,?_⟩;simp only [if_true];refine⟨⟨hr.1.1,hr.1.2.1,_,hr.1.2.2,?_⟩,hr.2⟩;simp only [Bool.or_eq_true,aoD,F,h4,anm,OF];constructor
     ·rintro(⟨q,hq,h⟩ | h)
      ·exact⟨q,.inl hq,h⟩
      ·exact⟨p,.inr rfl,h⟩
     ·rintro⟨q,hq | rfl,h⟩
      ·exact .inl ⟨q,hq,h⟩
      ·exact .inr h)
   have i3:Ev tab (.fn 66) [.c (.yl (HA.length+1)),.c (.f (.fp a.row 0)),.c (.f (.fp b.row 0))] (HA++[.eo ae,.lp 14 u [P.nat 45] eY eZ .ready ab HA.length]) (.t []) H2:=by
    have e:HA++[.eo ae,.lp 14 u [P.nat 45] eY eZ .ready ab HA.length]=m:=by rw [z,B,kn]
    rw [e,kn];exact he
   refine dZ (g:=66) (by rw [oA,o4];simp [bO]) i3 ?_;rw [kn];rcases Z with⟨ps,⟨m9,L,v,hv,l_⟩,n6,e_⟩ | ⟨_,_,h⟩
   case inr=>exact h.elim
   have I:H2[bl+1+1]?=aa (W .ready ab):=by rw [L _ (aj q5) (by omega)];exact q5
   obtain⟨w2,z2⟩:=A.h2;obtain⟨w3,z3⟩:=A.h3;have o7:bl ∉ (bl+1)::bs:=fun h=>by
    have:=A.cl.on _ h;rw [ql]at this;cases this
   have pq:zL a b ((bl+1)::bs) H2:=⟨by rw [L 0 (by omega) (by omega)];exact A.h0,by rw [L 1 (by omega) (by omega)];exact A.h1,⟨w2,by rw [L 2 (by omega) (by omega)];exact z2⟩,⟨w3,by rw [L 3 (by omega) (by omega)];exact z3⟩,
    ⟨A.cl.nd,fun i hi=>by rw [L i (aj (A.cl.on i hi)) (fun e=>o7 (e▸hi))];exact A.cl.on i hi⟩⟩
   rw [B]at I;refine ff I (by decide) ?_;have eq:=pq.set I (by omega) (by simp) (.lp 14 u [P.nat 45] eY eZ .exhausted ab (bl+1));have ev:(H2.set (bl+1+1) (.lp 14 u [P.nat 45] eY eZ .exhausted ab (bl+1)))[bl]?=aa (.box [.f (.bool v)] 0):=by rw [sh (by omega)];exact hv
   generalize H2.set (bl+1+1) (.lp 14 u [P.nat 45] eY eZ .exhausted ab (bl+1))=H3 at eq ev ⊢;obtain⟨s1,s2,s3,s4,s6⟩:=eq.tell v 0;have lv:aU H3 ab (.c (.ptr bl 0 0))=aa (vb v):=by simp [aU,aH,ev]
   refine ax ?_;apply ai;simp [N,O,g9,lv,s1,s2,-az,-a6];refine aE (f_ _ _ _ v (by simp [N]) (by simp [O]) ?_ s3 s4 s6 _);rw [l_];constructor
   ·rintro⟨p,U,h⟩;have:=n6 p U;exact .inr (.inr ⟨p.c,this.ca,p.d,this.db,p.k,this.lo,this.hi,h⟩)
   ·rintro(⟨x,hx,h⟩ | ⟨y,hy,h⟩ | ⟨c,hc,d,hd,k,h1,M,h⟩)
    ·exact absurd h (a7 x hx)
    ·exact absurd h (i6 y hy)
    ·obtain⟨p,U,rfl,rfl,rfl⟩:=e_ c hc d hd k h1 M;exact⟨p,U,h⟩
  have n_:∀(t:T) (J:an) (bs:List Nat),t.g 4=.c (.ptr 2 0 0)→t.g 5=.c (.ptr 3 0 0)→zL a b bs J→rq a b→WP tab 14 ab [.code zg,.code sK] ⟨t,bs.map .dN,J⟩ Q:=by
   intro t J bs N O hq hm;obtain⟨s1,s2,s3,s4,s6⟩:=hq.tell ae 0;apply ai;simp [N,O,s1,s2,-a6];exact aE (f_ _ _ _ ae (by simp [N]) (by simp [O]) ⟨fun _=>hm,fun _=>rfl⟩ s3 s4 s6 _)
  have early:∀ t:T,t.g 2=.c (.ptr 0 0 0)→t.g 3=.c (.ptr 1 0 0)→t.g 4=.c (.ptr 2 0 0)→t.g 5=.c (.ptr 3 0 0)→(∀ x ∈ a.xs,¬ lN a b x)→(∀ y ∈ b.xs,¬ lN b a y)→WP tab 14 ab [.code sK] ⟨t,[],J0⟩ Q:=by
   intro t g2 g3 N O a7 i6;apply au;apply ai;simp [g2,g3,(la _ _ l).1,(la _ _ l).2,-az,i8];refine ay ?_
   suffices go:∀ u:T,u.g 2=.c (.ptr 0 0 0)→u.g 3=.c (.ptr 1 0 0)→u.g 4=.c (.ptr 2 0 0)→u.g 5=.c (.ptr 3 0 0)→u.g 31=.c (.f (.fn 66 [.fp a.row 0,.fp b.row 0])) →
     WP tab 14 ab [.code zh,.inBlock 0,.code sL] ⟨u,([]:List Nat).map .dN,J0⟩ Q by exact go _ (by simp [g2]) (by simp [g3]) (by simp [N]) (by simp [O]) (by simp [aN.row])
   clear g2 g3 N O t;intro u g2 g3 N O o0;obtain⟨W,B⟩:∃ W:dw→Option aw→bV,W=fun st pd=>.lp 14 u [P.nat 32] iv iw st pd 4:=⟨_,rfl⟩
   obtain⟨m,z⟩:=aM (J0++[.eo ae,W .ready ab]);have q4:m[4]?=aa (.eo ae):=by rw [z,ann (by omega),l0];simp
   have q5:m[5]?=aa (W .ready ab):=by rw [z,ann (by omega),l0];simp
   have qq:=l.ba (J':=m) fun i hi=>by rw [z,AT hi]
   have A:zL a b [4] m:=⟨qq.h0,qq.h1,qq.h2,qq.h3,⟨by simp,fun b X=>by rw [OF.1 X];exact q4⟩⟩
   have o6:m.length=6:=by rw [z,ank,l0];rfl
   obtain⟨H2,he,Z⟩:=oE (bb:=5) (H:=m) a b ha X (fun ps J=>m.length≤J.length∧(∀ i:Nat,i<m.length→J[i]?=m[i]?)∧∀ p ∈ ps,¬ Com p.c p.d p.k)
    (fun p J=>Com p.c p.d p.k∧eb [4] J∧J[2]?=aa (.box [.f (.bool ae)] 0)∧J[3]?=aa (.box [.f (fi 0)] 0)∧J[5]?=aa (W .done (aa .ret))) ⟨anl _,fun _ _=>rfl,by simp⟩
    (fun ps J J' ⟨h1,M,h3⟩ hk hl=>⟨by omega,fun i hi=>by rw [hk i hi];exact M i hi,h3⟩)
    (fun ps p J ⟨h1,M,h3⟩ hl U=>by
     have I:J[5]?=aa (W .ready ab):=by rw [M _ (aj q5)];exact q5
     have pq:=A.ba M;rw [B]at I;obtain⟨e,f,hm,-,d9⟩:=qV p.gx p.gy p.xs p.ys U.xo U.yo 0 (by omega) (by omega);have F:f=ae↔Com p.c p.d p.k:=by
      rw [←C' U];rcases hm with⟨rfl,-,k⟩ | ⟨rfl,k,-⟩
      ·exact⟨fun h=>(by cases h),fun⟨x,h0,h1,M⟩=>absurd ⟨by omega,h1,M⟩ (k x)⟩
      ·exact⟨fun _=>⟨e,by have:=k.1;omega,k.2⟩,fun _=>rfl⟩
     refine⟨!f,?_⟩;obtain⟨r,J',i4,rfl,hr⟩:∃ r J',Ev tab (.yield 5) [.a p.row] J r J'∧(r=vb (!f)∧(if f=ae then eb [4] J'∧J'[2]?=aa (.box [.f (.bool ae)] 0)∧J'[3]?=aa (.box [.f (fi 0)] 0)∧J'[5]?=aa (W .done (aa .ret))else J.length≤J'.length∧∀ i:Nat,i<J.length→J'[i]?=J[i]?)):=by
      refine dr (tab:=tab) (b:=5) (args:=[.a p.row]) (H:=J) I rfl fun Q' c_=>?_;obtain⟨bp,Y⟩:=aM (J.length);have i7:p.row.length=8:=rfl;refine aq (.inr rfl) ?_;simp [i7];rw [←Y];obtain⟨J1,K⟩:=aM (J++[bV.box p.row 0]);rw [←K];have k1:∀ i:Nat,i<J.length→J1[i]?=J[i]?:=fun i hi=>by rw [K,AT hi]
      have d1:J1[bp]?=aa (.box p.row 0):=by rw [K,Y];simp
      have n1:J1.length=bp+1:=by rw [K,Y];simp
      have e5:J1[5]?=aa (.lp 14 u [P.nat 32] iv iw .ready ab 4):=by rw [k1 _ (aj I)];exact I
      refine fW e5 ?_;obtain⟨E,s⟩:=aM (J1.set 5 (.lp 14 u [P.nat 32] iv iw .busy ab 4));rw [←s];have k2:∀ i:Nat,i<J.length→i≠5→E[i]?=J[i]?:=fun i hi S=>by rw [s,sh (Ne.symm S),k1 i hi]
      have d2:E[bp]?=aa (.box p.row 0):=by rw [s,sh (by have:=aj I;omega)];exact d1
      have f5:E[5]?=aa (.lp 14 u [P.nat 32] iv iw .busy ab 4):=by rw [s];exact BY (aj e5)
      have n2:E.length=bp+1:=by rw [s,anD];exact n1
      have q2:zL a b [4] E:=by rw [s];exact(pq.ba k1).set e5 (by omega) (by simp) _
      unfold Pr.row at d2;have c5:aU E (aa 1) (.c (.ptr bp 5 0))=aa (.a [.f (sl p.gx (aA p.xs))]):=by simp [aU,aH,d2,aW]
      have c6:aU E (aa 1) (.c (.ptr bp 6 0))=aa (.a [.f (sl p.gy (aA p.ys))]):=by simp [aU,aH,d2,aW]
      refine ay ?_;refine au (aq (.inr rfl) ?_);simp [c5,c6,-az,d9];apply au;refine aq (.inr rfl) ?_;simp;cases f with
      | true=>
       refine av (by simp) ?_;obtain⟨s1,s2,s3,s4,s6⟩:=q2.tell ae 0;have s5:((E.set 2 (.box [.f (.bool ae)] 0)).set 3 (.box [.f (fi 0)] 0))[5]?=aa (.lp 14 u [P.nat 32] iv iw .busy ab 4):=by rw [sh (by omega),sh (by omega)];exact f5
       refine au (aq (.inr rfl) ?_);simp [N,O,s1,s2,-a6];refine aE (c_ _ _ _ _ _ _ _ _ _ _ rfl s5 ⟨rfl,?_⟩);rw [bf rfl];refine⟨s3.set s5 (by simp),?_,?_,?_⟩
       ·rw [sh (by omega)];exact s4
       ·rw [sh (by omega)];exact s6
       ·rw [B];exact BY (aj s5)
      | false=>
       refine aF (by simp) (aR (ax (cK (c_ _ _ _ _ _ _ _ _ _ _ rfl f5 ⟨rfl,?_⟩))));rw [aT (by simp)];refine⟨by rw [anD,n2];omega,fun i hi=>?_⟩;by_cases e:i=5
       ·subst e;rw [BY (aj f5),I];rfl
       ·rw [sh (Ne.symm e),k2 i hi e]
     refine⟨J',i4,?_⟩;cases f with
     | true=>simpa using ⟨F.1 rfl,by simpa using hr⟩
     | false=>
      have hr:J.length≤J'.length∧∀ i:Nat,i<J.length→J'[i]?=J[i]?:=by simpa using hr
      simp only [Bool.not_false,if_true];refine⟨⟨by omega,fun i hi=>by rw [hr.2 i (by omega)];exact M i hi,fun q hq=>?_⟩,hr.1,fun i _ hi=>hr.2 i hi⟩;rcases anm.1 hq with h | h
      ·exact h3 q h
      ·rw [OF.1 h];intro h;have:=F.2 h;cases this)
   have i3:Ev tab (.fn 66) [.c (.yl (J0.length+1)),.c (.f (.fp a.row 0)),.c (.f (.fp b.row 0))] (J0++[.eo ae,.lp 14 u [P.nat 32] iv iw .ready ab J0.length]) (.t []) H2:=by
    have e:J0++[.eo ae,.lp 14 u [P.nat 32] iv iw .ready ab J0.length]=m:=by rw [z,B,l0]
    rw [e,l0];exact he
   refine dZ (g:=66) (by rw [oA,o0];simp [bO]) i3 ?_;rw [l0];rcases Z with⟨ps,⟨m9,L,p8⟩,n6,e_⟩ | ⟨p,U,F,c1,c2,c3,c5⟩
   ·have I:H2[5]?=aa (W .ready ab):=by rw [L _ (aj q5)];exact q5
    rw [B]at I;refine ff I (by decide) (ax ?_);exact n9 u _ [4] g2 g3 N O ((A.ba L).set I (by omega) (by simp) _) a7 i6
   ·rw [B]at c5;refine pN c5 (by decide) ?_;refine aE (f_ _ _ [4] ae N O ⟨fun _=>.inr (.inr ⟨p.c,U.ca,p.d,U.db,p.k,U.lo,U.hi,F⟩),fun _=>rfl⟩ (c1.set c5 (by simp)) ?_ ?_ _)
    ·rw [sh (by omega)];exact c2
    ·rw [sh (by omega)];exact c3
  cases o8 with
  | true=>
   simp [(la _ _ l).1,(la _ _ l).2,-az,a8];refine av (by simp) ?_;exact n_ _ J0 [] (by simp) (by simp) l (.inl (j4.1 rfl))
  | false=>
   have a7:∀ x ∈ a.xs,¬ lN a b x:=fun x hx h=>by have:=j4.2 ⟨x,hx,h⟩;cases this
   cases o9 with
   | true=>
    simp [(la _ _ l).1,(la _ _ l).2,-az,a8,f8];refine av (by simp) ?_;exact n_ _ J0 [] (by simp) (by simp) l (.inr (.inl (j8.1 rfl)))
   | false=>
    simp [(la _ _ l).1,(la _ _ l).2,-az,a8,f8];refine aX (by simp) ?_;exact early _ (by simp) (by simp) (by simp) (by simp) a7 fun y hy h=>by have:=j8.2 ⟨y,hy,h⟩;cases this
 obtain⟨v,⟨r,hr,rfl⟩,h⟩:=key;exact⟨r,hr,h.eq⟩
theorem vd{a b:aN}{K:Int}{v:T}(o:FT v){d B:Nat}(S:v.g 20=.c (.ptr d 0 0)){x:aB}{s:FS}{J:an}(t:FQ a b K s J)(e:J[d]?=aa (.box [.f (fi x.day),.f (fi x.fr),.f (fi x.to)] 0))(hb:10≤d)(hB:d<B)(W:J[B]?=aa (.lp 10 v [P.nat 138] ic ie .ready ab (B-1)))(y:aB) :
  ∃ r J',Ev tab (.yield B) [.a (y.row.map .f)] J r J'∧(r=vb ae∧FQ a b K (fj K s x y) J'∧J'[B]?=aa (.lp 10 v [P.nat 138] ic ie .ready ab (B-1))∧J.length≤J'.length∧∀ i:Nat,9≤i→i<J.length→i≠B→J'[i]?=J[i]?):=by
 have lB:=aj W;refine dr (tab:=tab) (b:=B) (args:=[.a (y.row.map .f)]) (H:=J) W rfl fun Q' U=>?_;obtain⟨g,l⟩:=aM (J.length);obtain⟨z,q⟩:=aM (J++[bV.box [.f (fi y.day),.f (fi y.fr),.f (fi y.to)] 0]);have N:z[g]?=aa (.box [.f (fi y.day),.f (fi y.fr),.f (fi y.to)] 0):=by rw [q,l];simp
 have f:∀ i:Nat,i<J.length→z[i]?=J[i]?:=fun i hi=>by rw [q,AT hi]
 have w:z.length=g+1:=by rw [q,ank,l];rfl
 refine aq (.inr rfl) ?_;simp [aB.row];rw [←q,←l];have Z:z[B]?=aa (.lp 10 v [P.nat 138] ic ie .ready ab (B-1)):=by rw [f B lB];exact W
 refine fW Z ?_;obtain⟨m,j⟩:=aM (z.set B (.lp 10 v [P.nat 138] ic ie .busy ab (B-1)));have Y:∀ i:Nat,i<J.length→i≠B→m[i]?=J[i]?:=fun i hi u=>by rw [j,sh (Ne.symm u),f i hi]
 have Q:m[g]?=aa (.box [.f (fi y.day),.f (fi y.fr),.f (fi y.to)] 0):=by rw [j,sh (by omega)];exact N
 have O:m[d]?=aa (.box [.f (fi x.day),.f (fi x.fr),.f (fi x.to)] 0):=by rw [Y d (aj e) (by omega)];exact e
 have h:m[B]?=aa (.lp 10 v [P.nat 138] ic ie .busy ab (B-1)):=by rw [j];exact BY (by omega)
 have F:FQ a b K s m:=t.ba fun i hi=>Y i (by omega) (by omega);have l2:m.length=g+1:=by rw [j,anD];exact w
 rw [←j];have L:aU m (aa 3) (.c (.ptr d 0 0))=aa (.a [.f (fi x.day),.f (fi x.fr),.f (fi x.to)]):=by simp [aU,aH,O,aW]
 have M:aU m (aa 3) (.c (.ptr g 0 0))=aa (.a [.f (fi y.day),.f (fi y.fr),.f (fi y.to)]):=by simp [aU,aH,Q,aW]
 have k:aU m ab (.c (.ptr 9 0 0))=aa (.c ns):=by simp [aU,aH,F.h9]
 obtain⟨c,A,X,p,E⟩:=qv F x y;simp only [aB.row,ano,anC]at A;refine ay ?_;refine aq (.inr rfl) ?_;simp [o.g13,S,k,L,M,-az,ns,A.eq];have I:c[B]?=aa (.lp 10 v [P.nat 138] ic ie .busy ab (B-1)):=by rw [E B (by omega) (by omega)];exact h
 refine ax (cK (U _ _ _ _ _ _ _ _ _ _ rfl I ⟨rfl,?_,BY (aj I),by show J.length≤(c.set B _).length;rw [anD];omega,fun i h1 n u=>?_⟩))
 ·exact X.ba fun i hi=>by rw [sh (by omega)]
 ·rw [sh (Ne.symm u),E i (by omega) (by omega),Y i n u]
theorem ve{a b:aN}{K:Int}{v:T}(o:FT v){d B:Nat}(S:v.g 25=.c (.ptr d 0 0)){y:aB}{s:FS}{J:an}(t:FQ a b K s J)(e:J[d]?=aa (.box [.f (fi y.day),.f (fi y.fr),.f (fi y.to)] 0))(hb:10≤d)(hB:d<B)(W:J[B]?=aa (.lp 10 v [P.nat 166] ig ij .ready ab (B-1)))(x:aB) :
  ∃ r J',Ev tab (.yield B) [.a (x.row.map .f)] J r J'∧(r=vb ae∧FQ a b K (fj K s x y) J'∧J'[B]?=aa (.lp 10 v [P.nat 166] ig ij .ready ab (B-1))∧J.length≤J'.length∧∀ i:Nat,9≤i→i<J.length→i≠B→J'[i]?=J[i]?):=by
 have lB:=aj W;refine dr (tab:=tab) (b:=B) (args:=[.a (x.row.map .f)]) (H:=J) W rfl fun Q' U=>?_;obtain⟨g,l⟩:=aM (J.length);obtain⟨z,q⟩:=aM (J++[bV.box [.f (fi x.day),.f (fi x.fr),.f (fi x.to)] 0]);have N:z[g]?=aa (.box [.f (fi x.day),.f (fi x.fr),.f (fi x.to)] 0):=by rw [q,l];simp
 have f:∀ i:Nat,i<J.length→z[i]?=J[i]?:=fun i hi=>by rw [q,AT hi]
 have w:z.length=g+1:=by rw [q,ank,l];rfl
 refine aq (.inr rfl) ?_;simp [aB.row];rw [←q,←l];have Z:z[B]?=aa (.lp 10 v [P.nat 166] ig ij .ready ab (B-1)):=by rw [f B lB];exact W
 refine fW Z ?_;obtain⟨m,j⟩:=aM (z.set B (.lp 10 v [P.nat 166] ig ij .busy ab (B-1)));have Y:∀ i:Nat,i<J.length→i≠B→m[i]?=J[i]?:=fun i hi u=>by rw [j,sh (Ne.symm u),f i hi]
 have Q:m[g]?=aa (.box [.f (fi x.day),.f (fi x.fr),.f (fi x.to)] 0):=by rw [j,sh (by omega)];exact N
 have O:m[d]?=aa (.box [.f (fi y.day),.f (fi y.fr),.f (fi y.to)] 0):=by rw [Y d (aj e) (by omega)];exact e
 have h:m[B]?=aa (.lp 10 v [P.nat 166] ig ij .busy ab (B-1)):=by rw [j];exact BY (by omega)
 have F:FQ a b K s m:=t.ba fun i hi=>Y i (by omega) (by omega);have l2:m.length=g+1:=by rw [j,anD];exact w
 rw [←j];have L:aU m (aa 3) (.c (.ptr d 0 0))=aa (.a [.f (fi y.day),.f (fi y.fr),.f (fi y.to)]):=by simp [aU,aH,O,aW]
 have M:aU m (aa 3) (.c (.ptr g 0 0))=aa (.a [.f (fi x.day),.f (fi x.fr),.f (fi x.to)]):=by simp [aU,aH,Q,aW]
 have k:aU m ab (.c (.ptr 9 0 0))=aa (.c ns):=by simp [aU,aH,F.h9]
 obtain⟨c,A,X,p,E⟩:=qv F x y;simp only [aB.row,ano,anC]at A;refine ay ?_;refine aq (.inr rfl) ?_;simp [o.g13,S,k,L,M,-az,ns,A.eq];have I:c[B]?=aa (.lp 10 v [P.nat 166] ig ij .busy ab (B-1)):=by rw [E B (by omega) (by omega)];exact h
 refine ax (cK (U _ _ _ _ _ _ _ _ _ _ rfl I ⟨rfl,?_,BY (aj I),by show J.length≤(c.set B _).length;rw [anD];omega,fun i h1 n u=>?_⟩))
 ·exact X.ba fun i hi=>by rw [sh (by omega)]
 ·rw [sh (Ne.symm u),E i (by omega) (by omega),Y i n u]
def FW(a b:aN)(d:Int)(S:aB→aB→Prop)(bs:List Nat)(J:an):Prop:=(∃ s,FQ a b d s J∧jQ d S s)∧eb bs J∧∀ i ∈ bs,10≤i∧i<J.length
theorem FW.push{a b:aN}{fr:Int}{S:aB→aB→Prop}{bs:List Nat}{J:an}(h:FW a b fr S bs J)(K:an):FW a b fr S bs (J++K):=by
 obtain⟨⟨s,g,j⟩,hc,d⟩:=h;have l:=aj g.h9;exact⟨⟨s,g.ba fun i hi=>by rw [AT (by omega)],j⟩,hc.push K,fun i hi=>⟨(d i hi).1,by rw [ank];have:=(d i hi).2;omega⟩⟩
theorem ahO{a b:aN}(ha:iP a)(hb:iP b){U:Int}{x:aB}(x0:-1000000000000≤x.fr)(x1:x.to≤1000000000000)(x2:x.fr<x.to){S:aB→aB→Prop}{bs:List Nat}{J:an}(h:FW a b U S bs J){v:T}(hT:FT v){d:Nat}(n:v.g 20=.c (.ptr d 0 0))(W:v.g 137=.c (.f (.fn 71 [.fp b.row 0,.fp x.row 0])))(hx:J[d]?=aa (.box [.f (fi x.day),.f (fi x.fr),.f (fi x.to)] 0))(Y:10≤d){k:List cT}{Q:Option aw→St→Prop}
  (hk:∀(J':an) (L:List Nat),FW a b U (fun z A=>S z A∨(z=x∧jT b x A)) L J'→J'[d]?=aa (.box [.f (fi x.day),.f (fi x.fr),.f (fi x.to)] 0)→J.length≤J'.length→WP tab 10 ab k ⟨v,L.map .dN,J'⟩ Q) :
  WP tab 10 ab (.code xw::.inBlock 4::k) ⟨v,bs.map .dN,J⟩ Q:=by
 obtain⟨⟨s0,f,t⟩,Z,j⟩:=h;obtain⟨N,X⟩:=aM (J.length);have l9:=aj f.h9;have lx:=aj hx;obtain⟨I,l⟩:=aM (J++[.eo ae,.lp 10 v [P.nat 138] ic ie .ready ab N]:an);have lR:I.length=N+2:=by rw [l,ank,X];rfl
 have kR:∀ i:Nat,i<J.length→I[i]?=J[i]?:=fun i hi=>by rw [l,AT hi]
 have rd:I[N]?=aa (.eo ae):=by rw [l,X];simp
 have rl:I[N+1]?=aa (.lp 10 v [P.nat 138] ic ie .ready ab N):=by rw [l,X,ann (by omega)];simp
 obtain⟨H2,he,ys,⟨s,e,c,u,M,O,K,e4⟩,a7⟩:=wX (bb:=N+1) (H:=I) b hb x x0 x1 x2
  (fun ys J'=>∃ s,FQ a b U s J'∧jQ U (fun z A=>S z A∨(z=x∧A ∈ ys)) s∧eb bs J'∧J'[N]?=aa (.eo ae)∧J'[N+1]?=aa (.lp 10 v [P.nat 138] ic ie .ready ab N)∧J'[d]?=aa (.box [.f (fi x.day),.f (fi x.fr),.f (fi x.to)] 0)∧I.length≤J'.length)
  ⟨s0,f.ba fun i hi=>kR i (by omega),t.iff fun z A _=>⟨fun h=>h.elim id fun h=>by simp at h,.inl⟩,⟨Z.nd,fun i hi=>by rw [kR i (j i hi).2];exact Z.on i hi⟩,rd,rl,by rw [kR d lx];exact hx,anl _⟩
  (fun ys J1 J2 ⟨s,e,c,u,M,O,K,e4⟩ m hl=>⟨s,e.ba fun i hi=>m i (by omega),c,⟨u.nd,fun i hi=>by rw [m i (by have:=(j i hi).2;omega)];exact u.on i hi⟩,by rw [m N (by omega)];exact M,by rw [m (N+1) (by omega)];exact O,by rw [m d (by omega)];exact K,by omega⟩)
  (fun ys y J1 ⟨s,e,c,u,M,O,K,e4⟩ hl _=>by
   obtain⟨r,J2,o,rfl,w,p,F,q⟩:=vd hT n e K Y (show d<N+1 by omega) O y;refine⟨J2,o,⟨fj U s x y,w,(c.one x y).iff fun z A _=>?_,⟨u.nd,fun i hi=>?_⟩,?_,p,?_,by omega⟩,F,fun i h1 h2=>q i (by omega) h2 (by omega)⟩
   ·rw [anm,OF];constructor
    ·rintro(h | ⟨h,B | B⟩)
     ·exact .inl (.inl h)
     ·exact .inl (.inr ⟨h,B⟩)
     ·exact .inr ⟨h,B⟩
    ·rintro((h | ⟨h,B⟩) | ⟨h,B⟩)
     ·exact .inl h
     ·exact .inr ⟨h,.inl B⟩
     ·exact .inr ⟨h,.inr B⟩
   ·have:=j i hi;rw [q i (by omega) (by omega) (by omega)];exact u.on i hi
   ·rw [q N (by omega) (by omega) (by omega)];exact M
   ·rw [q d (by omega) (by omega) (by omega)];exact K)
 rw [l,X]at he;refine dZ (g:=71) (by rw [oA,W];simp [bO]) he ?_;rw [←X];refine ff O (by decide) (ax ?_);have E:(fB.dN N::bs.map .dN)=(N::bs).map .dN:=rfl;rw [E];refine hk _ (N::bs) ⟨⟨s,e.ba fun i hi=>by rw [sh (by omega)],c.iff fun z A _=>by rw [a7]⟩,⟨ao8.2 ⟨fun hi=>by have:=(j N hi).2;omega,u.nd⟩,fun i hi=>?_⟩,fun i hi=>?_⟩ (by rw [sh (by omega)];exact K) (by rw [anD];omega)
 ·rcases anK.1 hi with rfl | hi
  ·rw [sh (by omega)];exact M
  ·have:=j i hi;rw [sh (by omega)];exact u.on i hi
 ·rw [anD];rcases anK.1 hi with rfl | hi
  ·omega
  ·have:=j i hi;omega
theorem ahP{a b:aN}(ha:iP a)(hb:iP b){U:Int}{x:aB}(x0:-1000000000000≤x.fr)(x1:x.to≤1000000000000)(x2:x.fr<x.to){S:aB→aB→Prop}{bs:List Nat}{J:an}(h:FW a b U S bs J){v:T}(hT:FT v){d:Nat}(n:v.g 25=.c (.ptr d 0 0))(W:v.g 165=.c (.f (.fn 71 [.fp a.row 0,.fp x.row 0])))(hx:J[d]?=aa (.box [.f (fi x.day),.f (fi x.fr),.f (fi x.to)] 0))(Y:10≤d){k:List cT}{Q:Option aw→St→Prop}
  (hk:∀(J':an) (L:List Nat),FW a b U (fun z A=>S z A∨(A=x∧jT a x z)) L J'→J'[d]?=aa (.box [.f (fi x.day),.f (fi x.fr),.f (fi x.to)] 0)→J.length≤J'.length→WP tab 10 ab k ⟨v,L.map .dN,J'⟩ Q) :
  WP tab 10 ab (.code xy::.inBlock 10::k) ⟨v,bs.map .dN,J⟩ Q:=by
 obtain⟨⟨s0,f,t⟩,Z,j⟩:=h;obtain⟨N,X⟩:=aM (J.length);have l9:=aj f.h9;have lx:=aj hx;obtain⟨I,l⟩:=aM (J++[.eo ae,.lp 10 v [P.nat 166] ig ij .ready ab N]:an);have lR:I.length=N+2:=by rw [l,ank,X];rfl
 have kR:∀ i:Nat,i<J.length→I[i]?=J[i]?:=fun i hi=>by rw [l,AT hi]
 have rd:I[N]?=aa (.eo ae):=by rw [l,X];simp
 have rl:I[N+1]?=aa (.lp 10 v [P.nat 166] ig ij .ready ab N):=by rw [l,X,ann (by omega)];simp
 obtain⟨H2,he,ys,⟨s,e,c,u,M,O,K,e4⟩,a7⟩:=wX (bb:=N+1) (H:=I) a ha x x0 x1 x2
  (fun ys J'=>∃ s,FQ a b U s J'∧jQ U (fun z A=>S z A∨(A=x∧z ∈ ys)) s∧eb bs J'∧J'[N]?=aa (.eo ae)∧J'[N+1]?=aa (.lp 10 v [P.nat 166] ig ij .ready ab N)∧J'[d]?=aa (.box [.f (fi x.day),.f (fi x.fr),.f (fi x.to)] 0)∧I.length≤J'.length)
  ⟨s0,f.ba fun i hi=>kR i (by omega),t.iff fun z A _=>⟨fun h=>h.elim id fun h=>by simp at h,.inl⟩,⟨Z.nd,fun i hi=>by rw [kR i (j i hi).2];exact Z.on i hi⟩,rd,rl,by rw [kR d lx];exact hx,anl _⟩
  (fun ys J1 J2 ⟨s,e,c,u,M,O,K,e4⟩ m hl=>⟨s,e.ba fun i hi=>m i (by omega),c,⟨u.nd,fun i hi=>by rw [m i (by have:=(j i hi).2;omega)];exact u.on i hi⟩,by rw [m N (by omega)];exact M,by rw [m (N+1) (by omega)];exact O,by rw [m d (by omega)];exact K,by omega⟩)
  (fun ys y J1 ⟨s,e,c,u,M,O,K,e4⟩ hl _=>by
   obtain⟨r,J2,o,rfl,w,p,F,q⟩:=ve hT n e K Y (show d<N+1 by omega) O y;refine⟨J2,o,⟨fj U s y x,w,(c.one y x).iff fun z A _=>?_,⟨u.nd,fun i hi=>?_⟩,?_,p,?_,by omega⟩,F,fun i h1 h2=>q i (by omega) h2 (by omega)⟩
   ·rw [anm,OF];constructor
    ·rintro(h | ⟨h,B | B⟩)
     ·exact .inl (.inl h)
     ·exact .inl (.inr ⟨h,B⟩)
     ·exact .inr ⟨B,h⟩
    ·rintro((h | ⟨h,B⟩) | ⟨h,B⟩)
     ·exact .inl h
     ·exact .inr ⟨h,.inl B⟩
     ·exact .inr ⟨B,.inr h⟩
   ·have:=j i hi;rw [q i (by omega) (by omega) (by omega)];exact u.on i hi
   ·rw [q N (by omega) (by omega) (by omega)];exact M
   ·rw [q d (by omega) (by omega) (by omega)];exact K)
 rw [l,X]at he;refine dZ (g:=71) (by rw [oA,W];simp [bO]) he ?_;rw [←X];refine ff O (by decide) (ax ?_);have E:(fB.dN N::bs.map .dN)=(N::bs).map .dN:=rfl;rw [E];refine hk _ (N::bs) ⟨⟨s,e.ba fun i hi=>by rw [sh (by omega)],c.iff fun z A _=>by rw [a7]⟩,⟨ao8.2 ⟨fun hi=>by have:=(j N hi).2;omega,u.nd⟩,fun i hi=>?_⟩,fun i hi=>?_⟩ (by rw [sh (by omega)];exact K) (by rw [anD];omega)
 ·rcases anK.1 hi with rfl | hi
  ·rw [sh (by omega)];exact M
  ·have:=j i hi;rw [sh (by omega)];exact u.on i hi
 ·rw [anD];rcases anK.1 hi with rfl | hi
  ·omega
  ·have:=j i hi;omega
def PM(a b:aN)(p:Pr)(x y:aB):Prop:=∃ e,0≤e∧dU p.xs e∧dU p.ys e∧x=fQ a p e∧y=fR b p e
def lZ(s:aN)(x:aB):Prop:=∃ c ∈ s.cs,∃ d,0≤d∧dU c.ts d∧x=cJ s.len c.min d
theorem adv{a b:aN}(k:iP a)(n:iP b){g:Int}(f0:-1000000000000≤g)(f1:g≤100000000000000){p:Pr}(J:oz a b p){e:Int}{f:Bool}(H:eF (fun e=>n0P a b g p≤e∧dU p.xs e∧dU p.ys e) e f)(E:f=ae→e≤1000001000000){S:aB→aB→Prop}{s:FS}(o:jQ g S s) :
  jQ g (fun x y=>S x y∨PM a b p x y) (Cy a b g p e f s):=by
 obtain⟨c9,c_⟩:=k.ok.len;obtain⟨d9,d_⟩:=n.ok.len;have t:=k.ok.min J.ca;have a7:=n.ok.min J.db;have Q:=J.lo;have O:=J.hi;unfold wz at Q;unfold wc at O;have kb:-20≤p.k∧p.k≤20:=by omega
 have key:∀ m q,PM a b p m q→okB g m q→∃ d,n0P a b g p≤d∧0≤d∧dU p.xs d∧dU p.ys d∧m=fQ a p d∧q=fR b p d:=by
  rintro m q ⟨d,A,K,L,rfl,rfl⟩ ⟨-,-,M⟩;refine⟨d,?_,A,K,L,rfl,rfl⟩;simp only [kD,fQ,fR,cJ]at M;unfold n0P VF;omega
 unfold Cy;rcases H with⟨rfl,-,U⟩ | ⟨rfl,⟨A,K,L⟩,l⟩
 ·simp only [Bool.false_eq_true,if_false];refine o.none fun m q N I=>?_;obtain⟨d,W,-,Z,c,-⟩:=key m q N I;exact U d ⟨W,Z,c⟩
 ·simp only [if_true];have b_:0≤n0P a b g p:=by unfold n0P;omega
  have E:=E rfl;refine o.step ⟨e,by omega,K,L,rfl,rfl⟩ fun m q N I=>?_;obtain⟨d,W,k0,Z,c,rfl,rfl⟩:=key m q N I;have a_:=l d ⟨W,Z,c⟩;obtain⟨-,-,M⟩:=I;obtain⟨v,j⟩:=aM (max 0 (-p.k));have r:0≤v∧v≤20:=by omega
  obtain⟨z,w⟩:=aM ((d-e)*1440);have B:0≤z∧(d≠e→0<z):=⟨by omega,fun h=>by omega⟩
  have i:(fQ a p e).fr=(e+v)*1440+p.c.min∧(fQ a p e).to=(e+v)*1440+p.c.min+a.len:=by unfold fQ cJ;rw [←j];exact⟨rfl,rfl⟩
  have ya:(fR b p e).fr=(e+v+p.k)*1440+p.d.min∧(fR b p e).to=(e+v+p.k)*1440+p.d.min+b.len:=by unfold fR cJ;rw [←j];exact⟨rfl,rfl⟩
  have xb:(fQ a p d).fr=(fQ a p e).fr+z∧(fQ a p d).to=(fQ a p e).to+z:=by unfold fQ cJ;simp only;rw [←j];omega
  have yb:(fR b p d).fr=(fR b p e).fr+z∧(fR b p d).to=(fR b p e).to+z:=by unfold fR cJ;simp only;rw [←j];omega
  have a8:g<(fQ a p e).to∧g<(fR b p e).to:=by
   rw [i.2,ya.2];unfold n0P VF at A;rw [←j]at A;omega
  have F:(fQ a p e).to≤2251799813685248∧(fR b p e).to≤2251799813685248:=by rw [i.2,ya.2];omega
  have u:d=e→fQ a p d=fQ a p e∧fR b p d=fR b p e:=fun h=>by subst h;exact⟨rfl,rfl⟩
  generalize fQ a p e=X at *;generalize fR b p e=Y at *;generalize fQ a p d=X' at *;generalize fR b p d=Y' at *;clear i ya A l;unfold kD at M;refine⟨⟨F.1,F.2,?_⟩,?_⟩
  ·unfold kD;omega
  ·by_cases H:d=e
   ·obtain⟨rfl,rfl⟩:=u H;unfold yS aB.lt;omega
   ·have:=B.2 H;unfold yS aB.lt kD;omega
theorem ahK{a b:aN}(L:iP a)(M:iP b){A:Int}{ps:List Pr}(m:∀ p ∈ ps,oz a b p)(l:∀ c ∈ a.cs,∀ d ∈ b.cs,∀ k,wz a.len b.len c d≤k→k≤wc a.len b.len c d→∃ p ∈ ps,p.c=c∧p.d=d∧p.k=k)(x y:aB)(H:okB A x y):(lZ a x∧lZ b y)↔∃ p ∈ ps,PM a b p x y:=by
 constructor
 ·rintro⟨⟨c,E,g,N,J,rfl⟩,⟨d,F,s,O,K,rfl⟩⟩;obtain⟨-,-,B⟩:=H;simp only [kD,cJ]at B;obtain⟨p,q,rfl,rfl,I⟩:=l c E d F (s-g) (by unfold wz;omega) (by unfold wc;omega);have j:=m p q;refine⟨p,q,g-max 0 (-p.k),by omega,(j.xm _ (by omega)).2 (by rw [show g-max 0 (-p.k)+max 0 (-p.k)=g by omega];exact J),(j.ym _ (by omega)).2 (by rw [show g-max 0 (-p.k)+max 0 p.k=s by omega];exact K),?_,?_⟩
  ·unfold fQ;rw [show g-max 0 (-p.k)+max 0 (-p.k)=g by omega]
  ·unfold fR;rw [show g-max 0 (-p.k)+max 0 (-p.k)+p.k=s by omega]
 ·rintro⟨p,q,e,u,v,z,rfl,rfl⟩;have j:=m p q;refine⟨⟨p.c,j.ca,e+max 0 (-p.k),by omega,(j.xm e u).1 v,rfl⟩,⟨p.d,j.db,e+max 0 (-p.k)+p.k,by omega,?_,rfl⟩⟩;have:=(j.ym e u).1 z;rw [show e+max 0 (-p.k)+p.k=e+max 0 p.k by omega];exact this
theorem dS(s:aN)(x:aB):gE s x↔lZ s x∨x ∈ s.xs:=by
 unfold gE vK lZ qN Jv;constructor
 ·rintro(⟨c,j,d,⟨t,l,b,g⟩,rfl⟩ | h)
  ·exact .inl ⟨c,j,d,b,⟨t,l,(im b).1 g⟩,rfl⟩
  ·exact .inr h
 ·rintro(⟨c,j,d,b,⟨t,l,g⟩,rfl⟩ | h)
  ·exact .inl ⟨c,j,d,⟨t,l,b,(im b).2 g⟩,rfl⟩
  ·exact .inr h
theorem WT{b:Int}{s:aN}{x y:aB}(h:okB b x y):jT s x y↔lZ s y:=by
 obtain⟨-,-,d⟩:=h;unfold kD at d;exact⟨fun h=>h.1,fun h=>⟨h,by omega,by omega⟩⟩
theorem K6{b:Int}{s:aN}{x y:aB}(h:okB b x y):jT s y x↔lZ s x:=by
 obtain⟨-,-,d⟩:=h;unfold kD at d;exact⟨fun h=>h.1,fun h=>⟨h,by omega,by omega⟩⟩
theorem tF{t:T}{n:Nat}{v:V}(A:n ∉ [3,4,5,6,7,9,10,12,13]):FT (t.s n v)↔FT t:=by
 simp only [anK,List.not_mem_nil,or_false,not_or]at A;obtain⟨q,s,u,x,y,z,j,l,m⟩:=A;constructor
 ·rintro⟨a,b,c,d,e,f,g,h,i⟩;refine⟨?_,?_,?_,?_,?_,?_,?_,?_,?_⟩
  ·simpa [q]using a
  ·simpa [s]using b
  ·simpa [u]using c
  ·simpa [x]using d
  ·simpa [y]using e
  ·simpa [z]using f
  ·simpa [j]using g
  ·simpa [l]using h
  ·simpa [m]using i
 ·rintro⟨a,b,c,d,e,f,g,h,i⟩;refine⟨?_,?_,?_,?_,?_,?_,?_,?_,?_⟩
  ·simpa [q]using a
  ·simpa [s]using b
  ·simpa [u]using c
  ·simpa [x]using d
  ·simpa [y]using e
  ·simpa [z]using f
  ·simpa [j]using g
  ·simpa [l]using h
  ·simpa [m]using i
theorem Dr{tab:TB}{fn i:Nat}{v:Option Nat}{k:List cT}{d:List fB}{Q:Option aw→St→Prop}{a b c x:Nat}{body:aw}{t:T}{H:an}(N:Nat)(I:Nat→T→List fB→an→Prop)(M:N≤9223372036854775807)(B:a≠b)(F:x≠b)
  (m:t.g a=vi 0) (q:t.g b=vi N) (K:I 0 t d H)
  (step:∀ j t d H,j<N→I j t d H→t.g a=vi j→t.g b=vi N →
   (∀ y g H',I (j+1) ((y.s x (vi (j+1:Nat))).s a (vi (j+1:Nat))) g H'→y.g a=vi j→y.g b=vi N →
    WP tab fn v (.code (rV a x)::.inLoop (iR i a b c x body)::.inBlock i::k) ⟨y,g,H'⟩ Q) →
   WP tab fn v (.code body::.code (rV a x)::.inLoop (iR i a b c x body)::.inBlock i::k) ⟨t.s c (vb ae),d,H⟩ Q)
  (done:∀ t d H,I N t d H→t.g a=vi N→t.g b=vi N→WP tab fn v k ⟨t.s c (vb ag),d,H⟩ Q) :
  WP tab fn v (.code (xL i a b c x body)::k) ⟨t,d,H⟩ Q:=by
 have u:∀ ops:List aS,ops.all (·.op.eX)=ae→v=ab∨ops.all (·.op.eX)=ae:=fun _ h=>.inr h;refine ay ?_;refine bI (fun n s=>∃ j t d H,s=⟨t,d,H⟩∧j≤N∧n=N-j∧I j t d H∧t.g a=vi j∧t.g b=vi N) N ⟨0,t,d,H,rfl,by omega,by omega,K,m,q⟩ ?_;rintro n s ⟨j,t,d,H,rfl,O,rfl,J,m,q⟩ L;apply au;refine aq (u _ rfl) ?_;simp [m,q];by_cases l:j<N
 ·rw [decide_eq_true l];apply au;refine av (by simp) ?_;refine aR ?_;apply au;refine step j t d H l J m q fun y g H' z A E=>?_;refine aq (u _ rfl) ?_;simp [A];rw [aP];refine L (N-(j+1)) _ (by omega) ⟨j+1,_,g,H',rfl,by omega,rfl,by simpa using z,by simp,?_⟩;simp [B,F,E]
 ·have:j=N:=by omega
  subst this;rw [decide_eq_false l];apply au;refine aF (by simp) ?_;refine bh (k':=k) (by simp [Km.exitTo]) ?_;exact done t d H J m q
theorem Kc(a b:aN)(ha:iP a)(hb:iP b)(B:Int)(f0:-1000000000000≤B)(f1:B≤100000000000000) :
  ∃ s:FS,jQ B (fun x y=>gE a x∧gE b y) s∧bW tab 10 [.a (a.row.map .f),.a (b.row.map .f),vi B]=Eq (.t [.a (s.X.row.map .f),.a (s.Y.row.map .f),vb s.found]):=by
 obtain⟨r,⟨s,A,rfl⟩,h⟩:∃ r,(∃ s:FS,jQ B (fun x y=>gE a x∧gE b y) s∧r=.t [.a (s.X.row.map .f),.a (s.Y.row.map .f),vb s.found])∧bW tab 10 [.a (a.row.map .f),.a (b.row.map .f),vi B] r:=by
  refine ko aml rfl fun Q hQ=>?_;have n_:=(jj a ha.ok.sm).eq;rw [ha.ok.v]at n_;simp [aN.row]at n_;have o0:=(jj b hb.ok.sm).eq;rw [hb.ok.v]at o0;simp [aN.row]at o0;have u9:max B (-2251799813685248)=B:=by omega
  have y4:=ha.ok.xn;have a_:=hb.ok.xn;apply ai;simp [aN.row];apply au;apply ai;simp [n_,o0,show¬ 2251799813685248<B by omega];refine aX (by simp) ?_;apply ai;simp [u9];apply ai;simp;apply ai;simp;apply ai;simp;obtain⟨J0,i3⟩:=aM ([.box (iI a) 0,.box (iI b) 0,.box [.f (fi B)] 0,.box [.f (fi 0),.f (fi 0),.f (fi 0)] 0,.box [.f (fi 0),.f (fi 0),.f (fi 0)] 0,.box [.f (fi 0),.f (fi 0),.f (fi 0)] 0,.box [.f (fi 0),.f (fi 0),.f (fi 0)] 0,.box [.f (fi 0)] 0,.box [.f (.bool ag)] 0,.box [ns] 0]:an);have n9:FQ a b B ⟨0,ag,⟨0,0,0⟩,⟨0,0,0⟩⟩ J0:=by rw [i3];exact⟨rfl,rfl,rfl,rfl,rfl,⟨rfl,rfl,rfl,rfl,rfl⟩⟩
  have l0:J0.length=10:=by rw [i3];rfl
  unfold iI ns at i3;rw [←i3];have la:∀(J:an) (s:FS),FQ a b B s J→aU J (aa 3) (.c (.ptr 0 0 0))=aa (.a [.f (sl a.cg (aQ a.cs)),.f (fi a.len),.f (sl a.xg (aD a.xs))])∧aU J ab (.c (.ptr 0 2 0))=aa (.c (.f (sl a.xg (aD a.xs)))):=fun J s h=>by refine⟨?_,?_⟩<;>simp [aU,aH,h.h0,iI,aW]
  have lb:∀(J:an) (s:FS),FQ a b B s J→aU J (aa 3) (.c (.ptr 1 0 0))=aa (.a [.f (sl b.cg (aQ b.cs)),.f (fi b.len),.f (sl b.xg (aD b.xs))])∧aU J ab (.c (.ptr 1 2 0))=aa (.c (.f (sl b.xg (aD b.xs)))):=fun J s h=>by refine⟨?_,?_⟩<;>simp [aU,aH,h.h1,iI,aW]
  have oi:∀ H:an,bu H (.f (sl a.xg (aD a.xs)))=aa a.xs.length:=fun H=>by simp
  have l_:∀ H:an,bu H (.f (sl b.xg (aD b.xs)))=aa b.xs.length:=fun H=>by simp
  have t6:∀(t:T) (J:an) (bs:List Nat),FT t→FW a b B (fun x y=>gE a x∧gE b y) bs J→WP tab 10 ab [.code xz] ⟨t,bs.map .dN,J⟩ Q:=by
   rintro t J bs d ⟨⟨s,l,A⟩,e_,a8⟩;have l9:=aj l.h9;have lx:∀ J':an,J'[5]?=J[5]?→aU J' (aa 3) (.c (.ptr 5 0 0))=aa (.a [.f (fi s.X.day),.f (fi s.X.fr),.f (fi s.X.to)]):=fun J' h=>by simp [aU,aH,h,l.tk.h5,aW]
   have ly:∀ J':an,J'[6]?=J[6]?→aU J' (aa 3) (.c (.ptr 6 0 0))=aa (.a [.f (fi s.Y.day),.f (fi s.Y.fr),.f (fi s.Y.to)]):=fun J' h=>by simp [aU,aH,h,l.tk.h6,aW]
   have lf:∀ J':an,J'[8]?=J[8]?→aU J' ab (.c (.ptr 8 0 0))=aa (vb s.found):=fun J' h=>by simp [aU,aH,h,l.tk.h8]
   obtain⟨E,v⟩:=aM (J.set 3 (.box [.f (fi s.X.day),.f (fi s.X.fr),.f (fi s.X.to)] 0));have s1:cZ J (.ptr 3 0 0) [.f (fi s.X.day),.f (fi s.X.fr),.f (fi s.X.to)]=aa E:=by rw [v];simp [cZ,l.h3,over]
   have k1:∀ i:Nat,i≠3→E[i]?=J[i]?:=fun i hi=>by rw [v,sh (Ne.symm hi)]
   have n1:E.length=J.length:=by rw [v];simp
   obtain⟨Y,i4⟩:=aM (E.set 4 (.box [.f (fi s.Y.day),.f (fi s.Y.fr),.f (fi s.Y.to)] 0));have s2:cZ E (.ptr 4 0 0) [.f (fi s.Y.day),.f (fi s.Y.fr),.f (fi s.Y.to)]=aa Y:=by rw [i4];simp [cZ,k1 4 (by omega),l.h4,over]
   have k2:∀ i:Nat,i≠4→Y[i]?=E[i]?:=fun i hi=>by rw [i4,sh (Ne.symm hi)]
   have n2:Y.length=J.length:=by rw [i4];simp [n1]
   refine au (ew (.inl rfl) ?_ ?_)
   case refine_2=>
    intro cc t_;have t9:cc=(1,4)∨cc=(2,4)∨cc=(2,6):=by simpa using t_
    rcases t9 with rfl | rfl | rfl
    ·refine⟨by decide,_,rfl,.inl ⟨by decide,?_⟩⟩;simp [d.g6,d.g7,d.g9,d.eh,d.g12,lx J rfl,ly J rfl,lf J rfl,ly E (k1 6 (by omega)),s1,-az,-a6,fE,V.beq,C.beq,FC.beq]
    ·refine⟨by decide,_,rfl,.inl ⟨by decide,?_⟩⟩;simp [d.g6,d.g7,d.g9,d.eh,d.g12,lx J rfl,ly J rfl,lf J rfl,lf E (k1 8 (by omega)),s1,-az,-a6,fE,V.beq,C.beq,FC.beq]
    ·refine⟨by decide,_,rfl,.inl ⟨by decide,?_⟩⟩;simp [d.g6,d.g7,d.g9,d.eh,d.g12,lx J rfl,ly J rfl,lf J rfl,lf Y ((k2 8 (by omega)).trans (k1 8 (by omega))),s1,s2,-az,-a6,fE,V.beq,C.beq,FC.beq]
   simp [d.g6,d.g7,d.g9,d.eh,d.g12,lx J rfl,ly J rfl,lf J rfl,s1,s2,-az,-a6];have w_:(3:Nat) ∉ bs:=fun h=>by have:=(a8 3 h).1;omega
   have x6:(4:Nat) ∉ bs:=fun h=>by have:=(a8 4 h).1;omega
   have e3:(oL bs Y)[3]?=aa (.box [.f (fi s.X.day),.f (fi s.X.fr),.f (fi s.X.to)] 0):=by rw [iF w_,k2 3 (by omega),v];exact BY (by omega)
   have e4:(oL bs Y)[4]?=aa (.box [.f (fi s.Y.day),.f (fi s.Y.fr),.f (fi s.Y.to)] 0):=by rw [iF x6,i4];exact BY (by omega)
   refine aE (hQ _ _ _ ⟨s,A,rfl⟩ ⟨bs,rfl,⟨e_.nd,fun z hz=>?_⟩,.t [.a (s.X.row.map .f),.a (s.Y.row.map .f),vb s.found],?_,by simp [kM,dE,aZ,deep,eL,aB.row]⟩)
   ·have:=(a8 z hz).1;show Y[z]?=_;rw [k2 z (by omega),k1 z (by omega)];exact e_.on z hz
   ·simp [Km.results,cr,aZ,d.g6,d.g7,aU,aH,e3,e4,aW,aB.row]
  have o7:∀(t:T) (J:an) (bs:List Nat),FT t→FW a b B (fun x y=>(lZ a x∧lZ b y)∨(x ∈ a.xs∧(jT b x y∨y ∈ b.xs))) bs J→WP tab 10 ab [.code xx] ⟨t,bs.map .dN,J⟩ Q:=by
   intro t J bs d L;apply au;have m_:=L;obtain⟨⟨s,l,-⟩,-⟩:=m_;apply ai;simp [d.g4,(lb J s l).2,l_,-az];refine Dr b.xs.length (fun i t ds J=>FT t∧t.g 157=.c (.f (sl b.xg (aD b.xs)))∧∃ bs,ds=bs.map .dN∧FW a b B (fun x y=>((lZ a x∧lZ b y)∨(x ∈ a.xs∧(jT b x y∨y ∈ b.xs)))∨(y ∈ b.xs.take i∧jT a y x)) bs J) (by omega) (by decide) (by decide) (by simp) (by simp)
    ⟨by simp [tF,d],by simp,bs,rfl,by
     obtain⟨⟨s,l,A⟩,U⟩:=L;exact⟨⟨s,l,A.iff fun x y _=>by simp⟩,U⟩⟩ ?_ ?_
   ·clear d L l s;rintro i t ds J hi ⟨d,O,bs,rfl,L⟩ U n6 next
    have f_:=fun H:an=>bG (H:=H) (g:=b.xg) (rows:=aD b.xs) (sz:=3) (k:=.i64) (i:=(i:Int)) (by omega) (by simp;omega);have X:=fun H:an=>cH (H:=H) (bw b.xs) (cD hi);simp only [anJ]at f_;have a_:=hb.ex _ (IS hi);have f8:b.xs.take (i+1)=b.xs.take i++[b.xs[i]]:=by rw [anu,By hi];rfl
    obtain⟨x,hx⟩:=aM (b.xs[i]);rw [←hx]at X a_ f8;simp only [aB.row,ano,anC]at X;obtain⟨g_,j_⟩:=aM (J.length);obtain⟨E,v⟩:=aM (J++[bV.box [.f (fi x.day),.f (fi x.fr),.f (fi x.to)] 0]);have S:=L.push [bV.box [.f (fi x.day),.f (fi x.fr),.f (fi x.to)] 0];rw [←v]at S;have m9:E[g_]?=aa (.box [.f (fi x.day),.f (fi x.fr),.f (fi x.to)] 0):=by rw [v,j_];simp
    have v_:10≤g_:=by
     obtain⟨⟨s,l,-⟩,-⟩:=L;have:=aj l.h9;omega
    refine ay ?_;apply ai;simp [U,O,f_,X,-az];rw [←v,←j_];have f7:=oF a x;simp only [aN.row,aB.row,ano,anC]at f7;have d9:=S;obtain⟨⟨s1,i_,-⟩,-⟩:=d9;have x9:aU E (aa 3) (.c (.ptr g_ 0 0))=aa (.a [.f (fi x.day),.f (fi x.fr),.f (fi x.to)]):=by simp [aU,aH,m9,aW]
    apply au;refine aq (.inl rfl) ?_;simp [d.g3,(la E s1 i_).1,x9,-az,f7];refine ay ?_
    suffices go:∀ u:T,FT u→u.g 25=.c (.ptr g_ 0 0)→u.g 165=.c (.f (.fn 71 [.fp a.row 0,.fp x.row 0]))→u.g 157=.c (.f (sl b.xg (aD b.xs)))→u.g 158=vi b.xs.length→u.g 159=vi i→WP tab 10 ab [.code xy,.inBlock 10,.inBlock 9,.code (rV 159 171),.inLoop (iR 8 159 158 160 171 CU),.inBlock 8,.code xz] ⟨u,bs.map .dN,E⟩ Q by
     exact go _ (by simp [tF,d]) (by simp) (by simp [aN.row,aB.row]) (by simp [O]) (by simp [n6]) (by simp [U])
    intro u a7 t7 p9 O o_ p8;refine ahP ha hb (by omega) (by omega) a_.2.2 S a7 t7 p9 m9 v_ fun Y h_ d_ m9 u7=>?_;refine ax (next _ _ _ ⟨by simp [tF,a7],by simp [O],h_,rfl,?_⟩ (by simp [p8]) (by simp [o_]));obtain⟨⟨s,l,A⟩,U⟩:=d_;refine⟨⟨s,l,A.iff fun x' y' _=>?_⟩,U⟩;rw [f8,anm,OF];constructor
    ·rintro(h | ⟨h | rfl,F⟩)
     ·exact .inl (.inl h)
     ·exact .inl (.inr ⟨h,F⟩)
     ·exact .inr ⟨rfl,F⟩
    ·rintro((h | ⟨h,F⟩) | ⟨rfl,F⟩)
     ·exact .inl h
     ·exact .inr ⟨.inl h,F⟩
     ·exact .inr ⟨.inr rfl,F⟩
   ·rintro t ds J ⟨d,O,bs,rfl,L⟩ - -;rw [ant]at L;obtain⟨⟨s,l,A⟩,U⟩:=L;refine t6 _ J bs (by simp [tF,d]) ⟨⟨s,l,A.iff fun x y hk=>?_⟩,U⟩;rw [dS,dS,WT hk,K6 hk];constructor
    ·rintro⟨h1 | h1,W | W⟩
     ·exact .inl (.inl ⟨h1,W⟩)
     ·exact .inr ⟨W,h1⟩
     ·exact .inl (.inr ⟨h1,.inl W⟩)
     ·exact .inl (.inr ⟨h1,.inr W⟩)
    ·rintro((⟨h1,W⟩ | ⟨h1,W | W⟩) | ⟨h1,W⟩)
     ·exact⟨.inl h1,.inl W⟩
     ·exact⟨.inr h1,.inl W⟩
     ·exact⟨.inr h1,.inr W⟩
     ·exact⟨.inl W,.inr h1⟩
  have o6:∀(t:T) (J:an) (bs:List Nat),FT t→FW a b B (fun x y=>lZ a x∧lZ b y) bs J→WP tab 10 ab [.code xv] ⟨t,bs.map .dN,J⟩ Q:=by
   intro t J bs d L;apply au;have m_:=L;obtain⟨⟨s,l,-⟩,-⟩:=m_;apply ai;simp [d.g3,(la J s l).2,oi,-az];refine Dr a.xs.length (fun i t ds J=>FT t∧t.g 129=.c (.f (sl a.xg (aD a.xs)))∧∃ bs,ds=bs.map .dN∧FW a b B (fun x y=>(lZ a x∧lZ b y)∨(x ∈ a.xs.take i∧(jT b x y∨y ∈ b.xs))) bs J) (by omega) (by decide) (by decide) (by simp) (by simp)
    ⟨by simp [tF,d],by simp,bs,rfl,by
     obtain⟨⟨s,l,A⟩,U⟩:=L;exact⟨⟨s,l,A.iff fun x y _=>by simp⟩,U⟩⟩ ?_ ?_
   ·clear d L l s;rintro i t ds J hi ⟨d,m,bs,rfl,L⟩ U n6 next
    have f_:=fun H:an=>bG (H:=H) (g:=a.xg) (rows:=aD a.xs) (sz:=3) (k:=.i64) (i:=(i:Int)) (by omega) (by simp;omega);have X:=fun H:an=>cH (H:=H) (bw a.xs) (cD hi);simp only [anJ]at f_;have a_:=ha.ex _ (IS hi);have f8:a.xs.take (i+1)=a.xs.take i++[a.xs[i]]:=by rw [anu,By hi];rfl
    obtain⟨x,hx⟩:=aM (a.xs[i]);rw [←hx]at X a_ f8;simp only [aB.row,ano,anC]at X;obtain⟨I,j8⟩:=aM (J.length);obtain⟨E,v⟩:=aM (J++[bV.box [.f (fi x.day),.f (fi x.fr),.f (fi x.to)] 0]);have S:=L.push [bV.box [.f (fi x.day),.f (fi x.fr),.f (fi x.to)] 0];rw [←v]at S;have K:E[I]?=aa (.box [.f (fi x.day),.f (fi x.fr),.f (fi x.to)] 0):=by rw [v,j8];simp
    have v9:10≤I:=by
     obtain⟨⟨s,l,-⟩,-⟩:=L;have:=aj l.h9;omega
    refine ay ?_;apply ai;simp [U,m,f_,X,-az];rw [←v,←j8];have f7:=oF b x;simp only [aN.row,aB.row,ano,anC]at f7;have d9:=S;obtain⟨⟨s1,i_,-⟩,-⟩:=d9;have j7:aU E (aa 3) (.c (.ptr I 0 0))=aa (.a [.f (fi x.day),.f (fi x.fr),.f (fi x.to)]):=by simp [aU,aH,K,aW]
    apply au;apply au;refine aq (.inl rfl) ?_;simp [d.g4,(lb E s1 i_).1,j7,-az,f7];refine ay ?_
    suffices go:∀ u:T,FT u→u.g 20=.c (.ptr I 0 0)→u.g 137=.c (.f (.fn 71 [.fp b.row 0,.fp x.row 0]))→u.g 129=.c (.f (sl a.xg (aD a.xs)))→u.g 130=vi a.xs.length→u.g 131=vi i→WP tab 10 ab [.code xw,.inBlock 4,.code CS,.inBlock 3,.code (rV 131 155),.inLoop (iR 2 131 130 132 155 CQ),.inBlock 2,.code xx] ⟨u,bs.map .dN,E⟩ Q by
     exact go _ (by simp [tF,d]) (by simp) (by simp [aN.row,aB.row]) (by simp [m]) (by simp [n6]) (by simp [U])
    intro u a7 Z o9 m M N;refine ahO ha hb (by omega) (by omega) a_.2.2 S a7 Z o9 K v9 fun Y h_ d_ K u7=>?_;have p_:=d_;obtain⟨⟨s2,j4,-⟩,-⟩:=p_;apply ai;simp [a7.g4,(lb Y s2 j4).2,l_,-az];refine b7 b.xs.length (fun j t J=>FT t∧t.g 20=.c (.ptr I 0 0)∧t.g 129=.c (.f (sl a.xg (aD a.xs)))∧t.g 130=vi a.xs.length∧t.g 131=vi i∧t.g 144=.c (.f (sl b.xg (aD b.xs)))∧J[I]?=aa (.box [.f (fi x.day),.f (fi x.fr),.f (fi x.to)] 0)∧FW a b B (fun x' y'=>((lZ a x'∧lZ b y')∨(x' ∈ a.xs.take i∧(jT b x' y'∨y' ∈ b.xs)))∨(x'=x∧(jT b x y'∨y' ∈ b.xs.take j))) h_ J) (by omega) (by decide) (by decide) (by simp) (by simp)
     ⟨by simp [tF,a7],by simp [Z],by simp [m],by simp [M],by simp [N],by simp,K,by
      obtain⟨⟨s,l,A⟩,U⟩:=d_;exact⟨⟨s,l,A.iff fun x' y' _=>by simp⟩,U⟩⟩ ?_ ?_
    ·clear K d_ j4 s2 S i_ s1 j7;rintro j t' J3 hj ⟨i7,Z,m,M,N,c9,K,i8⟩ r9 r8 o5;have t4:=fun H:an=>bG (H:=H) (g:=b.xg) (rows:=aD b.xs) (sz:=3) (k:=.i64) (i:=(j:Int)) (by omega) (by simp;omega);have o4:=fun H:an=>cH (H:=H) (bw b.xs) (cD hj);simp only [anJ]at t4;have k_:b.xs.take (j+1)=b.xs.take j++[b.xs[j]]:=by rw [anu,By hj];rfl
     obtain⟨y,hy⟩:=aM (b.xs[j]);rw [←hy]at o4 k_;simp only [aB.row,ano,anC]at o4;obtain⟨o8,j9⟩:=aM (J3.length);obtain⟨J4,i6⟩:=aM (J3++[bV.box [.f (fi y.day),.f (fi y.fr),.f (fi y.to)] 0]);have q_:=i8.push [bV.box [.f (fi y.day),.f (fi y.fr),.f (fi y.to)] 0];rw [←i6]at q_;have t5:J4[o8]?=aa (.box [.f (fi y.day),.f (fi y.fr),.f (fi y.to)] 0):=by rw [i6,j9];simp
     have b_:J4[I]?=aa (.box [.f (fi x.day),.f (fi x.fr),.f (fi x.to)] 0):=by rw [i6,AT (aj K)];exact K
     obtain⟨⟨s,l,A⟩,e_,a8⟩:=q_;have j7:aU J4 (aa 3) (.c (.ptr I 0 0))=aa (.a [.f (fi x.day),.f (fi x.fr),.f (fi x.to)]):=by simp [aU,aH,b_,aW]
     have x8:aU J4 (aa 3) (.c (.ptr o8 0 0))=aa (.a [.f (fi y.day),.f (fi y.fr),.f (fi y.to)]):=by simp [aU,aH,t5,aW]
     have f9:aU J4 ab (.c (.ptr 9 0 0))=aa (.c ns):=by simp [aU,aH,l.h9]
     obtain⟨J5,i9,v8,x_,r_⟩:=qv l x y;simp only [aB.row,ano,anC]at i9;refine ay ?_;apply ai;simp [r9,c9,t4,o4,-az];rw [←i6,←j9];refine aq (.inl rfl) ?_;simp [i7.g13,Z,f9,j7,x8,-az,ns,i9.eq];refine ax (o5 _ _ ⟨by simp [tF,i7],by simp [Z],by simp [m],by simp [M],by simp [N],by simp [c9],by rw [r_ I (by omega) (aj b_)];exact b_,⟨⟨_,v8,(A.one x y).iff fun x' y' _=>?_⟩,⟨e_.nd,fun z hz=>?_⟩,fun z hz=>?_⟩⟩ (by simp [r9]) (by simp [r8]))
     ·rw [k_,anm,OF];constructor
      ·rintro(h | ⟨rfl,h | h | rfl⟩)
       ·exact .inl (.inl h)
       ·exact .inl (.inr ⟨rfl,.inl h⟩)
       ·exact .inl (.inr ⟨rfl,.inr h⟩)
       ·exact .inr ⟨rfl,rfl⟩
      ·rintro((h | ⟨rfl,h | h⟩) | ⟨rfl,rfl⟩)
       ·exact .inl h
       ·exact .inr ⟨rfl,.inl h⟩
       ·exact .inr ⟨rfl,.inr (.inl h)⟩
       ·exact .inr ⟨rfl,.inr (.inr rfl)⟩
     ·have:=a8 z hz;rw [r_ z (by omega) this.2];exact e_.on z hz
     ·have:=a8 z hz;exact⟨this.1,by omega⟩
    ·rintro t' J3 ⟨i7,Z,m,M,N,c9,K,i8⟩ - -;rw [ant]at i8;refine ax (next _ _ _ ⟨by simp [tF,i7],by simp [m],h_,rfl,?_⟩ (by simp [N]) (by simp [M]));obtain⟨⟨s,l,A⟩,U⟩:=i8;refine⟨⟨s,l,A.iff fun x' y' _=>?_⟩,U⟩;rw [f8,anm,OF];constructor
     ·rintro(h | ⟨h | rfl,F⟩)
      ·exact .inl (.inl h)
      ·exact .inl (.inr ⟨h,F⟩)
      ·exact .inr ⟨rfl,F⟩
     ·rintro((h | ⟨h,F⟩) | ⟨rfl,F⟩)
      ·exact .inl h
      ·exact .inr ⟨.inl h,F⟩
      ·exact .inr ⟨.inr rfl,F⟩
   ·rintro t ds J ⟨d,m,bs,rfl,L⟩ - -;rw [ant]at L;exact o7 _ J bs (by simp [tF,d]) L
  suffices start:∀ t:T,FT t→WP tab 10 ab [.code CO] ⟨t,[],J0⟩ Q by exact start _ ⟨by simp,by simp,by simp,by simp,by simp,by simp,by simp,by simp,by simp⟩
  intro t d;have s_:=vV a b;simp only [aN.row,ano,anC]at s_;apply au;apply ai;simp [d.g3,d.g4,(la J0 _ n9).1,(lb J0 _ n9).1,-az,s_];refine ay ?_
  suffices go:∀ u:T,FT u→u.g 46=.c (.f (.fn 66 [.fp a.row 0,.fp b.row 0]))→WP tab 10 ab [.code CP,.inBlock 0,.code xv] ⟨u,[],J0⟩ Q by exact go _ (by simp [tF,d]) (by simp [aN.row])
  clear d t;intro u d t8;obtain⟨HR,c_⟩:=aM (J0++[.eo ae,.lp 10 u [P.nat 47] gB gC .ready ab 10]:an);have lR:HR.length=12:=by rw [c_,ank,l0];rfl
  have kR:∀ i:Nat,i<10→HR[i]?=J0[i]?:=fun i hi=>by rw [c_,AT (by omega)]
  have rd:HR[10]?=aa (.eo ae):=by rw [c_,ann (by omega),l0];rfl
  have rl:HR[11]?=aa (.lp 10 u [P.nat 47] gB gC .ready ab 10):=by rw [c_,ann (by omega),l0];rfl
  obtain⟨H2,he,ps,⟨s,l,A,e1,e2,e3⟩,u_,r7⟩:=Ke (bb:=11) (H:=HR) a b ha hb
   (fun ps J'=>∃ s,FQ a b B s J'∧jQ B (fun x y=>∃ p ∈ ps,PM a b p x y) s∧J'[10]?=aa (.eo ae)∧J'[11]?=aa (.lp 10 u [P.nat 47] gB gC .ready ab 10)∧12≤J'.length)
   ⟨_,n9.ba kR,.inl ⟨rfl,rfl,rfl,fun x y ⟨p,hp,_⟩=>by simp at hp⟩,rd,rl,by omega⟩
   (fun ps E Y ⟨s,l,A,e1,e2,e3⟩ n8 hl=>⟨s,l.ba fun i hi=>n8 i (by omega),A,by rw [n8 10 (by omega)];exact e1,by rw [n8 11 (by omega)];exact e2,by omega⟩)
   (fun ps p E ⟨s,l,A,e1,e2,e3⟩ hl hp=>by
    obtain⟨e,f,s7,u6,r,Y,i9,rfl,j4,k1,k2,k3,k4⟩:=Cg a b ha hb f0 f1 d hp l e1 e2;refine⟨Y,i9,⟨_,j4,(adv ha hb f0 f1 hp s7 u6 A).iff fun x y _=>?_,k1,k2,by omega⟩,k3,fun i h1 W=>k4 i (by omega) W⟩;constructor
    ·rintro⟨q,v6,h⟩;rcases anm.1 v6 with F | F
     ·exact .inl ⟨q,F,h⟩
     ·rw [OF]at F;rw [F]at h;exact .inr h
    ·rintro(⟨q,F,h⟩ | h)
     ·exact⟨q,anO _ F,h⟩
     ·exact⟨p,by simp,h⟩)
  rw [c_]at he;have u5:Ev tab (.fn 66) [.c (.yl (J0.length+1)),.c (.f (.fp a.row 0)),.c (.f (.fp b.row 0))] (J0++[.eo ae,.lp 10 u [P.nat 47] gB gC .ready ab J0.length]) (.t []) H2:=by rw [l0];exact he
  refine dZ (g:=66) (by rw [oA,t8];simp [bO]) u5 ?_;rw [l0];refine ff e2 (by decide) (ax ?_);refine o6 u _ [10] d ⟨⟨s,l.ba fun i hi=>by rw [sh (by omega)],A.iff fun x y hk=>ahK ha hb u_ r7 x y hk⟩,⟨by simp,fun i hi=>?_⟩,fun i hi=>?_⟩
  ·rw [OF]at hi;rw [hi,sh (by omega)];exact e1
  ·rw [OF]at hi;rw [hi,anD];omega
 exact⟨s,A,h.eq⟩
theorem WK(a b c d:Int):bW tab 13 [.a [.f (fi a),.f (fi b)],.a [.f (fi c),.f (fi d)]]=Eq (vb (eQ a b c d)):=Kf.eq (by
 refine dF rfl rfl fun H Q g=>?_;apply ai;simp;by_cases k:a<d
 ·apply ai;simp [k];refine aE (g _ _ ?_);simp [eQ,k]
 ·apply ai;simp [k];refine aE (g _ _ ?_);simp [eQ,k])
def tH(t:Int)(x y:aB):List FC:=fi t ::(x.row++y.row)
def gF(ps:List (aB × aB)):List (List FC):=ps.map fun p=>tH 0 p.1 p.2
@[simp] theorem ad7 (ps:List (aB × aB)):(gF ps).length=ps.length:=by simp [gF]
theorem pF(ps:List (aB × aB)):bP 7 (gF ps):=bP.map fun _=>rfl
theorem xR(ps:List (aB × aB))(x y:aB):gF ps++[tH 0 x y]=gF (ps++[(x,y)]):=by simp [gF]
theorem acg(g g':Tg)(l m:List aB)(hl:l.length≤1000)(hm:m.length≤1000) :
  ∃ W ps,(∀ p:aB × aB,p ∈ ps↔p.1 ∈ l∧p.2 ∈ m∧eQ p.1.fr p.1.to p.2.fr p.2.to=ae)∧ps.length≤1000000∧bW tab 12 [.c (.f (sl g (aD l))),.c (.f (sl g' (aD m)))]=Eq (.c (.f (sl W (gF ps)))):=by
 obtain⟨r,⟨W,ps,d,b,rfl⟩,h⟩:∃ r,(∃ W ps,(∀ p:aB × aB,p ∈ ps↔p.1 ∈ l∧p.2 ∈ m∧eQ p.1.fr p.1.to p.2.fr p.2.to=ae)∧ps.length≤1000000∧r=.c (.f (sl W (gF ps))))∧bW tab 12 [.c (.f (sl g (aD l))),.c (.f (sl g' (aD m)))] r:=by
  refine eV rfl rfl fun Q hQ=>?_;apply ai;simp;apply ai;simp;refine au (ai ?_);simp;refine jC l.length (fun i t J=>t.g 0=.c (.f (sl g (aD l)))∧t.g 1=.c (.f (sl g' (aD m)))∧∃ c ps,t.g 5=.c c∧LR J c 7 (gF ps)∧ps.length≤i*m.length∧∀ p:aB × aB,p ∈ ps↔p.1 ∈ l.take i∧p.2 ∈ m∧eQ p.1.fr p.1.to p.2.fr p.2.to=ae) (by omega) (by decide) (by simp)
   ⟨by simp,by simp,.f .es,[],by simp,.inl ⟨rfl,.inr rfl⟩,by simp,by simp⟩ ?_ ?_ ?_
  ·rintro i t J L hi ⟨q,s,c,ps,A,B,F,z⟩ v M;simp [v,q];exact M _ ⟨by simp [q],by simp [s],c,ps,by simp [A],B,F,z⟩ (by simp [v]) (by simp)
  ·rintro i t J hi ⟨q,s,c,ps,A,B,F,z⟩ v nx;have Z:l.take (i+1)=l.take i++[l[i]]:=by rw [anu,By hi];rfl
   have N:=fun H:an=>bG (H:=H) (g:=g) (rows:=aD l) (sz:=3) (k:=.i64) (i:=(i:Int)) (by omega) (by simp;omega);have S:=fun H:an=>cH (H:=H) (bw l) (cD hi);obtain⟨x,hx⟩:=aM (l[i]);rw [←hx]at S Z;simp only [anJ]at N;have a7:i*m.length+m.length=(i+1)*m.length:=by rw [anM,ao4]
   have Y:(i+1)*m.length≤1000*1000:=Nat.mul_le_mul (by omega) hm;refine ay ?_;apply ai;simp;refine jC m.length (fun j t J=>t.g 0=.c (.f (sl g (aD l)))∧t.g 1=.c (.f (sl g' (aD m)))∧t.g 6=vi i∧∃ c ps,t.g 5=.c c∧LR J c 7 (gF ps)∧ps.length≤i*m.length+j∧∀ p:aB × aB,p ∈ ps↔(p.1 ∈ l.take i∧p.2 ∈ m∧eQ p.1.fr p.1.to p.2.fr p.2.to=ae)∨(p.1=x∧p.2 ∈ m.take j∧eQ p.1.fr p.1.to p.2.fr p.2.to=ae)) (by omega) (by decide) (by simp)
    ⟨by simp [q],by simp [s],by simp [v],c,ps,by simp [A],B,by omega,fun p=>by rw [z];simp⟩ ?_ ?_ ?_
   ·clear q s A B F z;rintro j t J L e ⟨q,s,I,c,ps,A,B,F,z⟩ v M;simp [v,s];exact M _ ⟨by simp [q],by simp [s],by simp [I],c,ps,by simp [A],B,F,z⟩ (by simp [v]) (by simp)
   ·clear q s A B F z v;rintro j t J e ⟨q,s,I,c,ps,A,B,F,z⟩ v a;have E:m.take (j+1)=m.take j++[m[j]]:=by rw [anu,By e];rfl
    have O:=fun H:an=>bG (H:=H) (g:=g') (rows:=aD m) (sz:=3) (k:=.i64) (i:=(j:Int)) (by omega) (by simp;omega);have U:=fun H:an=>cH (H:=H) (bw m) (cD e);obtain⟨y,hy⟩:=aM (m[j]);rw [←hy]at U E;simp only [anJ]at O;have w:=fun H:an=>xY (H:=H) (k:=1) (n:=2) (bw l) (cD hi) (by omega);have ly:=fun H:an=>xY (H:=H) (k:=1) (n:=2) (bw m) (cD e) (by omega);rw [←hx]at w;rw [←hy]at ly;simp [aB.row]at S U w ly;have o:=WK x.fr x.to y.fr y.to;refine ay ?_;apply ai;simp [q,s,I,v,N,O,w,ly,o,-az];by_cases k:eQ x.fr x.to y.fr y.to=ae
    ·refine av (by simp [k]) ?_;obtain⟨c3,H3,K,X,-,-⟩:=(B.push [.box ((tH 0 x y).map .f) 0]).app (pF ps) (by decide) (row:=tH 0 x y) rfl (bytes:=56) (dH (by simp;omega) (by decide)) (b1:=J.length) (fl1:=0) (by simp);rw [xR]at X;simp [tH,aB.row]at K;refine aq (.inl rfl) ?_;simp [q,s,A,I,v,N,O,S,U,K,-az];refine ax (a _ _ ⟨by simp [q],by simp [s],by simp [I],c3,_,by simp,X,by simp;omega,fun p=>?_⟩ (by simp [v]));rw [anm,OF,z,E,anm,OF];constructor
     ·rintro((h | ⟨d,b,u⟩) | rfl)
      ·exact .inl h
      ·exact .inr ⟨d,.inl b,u⟩
      ·exact .inr ⟨rfl,.inr rfl,k⟩
     ·rintro(h | ⟨d,b | b,u⟩)
      ·exact .inl (.inl h)
      ·exact .inl (.inr ⟨d,b,u⟩)
      ·exact .inr (Prod.ext d b)
    ·refine aF (by simp at k;simp [k]) (aR ?_);refine ax (a _ _ ⟨by simp [q],by simp [s],by simp [I],c,ps,by simp [A],B,by omega,fun p=>?_⟩ (by simp [v]));rw [z,E,anm,OF];constructor
     ·rintro(h | ⟨d,b,u⟩)
      ·exact .inl h
      ·exact .inr ⟨d,.inl b,u⟩
     ·rintro(h | ⟨d,b | b,u⟩)
      ·exact .inl h
      ·exact .inr ⟨d,b,u⟩
      ·rw [d,b]at u;exact absurd u k
   ·clear q s A B F z v;rintro t J ⟨q,s,I,c,ps,A,B,F,z⟩ v;refine ax (nx _ _ ⟨by simp [q],by simp [s],c,ps,by simp [A],B,by omega,fun p=>?_⟩ (by simp [I]));rw [z,Z,anm,OF,ant];constructor
    ·rintro(⟨d,b,u⟩ | ⟨d,b,u⟩)
     ·exact⟨.inl d,b,u⟩
     ·exact⟨.inr d,b,u⟩
    ·rintro⟨d | d,b,u⟩
     ·exact .inl ⟨d,b,u⟩
     ·exact .inr ⟨d,b,u⟩
  ·rintro t J ⟨q,s,c,ps,A,B,F,z⟩ v;rw [ant]at z;have Y:l.length*m.length≤1000*1000:=Nat.mul_le_mul hl hm;obtain⟨cg,f⟩:=B.Xl (pF ps);have e1:=f J 63 fun i y hi _=>hi;apply ai;simp [A];refine aE (hQ _ _ _ ⟨cg,ps,z,by omega,rfl⟩ ⟨rfl,.c c,?_,?_⟩)
   ·simp [Km.results,cr,aZ]
   ·simp [kM,dE,deep,e1]
 exact⟨W,ps,d,b,h.eq⟩
theorem pc.f{s:aN}(h:pc s):iP s:=⟨h.ok,fun c hc=>by
 obtain⟨tg,ts,⟨h1,h2⟩,e⟩:=h.few c hc;have h3:=C8 fun fs b=>(h1.2 fs b).1;rw [e];refine⟨by show(ts.map _).length≤2;rw [anq];omega,fun t j=>?_⟩;obtain⟨fs,b,rfl⟩:=anv.1 (show t ∈ ts.map (fun fs=>(⟨.fs,fs⟩:cu)) from j);obtain⟨m,q,g⟩:=h1.2 fs b;have:=Ad b;exact⟨m,show fs.length≤2 by omega,fun p d=>⟨(g p d).1,by have:=(g p d).2.1;omega,(g p d).2.2⟩⟩,fun x l=>by have:=h.ex x l;omega⟩
theorem Ay{s:aN}(y:jx s){j q:Int}(x:aB):U0 s j q x↔gE s x∧j<x.to∧x.fr<q:=by
 unfold U0 gE vJ vK;have B:=y.len;constructor
 ·rintro(⟨c,m,d,⟨l,b⟩,rfl⟩ | ⟨h,b⟩)
  ·have g:n0I s.len c.min j≤d:=by obtain⟨_,_,h,_⟩:=l;exact h
   unfold n0I at g l;refine⟨.inl ⟨c,m,d,(lu (by omega) g).2 l,rfl⟩,?_,b⟩;show j<d*1440+c.min+s.len;omega
  ·simp [eQ]at b;exact⟨.inr h,b.2,b.1⟩
 ·rintro⟨⟨c,m,d,g,rfl⟩ | h,b,u⟩
  ·have z:j<d*1440+c.min+s.len:=b;have v:d*1440+c.min<q:=u;have A:0≤d:=by obtain⟨_,_,h,_⟩:=g;exact h
   refine .inl ⟨c,m,d,⟨?_,v⟩,rfl⟩;unfold n0I;exact(lu (by omega) (by omega)).1 g
  ·refine .inr ⟨h,?_⟩;simp [eQ,b,u]
theorem tX{b:Int}{x y:aB}:okB b x y↔okB b y x:=by unfold okB kD;omega
theorem po{s:aN}(b:pc s){x:aB}(h:lZ s x):-1500<x.fr∧x.fr<x.to∧x.to≤x.fr+10080:=by
 obtain⟨c,g,d,j,-,rfl⟩:=h;have:=b.lo c g;have:=b.ok.len;show -1500<d*1440+c.min∧d*1440+c.min<d*1440+c.min+s.len∧d*1440+c.min+s.len≤d*1440+c.min+10080;omega
theorem ac5{n:Int}(d:1≤n)(g:n≤12):n ∣ 27720:=by
 have b:n=1∨n=2∨n=3∨n=4∨n=5∨n=6∨n=7∨n=8∨n=9∨n=10∨n=11∨n=12:=by omega
 rcases b with e | e | e | e | e | e | e | e | e | e | e | e<;>rw [e]<;>decide
theorem td{ts:List cu}(l:rS ts){d d':Int}(u:50≤d)(v:50≤d')(s:27720 ∣ d'-d)(h:dU ts d):dU ts d':=by
 obtain⟨t,q,b⟩:=h;refine⟨t,q,fun p m=>?_⟩;have j:=(l.2 t q).2.2 p m;have g:=(aY j.ok).2.2.1;have:=j.fr;rw [tP g (show p.fr≤d by omega) (by omega) (Int.dvd_trans (ac5 g j.aL) s)];exact b p m
theorem jh{a b:aN}(q:pc a)(s:pc b):rq a b↔∃ x y,gE a x∧gE b y∧okB (-10000) x y:=by
 have la:=q.ok.len;have e:=s.ok.len;have B:∀ {a b:aN},pc a→pc b→∀ x ∈ a.xs,lN a b x→∃ y,gE b y∧okB (-10000) x y:=by
  rintro a b q s x j (⟨y,g,A,H⟩ | ⟨y,g,h⟩)
  ·have I:=q.ex x j;have J:=po s g;exact⟨y,(dS b y).2 (.inl g),by unfold okB kD;omega⟩
  ·have I:=q.ex x j;have J:=s.ex y g;simp [eQ]at h;exact⟨y,.inr g,by unfold okB kD;omega⟩
 constructor
 ·rintro(⟨x,j,h⟩ | ⟨y,g,h⟩ | ⟨c,F,d,O,k,A,H,x,E,Z,Q,S⟩)
  ·obtain⟨y,g,h⟩:=B q s x j h;exact⟨x,y,.inr j,g,h⟩
  ·obtain⟨x,j,h⟩:=B s q y g h;exact⟨x,y,j,.inr g,tX.1 h⟩
  ·have I:=q.lo c F;have J:=s.lo d O;unfold wz at A;unfold wc at H;refine⟨cJ a.len c.min (x+max 0 (-k)),cJ b.len d.min (x+max 0 k),(dS _ _).2 (.inl ⟨c,F,_,by omega,Q,rfl⟩),(dS _ _).2 (.inl ⟨d,O,_,by omega,S,rfl⟩),?_⟩;unfold okB kD cJ;dsimp only;omega
 ·rintro⟨x,y,j,g,z⟩;have F:x.fr<y.to∧y.fr<x.to:=by unfold okB kD at z;omega
  rcases(dS a x).1 j with j | j
  ·rcases(dS b y).1 g with g | g
   ·obtain⟨c,u,l,Y,A,rfl⟩:=j;obtain⟨d,v,m,H,E,rfl⟩:=g;have X:l*1440+c.min<m*1440+d.min+b.len∧m*1440+d.min<l*1440+c.min+a.len:=F;have I:=q.lo c u;have J:=s.lo d v;have U:l*1440+c.min+a.len≤2251799813685248:=z.1;have W:m*1440+d.min+b.len≤2251799813685248:=z.2.1;refine .inr (.inr ⟨c,u,d,v,m-l,by unfold wz;omega,by unfold wc;omega,?_⟩);have L:l-max 0 (-(m-l))+max 0 (-(m-l))=l:=by omega
    have M:l-max 0 (-(m-l))+max 0 (m-l)=m:=by omega
    have N:0≤l-max 0 (-(m-l)):=by omega
    generalize l-max 0 (-(m-l))=K at L M N;rw [←L]at A;rw [←M]at E;by_cases j:K≤1000001000000
    ·exact⟨K,N,j,A,E⟩
    ·exact⟨50+(K-50) % 27720,by omega,by omega,td (q.f.few c u) (by omega) (by omega) (by omega) A,td (s.f.few d v) (by omega) (by omega) (by omega) E⟩
   ·exact .inr (.inl ⟨y,g,.inl ⟨x,j,by omega,by omega⟩⟩)
  ·rcases(dS b y).1 g with g | g
   ·exact .inl ⟨x,j,.inl ⟨y,g,by omega,by omega⟩⟩
   ·exact .inl ⟨x,j,.inr ⟨y,g,by simp [eQ];omega⟩⟩
theorem B7{a b:aN}(l:pc a)(m:pc b):rq a b↔rq b a:=by
 rw [jh l m,jh m l];exact⟨fun⟨x,y,d,g,j⟩=>⟨y,x,g,d,tX.1 j⟩,fun⟨x,y,d,g,j⟩=>⟨y,x,g,d,tX.1 j⟩⟩
theorem pI{s:aN}(b:pc s){x:aB}(h:gE s x):-10000≤x.fr∧x.fr<x.to:=by
 rcases(dS s x).1 h with h | h
 ·have:=po b h;omega
 ·have:=b.ex x h;omega
theorem B6{a:aN}(b:pc a):rq a a↔∃ y,gE a y∧-10000≤y.fr:=by
 constructor
 ·intro h;obtain⟨x,-,g,-,-⟩:=(jh b b).1 h;exact⟨x,g,(pI b g).1⟩
 ·rintro⟨x,g,-⟩;rw [jh b b];by_cases q:x.to≤2251799813685248
  ·exact⟨x,x,g,g,by have:=pI b g;unfold okB kD;omega⟩
  ·have v:=b.ok.len;rcases(dS a x).1 g with h | h
   ·obtain⟨c,j,d,u,m,rfl⟩:=h;have z:=b.lo c j;have s:¬ d*1440+c.min+a.len≤2251799813685248:=q;have l:gE a (cJ a.len c.min (50+(d-50) % 27720)):=(dS a _).2 (.inl ⟨c,j,_,by omega,td (b.f.few c j) (by omega) (by omega) (by omega) m,rfl⟩);refine⟨_,_,l,l,?_⟩;unfold okB kD cJ;dsimp only;omega
   ·have:=b.ex x h;omega
theorem B8(ahY:bW tab 7 [] (vb ae))(x y:oZ)(hx:x.OK)(hy:y.OK)(n:Nat)(hn:n<65536) :
  bW tab 4 [.a (x.row.map .f),.a (y.row.map .f),.c (.f (.int .u16 (n:Int)))] (vb ae):=by
 have I:=ahY.eq;obtain⟨a,l,K⟩:=wC x hx;obtain⟨b,u,N⟩:=wC y hy;have w0:IntKind.i64.wrap (n:Int)=n:=aP;have w1:=aP (n:=(n:Int)*700);have w3:=aP (n:=(n:Int)*700+14400);obtain⟨mm,F,v⟩:=tx a b l.f u.f;obtain⟨mt,Y,E⟩:=tx b a u.f l.f;obtain⟨ms,X,B⟩:=tx a a l.f l.f;have et:mt=mm:=by rw [aoW,Y,F];exact B7 u l
 subst et;obtain⟨s,hs,d⟩:=Kc a b l.f u.f (-10000) (by omega) (by omega);have ef:s.found=mt:=by
  rw [aoW,F,jh l u];rcases hs with⟨f,-,-,h⟩ | ⟨f,J,S,-⟩
  ·rw [f];exact⟨fun h=>(by cases h),fun⟨x,y,O,k2,k3⟩=>absurd k3 (h x y ⟨O,k2⟩)⟩
  ·exact⟨fun _=>⟨_,_,J.1,J.2,S⟩,fun _=>f⟩
 obtain⟨z,q,hz,A⟩:=acE a l.ok (-10000) (by omega) (by omega);have es:q=ms:=by
  rw [aoW,X,B6 l];rcases hz with⟨f,-,h⟩ | ⟨f,J,-⟩
  ·rw [f];exact⟨fun h=>(by cases h),fun⟨x,k⟩=>absurd k (h x)⟩
  ·exact⟨fun _=>⟨_,J⟩,fun _=>f⟩
 subst es;obtain⟨gL,L,⟨-,U⟩,a8,g⟩:=Dv a l.ok (n*700) (n*700+14400) (by omega) (by omega) (by omega) (by omega);obtain⟨gM,M,⟨-,W⟩,a_,j⟩:=Dv b u.ok (n*700) (n*700+14400) (by omega) (by omega) (by omega) (by omega);obtain⟨gP,ps,H,b_,m⟩:=acg gL gM L M (by omega) (by omega);have a7:mt=ag→ps=[]:=fun h=>by
  apply Classical.byContradiction;intro Z;obtain⟨p,hp⟩:=List.exists_mem_of_ne_nil _ Z;obtain⟨J,S,h3⟩:=(H p).1 hp;obtain⟨O,k2,k3⟩:=(Ay l.ok p.1).1 ((U p.1).1 J);obtain⟨j1,j2,j3⟩:=(Ay u.ok p.2).1 ((W p.2).1 S);have la:=pI l O;have lb:=pI u j1;have ua:p.1.to≤p.1.fr+10080:=by
   rcases(dS a p.1).1 O with h | h
   ·exact(po l h).2.2
   ·have:=l.ex _ h;omega
  have ub:p.2.to≤p.2.fr+10080:=by
   rcases(dS b p.2).1 j1 with h | h
   ·exact(po u h).2.2
   ·have:=u.ex _ h;omega
  simp [eQ]at h3;have:=F.2 ((jh l u).2 ⟨p.1,p.2,O,j1,by unfold okB kD;omega⟩);rw [h]at this;cases this
 simp only [oZ.row,aN.row,aB.row,ano,anC]at K N g j d m v E B A ⊢;rw [ef]at d;refine cd rfl rfl fun Q hQ=>?_;apply ai;simp;apply ai;simp [I];apply ai;simp [K];apply ai;simp [N];apply ai;simp [v];apply ai;simp [E];apply ai;simp [d];apply ai;simp [B];apply ai;simp [A];refine au (ai ?_);cases mt with
 | true=>
  cases q <;>
  ·simp [Dc,Kg];refine aX (by simp) ?_;apply ai;simp [w0,w1,w3];apply ai;simp [g];apply ai;simp [j];apply ai;simp;refine aE (hQ _ _ ?_);simp
 | false=>
  have H:=a7 rfl;rw [H]at m;cases q <;>
  ·simp [Dc,Kg];refine aX (by simp) ?_;apply ai;simp [w0,w1,w3];apply ai;simp [g];apply ai;simp [j];apply ai;simp [m,gF];refine aE (hQ _ _ ?_);simp
theorem C4{x:List FC}(h:∃ m,x=[FC.int .u8 m]∧Lit.wf (.int .u8 m)):∃ m:Nat,x=[u8 m]∧m<256:=by
 obtain⟨m,rfl,b⟩:=h;simp [Lit.wf,IntKind.min,IntKind.max,IntKind.signed,IntKind.bits]at b;refine⟨m.toNat,?_,by omega⟩;have:((m.toNat:Nat):Int)=m:=Int.toNat_of_nonneg b.1;simp [this]
theorem D5{x:List FC}(h:∃ m,x=[FC.int .u16 m]∧Lit.wf (.int .u16 m)):∃ m:Nat,x=[FC.int .u16 (m:Int)]∧m<65536:=by
 obtain⟨m,rfl,b⟩:=h;simp [Lit.wf,IntKind.min,IntKind.max,IntKind.signed,IntKind.bits]at b;refine⟨m.toNat,?_,by omega⟩;have:((m.toNat:Nat):Int)=m:=Int.toNat_of_nonneg b.1;simp [this]
theorem BS{n:Nat}(h:n≤maxLen):n≤9223372036854775807:=Nat.le_trans h (by decide)
theorem zY{n:Nat}{ys:List FC}(h:qO Tryz.prog (n+2) 23 ys):∃ g l,ys=[sl g (dL l)]∧l.length≤9223372036854775807∧∀ m ∈ l,m<256:=by
 obtain⟨g,rows,rfl,_,d,j⟩:=rf Tryz.underlying23 h;obtain⟨l,rfl,q⟩:=sF (enc:=fun n:Nat=>[u8 n]) (p:=fun n=>n<256) fun r b=>C4 (sH Tryz.underlying5 (j r b));exact⟨g,l,rfl,BS (by simpa using d),q⟩
theorem WJ{n:Nat}{ys:List FC}(h:qO Tryz.prog (n+6) 26 ys):∃ x:oZ,ys=x.row∧x.OK:=by
 obtain⟨_,S,rfl,d,F⟩:=qt (Cr (ts:=[22,23,5,24]) Tryz.underlying26 rfl h);obtain⟨q,rows,rfl,_,s,E⟩:=rf Tryz.underlying22 d;obtain⟨u,rfl,A⟩:=sF (enc:=fun b:Xp=>[sl b.1 (dL b.2)]) (p:=ae9) fun r j=>by
  obtain⟨g,l,rfl,a,b⟩:=zY (E r j);exact⟨(g,l),rfl,a,b⟩
 obtain⟨_,U,rfl,d,H⟩:=qt F;obtain⟨M,N,rfl,ml,L⟩:=zY d;obtain⟨_,W,rfl,d,I⟩:=qt H;obtain⟨le,rfl,K⟩:=C4 (sH Tryz.underlying5 d);obtain⟨_,O,rfl,d,J⟩:=qt I;obtain⟨v,Q,rfl,_,y,m⟩:=rf Tryz.underlying24 d;obtain⟨z,rfl,B⟩:=sF (enc:=fun n:Nat=>[FC.int .u16 (n:Int)]) (p:=fun n=>n<65536) fun r j=>D5 (sH Tryz.underlying27 (m r j));obtain rfl:O=[]:=J;exact⟨⟨q,u,M,N,le,v,z⟩,rfl,BS (by simpa using s),A,ml,L,K,BS (by simpa using y),B⟩
theorem DP{a:V}(h:sI Tryz.prog 26 a):∃ x:oZ,a=.a (x.row.map .f)∧x.OK:=by
 rcases h with⟨xs,rfl,b,_⟩ | ⟨x,rfl,b⟩
 ·obtain⟨x,rfl,d⟩:=WJ (n:=34) b;exact⟨x,rfl,d⟩
 ·exfalso;obtain⟨x,e,_⟩:=WJ (n:=34) b;simp [oZ.row]at e
theorem adT{a:V}(h:sI Tryz.prog 27 a):∃ n:Nat,a=.c (.f (.int .u16 (n:Int)))∧n<65536:=by
 rcases h with⟨xs,_,_,d,g,b⟩ | ⟨z,rfl,j⟩
 ·rw [Tryz.underlying27]at g;cases g;rcases b with⟨_,e⟩ | ⟨_,_,e⟩<;>cases e
 ·obtain⟨m,e,l⟩:=D5 (sH Tryz.underlying27 j);cases e;exact⟨m,rfl,l⟩
theorem yh(b:List V)(h:se Tryz.prog [26,26,27] b):bW tab 4 b (vb ae):=by
 obtain⟨s,_,rfl,d,a1,_,rfl,g,u,_,rfl,j,rfl⟩:=h;obtain⟨x,rfl,m⟩:=DP d;obtain⟨y,rfl,q⟩:=DP g;obtain⟨n,rfl,l⟩:=adT j;exact B8 ahY x y m q n l
end Go.Proofs.YthkmdpgdicohdaaGreat
