/-
  abd the sV kX and the wR answer, for all arguments of their kind, in the small machine: part 2.
-/
import Derived.Test.YthkmdpgdicohdaaGreatS1
import Derived.Test.YthkmdpgdicohdaaGreatK4
import Derived.Test.YthkmdpgdicohdaaGreatProg
import Derived.Test.YthkmdpgdicohdaaGreatTie
import Derived.Test.YthkmdpgdicohdaaGreatEv
open Option renaming some → aa,none → ab
open Bool renaming true → ae,false → ag
open List renaming getElem_mem → acE, take_add_one → acW, getElem?_eq_getElem → By, getElem?_append_left → AT, getElem?_append_right → acR, mem_cons → ac2, getElem?_set_ne → AI, getElem?_set_self → OF, mem_append → acG, mem_singleton → acF, take_length → ac0, pairwise_cons → adw, map_cons → ac5, map_nil → ads, mem_take_iff_getElem → adS, pairwise_iff_getElem → adr, mem_append_left → adj, getElem?_eq_none_iff → adC, mem_cons_self → acK, mem_cons_of_mem → acM, pairwise_append → ada, pairwise_singleton → ac7, append_assoc → adG, all_eq_true → acN, mem_map → adx, length_cons → adf, mem_of_mem_drop → aea
open Bool renaming and_eq_true → BY, true_and → adl
open Int renaming toNat_natCast → adq, mul_le_mul → ad8, mul_comm → adu, tmod_eq_emod_of_nonneg → adp
set_option linter.unusedVariables false
set_option linter.constructorNameAsVariable false
set_option linter.unusedSimpArgs false
set_option linter.unusedSectionVars false
set_option linter.unnecessarySimpa false
set_option maxRecDepth 100000
namespace Go.Proofs.YthkmdpgdicohdaaGreat
open Go Km
theorem PB(x:aC)(a b:Int):Kf tab.get 37 [.a (x.row.map .f),.c (.f (.fp [fi a,fi b] 0))] (vb (iw x.fr x.to a b)):=by
 refine dF rfl rfl fun H Q g=>?_;have d:∀ H:aj,dz H (aa 2) (.c (.f (.fp [fi a,fi b] 0)))=aa (.a [.f (fi a),.f (fi b)]):=fun H=>by simp [dz,bo,bY]
 have j:=zQ x.fr x.to a b;apply ai;simp [aC.row];apply ai;simp [d,j];refine aG (g _ _ ?_);simp
theorem Jv(g:Tg)(l:List aC)(m:l.length≤1000)(a b:Int):cB tab.get 36 [.c (.f (sl g (ay l))),.c (.f (.fn 37 [.fp [fi a,fi b] 0]))]=Eq (vb (l.any fun x=>iw x.fr x.to a b)):=
 (kj TI (nZ TJ l aC.row (fun r=>.a (r.row.map .f)) (fun x=>iw x.fr x.to a b) g 37 [.fp [fi a,fi b] 0] (by omega)
  (fun j d H=>dt (aX l) (cJ d)) (fun x _=>PB x a b))).eq
theorem Ut(s:bF)(hs:fG s)(m:Int)(f4:-1000000000≤m)(f7:m≤1000000000) :
  ∃ b,(b=ae↔∃ x,ry s m (m+1) x)∧cB tab.get 8 [.a (s.row.map .f),vi m]=Eq (vb b):=by
 have key:∃ r,(∃ b,(b=ae↔∃ x,ry s m (m+1) x)∧r=vb b)∧cB tab.get 8 [.a (s.row.map .f),vi m] r:=by
  refine sW abc rfl fun Q hQ=>?_;have K:=(oG s hs.sm).eq;rw [hs.v]at K;simp [bF.row]at K;obtain⟨c_,d5⟩:=hs.len;have e_:=hs.cn;have f8:=hs.xn;have b7:=(JD m (-2251799813685248) 2251799813685248).eq;have b9:bR m (-2251799813685248) 2251799813685248=ae:=by simp [bR];omega
  rw [b9]at b7;have U:=Jv s.xg s.xs (by omega) m (m+1);apply ai;simp [bF.row];apply aq;apply ai;simp [K,b7];refine bg (by simp) ?_;apply ai;simp [aK (n:=m+1)];apply aq;apply ai;simp;refine aB ?_;refine bu (fun n st=>∃(j:Nat) (t:T) (L:List Nat) (H:aj),st=⟨t,L.map .hY,H⟩∧n=s.cs.length-j∧j≤s.cs.length∧t.g 2=.c (.ptr 0 0 0)∧t.g 4=.c (.ptr 1 0 0)∧t.g 5=.c (.ptr 2 0 0)∧t.g 21=.c (.f (sl s.cg (aM s.cs)))∧t.g 22=vi s.cs.length∧t.g 23=vi j ∧
   H[0]?=aa (.box [C.f (sl s.cg (aM s.cs)),C.f (fi s.len),C.f (sl s.xg (ay s.xs))] 0)∧H[1]?=aa (.box [.f (.bool ag)] 0)∧H[2]?=aa (.box [.f (fi m),.f (fi (m+1))] 0)∧en L H∧∀ x,¬ pK s m (m+1) (s.cs.take j) x) s.cs.length
   ⟨0,_,[],_,rfl,by omega,by omega,by simp,by simp,by simp,by simp,by simp,by simp,rfl,rfl,rfl,⟨by simp,by simp⟩,fun x ⟨c,S,_⟩=>by simp at S⟩ ?_
  rintro n st ⟨j,t,L,H,rfl,rfl,hj,g2,X,g5,M,B,y,h0,h1,h2,b6,p⟩ ih;by_cases I:j<s.cs.length
  ·obtain⟨cl,f⟩:=bV (s.cs[j]);have F:cl ∈ s.cs:=f▸acE I;have d9:=hs.min F;have b_:=hs.cl cl F;have J:=fun H:aj=>dt (H:=H) (da s.cs) (e8 (l:=s.cs) (j:=j) I);have W:=fun H:aj=>bW (H:=H) (g:=s.cg) (rows:=aM s.cs) (sz:=2) (k:=.i64) (i:=j) (by omega) (by simpa using I);rw [←f]at J;simp [bU.row]at J W;have d7:s.cs.take (j+1)=s.cs.take j++[cl]:=by rw [acW,By I,f];rfl
   have o:=zR (sl s.cg (aM s.cs)) (sl s.xg (ay s.xs)) (sl cl.mg (aI cl.ts)) s.len cl.min m (m+1);apply ai;simp [B,y];refine aq (an (by simp [I]) (aO ?_));apply aq;refine aB ?_;apply ai;simp [M,y,W,J];obtain⟨q,Z⟩:=bV (H.length);have kc:(H++[bK.box [.f (sl cl.mg (aI cl.ts)),.f (fi cl.min)] 0])[q]?=aa (.box [.f (sl cl.mg (aI cl.ts)),.f (fi cl.min)] 0):=by simp [Z]
   have k0:(H++[bK.box [.f (sl cl.mg (aI cl.ts)),.f (fi cl.min)] 0])[0]?=aa (.box [C.f (sl s.cg (aM s.cs)),C.f (fi s.len),C.f (sl s.xg (ay s.xs))] 0):=by rw [AT (av h0)];exact h0
   have k1:(H++[bK.box [.f (sl cl.mg (aI cl.ts)),.f (fi cl.min)] 0])[1]?=aa (.box [.f (.bool ag)] 0):=by rw [AT (av h1)];exact h1
   have k2:(H++[bK.box [.f (sl cl.mg (aI cl.ts)),.f (fi cl.min)] 0])[2]?=aa (.box [.f (fi m),.f (fi (m+1))] 0):=by rw [AT (av h2)];exact h2
   have kd:=b6.push [bK.box [.f (sl cl.mg (aI cl.ts)),.f (fi cl.min)] 0];have kn:(H++[bK.box [.f (sl cl.mg (aI cl.ts)),.f (fi cl.min)] 0]).length=q+1:=by simp [Z]
   have d8:3≤q:=by have:=av h2;omega
   rw [←Z];generalize H++[bK.box [.f (sl cl.mg (aI cl.ts)),.f (fi cl.min)] 0]=v at kc k0 k1 k2 kd kn ⊢;apply ai;simp [g2,g5,k0,k2,kc,o];refine aB ?_;have range:∀(u:T),u.g 2=.c (.ptr 0 0 0)→u.g 4=.c (.ptr 1 0 0)→u.g 5=.c (.ptr 2 0 0)→u.g 21=.c (.f (sl s.cg (aM s.cs)))→u.g 22=vi s.cs.length→u.g 23=vi j →
     u.g 30=.c (.f (.fn 50 [.fp [fi m,fi (m+1)] 0,.fp [sl s.cg (aM s.cs),fi s.len,sl s.xg (ay s.xs)] 0,.fp [sl cl.mg (aI cl.ts),fi cl.min] 0])) →
     WP tab.get 8 ab [.code zE,.inBlock 2,.inBlock 1,.code zF,.inLoop zD,.inBlock 0,.code tf] ⟨u,L.map .hY,v⟩ Q:=by
    intro u g2 X g5 M B y c4;obtain⟨A,E⟩:∃ A:eL→Option ak→bK,A=fun st pd=>.lp 8 u [P.nat 31] .skip eF st pd (q+1):=⟨_,rfl⟩
    have q0:(v++[.fk ae,A .ready ab])[0]?=aa (.box [C.f (sl s.cg (aM s.cs)),C.f (fi s.len),C.f (sl s.xg (ay s.xs))] 0):=by rw [AT (av k0)];exact k0
    have q1:(v++[.fk ae,A .ready ab])[1]?=aa (.box [.f (.bool ag)] 0):=by rw [AT (av k1)];exact k1
    have q2:(v++[.fk ae,A .ready ab])[2]?=aa (.box [.f (fi m),.f (fi (m+1))] 0):=by rw [AT (av k2)];exact k2
    have qd:=kd.push [.fk ae,A .ready ab];have q4:(v++[.fk ae,A .ready ab])[q+1]?=aa (.fk ae):=by rw [acR (by omega),kn];simp
    have N:(v++[.fk ae,A .ready ab])[q+1+1]?=aa (A .ready ab):=by rw [acR (by omega),kn];simp
    have d6:q+1 ∉ L:=fun Y=>by have:=av (kd.on _ Y);omega
    have a8:v++[.fk ae,.lp 8 u [P.nat 31] .skip eF .ready ab v.length]=v++[.fk ae,A .ready ab]:=by rw [E,kn]
    generalize d_:v++[.fk ae,A .ready ab]=HR at q0 q1 q2 qd q4 N a8;have a_:en ((q+1)::L) HR:=⟨List.nodup_cons.2 ⟨d6,qd.nd⟩,fun b Y=>by
     rcases ac2.1 Y with rfl | Y
     ·exact q4
     ·exact qd.on b Y⟩
    obtain⟨r,H',he,rfl,a⟩:=yo (b:=q+1+1) (H:=HR) (C:=fun H'=>H'[1]?=aa (.box [.f (.bool ae)] 0)∧en ((q+1)::L) H'∧H'[q+1+1]?=aa (A .done (aa .ret))) cl.mg cl.ts b_ (sl s.cg (aM s.cs)) (sl s.xg (ay s.xs)) s.len cl.min m (m+1) ⟨by omega,by omega,by omega,by omega,by omega,by omega,by omega⟩ (DW s.len cl.min m) rfl (fun d=>by
     rw [E]at N;refine kr (tab:=tab.get) (b:=q+1+1) (args:=[vi d]) (H:=HR) N rfl fun Q' c6=>?_;refine aO ?_;refine tN N ?_;have b1:(HR.set (q+1+1) (.lp 8 u [P.nat 31] .skip eF .busy ab (q+1)))[1]?=aa (.box [.f (.bool ag)] 0):=by rw [AI (by omega)];exact q1
     have b5:(HR.set (q+1+1) (.lp 8 u [P.nat 31] .skip eF .busy ab (q+1)))[q+1+1]?=aa (.lp 8 u [P.nat 31] .skip eF .busy ab (q+1)):=OF (av N);have bd:=a_.set (z:=(.lp 8 u [P.nat 31] .skip eF .busy ab (q+1))) N (by simp);generalize HR.set (q+1+1) (.lp 8 u [P.nat 31] .skip eF .busy ab (q+1))=HB at b1 b5 bd ⊢;have s5:(HB.set 1 (.box [.f (.bool ae)] 0))[q+1+1]?=aa (.lp 8 u [P.nat 31] .skip eF .busy ab (q+1)):=by rw [AI (by omega)];exact b5
     refine aB ?_;refine aq (au (.inr rfl) ?_);simp [X,b1];refine aG (c6 _ _ _ _ _ _ _ _ _ _ rfl s5 ⟨rfl,?_,(bd.set b1 (by simp)).set s5 (by simp),?_⟩)
     ·rw [AI (by omega)];exact OF (av b1)
     ·rw [E];exact OF (av s5))
    have c8:Ev tab.get (.fn 50) [.c (.yl (v.length+1)),.c (.f (.fp [fi m,fi (m+1)] 0)),.c (.f (.fp [sl s.cg (aM s.cs),fi s.len,sl s.xg (ay s.xs)] 0)),.c (.f (.fp [sl cl.mg (aI cl.ts),fi cl.min] 0))] (v++[.fk ae,.lp 8 u [P.nat 31] .skip eF .ready ab v.length]) (.t []) H':=by
     rw [a8,kn];exact he
    refine oe (g:=50) (by rw [O7,c4];simp [bG]) c8 ?_;rw [kn];rcases a with⟨⟨d,hd⟩,c1,cd,c5⟩ | ⟨w,rfl⟩
    ·rw [E]at c5;refine tO c5 (by decide) ?_;have d1:(H'.set (q+1+1) (.lp 8 u [P.nat 31] .skip eF .exhausted (aa .ret) (q+1)))[1]?=aa (.box [.f (.bool ae)] 0):=by rw [AI (by omega)];exact c1
     have dd:=cd.set (z:=(.lp 8 u [P.nat 31] .skip eF .exhausted (aa .ret) (q+1))) c5 (by simp);have d2:=(nk (dd.not d1 (by simp))).trans d1;refine aG (hQ _ _ _ ⟨ae,⟨fun _=>⟨_,.inl ⟨cl,F,d,hd,rfl⟩⟩,fun _=>rfl⟩,rfl⟩ ⟨(q+1)::L,rfl,dd,vb ae,?_,by simp [nE,db,aY]⟩);simp [Km.results,cD,aY,X,d2]
    ·rw [E]at N;refine qp N (by decide) ?_;refine az (az (au (.inl rfl) ?_));simp [y,aK (n:=(j:Int)+1)];refine ih (s.cs.length-(j+1)) _ (by omega) ⟨j+1,_,(q+1)::L,_,rfl,by omega,by omega,by simp [g2],by simp [X],by simp [g5],by simp [M],by simp [B],by simp,?_,?_,?_,a_.set N (by simp),fun x hx=>?_⟩
     ·rw [AI (by omega)];exact q0
     ·rw [AI (by omega)];exact q1
     ·rw [AI (by omega)];exact q2
     ·obtain⟨c,S,d,hd,e⟩:=hx;rw [d7]at S;rcases acG.1 S with S | S
      ·exact p x ⟨c,S,d,hd,e⟩
      ·obtain rfl:=acF.1 S;exact w d hd
   exact range _ (by simp [g2]) (by simp [X]) (by simp [g5]) (by simp [M]) (by simp [B]) (by simp [y]) (by simp)
  ·have c9:j=s.cs.length:=by omega
   subst c9;rw [ac0]at p;apply ai;simp [B,y];refine aq (aD (by simp) ?_);refine ba (k':=[.code tf]) rfl ?_;apply ai;have O:(s.xs.any fun x=>iw x.fr x.to m (m+1))=ae↔∃ x,ry s m (m+1) x:=by
    rw [List.any_eq_true];constructor
    ·rintro⟨x,hx,e⟩;exact⟨x,.inr ⟨hx,e⟩⟩
    ·rintro⟨x,h | h⟩
     ·exact absurd h (p x)
     ·exact⟨x,h⟩
   obtain⟨bb,c7⟩:=bV (s.xs.any fun x=>iw x.fr x.to m (m+1));rw [←c7]at U O;simp [g2,X,g5,h0,h1,h2,deep,SX,J_,U];have e1:(H.set 2 (.box [.f (fi m),.f (fi (m+1))] 2))[1]?=aa (.box [.f (.bool ag)] 0):=by rw [AI (by decide)];exact h1
   have dd:=(b6.set (z:=.box [.f (fi m),.f (fi (m+1))] 2) h2 (by simp)).set (z:=.box [.f (.bool bb)] 0) e1 (by simp);have d1:((H.set 2 (.box [.f (fi m),.f (fi (m+1))] 2)).set 1 (.box [.f (.bool bb)] 0))[1]?=aa (.box [.f (.bool bb)] 0):=OF (av e1);have d2:=(nk (dd.not d1 (by simp))).trans d1;refine aG (hQ _ _ _ ⟨bb,O,rfl⟩ ⟨L,rfl,dd,vb bb,?_,by simp [nE,db]⟩);simp [Km.results,cD,aY,X,d2]
 obtain⟨r,⟨b,Y,rfl⟩,h⟩:=key;exact⟨b,Y,h.eq⟩
def lP(S:aC→Prop)(x:aC)(f:Bool):Prop:=(f=ag∧x=⟨0,0,0⟩∧∀ y,¬ S y)∨(f=ae∧S x∧∀ y,S y→x.le y)
theorem lP.iff{S S':aC→Prop}{l:aC}{f:Bool}(h:lP S l f)(g:∀ d,S' d↔S d):lP S' l f:=by
 rcases h with⟨a,b,c⟩ | ⟨a,b,c⟩
 ·exact .inl ⟨a,b,fun d hd=>c d ((g d).1 hd)⟩
 ·exact .inr ⟨a,(g _).2 b,fun d hd=>c d ((g d).1 hd)⟩
theorem lP.step{S S':aC→Prop}{l x:aC}{f:Bool}(h:lP S l f)(j:S' x)(m:∀ d,S d→S' d)(g:∀ d,S' d→S d∨x.le d):lP S' (if f=ag∨jb x l<0 then x else l) ae:=by
 have q:x.le x:=aC.yJ;right;rcases h with⟨rfl,rfl,c⟩ | ⟨rfl,b,c⟩
 ·refine⟨rfl,by simpa using j,fun d hd=>?_⟩;rcases g d hd with h | h
  ·exact absurd h (c d)
  ·simpa using h
 ·by_cases k:x.lt l
  ·rw [bf (.inr ((gJ _ _).2 k))];refine⟨rfl,j,fun d hd=>?_⟩;rcases g d hd with h | h
   ·exact aC.le_trans (aC.JZ k) (c d h)
   ·exact h
  ·rw [aU (by rw [gJ];simpa using k)];refine⟨rfl,m l b,fun d hd=>?_⟩;rcases g d hd with h | h
   ·exact c d h
   ·exact aC.le_trans k h
def vo(c:bU)(len:Int)(x:aC):Prop:=∃ d,o5 c.ts 0 d∧x=gI len c.min d
def oJ(s:bF)(x:aC):Prop:=(∃ c ∈ s.cs,vo c s.len x)∨x ∈ s.xs
theorem si:∀ {l:List aC} {o:Option aC},dV o l=ae→l.Pairwise aC.lt∧∀ m,o=aa m→∀ x ∈ l,m.lt x
 | [],_,_=>⟨List.Pairwise.nil,by simp⟩
 | x::l,o,h=>by
  simp only [dV,BY]at h;obtain⟨⟨u,d⟩,q⟩:=h;obtain⟨s,g⟩:=si q;refine⟨adw.2 ⟨g x rfl,s⟩,?_⟩;rintro m rfl y b;have j:m.lt x:=by
   simp at d;exact(gJ _ _).1 d
  rcases ac2.1 b with rfl | b
  ·exact j
  ·exact aC.lt_trans j (g x rfl y b)
theorem fG.xpw{s:bF}(h:fG s):s.xs.Pairwise aC.lt:=by
 have:=h.v;simp only [ei,BY]at this;exact(si this.2).1
theorem RW(x b:aC)(found:Bool)(H:aj)(s:H[2]?=aa (.box (b.row.map .f) 0))(z:H[3]?=aa (.box [.f (.bool found)] 0)) :
  ∃ r m,Ev tab.get (.fn 32) [.a (x.row.map .f),.c (.ptr 3 0 0),.c (.ptr 2 0 0)] H r m∧(r=.t []∧m[2]?=aa (.box ((if found=ag∨jb x b<0 then x else b).row.map .f) 0)∧m[3]?=aa (.box [.f (.bool ae)] 0) ∧
   H.length≤m.length∧∀ i:Nat,i<H.length→i≠2→i≠3→m[i]?=H[i]?):=by
 refine dy rfl rfl fun Q E=>?_;have M:=av z;have L:=av s;simp only [aC.row,ac5,ads]at s ⊢;have d:=wq x b;simp only [aC.row,ac5,ads]at d;apply ai;simp;have j:(H++[bK.box [.f (fi x.day),.f (fi x.fr),.f (fi x.to)] 0])[2]?=aa (.box [.f (fi b.day),.f (fi b.fr),.f (fi b.to)] 0):=by rw [AT L];exact s
 have l:(H++[bK.box [.f (fi x.day),.f (fi x.fr),.f (fi x.to)] 0])[3]?=aa (.box [.f (.bool found)] 0):=by rw [AT M];exact z
 have y:(H++[bK.box [.f (fi x.day),.f (fi x.fr),.f (fi x.to)] 0])[H.length]?=aa (.box [.f (fi x.day),.f (fi x.fr),.f (fi x.to)] 0):=by simp
 have A:∀ i:Nat,i<H.length→(H++[bK.box [.f (fi x.day),.f (fi x.fr),.f (fi x.to)] 0])[i]?=H[i]?:=fun i u=>AT u;have B:H.length≤(H++[bK.box [.f (fi x.day),.f (fi x.fr),.f (fi x.to)] 0]).length:=by simp
 generalize H++[bK.box [.f (fi x.day),.f (fi x.fr),.f (fi x.to)] 0]=g at j l y A B ⊢;have q:(g.set 2 (.box [.f (fi x.day),.f (fi x.fr),.f (fi x.to)] 0))[3]?=aa (.box [.f (.bool found)] 0):=by rw [AI (by decide)];exact l
 have v:∀ t:T,t.g 1=.c (.ptr 3 0 0)→t.g 2=.c (.ptr 2 0 0)→t.g 3=.c (.ptr H.length 0 0)→(found=ag∨jb x b<0)→WP tab.get 32 ab [.code zz] ⟨t,[],g⟩ Q:=by
  intro t F I J K;have N:gD g (.ptr 2 0 0) [.f (fi x.day),.f (fi x.fr),.f (fi x.to)]=aa (g.set 2 (.box [.f (fi x.day),.f (fi x.fr),.f (fi x.to)] 0)):=by simp [gD,j,over]
  have O:gD (g.set 2 (.box [.f (fi x.day),.f (fi x.fr),.f (fi x.to)] 0)) (.ptr 3 0 0) [.f (.bool ae)]=aa ((g.set 2 (.box [.f (fi x.day),.f (fi x.fr),.f (fi x.to)] 0)).set 3 (.box [.f (.bool ae)] 0)):=by simp [gD,q,over]
  refine au (.inl rfl) ?_;simp [F,I,J,y,N,O,-bZ];refine eu (E _ _ _ rfl rfl ⟨rfl,?_,?_,by simpa using B,fun i u s z=>?_⟩)
  ·rw [AI (by decide),OF (av j),bf K];rfl
  ·exact OF (av q)
  ·rw [AI (by omega),AI (by omega)];exact A i u
 apply aq;cases found with
 | false=>
  refine au (.inl rfl) ?_;simp [l];refine an (by simp) (v _ (by simp) (by simp) (by simp) (.inl rfl))
 | true=>
  by_cases k:jb x b<0
  ·refine au (.inl rfl) ?_;simp [l,j,y,d,k];refine an (by simp) (v _ (by simp) (by simp) (by simp) (.inr k))
  ·refine au (.inl rfl) ?_;simp [l,j,y,d,k];refine bg (by simp) ?_;refine eu (E _ _ _ rfl rfl ⟨rfl,?_,l,B,fun i u s z=>A i u⟩);rw [aU (by simp [k])];exact j
theorem P7(s:bF)(hs:fG s)(m:Int)(j7:-1000000000≤m)(j8:m≤1000000000) :
  ∃ x f,lP (fun y=>oJ s y∧m≤y.fr) x f∧cB tab.get 6 [.a (s.row.map .f),vi m]=Eq (.t [.a (x.row.map .f),vb f]):=by
 have key:∃ r,(∃ x f,lP (fun y=>oJ s y∧m≤y.fr) x f∧r=.t [.a (x.row.map .f),vb f])∧cB tab.get 6 [.a (s.row.map .f),vi m] r:=by
  refine gZ rfl rfl fun Q hQ=>?_;have b7:=(oG s hs.sm).eq;rw [hs.v]at b7;simp [bF.row]at b7;obtain⟨f7,f8⟩:=hs.len;have j4:=hs.cn;have j9:=hs.xn;have f9:max m (-2251799813685248)=m:=by omega
  apply ai;simp [bF.row];apply aq;apply ai;simp [b7,show¬ 2251799813685248<m by omega];refine bg (by simp) ?_;apply ai;simp [f9];apply ai;simp;apply ai;simp;apply ai;simp;obtain⟨Hd,N⟩:∃ Hd:aj→aC→Bool→Prop,Hd=fun H x f=>H[0]?=aa (.box [C.f (sl s.cg (aM s.cs)),C.f (fi s.len),C.f (sl s.xg (ay s.xs))] 0)∧H[1]?=aa (.box [.f (fi 0),.f (fi 0),.f (fi 0)] 0)∧H[2]?=aa (.box (x.row.map .f) 0)∧H[3]?=aa (.box [.f (.bool f)] 0):=⟨_,rfl⟩
  have a_:∀ H x f J,Hd H x f→Hd (H++J) x f:=by
   intro H x f J h;rw [N]at h ⊢;obtain⟨a,b,c,d⟩:=h;exact⟨by rw [AT (av a)];exact a,by rw [AT (av b)];exact b,by rw [AT (av c)];exact c,by rw [AT (av d)];exact d⟩
  have b6:∀ H x f y,Hd H x f→∃ r H',Ev tab.get (.fn 32) [.a (y.row.map .f),.c (.ptr 3 0 0),.c (.ptr 2 0 0)] H r H'∧r=.t []∧Hd H' (if f=ag∨jb y x<0 then y else x) ae:=by
   intro H x f y h;rw [N]at h ⊢;obtain⟨a,b,c,d⟩:=h;obtain⟨r,H',e,h1,W,h3,h4,h5⟩:=RW y x f H c d;exact⟨r,H',e,h1,by rw [h5 0 (av a) (by decide) (by decide)];exact a,by rw [h5 1 (av b) (by decide) (by decide)];exact b,W,h3⟩
  have d5:∀(t:T) (H:aj) (x:aC) (f:Bool),t.g 4=.c (.ptr 1 0 0)→t.g 6=.c (.ptr 2 0 0)→t.g 7=.c (.ptr 3 0 0)→Hd H x f→lP (fun y=>oJ s y∧m≤y.fr) x f→WP tab.get 6 ab [.code u7] ⟨t,[],H⟩ Q:=by
   intro t H x f F L M h O;rw [N]at h;obtain⟨h0,h1,W,h3⟩:=h;simp only [aC.row,ac5,ads]at W;have s1:gD H (.ptr 1 0 0) [.f (fi x.day),.f (fi x.fr),.f (fi x.to)]=aa (H.set 1 (.box [.f (fi x.day),.f (fi x.fr),.f (fi x.to)] 0)):=by simp [gD,h1,over]
   have n1:(H.set 1 (.box [.f (fi x.day),.f (fi x.fr),.f (fi x.to)] 0))[1]?=aa (.box [.f (fi x.day),.f (fi x.fr),.f (fi x.to)] 0):=OF (av h1);have n3:(H.set 1 (.box [.f (fi x.day),.f (fi x.fr),.f (fi x.to)] 0))[3]?=aa (.box [.f (.bool f)] 0):=by rw [AI (by decide)];exact h3
   refine aq (qq (.inl rfl) ?_ ?_)
   case refine_2=>
    intro cc e_;have d_:cc=(1,4):=by simpa using e_
    subst d_;refine⟨by decide,_,rfl,.inl ⟨by decide,?_⟩⟩;simp [F,L,M,W,h3,s1,n3,oL,-bZ];cases f<;>rfl
   simp [F,L,M,W,h3,s1,-bZ];refine aG (hQ _ _ _ ⟨x,f,O,rfl⟩ ?_);simp [F,n1,aC.row]
  have b9:∀(t:T) (H:aj) (x:aC) (f:Bool),t.g 1=vi m→t.g 2=.c (.ptr 0 0 0)→t.g 4=.c (.ptr 1 0 0)→t.g 6=.c (.ptr 2 0 0)→t.g 7=.c (.ptr 3 0 0)→t.g 8=.c (.cl 32 [.ptr 3 0 0,.ptr 2 0 0])→Hd H x f→lP (fun y=>(∃ c ∈ s.cs,vo c s.len y)∧m≤y.fr) x f →
    WP tab.get 6 ab [.code u6] ⟨t,[],H⟩ Q:=by
   intro t H x f S g2 F L M U h O;have h0:H[0]?=aa (.box [C.f (sl s.cg (aM s.cs)),C.f (fi s.len),C.f (sl s.xg (ay s.xs))] 0):=by rw [N]at h;exact h.1
   apply aq;apply ai;simp [g2,h0];refine et s.xs.length (fun j t H=>t.g 1=vi m∧t.g 4=.c (.ptr 1 0 0)∧t.g 6=.c (.ptr 2 0 0)∧t.g 7=.c (.ptr 3 0 0)∧t.g 8=.c (.cl 32 [.ptr 3 0 0,.ptr 2 0 0])∧t.g 62=.c (.f (sl s.xg (ay s.xs)))∧Hd H x f∧∀ y ∈ s.xs.take j,¬ m≤y.fr) (by omega) (by decide) (by decide) (by simp) (by simp)
    ⟨by simp [S],by simp [F],by simp [L],by simp [M],by simp [U],by simp,h,by simp⟩ ?_ ?_
   ·rintro j t H hj ⟨S,F,L,M,U,c8,h,a8⟩ ha hb next
    obtain⟨y,K⟩:=bV (s.xs[j]);have i_:y ∈ s.xs:=K▸acE hj;have u:=fun H:aj=>dt (H:=H) (aX s.xs) (cJ hj);rw [←K]at u;simp [aC.row]at u;have I:s.xs.take (j+1)=s.xs.take j++[y]:=by rw [acW,By hj,K];rfl
    refine aB ?_;apply ai;simp [c8,ha,bW,hj,u];have kN:(H++[bK.box [.f (fi y.day),.f (fi y.fr),.f (fi y.to)] 0])[H.length]?=aa (.box [.f (fi y.day),.f (fi y.fr),.f (fi y.to)] 0):=by simp
    have kh:=a_ H x f [bK.box [.f (fi y.day),.f (fi y.fr),.f (fi y.to)] 0] h;generalize H++[bK.box [.f (fi y.day),.f (fi y.fr),.f (fi y.to)] 0]=HA at kN kh ⊢;apply ai;simp [S,kN];by_cases k:m≤y.fr
    ·obtain⟨r,H2,B,rfl,W⟩:=b6 HA x f y kh;have B:=B.eq;simp only [aC.row,ac5,ads]at B;refine an (by simp [k]) ?_;apply ai;simp [U,kN,bG,B];refine ba rfl ?_;refine d5 _ _ _ _ (by simp [F]) (by simp [L]) (by simp [M]) W (O.step ⟨.inr i_,k⟩ (fun z v=>⟨.inl v.1,v.2⟩) fun z v=>?_);rcases v.1 with h | h
     ·exact .inl ⟨h,v.2⟩
     ·right;obtain⟨i,Y,rfl⟩:=List.getElem_of_mem h;rcases Nat.lt_trichotomy i j with q | rfl | q
      ·exact absurd v.2 (a8 _ (adS.2 ⟨i,by omega,rfl⟩))
      ·rw [K];exact aC.yJ
      ·rw [K];exact aC.JZ (adr.1 hs.xpw j i hj Y q)
    ·refine aD (by simp [k]) (aO (az (next _ _ ?_ (by simp [ha]) (by simp [hb]))));refine⟨by simp [S],by simp [F],by simp [L],by simp [M],by simp [U],by simp [c8],kh,fun z v=>?_⟩;rw [I]at v;rcases acG.1 v with v | v
     ·exact a8 z v
     ·rw [acF.1 v];exact k
   ·rintro t H ⟨S,F,L,M,U,c8,h,a8⟩ - -;rw [ac0]at a8;refine d5 _ _ _ _ (by simp [F]) (by simp [L]) (by simp [M]) h (O.iff fun z=>⟨fun v=>?_,fun v=>⟨.inl v.1,v.2⟩⟩);rcases v.1 with q | q
    ·exact⟨q,v.2⟩
    ·exact absurd v.2 (a8 z q)
  apply aq;apply ai;simp;refine et s.cs.length (fun j t H=>t.g 1=vi m∧t.g 2=.c (.ptr 0 0 0)∧t.g 4=.c (.ptr 1 0 0)∧t.g 6=.c (.ptr 2 0 0)∧t.g 7=.c (.ptr 3 0 0)∧t.g 8=.c (.cl 32 [.ptr 3 0 0,.ptr 2 0 0])∧t.g 27=.c (.f (sl s.cg (aM s.cs)))∧∃ x f,Hd H x f∧lP (fun y=>(∃ c ∈ s.cs.take j,vo c s.len y)∧m≤y.fr) x f) (by omega) (by decide) (by decide) (by simp) (by simp)
   ⟨by simp,by simp,by simp,by simp,by simp,by simp,by simp,⟨0,0,0⟩,ag,by rw [N];exact⟨rfl,rfl,rfl,rfl⟩,.inl ⟨rfl,rfl,fun y K=>by obtain⟨⟨c,A,_⟩,_⟩:=K;simp at A⟩⟩ ?_ ?_
  ·rintro j t H hj ⟨S,g2,F,L,M,U,b_,x,f,h,O⟩ ha hb next
   obtain⟨cl,c9⟩:=bV (s.cs[j]);have c4:cl ∈ s.cs:=c9▸acE hj;have j3:=hs.min c4;have c7:=hs.cl cl c4;have u:=fun H:aj=>dt (H:=H) (da s.cs) (e8 (l:=s.cs) (j:=j) hj);have c6:=fun H:aj=>bW (H:=H) (g:=s.cg) (rows:=aM s.cs) (sz:=2) (k:=.i64) (i:=j) (by omega) (by simpa using hj);rw [←c9]at u;simp [bU.row]at u c6;have I:s.cs.take (j+1)=s.cs.take j++[cl]:=by rw [acW,By hj,c9];rfl
   obtain⟨n0,f_⟩:=bV (max 0 ((m-cl.min-1) / 1440+1));obtain⟨d,ok,c_,hd,h_⟩:=tW cl.mg cl.ts c7.v c7.f n0 (by omega) (by omega);have d8:=mo (sl s.cg (aM s.cs)) (sl s.xg (ay s.xs)) (sl cl.mg (aI cl.ts)) s.len cl.min d (by omega) (by omega) (by omega) (by omega);have Z:=vL (sl s.cg (aM s.cs)) (sl s.xg (ay s.xs)) (sl cl.mg (aI cl.ts)) s.len cl.min d (by unfold pP;omega) (by unfold pP;omega) (by unfold pP;omega);simp [aC.row]at Z;have f4:=ql (m-cl.min-1) (by omega) (by omega);have d9:d≤(2251799813685248-cl.min-s.len) / 1440:=by omega
   have d7:max 0 ((m-cl.min-1) / 1440+1)=n0:=f_.symm;have X:∀ y,vo cl s.len y∧m≤y.fr↔∃ e,o5 cl.ts n0 e∧y=gI s.len cl.min e:=by
    intro y;constructor
    ·rintro⟨⟨e,he,rfl⟩,W⟩;have h3:m≤e*1440+cl.min:=W;have h4:0≤e:=by obtain⟨_,_,h,_⟩:=he;exact h
     exact⟨e,(jE (by omega) (by omega)).1 he,rfl⟩
    ·rintro⟨e,he,rfl⟩;have h4:n0≤e:=by obtain⟨_,_,h,_⟩:=he;exact h
     refine⟨⟨e,(jE (by omega) h4).2 he,rfl⟩,?_⟩;show m≤e*1440+cl.min;omega
   refine aB ?_;apply ai;simp [b_,ha,c6,u];obtain⟨bc,d6⟩:=bV (H.length);have kc:(H++[bK.box [.f (sl cl.mg (aI cl.ts)),.f (fi cl.min)] 0])[bc]?=aa (.box [.f (sl cl.mg (aI cl.ts)),.f (fi cl.min)] 0):=by simp [d6]
   have kh:=a_ H x f [bK.box [.f (sl cl.mg (aI cl.ts)),.f (fi cl.min)] 0] h;rw [←d6];generalize H++[bK.box [.f (sl cl.mg (aI cl.ts)),.f (fi cl.min)] 0]=HA at kc kh ⊢;have k0:HA[0]?=aa (.box [C.f (sl s.cg (aM s.cs)),C.f (fi s.len),C.f (sl s.xg (ay s.xs))] 0):=by rw [N]at kh;exact kh.1
   apply ai;simp [S,kc,aK (n:=m-cl.min),aK (n:=m-cl.min-1),f4,aK (n:=(m-cl.min-1) / 1440+1),d7,h_];apply aq;rcases c_ with⟨rfl,rfl,g_⟩ | ⟨rfl,hS,c_⟩
   ·refine au (.inl rfl) ?_;simp;refine aD (by simp) (aO (az (next _ _ ?_ (by simp [ha]) (by simp [hb]))));refine⟨by simp [S],by simp [g2],by simp [F],by simp [L],by simp [M],by simp [U],by simp [b_],x,f,kh,O.iff fun y=>⟨fun K=>?_,fun K=>?_⟩⟩
    ·obtain⟨⟨c,A,Y⟩,E⟩:=K;rw [I]at A;rcases acG.1 A with A | A
     ·exact⟨⟨c,A,Y⟩,E⟩
     ·obtain rfl:=acF.1 A;obtain⟨e,he,-⟩:=(X y).1 ⟨Y,E⟩;exact absurd he (g_ e)
    ·obtain⟨⟨c,A,Y⟩,E⟩:=K;exact⟨⟨c,by rw [I];exact adj _ A,Y⟩,E⟩
   ·obtain⟨r,H2,B,rfl,W⟩:=b6 HA x f (gI s.len cl.min d) kh;have B:=B.eq;simp only [aC.row,ac5,ads]at B;refine au (.inl rfl) ?_;simp [g2,k0,kc,d8,d9];refine an (by simp) (au (.inl rfl) ?_);simp [g2,U,k0,kc,Z,bG,B];refine az (next _ _ ?_ (by simp [ha]) (by simp [hb]));refine⟨by simp [S],by simp [g2],by simp [F],by simp [L],by simp [M],by simp [U],by simp [b_],_,ae,W,O.step ?_ (fun y K=>?_) fun y K=>?_⟩
    ·obtain⟨a,b⟩:=(X _).2 ⟨d,hS,rfl⟩;exact⟨⟨cl,by rw [I];exact List.mem_append_right _ (acF.2 rfl),a⟩,b⟩
    ·obtain⟨⟨c,A,Y⟩,E⟩:=K;exact⟨⟨c,by rw [I];exact adj _ A,Y⟩,E⟩
    ·obtain⟨⟨c,A,Y⟩,E⟩:=K;rw [I]at A;rcases acG.1 A with A | A
     ·exact .inl ⟨⟨c,A,Y⟩,E⟩
     ·right;obtain rfl:=acF.1 A;obtain⟨e,he,rfl⟩:=(X y).1 ⟨Y,E⟩;have:=c_ e he;unfold aC.le aC.lt gI;simp only;omega
  ·rintro t H ⟨S,g2,F,L,M,U,b_,x,f,h,O⟩ - -;rw [ac0]at O;exact b9 _ _ x f (by simp [S]) (by simp [g2]) (by simp [F]) (by simp [L]) (by simp [M]) (by simp [U]) h O
 obtain⟨r,⟨x,f,O,rfl⟩,h⟩:=key;exact⟨x,f,O,h.eq⟩
abbrev u8(n:Nat):FC:=.int .u8 n
def cL(l:List Nat):List (List FC):=l.map fun n=>[u8 n]
@[simp] theorem W6 (l:List Nat):(cL l).length=l.length:=by simp [cL]
theorem x9(l:List Nat):bC 1 (cL l):=bC.map fun _=>rfl
theorem v8{j:Nat}{l:List Nat}(b:j<l.length){H:aj}:dz H ab (.c (.f (.fp (cL l).flatten j)))=aa (.c (.f (u8 l[j]))):=by
 have:=mZ (H:=H) (rows:=cL l) (j:=j) (sz:=1) (row:=[u8 l[j]]) (x:=u8 l[j]) (x9 l) (by simp [cL,b]) rfl;simpa using this
theorem sy{j:Nat}{l:List Nat}{g:Tg}(b:j<l.length){H:aj}:a6 H 1 ab (.c (.f (sl g (cL l)))) (vi j)=aa (.c (.f (.fp (cL l).flatten j))):=by
 have:=bW (H:=H) (g:=g) (rows:=cL l) (sz:=1) (k:=.i64) (i:=(j:Int)) (by omega) (by simp;omega);simpa using this
def rj(b:List Nat)(i:Nat):Nat:=b[i]?.getD 0
theorem tp{b:List Nat}(h:∀ n ∈ b,n<256)(i:Nat):rj b i<256:=by
 unfold rj;by_cases d:i<b.length
 ·rw [By d];exact h _ (acE d)
 ·rw [adC.2 (by omega)];decide
theorem sb(g:Tg)(b:List Nat)(m:∀ n ∈ b,n<256)(u:b.length≤9223372036854775807)(i:Nat)(s:i≤1000):cB tab.get 48 [.c (.f (sl g (cL b))),vi i]=Eq (vi (rj b i:Nat)):=cB.eq (by
 refine du rfl rfl fun Q d=>?_;apply ai;simp;refine aq (ai ?_);simp;by_cases h:i<b.length
 ·have j:=sy (g:=g) h (H:=[]);have l:=v8 h (H:=[]);have q:=m _ (acE h);have w:IntKind.i64.wrap ((b[i]:Nat):Int)=((b[i]:Nat):Int):=aK;refine an (by simp [h]) (ai ?_);simp [j,l,w];refine aG (d _ _ ?_);simp [rj,By h]
 ·refine bg (by simp [h]) ?_;apply ai;simp;refine aG (d _ _ ?_);simp [rj,adC.2 (show b.length≤i by omega)])
theorem sY{d:Int}:∀ {l:List Int} {b:Int},(∀ x ∈ l,b<x∧x<d)→l.Pairwise (· < ·)→cH d b l=ae
 | [],_,_,_=>rfl
 | n::r,b,h,g=>by
  have j:=h n acK;rw [adw]at g;simp only [cH,decide_eq_true j.1,decide_eq_true j.2,adl];exact sY (fun x m=>⟨g.1 x m,(h x (acM _ m)).2⟩) g.2
def Up(l:List Int)(n:Nat):Prop:=(∀ x ∈ l,0≤x∧x<n)∧l.Pairwise (· < ·)∧l.length≤n
theorem Up.nil:Up [] 0:=⟨by simp,List.Pairwise.nil,by simp⟩
theorem Up.skip{l:List Int}{n:Nat}(h:Up l n):Up l (n+1):=⟨fun x b=>by have:=h.1 x b;omega,h.2.1,by have:=h.2.2;omega⟩
theorem Up.app{l:List Int}{n:Nat}(h:Up l n):Up (l++[(n:Int)]) (n+1):=by
 refine⟨fun x d=>?_,?_,by simp;exact h.2.2⟩
 ·rcases acG.1 d with d | d
  ·have:=h.1 x d;omega
  ·simp at d;subst d;omega
 ·rw [ada];exact⟨h.2.1,ac7 _ _,fun a j b g=>by simp at g;subst g;have:=h.1 a j;omega⟩
theorem Up.rising{l:List Int}{n:Nat}(h:Up l n):cH n (-1) l=ae:=sY (fun x b=>by have:=h.1 x b;omega) h.2.1
theorem jB(l:List Int):bC 1 (ints l):=bC.map fun _=>rfl
structure FI(b:V)(fr cU:Nat)(hd cy:List Int)(ch cc:C)(t:T)(J:aj):Prop where
 res:J[0]?=aa (.box [.f .ax,.f (fi 0),.f (fi 0),.f .ax] 0)
 pb:J[1]?=aa (.box [ch,.f (fi fr),.f (fi cU),cc] 0)
 lh:LR J ch 1 (ints hd)
 lc:LR J cc 1 (ints cy)
 ne:∀ i,eS ch=aa i→eS cc≠aa i
 g0:t.g 0=b
 g2:t.g 2=.c (.ptr 0 0 0)
 g3:t.g 3=.c (.ptr 1 0 0)
section
variable{b:V}{fr cU:Nat}{hd cy:List Int}{ch cc:C}{t:T}{J:aj}
theorem FI.to(k:FI b fr cU hd cy ch cc t J){d:T}(g0:d.g 0=b)(g2:d.g 2=.c (.ptr 0 0 0))(g3:d.g 3=.c (.ptr 1 0 0)):FI b fr cU hd cy ch cc d J:=⟨k.res,k.pb,k.lh,k.lc,k.ne,g0,g2,g3⟩
theorem FI.Pj(k:FI b fr cU hd cy ch cc t J)(L:cy.length≤1000)(n:Int) :
  ∃ m j,bJ (J++[.box [.f (fi n)] 0]) 1 8 (.c cc) (.c (.sl J.length 0 1 1 0 1))=aa (.c m,j)∧gD j (.ptr 1 3 0) [m]=aa (j.set 1 (.box [ch,.f (fi fr),.f (fi cU),m] 0)) ∧
   ∀ x:T,x.g 0=b→x.g 2=.c (.ptr 0 0 0)→x.g 3=.c (.ptr 1 0 0)→FI b fr cU hd (cy++[n]) ch m x (j.set 1 (.box [ch,.f (fi fr),.f (fi cU),m] 0)):=by
 obtain⟨A,d⟩:=bV (J++[.box ([fi n].map .f) 0]:aj);have up:∀ i y,J[i]?=aa y→A[i]?=aa y:=fun i y hy=>by rw [d,AT (av hy)];exact hy
 have u:LR A cc 1 (ints cy):=by rw [d];exact k.lc.push _
 have E:A[J.length]?=aa (.box ([fi n].map .f) 0):=by rw [d];simp
 obtain⟨m,j,l,q,s,F⟩:=u.app (jB cy) (by decide) (row:=[fi n]) rfl (bytes:=8) (hO (by simp [ints];omega) (by decide)) E;have z:∀(i:Nat) (cs:List C) (fl:Nat),J[i]?=aa (.box cs fl)→j[i]?=aa (.box cs fl):=fun i cs fl hy=>s.2 i _ (up _ _ hy) (u.fU (up _ _ hy));have g:=z _ _ _ k.pb;have I:ints cy++[[fi n]]=ints (cy++[n]):=by simp [ints]
 rw [I]at q;have v:LR j ch 1 (ints hd):=k.lh.cC fun i y hy B=>s.2 i y (up _ _ hy) (k.ne i B);refine⟨m,j,by rw [d]at l;exact l,by simp [gD,g,over],fun x g0 g2 g3=>⟨?_,OF (av g),v.set (v.fU g) _,q.set (q.fU g) _,?_,g0,g2,g3⟩⟩
 ·rw [AI (by decide)];exact z _ _ _ k.res
 ·intro i B;rcases F with e | e
  ·rw [e];exact k.ne i B
  ·rw [e];intro H;cases H;have:=k.lh.lt B;have K:A.length=J.length+1:=by rw [d];simp
   omega
theorem FI.JM(k:FI b fr cU hd cy ch cc t J)(L:hd.length≤1000)(n:Int) :
  ∃ m j,bJ (J++[.box [.f (fi n)] 0]) 1 8 (.c ch) (.c (.sl J.length 0 1 1 0 1))=aa (.c m,j)∧gD j (.ptr 1 0 0) [m]=aa (j.set 1 (.box [m,.f (fi fr),.f (fi cU),cc] 0)) ∧
   ∀ A:T,A.g 0=b→A.g 2=.c (.ptr 0 0 0)→A.g 3=.c (.ptr 1 0 0)→FI b fr cU (hd++[n]) cy m cc A (j.set 1 (.box [m,.f (fi fr),.f (fi cU),cc] 0)):=by
 obtain⟨E,d⟩:=bV (J++[.box ([fi n].map .f) 0]:aj);have up:∀ i y,J[i]?=aa y→E[i]?=aa y:=fun i y hy=>by rw [d,AT (av hy)];exact hy
 have v:LR E ch 1 (ints hd):=by rw [d];exact k.lh.push _
 have F:E[J.length]?=aa (.box ([fi n].map .f) 0):=by rw [d];simp
 obtain⟨m,j,l,q,u,H⟩:=v.app (jB hd) (by decide) (row:=[fi n]) rfl (bytes:=8) (hO (by simp [ints];omega) (by decide)) F;have B:∀(i:Nat) (cs:List C) (fl:Nat),J[i]?=aa (.box cs fl)→j[i]?=aa (.box cs fl):=fun i cs fl hy=>u.2 i _ (up _ _ hy) (v.fU (up _ _ hy));have g:=B _ _ _ k.pb;have I:ints hd++[[fi n]]=ints (hd++[n]):=by simp [ints]
 rw [I]at q;have x:LR j cc 1 (ints cy):=k.lc.cC fun i y hy s=>u.2 i y (up _ _ hy) (fun e=>k.ne i e s);refine⟨m,j,by rw [d]at l;exact l,by simp [gD,g,over],fun A g0 g2 g3=>⟨?_,OF (av g),q.set (q.fU g) _,x.set (x.fU g) _,?_,g0,g2,g3⟩⟩
 ·rw [AI (by decide)];exact B _ _ _ k.res
 ·intro i s z;rcases H with e | e
  ·rw [e]at s;exact k.ne i s z
  ·rw [e]at s;cases s;have:=k.lc.lt z;have K:E.length=J.length+1:=by rw [d];simp
   omega
end
theorem LL(a:Int)(j:Nat):bt .shr (vi a) (vi j)=aa (vi (a.fdiv (2 ^ (min j 64)))):=by
 have:¬ ((j:Int)<0):=by omega
 simp only [bt,this,if_false];rw [adq];rfl
theorem AF(a:Int)(j:Nat):bt .rem (vi (a.fdiv (2 ^ (min j 64)))) (vi 2)=aa (vi ((a.fdiv (2 ^ (min j 64))).tmod 2)):=by
 simp [bt,hV,V.int]
def aT.eA(p:aT):Prop:=eV p=ae∧p.fr≤8∧p.cU≤12
theorem rE(g:Tg){b:List Nat}(s:∀ n ∈ b,n<256)(m:b.length≤9223372036854775807) :
  ∃ p:aT,p.eA∧cB tab.get 47 [.c (.f (sl g (cL b)))]=Eq (.a (p.row.map .f)):=by
 obtain⟨U,⟨p,hp,rfl⟩,S⟩:∃ U,(∃ p:aT,p.eA∧U=.a (p.row.map .f))∧cB tab.get 47 [.c (.f (sl g (cL b)))] U:=by
  refine gZ rfl rfl fun Q w=>?_;have X:cB tab.get 48 [.c (.f (sl g (cL b))),vi 0]=Eq (vi (rj b 0:Nat)):=sb g b s m 0 (by decide);have a1:cB tab.get 48 [.c (.f (sl g (cL b))),vi 1]=Eq (vi (rj b 1:Nat)):=sb g b s m 1 (by decide);have Y:cB tab.get 48 [.c (.f (sl g (cL b))),vi 2]=Eq (vi (rj b 2:Nat)):=sb g b s m 2 (by decide);have Z:cB tab.get 48 [.c (.f (sl g (cL b))),vi 3]=Eq (vi (rj b 3:Nat)):=sb g b s m 3 (by decide);have a4:cB tab.get 48 [.c (.f (sl g (cL b))),vi 4]=Eq (vi (rj b 4:Nat)):=sb g b s m 4 (by decide);have b0:=tp s 0;have b1:=tp s 1;have b2:=tp s 2;have b3:=tp s 3;obtain⟨fr,H⟩:=bV (rj b 1 % 9:Nat);obtain⟨cU,B⟩:=bV (1+rj b 0 % 12:Nat);have r1:bt .rem (vi (rj b 1:Nat)) (vi 9)=aa (vi fr):=by rw [kO (by omega) (by decide),H];simp
  have r0:bt .rem (vi (rj b 0:Nat)) (vi 12)=aa (vi (rj b 0 % 12:Nat)):=by rw [kO (by omega) (by decide)];simp
  have w0:IntKind.i64.wrap (1+(rj b 0:Int) % 12)=cU:=by rw [aK,B];simp
  have w3:=aK (n:=256*(rj b 3:Int));obtain⟨bits,x⟩:=bV (IntKind.i64.wrap ((rj b 2:Int)+256*(rj b 3:Int)));apply ai;simp;apply ai;simp [X,a1,r0,r1,w0];apply ai;simp [Y,Z,w3,←x];refine aq (ai ?_);simp;refine jC cU (fun j t J=>∃ cy cc,Up cy j∧FI (.c (.f (sl g (cL b)))) fr cU [] cy (.f .ax) cc t J∧t.g 4=vi bits) (by omega) (by decide) (by simp)
   ⟨[],.f .ax,Up.nil,⟨rfl,rfl,LR.nil _ _,LR.nil _ _,(fun i h=>by cases h),by simp,by simp,by simp⟩,by simp⟩ ?_ ?_ ?_
  ·rintro j t J L K ⟨cy,cc,u,k,q⟩ d O;simp [d,k.g3,k.pb,bY];exact O _ ⟨cy,cc,u,k.to (by simp [k.g0]) (by simp [k.g2]) (by simp [k.g3]),by simp [q]⟩ (by simp [d]) (by simp)
  ·rintro j t J K ⟨cy,cc,u,k,q⟩ d E;refine aB (ai ?_);simp [d,q,LL,AF];by_cases A:(bits.fdiv (2 ^ (min j 64))).tmod 2=1
   ·simp [A];refine an (by simp) (au (.inl rfl) ?_);obtain⟨a,W,l,z,M⟩:=k.Pj (by have:=u.2.2;omega) j;simp [d,k.g3,k.pb,bY,l,z,-bZ];refine az (E _ _ ⟨_,_,u.app,M _ (by simp [k.g0]) (by simp [k.g2]) (by simp [k.g3]),by simp [q]⟩ (by simp [d]))
   ·simp [A];refine bg (by simp) ?_;refine az (E _ _ ⟨_,_,u.skip,k.to (by simp [k.g0]) (by simp [k.g2]) (by simp [k.g3]),by simp [q]⟩ (by simp [d]))
  rintro t J ⟨cy,cc,u,k,q⟩ d;refine aq (ai ?_);simp;refine jC fr (fun j t J=>∃ hd ch,Up hd j∧FI (.c (.f (sl g (cL b)))) fr cU hd cy ch cc t J) (by omega) (by decide) (by simp)
   ⟨[],.f .ax,Up.nil,k.to (by simp [k.g0]) (by simp [k.g2]) (by simp [k.g3])⟩ ?_ ?_ ?_
  ·clear k q d;rintro j t J L K ⟨hd,ch,v,k⟩ d O;simp [d,k.g3,k.pb,bY];exact O _ ⟨hd,ch,v,k.to (by simp [k.g0]) (by simp [k.g2]) (by simp [k.g3])⟩ (by simp [d]) (by simp)
  ·clear k q d;rintro j t J K ⟨hd,ch,v,k⟩ d E;refine aB (ai ?_);simp [d,k.g0,a4,LL,AF];by_cases A:((rj b 4:Int).fdiv (2 ^ (min j 64))).tmod 2=1
   ·simp [A];refine an (by simp) (au (.inl rfl) ?_);obtain⟨a,W,l,z,M⟩:=k.JM (by have:=v.2.2;omega) j;simp [d,k.g3,k.pb,bY,l,z,-bZ];refine az (E _ _ ⟨_,_,v.app,M _ (by simp [k.g0]) (by simp [k.g2]) (by simp [k.g3])⟩ (by simp [d]))
   ·simp [A];refine bg (by simp) ?_;refine az (E _ _ ⟨_,_,v.skip,k.to (by simp [k.g0]) (by simp [k.g2]) (by simp [k.g3])⟩ (by simp [d]))
  clear k q d;rintro t J ⟨hd,ch,v,k⟩ d;apply ai;simp [k.g2,k.g3,k.pb,k.res,bY];obtain⟨hg,hh⟩:=k.lh.exU (jB _);obtain⟨c,hc⟩:=k.lc.exU (jB _);have N:=av k.res;have e:=hh (J.set 0 (.box [ch,.f (fi fr),.f (fi cU),cc] 0)) 63 fun i y I F=>by
   rw [AI (by rintro rfl;exact k.lh.fU k.res F)];exact I
  have f:=hc (J.set 0 (.box [ch,.f (fi fr),.f (fi cU),cc] 0)) 63 fun i y I F=>by
   rw [AI (by rintro rfl;exact k.lc.fU k.res F)];exact I
  refine aG (w _ _ _ ⟨⟨hg,hd,fr,cU,c,cy⟩,?_,rfl⟩ ⟨rfl,.a [ch,.f (fi fr),.f (fi cU),cc],?_,?_⟩)
  ·have A:=u.2.2;have h2:=v.2.2;have o:=u.rising;have r:=v.rising;refine⟨?_,by show(fr:Int)≤8;omega,by show(cU:Int)≤12;omega⟩;simp [eV,o,r];omega
  ·simp [Km.results,cD,aY,k.g2,N,bY]
  ·simp [nE,db,aY,deep,e,f,aT.row]
 exact⟨p,hp,S.eq⟩
def fo(J:aj)(c:C)(fs:List aT):Prop:=
 (∃ p m,fs=[p]∧c=.sl m 0 1 1 0 4∧J[m]?=aa (.box (p.row.map .f) 0))∨(fs≠[]∧LR J c 4 (aQ fs))
theorem ur(fs:List aT)(q:aT):aQ fs++[q.row]=aQ (fs++[q]):=by simp [aQ]
section
variable{J J':aj}{c:C}{fs:List aT}
theorem fo.cC(h:fo J c fs)(b:∀ i y,J[i]?=aa y→eS c=aa i→J'[i]?=aa y):fo J' c fs:=by
 rcases h with⟨p,m,rfl,rfl,h⟩ | ⟨h,d⟩
 ·exact .inl ⟨p,m,rfl,rfl,b m _ h rfl⟩
 ·exact .inr ⟨h,d.cC b⟩
theorem fo.push(h:fo J c fs)(L:aj):fo (J++L) c fs:=h.cC fun i y hy _=>by rw [AT (av hy)];exact hy
theorem fo.len(h:fo J c fs):bM J c=aa fs.length:=by
 rcases h with⟨p,m,rfl,rfl,h⟩ | ⟨h,b⟩
 ·simp [bM,h]
 ·simpa using b.len
theorem fo.aS(h:fo J c fs):∃ m,eS c=aa m∧m<J.length∧∀ cs fl d st,J[m]?≠aa (.bA 1 cs fl d st):=by
 rcases h with⟨p,m,rfl,rfl,h⟩ | ⟨h,⟨j,_⟩ | ⟨_,b,d,rfl,g⟩⟩
 ·exact⟨m,rfl,av h,fun cs fl d st e=>by rw [h]at e;cases e⟩
 ·exact absurd (by simpa [aQ]using j) h
 ·unfold RB at g;exact⟨b,rfl,av g,fun cs fl d st e=>by rw [g]at e;cases e⟩
theorem fo.app(h:fo J c fs)(B:fs.length≤10)(q:aT){b1:Nat}(j:J[b1]?=aa (.box (q.row.map .f) 0)) :
  ∃ l s,bJ J 4 64 (.c c) (.c (.sl b1 0 1 1 0 4))=aa (.c l,s)∧fo s l (fs++[q])∧Kb J s c∧(eS l=eS c∨eS l=aa J.length):=by
 rcases h with⟨p,m,rfl,rfl,h⟩ | ⟨h,A⟩
 ·have d:dC J 4 (.c (.sl b1 0 1 1 0 4))=aa (1,q.row.map .f):=kU j rfl;have b:bB 2 64=ae:=hO (by decide) (by decide);refine⟨.sl J.length 0 2 0 0 4,J++[.bA 4 (p.row.map .f++q.row.map .f) 0 0 .loc],?_,.inr ⟨by simp,.inr ⟨by simp [aQ],J.length,0,rfl,?_⟩⟩,Kb.push _ _ _,.inr rfl⟩
  ·simp [bJ,d,h,b,aT.row]
  ·unfold RB;simp [aQ]
 ·obtain⟨z,y,g,v,u,x⟩:=A.app (bO fs) (by decide) (row:=q.row) rfl (bytes:=64) (hO (by simp;omega) (by decide)) j;exact⟨z,y,g,.inr ⟨by simp,ur fs q▸v⟩,u,x⟩
theorem fo.ex(h:fo J c fs)(n:Nat):dI (n+1) J c=aa (sl .fs (aQ fs)):=by
 rcases h with⟨p,m,rfl,rfl,h⟩ | ⟨h,b⟩
 ·simp [oP,h,aQ,sl,aT.row,aY]
 ·obtain⟨g,e⟩:=b.ex (bO fs) n;rw [e,LO (g':=.fs) (by simpa [aQ]using h)]
end
inductive zG{α β:Type}(R:α→β→Prop):List α→List β→Prop
 | nil:zG R [] []
 | cons {a b l m}:R a b→zG R l m→zG R (a::l) (b::m)
def TL(J:aj)(ct:C)(ts:List (List aT)):Prop:=(ts=[]∧ct=.f .ax) ∨
 (ts≠[]∧∃ b d cs,ct=.sl b 0 ts.length 0 d 1∧J[b]?=aa (.bA 1 cs 0 d .loc)∧zG (fo J) cs ts∧cs.Pairwise (fun a b=>eS a≠eS b))
theorem fJ{g j:Type}{R S:g→j→Prop}:∀ {l:List g} {m:List j},zG R l m→(∀ a b,a ∈ l→R a b→S a b)→zG S l m
 | [],[],_,_=>.nil| a::l,b::m,.cons h t,d=>.cons (d a b acK h) (fJ t fun x y q=>d x y (acM _ q))
theorem gU{b d:Type}{R:b→d→Prop}:∀ {l:List b} {m:List d},zG R l m→l.length=m.length
 | [],[],_=>rfl| _::_,_::_,.cons _ t=>by simp [gU t]
theorem jz{d g:Type}{R:d→g→Prop}:∀ {l:List d} {m:List g},zG R l m→∀ {a b},R a b→zG R (l++[a]) (m++[b])
 | [],[],_,a,b,h=>.cons h .nil| _::_,_::_,.cons h t,a,b,j=>.cons h (jz t j)
theorem ky{j g:Type}{R:j→g→Prop}:∀ {l:List j} {m:List g} {b:g},zG R l (m++[b])→∃ d a,l=d++[a]∧zG R d m∧R a b
 | _,[],b,h=>by
  cases h with
  | cons h t=>cases t;exact⟨[],_,rfl,.nil,h⟩
 | _,y::m,b,h=>by
  cases h with
  | cons h t=>
   obtain⟨d,a,rfl,q,s⟩:=ky t;exact⟨_::d,a,rfl,.cons h q,s⟩
theorem kv{g j:Type}{R:g→j→Prop}:∀ {l:List g} {m:List j},zG R l m→∀ a ∈ l,∃ b,R a b
 | [],[],_,a,h=>by cases h
 | x::_,y::_,.cons h t,a,d=>by
  rcases ac2.1 d with rfl | d
  ·exact⟨y,h⟩
  ·exact kv t a d
section
variable{J J':aj}{ct:C}{ts:List (List aT)}
theorem TL.cC(h:TL J ct ts)(v:∀ i y,J[i]?=aa y→i≠0→i≠1→J'[i]?=aa y)(g:∃ x fl,J[0]?=aa (.box [x] fl))(j:∃ x fl,J[1]?=aa (.box [x] fl)):TL J' ct ts:=by
 obtain⟨H,f0,g⟩:=g;obtain⟨I,F,j⟩:=j;rcases h with h | ⟨h,b,z,cs,rfl,l,B,E⟩
 ·exact .inl h
 ·refine .inr ⟨h,b,z,cs,rfl,v _ _ l (by rintro rfl;rw [g]at l;cases l) (by rintro rfl;rw [j]at l;cases l),fJ B fun c fs _ u=>u.cC fun i y hy q=>v i y hy ?_ ?_,E⟩
  all_goals
   rintro rfl;rcases u with⟨p,m,rfl,rfl,d⟩ | ⟨s,⟨e,_⟩ | ⟨_,m,A,rfl,d⟩⟩
   ·cases q
    first | (rw [g]at d;simp [aT.row]at d) | (rw [j]at d;simp [aT.row]at d)
   ·exact s (by simpa [aQ]using e)
   ·cases q;unfold RB at d
    first | (rw [g]at d;cases d) | (rw [j]at d;cases d)
theorem TL.push(h:TL J ct ts)(L:aj):TL (J++L) ct ts:=by
 rcases h with h | ⟨h,b,g,cs,rfl,d,j,m⟩
 ·exact .inl h
 ·exact .inr ⟨h,b,g,cs,rfl,by rw [AT (av d)];exact d,fJ j fun c fs _ l=>l.push L,m⟩
theorem TL.len(h:TL J ct ts):bM J ct=aa ts.length:=by
 rcases h with⟨rfl,rfl⟩ | ⟨h,b,g,cs,rfl,d,j,l⟩
 ·rfl
 ·simp [bM,d]
theorem ng{d j s:Type}{R:d→j→Prop}{g:d→Option s}{k:j→s}(q:∀ a b,R a b→g a=aa (k b)):∀ {l:List d} {m:List j},zG R l m→aY g l=aa (m.map k)
 | [],[],_=>rfl| _::_,_::_,.cons h t=>by simp only [aY,q _ _ h,ng q t,ac5]
theorem jP:∀ {l:List (List aT)},(l.map fun fs=>[sl .fs (aQ fs)]).flatten=l.map fun fs=>sl .fs (aQ fs)
 | []=>rfl| x::l=>by simp [jP (l:=l)]
theorem TL.ex(h:TL J ct ts)(n:Nat):∃ g,dI (n+2) J ct=aa (sl g (aI (ts.map fun fs=>⟨.fs,fs⟩))):=by
 rcases h with⟨rfl,rfl⟩ | ⟨h,b,s,cs,rfl,l,j,v⟩
 ·exact⟨.nil,rfl⟩
 ·refine⟨.fs,?_⟩;have u:=gU j;have q:=ng (g:=dI (n+1) J) (k:=fun fs=>sl .fs (aQ fs)) (fun c fs m=>m.ex n) j;simp only [oP,l];rw [bf ⟨trivial,trivial,by omega⟩,List.drop_zero,List.take_of_length_le (by omega),q];have d:¬ (aI (ts.map fun fs=>(⟨.fs,fs⟩:dj))).isEmpty=ae:=by simpa [aI]using h
  have e:(aI (ts.map fun fs=>(⟨.fs,fs⟩:dj))).flatten=ts.map fun fs=>sl .fs (aQ fs):=by
   simp only [aI,List.map_map];exact jP
  have el:(aI (ts.map fun fs=>(⟨.fs,fs⟩:dj))).length=ts.length:=by simp
  have es:sl .fs (aI (ts.map fun fs=>(⟨.fs,fs⟩:dj)))=.fs (ts.map fun fs=>sl .fs (aQ fs)) ts.length:=by
   rw [←e,←el];unfold sl;rw [aU d]
  rw [es];rfl
end
structure SI(J:aj)(ct:C)(ts:List (List aT)):Prop where
 res:J[0]?=aa (.box [.f .ax] 0)
 out:J[1]?=aa (.box [ct] 0)
 tl:TL J ct ts
theorem SI.push{J:aj}{ct:C}{ts:List (List aT)}(h:SI J ct ts)(L:aj):SI (J++L) ct ts:=
 ⟨by rw [AT (av h.res)];exact h.res,by rw [AT (av h.out)];exact h.out,h.tl.push L⟩
theorem Au{R:C→C→Prop}{l:List C}{a:C}(h:l.Pairwise R)(d:∀ x ∈ l,R x a):(l++[a]).Pairwise R:=by
 rw [ada];exact⟨h,ac7 _ _,fun x g y b=>by simp at b;subst b;exact d x g⟩
theorem SI.new{J:aj}{ct:C}{ts:List (List aT)}(h:SI J ct ts)(hl:ts.length≤10)(q:aT) :
  ∃ E x,bJ (J++[.box (q.row.map .f) 0]++[.box [.sl J.length 0 1 1 0 4] 0]) 1 24 (.c ct) (.c (.sl (J.length+1) 0 1 1 0 1))=aa (.c E,x)∧gD x (.ptr 1 0 0) [E]=aa (x.set 1 (.box [E] 0))∧SI (x.set 1 (.box [E] 0)) E (ts++[[q]]):=by
 obtain⟨U,s⟩:=bV (J++[.box (q.row.map .f) 0]:aj);obtain⟨l,j⟩:=bV (U++[.box [.sl J.length 0 1 1 0 4] 0]:aj);rw [←s,←j];have l1:U.length=J.length+1:=by rw [s];simp
 have l2:l.length=J.length+2:=by rw [j];simp [l1]
 have v:SI l ct ts:=by rw [j,s];exact(h.push _).push _
 have M:l[J.length]?=aa (.box (q.row.map .f) 0):=by rw [j,AT (by omega),s];simp
 have bx:l[J.length+1]?=aa (.box [.sl J.length 0 1 1 0 4] 0):=by rw [j,←l1];simp
 have z:dC l 1 (.c (.sl (J.length+1) 0 1 1 0 1))=aa (1,[.sl J.length 0 1 1 0 4]):=by simp [dC,bM,cW,bx]
 have g:bB (ts.length+1) 24=ae:=hO (by omega) (by decide);have h0:=av h.res;have h1:=av h.out;rcases v.tl with⟨Y,Z⟩ | ⟨A,b,H,cs,rfl,u,W,hp⟩
 ·subst Y Z;have g:bB 1 24=ae:=hO (by decide) (by decide);refine⟨.sl l.length 0 1 0 0 1,l++[.bA 1 [.sl J.length 0 1 1 0 4] 0 0 .loc],?_,?_,?_,?_,?_⟩
  ·simp [bJ,z,g]
  ·have:(l++[.bA 1 [.sl J.length 0 1 1 0 4] 0 0 .loc])[1]?=aa (.box [.f .ax] 0):=by rw [AT (by omega)];exact v.out
   simp [gD,this,over]
  ·rw [AI (by decide),AT (by omega)];exact v.res
  ·rw [OF (by simp;omega)]
  ·refine .inr ⟨by simp,l.length,0,[.sl J.length 0 1 1 0 4],rfl,?_,.cons (.inl ⟨q,J.length,rfl,rfl,?_⟩) .nil,ac7 _ _⟩
   ·rw [AI (by omega)];simp
   ·rw [AI (by omega),AT (by omega)];exact M
 ·have Q:=gU W;have b1:b≠1:=by rintro rfl;rw [v.out]at u;cases u
  have b0:b≠0:=by rintro rfl;rw [v.res]at u;cases u
  have X:=av u;obtain⟨x,d⟩:=bV (l.set b (.bA 1 (cs++[.sl J.length 0 1 1 0 4]) 0 (H+1) .loc):aj);have O:x[1]?=aa (.box [.sl b 0 ts.length 0 H 1] 0):=by rw [d,AI b1];exact v.out
  have lH:x.length=l.length:=by rw [d];simp
  refine⟨.sl b 0 (ts.length+1) 0 (H+1) 1,x,?_,?_,?_,?_,?_⟩
  ·simp [bJ,z,g,u,Q,d]
  ·simp [gD,O,over]
  ·rw [AI (by decide),d,AI b0];exact v.res
  ·rw [OF (by omega)]
  ·refine .inr ⟨by simp,b,H+1,cs++[.sl J.length 0 1 1 0 4],by simp,?_,jz (fJ W fun c fs hc K=>?_) (.inl ⟨q,J.length,rfl,rfl,?_⟩),Au hp fun c hc=>?_⟩
   ·rw [AI (Ne.symm b1),d,OF X]
   ·obtain⟨m,F,lm,om⟩:=K.aS;refine K.cC fun i y hy L=>?_;rw [F]at L;cases L;have m1:1≠m:=by
     rintro rfl;rcases K with⟨p,m,rfl,rfl,B⟩ | ⟨A,⟨e,_⟩ | ⟨_,m,N,rfl,B⟩⟩
     ·cases F;rw [v.out]at B;simp [aT.row]at B
     ·exact A (by simpa [aQ]using e)
     ·cases F;unfold RB at B;rw [v.out]at B;cases B
    have mb:b≠m:=by rintro rfl;exact om _ _ _ _ u
    rw [AI m1,d,AI mb];exact hy
   ·rw [AI (by omega),d,AI (by rintro rfl;rw [M]at u;cases u)];exact M
   ·have h3:zG (fo J) cs ts:=by
     rcases h.tl with⟨e,_⟩ | ⟨_,b',N,cs',e,I,S,_⟩
     ·exact absurd e A
     ·cases e;have:l[b]?=aa (.bA 1 cs' 0 H .loc):=by rw [j,s,adG,AT (av I)];exact I
      rw [u]at this;cases this;exact S
    obtain⟨fs,K⟩:=kv h3 c hc;obtain⟨m,F,lm,om⟩:=K.aS;rw [F];intro e;cases e;omega
theorem SI.more{J:aj}{ct:C}{ts:List (List aT)}{fs:List aT}(h:SI J ct (ts++[fs]))(hl:fs.length≤10)(q:aT) :
  ∃ b l c,a6 J 1 ab (.c ct) (vi ts.length)=aa (.c (.ptr b ts.length l))∧dz J ab (.c (.ptr b ts.length l))=aa (.c c)∧bM J c=aa fs.length ∧
   ∃ F z,bJ (J++[.box (q.row.map .f) 0]) 4 64 (.c c) (.c (.sl J.length 0 1 1 0 4))=aa (.c F,z)∧a6 z 1 ab (.c ct) (vi ts.length)=aa (.c (.ptr b ts.length l))∧z[1]?=aa (.box [ct] 0) ∧
    ∃ H2,gD z (.ptr b ts.length l) [F]=aa H2∧SI H2 ct (ts++[fs++[q]]):=by
 rcases h.tl with⟨e,_⟩ | ⟨_,b,l,cs,rfl,s,hf,hp⟩
 ·simp at e
 obtain⟨cs',c,rfl,B,Q⟩:=ky hf;have I:=gU B;obtain⟨H,d⟩:=bV (J++[.box (q.row.map .f) 0]:aj);have l1:H.length=J.length+1:=by rw [d];simp
 have k1:SI H (.sl b 0 (ts++[fs]).length 0 l 1) (ts++[fs]):=by rw [d];exact h.push _
 have bq:H[J.length]?=aa (.box (q.row.map .f) 0):=by rw [d];simp
 have W:fo H c fs:=by rw [d];exact Q.push _
 obtain⟨m,N,lm,om⟩:=Q.aS;obtain⟨F,z,A,K,hK,U⟩:=W.app hl q bq;have up:∀ i y,J[i]?=aa y→H[i]?=aa y:=fun i y hy=>by rw [d,AT (av hy)];exact hy
 have x:∀ i y,J[i]?=aa y→i≠m→z[i]?=aa y:=fun i y hy E=>hK.2 i y (up i y hy) (by rw [N];intro e;cases e;exact E rfl);have mb:b≠m:=by rintro rfl;exact om _ _ _ _ s
 have u:=x _ _ s mb;have L:m≠0∧m≠1:=by
  rcases Q with⟨p,Y,rfl,rfl,j⟩ | ⟨E,⟨e,_⟩ | ⟨_,Y,a_,rfl,j⟩⟩
  ·cases N;exact⟨by rintro rfl;rw [h.res]at j;simp [aT.row]at j,by rintro rfl;rw [h.out]at j;simp [aT.row]at j⟩
  ·exact absurd (by simpa [aQ]using e) E
  ·cases N;unfold RB at j;exact⟨(by rintro rfl;rw [h.res]at j;cases j),(by rintro rfl;rw [h.out]at j;cases j)⟩
 have r0:=x _ _ h.res (Ne.symm L.1);have r1:=x _ _ h.out (Ne.symm L.2);have b0:b≠0:=by rintro rfl;rw [h.res]at s;cases s
 have b1:b≠1:=by rintro rfl;rw [h.out]at s;cases s
 obtain⟨Y,S,b6,a8⟩:=K.aS;have Z:b≠Y:=by rintro rfl;exact a8 _ _ _ _ u
 rw [ada]at hp;obtain⟨p1,-,p3⟩:=hp;refine⟨b,l,c,?_,?_,Q.len,F,z,by rw [d]at A;exact A,?_,r1,z.set b (.bA 1 (cs'++[F]) 0 l .loc),?_,?_,?_,?_⟩
 ·simp [a6,fK,s];omega
 ·simp [dz,bo,s,←I,bY]
 ·simp [a6,fK,u];omega
 ·simp [gD,u,over,←I]
 ·rw [AI b0];exact r0
 ·rw [AI b1];simpa using r1
 ·refine .inr ⟨by simp,b,l,cs'++[F],by simp,OF (av u),jz (fJ B fun a f O v=>?_) (K.cC fun i y hy g=>?_),Au p1 fun a O=>?_⟩
  ·obtain⟨k,M,lk,ok⟩:=v.aS;refine v.cC fun i y hy g=>?_;rw [M]at g;cases g;have X:k≠m:=by
    have:=p3 a O c (by simp);rw [M,N]at this;exact fun e=>this (by rw [e])
   rw [AI (by rintro rfl;exact ok _ _ _ _ s)];exact x _ _ hy X
  ·rw [S]at g;cases g;rw [AI Z];exact hy
  ·rcases U with e | e
   ·rw [e];exact p3 a O c (by simp)
   ·obtain⟨f,v⟩:=kv B a O;obtain⟨k,M,lk,ok⟩:=v.aS;rw [e,M];intro e2;cases e2;omega
abbrev Mn:=Tg × List Nat
def Tp(b:Mn):Prop:=b.2.length≤9223372036854775807∧∀ n ∈ b.2,n<256
def cF(l:List Mn):List (List FC):=l.map fun b=>[sl b.1 (cL b.2)]
@[simp] theorem x8 (l:List Mn):(cF l).length=l.length:=by simp [cF]
theorem oO(l:List Mn):bC 1 (cF l):=bC.map fun _=>rfl
theorem Y6{j:Nat}{l:List Mn}(b:j<l.length){H:aj}:dz H ab (.c (.f (.fp (cF l).flatten j)))=aa (.c (.f (sl l[j].1 (cL l[j].2)))):=by
 have:=mZ (H:=H) (rows:=cF l) (j:=j) (sz:=1) (row:=[sl l[j].1 (cL l[j].2)]) (x:=sl l[j].1 (cL l[j].2)) (oO l) (by simp [cF,b]) rfl;simpa using this
theorem UA{j:Nat}{l:List Mn}{g:Tg}(b:j<l.length){H:aj}:a6 H 1 ab (.c (.f (sl g (cF l)))) (vi j)=aa (.c (.f (.fp (cF l).flatten j))):=by
 have:=bW (H:=H) (g:=g) (rows:=cF l) (sz:=1) (k:=.i64) (i:=(j:Int)) (by omega) (by simp;omega);simpa using this
def lQ(ts:List (List aT)):Prop:=ts.length≤3∧∀ fs ∈ ts,fs≠[]∧fs.length≤3∧∀ p ∈ fs,p.eA
theorem lQ.new{ts:List (List aT)}(h:lQ ts)(j:ts.length<3){p:aT}(g:p.eA):lQ (ts++[[p]]):=by
 refine⟨by simp;omega,fun fs b=>?_⟩;rcases acG.1 b with b | b
 ·exact h.2 fs b
 ·simp at b;subst b;exact⟨by simp,by simp,fun q d=>by simp at d;subst d;exact g⟩
theorem lQ.more{ts:List (List aT)}{fs:List aT}(h:lQ (ts++[fs]))(l:fs.length<3){p:aT}(j:p.eA):lQ (ts++[fs++[p]]):=by
 refine⟨by have:=h.1;simpa using this,fun d hg=>?_⟩;rcases acG.1 hg with hg | hg
 ·exact h.2 d (adj _ hg)
 ·simp at hg;subst hg;have g:=(h.2 fs (by simp)).2.2;refine⟨by simp,by simp;omega,fun q b=>?_⟩;rcases acG.1 b with b | b
  ·exact g q b
  ·simp at b;subst b;exact j
theorem lQ.mix{ts:List (List aT)}(h:lQ ts):kF (ts.map fun fs=>⟨.fs,fs⟩)=ae:=by
 have l:=h.1;simp only [kF,BY,decide_eq_true_eq,acN,List.length_map];refine⟨by omega,fun t j=>?_⟩;obtain⟨fs,d,rfl⟩:=adx.1 j;obtain⟨a,b,c⟩:=h.2 fs d;have:=List.length_pos_iff.2 a;simp only [ji,BY,decide_eq_true_eq,acN];exact⟨⟨by omega,by omega⟩,fun p g=>(c p g).1⟩
theorem qK:∀ {l:List aT},(∀ p ∈ l,p.eA)→1≤dX l∧dX l≤12 ^ l.length
 | [],_=>by simp [dX]
 | p::l,h=>by
  obtain⟨b,-,d⟩:=h p acK;have g:=(dQ b).2.2.1;obtain⟨j,m⟩:=qK fun q u=>h q (acM _ u);simp only [dX,adf];have v:=ad8 g j (by decide) (by omega);have s:=ad8 d m (by omega) (by decide);rw [Int.pow_succ,adu];refine⟨by rw [adu];omega,by rw [adu];rw [adu (12 ^ l.length)];exact s⟩
theorem yv{fs:List aT}(d:fs≠[])(g:fs.length≤5)(h:∀ p ∈ fs,p.eA):mz fs:=by
 have u:=List.length_pos_iff.2 d;refine⟨by omega,by omega,fun p b=>⟨(h p b).1,by have:=(h p b).2.2;omega⟩,?_,?_⟩
 ·have j:=(qK h).2;have q:(12:Int) ^ fs.length≤12 ^ 5:=by
   have:fs.length=1∨fs.length=2∨fs.length=3∨fs.length=4∨fs.length=5:=by omega
   rcases this with e | e | e | e | e<;>rw [e]<;>decide
  have s:(12:Int) ^ 5=248832:=by decide
  omega
 ·have:=zt (l:=fs) (m:=8) (by decide) fun p b=>(h p b).2.1;omega
theorem lQ.ok{ts:List (List aT)}(h:lQ ts):rZ (ts.map fun fs=>⟨.fs,fs⟩):=⟨h.mix,fun t g=>by
 obtain⟨fs,d,rfl⟩:=adx.1 g;obtain⟨a,b,c⟩:=h.2 fs d;exact yv a (show fs.length≤5 by omega) c⟩
theorem J4(g:Tg){l:List Mn}(hl:l.length≤9223372036854775807)(hb:∀ b ∈ l,Tp b) :
  ∃ tg ts,lQ ts∧cB tab.get 13 [.c (.f (sl g (cF l)))]=Eq (.a [.f (sl tg (aI (ts.map fun fs=>⟨.fs,fs⟩)))]):=by
 obtain⟨rr,⟨tg,ts,hm,rfl⟩,hp⟩:∃ rr,(∃ tg ts,lQ ts∧rr=.a [.f (sl tg (aI (ts.map fun fs=>⟨.fs,fs⟩)))])∧cB tab.get 13 [.c (.f (sl g (cF l)))] rr:=by
  refine gZ rfl rfl fun Q hQ=>?_;obtain⟨N,hN⟩:=bV (min l.length 9);apply ai;simp;apply ai;simp;refine aq (ai ?_);simp;refine jC N (fun j t J=>∃ ct ts,lQ ts∧SI J ct ts∧t.g 0=.c (.f (sl g (cF l)))∧t.g 2=.c (.ptr 0 0 0)∧t.g 3=.c (.ptr 1 0 0)) (by omega) (by decide) (by simp)
   ⟨.f .ax,[],⟨by simp,by simp⟩,⟨rfl,rfl,.inl ⟨rfl,rfl⟩⟩,by simp,by simp,by simp⟩ ?_ ?_ ?_
  ·rintro j t J L hj ⟨ct,ts,M,k,m,v,d⟩ z hn;by_cases c1:(j:Int)<l.length
   ·simp [z,m,c1];exact hn _ ⟨ct,ts,M,k,by simp [m],by simp [v],by simp [d]⟩ (by simp [z]) (by simp;omega)
   ·simp [z,m,c1];exact hn _ ⟨ct,ts,M,k,by simp [m],by simp [v],by simp [d]⟩ (by simp [z]) (by simp;omega)
  ·rintro j t J hj ⟨ct,ts,M,k,m,v,d⟩ z nx;have Z:j<l.length:=by omega
   obtain⟨bl,bb⟩:=hb _ (acE Z);obtain⟨p,b_,d7⟩:=rE l[j].1 bb bl;have B:cB tab.get 48 [.c (.f (sl l[j].1 (cL l[j].2))),vi 0]=Eq (vi (rj l[j].2 0:Nat)):=sb l[j].1 l[j].2 bb bl 0 (by decide);obtain⟨a,c9⟩:=bV ((rj l[j].2 0:Int));rw [←c9]at B;have ii:=fun H=>UA (g:=g) Z (H:=H);have dd:=fun H=>Y6 Z (H:=H);have c7:=k.tl.len;have a_:dz J ab (.c (.ptr 1 0 0))=aa (.c ct):=by simp [dz,bo,k.out,bY]
   refine aB (ai ?_);simp [d,a_,-aP,c7];apply ai;simp [m,z,ii,dd,d7,aT.row,-aP];obtain⟨E,F⟩:=bV (J++[.box (p.row.map .f) 0]:aj);have k1:SI E ct ts:=by rw [F];exact k.push _
   have l1:E.length=J.length+1:=by rw [F];simp
   have bx:E[J.length]?=aa (.box (p.row.map .f) 0):=by rw [F];simp
   have b6:dz E (aa 4) (.c (.ptr J.length 0 0))=aa (.a [.f (sl p.hg (ints p.head)),.f (fi p.fr),.f (fi p.cU),.f (sl p.cg (ints p.fY))]):=by simp [dz,bo,bx,bY,aT.row]
   have x:dz E ab (.c (.ptr 1 0 0))=aa (.c ct):=by simp [dz,bo,k1.out,bY]
   simp only [aT.row,ac5,ads]at F;rw [←F];have c6:∀ t:T,t.g 0=.c (.f (sl g (cF l)))→t.g 2=.c (.ptr 0 0 0)→t.g 3=.c (.ptr 1 0 0)→t.g 4=vi j→t.g 5=vi ts.length→t.g 6=.c (.ptr J.length 0 0) →
     WP tab.get 13 ab [.code nG,.inBlock 1,.code (oS 4 16 17),.inLoop mu,.inBlock 0,.code kS] ⟨t,[],E⟩ Q:=by
    intro t m v d g4 W g6;apply ai;by_cases h3:ts.length<3
    ·simp [W,show(ts.length:Int)<3 by omega];refine an (by simp) (au (.inl rfl) ?_);obtain⟨c',H',s,a8,hk⟩:=k1.new (by omega) p;simp only [aT.row,ac5,ads]at s;have Y:bJ (E++[.box [.f (sl p.hg (ints p.head)),.f (fi p.fr),.f (fi p.cU),.f (sl p.cg (ints p.fY))] 0,.box [.sl E.length 0 1 1 0 4] 0]) 1 24 (.c ct) (.c (.sl (E.length+1) 0 1 1 0 1))=aa (.c c',H'):=by
      rw [←s,adG];rfl
     simp [d,g6,x,b6,-aP,Y,a8,-bZ];refine az (nx _ _ ⟨c',_,M.new h3 b_,hk,by simp [m],by simp [v],by simp [d]⟩ (by simp [g4]))
    ·simp [W,show¬ (ts.length:Int)<3 by omega];refine bg (by simp) ?_;refine az (nx _ _ ⟨ct,ts,M,k1,by simp [m],by simp [v],by simp [d]⟩ (by simp [g4]))
   have w0:IntKind.i64.wrap 0=0:=by decide
   apply ai;rcases List.eq_nil_or_concat ts with rfl | ⟨q,fs,rfl⟩
   ·simp;refine aD (by simp) ?_;exact c6 _ (by simp [m]) (by simp [v]) (by simp [d]) (by simp [z]) (by simp) (by simp)
   rw [List.concat_eq_append]at *;have c8:=M.1;simp at c8;have h3:=(M.2 fs (by simp)).2.1;obtain⟨b,ep,c,O,A,u,c',H',s,c4,b9,H2,a8,k2⟩:=k1.more (by omega) p;simp only [aT.row,ac5,ads]at s;have U:IntKind.i64.wrap (q.length:Int)=q.length:=aK;have d8:dz H' ab (.c (.ptr 1 0 0))=aa (.c ct):=by simp [dz,bo,b9,bY]
   have b7:(V.c ct).beq (.c ct)=ae:=by
    rcases k1.tl with⟨e,_⟩ | ⟨_,b,ep,cs,rfl,_⟩
    ·simp at e
    ·simp [V.beq,C.beq]
   have S:∀ t:T,fs.length<3→t.g 0=.c (.f (sl g (cF l)))→t.g 2=.c (.ptr 0 0 0)→t.g 3=.c (.ptr 1 0 0)→t.g 4=vi j→t.g 5=vi ((q.length:Int)+1)→t.g 6=.c (.ptr J.length 0 0) →
     WP tab.get 13 ab [.code rS,.inBlock 1,.code (oS 4 16 17),.inLoop mu,.inBlock 0,.code kS] ⟨t,[],E⟩ Q:=by
    intro t h3 m v d g4 W g6;refine qq (.inl rfl) ?_ ?_
    case refine_2=>
     intro c d5;have c_:c=(1,14):=by simpa using d5
     subst c_;refine⟨by decide,_,rfl,.inl ⟨by decide,?_⟩⟩;simp [d,W,g6,x,b6,O,A,U,s,c4,d8,oL,-aP];exact b7
    simp [d,W,g6,x,b6,O,A,U,s,c4,a8,-aP,-bZ];refine az (nx _ _ ⟨ct,_,M.more h3 b_,k2,by simp [m],by simp [v],by simp [d]⟩ (by simp [g4]))
   have K:∀ t:T,t.g 0=.c (.f (sl g (cF l)))→t.g 2=.c (.ptr 0 0 0)→t.g 3=.c (.ptr 1 0 0)→t.g 4=vi j→t.g 5=vi ((q.length:Int)+1)→t.g 6=.c (.ptr J.length 0 0) →
     WP tab.get 13 ab [.code nG,.inBlock 1,.code (oS 4 16 17),.inLoop mu,.inBlock 0,.code kS] ⟨t,[],E⟩ Q:=fun t m v d g4 W g6=>c6 t m v d g4 (by rw [W];simp) g6
   by_cases I:a<128
   ·by_cases X:fs.length<3
    ·simp [m,d,z,ii,dd,B,I,x,-aP,U,O,A,u,show(fs.length:Int)<3 by omega,show(0:Int)<(q.length:Int)+1 by omega];refine an (by simp) ?_;exact S _ X (by simp [m]) (by simp [v]) (by simp [d]) (by simp [z]) (by simp) (by simp)
    ·simp [m,d,z,ii,dd,B,I,x,-aP,U,O,A,u,show¬ (fs.length:Int)<3 by omega,show(0:Int)<(q.length:Int)+1 by omega];refine aD (by simp) ?_;exact K _ (by simp [m]) (by simp [v]) (by simp [d]) (by simp [z]) (by simp) (by simp)
   ·by_cases h4:(q.length:Int)+1=3
    ·by_cases X:fs.length<3
     ·simp [m,d,z,ii,dd,B,I,x,-aP,U,O,A,u,show(fs.length:Int)<3 by omega,show(0:Int)<(q.length:Int)+1 by omega];rw [decide_eq_true h4];simp [d,x,-aP,U,O,A,u,show(fs.length:Int)<3 by omega];refine an (by simp) ?_;exact S _ X (by simp [m]) (by simp [v]) (by simp [d]) (by simp [z]) (by simp) (by simp)
     ·simp [m,d,z,ii,dd,B,I,x,-aP,U,O,A,u,show¬ (fs.length:Int)<3 by omega,show(0:Int)<(q.length:Int)+1 by omega];rw [decide_eq_true h4];simp [d,x,-aP,U,O,A,u,show¬ (fs.length:Int)<3 by omega];refine aD (by simp) ?_;exact K _ (by simp [m]) (by simp [v]) (by simp [d]) (by simp [z]) (by simp) (by simp)
    ·simp [m,d,z,ii,dd,B,I,h4,show(0:Int)<(q.length:Int)+1 by omega];refine aD (by simp) ?_;exact K _ (by simp [m]) (by simp [v]) (by simp [d]) (by simp [z]) (by simp) (by simp)
  rintro t J ⟨ct,ts,M,k,m,v,d⟩ z;have h0:=av k.res;have a_:dz J (aa 1) (.c (.ptr 1 0 0))=aa (.a [ct]):=by simp [dz,bo,k.out,bY]
  have d9:gD J (.ptr 0 0 0) [ct]=aa (J.set 0 (.box [ct] 0)):=by simp [gD,k.res,over]
  apply ai;simp [v,d,a_,d9,-aP,-bZ];have kl:TL (J.set 0 (.box [ct] 0)) ct ts:=k.tl.cC (fun i y hy hi _=>by rw [AI (Ne.symm hi)];exact hy) ⟨_,_,k.res⟩ ⟨_,_,k.out⟩;obtain⟨tg,d6⟩:=kl.ex 62;refine aG (hQ _ _ _ ⟨tg,_,M,rfl⟩ ⟨rfl,.a [ct],?_,?_⟩)
  ·simp [Km.results,cD,aY,v,h0,bY]
  ·simp [nE,db,aY,deep,d6]
 exact⟨tg,ts,hm,hp.eq⟩
def fP(l:List Nat):List (List FC):=l.map fun n:Nat=>[.int .u16 (n:Int)]
@[simp] theorem Xv (l:List Nat):(fP l).length=l.length:=by simp [fP]
theorem zv(l:List Nat):bC 1 (fP l):=bC.map fun _=>rfl
theorem JV{j:Nat}{l:List Nat}(b:j<l.length){H:aj}:dz H ab (.c (.f (.fp (fP l).flatten j)))=aa (.c (.f (.int .u16 l[j]))):=by
 have:=mZ (H:=H) (rows:=fP l) (j:=j) (sz:=1) (row:=[.int .u16 l[j]]) (x:=.int .u16 l[j]) (zv l) (by simp [fP,b]) rfl;simpa using this
theorem CH{j:Nat}{l:List Nat}{g:Tg}(b:j<l.length){H:aj}:a6 H 1 ab (.c (.f (sl g (fP l)))) (vi j)=aa (.c (.f (.fp (fP l).flatten j))):=by
 have:=bW (H:=H) (g:=g) (rows:=fP l) (sz:=1) (k:=.i64) (i:=(j:Int)) (by omega) (by simp;omega);simpa using this
theorem WU{H:aj}{sz:Nat}{g:Tg}{rows:List (List FC)}{k m:Nat}(s:bC sz rows)(I:k≤m)(J:m≤rows.length)(F:rows≠[]) :
  dL H sz (.c (.f (sl g rows))) (aa (vi k)) (aa (vi m)) ab=aa (.c (.f (sl .fs ((rows.take m).drop k)))):=by
 cases rows with
 | nil=>exact absurd rfl F
 | cons x r=>
  have B:uQ (vi k) m=aa k:=by
   have:(0:Int)≤(k:Int)∧(k:Int)≤(m:Int):=⟨by omega,by omega⟩
   show(if(0:Int)≤(k:Int)∧(k:Int)≤(m:Int)then aa (k:Int).toNat else ab)=aa k;rw [bf this,adq]
  have b:uQ (vi m) (x::r).length=aa m:=by
   have:(0:Int)≤(m:Int)∧(m:Int)≤((x::r).length:Int):=⟨by omega,by omega⟩
   show(if(0:Int)≤(m:Int)∧(m:Int)≤((x::r).length:Int)then aa (m:Int).toNat else ab)=aa m;rw [bf this,adq]
  have l:bw (x::r).length (x::r).length (aa (vi k)) (aa (vi m)) ab=aa (k,m,(x::r).length):=by
   simp only [adf]at b;simp [bw,B,b]
  show dL H sz (.c (.f (.fs (x::r).flatten (x::r).length))) _ _ _=_;simp only [dL,l];have v:bC sz ((x::r).take m):=fun y j=>s y (List.mem_of_mem_take j);have E:bC sz (((x::r).take m).drop k):=fun y j=>v y (aea j);have d:(((x::r).take m).drop k).length=m-k:=by rw [List.length_drop,List.length_take];omega
  have z:((x::r).flatten.drop (k*sz)).take ((m-k)*sz)=(((x::r).take m).drop k).flatten:=by
   rw [nQ k s];have e:(((x::r).take m).drop k)=((x::r).drop k).take (m-k):=by rw [List.drop_take]
   rw [e];have u:bC sz ((x::r).drop k):=fun y j=>s y (aea j);rw [oH (m-k) u]
  rw [z];have A:sl .fs (((x::r).take m).drop k)=.fs (((x::r).take m).drop k).flatten (m-k):=by
   cases hd:((x::r).take m).drop k with
   | nil=>rw [hd]at d;simp at d;rw [←d];rfl| cons y q=>rw [hd]at d;rw [←d];rfl
  rw [A];simp
structure mD where
 dg:Tg
 ds:List Mn
 mg:Tg
 ms:List Nat
 len:Nat
 eg:Tg
 ex:List Nat
def mD.row(x:mD):List FC:=[sl x.dg (cF x.ds),sl x.mg (cL x.ms),u8 x.len,sl x.eg (fP x.ex)]
structure mD.OK(x:mD):Prop where
 dl:x.ds.length≤9223372036854775807
 d:∀ b ∈ x.ds,Tp b
 ml:x.ms.length≤9223372036854775807
 m:∀ n ∈ x.ms,n<256
 l:x.len<256
 el:x.ex.length≤9223372036854775807
 e:∀ n ∈ x.ex,n<65536
def Jt(d:Tg)(ts:List (List aT))(b:Int):bU:=⟨d,ts.map fun fs=>⟨.fs,fs⟩,b⟩
structure pL(cs:List bU)(j:Nat)(mi:Int):Prop where
 n:cs.length≤j
 lo:-1500≤mi
 ok:∀ c ∈ cs,(∃ tg ts,lQ ts∧c=Jt tg ts c.min)∧-1500<c.min∧c.min≤4320∧c.min≤mi
 up:cs.Pairwise fun a b=>a.min<b.min
theorem pL.skip{cs:List bU}{j:Nat}{mi b:Int}(h:pL cs j mi)(d:mi≤b):pL cs (j+1) b:=
 ⟨by have:=h.n;omega,by have:=h.lo;omega,fun c hc=>by have:=h.ok c hc;exact⟨this.1,this.2.1,this.2.2.1,by omega⟩,h.up⟩
theorem pL.more{cs:List bU}{j:Nat}{mi d:Int}(h:pL cs j mi)(s:mi<d)(g:d≤4320){tg:Tg}{ts:List (List aT)}(q:lQ ts):pL (cs++[Jt tg ts d]) (j+1) d:=by
 refine⟨by have:=h.n;simp;omega,by have:=h.lo;omega,fun c hc=>?_,?_⟩
 ·rcases acG.1 hc with hc | hc
  ·have:=h.ok c hc;exact⟨this.1,this.2.1,this.2.2.1,by omega⟩
  ·rw [acF.1 hc];have:=h.lo;exact⟨⟨tg,ts,q,rfl⟩,by show -1500<d;omega,g,Int.le_refl _⟩
 ·rw [ada];refine⟨h.up,ac7 _ _,fun a l b m=>?_⟩;rw [acF.1 m];have:=(h.ok a l).2.2.2;show a.min<d;omega
theorem pL.Pg{cs:List bU}{j:Nat}{mi:Int}(h:pL cs j mi):cQ ab cs=ae∧∀ c ∈ cs,rZ c.ts:=by
 have g:∀ c ∈ cs,rZ c.ts:=fun c hc=>by
  obtain⟨⟨tg,ts,z,e⟩,-⟩:=h.ok c hc;rw [e];exact z.ok
 refine⟨?_,g⟩;have key:∀(l:List bU) (o:Option Int),l.Pairwise (fun a b=>a.min<b.min)→(∀ c ∈ l,kF c.ts=ae∧-4320≤c.min∧c.min≤4320)→(∀ m,o=aa m→∀ c ∈ l,m<c.min)→cQ o l=ae:=by
  intro l;induction l with
  | nil=>intros;rfl
  | cons c l B=>
   intro o q hc ho;rw [adw]at q;obtain⟨u,v,x⟩:=hc c acK;have y:(o.all fun m=>decide (m<c.min))=ae:=by
    cases o with
    | none=>rfl| some m=>simpa using ho m rfl c acK
   have A:bR c.min (-4320) 4320=ae:=by simp [bR,v,x]
   simp only [cQ,u,A,y,adl];exact B _ q.2 (fun c d=>hc c (acM _ d)) fun m g s d=>by cases g;exact q.1 s d
 exact key cs ab h.up (fun c hc=>⟨(g c hc).v,by have:=h.ok c hc;omega,by have:=h.ok c hc;omega⟩) (by simp)
structure ExP(xs:List aC)(j:Nat):Prop where
 n:xs.length≤j
 up:xs.Pairwise aC.lt
 ok:∀ x ∈ xs,0≤x.day∧x.day≤7∧-2880≤x.fr∧x.fr≤90000∧x.fr<x.to∧x.to≤x.fr+2000
theorem ExP.extra{xs:List aC}{j:Nat}(h:ExP xs j):dV ab xs=ae:=by
 have key:∀(l:List aC) (o:Option aC),l.Pairwise aC.lt→(∀ x ∈ l,0≤x.day∧x.day≤7∧-2880≤x.fr∧x.fr≤90000∧x.fr<x.to∧x.to≤x.fr+2000)→(∀ m,o=aa m→∀ x ∈ l,m.lt x)→dV o l=ae:=by
  intro l;induction l with
  | nil=>intros;rfl
  | cons c l v=>
   intro o d hc ho;rw [adw]at d;obtain⟨y,z,A,B,E,F⟩:=hc c acK;have s:(o.all fun m=>decide (jb m c<0))=ae:=by
    cases o with
    | none=>rfl
    | some m=>
     have:=(gJ _ _).2 (ho m rfl c acK);simp [this]
   have u:iW c=ae:=by simp [iW,bR];omega
   simp only [dV,u,s,adl];exact v _ d.2 (fun c b=>hc c (acM _ b)) fun m q g b=>by cases q;exact d.1 g b
 exact key xs ab h.up h.ok (by simp)
theorem zu{g u:Tg}{cs:List bU}{s len:Int}{xs:List aC}(b:pL cs 3 s)(d:ExP xs 4)(v:1≤len)(x:len≤10080):fG ⟨g,cs,len,u,xs⟩:=by
 have j:=b.n;have l:=d.n;obtain⟨m,q⟩:=b.Pg;refine⟨?_,j,q,l⟩;unfold ei;simp only [m,d.extra];simp [bR];omega
theorem eight(i:Nat)(h:i<8):∃(len:Int) (rest:List C),[C.f (fi 30),C.f (fi 60),C.f (fi 90),C.f (fi 600),C.f (fi 1440),C.f (fi 1500),C.f (fi 3000),C.f (fi 10080)].drop i=C.f (fi len)::rest∧1≤len∧len≤10080:=by
 match i,h with
 | 0,_=>exact⟨_,_,rfl,by omega,by omega⟩
 | 1,_=>exact⟨_,_,rfl,by omega,by omega⟩
 | 2,_=>exact⟨_,_,rfl,by omega,by omega⟩
 | 3,_=>exact⟨_,_,rfl,by omega,by omega⟩
 | 4,_=>exact⟨_,_,rfl,by omega,by omega⟩
 | 5,_=>exact⟨_,_,rfl,by omega,by omega⟩
 | 6,_=>exact⟨_,_,rfl,by omega,by omega⟩
 | 7,_=>exact⟨_,_,rfl,by omega,by omega⟩
structure SM(x:mD)(len:Int)(J:aj)(cc:C)(cs:List bU)(xc:FC):Prop where
 raw:J[0]?=aa (.box [.f (sl x.dg (cF x.ds)),.f (sl x.mg (cL x.ms)),.f (u8 x.len),.f (sl x.eg (fP x.ex))] 0)
 res:J[1]?=aa (.box [.f .ax,.f (fi 0),.f .ax] 0)
 st:J[3]?=aa (.box [cc,.f (fi len),.f xc] 0)
 lr:LR J cc 2 (aM cs)
theorem SM.push{x:mD}{len:Int}{J:aj}{cc:C}{cs:List bU}{xc:FC}(h:SM x len J cc cs xc)(L:aj):SM x len (J++L) cc cs xc:=
 ⟨by rw [AT (av h.raw)];exact h.raw,by rw [AT (av h.res)];exact h.res,by rw [AT (av h.st)];exact h.st,h.lr.push L⟩
section
variable{x:mD}{len:Int}{J:aj}{cc:C}{cs:List bU}{xc:FC}
theorem Z'(h:J[0]?=aa (.box [.f (sl x.dg (cF x.ds)),.f (sl x.mg (cL x.ms)),.f (u8 x.len),.f (sl x.eg (fP x.ex))] 0)):dz J ab (.c (.ptr 0 0 0))=aa (.c (.f (sl x.dg (cF x.ds)))):=by simp [dz,bo,h]
theorem Z_(h:J[0]?=aa (.box [.f (sl x.dg (cF x.ds)),.f (sl x.mg (cL x.ms)),.f (u8 x.len),.f (sl x.eg (fP x.ex))] 0)):dz J ab (.c (.ptr 0 1 0))=aa (.c (.f (sl x.mg (cL x.ms)))):=by simp [dz,bo,h]
theorem abM(h:J[0]?=aa (.box [.f (sl x.dg (cF x.ds)),.f (sl x.mg (cL x.ms)),.f (u8 x.len),.f (sl x.eg (fP x.ex))] 0)):dz J ab (.c (.ptr 0 2 0))=aa (.c (.f (u8 x.len))):=by simp [dz,bo,h]
theorem aaa(h:J[0]?=aa (.box [.f (sl x.dg (cF x.ds)),.f (sl x.mg (cL x.ms)),.f (u8 x.len),.f (sl x.eg (fP x.ex))] 0)):dz J ab (.c (.ptr 0 3 0))=aa (.c (.f (sl x.eg (fP x.ex)))):=by simp [dz,bo,h]
theorem SM.cls(h:SM x len J cc cs xc):dz J ab (.c (.ptr 3 0 0))=aa (.c cc):=by simp [dz,bo,h.st]
theorem SM.ext(h:SM x len J cc cs xc):dz J ab (.c (.ptr 3 2 0))=aa (.c (.f xc)):=by simp [dz,bo,h.st]
theorem SM.all(h:SM x len J cc cs xc):dz J (aa 3) (.c (.ptr 3 0 0))=aa (.a [cc,.f (fi len),.f xc]):=by simp [dz,bo,h.st,bY]
theorem SM.stx(h:SM x len J cc cs xc)(y:FC):gD J (.ptr 3 2 0) [.f y]=aa (J.set 3 (.box [cc,.f (fi len),.f y] 0))∧SM x len (J.set 3 (.box [cc,.f (fi len),.f y] 0)) cc cs y:=by
 refine⟨by simp [gD,h.st,over],?_,?_,OF (av h.st),h.lr.set (h.lr.fU h.st) _⟩
 ·rw [AI (by decide)];exact h.raw
 ·rw [AI (by decide)];exact h.res
theorem p_(cs:List bU)(c:bU):aM cs++[c.row]=aM (cs++[c]):=by simp [aM]
theorem SM.app(h:SM x len J cc cs xc)(z:cs.length≤100)(c:bU):∃ g d,bJ (J++[.box (c.row.map .f) 0]) 2 32 (.c cc) (.c (.sl J.length 0 1 1 0 2))=aa (.c g,d)∧gD d (.ptr 3 0 0) [g]=aa (d.set 3 (.box [g,.f (fi len),.f xc] 0)) ∧
  SM x len (d.set 3 (.box [g,.f (fi len),.f xc] 0)) g (cs++[c]) xc:=by
 obtain⟨s,j⟩:=bV (J++[.box (c.row.map .f) 0]:aj);have q:SM x len s cc cs xc:=by rw [j];exact h.push _
 have v:s[J.length]?=aa (.box (c.row.map .f) 0):=by rw [j];simp
 obtain⟨g,d,b,l,u,y⟩:=q.lr.app (da cs) (by decide) (row:=c.row) rfl (bytes:=32) (hO (by simp;omega) (by decide)) v;rw [p_]at l;have up:∀(i:Nat) (cs:List C) (fl:Nat),s[i]?=aa (.box cs fl)→d[i]?=aa (.box cs fl):=fun i cs fl hy=>u.2 i _ hy (q.lr.fU hy);have m:=up _ _ _ q.st;rw [j]at b;refine⟨g,d,b,by simp [gD,m,over],?_,?_,OF (av m),l.set (l.fU m) _⟩
 ·rw [AI (by decide)];exact up _ _ _ q.raw
 ·rw [AI (by decide)];exact up _ _ _ q.res
end
theorem CU(x:mD)(hx:x.OK):∃ s:bF,fG s∧cB tab.get 2 [.a (x.row.map .f)]=Eq (.a (s.row.map .f)):=by
 obtain⟨rr,⟨s,hs,rfl⟩,hp⟩:∃ rr,(∃ s:bF,fG s∧rr=.a (s.row.map .f))∧cB tab.get 2 [.a (x.row.map .f)] rr:=by
  refine gZ rfl rfl fun Q hQ=>?_;have h_:=hx.l;obtain⟨len,rest,c,l1,l2⟩:=eight (x.len % 8) (by omega);have d7:bt .rem (.c (.f (u8 x.len))) (.c (.f (.int .u8 8)))=aa (.c (.f (u8 (x.len % 8)))):=by
   have:((x.len:Int)).tmod 8=((x.len % 8:Nat):Int):=by rw [adp (by omega)];omega
   simp [bt,hV,V.int,this]
  have a_:∀ H:aj,H[2]?=aa (.box [C.f (fi 30),C.f (fi 60),C.f (fi 90),C.f (fi 600),C.f (fi 1440),C.f (fi 1500),C.f (fi 3000),C.f (fi 10080)] 0)→a6 H 1 ab (.c (.sl 2 0 8 8 0 1)) (.c (.f (u8 (x.len % 8))))=aa (.c (.ptr 2 (x.len % 8) 0)):=fun H h=>by
   simp [a6,fK,h];omega
  have b6:∀ H:aj,H[2]?=aa (.box [C.f (fi 30),C.f (fi 60),C.f (fi 90),C.f (fi 600),C.f (fi 1440),C.f (fi 1500),C.f (fi 3000),C.f (fi 10080)] 0)→dz H ab (.c (.ptr 2 (x.len % 8) 0))=aa (vi len):=fun H h=>by
   simp only [dz,bo,h,Option.bind_some,c];rfl
  apply ai;simp [mD.row];apply ai;have d6:=fun(H:aj) h=>abM (x:=x) (J:=H) h;simp [d6,d7,a_,b6,-aP];apply ai;simp;have dl:=hx.dl;have ml:=hx.ml;have el:=hx.el;have S:∀(t:T) (J:aj) (cc:C) (cs:List bU) (A:Int),t.g 1=.c (.ptr 0 0 0)→t.g 2=.c (.ptr 1 0 0)→t.g 3=.c (.ptr 3 0 0)→SM x len J cc cs .ax→pL cs 3 A→WP tab.get 2 ab [.code rW] ⟨t,[],J⟩ Q:=by
   intro t J cc cs A d z v q E;obtain⟨N,hN⟩:=bV (min x.ex.length 4);refine aq (ai ?_);simp;refine jC N (fun j t J=>t.g 1=.c (.ptr 0 0 0)∧t.g 2=.c (.ptr 1 0 0)∧t.g 3=.c (.ptr 3 0 0)∧∃ B xs,SM x len J cc cs (sl B (ay xs))∧ExP xs j) (by omega) (by decide) (by simp)
    ⟨by simp [d],by simp [z],by simp [v],.nil,[],q,⟨by simp,by simp,by simp⟩⟩ ?_ ?_ ?_
   ·rintro j t J L hj ⟨d,z,v,B,xs,q,I⟩ u w;have r3:=aaa q.raw;by_cases Y:(j:Int)<x.ex.length
    ·simp [u,d,r3,-aP,Y];exact w _ ⟨by simp [d],by simp [z],by simp [v],B,xs,q,I⟩ (by simp [u]) (by simp;omega)
    ·simp [u,d,r3,-aP,Y];exact w _ ⟨by simp [d],by simp [z],by simp [v],B,xs,q,I⟩ (by simp [u]) (by simp;omega)
   ·rintro j t J hj ⟨d,z,v,B,xs,q,I⟩ u nx;have f:j<x.ex.length:=by omega
    have r3:=aaa q.raw;have rx:=q.ext;have ii:=fun H=>CH (g:=x.eg) f (H:=H);have dd:=fun H=>JV f (H:=H);obtain⟨n,w⟩:=bV (x.ex[j]);have g_:n<65536:=w▸hx.e _ (acE f);rw [←w]at dd;have q1:bt .rem (.c (.f (.int .u16 (n:Int)))) (.c (.f (.int .u16 5760)))=aa (.c (.f (.int .u16 ((n:Int) % 5760)))):=by
     have:(n:Int).tmod 5760=(n:Int) % 5760:=adp (by omega);simp [bt,hV,V.int,this]
    have q2:bt .rem (vi n) (vi 7)=aa (vi ((n:Int) % 7)):=kO (by omega) (by decide);have q3:bt .quo (vi n) (vi 5760)=aa (vi ((n:Int) / 5760)):=kJ (by omega) (by decide) (by omega);obtain⟨fr,c8⟩:=bV (15*((n:Int) % 5760)-2880);obtain⟨to,d_⟩:=bV (fr+15*(1+(n:Int) / 5760*7));obtain⟨b9,b_,f8,⟨d5,c9⟩,X⟩:=CJ B xs ⟨(n:Int) % 7,fr,to⟩ (by have:=I.n;omega) I.up;simp only [aC.row,ac5,ads]at X;obtain⟨f4,Z⟩:=q.stx (sl b9 (ay b_));refine aB (ai ?_);simp [u,d,r3,-aP,ii,dd,q1,aK (n:=(n:Int) % 5760),aK (n:=15*((n:Int) % 5760)),←c8,aK (n:=fr)];refine au (.inl rfl) ?_;simp [u,d,v,r3,rx,-aP,ii,dd,aK (n:=(n:Int)),q2,q3,aK (n:=(n:Int) / 5760*7),aK (n:=1+(n:Int) / 5760*7),aK (n:=15*(1+(n:Int) / 5760*7)),←d_,aK (n:=to),X,f4,-bZ];refine az (nx _ _ ⟨by simp [d],by simp [z],by simp [v],b9,b_,Z,?_⟩ (by simp [u]));refine⟨by have:=I.n;omega,d5,fun y hy=>?_⟩;rcases(c9 y).1 hy with rfl | hy
    ·show 0≤(n:Int) % 7∧(n:Int) % 7≤7∧-2880≤fr∧fr≤90000∧fr<to∧to≤fr+2000;omega
    ·exact I.ok y hy
   rintro t J ⟨d,z,v,B,xs,q,I⟩ u;have ra:=q.all;have s1:gD J (.ptr 1 0 0) [cc,.f (fi len),.f (sl B (ay xs))]=aa (J.set 1 (.box [cc,.f (fi len),.f (sl B (ay xs))] 0)):=by simp [gD,q.res,over]
   have n1:(J.set 1 (.box [cc,.f (fi len),.f (sl B (ay xs))] 0))[1]?=aa (.box [cc,.f (fi len),.f (sl B (ay xs))] 0):=OF (av q.res);obtain⟨cg,c7⟩:=q.lr.exU (da cs);have e1:=c7 (J.set 1 (.box [cc,.f (fi len),.f (sl B (ay xs))] 0)) 63 fun i y hi he=>by
    rw [AI (by rintro rfl;exact q.lr.fU q.res he)];exact hi
   apply ai;simp [z,v,ra,s1,-aP,-bZ];refine aG (hQ _ _ _ ⟨⟨cg,cs,len,B,xs⟩,zu E ⟨by have:=I.n;omega,I.up,I.ok⟩ l1 l2,rfl⟩ ⟨rfl,.a [cc,.f (fi len),.f (sl B (ay xs))],?_,?_⟩)
   ·simp [Km.results,cD,aY,z,n1,bY]
   ·simp [nE,db,aY,deep,e1,bF.row]
  obtain⟨N,hN⟩:=bV (min (min x.ms.length 3) x.ds.length);refine aq (ai ?_);simp;refine jC N (fun j t J=>t.g 1=.c (.ptr 0 0 0)∧t.g 2=.c (.ptr 1 0 0)∧t.g 3=.c (.ptr 3 0 0)∧∃ cc cs A,t.g 4=vi A∧SM x len J cc cs .ax∧pL cs j A∧A≤-1500+4000*(j:Int)) (by omega) (by decide) (by simp)
   ⟨by simp,by simp,by simp,.f .ax,[],-1500,by simp,⟨rfl,rfl,rfl,LR.nil _ _⟩,⟨by simp,by omega,by simp,by simp⟩,by omega⟩ ?_ ?_ ?_
  ·rintro j t J L hj ⟨d,z,v,cc,cs,A,M,q,E,r⟩ u w;have r0:=Z' q.raw;have r1:=Z_ q.raw;have K:∀ U:T,U.g 1=.c (.ptr 0 0 0)→U.g 2=.c (.ptr 1 0 0)→U.g 3=.c (.ptr 3 0 0)→U.g 4=vi A→U.g 5=vi j→U.g 31=vb (decide ((j:Int)<(N:Int)))→L ⟨U,[],J⟩:=fun U d z v M g5 c4=>w U ⟨d,z,v,cc,cs,A,M,q,E,r⟩ g5 c4;by_cases Y:(j:Int)<x.ms.length
   ·by_cases c2:(j:Int)<3
    ·by_cases c3:(j:Int)<x.ds.length
     ·simp [u,d,r0,r1,-aP,Y,c2,c3];exact K _ (by simp [d]) (by simp [z]) (by simp [v]) (by simp [M]) (by simp [u]) (by simp;omega)
     ·simp [u,d,r0,r1,-aP,Y,c2,c3];exact K _ (by simp [d]) (by simp [z]) (by simp [v]) (by simp [M]) (by simp [u]) (by simp;omega)
    ·simp [u,d,r0,r1,-aP,Y,c2];exact K _ (by simp [d]) (by simp [z]) (by simp [v]) (by simp [M]) (by simp [u]) (by simp;omega)
   ·simp [u,d,r0,r1,-aP,Y];exact K _ (by simp [d]) (by simp [z]) (by simp [v]) (by simp [M]) (by simp [u]) (by simp;omega)
  ·rintro j t J hj ⟨d,z,v,cc,cs,A,M,q,E,r⟩ u nx;have o:j<x.ms.length:=by omega
   have f7:j<x.ds.length:=by omega
   have r0:=Z' q.raw;have r1:=Z_ q.raw;have ii:=fun H=>sy (g:=x.mg) o (H:=H);have dd:=fun H=>v8 o (H:=H);obtain⟨m,hm⟩:=bV (x.ms[j]);have f_:m<256:=hm▸hx.m _ (acE o);rw [←hm]at dd;have f9:=E.lo;obtain⟨F,b7⟩:=bV (A+1+15*(m:Int));obtain⟨e,he⟩:=bV (min (j+2) x.ds.length);have c_:min ((j:Int)+2) (x.ds.length:Int)=(e:Int):=by omega
   have W:=fun H:aj=>WU (H:=H) (sz:=1) (g:=x.dg) (rows:=cF x.ds) (k:=j) (m:=e) (oO _) (by omega) (by simp;omega) (fun h=>by have:=congrArg List.length h;rw [x8,List.length_nil]at this;omega);have d8:((cF x.ds).take e).drop j=cF ((x.ds.take e).drop j):=by simp [cF,List.map_take,List.map_drop]
   rw [d8]at W;obtain⟨tg,ts,hT,p⟩:=J4 .fs (l:=(x.ds.take e).drop j) (by simp;omega) fun b hb=>hx.d b (List.mem_of_mem_take (aea hb));refine aB (ai ?_);simp [u,d,M,r1,-aP,ii,dd,aK (n:=A+1),aK (n:=(m:Int)),aK (n:=15*(m:Int)),←b7,aK (n:=F)];apply ai;simp [u,d,r0,-aP,aK (n:=(j:Int)+2),c_,W,p];have O:=q.push [.box [.f (sl tg (aI (ts.map fun fs=>⟨.fs,fs⟩)))] 0];have bx:(J++[bK.box [.f (sl tg (aI (ts.map fun fs=>⟨.fs,fs⟩)))] 0])[J.length]?=aa (.box [.f (sl tg (aI (ts.map fun fs=>⟨.fs,fs⟩)))] 0):=by simp
   obtain⟨J1,c6⟩:=bV (J++[bK.box [.f (sl tg (aI (ts.map fun fs=>⟨.fs,fs⟩)))] 0]:aj);rw [←c6]at O bx ⊢;have e_:dz J1 (aa 1) (.c (.ptr J.length 0 0))=aa (.a [.f (sl tg (aI (ts.map fun fs=>⟨.fs,fs⟩)))]):=by simp [dz,bo,bx,bY]
   apply ai;by_cases k:F≤4320
   ·simp [k];obtain⟨c3,H3,a8,d9,Z⟩:=O.app (by have:=E.n;omega) (Jt tg ts F);have a:bJ (J1++[.box [.f (sl tg (aI (ts.map fun fs=>⟨.fs,fs⟩))),.f (fi F)] 0]) 2 32 (.c cc) (.c (.sl J1.length 0 1 1 0 2))=aa (.c c3,H3):=a8;have rc:=O.cls;refine an (by simp) (au (.inl rfl) ?_);simp [v,rc,e_,a,d9,-aP,-bZ];refine az (nx _ _ ⟨by simp [d],by simp [z],by simp [v],c3,_,F,by simp,Z,E.more (by omega) k hT,by omega⟩ (by simp [u]))
   ·simp [k];refine bg (by simp) ?_;refine az (nx _ _ ⟨by simp [d],by simp [z],by simp [v],cc,cs,F,by simp,O,E.skip (by omega),by omega⟩ (by simp [u]))
  rintro t J ⟨d,z,v,cc,cs,A,M,q,E,r⟩ u;exact S t J cc cs A d z v q ⟨by have:=E.n;omega,E.lo,E.ok,E.up⟩
 exact⟨s,hs,hp.eq⟩
theorem oQ:∀ {l:List aC} {o:Option aC},dV o l=ae→∀ x ∈ l,iW x=ae
 | x::l,o,h,y,b=>by
  simp only [dV,BY]at h;obtain⟨⟨d,j⟩,g⟩:=h;rcases ac2.1 b with rfl | b
  ·exact d
  ·exact oQ g y b
theorem v5{s:bF}(b:fG s){x:aC}(h:oJ s x):x.fr<x.to:=by
 rcases h with⟨c,j,d,hd,rfl⟩ | h
 ·have:=b.len;show d*1440+c.min<d*1440+c.min+s.len;omega
 ·have g:=b.v;simp only [ei,BY]at g;have:=oQ g.2 x h;simp [iW,bR]at this;omega
theorem qv{s:bF}(v:fG s){g m:Int}(x:aC):ry s g m x↔oJ s x∧g<x.to∧x.fr<m:=by
 unfold ry oJ pK vo;have A:=v.len;constructor
 ·rintro(⟨c,l,d,⟨j,b⟩,rfl⟩ | ⟨h,b⟩)
  ·have hd:DW s.len c.min g≤d:=by obtain⟨_,_,h,_⟩:=j;exact h
   unfold DW at hd j;refine⟨.inl ⟨c,l,d,(jE (by omega) hd).2 j,rfl⟩,?_,b⟩;show g<d*1440+c.min+s.len;omega
  ·simp [iw]at b;exact⟨.inr h,b.2,b.1⟩
 ·rintro⟨⟨c,l,d,hd,rfl⟩ | h,b,q⟩
  ·have y:g<d*1440+c.min+s.len:=b;have u:d*1440+c.min<m:=q;have z:0≤d:=by obtain⟨_,_,h,_⟩:=hd;exact h
   refine .inl ⟨c,l,d,⟨?_,u⟩,rfl⟩;unfold DW;exact(jE (by omega) (by omega)).1 hd
  ·refine .inr ⟨h,?_⟩;simp [iw,b,q]
theorem PX{x y:aC}(d:x.le y)(g:y.le x):x=y:=by
 unfold aC.le aC.lt at d g;obtain⟨a,b,c⟩:=x;obtain⟨a',j,l⟩:=y;simp at d g;simp;omega
theorem Ke{s:bF}(m:fG s){fr:Int}{L:List aC}(N:∀ x,x ∈ L↔ry s fr (fr+28800) x){x y:aC}{f j b:Bool}(A:lP (fun z=>oJ s z∧fr≤z.fr) x f)
  (J:lP (fun z=>z ∈ L∧fr≤z.fr) y j) (O:b=ae↔∃ x,ry s fr (fr+1) x) :
  ((L.any fun z=>decide (z.fr≤fr)&&decide (fr<z.to))=b)∧(f=ae→fr≤x.fr)∧(j=ae→f=ae∧y=x)∧(j=ag→f=ae→fr+28800≤x.fr):=by
 have d:∀ z,z ∈ L↔oJ s z∧fr<z.to∧z.fr<fr+28800:=fun z=>(N z).trans (qv m z);refine⟨?_,?_,?_,?_⟩
 ·rw [Bool.eq_iff_iff,O,List.any_eq_true];constructor
  ·rintro⟨z,F,h⟩;simp at h;exact⟨z,(qv m z).2 ⟨((d z).1 F).1,h.2,by omega⟩⟩
  ·rintro⟨z,F⟩;obtain⟨v,q,I⟩:=(qv m z).1 F;exact⟨z,(d z).2 ⟨v,q,by omega⟩,by simp;omega⟩
 ·intro E;rcases A with⟨h,_⟩ | ⟨_,h,_⟩
  ·rw [E]at h;cases h
  ·exact h.2
 ·intro B;rcases J with⟨h,_⟩ | ⟨_,⟨v,q⟩,I⟩
  ·rw [B]at h;cases h
  ·obtain⟨K,S,U⟩:=(d y).1 v;rcases A with⟨_,_,g⟩ | ⟨g,⟨l,u⟩,H⟩
   ·exact absurd ⟨K,q⟩ (g y)
   ·refine⟨g,?_⟩;have M:=H y ⟨K,q⟩;have W:x.fr≤y.fr:=by unfold aC.le aC.lt at M;omega
    have Q:=v5 m l;exact PX (I x ⟨(d x).2 ⟨l,by omega,by omega⟩,u⟩) M
 ·intro B E;rcases A with⟨h,_⟩ | ⟨_,⟨l,u⟩,H⟩
  ·rw [E]at h;cases h
  ·rcases J with⟨_,_,h⟩ | ⟨h,_⟩
   ·rcases Int.lt_or_le x.fr (fr+28800)with k | k
    ·have Q:=v5 m l;exact absurd ⟨(d x).2 ⟨l,by omega,k⟩,u⟩ (h x)
    ·exact k
   ·rw [B]at h;cases h
theorem P8(WO:cB tab.get 1 [] (vb ae))(x:mD)(hx:x.OK)(n:Int)(f4:-2147483648≤n)(f7:n≤2147483647) :
  cB tab.get 0 [.a (x.row.map .f),.c (.f (.int .i32 n))] (vb ae):=by
 have c6:=WO.eq;obtain⟨s,hs,a8⟩:=CU x hx;obtain⟨fr,c4⟩:=bV (n.tmod 5000000);have f0:-5000000<fr:=by rw [c4];exact Int.lt_tmod_of_pos n (by decide)
 have f1:fr<5000000:=by rw [c4];exact Int.tmod_lt_of_pos n (by decide)
 have c9:bt .rem (vi n) (vi 5000000)=aa (vi fr):=by rw [fA (by decide),c4]
 have wn:=aK (n:=n);have w2:=aK (n:=fr+28800);obtain⟨g,L,⟨d6,d5⟩,e_,Z⟩:=P1 s hs fr (fr+28800) (by omega) (by omega) (by omega) (by omega);obtain⟨z,f,hN,a_⟩:=P7 s hs fr (by omega) (by omega);obtain⟨b,hb,W⟩:=Ut s hs fr (by omega) (by omega);have d7:f=ae→fr≤z.fr:=fun hf=>by
  rcases hN with⟨h,_⟩ | ⟨_,h,_⟩
  ·rw [hf]at h;cases h
  ·exact h.2
 simp only [mD.row,bF.row,aC.row,ac5,ads]at a8 a_ Z W ⊢;refine du rfl rfl fun Q hQ=>?_;apply ai;simp;apply ai;simp [c6];apply ai;simp [a8];apply ai;simp [wn,c9];apply ai;simp [a_];apply ai;simp [w2,Z];apply aq;obtain⟨H0,I⟩:=bV ([.box [.f (sl x.dg (cF x.ds)),.f (sl x.mg (cL x.ms)),.f (u8 x.len),.f (sl x.eg (fP x.ex))] 0,.box [.f (sl s.cg (aM s.cs)),.f (fi s.len),.f (sl s.xg (ay s.xs))] 0,.box [.f (fi z.day),.f (fi z.fr),.f (fi z.to)] 0]:aj);have rest:∀ t:T,t.g 5=vb ae→t.g 6=.c (.ptr 1 0 0)→t.g 7=vi fr→t.g 8=.c (.ptr 2 0 0)→t.g 9=vb f→t.g 10=.c (.f (sl g (ay L)))→WP tab.get 0 ab [.code u_] ⟨t,[],H0⟩ Q:=by
  intro t N O B S U g10;apply ai;simp;apply ai;simp;apply ai;simp;apply aq;apply ai;simp;have d8:H0.length=3:=by rw [I];rfl
  refine jC L.length (fun j t H=>t.g 5=vb ae∧t.g 6=.c (.ptr 1 0 0)∧t.g 7=vi fr∧t.g 8=.c (.ptr 2 0 0)∧t.g 9=vb f∧t.g 10=.c (.f (sl g (ay L)))∧t.g 12=vb ((L.take j).any fun z=>decide (z.fr≤fr)&&decide (fr<z.to))∧t.g 13=.c (.ptr 3 0 0) ∧
   ∃ y v,t.g 14=vb v∧H=H0++[.box [.f (fi y.day),.f (fi y.fr),.f (fi y.to)] 0]∧lP (fun z=>z ∈ L.take j∧fr≤z.fr) y v) (by omega) (by decide) (by simp)
   ⟨by simp [N],by simp [O],by simp [B],by simp [S],by simp [U],by simp [g10],by simp,by simp [d8],⟨0,0,0⟩,ag,by simp,rfl,.inl ⟨rfl,rfl,by simp⟩⟩ ?_ ?_ ?_
  ·rintro j t J Lk hj ⟨N,O,B,S,U,g10,q,u,y,v,m,hJ,hm⟩ ha hn;simp [ha,g10];exact hn _ ⟨by simp [N],by simp [O],by simp [B],by simp [S],by simp [U],by simp [g10],by simp [q],by simp [u],y,v,by simp [m],hJ,hm⟩ (by simp [ha]) (by simp)
  ·rintro j t J hj ⟨N,O,B,S,U,g10,q,u,y,v,m,rfl,hm⟩ ha nx;obtain⟨e,he⟩:=bV (L[j]);have d:=fun H:aj=>ic (H:=H) (k:=1) (aX L) (cJ (l:=L) (j:=j) hj) rfl;have F:=fun H:aj=>ic (H:=H) (k:=2) (aX L) (cJ (l:=L) (j:=j) hj) rfl;have b6:=fun H:aj=>dt (H:=H) (aX L) (cJ (l:=L) (j:=j) hj);have A:=fun H:aj=>bW (H:=H) (g:=g) (rows:=ay L) (sz:=3) (k:=.i64) (i:=j) (by omega) (by simpa using hj);rw [←he]at d F b6;simp [aC.row]at d F b6 A;have Y:L.take (j+1)=L.take j++[e]:=by rw [acW,By hj,he];rfl
   have E:((L.take (j+1)).any fun z=>decide (z.fr≤fr)&&decide (fr<z.to))=(((L.take j).any fun z=>decide (z.fr≤fr)&&decide (fr<z.to))||(decide (e.fr≤fr)&&decide (fr<e.to))):=by rw [Y];simp [List.any_append]
   have c8:(H0++[bK.box [.f (fi y.day),.f (fi y.fr),.f (fi y.to)] 0])[3]?=aa (.box [.f (fi y.day),.f (fi y.fr),.f (fi y.to)] 0):=by rw [I];rfl
   have b9:(H0++[bK.box [.f (fi y.day),.f (fi y.fr),.f (fi y.to)] 0]).set 3 (.box [.f (fi e.day),.f (fi e.fr),.f (fi e.to)] 0)=H0++[.box [.f (fi e.day),.f (fi e.fr),.f (fi e.to)] 0]:=by rw [I];rfl
   obtain⟨HJ,b7⟩:=bV (H0++[bK.box [.f (fi y.day),.f (fi y.fr),.f (fi y.to)] 0]);rw [←b7]at c8 b9;have s3:gD HJ (.ptr 3 0 0) [.f (fi e.day),.f (fi e.fr),.f (fi e.to)]=aa (H0++[.box [.f (fi e.day),.f (fi e.fr),.f (fi e.to)] 0]):=by
    rw [←b9];simp [gD,c8,over]
   obtain⟨P,hP⟩:=bV ((L.take j).any fun z=>decide (z.fr≤fr)&&decide (fr<z.to));rw [←hP]at q E;rw [←b7];have c7:∀ t:T,t.g 5=vb ae→t.g 6=.c (.ptr 1 0 0)→t.g 7=vi fr→t.g 8=.c (.ptr 2 0 0)→t.g 9=vb f→t.g 10=.c (.f (sl g (ay L)))→t.g 12=vb ((L.take (j+1)).any fun z=>decide (z.fr≤fr)&&decide (fr<z.to))→t.g 13=.c (.ptr 3 0 0)→t.g 14=vb v→t.g 15=vi j →
     WP tab.get 0 ab [.code vc,.inBlock 1,.code (oS 15 54 55),.inLoop va,.inBlock 0,.code vd] ⟨t,[],HJ⟩ Q:=by
    intro t N O B S U g10 q u m M;have b_:¬ (fr≤e.fr∧v=ag)→lP (fun z=>z ∈ L.take (j+1)∧fr≤z.fr) y v:=by
     intro d9;rcases hm with⟨rfl,h2,h3⟩ | ⟨rfl,h2,h3⟩
     ·refine .inl ⟨rfl,h2,fun z X=>?_⟩;rw [Y,acG,acF]at X;rcases X with⟨X | rfl,hf⟩
      ·exact h3 z ⟨X,hf⟩
      ·exact d9 ⟨hf,rfl⟩
     ·refine .inr ⟨rfl,⟨by rw [Y];exact adj _ h2.1,h2.2⟩,fun z X=>?_⟩;rw [Y,acG,acF]at X;rcases X with⟨X | rfl,hf⟩
      ·exact h3 z ⟨X,hf⟩
      ·obtain⟨i,hi,d_⟩:=adS.1 h2.1;rw [←d_,he];exact aC.JZ (adr.1 d6 i j (by omega) hj (by omega))
    by_cases k:fr≤e.fr
    ·cases K:v with
     | false=>
      rw [K]at m;apply ai;simp [B,g10,m,M,A,d,k];refine an (by simp) (ai ?_);simp [g10,u,M,A,b6,s3,-bZ];refine au (.inl rfl) ?_;simp;refine az (nx _ _ ⟨by simp [N],by simp [O],by simp [B],by simp [S],by simp [U],by simp [g10],by simp [q],by simp [u],e,ae,by simp,rfl,?_⟩ (by simp [M]));rcases hm with⟨h1,h2,h3⟩ | ⟨h1,_⟩
      ·refine .inr ⟨rfl,⟨by rw [Y];simp,k⟩,fun z X=>?_⟩;rw [Y,acG,acF]at X;rcases X with⟨X | rfl,hf⟩
       ·exact absurd ⟨X,hf⟩ (h3 z)
       ·exact aC.yJ
      ·rw [K]at h1;cases h1
     | true=>
      rw [K]at m;apply ai;simp [B,g10,m,M,A,d,k];refine bg (by simp) ?_;refine az (nx _ _ ⟨by simp [N],by simp [O],by simp [B],by simp [S],by simp [U],by simp [g10],by simp [q],by simp [u],y,v,by simp [m,K],b7,b_ (by simp [K])⟩ (by simp [M]))
    ·apply ai;simp [B,g10,m,M,A,d,k];refine bg (by simp) ?_;refine az (nx _ _ ⟨by simp [N],by simp [O],by simp [B],by simp [S],by simp [U],by simp [g10],by simp [q],by simp [u],y,v,by simp [m],b7,b_ (fun h=>k h.1)⟩ (by simp [M]))
   refine aB (aq ?_);cases P with
   | true=>
    refine au (.inl rfl) ?_;simp [q];exact c7 _ (by simp [N]) (by simp [O]) (by simp [B]) (by simp [S]) (by simp [U]) (by simp [g10]) (by rw [E];simp) (by simp [u]) (by simp [m]) (by simp [ha])
   | false=>
    by_cases k1:e.fr≤fr
    ·refine au (.inl rfl) ?_;simp [B,g10,q,ha,A,d,F,k1];exact c7 _ (by simp [N]) (by simp [O]) (by simp [B]) (by simp [S]) (by simp [U]) (by simp [g10]) (by rw [E];simp [k1]) (by simp [u]) (by simp [m]) (by simp [ha])
    ·refine au (.inl rfl) ?_;simp [B,g10,q,ha,A,d,k1];exact c7 _ (by simp [N]) (by simp [O]) (by simp [B]) (by simp [S]) (by simp [U]) (by simp [g10]) (by rw [E];simp [k1]) (by simp [u]) (by simp [m]) (by simp [ha])
  rintro t J ⟨N,O,B,S,U,g10,q,u,y,v,m,rfl,hm⟩ ha;rw [ac0]at q hm;obtain⟨p1,p2,p3,p4⟩:=Ke hs d5 hN hm hb;rw [p1]at q;have b1:(H0++[bK.box [.f (fi y.day),.f (fi y.fr),.f (fi y.to)] 0])[1]?=aa (.box [.f (sl s.cg (aM s.cs)),.f (fi s.len),.f (sl s.xg (ay s.xs))] 0):=by rw [I];rfl
  have b2:(H0++[bK.box [.f (fi y.day),.f (fi y.fr),.f (fi y.to)] 0])[2]?=aa (.box [.f (fi z.day),.f (fi z.fr),.f (fi z.to)] 0):=by rw [I];rfl
  have b3:(H0++[bK.box [.f (fi y.day),.f (fi y.fr),.f (fi y.to)] 0])[3]?=aa (.box [.f (fi y.day),.f (fi y.fr),.f (fi y.to)] 0):=by rw [I];rfl
  generalize H0++[bK.box [.f (fi y.day),.f (fi y.fr),.f (fi y.to)] 0]=HJ at b1 b2 b3 ⊢;cases v with
  | false=>
   have c_:f=ae→¬ z.fr<fr+28800:=fun h=>by have:=p4 rfl h;omega
   cases f with
   | false=>
    apply ai;simp [N,O,B,S,U,q,u,m,b1,b2,b3,W];refine aG (hQ _ _ ?_);simp
   | true=>
    apply ai;simp [N,O,B,S,U,q,u,m,b1,b2,b3,W,w2,p4 rfl rfl];refine aG (hQ _ _ ?_);simp
  | true=>
   obtain⟨rfl,rfl⟩:=p3 rfl;apply ai;simp [N,O,B,S,U,q,u,m,b1,b2,b3,W];refine aG (hQ _ _ ?_);simp
 cases f with
 | false=>
  apply ai;simp;refine bg (by simp) ?_;rw [←I];exact rest _ (by simp) (by simp) (by simp) (by simp) (by simp) (by simp)
 | true=>
  have:=d7 rfl;apply ai;simp [show¬ z.fr<fr by omega];refine bg (by simp) ?_;rw [←I];exact rest _ (by simp) (by simp) (by simp) (by simp) (by simp) (by simp)
theorem WO:cB tab.get 1 [] (vb ae):=rM (wQ ev)
theorem zN{x:List FC}(h:∃ m,x=[FC.int .u8 m]∧Lit.wf (.int .u8 m)):∃ m:Nat,x=[u8 m]∧m<256:=by
 obtain⟨m,rfl,b⟩:=h;simp [Lit.wf,IntKind.min,IntKind.max,IntKind.signed,IntKind.bits]at b;refine⟨m.toNat,?_,by omega⟩;have:((m.toNat:Nat):Int)=m:=Int.toNat_of_nonneg b.1;simp [this]
theorem RZ{x:List FC}(h:∃ m,x=[FC.int .u16 m]∧Lit.wf (.int .u16 m)):∃ m:Nat,x=[FC.int .u16 (m:Int)]∧m<65536:=by
 obtain⟨m,rfl,b⟩:=h;simp [Lit.wf,IntKind.min,IntKind.max,IntKind.signed,IntKind.bits]at b;refine⟨m.toNat,?_,by omega⟩;have:((m.toNat:Nat):Int)=m:=Int.toNat_of_nonneg b.1;simp [this]
theorem yH{n:Nat}(h:n≤maxLen):n≤9223372036854775807:=Nat.le_trans h (by decide)
theorem vD{n:Nat}{ys:List FC}(h:nM Tryz.prog (n+2) 23 ys):∃ g l,ys=[sl g (cL l)]∧l.length≤9223372036854775807∧∀ m ∈ l,m<256:=by
 obtain⟨g,rows,rfl,_,d,j⟩:=oC Tryz.underlying23 h;obtain⟨l,rfl,q⟩:=pF (enc:=fun n:Nat=>[u8 n]) (p:=fun n=>n<256) fun r b=>zN (pH Tryz.underlying5 (j r b));exact⟨g,l,rfl,yH (by simpa using d),q⟩
theorem Lz{n:Nat}{ys:List FC}(h:nM Tryz.prog (n+6) 26 ys):∃ x:mD,ys=x.row∧x.OK:=by
 obtain⟨_,Q,rfl,d,B⟩:=ny (zl (ts:=[22,23,5,24]) Tryz.underlying26 rfl h);obtain⟨q,rows,rfl,_,s,A⟩:=oC Tryz.underlying22 d;obtain⟨ds,rfl,hd⟩:=pF (enc:=fun b:Mn=>[sl b.1 (cL b.2)]) (p:=Tp) fun r j=>by
  obtain⟨g,l,rfl,a,b⟩:=vD (A r j);exact⟨(g,l),rfl,a,b⟩
 obtain⟨_,S,rfl,d,E⟩:=ny B;obtain⟨K,M,rfl,L,J⟩:=vD d;obtain⟨_,U,rfl,d,F⟩:=ny E;obtain⟨le,rfl,I⟩:=zN (pH Tryz.underlying5 d);obtain⟨_,N,rfl,d,H⟩:=ny F;obtain⟨u,O,rfl,_,v,m⟩:=oC Tryz.underlying24 d;obtain⟨y,rfl,z⟩:=pF (enc:=fun n:Nat=>[FC.int .u16 (n:Int)]) (p:=fun n=>n<65536) fun r j=>RZ (pH Tryz.underlying27 (m r j));obtain rfl:N=[]:=H;exact⟨⟨q,ds,K,M,le,u,y⟩,rfl,yH (by simpa using s),hd,L,J,I,yH (by simpa using v),z⟩
theorem RK{a:V}(h:pJ Tryz.prog 26 a):∃ x:mD,a=.a (x.row.map .f)∧x.OK:=by
 rcases h with⟨xs,rfl,b,_⟩ | ⟨x,rfl,b⟩
 ·obtain⟨x,rfl,d⟩:=Lz (n:=34) b;exact⟨x,rfl,d⟩
 ·exfalso;obtain⟨x,e,_⟩:=Lz (n:=34) b;simp [mD.row]at e
theorem PM{a:V}(h:pJ Tryz.prog 21 a):∃ n:Int,a=.c (.f (.int .i32 n))∧-2147483648≤n∧n≤2147483647:=by
 rcases h with⟨xs,_,_,d,hd,b⟩ | ⟨z,rfl,g⟩
 ·rw [Tryz.underlying21]at hd;cases hd;rcases b with⟨_,e⟩ | ⟨_,_,e⟩<;>cases e
 ·obtain⟨m,e,j⟩:=pH Tryz.underlying21 g;cases e;simp [Lit.wf,IntKind.min,IntKind.max,IntKind.signed,IntKind.bits]at j;exact⟨m,rfl,by omega,by omega⟩
theorem CY(g:List V)(h:pe Tryz.prog [26,21] g):cB tab.get 0 g (vb ae):=by
 obtain⟨q,_,rfl,j,a1,_,rfl,l,rfl⟩:=h;obtain⟨x,rfl,m⟩:=RK j;obtain⟨n,rfl,b,d⟩:=PM l;exact P8 WO x m n b d
end Go.Proofs.YthkmdpgdicohdaaGreat
