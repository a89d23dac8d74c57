/-
  Our own small machine for Go code by value, held qR the model: part 5. No program in Co.
-/
import Derived.Test.YthkmdpgdicohdaaGreatK4
import Derived.Test.YthkmdpgdicohdaaGreatK3
import Derived.Test.YthkmdpgdicohdaaGreatK1
open Option renaming some → aa,none → ab
open Bool renaming true → ae,false → ag
open List renaming length_append → ai7, length_map → ajf, length_eq_zero_iff → ajW, length_nil → akC, drop_append → akW, drop_of_length_le → aku, getElem?_set_self → If, flatten_append → aki, length_drop → ajm, getElem?_set_ne → sh, getElem?_eq_getElem → By, map_append → akp, flatten_cons → ajs, append_nil → ajP, take_append_drop → ajR, mem_of_mem_take → aj2, take_length → ajr, getElem_mem → IT, mem_cons_of_mem → ajb, mem_cons_self → ajc, take_of_length_le → ajl, nil_append → ajZ, mem_of_mem_drop → ajJ, length_take → ajF, take_append_of_le_length → ajG, drop_append_of_le_length → aka
open Nat renaming succ_mul → alf, le_refl → ai8, zero_le → akh, add_mul → ajy, mul_le_mul_right → ajH, zero_add → ajX, one_mul → akV
open Bool renaming and_eq_true → BY
open Option renaming bind_eq_some_iff → ajx
set_option linter.unusedVariables false
set_option linter.constructorNameAsVariable false
set_option linter.unusedSimpArgs false
set_option linter.unusedSectionVars false
set_option maxRecDepth 100000
namespace Km
open Go
section
set_option linter.unusedVariables false
def ab6(sz bytes:Nat)(zs:List FC):av:=yr [yn 7 (.bad),⟨ab,.bad,ab⟩]
def X9(sz bytes:Nat)(zs:List FC):av:=yr [ym 17 0,ym 18 0,yn 19 (.cap (R 18)),yn 20 (.slice sz (R 17) ab (aa (R 19)) ab),ym 21 1,yn 22 (.lU sz bytes zs (R 20) (R 21)),ym 23 0,yn 24 (.len (R 23)),yn 25 (.slice sz (R 22) ab (aa (R 24)) ab),ym 0 25]
def X8(sz bytes:Nat)(zs:List FC):av:=.seq (yr [ym 15 1,yn 16 (.bin .gtr (R 15) (yi 0))]) (.cond (R 16) (X9 sz bytes zs) .skip)
def X_(sz bytes:Nat)(zs:List FC):av:=.seq (yr [ym 26 0,ym 4 26]) .ret
def ab7(sz bytes:Nat)(zs:List FC):av:=.seq (.seq (yr [ym 8 1,ym 9 0,yn 10 (.cap (R 9)),ym 11 0,yn 12 (.len (R 11)),yb 13 .sub 10 12,yb 14 .sub 8 13,ym 1 14]) (X8 sz bytes zs)) (X_ sz bytes zs)
def ab5(sz bytes:Nat)(zs:List FC):av:=.seq (.seq (yr [ym 5 1,yn 6 (.bin .lss (R 5) (yi 0))]) (.cond (R 6) (ab6 sz bytes zs) .skip)) (ab7 sz bytes zs)
def ab4(sz bytes:Nat)(zs:List FC):av:=.seq (yr [yn 4 (.cU (.k (.c (.f .aA))))]) (ab5 sz bytes zs)
def aaa(sz bytes:Nat)(zs:List FC):aK:=⟨[P.nat 0,P.nat 1],[.tmp (P.nat 4)],(ab4 sz bytes zs)⟩
def G6(G sz bytes:Nat):av:=yr [yn 21 (.bad),⟨ab,.bad,ab⟩]
def G5(G sz bytes:Nat):av:=.seq (yr [ym 19 3,yn 20 (.bin .lss (R 19) (yi 0))]) (.cond (R 20) (G6 G sz bytes) .skip)
def G4(G sz bytes:Nat):av:=.seq (yr [ym 15 3,ym 16 5,yn 17 (.len (R 16)),yb 18 .add 15 17,ym 3 18]) (G5 G sz bytes)
def G3(G sz bytes:Nat):av:=.seq (yr [ya 13 1 9 11,yn 14 (.load ab (R 13)),ym 5 14]) (G4 G sz bytes)
def G7(G sz bytes:Nat):av:=yr [yn 22 (.bin .add (R 11) (yi 1)),ym 11 22]
def G2(G sz bytes:Nat):av:=.seq (.block 1 (G3 G sz bytes)) (G7 G sz bytes)
def G1(G sz bytes:Nat):av:=.seq (.cond (R 12) .skip (.exit 0)) (G2 G sz bytes)
def Rz(G sz bytes:Nat):av:=.seq (yr [yb 12 .lss 11 10]) (G1 G sz bytes)
def Hd(G sz bytes:Nat):av:=yr [ym 31 6,ym 32 8,yn 33 (.append sz bytes (R 31) (R 32)),ym 6 33]
def Hc(G sz bytes:Nat):av:=.seq (yr [ya 29 1 25 27,yn 30 (.load ab (R 29)),ym 8 30]) (Hd G sz bytes)
def He(G sz bytes:Nat):av:=yr [yn 34 (.bin .add (R 27) (yi 1)),ym 27 34]
def Hb(G sz bytes:Nat):av:=.seq (.block 3 (Hc G sz bytes)) (He G sz bytes)
def Ha(G sz bytes:Nat):av:=.seq (.cond (R 28) .skip (.exit 2)) (Hb G sz bytes)
def G_(G sz bytes:Nat):av:=.seq (yr [yb 28 .lss 27 26]) (Ha G sz bytes)
def G'(G sz bytes:Nat):av:=.block 2 (.loop (G_ G sz bytes))
def Hf(G sz bytes:Nat):av:=.seq (yr [ym 35 6,ym 2 35]) .ret
def G9(G sz bytes:Nat):av:=.seq (.seq (yr [ym 25 0,yn 26 (.len (R 25)),yn 27 (.cU (yi 0))]) (G' G sz bytes)) (Hf G sz bytes)
def G8(G sz bytes:Nat):av:=.seq (yr [ym 23 3,yn 24 (.call G [(.k (.c (.f .aA))),R 23] ae),ym 6 24]) (G9 G sz bytes)
def Ry(G sz bytes:Nat):av:=.seq (.seq (yr [ym 9 0,yn 10 (.len (R 9)),yn 11 (.cU (yi 0))]) (.block 0 (.loop (Rz G sz bytes)))) (G8 G sz bytes)
def Rx(G sz bytes:Nat):av:=.seq (yr [yn 3 (.cU (yi 0))]) (Ry G sz bytes)
def Rw(G sz bytes:Nat):av:=.seq (yr [yn 2 (.cU (.k (.c (.f .aA))))]) (Rx G sz bytes)
def XJ(G sz bytes:Nat):aK:=⟨[P.nat 0],[.tmp (P.nat 2)],(Rw G sz bytes)⟩
section
variable{tab:TB}{F G sz bytes:Nat}{zs:List FC}{H:an}
theorem Z1(t:T)(H:an)(sz bytes:Nat)(zs:List FC)(x n:Arg):bC t H (.lU sz bytes zs x n)=xU H sz bytes zs (x.ev t) (n.ev t):=rfl
theorem Ir{d:Type}(n:Nat)(xs:List d):(cB n xs).length=n*xs.length:=by
 induction n with
 | zero=>simp [cB]
 | succ n b=>
  have:cB (n+1) xs=xs++cB n xs:=by simp [cB,List.replicate_succ]
  rw [this,ai7,b,alf,Nat.add_comm]
def GR(H:an)(c:C)(sz n:Nat)(rows:List (List FC)):Prop:=(n=0∧rows=[]∧c=.f .aA)∨(0<n∧∃ b rest,c=.sl b 0 rows.length 0 0 sz∧H[b]?=aa (.cE sz (rows.flatten.map .f++rest) 0 0 .loc)∧(rows.flatten.map C.f++rest).length=n*sz)
theorem Ya(u:tab F=aa (aaa sz bytes zs))(y:sz≠0)(m:zs.length=sz)(n:Nat)(z:n≤1000000)(b:cO n bytes=ae):∃ r H',Ev tab (.fn F) [.c (.f .aA),vi n] H r H' ∧
  ∃ c,r=.c c∧GR H' c sz n []∧(∀ i:Nat,i<H.length→H'[i]?=H[i]?)∧H.length≤H'.length∧∀ i,aS c=aa i→H.length≤i:=by
 refine cM (C:=fun r H'=>∃ c,r=.c c∧GR H' c sz n []∧(∀ i:Nat,i<H.length→H'[i]?=H[i]?)∧H.length≤H'.length∧∀ i,aS c=aa i→H.length≤i) u rfl fun Q l=>?_;apply ai;simp;apply aq;apply ai;simp [show¬ (n:Int)<0 by omega];refine a6 (by simp) ?_;apply aq;apply ai;simp [bg,kh,wrap64 (n:=(0:Int)) (by decide) (by decide),aM (n:=(n:Int))];apply ai;simp;rcases Nat.eq_zero_or_pos n with rfl | x
 ·refine a6 (by simp) ?_;apply ai;simp;exact aF (l _ _ (.c (.f .aA)) rfl (by simp [Km.results,aZ]) ⟨.f .aA,rfl,.inl ⟨rfl,rfl,rfl⟩,fun _ _=>rfl,ai8 _,fun _ h=>by cases h⟩)
 ·refine aw (by simp;omega) ?_;have q:bG H sz (.c (.f .aA)) ab (aa (vi 0)) ab=aa (.c (.f .aA)):=rfl;have d:∃ cs:List C,cs.length=n*sz∧xU H sz bytes zs (.c (.f .aA)) (vi n)=aa (.c (.sl H.length 0 n 0 0 sz),H++[.cE sz cs 0 0 .loc]):=by
   refine⟨(cB n zs).map .f,by rw [ajf,Ir,m],?_⟩;have hi:fS (vi n)=aa (n:Int):=rfl;simp [xU,hi,m,show¬ n=0 by omega,show¬ (n:Int)≤0 by omega,b]
  obtain⟨cs,j,d⟩:=d;have s:bG (H++[.cE sz cs 0 0 .loc]) sz (.c (.sl H.length 0 n 0 0 sz)) ab (aa (vi 0)) ab=aa (.c (.sl H.length 0 0 0 0 sz)):=by
   have v:bE n n ab (aa (vi ((0:Nat):Int))) ab=aa (0,0,n):=by simp only [bE,eR (akh n)];rfl
   have g:(H++[bZ.cE sz cs 0 0 .loc])[H.length]?=aa (bZ.cE sz cs 0 0 .loc):=by simp
   simp only [bG,g,and_self,if_true];rw [show(vi 0:V)=vi ((0:Nat):Int) from rfl,v];simp
  refine au (.inl rfl) ?_;simp [bg,kh,q,Z1,d,s];apply ai;simp;exact aF (l _ _ (.c (.sl H.length 0 0 0 0 sz)) rfl (by simp [Km.results,aZ]) ⟨_,rfl,.inr ⟨x,H.length,cs,rfl,by simp,by simpa using j⟩,fun i hi=>List.getElem?_append_left hi,by simp,fun i h=>by cases h;exact ai8 _⟩)
theorem GR.app{c:C}{n:Nat}{rows ys:List (List FC)}(h:GR H c sz n rows)(hg:bK sz rows)(hy:bK sz ys)(uD:sz≠0)(m:rows.length+ys.length≤n){x:C}(z:de H sz (.c x)=aa (ys.length,ys.flatten.map .f)) :
  ∃ j H',bD H sz bytes (.c c) (.c x)=aa (.c j,H')∧GR H' j sz n (rows++ys)∧aS j=aS c∧H'.length=H.length∧∀(i:Nat) y,H[i]?=aa y→aS c≠aa i→H'[i]?=aa y:=by
 rcases h with⟨rfl,rfl,rfl⟩ | ⟨E,b,rest,rfl,hb,d⟩
 ·have:ys=[]:=ajW.1 (by omega);subst this;exact⟨.f .aA,H,by simp only [bD,z,uD,if_false];simp,.inl ⟨rfl,rfl,rfl⟩,rfl,rfl,fun _ _ h _=>h⟩
 ·by_cases B:ys.length=0
  ·have:ys=[]:=ajW.1 B;subst this;refine⟨.sl b 0 rows.length 0 0 sz,H,?_,.inr ⟨E,b,rest,by simp,by simpa using hb,by simpa using d⟩,rfl,rfl,fun _ _ h _=>h⟩;simp only [bD,z,uD,if_false,hb,and_self,if_true,akC]
  ·have u:rows.flatten.length=rows.length*sz:=cG hg;have g:ys.flatten.length=ys.length*sz:=cG hy;have A:rows.length*sz+ys.length*sz≤n*sz:=by rw [←ajy];exact ajH sz m
   have F:0<ys.length*sz:=Nat.mul_pos (by omega) (by omega);have s:over (rows.flatten.map C.f++rest) (rows.length*sz) (ys.flatten.map C.f)=(rows++ys).flatten.map C.f++rest.drop (ys.length*sz):=by
    have e:rows.length*sz=(rows.flatten.map C.f).length:=by rw [ajf,u]
    simp only [over];rw [e,List.take_left,akW,ajf,ajf,g];rw [aku (l:=rows.flatten.map C.f) (by rw [ajf];omega)];simp
   have v:rest.length=n*sz-rows.length*sz:=by rw [ai7,ajf,u]at d;omega
   refine⟨.sl b 0 (rows.length+ys.length) 0 0 sz,H.set b (.cE sz ((rows++ys).flatten.map .f++rest.drop (ys.length*sz)) 0 0 .loc),?_,.inr ⟨E,b,rest.drop (ys.length*sz),by simp,If (aj hb),?_⟩,rfl,by simp,fun i y hy q=>?_⟩
   ·simp only [bD,z,uD,if_false,hb,and_self,if_true,B];rw [aR (by rw [d];rintro⟨_,h,_⟩;omega),ba ⟨trivial,akh _,by rw [d,ajf,g];omega⟩];simp only [ajX,s]
   ·rw [ai7,ajf,aki,ai7,ajm,u,g,v];omega
   ·have:b≠i:=by rintro rfl;exact q rfl
    rw [sh this];exact hy
theorem GR.lr{c:C}{rows:List (List FC)}(h:GR H c sz rows.length rows)(hg:bK sz rows):LR H c sz rows:=by
 rcases h with⟨_,h1,rfl⟩ | ⟨g,b,rest,rfl,hb,d⟩
 ·rw [h1];exact LR.nil _ _
 ·have j:rows.flatten.length=rows.length*sz:=cG hg;have:rest=[]:=ajW.1 (by rw [ai7,ajf,j]at d;omega);subst this;exact .inr ⟨fun e=>by rw [e]at g;simp at g,b,0,rfl,by simpa [RB]using hb⟩
theorem ui(hT:tab F=aa (XJ G sz bytes))(hG:tab G=aa (aaa sz bytes zs))(S:sz≠0)(hz:zs.length=sz){b:Nat}(xs:List (C × List (List FC)))(hb:H[b]?=aa (.box (xs.map (·.1)) 0))(e_:xs.length≤1000000)
  (hx:∀ x ∈ xs,bK sz x.2∧∀ H':an,(∀ i:Nat,i<H.length→H'[i]?=H[i]?)→bg H' x.1=aa x.2.length∧de H' sz (.c x.1)=aa (x.2.length,x.2.flatten.map .f))
  (W:((xs.map (·.2)).flatten).length≤1000000) (d:cO ((xs.map (·.2)).flatten).length bytes=ae) :
  ∃ r H',Ev tab (.fn F) [.c (.sl b 0 xs.length xs.length 0 1)] H r H'∧∃ c,r=.c c∧LR H' c sz (xs.map (·.2)).flatten∧(∀ i:Nat,i<H.length→H'[i]?=H[i]?)∧H.length≤H'.length∧∀ i,aS c=aa i→H.length≤i:=by
 have M:=aj hb;have Y:∀(H':an),(∀ i:Nat,i<H.length→H'[i]?=H[i]?)→∀ j:Nat,(h:j<xs.length)→bz H' 1 ab (.c (.sl b 0 xs.length xs.length 0 1)) (vi j)=aa (.c (.ptr b j 0))∧aU H' ab (.c (.ptr b j 0))=aa (.c xs[j].1):=fun H' v j h=>by
  have m:H'[b]?=aa (.box (xs.map (·.1)) 0):=by rw [v b M];exact hb
  refine⟨?_,?_⟩
  ·simp [bz,show fS (vi j)=aa (j:Int) from rfl,m,h]
  ·simp [aU,aC,m,aW,h,List.drop_eq_getElem_cons]
 have Z:∀(H':an),(∀ i:Nat,i<H.length→H'[i]?=H[i]?)→bg H' (.sl b 0 xs.length xs.length 0 1)=aa xs.length:=fun H' v=>by
  have m:H'[b]?=aa (.box (xs.map (·.1)) 0):=by rw [v b M];exact hb
  simp [bg,m]
 have tk:∀ j (h:j<xs.length),((xs.take (j+1)).map (·.2)).flatten=((xs.take j).map (·.2)).flatten++xs[j].2:=fun j h=>by
  rw [List.take_add_one,By h];simp only [Option.toList_some,akp,List.map_cons,List.map_nil,aki,ajs,List.flatten_nil,ajP]
 have d9:∀ j,((xs.take j).map (·.2)).flatten.length≤((xs.map (·.2)).flatten).length:=fun j=>by
  conv=>rhs;rw [←ajR j xs,akp,aki,ai7]
  omega
 have a7:∀ j,bK sz ((xs.take j).map (·.2)).flatten:=fun j r hr=>by
  obtain⟨l,hl,hr⟩:=List.mem_flatten.1 hr;obtain⟨x,c_,rfl⟩:=List.mem_map.1 hl;exact(hx x (aj2 c_)).1 r hr
 refine cM (H:=H) (args:=[.c (.sl b 0 xs.length xs.length 0 1)]) (C:=fun r H'=>∃ c,r=.c c∧LR H' c sz (xs.map (·.2)).flatten∧(∀ i:Nat,i<H.length→H'[i]?=H[i]?)∧H.length≤H'.length∧∀ i,aS c=aa i→H.length≤i) hT rfl fun Q hQ=>?_;apply ai;simp;apply ai;simp;apply aq;apply ai;simp [Z H fun _ _=>rfl];obtain⟨L,B⟩:∃ L:Nat→Nat,∀ j,L j=((xs.take j).map (·.2)).flatten.length:=⟨_,fun _=>rfl⟩
 have L0:L 0=0:=by rw [B];rfl
 have Ls:∀ j (h:j<xs.length),L (j+1)=L j+xs[j].2.length:=fun j h=>by rw [B,B,tk j h,ai7]
 have Ll:∀ j,L j≤((xs.map (·.2)).flatten).length:=fun j=>by rw [B];exact d9 j
 have Le:L xs.length=((xs.map (·.2)).flatten).length:=by rw [B,ajr]
 obtain⟨N,hN⟩:=aL (((xs.map (·.2)).flatten).length);rw [←hN]at W d Ll Le;refine bU xs.length (fun j t J=>J=H∧t.g 0=.c (.sl b 0 xs.length xs.length 0 1)∧t.g 9=.c (.sl b 0 xs.length xs.length 0 1)∧t.g 3=vi (L j)) (by omega) (by decide) (by decide) (by simp) (by simp) ⟨rfl,by simp,by simp,by simp [L0]⟩ ?_ ?_
 ·rintro j t J u ⟨rfl,g0,g9,g3⟩ I z next
  obtain⟨i1,X⟩:=Y J (fun _ _=>rfl) j u;obtain⟨h2,h3⟩:=(hx _ (IT u)).2 J fun _ _=>rfl;have h5:=Ls j u;have h6:=Ll (j+1);obtain⟨x,A⟩:=aL (xs[j]);rw [←A]at X h2 h3 h5;refine az ?_;apply ai;simp [I,g9,i1,X,-ay];apply ai;simp [g3,h2,aM (n:=(L j:Int)+x.2.length)];apply ai;simp [show¬ (L j:Int)+x.2.length<0 by omega];exact aG (by simp) (aP (ax (next _ _ ⟨rfl,by simp [g0],by simp [g9],by simp [h5]⟩ (by simp [I]) (by simp [z]))))
 ·rintro t J ⟨rfl,g0,g9,g3⟩ - -;obtain⟨r,H2,s,c0,rfl,a8,O,c9,a_⟩:=Ya (H:=J) hG S hz N (by omega) d;rw [Le]at g3;apply ai;simp [g3,s.eq];apply aq;apply ai;simp [g0,Z H2 O];refine bU xs.length (fun j t J'=>t.g 25=.c (.sl b 0 xs.length xs.length 0 1)∧∃ c,t.g 6=.c c∧GR J' c sz N ((xs.take j).map (·.2)).flatten∧(∀ i:Nat,i<J.length→J'[i]?=J[i]?)∧J.length≤J'.length∧∀ i,aS c=aa i→J.length≤i) (by omega) (by decide) (by decide) (by simp) (by simp) ⟨by simp,c0,by simp,by simpa using a8,O,c9,a_⟩ ?_ ?_
  ·rintro j t J' u ⟨y,c,g6,g,v,hl,q⟩ I z next
   obtain⟨i1,X⟩:=Y J' v j u;obtain⟨h2,h3⟩:=(hx _ (IT u)).2 J' v;have s:=(hx _ (IT u)).1;have h5:=Ls j u;have h6:=Ll (j+1);have U:=tk j u;obtain⟨x,A⟩:=aL (xs[j]);rw [←A]at X h2 h3 h5 U s;obtain⟨c',H',K,E,hs,d_,b_⟩:=g.app (bytes:=bytes) (a7 j) s S (by rw [←B];omega) h3;rw [←U]at E;refine az ?_;apply ai;simp [I,y,i1,X,-ay];refine au (.inl rfl) ?_;simp [g6,K];refine ax (next _ _ ⟨by simp [y],c',by simp,E,fun i hi=>?_,by omega,fun i hi=>q i (by rw [←hs];exact hi)⟩ (by simp [I]) (by simp [z]));rw [←v i hi];have hy:J'[i]?=aa (J'[i]'(by omega)):=By (by omega);rw [hy];exact b_ i _ hy fun e=>by have:=q i e;omega
  ·rintro t J' ⟨y,c,g6,g,v,hl,q⟩ - -;rw [ajr,hN]at g;have hg:=a7 xs.length;rw [ajr]at hg;apply ai;simp [g6];exact aF (hQ _ _ (.c c) rfl (by simp [Km.results,aZ]) ⟨c,rfl,g.lr hg,v,hl,q⟩)
end
end
section
set_option linter.unusedVariables false
def afL(sz bytes:Nat)(zs:List FC):av:=.seq (yr [ym 17 0,ym 6 17]) .ret
def abY(sz bytes:Nat)(zs:List FC):av:=.seq (yr [ym 32 0,ym 6 32]) .ret
def abX(sz bytes:Nat)(zs:List FC):av:=.seq (yr [ym 27 0,ym 28 0,yn 29 (.len (R 28)),ym 30 7,yn 31 (.slice sz (R 27) (aa (R 29)) (aa (R 30)) ab),⟨ab,.clear sz zs (R 31),ab⟩]) (abY sz bytes zs)
def abW(sz bytes:Nat)(zs:List FC):av:=.seq (yr [ym 20 0,ym 21 1,yn 22 (.slice sz (R 20) ab (aa (R 21)) ab),ym 23 0,ym 24 2,yn 25 (.slice sz (R 23) (aa (R 24)) ab ab),yn 26 (.append sz bytes (R 22) (R 25)),ym 0 26]) (abX sz bytes zs)
def abV(sz bytes:Nat)(zs:List FC):av:=.seq (yr [ym 18 0,yn 19 (.len (R 18)),ym 7 19]) (abW sz bytes zs)
def afK(sz bytes:Nat)(zs:List FC):av:=.seq (.seq (yr [ym 14 1,ym 15 2,yb 16 .eql 14 15]) (.cond (R 16) (afL sz bytes zs) .skip)) (abV sz bytes zs)
def afJ(sz bytes:Nat)(zs:List FC):av:=.seq (yr [ym 8 0,ym 9 1,ym 10 2,ym 11 0,yn 12 (.len (R 11)),yn 13 (.slice sz (R 8) (aa (R 9)) (aa (R 10)) (aa (R 12)))]) (afK sz bytes zs)
def afI(sz bytes:Nat)(zs:List FC):av:=.seq (yr [yn 6 (.cU (.k (.c (.f .aA))))]) (afJ sz bytes zs)
def abU(sz bytes:Nat)(zs:List FC):aK:=⟨[P.nat 0,P.nat 1,P.nat 2],[.tmp (P.nat 6)],(afI sz bytes zs)⟩
section
variable{tab:TB}{F sz bytes:Nat}{zs:List FC}{H:an}
theorem yw(A:tab F=aa (abU sz bytes zs)){c b:C}{j n:Nat}{J s u v:V}{d g:an}(K:j<n)(L:n≤1000000)(l:bg H c=aa n)(m:bG H sz (.c c) (aa (vi j)) (aa (vi (j+1:Nat))) (aa (vi n))=aa J)
  (E:bG H sz (.c c) ab (aa (vi j)) ab=aa s) (q:bG H sz (.c c) (aa (vi (j+1:Nat))) ab ab=aa u) (x:bD H sz bytes s u=aa (.c b,d)) (B:bg d b=aa (n-1)) (I:bG d sz (.c b) (aa (vi (n-1:Nat))) (aa (vi n)) ab=aa v) (cl:jf d sz zs v=aa g) :
  ∃ r H',Ev tab (.fn F) [.c c,vi j,vi (j+1:Nat)] H r H'∧(r=.c b∧H'=g):=by
 refine cM (H:=H) (args:=[.c c,vi j,vi (j+1:Nat)]) (C:=fun r H'=>r=.c b∧H'=g) A rfl fun Q z=>?_;apply ai;simp;have y:((j+1:Nat):Int)=(j:Int)+1:=by omega
 rw [y]at m q;apply ai;simp [l,m];apply aq;apply ai;simp [show¬ (j:Int)=(j:Int)+1 by omega];refine a6 (by simp) ?_;apply ai;simp [l];apply ai;simp [E,q,x];apply ai;simp [B,I,cl];apply ai;simp;exact aF (z _ _ _ rfl (dU (by simp)) ⟨rfl,rfl⟩)
def qf(sz:Nat)(rows:List (List C)):Prop:=∀ r ∈ rows,r.length=sz
theorem cX{sz:Nat}:∀ {rows:List (List C)},qf sz rows→rows.flatten.length=rows.length*sz
 | [],_=>by simp
 | r::g,h=>by
  have d:=cX (rows:=g) fun x b=>h x (ajb _ b);rw [ajs,ai7,d,h r ajc,List.length_cons,alf,Nat.add_comm]
theorem rZ{sz:Nat}:∀ {rows:List (List C)} (k:Nat),qf sz rows→rows.flatten.take (k*sz)=(rows.take k).flatten
 | [],_,_=>by simp
 | r::b,0,_=>by simp
 | r::b,k+1,h=>by
  have j:=rZ (rows:=b) k fun x g=>h x (ajb _ g);have d:=h r ajc;rw [ajs,List.take_succ_cons,ajs,List.take_append,d,alf,Nat.add_sub_cancel,j,ajl (by omega)]
theorem kU{sz:Nat}:∀ {rows:List (List C)} (k:Nat),qf sz rows→rows.flatten.drop (k*sz)=(rows.drop k).flatten
 | [],_,_=>by simp
 | r::b,0,_=>by simp
 | r::b,k+1,h=>by
  have j:=kU (rows:=b) k fun x g=>h x (ajb _ g);have d:=h r ajc;rw [ajs,List.drop_succ_cons,akW,d,alf,Nat.add_sub_cancel,j,aku (by omega),ajZ]
theorem zf(A D ys:List C):over (A++D) A.length ys=A++ys++D.drop ys.length:=by
 simp only [over];rw [List.take_left,akW,aku (by omega),ajZ,Nat.add_sub_cancel_left]
theorem uj{sz j n:Nat}{rows:List (List C)}{rest ys:List C}(g:qf sz rows)(m:rows.length=n)(H:j<n)(x:ys.length=sz):∃ b,over (over (rows.flatten++rest) (j*sz) (rows.drop (j+1)).flatten) ((n-1)*sz) ys=(rows.eraseIdx j).flatten++b∧((rows.eraseIdx j).flatten++b).length=(rows.flatten++rest).length:=by
 have l:(rows.drop (j+1)).flatten.length=(n-(j+1))*sz:=by
  rw [cX fun r s=>g r (ajJ s),ajm,m]
 have E:(rows.take j).flatten.length=j*sz:=by
  rw [cX fun r s=>g r (aj2 s),ajF,m,Nat.min_eq_left (by omega)]
 have d:=cX g;have v:rows.eraseIdx j=rows.take j++rows.drop (j+1):=List.eraseIdx_eq_take_drop_succ _ _;obtain⟨q,B⟩:∃ q,n=j+1+q:=⟨n-j-1,by omega⟩
 subst B;have y:(j+1+q-(j+1))*sz=q*sz:=by congr 1;omega
 have z:(j+1+q-1)*sz=j*sz+q*sz:=by rw [←ajy];congr 1;omega
 have A:(j+1+q)*sz=j*sz+sz+q*sz:=by rw [ajy,ajy,akV]
 rw [m,A]at d;rw [y]at l;have F:over (rows.flatten++rest) (j*sz) (rows.drop (j+1)).flatten=(rows.take j).flatten++(rows.drop (j+1)).flatten++(rows.flatten++rest).drop (j*sz+q*sz):=by
  simp only [over,l];rw [ajG (by omega),rZ j g]
 have u:((rows.take j).flatten++(rows.drop (j+1)).flatten).length=j*sz+q*sz:=by rw [ai7,E,l]
 refine⟨ys++((rows.flatten++rest).drop (j*sz+q*sz)).drop sz,?_,?_⟩
 ·rw [F,z,v,aki];rw [←u,zf,x,List.append_assoc _ ys]
 ·rw [v,aki,ai7,u,ai7,x,ajm,ajm,ai7,d];omega
theorem ug{n k:Nat}(m:Nat)(h:k≤m):bE n m ab (aa (vi k)) ab=aa (0,k,m):=by simp [bE,eR h]
theorem lW{n m k:Nat}(h:k≤n):bE n m (aa (vi k)) ab ab=aa (k,n,m):=by simp [bE,eR h]
theorem uf{n m j k:Nat}(h:j≤k)(b:k≤m):bE n m (aa (vi j)) (aa (vi k)) ab=aa (j,k,m):=by simp [bE,eR h,eR b]
theorem rC{n m j k l:Nat}(h:j≤k)(b:k≤l)(d:l≤m):bE n m (aa (vi j)) (aa (vi k)) (aa (vi l))=aa (j,k,l):=by simp [bE,eR h,eR b,eR d]
theorem XM(W:tab F=aa (abU sz bytes zs))(L:0<sz)(M:zs.length=sz){b cap j:Nat}{rows:List (List C)}{rest:List C}(A:qf sz rows)(s:H[b]?=aa (.box (rows.flatten++rest) 0))(l:(rows.flatten++rest).length=cap*sz)(I:j<rows.length)(o:cap≤1000000) :
  ∃ r H',Ev tab (.fn F) [.c (.sl b 0 rows.length cap 0 sz),vi j,vi (j+1:Nat)] H r H'∧(r=.c (.sl b 0 (rows.length-1) cap 0 sz)∧∃ d,H'=H.set b (.box ((rows.eraseIdx j).flatten++d) 0)∧((rows.eraseIdx j).flatten++d).length=cap*sz):=by
 obtain⟨n,v⟩:=aL (rows.length);have y:=cX A;rw [←v]at I y ⊢;have u:n≤cap:=by
  rw [ai7,y]at l;exact Nat.le_of_mul_le_mul_right (show n*sz≤cap*sz by omega) L
 have Q:n*sz≤cap*sz:=ajH sz u;have X:(rows.drop (j+1)).flatten.length=(n-(j+1))*sz:=by
  rw [cX fun r K=>A r (ajJ K),ajm,v]
 obtain⟨d,S,J⟩:=uj (ys:=zs.map C.f) (rest:=rest) A v.symm I (by rw [ajf,M]);have a:j*sz+(n-(j+1))*sz≤n*sz:=by rw [←ajy];exact ajH sz (by omega)
 have f:(n-1)*sz+sz≤n*sz:=by
  have:(n-1+1)*sz=n*sz:=by congr 1;omega
  rw [ajy,akV]at this;omega
 obtain⟨g,q⟩:=aL (over (rows.flatten++rest) (j*sz) (rows.drop (j+1)).flatten);have c:g.length=cap*sz:=by
  rw [q];simp only [over,ai7,ajF,ajm];rw [ai7]at l;omega
 rw [←q]at S;have m:(H.set b (.box g 0))[b]?=aa (.box g 0):=If (aj s);have N:∃ B,bG H sz (.c (.sl b 0 n cap 0 sz)) (aa (vi (j+1:Nat))) ab ab=aa B∧de H sz B=aa (n-(j+1),(rows.drop (j+1)).flatten):=by
  simp only [bG,s,lW (show j+1≤n by omega)];by_cases O:cap=j+1
  ·rw [ba O];refine⟨_,rfl,?_⟩;have:rows.drop (j+1)=[]:=aku (by omega);rw [this,show n-(j+1)=0 by omega];simp [de,bg,cH]
  ·rw [aR O];refine⟨_,rfl,?_⟩;have hs:bg H (.sl b (0+(j+1)*sz) (n-(j+1)) (cap-(j+1)) 0 sz)=aa (n-(j+1)):=by simp [bg,s]
   have Z:(j+1)*sz+(n-(j+1))*sz=n*sz:=by rw [←ajy];congr 1;omega
   have E:cH H sz (.sl b (0+(j+1)*sz) (n-(j+1)) (cap-(j+1)) 0 sz)=aa (rows.drop (j+1)).flatten:=by
    simp only [cH,s];have z:(rows.flatten++rest).length=rows.flatten.length+rest.length:=ai7;have e:((rows.flatten++rest).drop (0+(j+1)*sz)).take ((n-(j+1))*sz)=(rows.drop (j+1)).flatten:=by
     rw [ajX,aka (by omega),ajG (by rw [ajm];omega),kU (j+1) A,ajl (by omega)]
    rw [e];rw [ba (by rw [z];omega)]
   simp only [de,hs,E]
 obtain⟨B,N,x⟩:=N;have i:bG H sz (.c (.sl b 0 n cap 0 sz)) ab (aa (vi j)) ab=aa (.c (.sl b 0 j cap 0 sz)):=by
  simp only [bG,s,ug cap (show j≤cap by omega)];rw [aR (by omega)];simp
 have h:bG H sz (.c (.sl b 0 n cap 0 sz)) (aa (vi j)) (aa (vi (j+1:Nat))) (aa (vi n))=aa (.c (.sl b (0+j*sz) (j+1-j) (n-j) 0 sz)):=by
  simp only [bG,s,rC (show j≤j+1 by omega) (show j+1≤n by omega) u];rw [aR (by omega)]
 have U:bD H sz bytes (.c (.sl b 0 j cap 0 sz)) B=aa (.c (.sl b 0 (n-1) cap 0 sz),H.set b (.box g 0)):=by
  simp only [bD,x,s];rw [aR (by omega),ba (show j+(n-(j+1))≤cap by omega),ba ⟨akh _,by rw [X,l];omega⟩];simp only [ajX,←q];rw [show j+(n-(j+1))=n-1 by omega]
 have k:bG (H.set b (.box g 0)) sz (.c (.sl b 0 (n-1) cap 0 sz)) (aa (vi (n-1:Nat))) (aa (vi n)) ab=aa (.c (.sl b (0+(n-1)*sz) (n-(n-1)) (cap-(n-1)) 0 sz)):=by
  simp only [bG,m,uf (show n-1≤n by omega) u];rw [aR (by omega)]
 have cl:jf (H.set b (.box g 0)) sz zs (.c (.sl b (0+(n-1)*sz) (n-(n-1)) (cap-(n-1)) 0 sz))=aa (H.set b (.box ((rows.eraseIdx j).flatten++d) 0)):=by
  have hs:bg (H.set b (.box g 0)) (.sl b (0+(n-1)*sz) (n-(n-1)) (cap-(n-1)) 0 sz)=aa 1:=by simp [bg,m];omega
  simp only [jf,hs,M,if_true,m];have K:cB 1 zs=zs:=by simp [cB]
  rw [K];simp only [di,m,ajf,M,ajX];rw [ba ⟨akh _,by omega⟩,S,List.set_set]
 obtain⟨r,H',Y,rfl,rfl⟩:=yw W I (by omega) (by simp [bg,s]) h i N U (by simp [bg,m]) k cl;exact⟨_,_,Y,rfl,d,rfl,by rw [J,l]⟩
theorem XN(a:tab F=aa (abU sz bytes zs))(Q:0<sz)(S:zs.length=sz){b d j:Nat}{rows:List (List C)}{rest:List C}(A:qf sz rows)(q:H[b]?=aa (.cE sz (rows.flatten++rest) 0 d .loc))(I:j<rows.length)(J:0<j)(X:rows.length≤1000000) :
  ∃ r H',Ev tab (.fn F) [.c (.sl b 0 rows.length 0 d sz),vi j,vi (j+1:Nat)] H r H'∧(r=.c (.sl b 0 (rows.length-1) 0 d sz)∧∃ g,H'[b]?=aa (.cE sz ((rows.eraseIdx j).flatten++g) 0 d .loc)∧H'.length=H.length∧∀ i:Nat,i≠b→H'[i]?=H[i]?):=by
 obtain⟨n,x⟩:=aL (rows.length);have E:=cX A;rw [←x]at I E X ⊢;have h:(rows.drop (j+1)).flatten.length=(n-(j+1))*sz:=by
  rw [cX fun r O=>A r (ajJ O),ajm,x]
 obtain⟨g,Y,a7⟩:=uj (ys:=zs.map C.f) (rest:=rest) A x.symm I (by rw [ajf,S]);have p:j*sz+(n-(j+1))*sz≤n*sz:=by rw [←ajy];exact ajH sz (by omega)
 have w:(n-1)*sz+sz≤n*sz:=by
  have:(n-1+1)*sz=n*sz:=by congr 1;omega
  rw [ajy,akV]at this;omega
 have t:j*sz+sz≤n*sz:=by rw [←alf];exact ajH sz (by omega)
 obtain⟨v,l⟩:=aL (over (rows.flatten++rest) (j*sz) (rows.drop (j+1)).flatten);have m:(rows.flatten++rest).length=rows.flatten.length+rest.length:=ai7;have L:v.length=(rows.flatten++rest).length:=by
  rw [l];simp only [over,ai7,ajF,ajm];omega
 rw [←l]at Y;have U:∃ W u,bG H sz (.c (.sl b 0 n 0 d sz)) (aa (vi (j+1:Nat))) ab ab=aa W∧bD H sz bytes (.c (.sl b 0 j 0 d sz)) W=aa (.c (.sl b 0 (n-1) 0 d sz),u)∧u[b]?=aa (.cE sz v 0 d .loc)∧u.length=H.length∧∀ i:Nat,i≠b→u[i]?=H[i]?:=by
  by_cases f:j+1=n
  ·refine⟨.c (.f (.fs [] 0)),H,?_,?_,?_,rfl,fun _ _=>rfl⟩
   ·simp only [bG,q,and_self,if_true,lW (show j+1≤n by omega)];rw [aR (by simp),ba ⟨f,by omega⟩]
   ·have c:de H sz (.c (.f (.fs [] 0)))=aa (0,[]):=by simp [de,bg,cH]
    simp only [bD,c,q,and_self,if_true];rw [aR (by omega),show j=n-1 by omega]
   ·have:rows.drop (j+1)=[]:=aku (by omega);rw [l,this];simp only [over,List.flatten_nil,ajP,akC,Nat.add_zero,ajR];exact q
  ·have hs:bg H (.sl b (0+(j+1)*sz) (n-(j+1)) 0 d sz)=aa (n-(j+1)):=by simp [bg,q]
   have o:(j+1)*sz+(n-(j+1))*sz=n*sz:=by rw [←ajy];congr 1;omega
   have B:cH H sz (.sl b (0+(j+1)*sz) (n-(j+1)) 0 d sz)=aa (rows.drop (j+1)).flatten:=by
    have e:((rows.flatten++rest).drop (0+(j+1)*sz)).take ((n-(j+1))*sz)=(rows.drop (j+1)).flatten:=by
     rw [ajX,aka (by omega),ajG (by rw [ajm];omega),kU (j+1) A,ajl (by omega)]
    simp only [cH,q,e];rw [ba ⟨trivial,trivial,by rw [m];omega⟩]
   have y:de H sz (.c (.sl b (0+(j+1)*sz) (n-(j+1)) 0 d sz))=aa (n-(j+1),(rows.drop (j+1)).flatten):=by simp only [de,hs,B]
   refine⟨.c (.sl b (0+(j+1)*sz) (n-(j+1)) 0 d sz),H.set b (.cE sz v 0 d .loc),?_,?_,If (aj q),by simp,fun i hi=>by rw [sh (Ne.symm hi)]⟩
   ·simp only [bG,q,and_self,if_true,lW (show j+1≤n by omega)];rw [aR (by simp),aR (by omega),aR (by simp)]
   ·simp only [bD,y,q,and_self,if_true];rw [aR (by omega),aR (by omega),aR (by rw [m];omega),ba ⟨trivial,akh _,by rw [h,m];omega⟩];simp only [ajX,←l];rw [show j+(n-(j+1))=n-1 by omega]
 obtain⟨W,u,U,Z,s,M,K⟩:=U;have s2:bG H sz (.c (.sl b 0 n 0 d sz)) ab (aa (vi j)) ab=aa (.c (.sl b 0 j 0 d sz)):=by
  simp only [bG,q,and_self,if_true,ug n (show j≤n by omega)];rw [aR (by simp),aR (by omega),aR (by simp)];simp
 have s1:bG H sz (.c (.sl b 0 n 0 d sz)) (aa (vi j)) (aa (vi (j+1:Nat))) (aa (vi n))=aa (.c (.sl b 0 0 0 d (sz+1))):=by
  simp only [bG,q,and_self,if_true,rC (show j≤j+1 by omega) (show j+1≤n by omega) (ai8 n)];rw [aR (by omega),aR (by omega)];simp [J]
 have s5:bG u sz (.c (.sl b 0 (n-1) 0 d sz)) (aa (vi (n-1:Nat))) (aa (vi n)) ab=aa (.c (.sl b (0+(n-1)*sz) (n-(n-1)) 0 d sz)):=by
  have N:bE (n-1) (n-1) (aa (vi (n-1:Nat))) (aa (vi n)) ab=ab:=by
   have:wR (vi (n:Nat)) (n-1)=ab:=by simp [wR,fS];omega
   simp [bE,this]
  have z:n≤(v.length-0) / sz:=by rw [Nat.le_div_iff_mul_le Q,Nat.sub_zero,L,m];omega
  simp only [bG,s,and_self,if_true,N,uf (show n-1≤n by omega) z];rw [ba ⟨by omega,by omega⟩]
 have cl:jf u sz zs (.c (.sl b (0+(n-1)*sz) (n-(n-1)) 0 d sz))=aa (u.set b (.cE sz ((rows.eraseIdx j).flatten++g) 0 d .loc)):=by
  have hs:bg u (.sl b (0+(n-1)*sz) (n-(n-1)) 0 d sz)=aa 1:=by simp [bg,s];omega
  have O:cB 1 zs=zs:=by simp [cB]
  simp only [jf,hs,S,if_true,s,and_self,O];simp only [bu,s,akh,true_and,ajf,S,ajX];rw [ba (by omega),Y]
 obtain⟨r,H',k,rfl,rfl⟩:=yw a I X (by simp [bg,q]) s1 s2 U Z (by simp [bg,s]) s5 cl;exact⟨_,_,k,rfl,g,If (by have:=aj q;omega),by simp [M],fun i hi=>by rw [sh (Ne.symm hi),K i hi]⟩
end
end
section
variable(Q:Program)(pr:Nat)(hs:List Nat)
def Yp(f:Nat):Nat:=if f=pr then vY else f
def BS(f:Nat):FuncId:=if f=vY then pr else f
def kV1:Value→Option FC
 | .bool b=>aa (.bool b)| .int k n=>aa (.int k n)| .string s=>aa (.str s)| .pointer ab=>aa .sH| .slice ab 0 0=>aa .aA| .map ab=>aa .oV| .nilFunc=>aa .jY| .nilIface=>aa .nP| _=>ab
def kV:Value→Option V
 | .agg cs=>(aZ kV1 cs.toList).map fun xs=>.a (xs.map .f)
 | .tuple cs=>if cs.isEmpty then aa .top else ab| v=>(kV1 v).map fun x=>.c (.f x)
def kA:Operand→Option Arg
 | .tmp t=>aa (.r (.nat t))| .const v=>(kV v).map .k| .func f=>aa (.k (.c (.f (.fn (Yp pr f) []))))| _=>ab
def kO:Option Operand→Option (Option Arg)
 | none=>aa ab| some x=>(kA pr x).map aa
def Ak(t:TypeId):Option Nat:=(Q.info? t).map (·.size)
def kBy(t:TypeId):Option Nat:=(Q.info? t).map (·.bytes)
def kZ(t:TypeId):Option (List FC):=do aZ kV1 (←(←Q.info? t).zero).cells.toList
def kAg(t:TypeId):Option (Option Nat):=match Q.underlying t with
 | some (.struct _) | some (.array _ _)=>(Ak Q t).map aa| some _=>aa ab| none=>ab
def kCK(t:TypeId):Option CK:=match Q.underlying t with
 | some (.int _)=>aa .int| some .string=>aa .str| some .bool=>aa .bool| _=>ab
def kEq(t:TypeId):Option II:=match Q.underlying t with
 | some .bool=>aa .bool| some (.pointer _)=>aa .ptr| some (.slice _)=>aa .sl| some (.func _ _ _)=>aa .fn| some (.interface _)=>aa .ifc| some (.struct _)=>(gE Q 20 t).map .st| _=>ab
def af3(c:Call):Option cY:=
 let A:=kA pr
 let u:=Q.underlying (c.argTypes.getD 0 0)
 let x:=A (c.args.getD 0 default)
 match c.callee with
 | .builtin .len=>match u with
  | some (.slice _)=>do pure (.len (←x))
  | some .string=>do pure (.lens (←x))
  | some (.array n _)=>aa (.oL n)| _=>ab
 | .builtin .append=>match u,Q.underlying (c.argTypes.getD 1 0)with
  | some (.slice e),aa (.int _)=>do pure (.lU (←Ak Q e) (←kBy Q e) (←kZ Q e) (←x) (←A (c.args.getD 1 default)))
  | some (.slice e),_=>do pure (.append (←Ak Q e) (←kBy Q e) (←x) (←A (c.args.getD 1 default)))
  | _,_=>ab
 | .builtin .max=>do pure (.fT ag (←aZ A c.args.toList))
 | .builtin .min=>do pure (.fT ae (←aZ A c.args.toList))
 | .builtin .cap=>do pure (.cap (←x))
 | .builtin .clear=>match u with
  | some (.slice e)=>do pure (.clear (←Ak Q e) (←kZ Q e) (←x))
  | _=>ab
 | .builtin .recover=>aa .recover| .value (.func f)=>do pure (.call (Yp pr f) (←aZ A c.args.toList) (hs.contains f))
 | .value y=>do pure (.bT (←A y) (←aZ A c.args.toList) ae)
 | _=>ab
def kOp(o:Op):Option cY:=
 let A:=kA pr
 let U:=Q.underlying
 let ps (l:Array (Nat × Operand)):=aZ (fun p:Nat × Operand=>(A p.2).map fun x=>(p.1,x)) l.toList
 match o with
 | .move x | .assign x=>do pure (.cU (←A x))
 | .pick c a b=>do pure (.pick (←A c) (←A a) (←A b))
 | .alloc t=>do pure (.alloc (←kZ Q t))
 | .box _ x=>do pure (.box (←A x))
 | .build t l=>match U t with
  | some (.struct j)=>do pure (.build (←kZ Q t) (←aZ (fun p:Nat × Operand=>do
    let f ←j[p.1]?
    pure (f.offset,←Ak Q f.type,←A p.2)) l.toList))
  | some (.array _ e)=>do
    let s ←Ak Q e
    pure (.build (←kZ Q t) (←aZ (fun p:Nat × Operand=>do pure (p.1*s,s,←A p.2)) l.toList))
  | _=>ab
 | .buildSlice t n l=>match U t with
  | some (.slice e)=>do pure (.bQ (←Ak Q e) (←kZ Q e) n (←ps l))
  | _=>ab
 | .load t x=>do pure (.load (←kAg Q t) (←A x))
 | .store t x y=>do pure (.store (←Ak Q t) (←A x) (←A y))
 | .nilCheck x=>do pure (.dE (←A x))
 | .binOp op t x y _=>do
  let a ←A x
  let b ←A y
  pure (match if op=.eql∨op=.neq then kEq Q t else ab with
  | some k=>.eq (op=.neq) k a b
  | none=>.bin op a b)
 | .unOp op _ x=>do pure (.un op (←A x))
 | .convert s d x=>match U s,U d with
  | some (.int _),aa (.int k)=>do pure (.jm k (←A x))
  | some .string,aa .string=>do pure (.z6 (←A x))
  | some (.slice _),aa .string=>do pure (.yv (←A x))
  | _,_=>ab
 | .makeFunc (.func f) fst g=>if fst.isEmpty then do pure (.iQ (Yp pr f) (←aZ A g.toList))else do pure (.yW (Yp pr f) (←aZ A fst.toList))
 | .makeMap _ ab=>aa .jX
 | .makeSlice t l c=>match U t with
  | some (.slice e)=>do pure (.dD (←Ak Q e) (←kBy Q e) (←kZ Q e) (←A l) (←A c))
  | _=>ab
 | .slice t x lo hi mx=>match U t with
  | some (.slice e)=>match lo,hi,mx with
   | none,aa hi,aa mx=>do pure (.qP (←Ak Q e) (←A x) (←A hi) (←A mx))
   | _,_,_=>do pure (.slice (←Ak Q e) (←A x) (←kO pr lo) (←kO pr hi) (←kO pr mx))
  | some .string=>do pure (.qH (←A x) (←kO pr lo) (←kO pr hi))
  | some (.array n e)=>do pure (.pj n (←Ak Q e) (←A x) (←kO pr lo) (←kO pr hi) (←kO pr mx))
  | _=>ab
 | .fieldAddr t x i=>match U t with
  | some (.struct j)=>do pure (.bB (←j[i]?).offset (←A x))
  | _=>ab
 | .field t x i=>match U t with
  | some (.struct j)=>do
   let f ←j[i]?
   pure (.field f.offset (←kAg Q f.type) (←A x))
  | _=>ab
 | .indexAddr t x i=>match U t with
  | some (.slice e)=>do pure (.bI (←Ak Q e) ab (←A x) (←A i))
  | some (.array n e)=>do pure (.bI (←Ak Q e) (aa n) (←A x) (←A i))
  | _=>ab
 | .index t x i=>match U t with
  | some .string=>do pure (.idxs (←A x) (←A i))
  | some (.array n e)=>do pure (.yF n (←Ak Q e) (←kAg Q e) (←A x) (←A i))
  | _=>ab
 | .lookup t m k ok=>match U t with
  | some (.map kt e)=>do
   let zs ←kZ Q e
   let z ←match ←kAg Q e,zs with
    | some _,_=>aa (FC.fn zQ zs)| none,[z]=>aa z| _,_=>ab
   pure (.lookup (←kCK Q kt) (if ok then .fp [z] 77 else z) (←A m) (←A k))
  | _=>ab
 | .mapUpdate t m k v=>match U t with
  | some (.map kt _)=>do pure (.lN (←kCK Q kt) (←A m) (←A k) (←A v))
  | _=>ab
 | .range t x=>match U t with
  | some .string=>do pure (.range (←A x))
  | some (.map _ _)=>do pure (.mz (←A x))
  | _=>ab
 | .next x s=>(A x).map (if s then .next else .qE)| .extract x i=>do pure (.extract (←A x) i)
 | .entry x=>do pure (.entry (←A x))
 | .call c=>af3 Q pr hs c
 | .defer c=>match c.callee with
  | .value x=>do pure (.defer (←A x) (←aZ A c.args.toList))
  | _=>ab
 | _=>ab
def aif(ops:Array Oper):List aO:=ops.toList.map fun o=>
 ⟨o.dst.map .nat,(kOp Q pr hs o.op).getD .bad,match o.guard with
  | some (j,w)=>((ops[j]?).bind (·.dst)).map fun d=>(.nat d,w)
  | none=>ab⟩
def aie(ops:Array Oper)(aos:List aO)(b:Bool):List (Nat × Nat):=
 if !b then []else
 let d:=dx ops.toList []
 (List.range aos.length).flatMap fun i=>match aos[i]? with
  | some x=>if cls x.op=.r then((lG aos++[aos.length]).filter fun e=>!(e == phase aos i||!yR d aos i e)).map fun e=>(i,e)else []
  | none=>[]
def Yq(n i:Nat)(ops:Array Oper)(b:Bool)(aos:List aO)(d:av):av:=
 let c:=.region aos (aie ops aos b)
 if bL Q (BS pr) n (.region i ops b) c then c else d
def kC(n:Nat):Code→av
 | .skip=>.skip
 | .region i ops d=>let aos:=aif Q pr hs ops
  Yq Q pr n i ops d aos (Yq Q pr n i ops d (aos.map fun a=>match a.op with | .bQ s z n ps=>{ a with op:=.ji s z n ps } | _=>a) .bad)
 | .seq a b=>.seq (kC n a) (kC n b)
 | .cond c a b=>match kA pr c with
  | some j=>if mA (BS pr) j c then .cond j (kC n a) (kC n b)else .bad| none=>.bad
 | .block i a=>.block i (kC n a)| .loop a=>.loop (kC n a)
 | .rangeFunc f ps a b=>match kA pr f with
  | some m=>let g:=ps.toList.map .nat
   if mA (BS pr) m f&&fo (fun p (q:P)=>q.toNat == p&&decide (p<n)) ps.toList g then .gj m g (kC n a) (kC n b)else .bad
  | none=>.bad
 | .exit i=>.exit i| .ret=>.ret
 | .scope a=>let a':=kC n a
  if jd a' then .scope a' else .bad
 | .label l=>.label l| .goto l=>.goto l| .refuse _=>.bad
def kF(f:Func):Option aK:=f.body.bind fun b=>
 let rs:=f.results.toList.map fun | .tmp t=>gA.tmp (.nat t) | .cell a t=>.cell (.nat a) ((kAg Q t).getD ab)
 if f.name != "runtime.NumGoroutine"&&fo (tE Q f.ntmps) f.results.toList rs then aa ⟨(List.range (f.params.size+f.nfree)).map .nat,rs,kC Q pr hs f.ntmps b⟩else ab
def kT(f:Nat):Option aK:=if f=vY then ab else(Q.funcs[f]?).bind (kF Q pr hs)
theorem BT{n i:Nat}{ops:Array Oper}{b:Bool}{aos:List aO}{d:av}(h:bL Q (BS pr) n (.region i ops b) d=ae):bL Q (BS pr) n (.region i ops b) (Yq Q pr n i ops b aos d)=ae:=by
 unfold Yq;dsimp only;split<;>assumption
theorem nJ{n:Nat}{c:Code}:bL Q (BS pr) n c .bad=ae:=by cases c<;>rfl
theorem oI(n:Nat):∀ c:Code,bL Q (BS pr) n c (kC Q pr hs n c)=ae
 | .skip | .exit _ | .ret | .label _ | .goto _=>by simp [kC,bL]
 | .refuse _=>nJ Q pr| .region i ops d=>BT Q pr (BT Q pr (nJ Q pr))| .seq a b=>by simp [kC,bL,oI n a,oI n b]
 | .cond c a b=>by
  unfold kC;split
  ·split
   ·simp [bL,oI n a,oI n b, *]
   ·exact nJ Q pr
  ·exact nJ Q pr
 | .block i a | .loop a=>by simp [kC,bL,oI n a]
 | .rangeFunc f ps a b=>by
  unfold kC;split
  ·dsimp only;split
   ·rename_i h;simp only [BY]at h;simp only [bL,oI n a,oI n b,h.1,h.2,Bool.and_self]
   ·exact nJ Q pr
  ·exact nJ Q pr
 | .scope a=>by
  unfold kC;dsimp only;split
  ·simp [bL,oI n a, *]
  ·exact nJ Q pr
theorem af4{f:Func}{a:aK}(h:kF Q pr hs f=aa a):uO Q (BS pr) f a=ae:=by
 unfold kF at h;rw [ajx]at h;obtain⟨b,g,h⟩:=h;dsimp only at h;split at h
 ·rename_i d;cases h;simp only [BY]at d;simp only [uO,g,oI,d.1,d.2,Bool.and_self,Bool.true_and,decide_eq_true_eq,List.map_map,ajf,List.length_range];refine(List.map_congr_left fun n _=>fP n).trans (List.map_id _)
 ·cases h
theorem aac{f:Nat}{a:aK}(h:kT Q pr hs f=aa a):∃ fn,Q.funcs[BS pr f]?=aa fn∧uO Q (BS pr) fn a=ae:=by
 unfold kT at h;split at h
 ·cases h
 ·rename_i g;rw [ajx]at h;obtain⟨fn,b,d⟩:=h;exact⟨fn,by rw [BS,aR g];exact b,af4 Q pr hs d⟩
inductive LT where
 | e
 | n (l:LT) (k:Nat) (a:aK) (r:LT)
def LT.get:LT→Nat→Option aK
 | .e,_=>ab| .n l k a r,f=>bif Nat.beq f k then aa a else bif Nat.ble f k then l.get f else r.get f
inductive LT.Z7:LT→Prop
 | e:LT.Z7 .e
 | n {l:LT} {k:Nat} {a:aK} {r:LT} (hl:LT.Z7 l) (h:kT Q pr hs k=aa a) (hr:LT.Z7 r):LT.Z7 (.n l k a r)
theorem LT.Z7.get:∀ {t:LT} {f:Nat} {a:aK},LT.Z7 Q pr hs t→t.get f=aa a→kT Q pr hs f=aa a
 | .e,_,_,_,h=>by cases h
 | .n l k b r,f,a,.n hl j m,h=>by
  unfold LT.get at h;cases d:Nat.beq f k with
  | true=>
   rw [d]at h;cases h;rw [Nat.eq_of_beq_eq_true d];exact j
  | false=>
   rw [d]at h;cases g:Nat.ble f k with
   | true=>rw [g]at h;exact hl.get h| false=>rw [g]at h;exact m.get h
end
def LT.fn(t:LT)(Q:Program)(pr:Nat)(hs:List Nat)(f:Nat):Option aK:=match t.get f with
 | some a=>aa a| none=>kT Q pr hs f
def LT.tb(t:LT)(Q:Program)(pr:Nat)(hs:List Nat):TB where
 get:=t.fn Q pr hs
 wT:=fun f args H=>match t.fn Q pr hs f with
  | some _=>ab| none=>Km.wT f args H
 ok:=fun f a h args H=>by simp [h]
theorem LT.env{t:LT}{Q:Program}{pr:Nat}{hs:List Nat}(h:LT.Z7 Q pr hs t)(d:Q.follows .mixedOrders=ae)(g:Q3 Q (BS pr) Km.wT):Env Q (BS pr) (t.tb Q pr hs).get (t.tb Q pr hs).wT:=by
 refine⟨d,fun f a b=>?_,fun f args H r H' b=>?_⟩
 ·have b:t.fn Q pr hs f=aa a:=b;unfold LT.fn at b;split at b
  ·rename_i e;cases b;exact aac _ _ _ (h.get _ _ _ e)
  ·exact aac _ _ _ b
 ·have b:(match t.fn Q pr hs f with
  | some _=>ab
  | none=>Km.wT f args H)=aa (aa (r,H')):=b
  split at b
  ·cases b
  ·exact g f args H r H' b
end Km
