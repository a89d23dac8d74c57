/-
  Our own small machine for Go code by value, held sk the model: part 5. No program in D1.
-/
import Derived.Test.YthkmdpgdicohdaaGreatK4
import Derived.Test.YthkmdpgdicohdaaGreatK3
import Derived.Test.YthkmdpgdicohdaaGreatK1
open Option renaming some → aa,none → ab
open Bool renaming true → ae,false → ag
open List renaming length_append → ank, length_map → anq, length_eq_zero_iff → aoe, length_nil → aoU, drop_append → ape, drop_of_length_le → aoL, getElem?_set_self → BY, flatten_append → aoy, length_drop → anE, getElem?_set_ne → sh, getElem?_eq_getElem → By, map_append → aop, flatten_cons → anH, append_nil → an5, take_append_drop → an6, mem_of_mem_take → aoi, take_length → ant, getElem_mem → IS, mem_cons_of_mem → anp, mem_cons_self → anr, take_of_length_le → anA, nil_append → aof, mem_of_mem_drop → anY, length_take → anW, take_append_of_le_length → anS, drop_append_of_le_length → aoq
open Nat renaming succ_mul → apw, le_refl → anl, zero_le → aox, add_mul → anM, mul_le_mul_right → anX, zero_add → aoa, one_mul → ao4
open Bool renaming and_eq_true → If
open Option renaming bind_eq_some_iff → anN
set_option linter.unusedVariables false
set_option linter.constructorNameAsVariable false
set_option linter.unusedSimpArgs false
set_option linter.unusedSectionVars false
set_option maxRecDepth 100000
namespace Km
open Go
section
set_option linter.unusedVariables false
def agh(sz bytes:Nat)(zs:List FC):aw:=yr [yn 7 (.bad),⟨ab,.bad,ab⟩]
def ab4(sz bytes:Nat)(zs:List FC):aw:=yr [ym 17 0,ym 18 0,yn 19 (.cap (R 18)),yn 20 (.slice sz (R 17) ab (aa (R 19)) ab),ym 21 1,yn 22 (.me sz bytes zs (R 20) (R 21)),ym 23 0,yn 24 (.len (R 23)),yn 25 (.slice sz (R 22) ab (aa (R 24)) ab),ym 0 25]
def ab3(sz bytes:Nat)(zs:List FC):aw:=.seq (yr [ym 15 1,yn 16 (.bin .gtr (R 15) (yi 0))]) (.cond (R 16) (ab4 sz bytes zs) .skip)
def ab5(sz bytes:Nat)(zs:List FC):aw:=.seq (yr [ym 26 0,ym 4 26]) .ret
def agi(sz bytes:Nat)(zs:List FC):aw:=.seq (.seq (yr [ym 8 1,ym 9 0,yn 10 (.cap (R 9)),ym 11 0,yn 12 (.len (R 11)),yb 13 .sub 10 12,yb 14 .sub 8 13,ym 1 14]) (ab3 sz bytes zs)) (ab5 sz bytes zs)
def agf(sz bytes:Nat)(zs:List FC):aw:=.seq (.seq (yr [ym 5 1,yn 6 (.bin .lss (R 5) (yi 0))]) (.cond (R 6) (agh sz bytes zs) .skip)) (agi sz bytes zs)
def age(sz bytes:Nat)(zs:List FC):aw:=.seq (yr [yn 4 (.cX (.k (.c (.f .aC))))]) (agf sz bytes zs)
def ad6(sz bytes:Nat)(zs:List FC):aK:=⟨[P.nat 0,P.nat 1],[.tmp (P.nat 4)],(age sz bytes zs)⟩
def JP(G sz bytes:Nat):aw:=yr [yn 21 (.bad),⟨ab,.bad,ab⟩]
def JO(G sz bytes:Nat):aw:=.seq (yr [ym 19 3,yn 20 (.bin .lss (R 19) (yi 0))]) (.cond (R 20) (JP G sz bytes) .skip)
def JN(G sz bytes:Nat):aw:=.seq (yr [ym 15 3,ym 16 5,yn 17 (.len (R 16)),yb 18 .add 15 17,ym 3 18]) (JO G sz bytes)
def JL(G sz bytes:Nat):aw:=.seq (yr [ya 13 1 9 11,yn 14 (.load ab (R 13)),ym 5 14]) (JN G sz bytes)
def JQ(G sz bytes:Nat):aw:=yr [yn 22 (.bin .add (R 11) (yi 1)),ym 11 22]
def JJ(G sz bytes:Nat):aw:=.seq (.block 1 (JL G sz bytes)) (JQ G sz bytes)
def JI(G sz bytes:Nat):aw:=.seq (.cond (R 12) .skip (.exit 0)) (JJ G sz bytes)
def Vw(G sz bytes:Nat):aw:=.seq (yr [yb 12 .lss 11 10]) (JI G sz bytes)
def JY(G sz bytes:Nat):aw:=yr [ym 31 6,ym 32 8,yn 33 (.append sz bytes (R 31) (R 32)),ym 6 33]
def JX(G sz bytes:Nat):aw:=.seq (yr [ya 29 1 25 27,yn 30 (.load ab (R 29)),ym 8 30]) (JY G sz bytes)
def JZ(G sz bytes:Nat):aw:=yr [yn 34 (.bin .add (R 27) (yi 1)),ym 27 34]
def JW(G sz bytes:Nat):aw:=.seq (.block 3 (JX G sz bytes)) (JZ G sz bytes)
def JV(G sz bytes:Nat):aw:=.seq (.cond (R 28) .skip (.exit 2)) (JW G sz bytes)
def JU(G sz bytes:Nat):aw:=.seq (yr [yb 28 .lss 27 26]) (JV G sz bytes)
def JT(G sz bytes:Nat):aw:=.block 2 (.loop (JU G sz bytes))
def J6(G sz bytes:Nat):aw:=.seq (yr [ym 35 6,ym 2 35]) .ret
def JS(G sz bytes:Nat):aw:=.seq (.seq (yr [ym 25 0,yn 26 (.len (R 25)),yn 27 (.cX (yi 0))]) (JT G sz bytes)) (J6 G sz bytes)
def JR(G sz bytes:Nat):aw:=.seq (yr [ym 23 3,yn 24 (.call G [(.k (.c (.f .aC))),R 23] ae),ym 6 24]) (JS G sz bytes)
def Vv(G sz bytes:Nat):aw:=.seq (.seq (yr [ym 9 0,yn 10 (.len (R 9)),yn 11 (.cX (yi 0))]) (.block 0 (.loop (Vw G sz bytes)))) (JR G sz bytes)
def Vu(G sz bytes:Nat):aw:=.seq (yr [yn 3 (.cX (yi 0))]) (Vv G sz bytes)
def Vt(G sz bytes:Nat):aw:=.seq (yr [yn 2 (.cX (.k (.c (.f .aC))))]) (Vu G sz bytes)
def abI(G sz bytes:Nat):aK:=⟨[P.nat 0],[.tmp (P.nat 2)],(Vt G sz bytes)⟩
section
variable{tab:TB}{F G sz bytes:Nat}{zs:List FC}{H:an}
theorem adU(t:T)(H:an)(sz bytes:Nat)(zs:List FC)(x n:Arg):bE t H (.me sz bytes zs x n)=zS H sz bytes zs (x.ev t) (n.ev t):=rfl
theorem K3{d:Type}(n:Nat)(xs:List d):(cQ n xs).length=n*xs.length:=by
 induction n with
 | zero=>simp [cQ]
 | succ n b=>
  have:cQ (n+1) xs=xs++cQ n xs:=by simp [cQ,List.replicate_succ]
  rw [this,ank,b,apw,Nat.add_comm]
def GR(H:an)(c:C)(sz n:Nat)(rows:List (List FC)):Prop:=(n=0∧rows=[]∧c=.f .aC)∨(0<n∧∃ b rest,c=.sl b 0 rows.length 0 0 sz∧H[b]?=aa (.cS sz (rows.flatten.map .f++rest) 0 0 .loc)∧(rows.flatten.map C.f++rest).length=n*sz)
theorem ab6(u:tab F=aa (ad6 sz bytes zs))(y:sz≠0)(m:zs.length=sz)(n:Nat)(z:n≤1000000)(b:cR n bytes=ae):∃ r H',Ev tab (.fn F) [.c (.f .aC),vi n] H r H' ∧
  ∃ c,r=.c c∧GR H' c sz n []∧(∀ i:Nat,i<H.length→H'[i]?=H[i]?)∧H.length≤H'.length∧∀ i,aV c=aa i→H.length≤i:=by
 refine cM (C:=fun r H'=>∃ c,r=.c c∧GR H' c sz n []∧(∀ i:Nat,i<H.length→H'[i]?=H[i]?)∧H.length≤H'.length∧∀ i,aV c=aa i→H.length≤i) u rfl fun Q l=>?_;apply ai;simp;apply au;apply ai;simp [show¬ (n:Int)<0 by omega];refine aX (by simp) ?_;apply au;apply ai;simp [bu,kv,wrap64 (n:=(0:Int)) (by decide) (by decide),aP (n:=(n:Int))];apply ai;simp;rcases Nat.eq_zero_or_pos n with rfl | x
 ·refine aX (by simp) ?_;apply ai;simp;exact aE (l _ _ (.c (.f .aC)) rfl (by simp [Km.results,aZ]) ⟨.f .aC,rfl,.inl ⟨rfl,rfl,rfl⟩,fun _ _=>rfl,anl _,fun _ h=>by cases h⟩)
 ·refine av (by simp;omega) ?_;have q:bM H sz (.c (.f .aC)) ab (aa (vi 0)) ab=aa (.c (.f .aC)):=rfl;have d:∃ cs:List C,cs.length=n*sz∧zS H sz bytes zs (.c (.f .aC)) (vi n)=aa (.c (.sl H.length 0 n 0 0 sz),H++[.cS sz cs 0 0 .loc]):=by
   refine⟨(cQ n zs).map .f,by rw [anq,K3,m],?_⟩;have hi:gA (vi n)=aa (n:Int):=rfl;simp [zS,hi,m,show¬ n=0 by omega,show¬ (n:Int)≤0 by omega,b]
  obtain⟨cs,j,d⟩:=d;have s:bM (H++[.cS sz cs 0 0 .loc]) sz (.c (.sl H.length 0 n 0 0 sz)) ab (aa (vi 0)) ab=aa (.c (.sl H.length 0 0 0 0 sz)):=by
   have v:bH n n ab (aa (vi ((0:Nat):Int))) ab=aa (0,0,n):=by simp only [bH,fx (aox n)];rfl
   have g:(H++[bV.cS sz cs 0 0 .loc])[H.length]?=aa (bV.cS sz cs 0 0 .loc):=by simp
   simp only [bM,g,and_self,if_true];rw [show(vi 0:V)=vi ((0:Nat):Int) from rfl,v];simp
  refine aq (.inl rfl) ?_;simp [bu,kv,q,adU,d,s];apply ai;simp;exact aE (l _ _ (.c (.sl H.length 0 0 0 0 sz)) rfl (by simp [Km.results,aZ]) ⟨_,rfl,.inr ⟨x,H.length,cs,rfl,by simp,by simpa using j⟩,fun i hi=>List.getElem?_append_left hi,by simp,fun i h=>by cases h;exact anl _⟩)
theorem GR.app{c:C}{n:Nat}{rows ys:List (List FC)}(h:GR H c sz n rows)(hg:bP sz rows)(hy:bP sz ys)(wg:sz≠0)(m:rows.length+ys.length≤n){x:C}(z:de H sz (.c x)=aa (ys.length,ys.flatten.map .f)) :
  ∃ j H',bF H sz bytes (.c c) (.c x)=aa (.c j,H')∧GR H' j sz n (rows++ys)∧aV j=aV c∧H'.length=H.length∧∀(i:Nat) y,H[i]?=aa y→aV c≠aa i→H'[i]?=aa y:=by
 rcases h with⟨rfl,rfl,rfl⟩ | ⟨E,b,rest,rfl,hb,d⟩
 ·have:ys=[]:=aoe.1 (by omega);subst this;exact⟨.f .aC,H,by simp only [bF,z,wg,if_false];simp,.inl ⟨rfl,rfl,rfl⟩,rfl,rfl,fun _ _ h _=>h⟩
 ·by_cases B:ys.length=0
  ·have:ys=[]:=aoe.1 B;subst this;refine⟨.sl b 0 rows.length 0 0 sz,H,?_,.inr ⟨E,b,rest,by simp,by simpa using hb,by simpa using d⟩,rfl,rfl,fun _ _ h _=>h⟩;simp only [bF,z,wg,if_false,hb,and_self,if_true,aoU]
  ·have u:rows.flatten.length=rows.length*sz:=cC hg;have g:ys.flatten.length=ys.length*sz:=cC hy;have A:rows.length*sz+ys.length*sz≤n*sz:=by rw [←anM];exact anX sz m
   have F:0<ys.length*sz:=Nat.mul_pos (by omega) (by omega);have s:over (rows.flatten.map C.f++rest) (rows.length*sz) (ys.flatten.map C.f)=(rows++ys).flatten.map C.f++rest.drop (ys.length*sz):=by
    have e:rows.length*sz=(rows.flatten.map C.f).length:=by rw [anq,u]
    simp only [over];rw [e,List.take_left,ape,anq,anq,g];rw [aoL (l:=rows.flatten.map C.f) (by rw [anq];omega)];simp
   have v:rest.length=n*sz-rows.length*sz:=by rw [ank,anq,u]at d;omega
   refine⟨.sl b 0 (rows.length+ys.length) 0 0 sz,H.set b (.cS sz ((rows++ys).flatten.map .f++rest.drop (ys.length*sz)) 0 0 .loc),?_,.inr ⟨E,b,rest.drop (ys.length*sz),by simp,BY (aj hb),?_⟩,rfl,by simp,fun i y hy q=>?_⟩
   ·simp only [bF,z,wg,if_false,hb,and_self,if_true,B];rw [aT (by rw [d];rintro⟨_,h,_⟩;omega),bf ⟨trivial,aox _,by rw [d,anq,g];omega⟩];simp only [aoa,s]
   ·rw [ank,anq,aoy,ank,anE,u,g,v];omega
   ·have:b≠i:=by rintro rfl;exact q rfl
    rw [sh this];exact hy
theorem GR.lr{c:C}{rows:List (List FC)}(h:GR H c sz rows.length rows)(hg:bP sz rows):LR H c sz rows:=by
 rcases h with⟨_,h1,rfl⟩ | ⟨g,b,rest,rfl,hb,d⟩
 ·rw [h1];exact LR.nil _ _
 ·have j:rows.flatten.length=rows.length*sz:=cC hg;have:rest=[]:=aoe.1 (by rw [ank,anq,j]at d;omega);subst this;exact .inr ⟨fun e=>by rw [e]at g;simp at g,b,0,rfl,by simpa [RB]using hb⟩
theorem vT(hT:tab F=aa (abI G sz bytes))(hG:tab G=aa (ad6 sz bytes zs))(S:sz≠0)(hz:zs.length=sz){b:Nat}(xs:List (C × List (List FC)))(hb:H[b]?=aa (.box (xs.map (·.1)) 0))(e_:xs.length≤1000000)
  (hx:∀ x ∈ xs,bP sz x.2∧∀ H':an,(∀ i:Nat,i<H.length→H'[i]?=H[i]?)→bu H' x.1=aa x.2.length∧de H' sz (.c x.1)=aa (x.2.length,x.2.flatten.map .f))
  (W:((xs.map (·.2)).flatten).length≤1000000) (d:cR ((xs.map (·.2)).flatten).length bytes=ae) :
  ∃ r H',Ev tab (.fn F) [.c (.sl b 0 xs.length xs.length 0 1)] H r H'∧∃ c,r=.c c∧LR H' c sz (xs.map (·.2)).flatten∧(∀ i:Nat,i<H.length→H'[i]?=H[i]?)∧H.length≤H'.length∧∀ i,aV c=aa i→H.length≤i:=by
 have M:=aj hb;have Y:∀(H':an),(∀ i:Nat,i<H.length→H'[i]?=H[i]?)→∀ j:Nat,(h:j<xs.length)→bC H' 1 ab (.c (.sl b 0 xs.length xs.length 0 1)) (vi j)=aa (.c (.ptr b j 0))∧aU H' ab (.c (.ptr b j 0))=aa (.c xs[j].1):=fun H' v j h=>by
  have m:H'[b]?=aa (.box (xs.map (·.1)) 0):=by rw [v b M];exact hb
  refine⟨?_,?_⟩
  ·simp [bC,show gA (vi j)=aa (j:Int) from rfl,m,h]
  ·simp [aU,aH,m,aW,h,List.drop_eq_getElem_cons]
 have Z:∀(H':an),(∀ i:Nat,i<H.length→H'[i]?=H[i]?)→bu H' (.sl b 0 xs.length xs.length 0 1)=aa xs.length:=fun H' v=>by
  have m:H'[b]?=aa (.box (xs.map (·.1)) 0):=by rw [v b M];exact hb
  simp [bu,m]
 have tk:∀ j (h:j<xs.length),((xs.take (j+1)).map (·.2)).flatten=((xs.take j).map (·.2)).flatten++xs[j].2:=fun j h=>by
  rw [List.take_add_one,By h];simp only [Option.toList_some,aop,List.map_cons,List.map_nil,aoy,anH,List.flatten_nil,an5]
 have d9:∀ j,((xs.take j).map (·.2)).flatten.length≤((xs.map (·.2)).flatten).length:=fun j=>by
  conv=>rhs;rw [←an6 j xs,aop,aoy,ank]
  omega
 have a7:∀ j,bP sz ((xs.take j).map (·.2)).flatten:=fun j r hr=>by
  obtain⟨l,hl,hr⟩:=List.mem_flatten.1 hr;obtain⟨x,c_,rfl⟩:=List.mem_map.1 hl;exact(hx x (aoi c_)).1 r hr
 refine cM (H:=H) (args:=[.c (.sl b 0 xs.length xs.length 0 1)]) (C:=fun r H'=>∃ c,r=.c c∧LR H' c sz (xs.map (·.2)).flatten∧(∀ i:Nat,i<H.length→H'[i]?=H[i]?)∧H.length≤H'.length∧∀ i,aV c=aa i→H.length≤i) hT rfl fun Q hQ=>?_;apply ai;simp;apply ai;simp;apply au;apply ai;simp [Z H fun _ _=>rfl];obtain⟨L,B⟩:∃ L:Nat→Nat,∀ j,L j=((xs.take j).map (·.2)).flatten.length:=⟨_,fun _=>rfl⟩
 have L0:L 0=0:=by rw [B];rfl
 have Ls:∀ j (h:j<xs.length),L (j+1)=L j+xs[j].2.length:=fun j h=>by rw [B,B,tk j h,ank]
 have Ll:∀ j,L j≤((xs.map (·.2)).flatten).length:=fun j=>by rw [B];exact d9 j
 have Le:L xs.length=((xs.map (·.2)).flatten).length:=by rw [B,ant]
 obtain⟨N,hN⟩:=aM (((xs.map (·.2)).flatten).length);rw [←hN]at W d Ll Le;refine b7 xs.length (fun j t J=>J=H∧t.g 0=.c (.sl b 0 xs.length xs.length 0 1)∧t.g 9=.c (.sl b 0 xs.length xs.length 0 1)∧t.g 3=vi (L j)) (by omega) (by decide) (by decide) (by simp) (by simp) ⟨rfl,by simp,by simp,by simp [L0]⟩ ?_ ?_
 ·rintro j t J u ⟨rfl,g0,g9,g3⟩ I z next
  obtain⟨i1,X⟩:=Y J (fun _ _=>rfl) j u;obtain⟨h2,h3⟩:=(hx _ (IS u)).2 J fun _ _=>rfl;have h5:=Ls j u;have h6:=Ll (j+1);obtain⟨x,A⟩:=aM (xs[j]);rw [←A]at X h2 h3 h5;refine ay ?_;apply ai;simp [I,g9,i1,X,-az];apply ai;simp [g3,h2,aP (n:=(L j:Int)+x.2.length)];apply ai;simp [show¬ (L j:Int)+x.2.length<0 by omega];exact aF (by simp) (aR (ax (next _ _ ⟨rfl,by simp [g0],by simp [g9],by simp [h5]⟩ (by simp [I]) (by simp [z]))))
 ·rintro t J ⟨rfl,g0,g9,g3⟩ - -;obtain⟨r,H2,s,c0,rfl,a8,O,c9,a_⟩:=ab6 (H:=J) hG S hz N (by omega) d;rw [Le]at g3;apply ai;simp [g3,s.eq];apply au;apply ai;simp [g0,Z H2 O];refine b7 xs.length (fun j t J'=>t.g 25=.c (.sl b 0 xs.length xs.length 0 1)∧∃ c,t.g 6=.c c∧GR J' c sz N ((xs.take j).map (·.2)).flatten∧(∀ i:Nat,i<J.length→J'[i]?=J[i]?)∧J.length≤J'.length∧∀ i,aV c=aa i→J.length≤i) (by omega) (by decide) (by decide) (by simp) (by simp) ⟨by simp,c0,by simp,by simpa using a8,O,c9,a_⟩ ?_ ?_
  ·rintro j t J' u ⟨y,c,g6,g,v,hl,q⟩ I z next
   obtain⟨i1,X⟩:=Y J' v j u;obtain⟨h2,h3⟩:=(hx _ (IS u)).2 J' v;have s:=(hx _ (IS u)).1;have h5:=Ls j u;have h6:=Ll (j+1);have U:=tk j u;obtain⟨x,A⟩:=aM (xs[j]);rw [←A]at X h2 h3 h5 U s;obtain⟨c',H',K,E,hs,d_,b_⟩:=g.app (bytes:=bytes) (a7 j) s S (by rw [←B];omega) h3;rw [←U]at E;refine ay ?_;apply ai;simp [I,y,i1,X,-az];refine aq (.inl rfl) ?_;simp [g6,K];refine ax (next _ _ ⟨by simp [y],c',by simp,E,fun i hi=>?_,by omega,fun i hi=>q i (by rw [←hs];exact hi)⟩ (by simp [I]) (by simp [z]));rw [←v i hi];have hy:J'[i]?=aa (J'[i]'(by omega)):=By (by omega);rw [hy];exact b_ i _ hy fun e=>by have:=q i e;omega
  ·rintro t J' ⟨y,c,g6,g,v,hl,q⟩ - -;rw [ant,hN]at g;have hg:=a7 xs.length;rw [ant]at hg;apply ai;simp [g6];exact aE (hQ _ _ (.c c) rfl (by simp [Km.results,aZ]) ⟨c,rfl,g.lr hg,v,hl,q⟩)
end
end
section
set_option linter.unusedVariables false
def aj0(sz bytes:Nat)(zs:List FC):aw:=.seq (yr [ym 17 0,ym 6 17]) .ret
def af9(sz bytes:Nat)(zs:List FC):aw:=.seq (yr [ym 32 0,ym 6 32]) .ret
def af8(sz bytes:Nat)(zs:List FC):aw:=.seq (yr [ym 27 0,ym 28 0,yn 29 (.len (R 28)),ym 30 7,yn 31 (.slice sz (R 27) (aa (R 29)) (aa (R 30)) ab),⟨ab,.clear sz zs (R 31),ab⟩]) (af9 sz bytes zs)
def af7(sz bytes:Nat)(zs:List FC):aw:=.seq (yr [ym 20 0,ym 21 1,yn 22 (.slice sz (R 20) ab (aa (R 21)) ab),ym 23 0,ym 24 2,yn 25 (.slice sz (R 23) (aa (R 24)) ab ab),yn 26 (.append sz bytes (R 22) (R 25)),ym 0 26]) (af8 sz bytes zs)
def af6(sz bytes:Nat)(zs:List FC):aw:=.seq (yr [ym 18 0,yn 19 (.len (R 18)),ym 7 19]) (af7 sz bytes zs)
def ajZ(sz bytes:Nat)(zs:List FC):aw:=.seq (.seq (yr [ym 14 1,ym 15 2,yb 16 .eql 14 15]) (.cond (R 16) (aj0 sz bytes zs) .skip)) (af6 sz bytes zs)
def ajY(sz bytes:Nat)(zs:List FC):aw:=.seq (yr [ym 8 0,ym 9 1,ym 10 2,ym 11 0,yn 12 (.len (R 11)),yn 13 (.slice sz (R 8) (aa (R 9)) (aa (R 10)) (aa (R 12)))]) (ajZ sz bytes zs)
def ajX(sz bytes:Nat)(zs:List FC):aw:=.seq (yr [yn 6 (.cX (.k (.c (.f .aC))))]) (ajY sz bytes zs)
def af5(sz bytes:Nat)(zs:List FC):aK:=⟨[P.nat 0,P.nat 1,P.nat 2],[.tmp (P.nat 6)],(ajX sz bytes zs)⟩
section
variable{tab:TB}{F sz bytes:Nat}{zs:List FC}{H:an}
theorem Ah(A:tab F=aa (af5 sz bytes zs)){c b:C}{j n:Nat}{J s u v:V}{d g:an}(K:j<n)(L:n≤1000000)(l:bu H c=aa n)(m:bM H sz (.c c) (aa (vi j)) (aa (vi (j+1:Nat))) (aa (vi n))=aa J)
  (E:bM H sz (.c c) ab (aa (vi j)) ab=aa s) (q:bM H sz (.c c) (aa (vi (j+1:Nat))) ab ab=aa u) (x:bF H sz bytes s u=aa (.c b,d)) (B:bu d b=aa (n-1)) (I:bM d sz (.c b) (aa (vi (n-1:Nat))) (aa (vi n)) ab=aa v) (cl:jI d sz zs v=aa g) :
  ∃ r H',Ev tab (.fn F) [.c c,vi j,vi (j+1:Nat)] H r H'∧(r=.c b∧H'=g):=by
 refine cM (H:=H) (args:=[.c c,vi j,vi (j+1:Nat)]) (C:=fun r H'=>r=.c b∧H'=g) A rfl fun Q z=>?_;apply ai;simp;have y:((j+1:Nat):Int)=(j:Int)+1:=by omega
 rw [y]at m q;apply ai;simp [l,m];apply au;apply ai;simp [show¬ (j:Int)=(j:Int)+1 by omega];refine aX (by simp) ?_;apply ai;simp [l];apply ai;simp [E,q,x];apply ai;simp [B,I,cl];apply ai;simp;exact aE (z _ _ _ rfl (dB (by simp)) ⟨rfl,rfl⟩)
def rp(sz:Nat)(rows:List (List C)):Prop:=∀ r ∈ rows,r.length=sz
theorem dp{sz:Nat}:∀ {rows:List (List C)},rp sz rows→rows.flatten.length=rows.length*sz
 | [],_=>by simp
 | r::g,h=>by
  have d:=dp (rows:=g) fun x b=>h x (anp _ b);rw [anH,ank,d,h r anr,List.length_cons,apw,Nat.add_comm]
theorem tG{sz:Nat}:∀ {rows:List (List C)} (k:Nat),rp sz rows→rows.flatten.take (k*sz)=(rows.take k).flatten
 | [],_,_=>by simp
 | r::b,0,_=>by simp
 | r::b,k+1,h=>by
  have j:=tG (rows:=b) k fun x g=>h x (anp _ g);have d:=h r anr;rw [anH,List.take_succ_cons,anH,List.take_append,d,apw,Nat.add_sub_cancel,j,anA (by omega)]
theorem kS{sz:Nat}:∀ {rows:List (List C)} (k:Nat),rp sz rows→rows.flatten.drop (k*sz)=(rows.drop k).flatten
 | [],_,_=>by simp
 | r::b,0,_=>by simp
 | r::b,k+1,h=>by
  have j:=kS (rows:=b) k fun x g=>h x (anp _ g);have d:=h r anr;rw [anH,List.drop_succ_cons,ape,d,apw,Nat.add_sub_cancel,j,aoL (by omega),aof]
theorem AS(A D ys:List C):over (A++D) A.length ys=A++ys++D.drop ys.length:=by
 simp only [over];rw [List.take_left,ape,aoL (by omega),aof,Nat.add_sub_cancel_left]
theorem vU{sz j n:Nat}{rows:List (List C)}{rest ys:List C}(g:rp sz rows)(m:rows.length=n)(H:j<n)(x:ys.length=sz):∃ b,over (over (rows.flatten++rest) (j*sz) (rows.drop (j+1)).flatten) ((n-1)*sz) ys=(rows.eraseIdx j).flatten++b∧((rows.eraseIdx j).flatten++b).length=(rows.flatten++rest).length:=by
 have l:(rows.drop (j+1)).flatten.length=(n-(j+1))*sz:=by
  rw [dp fun r s=>g r (anY s),anE,m]
 have E:(rows.take j).flatten.length=j*sz:=by
  rw [dp fun r s=>g r (aoi s),anW,m,Nat.min_eq_left (by omega)]
 have d:=dp g;have v:rows.eraseIdx j=rows.take j++rows.drop (j+1):=List.eraseIdx_eq_take_drop_succ _ _;obtain⟨q,B⟩:∃ q,n=j+1+q:=⟨n-j-1,by omega⟩
 subst B;have y:(j+1+q-(j+1))*sz=q*sz:=by congr 1;omega
 have z:(j+1+q-1)*sz=j*sz+q*sz:=by rw [←anM];congr 1;omega
 have A:(j+1+q)*sz=j*sz+sz+q*sz:=by rw [anM,anM,ao4]
 rw [m,A]at d;rw [y]at l;have F:over (rows.flatten++rest) (j*sz) (rows.drop (j+1)).flatten=(rows.take j).flatten++(rows.drop (j+1)).flatten++(rows.flatten++rest).drop (j*sz+q*sz):=by
  simp only [over,l];rw [anS (by omega),tG j g]
 have u:((rows.take j).flatten++(rows.drop (j+1)).flatten).length=j*sz+q*sz:=by rw [ank,E,l]
 refine⟨ys++((rows.flatten++rest).drop (j*sz+q*sz)).drop sz,?_,?_⟩
 ·rw [F,z,v,aoy];rw [←u,AS,x,List.append_assoc _ ys]
 ·rw [v,aoy,ank,u,ank,x,anE,anE,ank,d];omega
theorem vR{n k:Nat}(m:Nat)(h:k≤m):bH n m ab (aa (vi k)) ab=aa (0,k,m):=by simp [bH,fx h]
theorem mf{n m k:Nat}(h:k≤n):bH n m (aa (vi k)) ab ab=aa (k,n,m):=by simp [bH,fx h]
theorem vQ{n m j k:Nat}(h:j≤k)(b:k≤m):bH n m (aa (vi j)) (aa (vi k)) ab=aa (j,k,m):=by simp [bH,fx h,fx b]
theorem th{n m j k l:Nat}(h:j≤k)(b:k≤l)(d:l≤m):bH n m (aa (vi j)) (aa (vi k)) (aa (vi l))=aa (j,k,l):=by simp [bH,fx h,fx b,fx d]
theorem abO(W:tab F=aa (af5 sz bytes zs))(L:0<sz)(M:zs.length=sz){b cap j:Nat}{rows:List (List C)}{rest:List C}(A:rp sz rows)(s:H[b]?=aa (.box (rows.flatten++rest) 0))(l:(rows.flatten++rest).length=cap*sz)(I:j<rows.length)(o:cap≤1000000) :
  ∃ r H',Ev tab (.fn F) [.c (.sl b 0 rows.length cap 0 sz),vi j,vi (j+1:Nat)] H r H'∧(r=.c (.sl b 0 (rows.length-1) cap 0 sz)∧∃ d,H'=H.set b (.box ((rows.eraseIdx j).flatten++d) 0)∧((rows.eraseIdx j).flatten++d).length=cap*sz):=by
 obtain⟨n,v⟩:=aM (rows.length);have y:=dp A;rw [←v]at I y ⊢;have u:n≤cap:=by
  rw [ank,y]at l;exact Nat.le_of_mul_le_mul_right (show n*sz≤cap*sz by omega) L
 have Q:n*sz≤cap*sz:=anX sz u;have X:(rows.drop (j+1)).flatten.length=(n-(j+1))*sz:=by
  rw [dp fun r K=>A r (anY K),anE,v]
 obtain⟨d,S,J⟩:=vU (ys:=zs.map C.f) (rest:=rest) A v.symm I (by rw [anq,M]);have a:j*sz+(n-(j+1))*sz≤n*sz:=by rw [←anM];exact anX sz (by omega)
 have f:(n-1)*sz+sz≤n*sz:=by
  have:(n-1+1)*sz=n*sz:=by congr 1;omega
  rw [anM,ao4]at this;omega
 obtain⟨g,q⟩:=aM (over (rows.flatten++rest) (j*sz) (rows.drop (j+1)).flatten);have c:g.length=cap*sz:=by
  rw [q];simp only [over,ank,anW,anE];rw [ank]at l;omega
 rw [←q]at S;have m:(H.set b (.box g 0))[b]?=aa (.box g 0):=BY (aj s);have N:∃ B,bM H sz (.c (.sl b 0 n cap 0 sz)) (aa (vi (j+1:Nat))) ab ab=aa B∧de H sz B=aa (n-(j+1),(rows.drop (j+1)).flatten):=by
  simp only [bM,s,mf (show j+1≤n by omega)];by_cases O:cap=j+1
  ·rw [bf O];refine⟨_,rfl,?_⟩;have:rows.drop (j+1)=[]:=aoL (by omega);rw [this,show n-(j+1)=0 by omega];simp [de,bu,cV]
  ·rw [aT O];refine⟨_,rfl,?_⟩;have hs:bu H (.sl b (0+(j+1)*sz) (n-(j+1)) (cap-(j+1)) 0 sz)=aa (n-(j+1)):=by simp [bu,s]
   have Z:(j+1)*sz+(n-(j+1))*sz=n*sz:=by rw [←anM];congr 1;omega
   have E:cV H sz (.sl b (0+(j+1)*sz) (n-(j+1)) (cap-(j+1)) 0 sz)=aa (rows.drop (j+1)).flatten:=by
    simp only [cV,s];have z:(rows.flatten++rest).length=rows.flatten.length+rest.length:=ank;have e:((rows.flatten++rest).drop (0+(j+1)*sz)).take ((n-(j+1))*sz)=(rows.drop (j+1)).flatten:=by
     rw [aoa,aoq (by omega),anS (by rw [anE];omega),kS (j+1) A,anA (by omega)]
    rw [e];rw [bf (by rw [z];omega)]
   simp only [de,hs,E]
 obtain⟨B,N,x⟩:=N;have i:bM H sz (.c (.sl b 0 n cap 0 sz)) ab (aa (vi j)) ab=aa (.c (.sl b 0 j cap 0 sz)):=by
  simp only [bM,s,vR cap (show j≤cap by omega)];rw [aT (by omega)];simp
 have h:bM H sz (.c (.sl b 0 n cap 0 sz)) (aa (vi j)) (aa (vi (j+1:Nat))) (aa (vi n))=aa (.c (.sl b (0+j*sz) (j+1-j) (n-j) 0 sz)):=by
  simp only [bM,s,th (show j≤j+1 by omega) (show j+1≤n by omega) u];rw [aT (by omega)]
 have U:bF H sz bytes (.c (.sl b 0 j cap 0 sz)) B=aa (.c (.sl b 0 (n-1) cap 0 sz),H.set b (.box g 0)):=by
  simp only [bF,x,s];rw [aT (by omega),bf (show j+(n-(j+1))≤cap by omega),bf ⟨aox _,by rw [X,l];omega⟩];simp only [aoa,←q];rw [show j+(n-(j+1))=n-1 by omega]
 have k:bM (H.set b (.box g 0)) sz (.c (.sl b 0 (n-1) cap 0 sz)) (aa (vi (n-1:Nat))) (aa (vi n)) ab=aa (.c (.sl b (0+(n-1)*sz) (n-(n-1)) (cap-(n-1)) 0 sz)):=by
  simp only [bM,m,vQ (show n-1≤n by omega) u];rw [aT (by omega)]
 have cl:jI (H.set b (.box g 0)) sz zs (.c (.sl b (0+(n-1)*sz) (n-(n-1)) (cap-(n-1)) 0 sz))=aa (H.set b (.box ((rows.eraseIdx j).flatten++d) 0)):=by
  have hs:bu (H.set b (.box g 0)) (.sl b (0+(n-1)*sz) (n-(n-1)) (cap-(n-1)) 0 sz)=aa 1:=by simp [bu,m];omega
  simp only [jI,hs,M,if_true,m];have K:cQ 1 zs=zs:=by simp [cQ]
  rw [K];simp only [cZ,m,anq,M,aoa];rw [bf ⟨aox _,by omega⟩,S,List.set_set]
 obtain⟨r,H',Y,rfl,rfl⟩:=Ah W I (by omega) (by simp [bu,s]) h i N U (by simp [bu,m]) k cl;exact⟨_,_,Y,rfl,d,rfl,by rw [J,l]⟩
theorem abP(a:tab F=aa (af5 sz bytes zs))(Q:0<sz)(S:zs.length=sz){b d j:Nat}{rows:List (List C)}{rest:List C}(A:rp sz rows)(q:H[b]?=aa (.cS sz (rows.flatten++rest) 0 d .loc))(I:j<rows.length)(J:0<j)(X:rows.length≤1000000) :
  ∃ r H',Ev tab (.fn F) [.c (.sl b 0 rows.length 0 d sz),vi j,vi (j+1:Nat)] H r H'∧(r=.c (.sl b 0 (rows.length-1) 0 d sz)∧∃ g,H'[b]?=aa (.cS sz ((rows.eraseIdx j).flatten++g) 0 d .loc)∧H'.length=H.length∧∀ i:Nat,i≠b→H'[i]?=H[i]?):=by
 obtain⟨n,x⟩:=aM (rows.length);have E:=dp A;rw [←x]at I E X ⊢;have h:(rows.drop (j+1)).flatten.length=(n-(j+1))*sz:=by
  rw [dp fun r O=>A r (anY O),anE,x]
 obtain⟨g,Y,a7⟩:=vU (ys:=zs.map C.f) (rest:=rest) A x.symm I (by rw [anq,S]);have p:j*sz+(n-(j+1))*sz≤n*sz:=by rw [←anM];exact anX sz (by omega)
 have w:(n-1)*sz+sz≤n*sz:=by
  have:(n-1+1)*sz=n*sz:=by congr 1;omega
  rw [anM,ao4]at this;omega
 have t:j*sz+sz≤n*sz:=by rw [←apw];exact anX sz (by omega)
 obtain⟨v,l⟩:=aM (over (rows.flatten++rest) (j*sz) (rows.drop (j+1)).flatten);have m:(rows.flatten++rest).length=rows.flatten.length+rest.length:=ank;have L:v.length=(rows.flatten++rest).length:=by
  rw [l];simp only [over,ank,anW,anE];omega
 rw [←l]at Y;have U:∃ W u,bM H sz (.c (.sl b 0 n 0 d sz)) (aa (vi (j+1:Nat))) ab ab=aa W∧bF H sz bytes (.c (.sl b 0 j 0 d sz)) W=aa (.c (.sl b 0 (n-1) 0 d sz),u)∧u[b]?=aa (.cS sz v 0 d .loc)∧u.length=H.length∧∀ i:Nat,i≠b→u[i]?=H[i]?:=by
  by_cases f:j+1=n
  ·refine⟨.c (.f (.fs [] 0)),H,?_,?_,?_,rfl,fun _ _=>rfl⟩
   ·simp only [bM,q,and_self,if_true,mf (show j+1≤n by omega)];rw [aT (by simp),bf ⟨f,by omega⟩]
   ·have c:de H sz (.c (.f (.fs [] 0)))=aa (0,[]):=by simp [de,bu,cV]
    simp only [bF,c,q,and_self,if_true];rw [aT (by omega),show j=n-1 by omega]
   ·have:rows.drop (j+1)=[]:=aoL (by omega);rw [l,this];simp only [over,List.flatten_nil,an5,aoU,Nat.add_zero,an6];exact q
  ·have hs:bu H (.sl b (0+(j+1)*sz) (n-(j+1)) 0 d sz)=aa (n-(j+1)):=by simp [bu,q]
   have o:(j+1)*sz+(n-(j+1))*sz=n*sz:=by rw [←anM];congr 1;omega
   have B:cV H sz (.sl b (0+(j+1)*sz) (n-(j+1)) 0 d sz)=aa (rows.drop (j+1)).flatten:=by
    have e:((rows.flatten++rest).drop (0+(j+1)*sz)).take ((n-(j+1))*sz)=(rows.drop (j+1)).flatten:=by
     rw [aoa,aoq (by omega),anS (by rw [anE];omega),kS (j+1) A,anA (by omega)]
    simp only [cV,q,e];rw [bf ⟨trivial,trivial,by rw [m];omega⟩]
   have y:de H sz (.c (.sl b (0+(j+1)*sz) (n-(j+1)) 0 d sz))=aa (n-(j+1),(rows.drop (j+1)).flatten):=by simp only [de,hs,B]
   refine⟨.c (.sl b (0+(j+1)*sz) (n-(j+1)) 0 d sz),H.set b (.cS sz v 0 d .loc),?_,?_,BY (aj q),by simp,fun i hi=>by rw [sh (Ne.symm hi)]⟩
   ·simp only [bM,q,and_self,if_true,mf (show j+1≤n by omega)];rw [aT (by simp),aT (by omega),aT (by simp)]
   ·simp only [bF,y,q,and_self,if_true];rw [aT (by omega),aT (by omega),aT (by rw [m];omega),bf ⟨trivial,aox _,by rw [h,m];omega⟩];simp only [aoa,←l];rw [show j+(n-(j+1))=n-1 by omega]
 obtain⟨W,u,U,Z,s,M,K⟩:=U;have s2:bM H sz (.c (.sl b 0 n 0 d sz)) ab (aa (vi j)) ab=aa (.c (.sl b 0 j 0 d sz)):=by
  simp only [bM,q,and_self,if_true,vR n (show j≤n by omega)];rw [aT (by simp),aT (by omega),aT (by simp)];simp
 have s1:bM H sz (.c (.sl b 0 n 0 d sz)) (aa (vi j)) (aa (vi (j+1:Nat))) (aa (vi n))=aa (.c (.sl b 0 0 0 d (sz+1))):=by
  simp only [bM,q,and_self,if_true,th (show j≤j+1 by omega) (show j+1≤n by omega) (anl n)];rw [aT (by omega),aT (by omega)];simp [J]
 have s5:bM u sz (.c (.sl b 0 (n-1) 0 d sz)) (aa (vi (n-1:Nat))) (aa (vi n)) ab=aa (.c (.sl b (0+(n-1)*sz) (n-(n-1)) 0 d sz)):=by
  have N:bH (n-1) (n-1) (aa (vi (n-1:Nat))) (aa (vi n)) ab=ab:=by
   have:yR (vi (n:Nat)) (n-1)=ab:=by simp [yR,gA];omega
   simp [bH,this]
  have z:n≤(v.length-0) / sz:=by rw [Nat.le_div_iff_mul_le Q,Nat.sub_zero,L,m];omega
  simp only [bM,s,and_self,if_true,N,vQ (show n-1≤n by omega) z];rw [bf ⟨by omega,by omega⟩]
 have cl:jI u sz zs (.c (.sl b (0+(n-1)*sz) (n-(n-1)) 0 d sz))=aa (u.set b (.cS sz ((rows.eraseIdx j).flatten++g) 0 d .loc)):=by
  have hs:bu u (.sl b (0+(n-1)*sz) (n-(n-1)) 0 d sz)=aa 1:=by simp [bu,s];omega
  have O:cQ 1 zs=zs:=by simp [cQ]
  simp only [jI,hs,S,if_true,s,and_self,O];simp only [a6,s,aox,true_and,anq,S,aoa];rw [bf (by omega),Y]
 obtain⟨r,H',k,rfl,rfl⟩:=Ah a I X (by simp [bu,q]) s1 s2 U Z (by simp [bu,s]) s5 cl;exact⟨_,_,k,rfl,g,BY (by have:=aj q;omega),by simp [M],fun i hi=>by rw [sh (Ne.symm hi),K i hi]⟩
end
end
section
variable(Q:Program)(pr:Nat)(hs:List Nat)
def ack(f:Nat):Nat:=if f=pr then xT else f
def Dp(f:Nat):FuncId:=if f=xT then pr else f
def kV1:Value→Option FC
 | .bool b=>aa (.bool b)| .int k n=>aa (.int k n)| .string s=>aa (.str s)| .pointer ab=>aa .tU| .slice ab 0 0=>aa .aC| .map ab=>aa .pZ| .nilFunc=>aa .jM| .nilIface=>aa .oJ| _=>ab
def kV:Value→Option V
 | .agg cs=>(aZ kV1 cs.toList).map fun xs=>.a (xs.map .f)
 | .tuple cs=>if cs.isEmpty then aa .top else ab| v=>(kV1 v).map fun x=>.c (.f x)
def kA:Operand→Option Arg
 | .tmp t=>aa (.r (.nat t))| .const v=>(kV v).map .k| .func f=>aa (.k (.c (.f (.fn (ack pr f) []))))| _=>ab
def kO:Option Operand→Option (Option Arg)
 | none=>aa ab| some x=>(kA pr x).map aa
def BP(t:TypeId):Option Nat:=(Q.info? t).map (·.size)
def kBy(t:TypeId):Option Nat:=(Q.info? t).map (·.bytes)
def kZ(t:TypeId):Option (List FC):=do aZ kV1 (←(←Q.info? t).zero).cells.toList
def kAg(t:TypeId):Option (Option Nat):=match Q.underlying t with
 | some (.struct _) | some (.array _ _)=>(BP Q t).map aa| some _=>aa ab| none=>ab
def kCK(t:TypeId):Option CK:=match Q.underlying t with
 | some (.int _)=>aa .int| some .string=>aa .str| some .bool=>aa .bool| _=>ab
def kEq(t:TypeId):Option Li:=match Q.underlying t with
 | some .bool=>aa .bool| some (.pointer _)=>aa .ptr| some (.slice _)=>aa .sl| some (.func _ _ _)=>aa .fn| some (.interface _)=>aa .ifc| some (.struct _)=>(gZ Q 20 t).map .st| _=>ab
def akg(c:Call):Option dq:=
 let A:=kA pr
 let u:=Q.underlying (c.argTypes.getD 0 0)
 let x:=A (c.args.getD 0 default)
 match c.callee with
 | .builtin .len=>match u with
  | some (.slice _)=>do pure (.len (←x))
  | some .string=>do pure (.lens (←x))
  | some (.array n _)=>aa (.oi n)| _=>ab
 | .builtin .append=>match u,Q.underlying (c.argTypes.getD 1 0)with
  | some (.slice e),aa (.int _)=>do pure (.me (←BP Q e) (←kBy Q e) (←kZ Q e) (←x) (←A (c.args.getD 1 default)))
  | some (.slice e),_=>do pure (.append (←BP Q e) (←kBy Q e) (←x) (←A (c.args.getD 1 default)))
  | _,_=>ab
 | .builtin .max=>do pure (.fP ag (←aZ A c.args.toList))
 | .builtin .min=>do pure (.fP ae (←aZ A c.args.toList))
 | .builtin .cap=>do pure (.cap (←x))
 | .builtin .clear=>match u with
  | some (.slice e)=>do pure (.clear (←BP Q e) (←kZ Q e) (←x))
  | _=>ab
 | .builtin .recover=>aa .recover| .value (.func f)=>do pure (.call (ack pr f) (←aZ A c.args.toList) (hs.contains f))
 | .value y=>do pure (.bZ (←A y) (←aZ A c.args.toList) ae)
 | _=>ab
def kOp(o:Op):Option dq:=
 let A:=kA pr
 let U:=Q.underlying
 let ps (l:Array (Nat × Operand)):=aZ (fun p:Nat × Operand=>(A p.2).map fun x=>(p.1,x)) l.toList
 match o with
 | .move x | .assign x=>do pure (.cX (←A x))
 | .pick c a b=>do pure (.pick (←A c) (←A a) (←A b))
 | .alloc t=>do pure (.alloc (←kZ Q t))
 | .box _ x=>do pure (.box (←A x))
 | .build t l=>match U t with
  | some (.struct j)=>do pure (.build (←kZ Q t) (←aZ (fun p:Nat × Operand=>do
    let f ←j[p.1]?
    pure (f.offset,←BP Q f.type,←A p.2)) l.toList))
  | some (.array _ e)=>do
    let s ←BP Q e
    pure (.build (←kZ Q t) (←aZ (fun p:Nat × Operand=>do pure (p.1*s,s,←A p.2)) l.toList))
  | _=>ab
 | .buildSlice t n l=>match U t with
  | some (.slice e)=>do pure (.bS (←BP Q e) (←kZ Q e) n (←ps l))
  | _=>ab
 | .load t x=>do pure (.load (←kAg Q t) (←A x))
 | .store t x y=>do pure (.store (←BP Q t) (←A x) (←A y))
 | .nilCheck x=>do pure (.dP (←A x))
 | .binOp op t x y _=>do
  let a ←A x
  let b ←A y
  pure (match if op=.eql∨op=.neq then kEq Q t else ab with
  | some k=>.eq (op=.neq) k a b
  | none=>.bin op a b)
 | .unOp op _ x=>do pure (.un op (←A x))
 | .convert s d x=>match U s,U d with
  | some (.int _),aa (.int k)=>do pure (.jJ k (←A x))
  | some .string,aa .string=>do pure (.BA (←A x))
  | some (.slice _),aa .string=>do pure (.Ag (←A x))
  | _,_=>ab
 | .makeFunc (.func f) fst g=>if fst.isEmpty then do pure (.iE (ack pr f) (←aZ A g.toList))else do pure (.AJ (ack pr f) (←aZ A fst.toList))
 | .makeMap _ ab=>aa .kj
 | .makeSlice t l c=>match U t with
  | some (.slice e)=>do pure (.dO (←BP Q e) (←kBy Q e) (←kZ Q e) (←A l) (←A c))
  | _=>ab
 | .slice t x lo hi mx=>match U t with
  | some (.slice e)=>match lo,hi,mx with
   | none,aa hi,aa mx=>do pure (.rZ (←BP Q e) (←A x) (←A hi) (←A mx))
   | _,_,_=>do pure (.slice (←BP Q e) (←A x) (←kO pr lo) (←kO pr hi) (←kO pr mx))
  | some .string=>do pure (.rQ (←A x) (←kO pr lo) (←kO pr hi))
  | some (.array n e)=>do pure (.qu n (←BP Q e) (←A x) (←kO pr lo) (←kO pr hi) (←kO pr mx))
  | _=>ab
 | .fieldAddr t x i=>match U t with
  | some (.struct j)=>do pure (.bz (←j[i]?).offset (←A x))
  | _=>ab
 | .field t x i=>match U t with
  | some (.struct j)=>do
   let f ←j[i]?
   pure (.field f.offset (←kAg Q f.type) (←A x))
  | _=>ab
 | .indexAddr t x i=>match U t with
  | some (.slice e)=>do pure (.bN (←BP Q e) ab (←A x) (←A i))
  | some (.array n e)=>do pure (.bN (←BP Q e) (aa n) (←A x) (←A i))
  | _=>ab
 | .index t x i=>match U t with
  | some .string=>do pure (.idxs (←A x) (←A i))
  | some (.array n e)=>do pure (.Aq n (←BP Q e) (←kAg Q e) (←A x) (←A i))
  | _=>ab
 | .lookup t m k ok=>match U t with
  | some (.map kt e)=>do
   let zs ←kZ Q e
   let z ←match ←kAg Q e,zs with
    | some _,_=>aa (FC.fn Bp zs)| none,[z]=>aa z| _,_=>ab
   pure (.lookup (←kCK Q kt) (if ok then .fp [z] 77 else z) (←A m) (←A k))
  | _=>ab
 | .mapUpdate t m k v=>match U t with
  | some (.map kt _)=>do pure (.lT (←kCK Q kt) (←A m) (←A k) (←A v))
  | _=>ab
 | .range t x=>match U t with
  | some .string=>do pure (.range (←A x))
  | some (.map _ _)=>do pure (.nf (←A x))
  | _=>ab
 | .next x s=>(A x).map (if s then .next else .rN)| .extract x i=>do pure (.extract (←A x) i)
 | .entry x=>do pure (.entry (←A x))
 | .call c=>akg Q pr hs c
 | .defer c=>match c.callee with
  | .value x=>do pure (.defer (←A x) (←aZ A c.args.toList))
  | _=>ab
 | _=>ab
def amu(ops:Array Oper):List aS:=ops.toList.map fun o=>
 ⟨o.dst.map .nat,(kOp Q pr hs o.op).getD .bad,match o.guard with
  | some (j,w)=>((ops[j]?).bind (·.dst)).map fun d=>(.nat d,w)
  | none=>ab⟩
def amt(ops:Array Oper)(aos:List aS)(b:Bool):List (Nat × Nat):=
 if !b then []else
 let d:=dG ops.toList []
 (List.range aos.length).flatMap fun i=>match aos[i]? with
  | some x=>if cls x.op=.r then((lL aos++[aos.length]).filter fun e=>!(e == phase aos i||!AE d aos i e)).map fun e=>(i,e)else []
  | none=>[]
def acm(n i:Nat)(ops:Array Oper)(b:Bool)(aos:List aS)(d:aw):aw:=
 let c:=.region aos (amt ops aos b)
 if bQ Q (Dp pr) n (.region i ops b) c then c else d
def kC(n:Nat):Code→aw
 | .skip=>.skip
 | .region i ops d=>let aos:=amu Q pr hs ops
  acm Q pr n i ops d aos (acm Q pr n i ops d (aos.map fun a=>match a.op with | .bS s z n ps=>{ a with op:=.jK s z n ps } | _=>a) .bad)
 | .seq a b=>.seq (kC n a) (kC n b)
 | .cond c a b=>match kA pr c with
  | some j=>if mA (Dp pr) j c then .cond j (kC n a) (kC n b)else .bad| none=>.bad
 | .block i a=>.block i (kC n a)| .loop a=>.loop (kC n a)
 | .rangeFunc f ps a b=>match kA pr f with
  | some m=>let g:=ps.toList.map .nat
   if mA (Dp pr) m f&&fM (fun p (q:P)=>q.toNat == p&&decide (p<n)) ps.toList g then .fI m g (kC n a) (kC n b)else .bad
  | none=>.bad
 | .exit i=>.exit i| .ret=>.ret
 | .scope a=>let a':=kC n a
  if jG a' then .scope a' else .bad
 | .label l=>.label l| .goto l=>.goto l| .refuse _=>.bad
def kF(f:Func):Option aK:=f.body.bind fun b=>
 let rs:=f.results.toList.map fun | .tmp t=>gU.tmp (.nat t) | .cell a t=>.cell (.nat a) ((kAg Q t).getD ab)
 if f.name != "runtime.NumGoroutine"&&fM (uW Q f.ntmps) f.results.toList rs then aa ⟨(List.range (f.params.size+f.nfree)).map .nat,rs,kC Q pr hs f.ntmps b⟩else ab
def kT(f:Nat):Option aK:=if f=xT then ab else(Q.funcs[f]?).bind (kF Q pr hs)
theorem Dq{n i:Nat}{ops:Array Oper}{b:Bool}{aos:List aS}{d:aw}(h:bQ Q (Dp pr) n (.region i ops b) d=ae):bQ Q (Dp pr) n (.region i ops b) (acm Q pr n i ops b aos d)=ae:=by
 unfold acm;dsimp only;split<;>assumption
theorem oB{n:Nat}{c:Code}:bQ Q (Dp pr) n c .bad=ae:=by cases c<;>rfl
theorem pL(n:Nat):∀ c:Code,bQ Q (Dp pr) n c (kC Q pr hs n c)=ae
 | .skip | .exit _ | .ret | .label _ | .goto _=>by simp [kC,bQ]
 | .refuse _=>oB Q pr| .region i ops d=>Dq Q pr (Dq Q pr (oB Q pr))| .seq a b=>by simp [kC,bQ,pL n a,pL n b]
 | .cond c a b=>by
  unfold kC;split
  ·split
   ·simp [bQ,pL n a,pL n b, *]
   ·exact oB Q pr
  ·exact oB Q pr
 | .block i a | .loop a=>by simp [kC,bQ,pL n a]
 | .rangeFunc f ps a b=>by
  unfold kC;split
  ·dsimp only;split
   ·rename_i h;simp only [If]at h;simp only [bQ,pL n a,pL n b,h.1,h.2,Bool.and_self]
   ·exact oB Q pr
  ·exact oB Q pr
 | .scope a=>by
  unfold kC;dsimp only;split
  ·simp [bQ,pL n a, *]
  ·exact oB Q pr
theorem akh{f:Func}{a:aK}(h:kF Q pr hs f=aa a):wA Q (Dp pr) f a=ae:=by
 unfold kF at h;rw [anN]at h;obtain⟨b,g,h⟩:=h;dsimp only at h;split at h
 ·rename_i d;cases h;simp only [If]at d;simp only [wA,g,pL,d.1,d.2,Bool.and_self,Bool.true_and,decide_eq_true_eq,List.map_map,anq,List.length_range];refine(List.map_congr_left fun n _=>gq n).trans (List.map_id _)
 ·cases h
theorem ad9{f:Nat}{a:aK}(h:kT Q pr hs f=aa a):∃ fn,Q.funcs[Dp pr f]?=aa fn∧wA Q (Dp pr) fn a=ae:=by
 unfold kT at h;split at h
 ·cases h
 ·rename_i g;rw [anN]at h;obtain⟨fn,b,d⟩:=h;exact⟨fn,by rw [Dp,aT g];exact b,akh Q pr hs d⟩
inductive LT where
 | e
 | n (l:LT) (k:Nat) (a:aK) (r:LT)
def LT.get:LT→Nat→Option aK
 | .e,_=>ab| .n l k a r,f=>bif Nat.beq f k then aa a else bif Nat.ble f k then l.get f else r.get f
inductive LT.All:LT→Prop
 | e:LT.All .e
 | n {l:LT} {k:Nat} {a:aK} {r:LT} (hl:LT.All l) (h:kT Q pr hs k=aa a) (hr:LT.All r):LT.All (.n l k a r)
theorem LT.All.get:∀ {t:LT} {f:Nat} {a:aK},LT.All Q pr hs t→t.get f=aa a→kT Q pr hs f=aa a
 | .e,_,_,_,h=>by cases h
 | .n l k b r,f,a,.n hl j m,h=>by
  unfold LT.get at h;cases d:Nat.beq f k with
  | true=>
   rw [d]at h;cases h;rw [Nat.eq_of_beq_eq_true d];exact j
  | false=>
   rw [d]at h;cases g:Nat.ble f k with
   | true=>rw [g]at h;exact hl.get h| false=>rw [g]at h;exact m.get h
end
def LT.fn(t:LT)(Q:Program)(pr:Nat)(hs:List Nat)(f:Nat):Option aK:=match t.get f with
 | some a=>aa a| none=>kT Q pr hs f
def LT.tb(t:LT)(Q:Program)(pr:Nat)(hs:List Nat):TB where
 get:=t.fn Q pr hs
 yT:=fun f args H=>match t.fn Q pr hs f with
  | some _=>ab| none=>Km.yT f args H
 ok:=fun f a h args H=>by simp [h]
theorem LT.env{t:LT}{Q:Program}{pr:Nat}{hs:List Nat}(h:LT.All Q pr hs t)(d:Q.follows .mixedOrders=ae)(g:U3 Q (Dp pr) Km.yT):Env Q (Dp pr) (t.tb Q pr hs).get (t.tb Q pr hs).yT:=by
 refine⟨d,fun f a b=>?_,fun f args H r H' b=>?_⟩
 ·have b:t.fn Q pr hs f=aa a:=b;unfold LT.fn at b;split at b
  ·rename_i e;cases b;exact ad9 _ _ _ (h.get _ _ _ e)
  ·exact ad9 _ _ _ b
 ·have b:(match t.fn Q pr hs f with
  | some _=>ab
  | none=>Km.yT f args H)=aa (aa (r,H')):=b
  split at b
  ·cases b
  ·exact g f args H r H' b
end Km
