/-
  Our own small machine for Go code by value, held tN the model: part 5. No program in Gw.
-/
import Derived.Test.YtnaofdffomdmhaaGreatK4
import Derived.Test.YtnaofdffomdmhaaGreatK1
import Derived.Test.YtnaofdffomdmhaaGreatK3
open Option renaming some → aa,none → ab
open Bool renaming true → ae,false → ag
open List renaming length_append → api, length_map → avi, length_eq_zero_iff → av7, flatten_append → awF, getElem?_eq_getElem → By, map_append → awb, take_length → avH, getElem_mem → anc
open Nat renaming le_refl → aft, zero_le → awv
open Bool renaming and_eq_true → If
open Option renaming bind_eq_some_iff → avy
set_option linter.unusedVariables false
set_option linter.constructorNameAsVariable false
set_option linter.unusedSimpArgs false
set_option linter.unusedSectionVars false
set_option maxRecDepth 100000
namespace Km
open Go
section
set_option linter.unusedVariables false
def aoW(sz bytes:Nat)(zs:List FC):aG:=yr [yn 7 (.bad),⟨ab,.bad,ab⟩]
def aj8(sz bytes:Nat)(zs:List FC):aG:=yr [ym 17 0,ym 18 0,yn 19 (.cap (R 18)),yn 20 (.slice sz (R 17) ab (aa (R 19)) ab),ym 21 1,yn 22 (.lO sz bytes zs (R 20) (R 21)),ym 23 0,yn 24 (.len (R 23)),yn 25 (.slice sz (R 22) ab (aa (R 24)) ab),ym 0 25]
def aj7(sz bytes:Nat)(zs:List FC):aG:=.seq (yr [ym 15 1,yn 16 (.bin .gtr (R 15) (yi 0))]) (.cond (R 16) (aj8 sz bytes zs) .skip)
def aj9(sz bytes:Nat)(zs:List FC):aG:=.seq (yr [ym 26 0,ym 4 26]) .ret
def aoX(sz bytes:Nat)(zs:List FC):aG:=.seq (.seq (yr [ym 8 1,ym 9 0,yn 10 (.cap (R 9)),ym 11 0,yn 12 (.len (R 11)),yb 13 .sub 10 12,yb 14 .sub 8 13,ym 1 14]) (aj7 sz bytes zs)) (aj9 sz bytes zs)
def aoV(sz bytes:Nat)(zs:List FC):aG:=.seq (.seq (yr [ym 5 1,yn 6 (.bin .lss (R 5) (yi 0))]) (.cond (R 6) (aoW sz bytes zs) .skip)) (aoX sz bytes zs)
def aoU(sz bytes:Nat)(zs:List FC):aG:=.seq (yr [yn 4 (.aZ (.k (.c (.f .az))))]) (aoV sz bytes zs)
def al9(sz bytes:Nat)(zs:List FC):aL:=⟨[P.nat 0,P.nat 1],[.tmp (P.nat 4)],(aoU sz bytes zs)⟩
def P5(G sz bytes:Nat):aG:=yr [yn 21 (.bad),⟨ab,.bad,ab⟩]
def P4(G sz bytes:Nat):aG:=.seq (yr [ym 19 3,yn 20 (.bin .lss (R 19) (yi 0))]) (.cond (R 20) (P5 G sz bytes) .skip)
def P3(G sz bytes:Nat):aG:=.seq (yr [ym 15 3,ym 16 5,yn 17 (.len (R 16)),yb 18 .add 15 17,ym 3 18]) (P4 G sz bytes)
def P2(G sz bytes:Nat):aG:=.seq (yr [ya 13 1 9 11,yn 14 (.load ab (R 13)),ym 5 14]) (P3 G sz bytes)
def P6(G sz bytes:Nat):aG:=yr [yn 22 (.bin .add (R 11) (yi 1)),ym 11 22]
def P1(G sz bytes:Nat):aG:=.seq (.block 1 (P2 G sz bytes)) (P6 G sz bytes)
def P0(G sz bytes:Nat):aG:=.seq (.cond (R 12) .skip (.exit 0)) (P1 G sz bytes)
def acN(G sz bytes:Nat):aG:=.seq (yr [yb 12 .lss 11 10]) (P0 G sz bytes)
def Qc(G sz bytes:Nat):aG:=yr [ym 31 6,ym 32 8,yn 33 (.append sz bytes (R 31) (R 32)),ym 6 33]
def Qb(G sz bytes:Nat):aG:=.seq (yr [ya 29 1 25 27,yn 30 (.load ab (R 29)),ym 8 30]) (Qc G sz bytes)
def Qd(G sz bytes:Nat):aG:=yr [yn 34 (.bin .add (R 27) (yi 1)),ym 27 34]
def Qa(G sz bytes:Nat):aG:=.seq (.block 3 (Qb G sz bytes)) (Qd G sz bytes)
def P_(G sz bytes:Nat):aG:=.seq (.cond (R 28) .skip (.exit 2)) (Qa G sz bytes)
def P'(G sz bytes:Nat):aG:=.seq (yr [yb 28 .lss 27 26]) (P_ G sz bytes)
def P9(G sz bytes:Nat):aG:=.block 2 (.loop (P' G sz bytes))
def Qe(G sz bytes:Nat):aG:=.seq (yr [ym 35 6,ym 2 35]) .ret
def P8(G sz bytes:Nat):aG:=.seq (.seq (yr [ym 25 0,yn 26 (.len (R 25)),yn 27 (.aZ (yi 0))]) (P9 G sz bytes)) (Qe G sz bytes)
def P7(G sz bytes:Nat):aG:=.seq (yr [ym 23 3,yn 24 (.call G [(.k (.c (.f .az))),R 23] ae),ym 6 24]) (P8 G sz bytes)
def acM(G sz bytes:Nat):aG:=.seq (.seq (yr [ym 9 0,yn 10 (.len (R 9)),yn 11 (.aZ (yi 0))]) (.block 0 (.loop (acN G sz bytes)))) (P7 G sz bytes)
def acL(G sz bytes:Nat):aG:=.seq (yr [yn 3 (.aZ (yi 0))]) (acM G sz bytes)
def acK(G sz bytes:Nat):aG:=.seq (yr [yn 2 (.aZ (.k (.c (.f .az))))]) (acL G sz bytes)
def ajO(G sz bytes:Nat):aL:=⟨[P.nat 0],[.tmp (P.nat 2)],(acK G sz bytes)⟩
section
variable{tab:TB}{F G sz bytes:Nat}{zs:List FC}{H:aj}
theorem alQ(t:T)(H:aj)(sz bytes:Nat)(zs:List FC)(x n:Arg):bq t H (.lO sz bytes zs x n)=uK H sz bytes zs (x.ev t) (n.ev t):=rfl
theorem Rd{d:Type}(n:Nat)(xs:List d):(cF n xs).length=n*xs.length:=by
 induction n with
 | zero=>simp [cF]
 | succ n b=>
  have:cF (n+1) xs=xs++cF n xs:=by simp [cF,List.replicate_succ]
  rw [this,api,b,Nat.succ_mul,Nat.add_comm]
def GR(H:aj)(c:C)(sz n:Nat)(rows:List (List FC)):Prop:=(n=0∧rows=[]∧c=.f .az)∨(0<n∧∃ b rest,c=.sl b 0 rows.length 0 0 sz∧H[b]?=aa (.cf sz (rows.flatten.map .f++rest) 0 0 .loc)∧(rows.flatten.map C.f++rest).length=n*sz)
theorem aj'(u:tab F=aa (al9 sz bytes zs))(y:sz≠0)(m:zs.length=sz)(n:Nat)(z:n≤1000000)(b:bV n bytes=ae):∃ r H',Ev tab (.fn F) [.c (.f .az),vi n] H r H' ∧
  ∃ c,r=.c c∧GR H' c sz n []∧(∀ i:Nat,i<H.length→H'[i]?=H[i]?)∧H.length≤H'.length∧∀ i,bG c=aa i→H.length≤i:=by
 refine cL (C:=fun r H'=>∃ c,r=.c c∧GR H' c sz n []∧(∀ i:Nat,i<H.length→H'[i]?=H[i]?)∧H.length≤H'.length∧∀ i,bG c=aa i→H.length≤i) u rfl fun Q l=>?_;apply ai;simp;apply an;apply ai;simp [show¬ (n:Int)<0 by omega];refine bo (by simp) ?_;apply an;apply ai;simp [bu,jh,wrap64 (n:=(0:Int)) (by decide) (by decide),aW (n:=(n:Int))];apply ai;simp;rcases Nat.eq_zero_or_pos n with rfl | x
 ·refine bo (by simp) ?_;apply ai;simp;exact aC (l _ _ (.c (.f .az)) rfl (by simp [Km.results,bj]) ⟨.f .az,rfl,.inl ⟨rfl,rfl,rfl⟩,fun _ _=>rfl,aft _,fun _ h=>by cases h⟩)
 ·refine au (by simp;omega) ?_;have q:dW H sz (.c (.f .az)) ab (aa (vi 0)) ab=aa (.c (.f .az)):=rfl;have d:∃ cs:List C,cs.length=n*sz∧uK H sz bytes zs (.c (.f .az)) (vi n)=aa (.c (.sl H.length 0 n 0 0 sz),H++[.cf sz cs 0 0 .loc]):=by
   refine⟨(cF n zs).map .f,by rw [avi,Rd,m],?_⟩;have hi:ir (vi n)=aa (n:Int):=rfl;simp [uK,hi,m,show¬ n=0 by omega,show¬ (n:Int)≤0 by omega,b]
  obtain⟨cs,j,d⟩:=d;have s:dW (H++[.cf sz cs 0 0 .loc]) sz (.c (.sl H.length 0 n 0 0 sz)) ab (aa (vi 0)) ab=aa (.c (.sl H.length 0 0 0 0 sz)):=by
   have v:bW n n ab (aa (vi ((0:Nat):Int))) ab=aa (0,0,n):=by simp only [bW,zx (awv n)];rfl
   have g:(H++[bw.cf sz cs 0 0 .loc])[H.length]?=aa (bw.cf sz cs 0 0 .loc):=by simp
   simp only [dW,g,and_self,if_true];rw [show(vi 0:V)=vi ((0:Nat):Int) from rfl,v];simp
  refine aq (.inl rfl) ?_;simp [bu,jh,q,alQ,d,s];apply ai;simp;exact aC (l _ _ (.c (.sl H.length 0 0 0 0 sz)) rfl (by simp [Km.results,bj]) ⟨_,rfl,.inr ⟨x,H.length,cs,rfl,by simp,by simpa using j⟩,fun i hi=>List.getElem?_append_left hi,by simp,fun i h=>by cases h;exact aft _⟩)
theorem GR.app{c:C}{n:Nat}{rows ys:List (List FC)}(h:GR H c sz n rows)(hg:cu sz rows)(hy:cu sz ys)(ot:sz≠0)(q:rows.length+ys.length≤n){x:C}(z:cU H sz (.c x)=aa (ys.length,ys.flatten.map .f)) :
  ∃ m H',cH H sz bytes (.c c) (.c x)=aa (.c m,H')∧GR H' m sz n (rows++ys)∧bG m=bG c∧H'.length=H.length∧∀(i:Nat) y,H[i]?=aa y→bG c≠aa i→H'[i]?=aa y:=by
 rcases h with⟨rfl,rfl,rfl⟩ | ⟨E,b,rest,rfl,j,d⟩
 ·have:ys=[]:=av7.1 (by omega);subst this;exact⟨.f .az,H,by simp only [cH,z,ot,if_false];simp,.inl ⟨rfl,rfl,rfl⟩,rfl,rfl,fun _ _ h _=>h⟩
 ·by_cases B:ys.length=0
  ·have:ys=[]:=av7.1 B;subst this;refine⟨.sl b 0 rows.length 0 0 sz,H,?_,.inr ⟨E,b,rest,by simp,by simpa using j,by simpa using d⟩,rfl,rfl,fun _ _ h _=>h⟩;simp only [cH,z,ot,if_false,j,and_self,if_true,List.length_nil]
  ·have hr:rows.flatten.length=rows.length*sz:=bY hg;have g:ys.flatten.length=ys.length*sz:=bY hy;have A:rows.length*sz+ys.length*sz≤n*sz:=by rw [←Nat.add_mul];exact Nat.mul_le_mul_right sz q
   have F:0<ys.length*sz:=Nat.mul_pos (by omega) (by omega);have u:over (rows.flatten.map C.f++rest) (rows.length*sz) (ys.flatten.map C.f)=(rows++ys).flatten.map C.f++rest.drop (ys.length*sz):=by
    have e:rows.length*sz=(rows.flatten.map C.f).length:=by rw [avi,hr]
    simp only [over];rw [e,List.take_left,List.drop_append,avi,avi,g];rw [List.drop_of_length_le (l:=rows.flatten.map C.f) (by rw [avi];omega)];simp
   have v:rest.length=n*sz-rows.length*sz:=by rw [api,avi,hr]at d;omega
   refine⟨.sl b 0 (rows.length+ys.length) 0 0 sz,H.set b (.cf sz ((rows++ys).flatten.map .f++rest.drop (ys.length*sz)) 0 0 .loc),?_,.inr ⟨E,b,rest.drop (ys.length*sz),by simp,List.getElem?_set_self (ak j),?_⟩,rfl,by simp,fun i y hy s=>?_⟩
   ·simp only [cH,z,ot,if_false,j,and_self,if_true,B];rw [aY (by rw [d];rintro⟨_,h,_⟩;omega),bf ⟨trivial,awv _,by rw [d,avi,g];omega⟩];simp only [Nat.zero_add,u]
   ·rw [api,avi,awF,api,List.length_drop,hr,g,v];omega
   ·have:b≠i:=by rintro rfl;exact s rfl
    rw [List.getElem?_set_ne this];exact hy
theorem GR.lr{c:C}{rows:List (List FC)}(h:GR H c sz rows.length rows)(hg:cu sz rows):LR H c sz rows:=by
 rcases h with⟨_,h1,rfl⟩ | ⟨g,b,rest,rfl,j,d⟩
 ·rw [h1];exact LR.nil _ _
 ·have hr:rows.flatten.length=rows.length*sz:=bY hg;have:rest=[]:=av7.1 (by rw [api,avi,hr]at d;omega);subst this;exact .inr ⟨fun e=>by rw [e]at g;simp at g,b,0,rfl,by simpa [RB]using j⟩
theorem xV(hT:tab F=aa (ajO G sz bytes))(hG:tab G=aa (al9 sz bytes zs))(S:sz≠0)(hz:zs.length=sz){b:Nat}(xs:List (C × List (List FC)))(hb:H[b]?=aa (.box (xs.map (·.1)) 0))(f7:xs.length≤1000000)
  (hx:∀ x ∈ xs,cu sz x.2∧∀ H':aj,(∀ i:Nat,i<H.length→H'[i]?=H[i]?)→bu H' x.1=aa x.2.length∧cU H' sz (.c x.1)=aa (x.2.length,x.2.flatten.map .f))
  (W:((xs.map (·.2)).flatten).length≤1000000) (d:bV ((xs.map (·.2)).flatten).length bytes=ae) :
  ∃ r H',Ev tab (.fn F) [.c (.sl b 0 xs.length xs.length 0 1)] H r H'∧∃ c,r=.c c∧LR H' c sz (xs.map (·.2)).flatten∧(∀ i:Nat,i<H.length→H'[i]?=H[i]?)∧H.length≤H'.length∧∀ i,bG c=aa i→H.length≤i:=by
 have M:=ak hb;have Y:∀(H':aj),(∀ i:Nat,i<H.length→H'[i]?=H[i]?)→∀ j:Nat,(h:j<xs.length)→bH H' 1 ab (.c (.sl b 0 xs.length xs.length 0 1)) (vi j)=aa (.c (.ptr b j 0))∧aR H' ab (.c (.ptr b j 0))=aa (.c xs[j].1):=fun H' v j h=>by
  have m:H'[b]?=aa (.box (xs.map (·.1)) 0):=by rw [v b M];exact hb
  refine⟨?_,?_⟩
  ·simp [bH,show ir (vi j)=aa (j:Int) from rfl,m,h]
  ·simp [aR,aE,m,aV,h,List.drop_eq_getElem_cons]
 have Z:∀(H':aj),(∀ i:Nat,i<H.length→H'[i]?=H[i]?)→bu H' (.sl b 0 xs.length xs.length 0 1)=aa xs.length:=fun H' v=>by
  have m:H'[b]?=aa (.box (xs.map (·.1)) 0):=by rw [v b M];exact hb
  simp [bu,m]
 have tk:∀ j (h:j<xs.length),((xs.take (j+1)).map (·.2)).flatten=((xs.take j).map (·.2)).flatten++xs[j].2:=fun j h=>by
  rw [List.take_add_one,By h];simp only [Option.toList_some,awb,List.map_cons,List.map_nil,awF,List.flatten_cons,List.flatten_nil,List.append_nil]
 have d_:∀ j,((xs.take j).map (·.2)).flatten.length≤((xs.map (·.2)).flatten).length:=fun j=>by
  conv=>rhs;rw [←List.take_append_drop j xs,awb,awF,api]
  omega
 have a8:∀ j,cu sz ((xs.take j).map (·.2)).flatten:=fun j r hr=>by
  obtain⟨l,hl,hr⟩:=List.mem_flatten.1 hr;obtain⟨x,d9,rfl⟩:=List.mem_map.1 hl;exact(hx x (List.mem_of_mem_take d9)).1 r hr
 refine cL (H:=H) (args:=[.c (.sl b 0 xs.length xs.length 0 1)]) (C:=fun r H'=>∃ c,r=.c c∧LR H' c sz (xs.map (·.2)).flatten∧(∀ i:Nat,i<H.length→H'[i]?=H[i]?)∧H.length≤H'.length∧∀ i,bG c=aa i→H.length≤i) hT rfl fun Q hQ=>?_;apply ai;simp;apply ai;simp;apply an;apply ai;simp [Z H fun _ _=>rfl];obtain⟨L,B⟩:∃ L:Nat→Nat,∀ j,L j=((xs.take j).map (·.2)).flatten.length:=⟨_,fun _=>rfl⟩
 have L0:L 0=0:=by rw [B];rfl
 have Ls:∀ j (h:j<xs.length),L (j+1)=L j+xs[j].2.length:=fun j h=>by rw [B,B,tk j h,api]
 have Ll:∀ j,L j≤((xs.map (·.2)).flatten).length:=fun j=>by rw [B];exact d_ j
 have Le:L xs.length=((xs.map (·.2)).flatten).length:=by rw [B,avH]
 obtain⟨N,hN⟩:=aJ (((xs.map (·.2)).flatten).length);rw [←hN]at W d Ll Le;refine bS xs.length (fun j t J=>J=H∧t.g 0=.c (.sl b 0 xs.length xs.length 0 1)∧t.g 9=.c (.sl b 0 xs.length xs.length 0 1)∧t.g 3=vi (L j)) (by omega) (by decide) (by decide) (by simp) (by simp) ⟨rfl,by simp,by simp,by simp [L0]⟩ ?_ ?_
 ·rintro j t J u ⟨rfl,g0,g9,g3⟩ I z next
  obtain⟨i1,X⟩:=Y J (fun _ _=>rfl) j u;obtain⟨h2,h3⟩:=(hx _ (anc u)).2 J fun _ _=>rfl;have h5:=Ls j u;have h6:=Ll (j+1);obtain⟨x,A⟩:=aJ (xs[j]);rw [←A]at X h2 h3 h5;refine aF ?_;apply ai;simp [I,g9,i1,X,-aw];apply ai;simp [g3,h2,aW (n:=(L j:Int)+x.2.length)];apply ai;simp [show¬ (L j:Int)+x.2.length<0 by omega];exact aB (by simp) (aP (aA (next _ _ ⟨rfl,by simp [g0],by simp [g9],by simp [h5]⟩ (by simp [I]) (by simp [z]))))
 ·rintro t J ⟨rfl,g0,g9,g3⟩ - -;obtain⟨r,H2,s,c0,rfl,a_,O,c_,b9⟩:=aj' (H:=J) hG S hz N (by omega) d;rw [Le]at g3;apply ai;simp [g3,s.eq];apply an;apply ai;simp [g0,Z H2 O];refine bS xs.length (fun j t J'=>t.g 25=.c (.sl b 0 xs.length xs.length 0 1)∧∃ c,t.g 6=.c c∧GR J' c sz N ((xs.take j).map (·.2)).flatten∧(∀ i:Nat,i<J.length→J'[i]?=J[i]?)∧J.length≤J'.length∧∀ i,bG c=aa i→J.length≤i) (by omega) (by decide) (by decide) (by simp) (by simp) ⟨by simp,c0,by simp,by simpa using a_,O,c_,b9⟩ ?_ ?_
  ·rintro j t J' u ⟨y,c,g6,g,v,hl,q⟩ I z next
   obtain⟨i1,X⟩:=Y J' v j u;obtain⟨h2,h3⟩:=(hx _ (anc u)).2 J' v;have s:=(hx _ (anc u)).1;have h5:=Ls j u;have h6:=Ll (j+1);have U:=tk j u;obtain⟨x,A⟩:=aJ (xs[j]);rw [←A]at X h2 h3 h5 U s;obtain⟨c',H',K,E,hs,e_,b_⟩:=g.app (bytes:=bytes) (a8 j) s S (by rw [←B];omega) h3;rw [←U]at E;refine aF ?_;apply ai;simp [I,y,i1,X,-aw];refine aq (.inl rfl) ?_;simp [g6,K];refine aA (next _ _ ⟨by simp [y],c',by simp,E,fun i hi=>?_,by omega,fun i hi=>q i (by rw [←hs];exact hi)⟩ (by simp [I]) (by simp [z]));rw [←v i hi];have hy:J'[i]?=aa (J'[i]'(by omega)):=By (by omega);rw [hy];exact b_ i _ hy fun e=>by have:=q i e;omega
  ·rintro t J' ⟨y,c,g6,g,v,hl,q⟩ - -;rw [avH,hN]at g;have hg:=a8 xs.length;rw [avH]at hg;apply ai;simp [g6];exact aC (hQ _ _ (.c c) rfl (by simp [Km.results,bj]) ⟨c,rfl,g.lr hg,v,hl,q⟩)
end
end
section
variable(Q:Program)(pr:Nat)(hs:List Nat)
def akj(f:Nat):Nat:=if f=pr then fv else f
def F5(f:Nat):FuncId:=if f=fv then pr else f
def kV1:Value→Option FC
 | .bool b=>aa (.bool b)| .int k n=>aa (.int k n)| .string s=>aa (.str s)| .pointer ab=>aa .ov| .slice ab 0 0=>aa .az| .map ab=>aa .xf| .nilFunc=>aa .i'| .nilIface=>aa .mN| _=>ab
def kV:Value→Option V
 | .agg cs=>(bj kV1 cs.toList).map fun xs=>.a (xs.map .f)
 | .tuple cs=>if cs.isEmpty then aa .top else ab| v=>(kV1 v).map fun x=>.c (.f x)
def kA:Operand→Option Arg
 | .tmp t=>aa (.r (.nat t))| .const v=>(kV v).map .k| .func f=>aa (.k (.c (.f (.fn (akj pr f) []))))| _=>ab
def kO:Option Operand→Option (Option Arg)
 | none=>aa ab| some x=>(kA pr x).map aa
def D2(t:TypeId):Option Nat:=(Q.info? t).map (·.size)
def kBy(t:TypeId):Option Nat:=(Q.info? t).map (·.bytes)
def kZ(t:TypeId):Option (List FC):=do bj kV1 (←(←Q.info? t).zero).cells.toList
def kAg(t:TypeId):Option (Option Nat):=match Q.underlying t with
 | some (.struct _) | some (.array _ _)=>(D2 Q t).map aa| some _=>aa ab| none=>ab
def kCK(t:TypeId):Option CK:=match Q.underlying t with
 | some (.int _)=>aa .int| some .string=>aa .str| some .bool=>aa .bool| _=>ab
def kEq(t:TypeId):Option Fj:=match Q.underlying t with
 | some .bool=>aa .bool| some (.pointer _)=>aa .ptr| some (.slice _)=>aa .sl| some (.func _ _ _)=>aa .fn| some (.interface _)=>aa .ifc| some (.struct _)=>(iw Q 20 t).map .st| _=>ab
def asg(c:Call):Option cW:=
 let A:=kA pr
 let u:=Q.underlying (c.argTypes.getD 0 0)
 let x:=A (c.args.getD 0 default)
 match c.callee with
 | .builtin .len=>match u with
  | some (.slice _)=>do pure (.len (←x))
  | some .string=>do pure (.lens (←x))
  | some (.array n _)=>aa (.ou n)| _=>ab
 | .builtin .append=>match u,Q.underlying (c.argTypes.getD 1 0)with
  | some (.slice e),aa (.int _)=>do pure (.lO (←D2 Q e) (←kBy Q e) (←kZ Q e) (←x) (←A (c.args.getD 1 default)))
  | some (.slice e),_=>do pure (.append (←D2 Q e) (←kBy Q e) (←x) (←A (c.args.getD 1 default)))
  | _,_=>ab
 | .builtin .max=>do pure (.gQ ag (←bj A c.args.toList))
 | .builtin .min=>do pure (.gQ ae (←bj A c.args.toList))
 | .builtin .cap=>do pure (.cap (←x))
 | .builtin .clear=>match u with
  | some (.slice e)=>do pure (.clear (←D2 Q e) (←kZ Q e) (←x))
  | _=>ab
 | .builtin .recover=>aa .recover| .value (.func f)=>do pure (.call (akj pr f) (←bj A c.args.toList) (hs.contains f))
 | .value y=>do pure (.cj (←A y) (←bj A c.args.toList) ae)
 | _=>ab
def kOp(o:Op):Option cW:=
 let A:=kA pr
 let U:=Q.underlying
 let ps (l:Array (Nat × Operand)):=bj (fun p:Nat × Operand=>(A p.2).map fun x=>(p.1,x)) l.toList
 match o with
 | .move x | .assign x=>do pure (.aZ (←A x))
 | .pick c a b=>do pure (.pick (←A c) (←A a) (←A b))
 | .alloc t=>do pure (.alloc (←kZ Q t))
 | .box _ x=>do pure (.box (←A x))
 | .build t l=>match U t with
  | some (.struct j)=>do pure (.build (←kZ Q t) (←bj (fun p:Nat × Operand=>do
    let f ←j[p.1]?
    pure (f.offset,←D2 Q f.type,←A p.2)) l.toList))
  | some (.array _ e)=>do
    let s ←D2 Q e
    pure (.build (←kZ Q t) (←bj (fun p:Nat × Operand=>do pure (p.1*s,s,←A p.2)) l.toList))
  | _=>ab
 | .buildSlice t n l=>match U t with
  | some (.slice e)=>do pure (.bK (←D2 Q e) (←kZ Q e) n (←ps l))
  | _=>ab
 | .load t x=>do pure (.load (←kAg Q t) (←A x))
 | .store t x y=>do pure (.store (←D2 Q t) (←A x) (←A y))
 | .nilCheck x=>do pure (.bR (←A x))
 | .binOp op t x y _=>do
  let a ←A x
  let b ←A y
  pure (match if op=.eql∨op=.neq then kEq Q t else ab with
  | some k=>.eq (op=.neq) k a b
  | none=>.bin op a b)
 | .unOp op _ x=>do pure (.un op (←A x))
 | .convert s d x=>match U s,U d with
  | some (.int _),aa (.int k)=>do pure (.fT k (←A x))
  | some .string,aa .string=>do pure (.wU (←A x))
  | some (.slice _),aa .string=>do pure (.wT (←A x))
  | _,_=>ab
 | .makeFunc (.func f) fst g=>if fst.isEmpty then do pure (.fR (akj pr f) (←bj A g.toList))else do pure (.nq (akj pr f) (←bj A fst.toList))
 | .makeMap _ ab=>aa .jQ
 | .makeSlice t l c=>match U t with
  | some (.slice e)=>do pure (.dX (←D2 Q e) (←kBy Q e) (←kZ Q e) (←A l) (←A c))
  | _=>ab
 | .slice t x lo hi mx=>match U t with
  | some (.slice e)=>match lo,hi,mx with
   | none,aa hi,aa mx=>do pure (.wg (←D2 Q e) (←A x) (←A hi) (←A mx))
   | _,_,_=>do pure (.slice (←D2 Q e) (←A x) (←kO pr lo) (←kO pr hi) (←kO pr mx))
  | some .string=>do pure (.oK (←A x) (←kO pr lo) (←kO pr hi))
  | some (.array n e)=>do pure (.nB n (←D2 Q e) (←A x) (←kO pr lo) (←kO pr hi) (←kO pr mx))
  | _=>ab
 | .fieldAddr t x i=>match U t with
  | some (.struct j)=>do pure (.aO (←j[i]?).offset (←A x))
  | _=>ab
 | .field t x i=>match U t with
  | some (.struct j)=>do
   let f ←j[i]?
   pure (.field f.offset (←kAg Q f.type) (←A x))
  | _=>ab
 | .indexAddr t x i=>match U t with
  | some (.slice e)=>do pure (.bE (←D2 Q e) ab (←A x) (←A i))
  | some (.array n e)=>do pure (.bE (←D2 Q e) (aa n) (←A x) (←A i))
  | _=>ab
 | .index t x i=>match U t with
  | some .string=>do pure (.idxs (←A x) (←A i))
  | some (.array n e)=>do pure (.wW n (←D2 Q e) (←kAg Q e) (←A x) (←A i))
  | _=>ab
 | .lookup t m k ok=>match U t with
  | some (.map kt e)=>do
   let zs ←kZ Q e
   let z ←match ←kAg Q e,zs with
    | some _,_=>aa (FC.fn DA zs)| none,[z]=>aa z| _,_=>ab
   pure (.lookup (←kCK Q kt) (if ok then .fp [z] 77 else z) (←A m) (←A k))
  | _=>ab
 | .mapUpdate t m k v=>match U t with
  | some (.map kt _)=>do pure (.jg (←kCK Q kt) (←A m) (←A k) (←A v))
  | _=>ab
 | .range t x=>match U t with
  | some .string=>do pure (.range (←A x))
  | some (.map _ _)=>do pure (.kE (←A x))
  | _=>ab
 | .next x s=>(A x).map (if s then .next else .oI)| .extract x i=>do pure (.extract (←A x) i)
 | .entry x=>do pure (.entry (←A x))
 | .call c=>asg Q pr hs c
 | .defer c=>match c.callee with
  | .value x=>do pure (.defer (←A x) (←bj A c.args.toList))
  | _=>ab
 | _=>ab
def auk(ops:Array Oper):List aS:=ops.toList.map fun o=>
 ⟨o.dst.map .nat,(kOp Q pr hs o.op).getD .bad,match o.guard with
  | some (j,w)=>((ops[j]?).bind (·.dst)).map fun d=>(.nat d,w)
  | none=>ab⟩
def auj(ops:Array Oper)(aos:List aS)(b:Bool):List (Nat × Nat):=
 if !b then []else
 let d:=dD ops.toList []
 (List.range aos.length).flatMap fun i=>match aos[i]? with
  | some x=>if cls x.op=.r then((my aos++[aos.length]).filter fun e=>!(e == phase aos i||!B4 d aos i e)).map fun e=>(i,e)else []
  | none=>[]
def akk(n i:Nat)(ops:Array Oper)(b:Bool)(aos:List aS)(d:aG):aG:=
 let c:=.region aos (auj ops aos b)
 if bT Q (F5 pr) n (.region i ops b) c then c else d
def kC(n:Nat):Code→aG
 | .skip=>.skip
 | .region i ops d=>let aos:=auk Q pr hs ops
  akk Q pr n i ops d aos (akk Q pr n i ops d (aos.map fun a=>match a.op with | .bK s z n ps=>{ a with op:=.fP s z n ps } | _=>a) .bad)
 | .seq a b=>.seq (kC n a) (kC n b)
 | .cond c a b=>match kA pr c with
  | some j=>if mA (F5 pr) j c then .cond j (kC n a) (kC n b)else .bad| none=>.bad
 | .block i a=>.block i (kC n a)| .loop a=>.loop (kC n a)
 | .rangeFunc f ps a b=>match kA pr f with
  | some m=>let g:=ps.toList.map .nat
   if mA (F5 pr) m f&&ft (fun p (q:P)=>q.toNat == p&&decide (p<n)) ps.toList g then .fo m g (kC n a) (kC n b)else .bad
  | none=>.bad
 | .exit i=>.exit i| .ret=>.ret
 | .scope a=>let a':=kC n a
  if ko a' then .scope a' else .bad
 | .label l=>.label l| .goto l=>.goto l| .refuse _=>.bad
def kF(f:Func):Option aL:=f.body.bind fun b=>
 let rs:=f.results.toList.map fun | .tmp t=>gH.tmp (.nat t) | .cell a t=>.cell (.nat a) ((kAg Q t).getD ab)
 if f.name != "runtime.NumGoroutine"&&ft (xa Q f.ntmps) f.results.toList rs then aa ⟨(List.range (f.params.size+f.nfree)).map .nat,rs,kC Q pr hs f.ntmps b⟩else ab
def kT(f:Nat):Option aL:=if f=fv then ab else(Q.funcs[f]?).bind (kF Q pr hs)
theorem F6{n i:Nat}{ops:Array Oper}{b:Bool}{aos:List aS}{d:aG}(h:bT Q (F5 pr) n (.region i ops b) d=ae):bT Q (F5 pr) n (.region i ops b) (akk Q pr n i ops b aos d)=ae:=by
 unfold akk;dsimp only;split<;>assumption
theorem oQ{n:Nat}{c:Code}:bT Q (F5 pr) n c .bad=ae:=by cases c<;>rfl
theorem qS(n:Nat):∀ c:Code,bT Q (F5 pr) n c (kC Q pr hs n c)=ae
 | .skip | .exit _ | .ret | .label _ | .goto _=>by simp [kC,bT]
 | .refuse _=>oQ Q pr| .region i ops d=>F6 Q pr (F6 Q pr (oQ Q pr))| .seq a b=>by simp [kC,bT,qS n a,qS n b]
 | .cond c a b=>by
  unfold kC;split
  ·split
   ·simp [bT,qS n a,qS n b, *]
   ·exact oQ Q pr
  ·exact oQ Q pr
 | .block i a | .loop a=>by simp [kC,bT,qS n a]
 | .rangeFunc f ps a b=>by
  unfold kC;split
  ·dsimp only;split
   ·rename_i h;simp only [If]at h;simp only [bT,qS n a,qS n b,h.1,h.2,Bool.and_self]
   ·exact oQ Q pr
  ·exact oQ Q pr
 | .scope a=>by
  unfold kC;dsimp only;split
  ·simp [bT,qS n a, *]
  ·exact oQ Q pr
theorem ash{f:Func}{a:aL}(h:kF Q pr hs f=aa a):yD Q (F5 pr) f a=ae:=by
 unfold kF at h;rw [avy]at h;obtain⟨b,g,h⟩:=h;dsimp only at h;split at h
 ·rename_i d;cases h;simp only [If]at d;simp only [yD,g,qS,d.1,d.2,Bool.and_self,Bool.true_and,decide_eq_true_eq,List.map_map,avi,List.length_range];refine(List.map_congr_left fun n _=>sK n).trans (List.map_id _)
 ·cases h
theorem ame{f:Nat}{a:aL}(h:kT Q pr hs f=aa a):∃ fn,Q.funcs[F5 pr f]?=aa fn∧yD Q (F5 pr) fn a=ae:=by
 unfold kT at h;split at h
 ·cases h
 ·rename_i g;rw [avy]at h;obtain⟨fn,b,d⟩:=h;exact⟨fn,by rw [F5,aY g];exact b,ash Q pr hs d⟩
inductive LT where
 | e
 | n (l:LT) (k:Nat) (a:aL) (r:LT)
def LT.get:LT→Nat→Option aL
 | .e,_=>ab| .n l k a r,f=>bif Nat.beq f k then aa a else bif Nat.ble f k then l.get f else r.get f
inductive LT.All:LT→Prop
 | e:LT.All .e
 | n {l:LT} {k:Nat} {a:aL} {r:LT} (hl:LT.All l) (h:kT Q pr hs k=aa a) (hr:LT.All r):LT.All (.n l k a r)
theorem LT.All.get:∀ {t:LT} {f:Nat} {a:aL},LT.All Q pr hs t→t.get f=aa a→kT Q pr hs f=aa a
 | .e,_,_,_,h=>by cases h
 | .n l k b r,f,a,.n m j hr,h=>by
  unfold LT.get at h;cases d:Nat.beq f k with
  | true=>
   rw [d]at h;cases h;rw [Nat.eq_of_beq_eq_true d];exact j
  | false=>
   rw [d]at h;cases g:Nat.ble f k with
   | true=>rw [g]at h;exact m.get h| false=>rw [g]at h;exact hr.get h
end
def LT.fn(t:LT)(Q:Program)(pr:Nat)(hs:List Nat)(f:Nat):Option aL:=match t.get f with
 | some a=>aa a| none=>kT Q pr hs f
def LT.tb(t:LT)(Q:Program)(pr:Nat)(hs:List Nat):TB where
 get:=t.fn Q pr hs
 tt:=fun f args H=>match t.fn Q pr hs f with
  | some _=>ab| none=>Km.tt f args H
 ok:=fun f a h args H=>by simp [h]
theorem LT.env{t:LT}{Q:Program}{pr:Nat}{hs:List Nat}(h:LT.All Q pr hs t)(d:Q.follows .mixedOrders=ae)(g:Dr Q (F5 pr) Km.tt):Env Q (F5 pr) (t.tb Q pr hs).get (t.tb Q pr hs).tt:=by
 refine⟨d,fun f a b=>?_,fun f args H r H' b=>?_⟩
 ·have b:t.fn Q pr hs f=aa a:=b;unfold LT.fn at b;split at b
  ·rename_i e;cases b;exact ame _ _ _ (h.get _ _ _ e)
  ·exact ame _ _ _ b
 ·have b:(match t.fn Q pr hs f with
  | some _=>ab
  | none=>Km.tt f args H)=aa (aa (r,H')):=b
  split at b
  ·cases b
  ·exact g f args H r H' b
end Km
