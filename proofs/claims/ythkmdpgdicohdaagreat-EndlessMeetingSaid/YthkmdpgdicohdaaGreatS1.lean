/-
  afT the nL jY and the ng answer, for all arguments of their kind, in the small machine: part 1.
-/
import Derived.Test.YthkmdpgdicohdaaGreatTab
import Derived.Test.YthkmdpgdicohdaaGreatK3
import Derived.Test.YthkmdpgdicohdaaGreatK4
import Derived.KernelRfl
open Option renaming some → aa,none → ab
open Bool renaming true → ae,false → ag
open Int renaming tmod_eq_emod_of_nonneg → aoK, tdiv_eq_ediv_of_nonneg → ao5, ediv_nonneg → aou, le_trans → aoA, ediv_le_self → aoC, mul_nonneg → aov, mul_le_mul → aoG, emod_nonneg → aoc, emod_lt_of_pos → an8, mul_neg → apu, mul_le_mul_of_nonneg_left → anG, emod_eq_emod_iff_emod_sub_eq_zero → aps, dvd_mul_right → apa, gcd → aob, lt_or_le → aoH, dvd_refl → aoN, le_of_dvd → aom, emod_add_mul_ediv → an7, mul_comm → aoh, mul_sub → apv, mul_assoc → apj, mul_left_comm → apJ, dvd_sub → ao0, dvd_mul_left → apB, dvd_trans → aon, gcd_dvd_left → apo, gcd_pos_of_ne_zero_left → aow, ediv_mul_cancel → apI, natCast_mul → aph, mul_le_mul_of_nonneg_right → apE, le_refl → aoP, mul_one → apC, toNat_natCast → anJ
open Nat renaming gcd → aor, le_refl → anl, zero_add → aoa
open List renaming drop_eq_getElem_cons → anw, getElem_mem → IS, pairwise_iff_getElem → anP, getElem_of_mem → anB, pairwise_cons → aoQ, mem_cons → anK, all_eq_true → anx, mem_cons_self → anr, mem_cons_of_mem → anp, nil_append → aof, take_add_one → anu, getElem?_eq_getElem → By, take_length → ant, getElem?_append_left → AT, getElem?_set_ne → sh, getElem?_set_self → BY, drop_length → apf, mem_append → anm, mem_singleton → OF, drop_zero → aod, getElem_map → aoR, take_of_length_le → anA, length_append → ank, take_take → apd, getElem?_append_right → ann, mem_append_left → anO, mem_append_right → aoo, pairwise_append → an9, append_assoc → anV, pairwise_singleton → an1, map_congr_left → aoM, mem_map → anv, length_map → anq, mem_take_iff_getElem → an0, map_cons → ano, map_append → aop, nodup_cons → ao8
open Bool renaming true_and → aol, and_eq_true → If, eq_iff_iff → aoW
open Option.some renaming inj → aoV
set_option linter.unusedVariables false
set_option linter.constructorNameAsVariable false
set_option linter.unusedSimpArgs false
set_option linter.unusedSectionVars false
set_option linter.unnecessarySimpa false
set_option maxRecDepth 100000
namespace Go.Proofs.YthkmdpgdicohdaaGreat
open Go Km
abbrev u64(n:Int):V:=.c (.f (.int .u64 n))
theorem jb{n:Int}(b:0≤n)(d:n≤18446744073709551615):IntKind.wrap .u64 n=n:=by
 simp only [IntKind.wrap,IntKind.bits,IntKind.signed];simp;omega
theorem Xd{a b:Int}(h:0≤a)(d:0<b):bR .rem (u64 a) (u64 b)=aa (u64 (a % b)):=by
 rw [ik (by omega),aoK h]
theorem alm{a b:Int}(h:0≤a)(g:0<b)(d:a≤18446744073709551615):bR .quo (u64 a) (u64 b)=aa (u64 (a / b)):=by
 rw [pg (by omega),ao5 h,jb (aou h (by omega)) (aoA (aoC _ h) d)]
theorem pS{a:Int}(b:0≤a)(g:a≤9223372036854775807):bW tab 158 [vi a]=Eq (u64 a):=bW.eq (by
 refine cd rfl rfl fun Q d=>?_;apply ai;simp;refine au (ai ?_);simp;refine aF (by simp;omega) (aR ?_);apply ai;simp [jb (n:=a) b (by omega)];refine aE (d _ _ ?_);simp)
theorem VK{x y:Nat}(h:0<y):aor y (x % y)=aor x y:=by rw [Nat.gcd_comm x y,Nat.gcd_rec y x,Nat.gcd_comm]
theorem xO{a b:Nat}(z:(a:Int)≤4611686018427387904)(A:(b:Int)≤4611686018427387904):bW tab 122 [vi a,vi b]=Eq (vi (aor a b:Nat)):=bW.eq (by
 have H:=pS (a:=a) (by omega) (by omega);have I:=pS (a:=b) (by omega) (by omega);refine cd rfl rfl fun Q B=>?_;apply ai;simp;apply ai;simp [H,I];refine au (ay ?_);refine bI (fun m s=>∃(x y:Nat) (t:T),s=⟨t,[],[]⟩∧m=y∧(x:Int)≤4611686018427387904∧(y:Int)≤4611686018427387904∧t.g 5=u64 x∧t.g 6=u64 y∧aor x y=aor a b) b ⟨a,b,_,rfl,rfl,z,A,by simp,by simp,rfl⟩ ?_;rintro m s ⟨x,y,t,rfl,rfl,J,K,d,l,u⟩ F;refine au (ai ?_);simp [l];by_cases q:m=0
 ·subst q;refine aF (by simp) (bh rfl ?_);have j:x=aor a b:=by rw [←u];simp
  have E:¬ ((9223372036854775807:Int)<x):=by omega
  refine au (ai ?_);simp [d,E];refine aX (by simp) ?_;apply ai;simp [d,aP (n:=(x:Int))];refine aE (B _ _ ?_);simp [j]
 ·have v:=Xd (a:=x) (b:=m) (by omega) (by omega);rw [show(x:Int) % (m:Int)=((x % m:Nat):Int) from(Int.natCast_emod x m).symm]at v;have g:x % m<m:=Nat.mod_lt _ (by omega);refine av (by simp [q]) (aR ?_);refine ay (aq (.inl rfl) ?_);simp [d,l,v];refine ax (F (x % m) _ g ⟨m,x % m,_,rfl,rfl,by omega,by omega,by simp,by simp,by rw [VK (by omega)];exact u⟩))
theorem Vb{x:Int}(g:0≤x)(j:x≤4294967295):bR .and (u64 x) (u64 4294967295)=aa (u64 x):=by
 obtain⟨n,rfl⟩:∃ n:Nat,x=n:=⟨x.toNat,by omega⟩
 have e:(BitVec.ofInt 64 (n:Int) &&& BitVec.ofInt 64 4294967295).toNat=n:=by
  rw [BitVec.toNat_and];have b:(BitVec.ofInt 64 (n:Int)).toNat=n:=by simp [BitVec.toNat_ofInt];omega
  have d:(BitVec.ofInt 64 4294967295).toNat=2 ^ 32-1:=by decide
  rw [b,d,Nat.and_two_pow_sub_one_eq_mod,Nat.mod_eq_of_lt (by omega)]
 have key:IntKind.wrap .u64 ((BitVec.ofInt 64 (n:Int) &&& BitVec.ofInt 64 4294967295).toNat:Int)=n:=by rw [e];exact jb (by omega) (by omega)
 exact congrArg (fun k:Int=>aa (u64 k)) key
theorem DX{x:Int}(_:0≤x):bR .shr (u64 x) (u64 32)=aa (u64 (x / 4294967296)):=by
 simp only [bR];rw [aT (by decide),show min (Int.toNat 32) IntKind.u64.bits=32 from rfl,Int.fdiv_eq_ediv_of_nonneg _ (by decide)];rfl
theorem tR{x y:Int}(q:0≤x)(K:x≤2147483648)(g:0≤y)(L:y≤2147483648):bW tab 206 [u64 x,u64 y]=Eq (.t [u64 0,u64 (x*y)]):=bW.eq (by
 have d:0≤x*y:=aov q g;have F:x*y≤2147483648*2147483648:=aoG K L g (by decide);have j:x*y / 4294967296≤4294967295:=by omega
 have b:0≤x*y / 4294967296:=by omega
 have a1:=Vb q (show x≤4294967295 by omega);have A:=Vb g (show y≤4294967295 by omega);have s:=DX q;have u:=DX g;have I:x / 4294967296=0:=by omega
 have J:y / 4294967296=0:=by omega
 rw [I]at s;rw [J]at u;have H:=DX d;have B:=Vb b j;have l:=DX b;have sz:x*y / 4294967296 / 4294967296=0:=by omega
 rw [sz]at l;have v:IntKind.wrap .u64 (x*y)=x*y:=jb d (by omega);have z:IntKind.wrap .u64 (x*y / 4294967296)=x*y / 4294967296:=jb b (by omega);have m:IntKind.wrap .u64 0=0:=by decide
 refine cd rfl rfl fun Q E=>?_;apply ai;simp;apply ai;simp [a1];apply ai;simp [s];apply ai;simp [A];apply ai;simp [u];apply ai;simp [v];apply ai;simp [H,m,z];apply ai;simp [B];apply ai;simp [l];apply ai;simp [m,z];apply ai;simp [m,l];apply ai;simp [v];refine aE (E _ _ ?_);simp)
theorem VA{x n:Int}(j:0≤x)(u:x≤9223372036854775807)(g:0<n)(s:n≤9223372036854775807):bW tab 208 [u64 0,u64 x,u64 n]=Eq (.t [u64 (x / n),u64 (x % n)]):=bW.eq (by
 have b:¬ (n=0):=by omega
 have d:¬ (n≤0):=by omega
 have l:=alm j g (by omega);have m:=Xd j g;refine cd rfl rfl fun Q q=>?_;apply ai;simp;refine au (ai ?_);simp;refine aX (by simp [b]) ?_;refine au (ai ?_);simp;refine aX (by simp [d]) ?_;refine au (ai ?_);simp;refine av (by simp) ?_;apply ai;simp [l,m];refine aE (q _ _ ?_);simp)
def dn(n lo hi:Int):Bool:=decide (lo≤n)&&decide (n≤hi)
theorem Lg{n lo hi:Int}(h:dn n lo hi=ae):lo≤n∧n≤hi:=by simpa [dn]using h
structure aI where
 hg:Tg
 head:List Int
 fr:Int
 aL:Int
 cg:Tg
 bg:List Int
def aI.row(p:aI):List FC:=[sl p.hg (ints p.head),fi p.fr,fi p.aL,sl p.cg (ints p.bg)]
def aJ(l:List aI):List (List FC):=l.map aI.row
@[simp] theorem AW (l:List aI):(aJ l).length=l.length:=by simp [aJ]
theorem bD(l:List aI):bP 4 (aJ l):=bP.map fun _=>rfl
theorem cU{l:List aI}{j:Nat}(b:j<l.length):(aJ l)[j]?=aa l[j].row:=by simp [aJ,b]
def dC(limit last:Int):List Int→Bool
 | []=>ae| n::r=>decide (last<n)&&decide (n<limit)&&dC limit n r
theorem yF{limit last:Int}{l:List Int}{j:Nat}(b:j<l.length):dC limit last (l.drop j)=(decide (last<l[j])&&decide (l[j]<limit)&&dC limit l[j] (l.drop (j+1))):=by
 rw [anw b];rfl
def cL(p:aI):Bool:=decide (0≤p.fr)&&decide (p.fr≤1099511627776)&&decide (1≤p.aL)&&decide (p.aL≤1099511627776) &&
 decide ((p.head.length:Int)+p.bg.length≤1048576)&&dC p.fr (-1) p.head&&dC p.aL (-1) p.bg
theorem K4(g:Tg)(l:List Int)(limit:Int)(A:l.length≤9223372036854775807):Kf tab 124 [.c (.f (sl g (ints l))),vi limit] (vb (dC limit (-1) l)):=by
 refine dF rfl rfl fun H Q q=>?_;apply ai;simp;apply ai;simp;apply au;apply ai;simp;refine b7 l.length (fun j t H'=>t.g 1=vi limit∧t.g 8=.c (.f (sl g (ints l)))∧H=H'∧∃ last,t.g 5=vi last∧dC limit (-1) l=dC limit last (l.drop j)) A (by decide) (by decide) (by simp) (by simp) (by simp) ?_ ?_
 ·rintro j t _ x ⟨d,m,rfl,last,u,b⟩ s v next
  rw [yF x]at b;refine ay ?_;apply ai;simp [s,m,bG,x,ey];apply au;apply ai;simp [u,d];by_cases y:l[j]≤last
  ·simp [y];refine av (by simp) ?_;apply ai;simp;refine aE (q _ _ ?_);simp [b,show¬ last<l[j] by omega]
  simp [y,d];by_cases z:limit≤l[j]
  ·simp [z];refine av (by simp) ?_;apply ai;simp;refine aE (q _ _ ?_);simp [b,show¬ l[j]<limit by omega]
  simp [z];refine aF (by simp) ?_;refine aR ?_;refine aq (.inl rfl) ?_;simp;refine ax (next _ _ ?_ (by simp [s]) (by simp [v]));rw [decide_eq_true (by omega),decide_eq_true (by omega)]at b;exact⟨by simp [d],by simp [m],rfl,l[j],by simp,by simpa using b⟩
 ·rintro t _ ⟨d,m,rfl,last,u,b⟩ s v;apply ai;simp;refine aE (q _ _ ?_);simp [b,dC]
theorem nN(g:Tg)(l:List Int)(limit:Int)(b:l.length≤9223372036854775807) :
  bW tab 124 [.c (.f (sl g (ints l))),vi limit]=Eq (vb (dC limit (-1) l)):=(K4 g l limit b).eq
theorem Lh{n:Int}(b:9223372036854775807<n)(d:n≤18446744073709551615):IntKind.wrap .i64 n=n-18446744073709551616:=by
 simp only [IntKind.wrap,IntKind.bits,IntKind.signed];simp;omega
theorem oP:∀(l:List Int) (limit last:Int),dC limit last l=ae→l.length=0∨last+l.length<limit
 | [],_,_,_=>.inl rfl
 | n::r,limit,last,h=>by
  simp [dC]at h;have:=oP r limit n h.2;simp;omega
theorem ahu(p:aI)(v:p.head.length≤9223372036854775807)(x:p.bg.length≤9223372036854775807) :
  Kf tab 82 [.a (p.row.map .f)] (vb (cL p)):=by
 refine dF rfl rfl fun H Q d=>?_;apply ai;simp [aI.row];apply ai;simp;by_cases l:0≤p.fr
 case neg=>
  simp [l];refine aE (d _ _ ?_);simp [cL,l]
 simp [l];by_cases m:p.fr≤1099511627776
 case neg=>
  simp [m];refine aE (d _ _ ?_);simp [cL,m]
 simp [m];by_cases q:1≤p.aL
 case neg=>
  simp [q];refine aE (d _ _ ?_);simp [cL,q]
 simp [q];by_cases g:p.aL≤1099511627776
 case neg=>
  simp [g];refine aE (d _ _ ?_);simp [cL,g]
 by_cases y:p.head.length+p.bg.length≤9223372036854775807
 case neg=>
  have e:IntKind.wrap .i64 ((p.head.length:Int)+p.bg.length)=(p.head.length:Int)+p.bg.length-18446744073709551616:=Lh (by omega) (by omega);simp [g,e,show(p.head.length:Int)+p.bg.length-18446744073709551616≤1048576 by omega,nN p.hg p.head p.fr v];cases j:dC p.fr (-1) p.head
  ·simp;refine aE (d _ _ ?_);simp [cL,j]
  simp [nN p.cg p.bg p.aL x];have u:dC p.aL (-1) p.bg=ag:=by
   have a:=oP _ _ _ j;cases u:dC p.aL (-1) p.bg
   ·rfl
   ·have b:=oP _ _ _ u;omega
  refine aE (d _ _ ?_);simp [cL,u]
 simp [g,aP (n:=(p.head.length:Int)+p.bg.length)];by_cases s:(p.head.length:Int)+p.bg.length≤1048576
 case neg=>
  simp [s];refine aE (d _ _ ?_);simp [cL,s]
 simp [s,nN p.hg p.head p.fr v];cases j:dC p.fr (-1) p.head
 ·simp;refine aE (d _ _ ?_);simp [cL,j]
 simp [nN p.cg p.bg p.aL x];refine aE (d _ _ ?_);simp [cL,l,m,q,g,s,j]
def aI.Sm(p:aI):Prop:=p.head.length≤9223372036854775807∧p.bg.length≤9223372036854775807
theorem qW(p:aI)(h:p.Sm):bW tab 82 [.a (p.row.map .f)]=Eq (vb (cL p)):=(ahu p h.1 h.2).eq
theorem jF{p:aI}(h:cL p=ae):p.Sm:=by
 simp [cL]at h;exact⟨by omega,by omega⟩
structure cu where
 tg:Tg
 fs:List aI
def cu.row(t:cu):List FC:=[sl t.tg (aJ t.fs)]
def aA(l:List cu):List (List FC):=l.map cu.row
@[simp] theorem adS (l:List cu):(aA l).length=l.length:=by simp [aA]
theorem ft(l:List cu):bP 1 (aA l):=bP.map fun _=>rfl
theorem gr{l:List cu}{j:Nat}(b:j<l.length):(aA l)[j]?=aa l[j].row:=by simp [aA,b]
def cu.Sm(t:cu):Prop:=t.fs.length≤9223372036854775807∧∀ p ∈ t.fs,p.Sm
def iS(t:cu):Bool:=decide (1≤(t.fs.length:Int))&&decide ((t.fs.length:Int)≤4)&&t.fs.all cL
def iD(l:List cu):Bool:=decide ((l.length:Int)≤64)&&l.all iS
theorem U_{b:Type}{l:List b}{p:b→Bool}{j:Nat}(d:j<l.length):(l.drop j).all p=(p l[j]&&(l.drop (j+1)).all p):=by
 rw [anw d,List.all_cons]
theorem afV(p:aI)(h:p.Sm):Kf tab 81 [.a (p.row.map .f)] (vb (!cL p)):=by
 refine dF rfl rfl fun H Q d=>?_;have b:=qW p h;simp [aI.row]at b;apply ai;simp [aI.row];apply ai;simp [b];refine aE (d _ _ ?_);simp
theorem Jz(g:Tg)(l:List aI)(d:l.length≤9223372036854775807)(h:∀ p ∈ l,p.Sm) :
  bW tab 80 [.c (.f (sl g (aJ l))),.c (.f (.fn 81 []))]=Eq (vb (l.any fun p=>!cL p)):=
 (gl U5 (jg U6 l aI.row (fun r=>.a (r.row.map .f)) (fun p=>!cL p) g 81 [] d
  (fun j b H=>cH (bD l) (cU b)) (fun p m=>afV p (h p m)))).eq
theorem mZ(g:Tg)(l:List cu)(E:l.length≤9223372036854775807)(h:∀ t ∈ l,t.Sm):Kf tab 50 [.a [.f (sl g (aA l))]] (vb (iD l)):=by
 refine dF rfl rfl fun H Q s=>?_;apply ai;simp;apply au;apply ai;simp;by_cases y:(64:Int)<l.length
 ·simp [y];refine av (by simp) ?_;apply ai;simp;refine aE (s _ _ ?_);simp [iD,show¬ (l.length:Int)≤64 by omega]
 simp [y];refine aF (by simp) ?_;refine aR ?_;apply au;apply ai;simp;refine b7 l.length (fun j t H'=>t.g 10=.c (.f (sl g (aA l)))∧(∃ J,H'=H++J)∧l.all iS=(l.drop j).all iS) E (by decide) (by decide) (by simp) (by simp) (by simp) ?_ ?_
 ·rintro j t _ m ⟨eh,⟨J,rfl⟩,d⟩ u v next
  rw [U_ m]at d;have x:=h l[j] (IS m);have b:=mU (H:=H++J) (k:=0) (ft l) (gr m) rfl;refine ay ?_;apply ai;simp at b;simp [u,eh,bG,m,b];have bad:iS l[j]=ag→∀(t:T) (J:an) k,WP tab 50 ab (.code (.region [⟨D 2,.cX (.k (.c (.f (.bool ag)))),ab⟩] [])::.code .ret::k) ⟨t,[],H++J⟩ Q:=by
   intro B t J k;refine aq (.inl rfl) ?_;simp;refine aE (s _ _ ?_);simp [iD,d,B]
  apply ai;simp;by_cases z:(l[j].fs.length:Int)<1
  ·simp [z];exact av (by simp) (au (bad (by simp [iS,show¬ 1≤(l[j].fs.length:Int) by omega]) _ _ _))
  simp [z];by_cases A:(4:Int)<l[j].fs.length
  ·simp [A];exact av (by simp) (au (bad (by simp [iS,show¬ (l[j].fs.length:Int)≤4 by omega]) _ _ _))
  simp [A,Jz l[j].tg l[j].fs x.1 x.2];cases q:l[j].fs.any fun p=>!cL p
  ·have:iS l[j]=ae:=by
    simp [iS]at q ⊢;exact⟨⟨by omega,by omega⟩,q⟩
   refine aF (by simp) ?_;refine aR (ax (next _ _ ?_ (by simp [u]) (by simp [v])));rw [this,aol]at d;exact⟨by simp [eh],⟨_,rfl⟩,d⟩
  ·exact av (by simp) (au (bad (by simp [iS]at q ⊢;intro _ _;exact q) _ _ _))
 ·rintro t _ ⟨eh,⟨J,rfl⟩,d⟩ u v;apply ai;simp;refine aE (s _ _ ?_);simp [iD,d,show(l.length:Int)≤64 by omega]
theorem pJ(a:Int):bW tab 65 [vi a]=Eq (vb ag):=(show Kf tab 65 [vi a] (vb ag) by
 refine dF rfl rfl fun H Q b=>?_;apply ai;simp;apply ai;simp;refine aE (b _ _ ?_);simp).eq
def gw(a b:Int):Int:=if a<b then -1 else if b<a then 1 else 0
theorem Bz(a b:Int):Kf tab 33 [vi a,vi b] (vi (gw a b)):=by
 refine dF rfl rfl fun H Q g=>?_;apply ai;simp;apply ai;simp [pJ];apply ai;simp [pJ];apply au;apply ai;simp;refine aX (by simp) ?_;apply au;apply ai;simp;refine aX (by simp) ?_;apply au;apply ai;simp;by_cases h:a<b
 ·refine av (by simp [h]) ?_;apply ai;simp;refine aE (g _ _ ?_);simp [gw,h]
 refine aX (by simp [h]) ?_;apply au;apply ai;simp;by_cases d:b<a
 ·refine av (by simp [d]) ?_;apply ai;simp;refine aE (g _ _ ?_);simp [gw,h,d]
 refine aX (by simp [d]) ?_;apply ai;simp;refine aE (g _ _ ?_);simp [gw,h,d]
theorem tr(a b:Int):bW tab 33 [vi a,vi b]=Eq (vi (gw a b)):=(Bz a b).eq
def Ce:List Int→Int
 | []=>0| a::r=>if a=0 then Ce r else a
theorem Wj{l:List Int}{j:Nat}(b:j<l.length):Ce (l.drop j)=if l[j]=0 then Ce (l.drop (j+1))else l[j]:=by
 rw [anw b];rfl
theorem akN(g:Tg)(l:List Int)(x:l.length≤9223372036854775807):Kf tab 32 [.c (.f (sl g (ints l)))] (vi (Ce l)):=by
 refine dF rfl rfl fun H Q s=>?_;apply ai;simp;apply ai;simp;apply au;apply ai;simp;refine b7 l.length (fun j t H'=>t.g 3=vi 0∧t.g 6=.c (.f (sl g (ints l)))∧H=H'∧Ce l=Ce (l.drop j)) x (by decide) (by decide) (by simp) (by simp) (by simp) ?_ ?_
 ·rintro j t _ v ⟨d,m,rfl,b⟩ q u next
  rw [Wj v]at b;refine ay ?_;apply ai;simp [q,m,bG,v,ey];apply ai;simp [d];by_cases h:l[j]=0
  ·refine aF (by simp [h]) ?_;refine aR (ax (next _ _ ?_ (by simp [q]) (by simp [u])));rw [bf h]at b;exact⟨by simp [d],by simp [m],rfl,b⟩
  ·refine av (by simp [h]) ?_;apply ai;simp;refine aE (s _ _ ?_);simp [b,h]
 ·rintro t _ ⟨d,m,rfl,b⟩ q u;apply ai;simp [d];refine aE (s _ _ ?_);simp [b,Ce]
theorem aef(g:Tg)(l:List Int)(b:l.length≤9223372036854775807):bW tab 32 [.c (.f (sl g (ints l)))]=Eq (vi (Ce l)):=(akN g l b).eq
theorem af_(n lo hi:Int):Kf tab 46 [vi n,vi lo,vi hi] (vb (dn n lo hi)):=by
 refine dF rfl rfl fun H Q b=>?_;apply ai;simp;apply ai;by_cases h:lo≤n
 ·simp [h];refine aE (b _ _ ?_);simp [dn,h]
 ·simp [h];refine aE (b _ _ ?_);simp [dn,h]
@[simp] theorem amq (n lo hi:Int):bW tab 46 [vi n,vi lo,vi hi]=Eq (vb (dn n lo hi)):=(af_ n lo hi).eq
structure aB where
 day:Int
 fr:Int
 to:Int
deriving DecidableEq
def aB.row(x:aB):List FC:=[fi x.day,fi x.fr,fi x.to]
def aD(l:List aB):List (List FC):=l.map aB.row
@[simp] theorem iV (l:List aB):(aD l).length=l.length:=by simp [aD]
theorem bw(l:List aB):bP 3 (aD l):=bP.map fun _=>rfl
theorem cD{l:List aB}{j:Nat}(b:j<l.length):(aD l)[j]?=aa l[j].row:=by simp [aD,b]
def eM(x y:aB):Int:=Ce [gw x.fr y.fr,gw x.day y.day,gw x.to y.to]
theorem AN(x y:aB):Kf tab 29 [.a (x.row.map .f),.a (y.row.map .f)] (vi (eM x y)):=by
 refine dF rfl rfl fun H Q d=>?_;have b:=aef .fs [gw x.fr y.fr,gw x.day y.day,gw x.to y.to] (by simp);simp [ints,sl,Tg.fc]at b;apply ai;simp [aB.row];apply ai;simp [tr,deep,jz,pW,b];refine aE (d _ _ ?_);simp [eM]
theorem qd(x y:aB):bW tab 29 [.a (x.row.map .f),.a (y.row.map .f)]=Eq (vi (eM x y)):=(AN x y).eq
theorem B'(g:Tg)(l:List cu)(b:l.length≤9223372036854775807)(h:∀ t ∈ l,t.Sm):bW tab 50 [.a [.f (sl g (aA l))]]=Eq (vb (iD l)):=(mZ g l b h).eq
structure cm where
 mg:Tg
 ts:List cu
 min:Int
def cm.row(c:cm):List FC:=[sl c.mg (aA c.ts),fi c.min]
def aQ(l:List cm):List (List FC):=l.map cm.row
@[simp] theorem Xk (l:List cm):(aQ l).length=l.length:=by simp [aQ]
theorem dh(l:List cm):bP 2 (aQ l):=bP.map fun _=>rfl
theorem eU{l:List cm}{j:Nat}(b:j<l.length):(aQ l)[j]?=aa l[j].row:=by simp [aQ,b]
structure aN where
 cg:Tg
 cs:List cm
 len:Int
 xg:Tg
 xs:List aB
def aN.row(s:aN):List FC:=[sl s.cg (aQ s.cs),fi s.len,sl s.xg (aD s.xs)]
def aN.Sm(s:aN):Prop:=s.cs.length≤9223372036854775807∧s.xs.length≤9223372036854775807∧∀ c ∈ s.cs,c.ts.length≤9223372036854775807∧∀ t ∈ c.ts,t.Sm
def dM:Option Int→List cm→Bool
 | _,[]=>ae| prev,c::r=>iD c.ts&&dn c.min (-4320) 4320&&(prev.all fun m=>decide (m<c.min))&&dM (aa c.min) r
def mS(x:aB):Bool:=dn x.day 0 1099511627776&&dn x.fr (-2251799813685248) 1583296743997439&&dn x.to (x.fr+1) (x.fr+10080)
def fS:Option aB→List aB→Bool
 | _,[]=>ae| prev,x::r=>mS x&&(prev.all fun m=>decide (eM m x<0))&&fS (aa x) r
def fZ(s:aN):Bool:=decide ((s.cs.length:Int)≤64)&&dn s.len 1 10080&&decide ((s.xs.length:Int)≤4096)&&dM ab s.cs&&fS ab s.xs
theorem uT{p:Option Int}{l:List cm}{j:Nat}(b:j<l.length):dM p (l.drop j)=(iD l[j].ts&&dn l[j].min (-4320) 4320&&(p.all fun m=>decide (m<l[j].min))&&dM (aa l[j].min) (l.drop (j+1))):=by
 rw [anw b];rfl
theorem Ak{p:Option aB}{l:List aB}{j:Nat}(b:j<l.length):fS p (l.drop j)=(mS l[j]&&(p.all fun m=>decide (eM m l[j]<0))&&fS (aa l[j]) (l.drop (j+1))):=by
 rw [anw b];rfl
theorem jj(s:aN)(h:s.Sm):Kf tab 24 [.a (s.row.map .f)] (vb (fZ s)):=by
 obtain⟨hc,hx,U⟩:=h;refine dF rfl rfl fun H Q hQ=>?_;have bad:fZ s=ag→∀(t:T) (J:an) k,WP tab 24 ab (.code (.region [⟨D 2,.cX (.k (.c (.f (.bool ag)))),ab⟩] [])::.code .ret::k) ⟨t,[],H++J⟩ Q:=by
  intro hf t J k;refine aq (.inl rfl) ?_;simp;refine aE (hQ _ _ ?_);simp [hf]
 apply ai;simp [aN.row];apply au;apply ai;simp;by_cases k1:(64:Int)<s.cs.length
 ·simp [k1];exact av (by simp) (au (bad (by simp [fZ,show¬ (s.cs.length:Int)≤64 by omega]) _ _ _))
 simp [k1];cases k2:dn s.len 1 10080
 ·simp;exact av (by simp) (au (bad (by simp [fZ,k2]) _ _ _))
 simp;by_cases k3:(4096:Int)<s.xs.length
 ·simp [k3];exact av (by simp) (au (bad (by simp [fZ,show¬ (s.xs.length:Int)≤4096 by omega]) _ _ _))
 simp [k3];have hS:fZ s=(dM ab s.cs&&fS ab s.xs):=by simp [fZ,k2,show(s.cs.length:Int)≤64 by omega,show(s.xs.length:Int)≤4096 by omega]
 rw [hS]at bad;refine aF (by simp) ?_;refine aR ?_;apply au;apply ai;simp;obtain⟨l,v⟩:=aM ([C.f (sl s.cg (aQ s.cs)),C.f (fi s.len),C.f (sl s.xg (aD s.xs))]);rw [←v];have a7:l.drop 0=[C.f (sl s.cg (aQ s.cs)),C.f (fi s.len),C.f (sl s.xg (aD s.xs))]:=by rw [v];rfl
 have S:l.drop 2=[C.f (sl s.xg (aD s.xs))]:=by rw [v];rfl
 have M:l=C.f (sl s.cg (aQ s.cs))::[C.f (fi s.len),C.f (sl s.xg (aD s.xs))]:=v;refine b7 s.cs.length (fun j t H'=>t.g 1=.c (.ptr H.length 0 0)∧t.g 25=.c (.f (sl s.cg (aQ s.cs)))∧(∃ J,H'=H++(.box l 0::J)) ∧
  ∃ d,(∀ m,j=m+1→∀ h:m<s.cs.length,d=aa (s.cs[m]'h).min)∧(j=0→d=ab)∧dM ab s.cs=dM d (s.cs.drop j)) hc (by decide) (by decide) (by simp) (by simp)
   ⟨by simp,by simp,⟨[],by simp⟩,ab,by omega,by simp,by simp⟩ ?_ ?_
 ·rintro j t _ F ⟨x,A,⟨J,rfl⟩,d,Y,Z,u⟩ E K next
  rw [uT F]at u;have L:=cH (H:=H++(.box l 0::J)) (dh s.cs) (eU F);have z:=B' s.cs[j].mg s.cs[j].ts (U _ (IS F)).1 (U _ (IS F)).2;refine ay ?_;apply ai;simp [E,A,bG,F,L,cm.row];apply ai;simp [z];cases W:iD s.cs[j].ts
  ·simp;exact av (by simp) (au (bad (by simp [u,W]) _ _ _))
  simp;cases O:dn s.cs[j].min (-4320) 4320
  ·simp;exact av (by simp) (au (bad (by simp [u,O]) _ _ _))
  simp;have go:(d.all fun m=>decide (m<s.cs[j].min))=ae→∃ g,(∀ m,j+1=m+1→∀ h:m<s.cs.length,g=aa (s.cs[m]'h).min)∧(j+1=0→g=ab)∧dM ab s.cs=dM g (s.cs.drop (j+1)):=by
   intro hp;rw [W,O,hp,aol,aol,aol]at u;refine⟨aa s.cs[j].min,fun m z h=>?_,by omega,u⟩;have:m=j:=by omega
   subst this;rfl
  cases j with
  | zero=>
   simp;refine aF (by simp) ?_;refine aR (ax (next _ _ ?_ (by simp [E]) (by simp [K])));exact⟨by simp [x],by simp [A],⟨_,rfl⟩,go (by rw [Z rfl];rfl)⟩
  | succ m=>
   have z:m<s.cs.length:=by omega
   have y:=Y m rfl z;have e1:((m+1:Nat):Int)-1=m:=by omega
   have q:=mU (H:=H++(bV.box l 0 ::(J++[bV.box [C.f (sl s.cs[m+1].mg (aA s.cs[m+1].ts)),C.f (fi s.cs[m+1].min)] 0]))) (k:=1) (dh s.cs) (eU z) rfl;rw [M]at q;simp [show 0<m+1 by omega,x,M,aP (n:=(m:Int)),bG,z,q];by_cases X:s.cs[m+1].min≤s.cs[m].min
   ·simp [X];have b:=bad (by simp [u,y,show¬ s.cs[m].min<s.cs[m+1].min by omega]);refine av (by simp) ?_;exact au (b _ _ _)
   ·simp [X];refine aF (by simp) ?_;refine aR (ax (next _ _ ?_ (by simp [E]) (by simp [K])));exact⟨by simp [x],by simp [A],⟨_,by rw [M]⟩,go (by rw [y];simp;omega)⟩
 ·rintro t _ ⟨x,A,⟨J,rfl⟩,d,Y,Z,u⟩ E K;have hC:dM ab s.cs=ae:=by rw [u];simp [dM]
  rw [hC,aol]at bad hS;apply au;apply ai;simp [x,S];refine b7 s.xs.length (fun j t H'=>t.g 1=.c (.ptr H.length 0 0)∧t.g 60=.c (.f (sl s.xg (aD s.xs)))∧(∃ J,H'=H++(.box l 0::J)) ∧
   ∃ d,(∀ m,j=m+1→∀ h:m<s.xs.length,d=aa (s.xs[m]'h))∧(j=0→d=ab)∧fS ab s.xs=fS d (s.xs.drop j)) hx (by decide) (by decide) (by simp) (by simp)
    ⟨by simp [x],by simp,⟨J,by simp⟩,ab,by omega,by simp,by simp⟩ ?_ ?_
  ·rintro j t _ F ⟨x,B,⟨J,rfl⟩,d,Y,Z,u⟩ E K next
   rw [Ak F]at u;have L:=cH (H:=H++(.box l 0::J)) (bw s.xs) (cD F);refine ay ?_;apply ai;simp [E,B,bG,F,L,aB.row];have N:mS s.xs[j]=ag→∀(t:T) (J:an) k,t.g 7=vb ag→WP tab 24 ab (.code zo::k) ⟨t,[],H++J⟩ Q:=by
    intro hf t J k g7;apply ai;simp [g7];exact av (by simp) (au (bad (by simp [u,hf]) _ _ _))
   have go:mS s.xs[j]=ae→(d.all fun m=>decide (eM m s.xs[j]<0))=ae→∃ g,(∀ m,j+1=m+1→∀ h:m<s.xs.length,g=aa (s.xs[m]'h))∧(j+1=0→g=ab)∧fS ab s.xs=fS g (s.xs.drop (j+1)):=by
    intro hg hp;rw [hg,hp,aol,aol]at u;refine⟨aa s.xs[j],fun m z h=>?_,by omega,u⟩;have:m=j:=by omega
    subst this;rfl
   apply ai;simp;cases W:dn s.xs[j].day 0 1099511627776
   ·simp;exact N (by simp [mS,W]) _ _ _ (by simp)
   simp;cases O:dn s.xs[j].fr (-2251799813685248) 1583296743997439
   ·simp;exact N (by simp [mS,O]) _ _ _ (by simp)
   have w5:=Lg O;simp [aP (n:=s.xs[j].fr+1),aP (n:=s.xs[j].fr+10080)];cases X:dn s.xs[j].to (s.xs[j].fr+1) (s.xs[j].fr+10080)
   ·exact N (by simp [mS,X]) _ _ _ (by simp)
   have hg:mS s.xs[j]=ae:=by simp [mS,W,O,X]
   apply ai;simp;cases j with
   | zero=>
    simp;refine aF (by simp) ?_;refine aR (ax (next _ _ ?_ (by simp [E]) (by simp [K])));exact⟨by simp [x],by simp [B],⟨_,rfl⟩,go hg (by rw [Z rfl];rfl)⟩
   | succ m=>
    have z:m<s.xs.length:=by omega
    have y:=Y m rfl z;have e1:((m+1:Nat):Int)-1=m:=by omega
    have q:=cH (H:=H++(.box l 0 ::(J++[bV.box [C.f (fi s.xs[m+1].day),C.f (fi s.xs[m+1].fr),C.f (fi s.xs[m+1].to)] 0]))) (bw s.xs) (cD z);have I:=qd s.xs[m] s.xs[m+1];simp [aB.row]at I q;simp [show 0<m+1 by omega,x,S,aP (n:=(m:Int)),bG,z,q,I];by_cases k7:0≤eM s.xs[m] s.xs[m+1]
    ·simp [k7];have b:=bad (by simp [u,y,show¬ eM s.xs[m] s.xs[m+1]<0 by omega]);refine av (by simp) ?_;exact au (b _ _ _)
    ·simp [k7];refine aF (by simp) ?_;refine aR (ax (next _ _ ?_ (by simp [E]) (by simp [K])));exact⟨by simp [x],by simp [B],⟨_,rfl⟩,go hg (by rw [y];simp;omega)⟩
  ·rintro t _ ⟨x,B,⟨J,rfl⟩,d,Y,Z,u⟩ E K;have hX:fS ab s.xs=ae:=by rw [u];simp [fS]
   apply ai;simp;refine aE (hQ _ _ ?_);simp [hS,hX]
theorem fH{a b:Int}(h:0≤a)(g:0<b)(d:a≤9223372036854775807):bR .quo (vi a) (vi b)=aa (vi (a / b)):=by
 rw [pg (by omega),ao5 h,wrap64 (aoA (by omega) (aou h (by omega))) (aoA (aoC _ h) d)]
theorem fu{a b:Int}(h:0≤a)(d:0<b):bR .rem (vi a) (vi b)=aa (vi (a % b)):=by
 rw [ik (by omega),aoK h]
theorem ahN{a b:Int}(h:a≤0)(m:0<b)(l:-9223372036854775807≤a):bR .quo (vi a) (vi b)=aa (vi (-((-a) / b))):=by
 have g:(-a) / b≤-a:=aoC _ (by omega);have j:0≤(-a) / b:=aou (by omega) (by omega);have d:a.tdiv b = -((-a) / b):=by
  have:a = -(-a):=by omega
  rw [this,Int.neg_tdiv,ao5 (by omega)];simp
 rw [pg (by omega),d,aP]
theorem ahQ{a b:Int}(h:a≤0)(g:0<b):bR .rem (vi a) (vi b)=aa (vi (-((-a) % b))):=by
 have d:a.tmod b = -((-a) % b):=by
  have:a = -(-a):=by omega
  rw [this,Int.neg_tmod,aoK (by omega)];simp
 rw [ik (by omega),d]
theorem An(a b:Int)(B:1≤b)(A:-4611686018427387904≤a)(g:a≤4611686018427387904):bW tab 68 [vi a,vi b]=Eq (.t [vi (a / b),vi 0]):=bW.eq (by
 refine cd rfl rfl fun Q d=>?_;apply ai;simp;apply au;apply ai;simp;refine aF (by simp;omega) (aR ?_);by_cases h:0≤a
 ·apply ai;simp [fH h (show 0<b by omega) (by omega)];apply au;apply ai;have:=aoc a (show b≠0 by omega);simp [fu h (show 0<b by omega)];refine aF (by simp;omega) (aR ?_);apply ai;simp;refine aE (d _ _ ?_);simp
 ·apply ai;simp [ahN (show a≤0 by omega) (show 0<b by omega) (by omega)];apply au;apply ai;have e:=aoc (-a) (show b≠0 by omega);have j:=an8 (-a) (show 0<b by omega);have q:0≤(-a) / b:=aou (by omega) (by omega);have m:(-a) / b≤-a:=aoC _ (by omega);have l:=Int.mul_ediv_add_emod (-a) b;simp [ahQ (show a≤0 by omega) (show 0<b by omega)];by_cases s:(-a) % b=0
  ·refine aF (by simp;omega) (aR ?_);apply ai;simp;refine aE (d _ _ ?_);have:a / b = -(-a / b):=by
    refine Int.ediv_eq_of_eq_mul_right (by omega) ?_;rw [apu];omega
   simp [this]
  ·refine av (by simp;omega) ?_;refine aq (.inl rfl) ?_;simp [aP (n:=-(-a / b)-1)];apply ai;simp;refine aE (d _ _ ?_);have:a / b = -(-a / b)-1:=by
    have u:=aoc a (show b≠0 by omega);have v:=an8 a (show 0<b by omega);have x:=Int.mul_ediv_add_emod a b;have y:b*(a / b+(-a) / b+1)=b-a % b-(-a) % b:=by rw [Int.mul_add,Int.mul_add];omega
    have z:a / b+(-a) / b+1=0:=by
     rcases Int.lt_trichotomy (a / b+(-a) / b+1) 0 with h | h | h
     ·have:b*(a / b+(-a) / b+1)≤b*(-1):=anG (by omega) (by omega);omega
     ·exact h
     ·have:b*1≤b*(a / b+(-a) / b+1):=anG (by omega) (by omega);omega
    omega
   simp [this])
theorem jW(a:Int)(g:-4611686018427387904≤a)(b:a≤4611686018427387904):bW tab 35 [vi a]=Eq (vi (a / 1440)):=Kf.eq (by
 refine dF rfl rfl fun H Q d=>?_;apply ai;simp;apply ai;simp [An a 1440 (by omega) g b];apply ai;simp;refine aE (d _ _ ?_);simp)
def cJ(len b d:Int):aB:=⟨d,d*1440+b,d*1440+b+len⟩
def jR(n:Int):Prop:=-1000000000000000≤n∧n≤1000000000000000
theorem mj(g j l:FC)(len b d:Int)(q:jR len)(s:jR b)(u:jR d) :
  bW tab 26 [.a [.f g,.f (fi len),.f j],.a [.f l,.f (fi b)],vi d]=Eq (.a ((cJ len b d).row.map .f)):=bW.eq (Kf.ahM (by
 unfold jR at *;refine dF rfl rfl fun H Q m=>?_;apply ai;simp;apply ai;simp [aP (n:=d*1440),aP (n:=d*1440+b)];apply ai;simp [aP (n:=d*1440+b+len)];refine aE (m _ _ ?_);simp [cJ,aB.row]))
def eQ(a b c d:Int):Bool:=decide (a<d)&&decide (c<b)
theorem C9(a b c d:Int):bW tab 27 [.a [.f (fi a),.f (fi b)],.a [.f (fi c),.f (fi d)]]=Eq (vb (eQ a b c d)):=Kf.eq (by
 refine dF rfl rfl fun H Q g=>?_;apply ai;simp;apply ai;by_cases h:a<d
 ·simp [h];refine aE (g _ _ ?_);simp [eQ,h]
 ·simp [h];refine aE (g _ _ ?_);simp [eQ,h])
theorem Bc{u m:Int}(b:0<m):(u.tmod m+m).tmod m=u % m:=by
 have d:=Int.tmod_lt_of_pos u b;have g:=Int.lt_tmod_of_pos u b;rw [aoK (by omega),Int.add_emod_right];exact aps.2 (by
  have:=Int.tmod_add_mul_tdiv u m;have e:u.tmod m-u = -(m*u.tdiv m):=by omega
  rw [e];exact Int.emod_eq_zero_of_dvd (Int.dvd_neg.2 (apa _ _)))
theorem Ap{x y:Int}(m:1<x)(h:aob x y=1):1≤y % x:=by
 have l:=aoc y (show x≠0 by omega);rcases aoH 0 (y % x)with d | d
 ·omega
 ·exfalso;have g:y % x=0:=by omega
  have j:x ∣ y:=Int.dvd_of_emod_eq_zero g;have b:x ∣ (aob x y:Int):=Int.dvd_coe_gcd (aoN x) j;rw [h]at b;have:=aom (by decide) b;omega
theorem BM{a m:Int}(a0:0≤a)(a1:a≤1099511627776)(m0:2≤m)(m1:m≤1000000)(hg:aob a m=1) :
  ∃ x,0≤x∧x<m∧m ∣ a*x-1∧bW tab 207 [vi a,vi m]=Eq (vi x):=by
 obtain⟨rr,⟨x,o,p,r,rfl⟩,hp⟩:∃ rr,(∃ x,0≤x∧x<m∧m ∣ a*x-1∧rr=vi x)∧bW tab 207 [vi a,vi m] rr:=by
  have hr:=fu (a:=a) (b:=m) a0 (by omega);have a7:=aoc a (show m≠0 by omega);have H:=an8 a (show 0<m by omega);have l:aob (a % m) m=1:=by
   have e:a % m=a-a / m*m:=by have:=an7 a m;rw [aoh (a / m)];omega
   rw [e,Int.gcd_sub_mul_right_left];exact hg
  have Z:1≤a % m:=by
   rcases aoH 0 (a % m)with h | h
   ·omega
   ·exfalso;have h0:a % m=0:=by omega
    rw [h0]at l;simp at l;omega
  refine eV rfl rfl fun Q hQ=>?_;apply ai;simp;apply ai;simp [hr];refine au (ay ?_);refine bI (fun n s=>∃(x y u v U V:Int) (t:T),s=⟨t,[],[]⟩∧(n:Int)=x∧t.g 1=vi m∧t.g 5=vi x∧t.g 6=vi y∧t.g 7=vi u∧t.g 8=vi v∧1≤x∧x<y∧y≤m∧aob x y=1∧m ∣ a*u-x∧m ∣ a*v-y ∧
   0≤U∧0≤V∧(u=U∧v = -V∨u = -U∧v=V)∧U*y+V*x=m) (a % m).toNat
   ⟨a % m,m,1,0,1,0,_,rfl,by omega,by simp,by simp,by simp,by simp,by simp,Z,H,by omega,l,?_,?_,by decide,by decide,.inl ⟨rfl,rfl⟩,by omega⟩ ?_
  ·refine⟨a / m,?_⟩;have:=an7 a m;omega
  ·exact⟨-1,by omega⟩
  rintro n s ⟨x,y,u,v,U,V,t,rfl,hn,f,I,i,k,g8,o,p,r,w,M,h6,A,h8,h9,J⟩ ih;have a_:U≤U*y:=by have:=anG (show(1:Int)≤y by omega) A;omega
  have c9:0≤V*x:=aov h8 (by omega);have a8:U≤m:=by omega
  have b_:V≤m:=by
   have K:V≤V*x:=by have:=anG (show(1:Int)≤x by omega) h8;omega
   have L:0≤U*y:=aov A (by omega);omega
  refine au (ai ?_);simp [I];by_cases hx:1<x
  ·
   have B:0≤y / x:=aou (by omega) (by omega);have X:y / x≤y:=aoC _ (by omega);have E:=fH (a:=y) (b:=x) (by omega) (by omega) (by omega);obtain⟨q,hq⟩:=aM (y / x);have j:=an7 y x;have O:=Ap hx w;have S:=an8 y (show 0<x by omega);rw [←hq]at B X E j;obtain⟨g,Y⟩:=aM (y % x);rw [←Y]at j O S;have d_:q*x=y-g:=by rw [aoh];omega
   obtain⟨W,hW⟩:=aM (V+q*U);have d9:0≤q*U:=aov B A;have N:W*x+U*g=m:=by
    rw [hW,Int.add_mul,←J,show g=y-q*x by omega,apv,apj q U x,apJ q U x];omega
   have c_:W≤m:=by
    have K:W≤W*x:=by have:=anG (show(1:Int)≤x by omega) (show 0≤W by omega);omega
    have L:0≤U*g:=aov A (by omega);omega
   have d:(u=U→q*u=q*U)∧(u = -U→q*u = -(q*U)):=⟨fun e=>by rw [e],fun e=>by rw [e,apu]⟩
   have hb:-m≤q*u∧q*u≤m:=by
    rcases h9 with⟨e,-⟩ | ⟨e,-⟩
    ·rw [d.1 e];omega
    ·rw [d.2 e];omega
   have f7:-m≤v∧v≤m:=by omega
   have c:=aP (n:=q*x);have w2:IntKind.i64.wrap (y-q*x)=g:=by rw [aP];omega
   have w3:=aP (n:=q*u);have w4:=aP (n:=v-q*u);refine av (by simp [hx]) (aR ?_);refine ay (ai ?_);simp [I,i,E];apply ai;simp [I,i,c,w2];refine aq (.inl rfl) ?_;simp [k,g8,w3,w4];refine ax (ih g.toNat _ (by omega) ⟨g,x,v-q*u,u,W,U,_,rfl,by omega,by simp [f],by simp,by simp,by simp,by simp,by omega,by omega,by omega,?_,?_,M,by omega,A,?_,N⟩)
   ·rw [show g=y-q*x by omega,Int.gcd_sub_mul_right_left,Int.gcd_comm];exact w
   ·have e:a*(v-q*u)-g=(a*v-y)-q*(a*u-x):=by
     rw [apv,apv,apJ a q u];omega
    rw [e];exact ao0 h6 (Int.dvd_mul_of_dvd_right M)
   ·rcases h9 with⟨z,e2⟩ | ⟨z,e2⟩
    ·exact .inr ⟨by rw [d.1 z];omega,z⟩
    ·exact .inl ⟨by rw [d.2 z];omega,z⟩
  ·
   have F:x=1:=by omega
   subst F;have e_:-m≤u∧u≤m:=by omega
   have t1:=Int.tmod_lt_of_pos u (show 0<m by omega);have t2:=Int.lt_tmod_of_pos u (show 0<m by omega);have r1:bR .rem (vi u) (vi m)=aa (vi (u.tmod m)):=ik (by omega);have r2:bR .rem (vi (u.tmod m+m)) (vi m)=aa (vi (u % m)):=by rw [ik (by omega),Bc (by omega)]
   have c:=aP (n:=u.tmod m+m);refine aF (by simp) (bh rfl ?_);apply ai;simp [f,k,r1,c,r2];refine aE (hQ _ _ _ ⟨u % m,aoc _ (by omega),an8 _ (by omega),?_,rfl⟩ (by simp));have e:a*(u % m)-1=(a*u-1)-a*(u / m)*m:=by
    have:=an7 u m;rw [show u % m=u-m*(u / m) by omega,apv,apj,aoh m];omega
   rw [e];exact ao0 M (apB _ _)
 exact⟨x,o,p,r,hp.eq⟩
theorem abG{a s r p d:Int}(m:¬ (aob s p:Int) ∣ r-a)(j:s ∣ d-a)(l:p ∣ d-r):False:=by
 apply m;have b:=aon (apo s p) j;have g:=aon (Int.gcd_dvd_right s p) l;have:=ao0 b g;rwa [show d-a-(d-r)=r-a by omega]at this
theorem abF{a s r p g n t:Int}(q:g=(aob s p:Int))(F:0<p)(H:0<s)(z:p=n*g)(A:g ∣ r-a)(E:n ∣ t*(s / g)-(r-a) / g) :
  (∀ d,s ∣ d-a∧p ∣ d-r↔(s*n) ∣ d-(a+t*s))∧0<g∧0<n:=by
 have l:0<g:=by
  rw [q];have:=aow p (show s≠0 by omega);omega
 have u:0<n:=by
  rcases Int.lt_trichotomy n 0 with h | h | h
  ·have:=Int.mul_neg_of_neg_of_pos h l;omega
  ·subst h;omega
  ·exact h
 have x:s / g*g=s:=apI (q▸apo s p);have v:(r-a) / g*g=r-a:=apI A;have j:p ∣ a+t*s-r:=by
  obtain⟨k,B⟩:=E;refine⟨k,?_⟩;have:a+t*s-r=(t*(s / g)-(r-a) / g)*g:=by
   rw [Int.sub_mul,v,apj,x];omega
  rw [this,B,z,Int.mul_right_comm]
 have y:(Int.lcm s p:Int)=s*n:=by
  have b:((aob s p*Int.lcm s p:Nat):Int)=s*p:=by
   rw [Int.gcd_mul_lcm,aph,Int.natAbs_of_nonneg (by omega),Int.natAbs_of_nonneg (by omega)]
  rw [aph,←q]at b;have m:g*(Int.lcm s p:Int)=g*(s*n):=by rw [b,z,←apj,aoh]
  exact Int.eq_of_mul_eq_mul_left (by omega) m
 refine⟨fun d=>⟨fun⟨b,m⟩=>?_,fun h=>⟨?_,?_⟩⟩,l,u⟩
 ·rw [←y];refine Int.coe_lcm_dvd ?_ ?_
  ·have:d-(a+t*s)=d-a-t*s:=by omega
   rw [this];exact ao0 b (apB t s)
  ·have:d-(a+t*s)=d-r-(a+t*s-r):=by omega
   rw [this];exact ao0 m j
 ·have b:=aon (apa s n) h;have:d-a=d-(a+t*s)+t*s:=by omega
  rw [this];exact Int.dvd_add b (apB t s)
 ·have b:p ∣ d-(a+t*s):=aon (by rw [←y];exact Int.dvd_lcm_right s p) h;have:d-r=d-(a+t*s)+(a+t*s-r):=by omega
  rw [this];exact Int.dvd_add b j
theorem pX{a b n:Int}:a % n=b % n↔n ∣ a-b:=aps.trans Int.dvd_iff_emod_eq_zero.symm
abbrev clV(at' st:Int):V:=.a [.f (.int .i64 at'),.f (.int .i64 st)]
theorem acA{a s r p:Int}(a0:0≤a)(a1:a<s)(s1:s≤1000000)(r0:0≤r)(r1:r<p)(p1:p≤1000) :
  (∃ a' o,0≤a'∧a'<o∧o≤s*p∧(∀ d,s ∣ d-a∧p ∣ d-r↔o ∣ d-a')∧bW tab 153 [clV a s,vi r,vi p]=Eq (.t [clV a' o,vb ae])) ∨
  ((∀ d,¬ (s ∣ d-a∧p ∣ d-r))∧bW tab 153 [clV a s,vi r,vi p]=Eq (.t [clV 0 0,vb ag])):=by
 have s0:0<s:=by omega
 have p0:0<p:=by omega
 obtain⟨g,y⟩:=aM ((aob s p:Int):Int);have a8:aob s p=aor s.toNat p.toNat:=by
  show aor s.natAbs p.natAbs=_;rw [show s.natAbs=s.toNat by omega,show p.natAbs=p.toNat by omega]
 have a_:g ∣ s:=y▸apo s p;have M:g ∣ p:=y▸Int.gcd_dvd_right s p;have l:0<aob s p:=aow p (by omega);have g0:0<g:=by rw [y];exact Int.natCast_pos.2 l
 have gp:g≤p:=aom p0 M;obtain⟨n,i⟩:=aM (p / g);have X:p=n*g:=by rw [i,apI M]
 have B:0<n:=by
  rcases aoH 0 n with h | h
  ·exact h
  ·have:=Int.mul_nonneg_of_nonpos_of_nonpos (a:=n) (b:=-g) h (by omega);rw [apu]at this;omega
 have np:n≤p:=by
  have:=anG (show(1:Int)≤g by omega) (show 0≤n by omega);omega
 have j:bW tab 122 [vi s,vi p]=Eq (vi g):=by
  have h:=xO (a:=s.toNat) (b:=p.toNat) (by omega) (by omega);rw [show((s.toNat:Nat):Int)=s by omega,show((p.toNat:Nat):Int)=p by omega,←a8,←y]at h;exact h
 have b0:∀ {L:an},aU (.box [.f (fi a),.f (fi s)] 0::L) ab (.c (.ptr 0 0 0))=aa (vi a)∧aU (.box [.f (fi a),.f (fi s)] 0::L) ab (.c (.ptr 0 1 0))=aa (vi s)∧aU (.box [.f (fi a),.f (fi s)] 0::L) (aa 2) (.c (.ptr 0 0 0))=aa (clV a s):=by
  intro L;refine⟨?_,?_,?_⟩<;>simp [aU,aH,aW]
 have q:=aP (n:=r-a);have F:bR .rem (vi (r-a)) (vi g)=aa (vi ((r-a).tmod g)):=ik (by omega);have A:¬ (s=0):=by omega
 by_cases x:g ∣ r-a
 ·left;have m:(r-a).tmod g=0:=Int.tmod_eq_zero_of_dvd x;by_cases z:n=1
  ·
   have N:p=g:=by rw [X,z,Int.one_mul]
   refine⟨a,s,a0,a1,?_,fun d=>⟨fun h=>h.1,fun h=>⟨h,?_⟩⟩,bW.eq ?_⟩
   ·have:=anG (show(1:Int)≤p by omega) (show 0≤s by omega);omega
   ·rw [N];have:=ao0 (aon a_ h) x;rwa [show d-a-(r-a)=d-r by omega]at this
   ·have E:bR .quo (vi p) (vi g)=aa (vi n):=by rw [fH (by omega) g0 (by omega),←i]
    refine cd rfl rfl fun Q I=>?_;apply ai;simp;refine au (ai ?_);simp [b0,-az,A];refine aX (by simp) ?_;apply ai;simp [b0,-az,j];refine au (ai ?_);simp [b0,-az,q,F,m];refine aX (by simp) ?_;apply ai;simp [E];refine au (ai ?_);simp [z];refine av (by simp) ?_;apply ai;simp [b0,-az];refine aE (I _ _ ?_);simp
  ·
   have n2:2≤n:=by omega
   have Z:0≤s / g:=aou (by omega) (by omega);have f8:s / g≤s:=aoC _ (by omega);have J:aob (s / g) n=1:=by rw [i,y];exact Int.gcd_ediv_gcd_ediv_gcd l
   obtain⟨v,v0,v1,hv,S⟩:=BM Z (by omega) n2 (by omega) J;obtain⟨w,hw⟩:=aM (((r-a) / g) % n);have w0:0≤w:=by rw [hw];exact aoc _ (by omega)
   have w1:w<n:=by rw [hw];exact an8 _ B
   obtain⟨t,ht⟩:=aM ((w*v) % n);have t0:0≤t:=by rw [ht];exact aoc _ (by omega)
   have t1:t<n:=by rw [ht];exact an8 _ B
   have U:n ∣ t*(s / g)-(r-a) / g:=by
    obtain⟨k,hk⟩:=hv;have e1:t=w*v-n*(w*v / n):=by have:=an7 (w*v) n;omega
    have e2:w=(r-a) / g-n*((r-a) / g / n):=by have:=an7 ((r-a) / g) n;omega
    have e3:t*(s / g)-(r-a) / g=w*(s / g*v-1)-n*(w*v / n)*(s / g)-n*((r-a) / g / n):=by
     rw [e1,Int.sub_mul,apv,apj w v,aoh v (s / g)];omega
    rw [e3,hk];refine ao0 (ao0 ?_ ?_) (apa _ _)
    ·exact⟨w*k,by rw [apJ]⟩
    ·exact⟨w*v / n*(s / g),by rw [apj]⟩
   obtain⟨O,-,-⟩:=abF y p0 s0 X x U;have g_:0≤t*s:=aov t0 (by omega);have h_:t*s≤(n-1)*s:=apE (by omega) (by omega);have i4:(n-1)*s=n*s-s:=by rw [Int.sub_mul,Int.one_mul]
   have f7:n*s≤1000*1000000:=aoG (by omega) s1 (by omega) (by decide);have i6:s*n=n*s:=aoh _ _;have c:0≤w*v:=aov w0 v0;have i3:w*v≤1000*1000:=aoG (by omega) (by omega) v0 (by decide);have f_:0≤n*s:=aov (by omega) (by omega);refine⟨a+t*s,s*n,by omega,by omega,?_,O,bW.eq ?_⟩
   ·exact anG np (by omega)
   ·have E:bR .quo (vi p) (vi g)=aa (vi n):=by rw [fH (by omega) g0 (by omega),←i]
    have a7:bR .quo (vi (r-a)) (vi g)=aa (vi ((r-a) / g)):=by
     rw [pg (by omega),Int.tdiv_eq_ediv_of_dvd x];have hb:-1000000≤(r-a) / g∧(r-a) / g≤1000000:=by
      obtain⟨k,hk⟩:=x;rw [hk,Int.mul_ediv_cancel_left _ (by omega)];constructor
      ·rcases aoH k (-1000000)with h | h
       ·have:=anG (show k≤-1000001 by omega) (show 0≤g by omega);omega
       ·omega
      ·rcases aoH 1000000 k with h | h
       ·have:=anG (show(1000001:Int)≤k by omega) (show 0≤g by omega);omega
       ·omega
     rw [aP]
    have d9:bR .rem (vi ((r-a) / g)) (vi n)=aa (vi (((r-a) / g).tmod n)):=ik (by omega);have tl:=Int.tmod_lt_of_pos ((r-a) / g) B;have tg:=Int.lt_tmod_of_pos ((r-a) / g) B;have d_:=aP (n:=((r-a) / g).tmod n+n);have W:bR .rem (vi (((r-a) / g).tmod n+n)) (vi n)=aa (vi w):=by rw [ik (by omega),Bc B,←hw]
    have e_:bR .quo (vi s) (vi g)=aa (vi (s / g)):=fH (by omega) g0 (by omega);have uw:IntKind.wrap .u64 w=w:=jb w0 (by omega);have uv:IntKind.wrap .u64 v=v:=jb v0 (by omega);have un:IntKind.wrap .u64 n=n:=jb (by omega) (by omega);have us:IntKind.wrap .u64 s=s:=jb (by omega) (by omega);have b_:=tR w0 (show w≤2147483648 by omega) v0 (show v≤2147483648 by omega);have Y:=Xd (a:=0) (b:=n) (by decide) B;rw [Int.zero_emod]at Y;have K:=VA c (show w*v≤9223372036854775807 by omega) B (show n≤9223372036854775807 by omega);rw [←ht]at K;have c9:=tR t0 (show t≤2147483648 by omega) (show 0≤s by omega) (show s≤2147483648 by omega);have c_:=tR (show 0≤s by omega) (show s≤2147483648 by omega) (show 0≤n by omega) (show n≤2147483648 by omega);have u:=aP (n:=t*s);have fa:=aP (n:=1152921504606846976-a);have c1:¬ (1152921504606846976<t*s):=by omega
    have c2:¬ (1152921504606846976-a<t*s):=by omega
    have H:=aP (n:=a+t*s);have f:=aP (n:=s*n);have c3:s*n≤1152921504606846976:=by omega
    refine cd rfl rfl fun Q I=>?_;apply ai;simp;refine au (ai ?_);simp [b0,-az,A];refine aX (by simp) ?_;apply ai;simp [b0,-az,j];refine au (ai ?_);simp [b0,-az,q,F,m];refine aX (by simp) ?_;apply ai;simp [E];refine au (ai ?_);simp [z];refine aX (by simp) ?_;apply ai;simp [b0,-az,q,a7,d9,d_,W];apply ai;simp [b0,-az,uw,e_,S,uv,b_];apply ai;simp [un,Y,K];apply ai;simp [b0,-az,us,c9];refine au (ai ?_);simp [b0,-az,c1,u,fa,c2];refine aX (by simp) ?_;apply ai;simp [b0,-az,u,H];refine au (ai ?_);simp [b0,-az,us,un,c_];apply ai;simp [c3];refine av (by simp) (aq (.inl rfl) ?_);simp [f];apply ai;simp;refine aE (I _ _ ?_);simp
 ·right;refine⟨fun d h=>abG (fun e=>x (y▸e)) h.1 h.2,bW.eq ?_⟩;have m:¬ (r-a).tmod g=0:=fun e=>x (Int.dvd_of_tmod_eq_zero e);refine cd rfl rfl fun Q I=>?_;apply ai;simp;refine au (ai ?_);simp [b0,-az,A];refine aX (by simp) ?_;apply ai;simp [b0,-az,j];refine au (ai ?_);simp [b0,-az,q,F,m];refine av (by simp) ?_;apply ai;simp;refine aE (I _ _ ?_);simp
theorem rH(a b:Int):Kf tab 201 [vi a,vi b] (vb (decide (a<b))):=by
 refine dF rfl rfl fun H Q d=>?_;apply ai;simp;apply ai;simp [pJ];refine aE (d _ _ ?_);simp [pJ]
theorem adE(a:Int):bW tab 222 [vi a]=Eq (vb ag):=Kf.eq (by
 refine dF rfl rfl fun H Q b=>?_;apply ai;simp;apply ai;simp;refine aE (b _ _ ?_);simp)
theorem gd(g:Tg)(l:List Int)(n:Int)(hl:l.length≤1000000000)(o:l.Pairwise (· < ·)) :
  ∃ i:Nat,i≤l.length∧(∀ j (d:j<l.length),j<i→l[j]<n)∧(∀ j (d:j<l.length),i≤j→n≤l[j]) ∧
   bW tab 184 [.c (.f (sl g (ints l))),vi n]=Eq (.t [vi i,vb (decide (n ∈ l))]):=by
 obtain⟨r,⟨i,c,f,O,rfl⟩,h⟩:∃ r,(∃ i:Nat,i≤l.length∧(∀ j (d:j<l.length),j<i→l[j]<n)∧(∀ j (d:j<l.length),i≤j→n≤l[j])∧r=.t [vi i,vb (decide (n ∈ l))]) ∧
   bW tab 184 [.c (.f (sl g (ints l))),vi n] r:=by
  refine eV rfl rfl fun Q S=>?_;have A:=fun(a b:Int) (H:an)=>(rH a b).ev H;have y:∀ i j (hi:i<j) (d:j<l.length),l[i]<l[j]:=fun i j hi d=>anP.1 o i j (by omega) d hi;apply ai;simp;apply ai;simp;apply ai;simp;apply au;refine ay ?_;refine bI (fun m s=>∃(lo hi:Nat) (t:T) (J:an),s=⟨t,[],J⟩∧m=hi-lo∧lo≤hi∧hi≤l.length∧t.g 0=.c (.f (sl g (ints l)))∧t.g 1=vi n∧t.g 6=vi l.length∧t.g 7=vi lo∧t.g 8=vi hi ∧
   (∀ j (d:j<l.length),j<lo→l[j]<n)∧(∀ j (d:j<l.length),hi≤j→n≤l[j])) l.length
   ⟨0,l.length,_,_,rfl,by omega,by omega,by omega,by simp,by simp,by simp,by simp,by simp,by simp,by intros;omega⟩ ?_
  rintro m s ⟨lo,hi,t,J,rfl,rfl,k,z,E,F,K,I,N,u,v⟩ next
  apply au;apply ai;simp [I,N];by_cases W:lo<hi
  ·refine av (by simp [W]) (aR ?_);obtain⟨q,hq⟩:=aM ((lo+hi) / 2);have L:q<l.length:=by omega
   have Z:bR BinOp.shr (V.c (C.f (FC.int IntKind.u64 (IntKind.u64.wrap ((lo:Int)+hi))))) (V.c (C.f (FC.int IntKind.u64 1)))=aa (.c (.f (.int .u64 (q:Int)))):=by
    have:IntKind.u64.wrap ((lo:Int)+hi)=(lo:Int)+hi:=by
     show((lo:Int)+hi) % 18446744073709551616=_;omega
    rw [this];show aa (V.c (C.f (FC.int IntKind.u64 (Int.fdiv ((lo:Int)+hi) (2 ^ (min (1:Int).toNat IntKind.u64.bits))))))=_;have O:Int.fdiv ((lo:Int)+hi) (2 ^ (min (1:Int).toNat IntKind.u64.bits))=q:=by
     show Int.fdiv ((lo:Int)+hi) 2=q;rw [Int.fdiv_eq_ediv_of_nonneg _ (by omega)];omega
    rw [O]
   have p:=aP (n:=(lo:Int)+hi);have Y:IntKind.i64.wrap (q:Int)=q:=aP;refine ay ?_;apply ai;simp [I,N,p,Z,Y];apply ai;simp [E,F,bG,L,ey,A];by_cases U:l[q]<n
   ·refine av (by simp [U]) ?_;refine aq (.inl rfl) ?_;simp [aP (n:=(q:Int)+1)];refine ax (next (hi-(q+1)) _ (by omega) ⟨q+1,hi,_,_,rfl,rfl,by omega,by omega,by simp [E],by simp [F],by simp [K],by simp,by simp [N],fun j d h=>?_,v⟩);by_cases e:j=q
    ·subst e;exact U
    ·have:=y j q (by omega) L;omega
   ·refine aF (by simp [U]) ?_;refine aq (.inl rfl) ?_;simp;refine ax (next (q-lo) _ (by omega) ⟨lo,q,_,_,rfl,rfl,by omega,by omega,by simp [E],by simp [F],by simp [K],by simp [I],by simp,u,fun j d h=>?_⟩);by_cases e:j=q
    ·subst e;omega
    ·have:=y q j (by omega) d;omega
  ·have:lo=hi:=by omega
   subst this;refine aF (by simp) ?_;refine bh rfl ?_;apply ai;by_cases x:lo<l.length
   ·have w:=v lo x (by omega);by_cases M:l[lo]=n
    ·simp [E,F,K,I,x,bG,ey,M];refine aE (S _ _ _ ⟨lo,z,u,v,rfl⟩ ?_);have:n ∈ l:=M▸IS x;simp [this]
    ·have B:n ∉ l:=fun X=>by
      obtain⟨j,d,rfl⟩:=anB X;rcases Nat.lt_trichotomy j lo with h | h | h
      ·have:=u j d h;omega
      ·subst h;exact M rfl
      ·have:=y lo j h d;omega
     simp [E,F,K,I,x,bG,ey,M,adE];refine aE (S _ _ _ ⟨lo,z,u,v,rfl⟩ ?_);simp [B]
   ·have B:n ∉ l:=fun X=>by
     obtain⟨j,d,rfl⟩:=anB X;have:=u j d (by omega);omega
    simp [E,F,K,I,x];refine aE (S _ _ _ ⟨lo,z,u,v,rfl⟩ ?_);simp [B]
 exact⟨i,c,f,O,bW.eq h⟩
theorem lD{limit:Int}:∀ {l:List Int} {last:Int},dC limit last l=ae→l.Pairwise (· < ·)∧∀ c ∈ l,last<c∧c<limit
 | [],_,_=>⟨List.Pairwise.nil,by simp⟩
 | a::l,last,h=>by
  simp only [dC,If,decide_eq_true_eq]at h;obtain⟨⟨g,j⟩,m⟩:=h;obtain⟨q,d⟩:=lD m;refine⟨aoQ.2 ⟨fun c b=>(d c b).1,q⟩,fun c b=>?_⟩;rcases anK.1 b with rfl | b
  ·exact⟨g,j⟩
  ·have:=d c b;omega
theorem aY{p:aI}(h:cL p=ae):0≤p.fr∧p.fr≤1099511627776∧1≤p.aL∧p.aL≤1099511627776∧p.head.length+p.bg.length≤1048576∧p.head.Pairwise (· < ·)∧(∀ c ∈ p.head,-1<c∧c<p.fr)∧p.bg.Pairwise (· < ·)∧∀ c ∈ p.bg,-1<c∧c<p.aL:=by
 unfold cL at h;simp only [If,decide_eq_true_eq]at h;obtain⟨⟨⟨⟨⟨⟨g,j⟩,l⟩,m⟩,u⟩,q⟩,s⟩:=h;obtain⟨a1,b⟩:=lD q;obtain⟨b1,d⟩:=lD s;exact⟨g,j,l,m,by omega,a1,b,b1,d⟩
def bK(p:aI)(d:Int):Bool:=if p.fr≤d then decide ((d-p.fr) % p.aL ∈ p.bg)else decide (d ∈ p.head)
def Day(d:Int):Prop:=d≤2305843009213693952
theorem wJ(p:aI)(h:cL p=ae)(d:Int)(A:0≤d)(x:Day d):bW tab 194 [.a (p.row.map .f),vi d]=Eq (vb (bK p d)):=Kf.eq (by
 obtain⟨B,E,F,I,K,s,L,u,M⟩:=aY h;unfold Day at x;refine dF rfl rfl fun H Q v=>?_;have j:∀(t:T) (J:an) (g:Tg) (l:List Int) (n:Int),l.length≤1048576→l.Pairwise (· < ·)→t.g 5=.c (.f (sl g (ints l)))→t.g 6=vi n→bK p d=decide (n ∈ l)→WP tab 194 ab [.code yV] ⟨t,[],H++J⟩ Q:=by
  intro t J g l n N y m q e;obtain⟨i,-,-,-,z⟩:=gd g l n (by omega) y;apply ai;simp [m,q,z];apply ai;simp;refine aE (v _ _ ?_);simp [e]
 apply ai;simp [aI.row];apply ai;simp;apply au;apply ai;simp;by_cases k:p.fr≤d
 ·refine av (by simp [k]) ?_;refine aq (.inl rfl) ?_;simp [aP (n:=d-p.fr),fu (a:=d-p.fr) (b:=p.aL) (by omega) (by omega)];exact j _ _ p.cg p.bg ((d-p.fr) % p.aL) (by omega) u (by simp) (by simp) (by simp [bK,k])
 ·refine aX (by simp [k]) ?_;exact j _ _ p.hg p.head d (by omega) s (by simp) (by simp) (by simp [bK,k]))
def hasB(p:aI)(d:Int):Bool:=decide (0≤d)&&bK p d
theorem ac6(p:aI)(h:cL p=ae)(d:Int)(l:Day d):Kf tab 143 [.a (p.row.map .f),vi d] (vb (hasB p d)):=by
 refine dF rfl rfl fun H Q g=>?_;have b:=qW p (jF h);rw [h]at b;apply ai;simp [aI.row]at b ⊢;apply ai;by_cases k:0≤d
 ·have j:=wJ p h d k l;simp [aI.row]at j;simp [b,k,j];refine aE (g _ _ ?_);simp [hasB,k]
 ·simp [b,k];refine aE (g _ _ ?_);simp [hasB,k]
theorem KR(p:aI)(h:cL p=ae)(d:Int)(j:Day d):Kf tab 142 [.a (p.row.map .f),.c (.f (.fp [fi d] 0))] (vb (!hasB p d)):=by
 refine dF rfl rfl fun H Q g=>?_;have b:=(ac6 p h d j).eq;simp [aI.row]at b;have l:∀ H:an,aU H ab (.c (.f (.fp [fi d] 0)))=aa (vi d):=fun H=>by simp [aU,aH]
 apply ai;simp [aI.row];apply ai;simp [l,b];refine aE (g _ _ ?_);simp
def uU(l:List aI)(d:Int):Bool:=l.all fun p=>hasB p d
theorem ad8(g:Tg)(l:List aI)(v:l.length≤9223372036854775807)(h:∀ p ∈ l,cL p=ae)(d:Int)(s:Day d):Kf tab 94 [.c (.f (sl g (aJ l))),vi d] (vb (uU l d)):=by
 refine dF rfl rfl fun H Q m=>?_;have q:=(gl U5 (jg U6 l aI.row (fun r=>.a (r.row.map .f)) (fun p=>!hasB p d) g 142 [.fp [fi d] 0] v
  (fun j u H=>cH (bD l) (cU u)) (fun p x=>KR p (h p x) d s))).eq
 have e:(!l.any fun p=>!hasB p d)=uU l d:=by
  rw [uU,aoW];simp [List.any_eq_false,anx]
 apply ai;simp;apply ai;have b:bW tab 80 [.c (.f (sl g (aJ l))),.c (.f (.fn 142 [.fp [fi d] 0]))]=Eq (vb (l.any fun p=>!hasB p d)):=q;simp [deep,Dx,yp,b,e];refine aE (m _ _ ?_);simp
theorem agp(t:cu)(l:t.fs.length≤9223372036854775807)(h:∀ p ∈ t.fs,cL p=ae)(d:Int)(j:Day d):Kf tab 93 [.c (.f (sl t.tg (aJ t.fs))),.c (.f (.fp [fi d] 0))] (vb (uU t.fs d)):=by
 refine dF rfl rfl fun H Q g=>?_;have b:∀ H:an,aU H ab (.c (.f (.fp [fi d] 0)))=aa (vi d):=fun H=>by simp [aU,aH]
 apply ai;simp;apply ai;simp [b,(ad8 t.tg t.fs l h d j).eq];refine aE (g _ _ ?_);simp
def AF(l:List cu)(d:Int):Bool:=iD l&&l.any fun t=>uU t.fs d
theorem fK{t:cu}(h:iS t=ae):1≤t.fs.length∧t.fs.length≤4∧∀ p ∈ t.fs,cL p=ae:=by
 unfold iS at h;simp only [If,decide_eq_true_eq,anx]at h;exact⟨by omega,by omega,h.2⟩
theorem nJ{l:List cu}(h:iD l=ae):l.length≤64∧∀ t ∈ l,iS t=ae:=by
 unfold iD at h;simp only [If,decide_eq_true_eq,anx]at h;exact⟨by omega,h.2⟩
theorem acB(g:Tg)(l:List cu)(h:iD l=ae)(d:Int)(x:Day d):bW tab 56 [.a [.f (sl g (aA l))],vi d]=Eq (vb (AF l d)):=Kf.eq (by
 obtain⟨A,m⟩:=nJ h;have s:=B' g l (by omega) (fun t b=>⟨by have:=(fK (m t b)).2.1;omega,fun p z=>jF ((fK (m t b)).2.2 p z)⟩);have v:=(gl Bn (jg Bo l cu.row (fun t=>.c (.f (sl t.tg (aJ t.fs)))) (fun t=>uU t.fs d) g 93 [.fp [fi d] 0] (by omega)
  (fun j y H=>gG (ft l) (gr y) rfl) (fun t b=>agp t (by have:=(fK (m t b)).2.1;omega) (fK (m t b)).2.2 d x))).eq
 have q:bW tab 74 [.c (.f (sl g (aA l))),.c (.f (.fn 93 [.fp [fi d] 0]))]=Eq (vb (l.any fun t=>uU t.fs d)):=v;rw [h]at s;refine dF rfl rfl fun H Q u=>?_;apply ai;simp;apply ai;simp [s,deep,Dx,yp,q];refine aE (u _ _ ?_);simp [AF,h])
structure Mod(p:aI):Prop where
 ok:cL p=ae
 ak0:p.aL≤1000
def fJ(p:aI)(c:Int):Int:=(p.fr % p.aL+c) % p.aL
theorem aku{x c p:Int}(d:0≤c)(g:c<p):x % p=c↔p ∣ x-c:=by
 have h:=pX (a:=x) (b:=c) (n:=p);rw [Int.emod_eq_of_lt d g]at h;exact h
theorem qo{p:aI}(h:Mod p){c:Int}(b:0≤c)(g:c<p.aL):0≤fJ p c∧fJ p c<p.aL∧∀ d,(d-p.fr) % p.aL=c↔p.aL ∣ d-fJ p c:=by
 have j:0<p.aL:=by omega
 refine⟨aoc _ (by omega),an8 _ j,fun d=>?_⟩;rw [aku b g];have e:p.aL ∣ p.fr+c-fJ p c:=by
  rw [←pX];unfold fJ;rw [Int.emod_emod_of_dvd _ (aoN _),Int.emod_add_emod]
 constructor
 ·intro k;have:=Int.dvd_add k e;rwa [show d-p.fr-c+(p.fr+c-fJ p c)=d-fJ p c by omega]at this
 ·intro k;have:=ao0 k e;rwa [show d-fJ p c-(p.fr+c-fJ p c)=d-p.fr-c by omega]at this
theorem sy{p:aI}(h:Mod p){c:Int}(d:c ∈ p.bg):0≤c∧c<p.aL:=by
 obtain⟨-,-,-,-,-,-,-,-,b⟩:=aY h.ok;have:=b c d;omega
def iC(p:aI)(d:Int):Prop:=∃ c ∈ p.bg,p.aL ∣ d-fJ p c
theorem pY{p:aI}(h:Mod p){d:Int}(l:p.fr≤d):bK p d=ae↔iC p d:=by
 unfold bK;rw [bf l,decide_eq_true_eq];constructor
 ·intro j;obtain⟨a,b⟩:=sy h j;exact⟨_,j,((qo h a b).2.2 d).1 rfl⟩
 ·rintro⟨c,g,e⟩;obtain⟨a,b⟩:=sy h g;rw [((qo h a b).2.2 d).2 e];exact g
theorem uj(p:aI)(h:Mod p)(c:Int)(l:0≤c)(m:c<p.aL):bW tab 121 [.a (p.row.map .f),vi c]=Eq (vi (fJ p c)):=Kf.eq (by
 obtain⟨d,j,u,v,-⟩:=aY h.ok;have q:=aoc p.fr (show p.aL≠0 by omega);have s:=an8 p.fr (show 0<p.aL by omega);refine dF rfl rfl fun H Q g=>?_;apply ai;simp [aI.row];apply ai;simp [fu (a:=p.fr) (b:=p.aL) d (by omega),aP (n:=p.fr % p.aL+c),fu (a:=p.fr % p.aL+c) (b:=p.aL) (by omega) (by omega)];refine aE (g _ _ ?_);simp [fJ])
def cN:List aI→Int
 | []=>0| p::l=>max p.fr (cN l)
theorem nP:∀ l:List aI,0≤cN l
 | []=>aoP _| p::l=>by have:=nP l;simp only [cN];omega
theorem nO{p:aI}:∀ {l:List aI},p ∈ l→p.fr≤cN l
 | q::l,h=>by
  simp only [cN];rcases anK.1 h with rfl | h
  ·omega
  ·have:=nO h;omega
theorem Cx{l:List aI}{m:Int}(b:0≤m)(h:∀ p ∈ l,p.fr≤m):cN l≤m:=by
 induction l with
 | nil=>exact b
 | cons p l g=>
  have:=h p anr;have:=g fun q d=>h q (anp _ d);simp only [cN];omega
theorem A'(l:List aI)(p:aI):cN (l++[p])=max (cN l) p.fr:=by
 induction l with
 | nil=>simp only [aof,cN];omega| cons q l b=>simp only [List.cons_append,cN,b];omega
theorem W7(g:Tg)(l:List aI)(z:l.length≤64):bW tab 151 [.c (.f (sl g (aJ l)))]=Eq (vi (cN l)):=Kf.eq (by
 refine dF rfl rfl fun H Q y=>?_;apply ai;simp;apply ai;simp;apply au;apply ai;simp;refine b7 l.length (fun j t H'=>(∃ J,H'=H++J)∧t.g 6=.c (.f (sl g (aJ l)))∧t.g 3=vi (cN (l.take j))) (by omega) (by decide) (by decide) (by simp) (by simp) ⟨⟨[],by simp⟩,by simp,by simp [cN]⟩ ?_ ?_
 ·rintro j t _ u ⟨⟨J,rfl⟩,q,m⟩ s x next
  have d:=fun H:an=>cH (H:=H) (bD l) (cU (l:=l) (j:=j) u);have b:=fun H:an=>bG (H:=H) (g:=g) (rows:=aJ l) (sz:=4) (k:=.i64) (i:=j) (by omega) (by simpa using u);simp [aI.row]at d b;have v:l.take (j+1)=l.take j++[l[j]]:=by rw [anu,By u];rfl
  have e:cN (l.take (j+1))=max (cN (l.take j)) l[j].fr:=by rw [v,A']
  refine ay ?_;apply ai;simp [q,s,b,d];refine aq (.inl rfl) ?_;simp [m];refine ax (next _ _ ?_ (by simp [s]) (by simp [x]));exact⟨⟨_,rfl⟩,by simp [q],by simp [e]⟩
 ·rintro t _ ⟨⟨J,rfl⟩,q,m⟩ s x;rw [ant]at m;apply ai;simp [m];refine aE (y _ _ ?_);simp)
def yU(n a s:Int):Int:=if a<n then a+(n-a+s-1) / s*s else a
theorem D4{n a s:Int}(y:0≤a)(z:a<s)(A:0≤n):n≤yU n a s∧s ∣ yU n a s-a∧yU n a s≤n+s∧∀ d,n≤d→s ∣ d-a→yU n a s≤d:=by
 have m:0<s:=by omega
 unfold yU;split
 ·have u:=an7 (n-a+s-1) s;have v:=aoc (n-a+s-1) (show s≠0 by omega);have x:=an8 (n-a+s-1) m;have g:(n-a+s-1) / s*s=s*((n-a+s-1) / s):=aoh _ _;rw [g];generalize (n-a+s-1) / s=q at *;refine⟨by omega,⟨q,by omega⟩,by omega,?_⟩;rintro d j ⟨k,l⟩;rcases aoH k q with h | h
  ·have b:s*k≤s*(q-1):=anG (by omega) (by omega);rw [apv,apC]at b;omega
  ·have b:s*q≤s*k:=anG h (by omega);omega
 ·refine⟨by omega,⟨0,by omega⟩,by omega,?_⟩;rintro d j ⟨k,l⟩;rcases aoH k 0 with h | h
  ·have b:s*k≤s*(-1):=anG (by omega) (by omega);omega
  ·have b:0≤s*k:=aov (by omega) h;omega
structure fV(S:Int→Prop)(l:Int)(f:Bool)(l':Int)(f':Bool):Prop where
 le:l'≤l
 fnd:f=ae→f'=ae
 src:(l'=l∧f'=f)∨(f'=ae∧S l')
 low:∀ d,S d→l'≤d∧(d≤l→f'=ae)
theorem fV.none{S:Int→Prop}{l:Int}{f:Bool}(h:∀ d,¬ S d):fV S l f l f:=⟨aoP _,id,.inl ⟨rfl,rfl⟩,fun d b=>absurd b (h d)⟩
theorem fV.trans{S q s:Int→Prop}{l l1 l2:Int}{f u v:Bool}(h1:fV q l f l1 u)(h2:fV s l1 u l2 v)(m:∀ d,S d↔q d∨s d):fV S l f l2 v where
 le:=aoA h2.le h1.le
 fnd h:=h2.fnd (h1.fnd h)
 src:=by
  rcases h2.src with⟨rfl,rfl⟩ | ⟨h,k⟩
  ·rcases h1.src with h | ⟨h,k⟩
   ·exact .inl h
   ·exact .inr ⟨h,(m _).2 (.inl k)⟩
  ·exact .inr ⟨h,(m _).2 (.inr k)⟩
 low d x:=by
  have b:=h2.le;rcases(m d).1 x with k | k
  ·obtain⟨a1,j⟩:=h1.low d k;exact⟨by omega,fun e=>h2.fnd (j e)⟩
  ·obtain⟨a1,j⟩:=h2.low d k;refine⟨a1,fun e=>?_⟩;rcases aoH l1 d with g | g
   ·rcases h1.src with⟨rfl,rfl⟩ | ⟨h,-⟩
    ·omega
    ·exact h2.fnd h
   ·exact j g
theorem fV.iff{S S':Int→Prop}{l j:Int}{f b:Bool}(h:fV S l f j b)(g:∀ d,S' d↔S d):fV S' l f j b:=
 ⟨h.le,h.fnd,by rcases h.src with k | ⟨k,k'⟩;exact .inl k;exact .inr ⟨k,(g _).2 k'⟩,fun d m=>h.low d ((g d).1 m)⟩
theorem fV.one{S:Int→Prop}{l x:Int}{f:Bool}(j:S x)(g:∀ d,S d→x≤d):fV S l f (if x≤l then x else l) (f||decide (x≤l)) where
 le:=by split<;>omega
 fnd h:=by rw [h];rfl
 src:=by
  by_cases k:x≤l
  ·exact .inr ⟨by simp [k],by simpa [k]using j⟩
  ·exact .inl ⟨by simp [k],by simp [k]⟩
 low d b:=by
  have:=g d b;constructor
  ·split<;>omega
  ·intro e;simp [show x≤l by omega]
def LH(H:an)(g:Tg)(ps:List aI)(n least:Int)(found:Bool):Prop:=(∃ a,H[0]?=aa (.box [.f (sl g (aJ ps))] a))∧H[1]?=aa (.box [.f (fi n)] 0)∧H[2]?=aa (.box [.f (fi least)] 0)∧H[3]?=aa (.box [.f (.bool found)] 0) ∧
 H[4]?=aa (.box [.cl 152 [.ptr 0 0 0,.ptr 4 0 0,.ptr 1 0 0,.ptr 2 0 0,.ptr 3 0 0]] 0)
theorem LH.push{H:an}{g:Tg}{ps:List aI}{n least:Int}{found:Bool}(h:LH H g ps n least found)(J:an):LH (H++J) g ps n least found:=by
 obtain⟨⟨a,h0⟩,h1,h2,h3,h4⟩:=h;refine⟨⟨a,?_⟩,?_,?_,?_,?_⟩
 ·rw [AT (aj h0)];exact h0
 ·rw [AT (aj h1)];exact h1
 ·rw [AT (aj h2)];exact h2
 ·rw [AT (aj h3)];exact h3
 ·rw [AT (aj h4)];exact h4
theorem Kw(g:Tg)(ps:List aI)(H:an)(n least:Int)(found:Bool)(r s:Int)(h:LH H g ps n least found)(A:0≤r)(B:r<s)(F:s≤1000000)(o:0≤n)(p:n≤1000000000000) :
  ∃ v H',Ev tab (.fn 152) [vi ps.length,clV r s,.c (.ptr 0 0 0),.c (.ptr 4 0 0),.c (.ptr 1 0 0),.c (.ptr 2 0 0),.c (.ptr 3 0 0)] H v H' ∧
   (v=.t []∧LH H' g ps n (if yU n r s≤least then yU n r s else least) (found||decide (yU n r s≤least))∧∀ i:Nat,5≤i→i<H.length→H'[i]?=H[i]?):=by
 obtain⟨⟨E,Z⟩,c,e,f,M⟩:=h;obtain⟨u1,-,u3,-⟩:=D4 A B o;have l4:=aj M;refine cM rfl rfl fun Q S=>?_;have m:∀(t:T) (q:an) (y:Int),y=yU n r s→t.g 8=.c (.ptr H.length 0 0)→t.g 4=.c (.ptr 1 0 0)→t.g 5=.c (.ptr 2 0 0)→t.g 6=.c (.ptr 3 0 0)→LH q g ps n least found→q[H.length]?=aa (.box [.f (fi y),.f (fi s)] 0)→(∀ i:Nat,5≤i→i<H.length→q[i]?=H[i]?) →
   WP tab 152 ab [.code zE] ⟨t,[],q⟩ Q:=by
  rintro t q _ rfl L X K Y j W l;have q1:=j.2.1;have U:=j.2.2.1;have q3:=j.2.2.2.1;apply ai;simp [L,X,K,W,q1,U,u1];by_cases k:yU n r s≤least
  ·refine av (by simp [k]) ?_;have I:(q.set 2 (.box [.f (fi (yU n r s))] 0))[3]?=aa (.box [.f (.bool found)] 0):=by rw [sh (by decide)];exact q3
   refine aq (.inl rfl) ?_;simp [L,K,Y,W,U,I];refine cK (S _ _ _ rfl rfl ⟨rfl,?_,fun i hi z=>by rw [sh (by omega),sh (by omega)];exact l i hi z⟩);obtain⟨⟨E,A⟩,B,F,N,O⟩:=j;refine⟨⟨E,?_⟩,?_,?_,?_,?_⟩
   ·rw [sh (by decide),sh (by decide)];exact A
   ·rw [sh (by decide),sh (by decide)];exact B
   ·rw [sh (by decide),BY (aj F)];simp [k]
   ·rw [BY (by rw [List.length_set];exact aj N)];simp [k]
   ·rw [sh (by decide),sh (by decide)];exact O
  ·refine aX (by simp [k]) ?_;refine cK (S _ _ _ rfl rfl ⟨rfl,?_,l⟩);simpa [k]using j
 apply ai;simp;have d:=LH.push (H:=H) (g:=g) (ps:=ps) (n:=n) (least:=least) (found:=found) ⟨⟨E,Z⟩,c,e,f,M⟩ [.box [.f (fi r),.f (fi s)] 0];have x:(H++[bV.box [.f (fi r),.f (fi s)] 0])[H.length]?=aa (.box [.f (fi r),.f (fi s)] 0):=by simp
 have u:∀ i:Nat,5≤i→i<H.length→(H++[bV.box [.f (fi r),.f (fi s)] 0])[i]?=H[i]?:=fun i _ z=>AT z;generalize H++[bV.box [.f (fi r),.f (fi s)] 0]=q at d x u ⊢;obtain⟨a1,r0⟩:=d.1;have J:=d.2.1;apply au;apply ai;simp [r0];refine aX (by simp) ?_;apply au;apply ai;by_cases k:r<n
 ·simp [J,x,k,show 0<s by omega];refine av (by simp) ?_;have a7:yU n r s=r+(n-r+s-1) / s*s:=by unfold yU;rw [bf k]
  have w:=fH (a:=n-r+s-1) (b:=s) (by omega) (by omega) (by omega);have b1:(n-r+s-1) / s*s=yU n r s-r:=by omega
  refine aq (.inl rfl) ?_;simp [J,x,aP (n:=n-r),aP (n:=n-r+s),aP (n:=n-r+s-1),w,b1,aP (n:=yU n r s-r),aP (n:=r+(yU n r s-r))];refine m _ _ _ (show r+(yU n r s-r)=_ by omega) (by simp) (by simp) (by simp) (by simp) ?_ (BY (aj x)) fun i hi z=>by rw [sh (by omega)];exact u i hi z
  obtain⟨⟨a1,A⟩,B,F,N,O⟩:=d;refine⟨⟨a1,?_⟩,?_,?_,?_,?_⟩
  all_goals (rw [sh (by omega)];assumption)
 ·simp [J,x,k];refine aX (by simp) ?_;exact m _ _ r (by unfold yU;rw [aT k]) (by simp) (by simp) (by simp) (by simp) d x u
def eA:List aI→Int
 | []=>1| p::l=>p.aL*eA l
theorem qX{l:List aI}(h:∀ p ∈ l,Mod p):1≤eA l:=by
 induction l with
 | nil=>exact aoP _
 | cons p l j=>
  have b:=(aY (h p anr).ok).2.2.1;have d:=j fun q g=>h q (anp _ g);have:=aoG b d (by decide) (by omega);simp only [eA];omega
def sZ(ps:List aI)(n a s d:Int):Prop:=n≤d∧s ∣ d-a∧∀ p ∈ ps,iC p d
theorem aki(g:Tg)(ps:List aI)(hM:∀ p ∈ ps,Mod p)(j_:ps.length≤64)(n:Int)(hn:0≤n)(h_:n≤1000000000000) :
  ∀(k i:Nat),i+k=ps.length→∀(H:an) (least:Int) (found:Bool) (a s:Int),LH H g ps n least found→0≤a→a<s→s*eA (ps.drop i)≤1000000 →
  ∃ v H',Ev tab (.fn 152) [vi i,clV a s,.c (.ptr 0 0 0),.c (.ptr 4 0 0),.c (.ptr 1 0 0),.c (.ptr 2 0 0),.c (.ptr 3 0 0)] H v H' ∧
   (v=.t []∧∃ F z,LH H' g ps n F z∧fV (sZ (ps.drop i) n a s) least found F z∧∀ i:Nat,5≤i→i<H.length→H'[i]?=H[i]?):=by
 intro k;induction k with
 | zero=>
  intro i hi H least found a s hH a0 a1 hs;have:i=ps.length:=by omega
  subst this;rw [apf]at hs ⊢;simp only [eA,apC]at hs;obtain⟨v,H',J,rfl,hL,hk⟩:=Kw g ps H n least found a s hH a0 a1 hs hn h_;obtain⟨u1,u2,u3,u4⟩:=D4 (n:=n) a0 a1 hn;exact⟨_,H',J,rfl,_,_,hL,fV.one ⟨u1,u2,fun p hp=>absurd hp (List.not_mem_nil)⟩ (fun d hd=>u4 d hd.1 hd.2.1),hk⟩
 | succ k ih=>
  intro i hi H least found a s hH a0 a1 hs;have u:i<ps.length:=by omega
  obtain⟨p,hp⟩:=aM (ps[i]);have i3:p ∈ ps:=hp▸IS u;have L:=hM p i3;obtain⟨f0,f1,p0,p1,j9,-⟩:=aY L.ok;have b_:ps.drop i=p::ps.drop (i+1):=by rw [hp];exact anw u
  have i4:=qX (l:=ps.drop (i+1)) fun q hq=>hM q (List.mem_of_mem_drop hq);have l_:s*p.aL*eA (ps.drop (i+1))≤1000000:=by
   rw [b_]at hs;simp only [eA,←apj]at hs;exact hs
  have k_:1≤s:=by omega
  have j7:s≤s*p.aL:=by
   have:=anG p0 (show 0≤s by omega);omega
  have j8:s*p.aL≤1000000:=by
   have:=anG i4 (show 0≤s*p.aL by omega);omega
  refine cM rfl rfl fun Q hQ=>?_;have E:=fun H:an=>cH (H:=H) (bD ps) (cU (l:=ps) (j:=i) u);have m:=fun H:an=>mU (H:=H) (k:=3) (bD ps) (cU (l:=ps) (j:=i) u) rfl;have B:=fun H:an=>mU (H:=H) (k:=2) (bD ps) (cU (l:=ps) (j:=i) u) rfl;have A:=fun H:an=>bG (H:=H) (g:=g) (rows:=aJ ps) (sz:=4) (k:=.i64) (i:=i) (by omega) (by simpa using u);rw [←hp]at E m B;simp [aI.row]at E A m B;have l4:=aj hH.2.2.2.2;apply ai;simp;have a7:=hH.push [.box [.f (fi a),.f (fi s)] 0];have K:(H++[bV.box [.f (fi a),.f (fi s)] 0])[H.length]?=aa (.box [.f (fi a),.f (fi s)] 0):=by simp
  have c_:∀ i:Nat,5≤i→i<H.length→(H++[bV.box [.f (fi a),.f (fi s)] 0])[i]?=H[i]?:=fun i _ hl=>AT hl;obtain⟨b8,f_⟩:=aM (H.length);rw [←f_]at K ⊢;generalize H++[bV.box [.f (fi a),.f (fi s)] 0]=HH at a7 K c_ ⊢;obtain⟨q,q0⟩:=a7.1;apply au;apply ai;simp [q0];refine av (by simp [u]) ?_;apply au;apply ai;simp [q0,A,m];refine b7 p.bg.length (fun j t H'=>t.g 0=vi i∧t.g 2=.c (.ptr 0 0 0)∧t.g 3=.c (.ptr 4 0 0)∧t.g 8=.c (.ptr b8 0 0)∧t.g 21=.c (.f (sl p.cg (ints p.bg)))∧H'[b8]?=aa (.box [.f (fi a),.f (fi s)] 0) ∧
   ∃ l' U,LH H' g ps n l' U∧fV (fun d=>sZ (ps.drop (i+1)) n a s d∧∃ c ∈ p.bg.take j,p.aL ∣ d-fJ p c) least found l' U∧∀ x:Nat,5≤x→x<H.length→H'[x]?=H[x]?) (by omega) (by decide) (by decide) (by simp) (by simp)
   ⟨by simp,by simp,by simp,by simp,by simp,K,_,_,a7,fV.none (by simp),c_⟩ ?_ ?_
  ·rintro j t H' hj ⟨g0,g2,g3,g8,O,K,l',U,I,hP,b⟩ ha hb next
   have hm:=sy L (IS hj);obtain⟨i9,i_,-⟩:=qo L hm.1 hm.2;have M:=uj p L p.bg[j] hm.1 hm.2;simp [aI.row]at M;have i8:p.bg.take (j+1)=p.bg.take j++[p.bg[j]]:=by rw [anu,By hj];rfl
   have d9:∀ d,(sZ (ps.drop (i+1)) n a s d∧∃ c ∈ p.bg.take (j+1),p.aL ∣ d-fJ p c)↔(sZ (ps.drop (i+1)) n a s d∧∃ c ∈ p.bg.take j,p.aL ∣ d-fJ p c)∨(sZ (ps.drop (i+1)) n a s d∧p.aL ∣ d-fJ p p.bg[j]):=by
    intro d;rw [i8];simp only [anm,OF];constructor
    ·rintro⟨h,c,hc | rfl,e⟩
     ·exact .inl ⟨h,c,hc,e⟩
     ·exact .inr ⟨h,e⟩
    ·rintro(⟨h,c,hc,e⟩ | ⟨h,e⟩)
     ·exact⟨h,c,.inl hc,e⟩
     ·exact⟨h,_,.inr rfl,e⟩
   obtain⟨a9,e0⟩:=I.1;have e4:=I.2.2.2.2;have j4:=aj K;refine ay ?_;apply ai;simp [ha,O,bG,hj,ey];rcases acA a0 a1 (by omega) i9 i_ L.ak0 with⟨a',N,d_,e_,i6,c9,y⟩ | ⟨a_,y⟩
   ·apply ai;simp [g0,g2,g8,K,e0,A,E,B,M,y];have i7:N*eA (ps.drop (i+1))≤1000000:=by
     have:=apE i6 (show 0≤eA (ps.drop (i+1)) by omega);omega
    obtain⟨v,H2,J,rfl,l2,f2,f7,f8,a8⟩:=ih (i+1) (by omega) (H'++[.box [.f (fi a'),.f (fi N)] 0]) l' U a' N (I.push _) d_ e_ i7;have J:=J.eq;have k4:(H'++[bV.box [.f (fi a'),.f (fi N)] 0])[4]?=aa (.box [.cl 152 [.ptr 0 0 0,.ptr 4 0 0,.ptr 1 0 0,.ptr 2 0 0,.ptr 3 0 0]] 0):=by rw [AT (aj e4)];exact e4
    have kN:(H'++[bV.box [.f (fi a'),.f (fi N)] 0])[H'.length]?=aa (.box [.f (fi a'),.f (fi N)] 0):=by simp
    have kl:(H'++[bV.box [.f (fi a'),.f (fi N)] 0]).length=H'.length+1:=by simp
    have kb:(H'++[bV.box [.f (fi a'),.f (fi N)] 0])[b8]?=aa (.box [.f (fi a),.f (fi s)] 0):=by rw [AT (aj K)];exact K
    have kk:∀ x:Nat,5≤x→x<H.length→(H'++[bV.box [.f (fi a'),.f (fi N)] 0])[x]?=H[x]?:=fun x h5 hx=>by
     rw [AT (by omega)];exact b x h5 hx
    apply au;refine aq (.inl rfl) ?_;simp;generalize H'++[bV.box [.f (fi a'),.f (fi N)] 0]=HA at J k4 kN kl kb kk a8 ⊢;refine av (by simp) ?_;refine aq (.inl rfl) ?_;have g_:IntKind.i64.wrap ((i:Int)+1)=((i+1:Nat):Int):=by rw [aP];rfl
    simp [g0,g3,k4,kN,g_,bO];rw [show(↑i+1:Int)=((i+1:Nat):Int) from rfl];simp only [J];simp;refine ax (next _ _ ?_ (by simp [ha]) (by simp [hb]));refine⟨by simp [g0],by simp [g2],by simp [g3],by simp [g8],by simp [O],?_,l2,f2,f7,?_,?_⟩
    ·rw [a8 b8 (by omega) (by omega)];exact kb
    ·refine fV.trans hP (f8.iff (S':=fun d=>sZ (ps.drop (i+1)) n a s d∧p.aL ∣ d-fJ p p.bg[j]) fun d=>?_) d9;unfold sZ;rw [←c9 d];constructor
     ·rintro⟨⟨W,X,Y⟩,Z⟩;exact⟨W,⟨X,Z⟩,Y⟩
     ·rintro⟨W,⟨X,Z⟩,Y⟩;exact⟨⟨W,X,Y⟩,Z⟩
    ·intro x h5 hx;rw [a8 x h5 (by omega)];exact kk x h5 hx
   ·apply ai;simp [g0,g2,g8,K,e0,A,E,B,M,y];apply au;refine aq (.inl rfl) ?_;simp;refine aX (by simp) ?_;refine ax (next _ _ ?_ (by simp [ha]) (by simp [hb]));refine⟨by simp [g0],by simp [g2],by simp [g3],by simp [g8],by simp [O],?_,l',U,I.push _,fV.trans hP (fV.none (S:=fun d=>sZ (ps.drop (i+1)) n a s d∧p.aL ∣ d-fJ p p.bg[j]) fun d hd=>a_ d ⟨hd.1.2.1,hd.2⟩) d9,?_⟩
    ·rw [AT (by omega)];exact K
    ·intro x h5 hx;rw [AT (by omega)];exact b x h5 hx
  ·rintro t H' ⟨g0,g2,g3,g8,O,K,l',U,I,hP,b⟩ - -;rw [ant]at hP;refine aE (hQ _ _ _ rfl rfl ⟨rfl,l',U,I,hP.iff fun d=>?_,b⟩);rw [b_];unfold sZ;simp only [anK,forall_eq_or_imp];constructor
   ·rintro⟨W,X,Y,Z⟩;exact⟨⟨W,X,Z⟩,Y⟩
   ·rintro⟨⟨W,X,Z⟩,Y⟩;exact⟨W,X,Y,Z⟩
theorem wT{p:aI}:∀ {l:List aI},p ∈ l→p.aL ∣ eA l
 | q::l,h=>by
  simp only [eA];rcases anK.1 h with rfl | h
  ·exact apa _ _
  ·exact aon (wT h) (apB _ _)
theorem Kv{p:aI}{d k:Int}(h:iC p d)(g:p.aL ∣ k):iC p (d-k):=by
 obtain⟨c,b,e⟩:=h;refine⟨c,b,?_⟩;have:=ao0 e g;rwa [show d-fJ p c-k=d-k-fJ p c by omega]at this
theorem wu{ps:List aI}(g:∀ p ∈ ps,Mod p){m d:Int}(h:∀ p ∈ ps,iC p d)(s:m≤d):∃ d',m≤d'∧d'<m+eA ps∧∀ p ∈ ps,iC p d':=by
 have u:=qX g;have j:=an7 (d-m) (eA ps);have l:=aoc (d-m) (show eA ps≠0 by omega);have q:=an8 (d-m) (show 0<eA ps by omega);refine⟨d-eA ps*((d-m) / eA ps),by omega,by omega,fun p b=>Kv (h p b) (aon (wT b) (apa _ _))⟩
def afs(ps:List aI)(m d:Int):Prop:=m≤d∧(∀ p ∈ ps,iC p d)∧d<m+eA ps∧∀ d',m≤d'→(∀ p ∈ ps,iC p d')→d≤d'
theorem aco(g:Tg)(ps:List aI)(x:∀ p ∈ ps,Mod p)(L:ps.length≤64)(W:eA ps≤1000000)(n m:Int)(S:m=max n (cN ps))(I:m≤1000000000000) :
  (∃ d,afs ps m d∧bW tab 108 [.c (.f (sl g (aJ ps))),vi n]=Eq (.t [vi d,vb ae])) ∨
  ((∀ d,m≤d→¬ ∀ p ∈ ps,iC p d)∧bW tab 108 [.c (.f (sl g (aJ ps))),vi n]=Eq (.t [vi 0,vb ag])):=by
 have s:=W7 g ps L;have X:=nP ps;have U:=qX x;obtain⟨v,H',b,rfl,z,O,E,y,-⟩:=aki g ps x L m (by omega) I ps.length 0 (by omega) [.box [.f (sl g (aJ ps))] 0,.box [.f (fi m)] 0,.box [.f (fi 1152921504606846976)] 0,.box [.f (.bool ag)] 0,.box [.cl 152 [.ptr 0 0 0,.ptr 4 0 0,.ptr 1 0 0,.ptr 2 0 0,.ptr 3 0 0]] 0]
  1152921504606846976 ag 0 1 ⟨⟨0,rfl⟩,rfl,rfl,rfl,rfl⟩ (by decide) (by decide) (by rw [aod];omega)
 rw [aod]at y;have H:∀ d,sZ ps m 0 1 d↔m≤d∧∀ p ∈ ps,iC p d:=fun d=>⟨fun h=>⟨h.1,h.2.2⟩,fun h=>⟨h.1,Int.one_dvd _,h.2⟩⟩
 have j:max n (cN ps)=m:=S.symm;have b:=b.eq;simp only [show((0:Nat):Int)=0 from rfl]at b;cases O with
 | true=>
  left;have q:sZ ps m 0 1 z:=by
   rcases y.src with⟨_,h⟩ | ⟨_,h⟩
   ·cases h
   ·exact h
  have l:∀ d',m≤d'→(∀ p ∈ ps,iC p d')→z≤d':=fun d' A B=>(y.low d' ((H d').2 ⟨A,B⟩)).1;obtain⟨M,N⟩:=(H z).1 q;obtain⟨u,J,Y,K⟩:=wu x N M;refine⟨z,⟨M,N,by have:=l u J K;omega,l⟩,bW.eq (cd rfl rfl fun Q F=>?_)⟩;apply ai;simp;apply ai;simp [s,j];apply ai;simp;apply ai;simp;apply ai;simp;apply ai;simp [bO,b];apply au;apply ai;simp [E.2.2.2.1];refine aX (by simp) ?_;apply ai;simp [E.2.2.1];refine aE (F _ _ ?_);simp
 | false=>
  right;refine⟨fun d A B=>?_,bW.eq (cd rfl rfl fun Q F=>?_)⟩
  ·obtain⟨u,J,Y,K⟩:=wu x B A;have:=(y.low u ((H u).2 ⟨J,K⟩)).2 (by omega);cases this
  ·apply ai;simp;apply ai;simp [s,j];apply ai;simp;apply ai;simp;apply ai;simp;apply ai;simp [bO,b];apply au;apply ai;simp [E.2.2.2.1];refine av (by simp) ?_;apply ai;simp;refine aE (F _ _ ?_);simp
def nS:List (Int × Int)→List aI→Prop
 | _,[]=>True| ch,p::l=>∃ c ∈ p.bg,(∀ x ∈ ch,(aob p.aL x.2:Int) ∣ fJ p c-x.1)∧nS (ch++[(fJ p c,p.aL)]) l
theorem yE{d:Int}:∀(l:List aI) (ch:List (Int × Int)),(∀ x ∈ ch,x.2 ∣ d-x.1)→(∀ p ∈ l,iC p d)→nS ch l
 | [],_,_,_=>trivial
 | p::l,ch,j,s=>by
  obtain⟨c,g,m⟩:=s p anr;refine⟨c,g,fun x b=>?_,yE l _ (fun x b=>?_) fun q y=>s q (anp _ y)⟩
  ·have u:=aon (Int.gcd_dvd_right p.aL x.2) (j x b);have v:=aon (apo p.aL x.2) m;have:=ao0 u v;rwa [show d-x.1-(d-fJ p c)=fJ p c-x.1 by omega]at this
  ·rcases anm.1 b with b | b
   ·exact j x b
   ·rw [OF.1 b];exact m
def RH(B:an)(H:an)(g:Tg)(ps:List aI)(b:List Int):Prop:=(∃ a,H[B.length]?=aa (.box [.f (sl g (aJ ps))] a))∧H[B.length+1]?=aa (.box (b.map fun x=>C.f (fi x)) 0)∧H[B.length+2]?=aa (.box [.sl (B.length+1) 0 ps.length ps.length 0 1] 0) ∧
 H[B.length+3]?=aa (.box [.cl 120 [.ptr B.length 0 0,.ptr (B.length+2) 0 0,.ptr (B.length+3) 0 0]] 0)∧∀ i:Nat,i<B.length→H[i]?=B[i]?
def Cho(ps:List aI)(b:List Int)(ch:List (Int × Int)):Prop:=∀ j,(h:j<ch.length)→b[j]?=aa ch[j].1∧(∃ p,ps[j]?=aa p∧p.aL=ch[j].2)∧0≤ch[j].1∧ch[j].1≤1000
theorem amA(B:an){o:Nat}(ho:o=B.length)(g:Tg)(ps:List aI)(hM:∀ p ∈ ps,Mod p)(s_:ps.length≤64) :
  ∀(k i:Nat),i+k=ps.length→∀(H:an) (ls:List Int) (ch:List (Int × Int)),RH B H g ps ls→ls.length=ps.length→ch.length=i→Cho ps ls ch →
  ∃ v H',Ev tab (.fn 120) [vi i,.c (.ptr o 0 0),.c (.ptr (o+2) 0 0),.c (.ptr (o+3) 0 0)] H v H' ∧
   ∃ b,v=vb b∧(b=ae↔nS ch (ps.drop i))∧∃ d,RH B H' g ps d∧d.length=ps.length∧d.take i=ls.take i:=by
 intro k;induction k with
 | zero=>
  intro i hi H ls ch hH i9 i4 E;have:i=ps.length:=by omega
  subst this;obtain⟨q,q0⟩:=hH.1;rw [←ho]at q0;refine cM rfl rfl fun Q hQ=>?_;apply ai;simp;refine jZ ?_;apply au;apply ai;simp [q0];refine av (by simp) ?_;apply ai;simp;exact aE (hQ _ _ _ rfl (dB (by simp)) ⟨ae,rfl,by rw [apf];simp [nS],ls,hH,i9,rfl⟩)
 | succ k ih=>
  intro i hi H ls ch hH i9 i4 E;have u:i<ps.length:=by omega
  obtain⟨p,hp⟩:=aM (ps[i]);have r8:p ∈ ps:=hp▸IS u;have O:=hM p r8;obtain⟨f0,f1,p0,p1,r_,-⟩:=aY O.ok;have p8:ps.drop i=p::ps.drop (i+1):=by rw [hp];exact anw u
  have Z:=fun H:an=>cH (H:=H) (bD ps) (cU (l:=ps) (j:=i) u);have s:=fun H:an=>mU (H:=H) (k:=3) (bD ps) (cU (l:=ps) (j:=i) u) rfl;have X:=fun H:an=>mU (H:=H) (k:=2) (bD ps) (cU (l:=ps) (j:=i) u) rfl;have F:=fun H:an=>bG (H:=H) (g:=g) (rows:=aJ ps) (sz:=4) (k:=.i64) (i:=i) (by omega) (by simpa using u);rw [←hp]at Z s X;simp [aI.row]at Z F s X;obtain⟨q,q0⟩:=hH.1;rw [←ho]at q0;refine cM rfl rfl fun Q hQ=>?_;apply ai;simp;refine jZ ?_;apply au;apply ai;simp [q0];refine aF (by simp;omega) (aR ?_);refine au (pO ?_);apply au;apply ai;simp [q0,F,s];obtain⟨Ok,j9⟩:∃ Ok:Int→Prop,Ok=fun c=>(∀ x ∈ ch,(aob p.aL x.2:Int) ∣ fJ p c-x.1)∧nS (ch++[(fJ p c,p.aL)]) (ps.drop (i+1)):=⟨_,rfl⟩
  have S:∀ c,Ok c↔((∀ x ∈ ch,(aob p.aL x.2:Int) ∣ fJ p c-x.1)∧nS (ch++[(fJ p c,p.aL)]) (ps.drop (i+1))):=fun c=>by rw [j9]
  have e_:nS ch (ps.drop i)↔∃ c ∈ p.bg,Ok c:=by rw [p8,j9];rfl
  refine b7 p.bg.length (fun j t H'=>t.g 0=vi i∧t.g 1=.c (.ptr o 0 0)∧t.g 2=.c (.ptr (o+2) 0 0)∧t.g 3=.c (.ptr (o+3) 0 0)∧t.g 18=.c (.f (sl p.cg (ints p.bg))) ∧
   (∀ c ∈ p.bg.take j,¬ Ok c)∧∃ d,RH B H' g ps d∧d.length=ps.length∧d.take i=ls.take i) (by omega) (by decide) (by decide) (by simp) (by simp) ⟨by simp,by simp,by simp,by simp,by simp,by simp,ls,hH,i9,rfl⟩ ?_ ?_
  ·rintro j t H' hj ⟨N,g1,g2,g3,m,c_,d,hR,J,K⟩ ha hb next
   have hm:=sy O (IS hj);obtain⟨o7,r9,-⟩:=qo O hm.1 hm.2;have Y:=uj p O p.bg[j] hm.1 hm.2;simp [aI.row]at Y;have t4:=O.ak0;have o4:p.bg.take (j+1)=p.bg.take j++[p.bg[j]]:=by rw [anu,By hj];rfl
   have f8:¬ Ok p.bg[j]→∀ c ∈ p.bg.take (j+1),¬ Ok c:=by
    intro h c hc;rw [o4,anm,OF]at hc;rcases hc with hc | rfl
    ·exact c_ c hc
    ·exact h
   obtain⟨r,hr⟩:=aM (fJ p p.bg[j]);rw [←hr]at o7 r9 Y;obtain⟨q',d9⟩:=hR.1;have M:=hR.2.1;have d_:=hR.2.2.1;have o5:=hR.2.2.2.1;have o6:=hR.2.2.2.2;rw [←ho]at d9 M d_ o5 o6;have f7:∀ j,(h:j<ch.length)→d[j]?=aa ch[j].1:=fun j h=>by
    have h1:(d.take i)[j]?=d[j]?:=List.getElem?_take_of_lt (by omega);have h2:(ls.take i)[j]?=ls[j]?:=List.getElem?_take_of_lt (by omega);rw [←h1,K,h2];exact(E j h).1
   refine ay ?_;apply ai;simp [ha,m,bG,hj,ey];apply ai;simp [N,g1,d9,F,Z,Y];apply au;apply ai;simp [N];refine b7 i (fun n t H2=>(t.g 0=vi i∧t.g 1=.c (.ptr o 0 0)∧t.g 2=.c (.ptr (o+2) 0 0)∧t.g 3=.c (.ptr (o+3) 0 0)∧t.g 18=.c (.f (sl p.cg (ints p.bg)))∧t.g 20=vi j∧t.g 19=vi p.bg.length∧t.g 8=vi r)∧H2=H'∧∀ x ∈ ch.take n,(aob p.aL x.2:Int) ∣ r-x.1)
    (by omega) (by decide) (by decide) (by simp) (by simp) ⟨⟨by simp [N],by simp [g1],by simp [g2],by simp [g3],by simp [m],by simp [ha],by simp [hb],by simp⟩,rfl,by simp⟩ ?_ ?_
   ·rintro n t H2 hn ⟨⟨N,g1,g2,g3,m,a8,a7,g8⟩,h_,A⟩ k_ o_ nx;rw [h_];have c9:n<ps.length:=by omega
    have b_:n<ch.length:=by omega
    obtain⟨-,⟨pn,n_,i_⟩,x0,x1⟩:=E n b_;have i8:=f7 n b_;obtain⟨x,hx⟩:=aM (ch[n]);rw [←hx]at i8 i_ x0 x1;have f_:ps[n]=pn:=by rw [By c9]at n_;exact aoV n_
    have o9:=hM pn (f_▸IS c9);obtain⟨-,-,z0,z1,-⟩:=aY o9.ok;rw [i_]at z0 z1;have z:=fun H:an=>mU (H:=H) (k:=2) (bD ps) (cU (l:=ps) (j:=n) c9) rfl;have U:=fun H:an=>bG (H:=H) (g:=g) (rows:=aJ ps) (sz:=4) (k:=.i64) (i:=n) (by omega) (by simpa using c9);rw [f_]at z;simp [aI.row,i_]at z U;have W:bC H' 1 ab (.c (.sl (o+1) 0 ps.length ps.length 0 1)) (vi n)=aa (.c (.ptr (o+1) n 0)):=by
     simp [bC,gA,M,J];omega
    have n6:aU H' ab (.c (.ptr (o+1) n 0))=aa (vi x.1):=by
     have hd:(d.map fun y=>C.f (fi y)).drop n=C.f (fi x.1) ::(d.map fun y=>C.f (fi y)).drop (n+1):=by
      rw [anw (by simp;omega),aoR];rw [By (by omega)]at i8;rw [aoV i8]
     simp only [aU,aH,M,Option.bind_some];rw [hd];rfl
    have r7:aU H' ab (.c (.ptr (o+2) 0 0))=aa (.c (.sl (o+1) 0 ps.length ps.length 0 1)):=by simp [d_]
    have q_:aU H' ab (.c (.ptr o 0 0))=aa (.c (.f (sl g (aJ ps)))):=by simp [d9]
    obtain⟨gg,i7⟩:=aM ((aob p.aL x.2:Int):Int);have p9:aob p.aL x.2=aor p.aL.toNat x.2.toNat:=by
     show aor p.aL.natAbs x.2.natAbs=_;rw [show p.aL.natAbs=p.aL.toNat by omega,show x.2.natAbs=x.2.toNat by omega]
    have s7:0<gg:=by
     have:=aow x.2 (show p.aL≠0 by omega);omega
    have m9:bW tab 122 [vi p.aL,vi x.2]=Eq (vi gg):=by
     have h:=xO (a:=p.aL.toNat) (b:=x.2.toNat) (by omega) (by omega);rw [show((p.aL.toNat:Nat):Int)=p.aL by omega,show((x.2.toNat:Nat):Int)=x.2 by omega,←p9,←i7]at h;exact h
    have o8:=aP (n:=r-x.1);have o0:bR .rem (vi (r-x.1)) (vi gg)=aa (vi ((r-x.1).tmod gg)):=ik (by omega);have I:ch.take (n+1)=ch.take n++[x]:=by rw [anu,By b_,hx];rfl
    refine ay ?_;apply ai;simp [k_];apply ai;simp [N,g1,g2,g8,q_,r7,W,n6,F,X,U,z,m9,o8,o0,-az];by_cases hd:gg ∣ r-x.1
    ·have j4:(r-x.1).tmod gg=0:=Int.tmod_eq_zero_of_dvd hd;refine aX (by simp [j4]) ?_;refine ax (nx _ _ ?_ (by simp [k_]) (by simp [o_]));refine⟨⟨by simp [N],by simp [g1],by simp [g2],by simp [g3],by simp [m],by simp [a8],by simp [a7],by simp [g8]⟩,rfl,fun y hy=>?_⟩;rw [I,anm,OF]at hy;rcases hy with hy | rfl
     ·exact A y hy
     ·rw [←i7];exact hd
    ·have j4:¬ (r-x.1).tmod gg=0:=fun e=>hd (Int.dvd_of_tmod_eq_zero e);refine av (by simp [j4]) ?_;refine bh rfl (next _ _ ?_ (by simp [a8]) (by simp [a7]));refine⟨by simp [N],by simp [g1],by simp [g2],by simp [g3],by simp [m],f8 ?_,d,hR,J,K⟩;rw [S];rintro⟨h,-⟩;have:=h x (hx▸IS b_);rw [←i7,←hr]at this;exact hd this
   ·rintro t H2 ⟨⟨N,g1,g2,g3,m,a8,a7,g8⟩,h_,A⟩ - -;rw [h_];rw [anA (by omega)]at A;have W:bC H' 1 ab (.c (.sl (o+1) 0 ps.length ps.length 0 1)) (vi i)=aa (.c (.ptr (o+1) i 0)):=by
     simp [bC,gA,M,J];omega
    have g_:cZ H' (.ptr (o+1) i 0) [.f (fi r)]=aa (H'.set (o+1) (.box ((d.set i r).map fun y=>C.f (fi y)) 0)):=by
     simp only [cZ,M];rw [bf (by simp;omega),uc (by simp;omega),List.map_set]
    have n9:(H'.set (o+1) (.box ((d.set i r).map fun y=>C.f (fi y)) 0))[o+3]?=H'[o+3]?:=sh (by omega);have n8:=aj M;have i3:RH B (H'.set (o+1) (.box ((d.set i r).map fun y=>C.f (fi y)) 0)) g ps (d.set i r):=by
     unfold RH;rw [←ho];refine⟨⟨q',?_⟩,BY n8,?_,?_,fun i hi=>?_⟩
     ·rw [sh (by omega)];exact d9
     ·rw [sh (by omega)];exact d_
     ·rw [n9];exact o5
     ·rw [sh (by omega)];exact o6 i hi
    have i6:Cho ps (d.set i r) (ch++[(r,p.aL)]):=by
     intro y hy;rw [ank,List.length_singleton]at hy;by_cases j7:y<ch.length
     ·rw [List.getElem_append_left j7,sh (by omega)];obtain⟨-,h2,h3⟩:=E y j7;exact⟨f7 y j7,h2,h3⟩
     ·have:y=i:=by omega
      subst this;rw [List.getElem_append_right (by omega)];simp only [i4,Nat.sub_self,List.getElem_cons_zero];refine⟨by rw [BY (by omega)],⟨p,by rw [By u,hp],rfl⟩,o7,by omega⟩
    obtain⟨v,H3,a_,b,rfl,l_,L,j_,m_,I⟩:=ih (i+1) (by omega) _ _ (ch++[(r,p.aL)]) i3 (by simpa using J) (by simp [i4]) i6;have a_:=a_.eq;have j8:=i3.2.2.2.1;rw [←ho]at j8;generalize H'.set (o+1) (.box ((d.set i r).map fun y=>C.f (fi y)) 0)=HN at g_ a_ j8 n9 i3;have p_:IntKind.i64.wrap ((i:Int)+1)=((i+1:Nat):Int):=by rw [aP];rfl
    apply ai;simp [N,g2,g8,d_,W,g_,-a6];apply ai;simp [N,g3,j8,p_,bO];rw [show(↑i+1:Int)=((i+1:Nat):Int) from rfl];simp only [a_];simp;cases b with
    | true=>
     refine av (by simp) ?_;apply ai;simp;refine aE (hQ _ _ _ rfl (dB (by simp)) ⟨ae,rfl,?_,L,j_,m_,?_⟩)
     ·rw [e_];refine⟨fun _=>⟨_,IS hj,?_⟩,fun _=>rfl⟩;rw [S,←hr];exact⟨A,l_.1 rfl⟩
     ·have h1:(L.take (i+1)).take i=L.take i:=by rw [apd,Nat.min_eq_left (by omega)]
      rw [←h1,I,apd,Nat.min_eq_left (by omega),List.take_set_of_le (by omega),K]
    | false=>
     refine aX (by simp) ?_;refine ax (next _ _ ?_ (by simp [a8]) (by simp [a7]));refine⟨by simp [N],by simp [g1],by simp [g2],by simp [g3],by simp [m],f8 ?_,L,j_,m_,?_⟩
     ·rw [S,←hr];rintro⟨-,h⟩;have:=l_.2 h;cases this
     ·have h1:(L.take (i+1)).take i=L.take i:=by rw [apd,Nat.min_eq_left (by omega)]
      rw [←h1,I,apd,Nat.min_eq_left (by omega),List.take_set_of_le (by omega),K]
  ·rintro t H' ⟨N,g1,g2,g3,m,c_,d,hR,J,K⟩ - -;rw [ant]at c_;apply ai;simp;refine aE (hQ _ _ _ rfl (dB (by simp)) ⟨ag,rfl,?_,d,hR,J,K⟩);rw [e_];constructor
   ·intro h;cases h
   ·rintro⟨c,hc,h⟩;exact absurd h (c_ c hc)
theorem dH{n b:Nat}(g:n≤1100000)(d:b≤4096):cR n b=ae:=by
 have h:(2*n+768)*b≤2200768*4096:=Nat.mul_le_mul (by omega) d;simp [cR];omega
theorem K1(g:Tg)(ps:List aI)(B:∀ p ∈ ps,Mod p)(I:1≤ps.length)(F:ps.length≤64):∃ b,(b=ae↔nS [] ps)∧Kf tab 78 [.c (.f (sl g (aJ ps)))] (vb b):=by
 obtain⟨b,z⟩:∃ b:Bool,b=ae↔nS [] ps:=⟨open Classical in decide (nS [] ps),by simp⟩
 refine⟨b,z,dF rfl rfl fun H Q E=>?_⟩;have u:RH H (H++[.box [.f (sl g (aJ ps))] 0,.box (List.replicate ps.length (C.f (fi 0))) 0,.box [.sl (H.length+1) 0 ps.length ps.length 0 1] 0,.box [.cl 120 [.ptr H.length 0 0,.ptr (H.length+2) 0 0,.ptr (H.length+3) 0 0]] 0]) g ps (List.replicate ps.length 0):=by
  refine⟨⟨0,by simp⟩,by simp,by simp,by simp,fun i hi=>AT hi⟩
 obtain⟨v,H',d,A,rfl,q,K,m,-⟩:=amA H rfl g ps B F ps.length 0 (by omega) _ _ [] u (by simp) rfl (fun j h=>absurd h (Nat.not_lt_zero j));rw [aod,←z]at q;have x:A=b:=by rw [aoW];exact q
 subst x;have d:=d.eq;simp only [show((0:Nat):Int)=0 from rfl]at d;apply ai;simp;have l:cR ps.length 8=ae:=dH (by omega) (by decide);have y:∀(t:T) (H:an),t.g 6=vi ps.length→bE t H (.dO 1 8 [.int .i64 0] (R 6) (R 6))=aa (.c (.sl H.length 0 ps.length ps.length 0 1),H++[.box (List.replicate ps.length (C.f (fi 0))) 0]):=by
  intro t H h;have e:(cQ ps.length [fi 0]).map C.f=List.replicate ps.length (C.f (fi 0)):=by simp [cQ]
  simp only [bE,oA,h,gA];rw [bf ⟨by omega,aoP _,by simpa using l,rfl⟩];rw [aT (by omega),anJ,e]
 apply ai;simp [y];apply ai;simp;apply ai;simp;apply ai;simp [bO,d];have s:H'=H++H'.drop H.length:=by
  refine List.ext_getElem? fun i=>?_;have J:=aj m.2.2.2.1;rcases Nat.lt_or_ge i H.length with h | h
  ·exact(m.2.2.2.2 i h).trans (AT h).symm
  ·refine Eq.trans ?_ (ann h).symm;rw [List.getElem?_drop,Nat.add_sub_cancel' h]
 refine aE (E _ _ ?_);simp;exact⟨_,s⟩
theorem wW(g:Tg)(ps:List aI)(j:∀ p ∈ ps,Mod p)(d:1≤ps.length)(m:ps.length≤64):∃ b,(b=ae↔nS [] ps)∧bW tab 78 [.c (.f (sl g (aJ ps)))]=Eq (vb b):=by
 obtain⟨b,l,h⟩:=K1 g ps j d m;exact⟨b,l,h.eq⟩
def eF(S:Int→Prop)(l:Int)(f:Bool):Prop:=(f=ag∧l=0∧∀ d,¬ S d)∨(f=ae∧S l∧∀ d,S d→l≤d)
theorem eF.iff{S S':Int→Prop}{l:Int}{f:Bool}(h:eF S l f)(g:∀ d,S' d↔S d):eF S' l f:=by
 rcases h with⟨a,b,c⟩ | ⟨a,b,c⟩
 ·exact .inl ⟨a,b,fun d j=>c d ((g d).1 j)⟩
 ·exact .inr ⟨a,(g _).2 b,fun d j=>c d ((g d).1 j)⟩
theorem eF.step{S S':Int→Prop}{l x:Int}{f:Bool}(h:eF S l f)(g:∀ d,S' d↔S d∨d=x):eF S' (if f=ag∨x<l then x else l) ae:=by
 right;rcases h with⟨rfl,rfl,c⟩ | ⟨rfl,b,c⟩
 ·refine⟨rfl,by simpa using (g x).2 (.inr rfl),fun d j=>?_⟩;rcases(g d).1 j with h | rfl
  ·exact absurd h (c d)
  ·simp
 ·refine⟨rfl,?_,fun d j=>?_⟩
  ·by_cases k:x<l
   ·simpa [k]using (g x).2 (.inr rfl)
   ·simpa [k]using (g l).2 (.inl b)
  ·rcases(g d).1 j with h | rfl
   ·have:=c d h;by_cases k:x<l<;>simp [k]<;>omega
   ·by_cases k:d<l<;>simp [k];omega
def iO(ps:List aI)(n:Int)(l:List aI)(d:Int):Prop:=n≤d∧uU ps d=ae∧∃ p ∈ l,d ∈ p.head
theorem Ai(g:Tg)(ps:List aI)(hP:∀ p ∈ ps,cL p=ae)(hl:ps.length≤64)(n:Int):∃ e f,eF (iO ps n ps) e f∧bW tab 107 [.c (.f (sl g (aJ ps))),vi n]=Eq (.t [vi e,vb f]):=by
 have key:∃ r,(∃ e f,eF (iO ps n ps) e f∧r=.t [vi e,vb f])∧bW tab 107 [.c (.f (sl g (aJ ps))),vi n] r:=by
  refine eV rfl rfl fun Q hQ=>?_;apply ai;simp;apply ai;simp;apply au;apply ai;simp;refine b7 ps.length (fun j t H'=>t.g 0=.c (.f (sl g (aJ ps)))∧t.g 1=vi n∧t.g 12=.c (.f (sl g (aJ ps)))∧∃ e f,t.g 6=vi e∧t.g 7=vb f∧eF (iO ps n (ps.take j)) e f) (by omega) (by decide) (by decide) (by simp) (by simp)
   ⟨by simp,by simp,by simp,0,ag,by simp,by simp,.inl ⟨rfl,rfl,fun d hd=>by obtain⟨_,_,p,hp,_⟩:=hd;simp at hp⟩⟩ ?_ ?_
  ·rintro j t H hj ⟨s,u,b,e,f,B,E,N⟩ ha hb next
   obtain⟨p,hp⟩:=aM (ps[j]);have b_:p ∈ ps:=hp▸IS hj;obtain⟨f0,f1,p0,p1,g_,-,a8,-⟩:=aY (hP p b_);have O:=fun H:an=>cH (H:=H) (bD ps) (cU (l:=ps) (j:=j) hj);have W:=fun H:an=>bG (H:=H) (g:=g) (rows:=aJ ps) (sz:=4) (k:=.i64) (i:=j) (by omega) (by simpa using hj);rw [←hp]at O;simp [aI.row]at O W;have c9:ps.take (j+1)=ps.take j++[p]:=by rw [anu,By hj,hp];rfl
   refine ay ?_;apply ai;simp [b,ha,W,O];apply ai;simp;refine b7 p.head.length (fun i t H'=>t.g 0=.c (.f (sl g (aJ ps)))∧t.g 1=vi n∧t.g 12=.c (.f (sl g (aJ ps)))∧t.g 14=vi j∧t.g 13=vi ps.length∧t.g 19=.c (.f (sl p.hg (ints p.head))) ∧
    ∃ e f,t.g 6=vi e∧t.g 7=vb f∧eF (fun d=>iO ps n (ps.take j) d∨(n≤d∧uU ps d=ae∧d ∈ p.head.take i)) e f) (by omega) (by decide) (by decide) (by simp) (by simp)
    ⟨by simp [s],by simp [u],by simp [b],by simp [ha],by simp [hb],by simp,e,f,by simp [B],by simp [E],N.iff fun d=>by simp⟩ ?_ ?_
   ·rintro i t H hi ⟨s,u,b,y,v,z,e,f,B,E,N⟩ K M nx;obtain⟨x,hx⟩:=aM (p.head[i]);have c_:x ∈ p.head:=hx▸IS hi;have h_:=a8 x c_;have a7:=fun H:an=>ey (H:=H) hi;rw [←hx]at a7;have A:=(ad8 g ps (by omega) hP x (by unfold Day;omega)).eq;have X:p.head.take (i+1)=p.head.take i++[x]:=by rw [anu,By hi,hx];rfl
    refine ay ?_;apply ai;simp [K,z,bG,hi,a7];have ba:¬ (n≤x∧uU ps x=ae)→eF (fun d=>iO ps n (ps.take j) d∨(n≤d∧uU ps d=ae∧d ∈ p.head.take (i+1))) e f:=fun a_=>N.iff fun d=>by
     rw [X,anm,OF];constructor
     ·rintro(h | ⟨F,I,J | rfl⟩)
      ·exact .inl h
      ·exact .inr ⟨F,I,J⟩
      ·exact absurd ⟨F,I⟩ a_
     ·rintro(h | ⟨F,I,J⟩)
      ·exact .inl h
      ·exact .inr ⟨F,I,.inl J⟩
    have S:(n≤x∧uU ps x=ae)→eF (fun d=>iO ps n (ps.take j) d∨(n≤d∧uU ps d=ae∧d ∈ p.head.take (i+1))) (if f=ag∨x<e then x else e) ae:=fun Y=>N.step fun d=>by
     rw [X,anm,OF];constructor
     ·rintro(h | ⟨F,I,J | rfl⟩)
      ·exact .inl (.inl h)
      ·exact .inl (.inr ⟨F,I,J⟩)
      ·exact .inr rfl
     ·rintro((h | ⟨F,I,J⟩) | rfl)
      ·exact .inl h
      ·exact .inr ⟨F,I,.inl J⟩
      ·exact .inr ⟨Y.1,Y.2,.inr rfl⟩
    have L:∀(t:T) (H:an) (e':Int) (f':Bool),t.g 0=.c (.f (sl g (aJ ps)))→t.g 1=vi n→t.g 12=.c (.f (sl g (aJ ps)))→t.g 14=vi j→t.g 13=vi ps.length→t.g 19=.c (.f (sl p.hg (ints p.head)))→t.g 21=vi i→t.g 20=vi p.head.length→t.g 6=vi e'→t.g 7=vb f'→eF (fun d=>iO ps n (ps.take j) d∨(n≤d∧uU ps d=ae∧d ∈ p.head.take (i+1))) e' f' →
      WP tab 107 ab [.code zB,.inLoop zA,.inBlock 2,.inBlock 1,.code zC,.inLoop CL,.inBlock 0,.code zD] ⟨t,[],H⟩ Q:=by
     intro t H e' f' q0 q1 d9 e_ d_ f7 f_ f8 q6 q7 qm;refine nx _ _ ?_ f_ f8;exact⟨by simp [q0],by simp [q1],by simp [d9],by simp [e_],by simp [d_],by simp [f7],e',f',by simp [q6],by simp [q7],qm⟩
    by_cases U:n≤x
    ·cases f with
     | false=>
      cases m:uU ps x with
      | false=>
       rw [m]at A;apply ai;simp [s,u,B,E,U,A];refine aF (by simp) (aR (ax ?_));exact L _ _ e ag (by simp [s]) (by simp [u]) (by simp [b]) (by simp [y]) (by simp [v]) (by simp [z]) (by simp [K]) (by simp [M]) (by simp [B]) (by simp [E]) (ba (by simp [m]))
      | true=>
       rw [m]at A;apply ai;simp [s,u,B,E,U,A];refine av (by simp) (aq (.inl rfl) ?_);simp;refine ax ?_;exact L _ _ x ae (by simp [s]) (by simp [u]) (by simp [b]) (by simp [y]) (by simp [v]) (by simp [z]) (by simp [K]) (by simp [M]) (by simp) (by simp) (by have:=S ⟨U,m⟩;simpa using this)
     | true=>
      by_cases c2:x<e
      ·cases m:uU ps x with
       | false=>
        rw [m]at A;apply ai;simp [s,u,B,E,U,c2,A];refine aF (by simp) (aR (ax ?_));exact L _ _ e ae (by simp [s]) (by simp [u]) (by simp [b]) (by simp [y]) (by simp [v]) (by simp [z]) (by simp [K]) (by simp [M]) (by simp [B]) (by simp [E]) (ba (by simp [m]))
       | true=>
        rw [m]at A;apply ai;simp [s,u,B,E,U,c2,A];refine av (by simp) (aq (.inl rfl) ?_);simp;refine ax ?_;exact L _ _ x ae (by simp [s]) (by simp [u]) (by simp [b]) (by simp [y]) (by simp [v]) (by simp [z]) (by simp [K]) (by simp [M]) (by simp) (by simp) (by have:=S ⟨U,m⟩;simpa [c2]using this)
      ·apply ai;simp [s,u,B,E,U,c2];refine aF (by simp) (aR (ax ?_));refine L _ _ e ae (by simp [s]) (by simp [u]) (by simp [b]) (by simp [y]) (by simp [v]) (by simp [z]) (by simp [K]) (by simp [M]) (by simp [B]) (by simp [E]) ?_;cases m:uU ps x with
       | false=>exact ba (by simp [m])
       | true=>have:=S ⟨U,m⟩;simpa [c2]using this
    ·apply ai;simp [s,u,B,E,U];refine aF (by simp) (aR (ax ?_));exact L _ _ e f (by simp [s]) (by simp [u]) (by simp [b]) (by simp [y]) (by simp [v]) (by simp [z]) (by simp [K]) (by simp [M]) (by simp [B]) (by simp [E]) (ba fun h=>U h.1)
   ·rintro t H ⟨s,u,b,y,v,z,e,f,B,E,N⟩ - -;rw [ant]at N;refine ax (next _ _ ?_ (by simp [y]) (by simp [v]));refine⟨by simp [s],by simp [u],by simp [b],e,f,by simp [B],by simp [E],N.iff fun d=>?_⟩;unfold iO;rw [c9];constructor
    ·rintro⟨F,I,q,Z,J⟩;rcases anm.1 Z with Z | Z
     ·exact .inl ⟨F,I,q,Z,J⟩
     ·rw [OF.1 Z]at J;exact .inr ⟨F,I,J⟩
    ·rintro(⟨F,I,q,Z,J⟩ | ⟨F,I,J⟩)
     ·exact⟨F,I,q,anO _ Z,J⟩
     ·exact⟨F,I,p,aoo _ (OF.2 rfl),J⟩
  ·rintro t H ⟨s,u,b,e,f,B,E,N⟩ ha hb;rw [ant]at N;apply ai;simp [B,E];refine aE (hQ _ _ _ ⟨e,f,N,rfl⟩ ?_);simp
 obtain⟨r,⟨e,f,N,rfl⟩,h⟩:=key;exact⟨e,f,N,h.eq⟩
def Compat(L:List (Int × Int)):Prop:=∀ x ∈ L,∀ y ∈ L,(aob x.2 y.2:Int) ∣ x.1-y.1
theorem wV:∀(l:List aI) (ch:List (Int × Int)),nS ch l→Compat ch→∃ g,Compat (ch++g)∧(∀ p ∈ l,∃ c ∈ p.bg,(fJ p c,p.aL) ∈ g)∧∀ x ∈ g,∃ p ∈ l,x.2=p.aL
 | [],ch,_,s=>⟨[],by simpa using s,by simp,by simp⟩
 | p::l,ch,⟨c,s,z,B⟩,u=>by
  obtain⟨g,E,F,H⟩:=wV l _ B (fun x b y d=>by
   rcases anm.1 b with b | b
   ·rcases anm.1 d with d | d
    ·exact u x b y d
    ·rw [OF.1 d];have:=z x b;rw [Int.gcd_comm]at this;have:=Int.dvd_neg.2 this;rwa [show -(fJ p c-x.1)=x.1-fJ p c by omega]at this
   ·rw [OF.1 b];rcases anm.1 d with d | d
    ·exact z y d
    ·rw [OF.1 d,Int.sub_self];exact Int.dvd_zero _)
  refine⟨(fJ p c,p.aL)::g,by simpa using E,fun q v=>?_,fun x b=>?_⟩
  ·rcases anK.1 v with rfl | v
   ·exact⟨c,s,anr⟩
   ·obtain⟨A,j,m⟩:=F q v;exact⟨A,j,anp _ m⟩
  ·rcases anK.1 b with rfl | b
   ·exact⟨p,anr,rfl⟩
   ·obtain⟨q,j,m⟩:=H x b;exact⟨q,anp _ j,m⟩
theorem abE(Q:Nat)(d:Q ∈ [8,9,5,7,11]):∀ a b:Fin 13,aor a.1 Q ∣ aor b.1 Q∨aor b.1 Q ∣ aor a.1 Q:=by
 have h:∀ Q ∈ [8,9,5,7,11],∀ a b:Fin 13,aor a.1 Q ∣ aor b.1 Q∨aor b.1 Q ∣ aor a.1 Q:=by decide
 exact h Q d
theorem C_(Q:Nat)(g:Q ∈ [8,9,5,7,11]):∀ L:List (Int × Int),L≠[]→(∀ x ∈ L,1≤x.2∧x.2≤12)→∃ y ∈ L,∀ z ∈ L,aor z.2.toNat Q ∣ aor y.2.toNat Q
 | [],h,_=>absurd rfl h| [x],_,_=>⟨x,by simp,by simp⟩
 | x::y::L,_,d=>by
  obtain⟨m,j,h⟩:=C_ Q g (y::L) (by simp) fun z b=>d z (anp _ b);have l:=d x anr;have q:=d m (anp _ j);rcases abE Q g ⟨x.2.toNat,by omega⟩ ⟨m.2.toNat,by omega⟩with k | k
  ·refine⟨m,anp _ j,fun z b=>?_⟩;rcases anK.1 b with rfl | b
   ·exact k
   ·exact h z b
  ·refine⟨x,anr,fun z b=>?_⟩;rcases anK.1 b with rfl | b
   ·exact Nat.dvd_refl _
   ·exact Nat.dvd_trans (h z b) k
theorem py(Q:Nat)(m:Q ∈ [8,9,5,7,11]){L:List (Int × Int)}(b:∀ x ∈ L,1≤x.2∧x.2≤12)(q:Compat L):∃ c:Int,∀ x ∈ L,((aor x.2.toNat Q:Nat):Int) ∣ c-x.1:=by
 by_cases g:L=[]
 ·exact⟨0,by simp [g]⟩
 obtain⟨y,j,h⟩:=C_ Q m L g b;refine⟨y.1,fun z d=>aon (Int.natCast_dvd_natCast.2 ?_) (q y j z d)⟩;have s:=b y j;have u:=b z d;have l:aob y.2 z.2=aor y.2.toNat z.2.toNat:=by
  rw [aob,show y.2.natAbs=y.2.toNat by omega,show z.2.natAbs=z.2.toNat by omega]
 rw [l];exact Nat.dvd_gcd (Nat.dvd_trans (h z d) (Nat.gcd_dvd_left _ _)) (Nat.gcd_dvd_left _ _)
theorem ajW{L:List (Int × Int)}(g:∀ x ∈ L,1≤x.2∧x.2≤12)(l:Compat L):∃ d:Int,0≤d∧d<27720∧∀ x ∈ L,x.2 ∣ d-x.1:=by
 obtain⟨a,s⟩:=py 8 (by decide) g l;obtain⟨b,m⟩:=py 9 (by decide) g l;obtain⟨c,q⟩:=py 5 (by decide) g l;obtain⟨d,u⟩:=py 7 (by decide) g l;obtain⟨e,v⟩:=py 11 (by decide) g l;refine⟨(3465*a+15400*b+22176*c+11880*d+2520*e) % 27720,by omega,by omega,fun x j=>?_⟩;have y:=g x j;have A:=s x j;have B:=m x j;have E:=q x j;have F:=u x j;have H:=v x j;obtain⟨r,n⟩:=x;dsimp only at *;have z:n=1∨n=2∨n=3∨n=4∨n=5∨n=6∨n=7∨n=8∨n=9∨n=10∨n=11∨n=12:=by omega
 clear s m q u v g l j y;rcases z with rfl | rfl | rfl | rfl | rfl | rfl | rfl | rfl | rfl | rfl | rfl | rfl<;>simp at A B E F H ⊢<;>omega
theorem WM{ps:List aI}(z:∀ p ∈ ps,1≤p.aL∧p.aL≤12)(h:nS [] ps):∃ d:Int,0≤d∧d<27720∧∀ p ∈ ps,iC p d:=by
 obtain⟨A,j,q,s⟩:=wV ps [] h (by intro x g;cases g);rw [aof]at j;obtain⟨d,l,m,v⟩:=ajW (fun x g=>by obtain⟨p,b,e⟩:=s x g;rw [e];exact z p b) j;refine⟨d,l,m,fun p b=>?_⟩;obtain⟨c,u,y⟩:=q p b;exact⟨c,u,v _ y⟩
theorem BQ{ps:List aI}(s:∀ p ∈ ps,1≤p.aL∧p.aL≤12){d:Int}(h:∀ p ∈ ps,iC p d)(k:Int):∀ p ∈ ps,iC p (d+27720*k):=fun p g=>by
 obtain⟨c,m,j⟩:=h p g;refine⟨c,m,?_⟩;have l:p.aL ∣ 27720:=by
  obtain⟨a,b⟩:=s p g;have q:p.aL=1∨p.aL=2∨p.aL=3∨p.aL=4∨p.aL=5∨p.aL=6∨p.aL=7∨p.aL=8∨p.aL=9∨p.aL=10∨p.aL=11∨p.aL=12:=by omega
  rcases q with e | e | e | e | e | e | e | e | e | e | e | e<;>rw [e]<;>decide
 rw [show d+27720*k-fJ p c=(d-fJ p c)+27720*k by omega];exact Int.dvd_add j (aon l (apa _ _))
def tL(x y:aB):Bool:=if x.fr=y.fr then(if x.day=y.day then decide (x.to<y.to)else decide (x.day<y.day))else decide (x.fr<y.fr)
theorem acv(x y:aB):bW tab 61 [.a (x.row.map .f),.a (y.row.map .f)]=Eq (vb (tL x y)):=by
 refine Kf.eq (dF rfl rfl fun H Q g=>?_);apply ai;simp [aB.row];apply au;apply ai;simp;by_cases b:x.fr=y.fr
 ·refine aX (by simp [b]) ?_;apply au;apply ai;simp;by_cases d:x.day=y.day
  ·refine aX (by simp [d]) ?_;apply ai;simp;refine aE (g _ _ ?_);simp [tL,b,d]
  ·refine av (by simp [d]) ?_;apply ai;simp;refine aE (g _ _ ?_);simp [tL,b,d]
 ·refine av (by simp [b]) ?_;apply ai;simp;refine aE (g _ _ ?_);simp [tL,b]
def aB.lt(x y:aB):Prop:=x.fr<y.fr∨x.fr=y.fr∧(x.day<y.day∨x.day=y.day∧x.to<y.to)
theorem wv(x y:aB):tL x y=ae↔x.lt y:=by
 unfold tL aB.lt;by_cases b:x.fr=y.fr
 ·by_cases d:x.day=y.day
  ·simp [b,d]
  ·simp [b,d]
 ·simp [b]
theorem gJ(x y:aB):eM x y<0↔x.lt y:=by
 unfold eM aB.lt;simp only [Ce,gw]
 repeat' split
 all_goals omega
theorem aB.lt_trans{x y z:aB}(h:x.lt y)(b:y.lt z):x.lt z:=by unfold aB.lt at *;omega
theorem aB.V2{x y:aB}(h:¬ x.lt y)(d:x≠y):y.lt x:=by
 obtain⟨a,b,c⟩:=x;obtain⟨a',g,j⟩:=y;unfold aB.lt at *;simp only [ne_eq,aB.mk.injEq]at d;simp only at h ⊢;omega
theorem aB.V1{x:aB}:¬ x.lt x:=by unfold aB.lt;omega
theorem Ks(g:Tg)(l:List aB)(x:aB)(hl:l.length≤10)(hs:l.Pairwise aB.lt):∃ g' K,K.length≤l.length+1∧(K.Pairwise aB.lt∧∀ y,y ∈ K↔y=x∨y ∈ l)∧bW tab 23 [.c (.f (sl g (aD l))),.a (x.row.map .f)]=Eq (.c (.f (sl g' (aD K)))):=by
 obtain⟨r,⟨g',K,c_,hS,rfl⟩,h⟩:∃ r,(∃ g' K,K.length≤l.length+1∧(K.Pairwise aB.lt∧∀ y,y ∈ K↔y=x∨y ∈ l)∧r=.c (.f (sl g' (aD K))))∧bW tab 23 [.c (.f (sl g (aD l))),.a (x.row.map .f)] r:=by
  refine eV rfl rfl fun Q hQ=>?_;apply ai;simp [aB.row];apply ai;simp;apply ai;simp;apply au;apply ai;simp;have X:∀(H:an) (v:V) (o:List aB) (y:aB),o.length≤30→LB ae H 3 v .es (aD o)→∃ v' H',bF (H++[.box [.f (fi y.day),.f (fi y.fr),.f (fi y.to)] 0]) 3 24 v (.c (.sl H.length 0 1 1 0 3))=aa (v',H')∧LB ae H' 3 v' .es (aD (o++[y]))∧(∀(b:Nat) cs fl,H[b]?=aa (.box cs fl)→H'[b]?=aa (.box cs fl)):=by
   intro H v o y Z A;obtain⟨v',H',Y,U,-,e4⟩:=LB.app (H:=H++[.box [.f (fi y.day),.f (fi y.fr),.f (fi y.to)] 0]) (row:=y.row) (bytes:=24) (y:=.c (.sl H.length 0 1 1 0 3)) (A.push _) (bw _) rfl (by decide)
    (nC (fl:=0) (cs:=y.row.map .f) (by simp [aB.row]) rfl) (AB _) (by simp [cR];omega)
   refine⟨v',H',Y,by simpa [aD]using U,fun b cs fl hb=>e4 _ _ _ ?_⟩;rw [AT (aj hb)];exact hb
  refine jC l.length (fun j t H=>t.g 0=.c (.f (sl g (aD l)))∧t.g 3=.c (.ptr 0 0 0)∧H[0]?=aa (.box [.f (fi x.day),.f (fi x.fr),.f (fi x.to)] 0)∧∃ d o,t.g 6=vb d∧LB ae H 3 (t.g 5) .es (aD o)∧o.length≤j+1∧(d=ag→o=l.take j∧∀ y ∈ o,y.lt x)∧(d=ae→(o++l.drop j).Pairwise aB.lt∧∀ y,y ∈ o↔y=x∨y ∈ l.take j)) (by omega) rfl (by simp)
   ⟨by simp,by simp,by simp,ag,[],by simp,by simpa [aD]using LB.es0,by simp,by simp,by simp⟩ ?_ ?_ ?_
  ·rintro j t H L S ⟨u,E,F,d,o,N,A,Z,W,q⟩ O hL;simp [O,u];exact hL _ ⟨by simp [u],by simp [E],F,d,o,by simp [N],by simpa using A,Z,W,q⟩ (by simp [O]) (by simp)
  ·rintro j t H S ⟨u,E,F,d,o,N,A,Z,W,q⟩ O next
   have s:=fun H:an=>cH (H:=H) (bw l) (cD S);have J:=acv x l[j];simp [aB.row]at s J;refine ay ?_;apply au;apply ai;simp [u,E,O,bG,S,s,F];have M:∀(t:T) (H:an) (o:List aB) (d:Bool),t.g 0=.c (.f (sl g (aD l)))→t.g 3=.c (.ptr 0 0 0)→t.g 7=vi j→t.g 6=vb d→H[0]?=aa (.box [.f (fi x.day),.f (fi x.fr),.f (fi x.to)] 0)→LB ae H 3 (t.g 5) .es (aD o) →
     o.length≤j+1→(d=ag→o=l.take j∧(∀ y ∈ o,y.lt x)∧l[j].lt x)→(d=ae→(o++l.drop j).Pairwise aB.lt∧∀ y,y ∈ o↔y=x∨y ∈ l.take j) →
     WP tab 23 ab [.code vC,.inBlock 1,.code (tI 7 13 14),.inLoop (sE 0 7 12 13 14 [⟨D 9,.cX (R 7),ab⟩,⟨D 10,.cX (R 0),ab⟩,⟨D 11,.len (R 10),ab⟩,⟨D 12,.bin .lss (R 9) (R 11),ab⟩] vB),.inBlock 0,.code vD] ⟨t,[],H⟩ Q:=by
    intro t H o d u E g7 N F A Z W q;have b_:l.take (j+1)=l.take j++[l[j]]:=by rw [anu,By S];rfl
    have c9:l.drop j=l[j]::l.drop (j+1):=anw S;have e_:(l.take j).length=j:=by simp;omega
    have d_:(o++[l[j]]).length≤j+1+1:=by simp;omega
    obtain⟨v',H',Y,U,e4⟩:=X H (t.g 5) o l[j] (by omega) A;refine aq (.inl rfl) ?_;simp [u,g7,bG,S,s,Y];refine ax (next _ _ ?_ (by simp [g7]));exact⟨by simp [u],by simp [E],e4 _ _ _ F,d,o++[l[j]],by simp [N],by simpa using U,d_,fun h=>by
     obtain⟨a1,B,a3⟩:=W h;subst a1;refine⟨b_.symm,fun y m=>?_⟩;rcases anm.1 m with m | m
     ·exact B y m
     ·obtain rfl:=OF.1 m;exact a3,fun h=>by
     obtain⟨a1,B⟩:=q h;rw [c9]at a1;refine⟨by simpa using a1,fun y=>?_⟩;rw [b_,anm,anm,B,or_assoc]⟩
   cases hc:(l[j].day == x.day&&(l[j].fr == x.fr&&l[j].to == x.to))
   ·refine aX (by simp) ?_;apply au;apply ai;simp [N];cases d
    ·simp [E,F,u,O,bG,S,s,J];cases a8:tL x l[j]
     ·refine aX (by simp) ?_;exact M _ _ o ag (by simp [u]) (by simp [E]) (by simp [O]) (by simp [N]) F (by simpa using A) (by omega) (fun _=>by
       obtain⟨a1,B⟩:=W rfl;refine⟨a1,B,aB.V2 (x:=x) ?_ ?_⟩
       ·rw [←wv,a8];simp
       ·rintro rfl;simp at hc) (by simp)
     ·refine av (by simp) ?_;obtain⟨v',H',Y,U,e4⟩:=X H (t.g 5) o x (by omega) A;obtain⟨a1,B⟩:=W rfl;have a7:=(wv _ _).1 a8;have f7:o.length≤j:=by rw [a1];simp;omega
      apply ai;simp [E,F,Y];refine aq (.inl rfl) ?_;simp;refine M _ _ (o++[x]) ae (by simp [u]) (by simp [E]) (by simp [O]) (by simp) (e4 _ _ _ F) (by simpa using U) (by simp;omega) (by simp) fun _=>⟨?_,fun y=>?_⟩
      ·have a_:(l.take j++l.drop j).Pairwise aB.lt:=by rw [List.take_append_drop];exact hs
       rw [an9]at a_;obtain⟨b1,b2,b3⟩:=a_;rw [anV,an9,a1];refine⟨b1,?_,?_⟩
       ·rw [List.singleton_append,aoQ];refine⟨fun y m=>?_,b2⟩;rw [anw S]at m b2;rcases anK.1 m with rfl | m
        ·exact a7
        ·exact aB.lt_trans a7 ((aoQ.1 b2).1 y m)
       ·intro y m z hz;rcases anm.1 hz with hz | hz
        ·obtain rfl:=OF.1 hz;exact B y (a1▸m)
        ·exact b3 y m z hz
      ·rw [anm,a1,OF,or_comm]
    ·simp;refine aX (by simp) ?_;exact M _ _ o ae (by simp [u]) (by simp [E]) (by simp [O]) (by simp [N]) F (by simpa using A) Z (by simp) fun _=>q rfl
   ·refine av (by simp) ?_;apply ai;simp [u];refine aE (hQ _ _ _ ⟨g,l,by omega,⟨hs,fun y=>⟨.inr,?_⟩⟩,rfl⟩ ?_)
    ·rintro(rfl | m)
     ·have:y=l[j]:=by
       obtain⟨a,b,c⟩:=y;simp only [If,beq_iff_eq]at hc;cases d9:l[j]with
       | mk a' b' c'=>
        rw [d9]at hc;simp at hc;obtain⟨rfl,rfl,rfl⟩:=hc;rfl
      rw [this];exact IS S
     ·exact m
    simp
  ·rintro t H ⟨u,E,F,d,o,N,A,Z,W,q⟩ O;apply au;apply ai;simp [N];cases d
   ·refine av (by simp) ?_;obtain⟨v',H',Y,U,e4⟩:=X H (t.g 5) o x (by omega) A;refine aq (.inl rfl) ?_;simp [E,F,Y];apply ai;simp;obtain⟨cv,I,_⟩:=U.len;have:=U.fzV (bw _);obtain⟨a1,B⟩:=W rfl;rw [ant]at a1;subst a1;refine aE (hQ _ _ _ ⟨.es,o++[x],by simp,⟨?_,fun y=>by rw [anm,OF,or_comm]⟩,rfl⟩ ?_)
    ·rw [an9];exact⟨hs,an1 _ _,fun y m z hz=>by obtain rfl:=OF.1 hz;exact B y m⟩
    rw [I]at this;simp [I];simpa using this
   ·refine aX (by simp) ?_;apply ai;simp;obtain⟨cv,I,_⟩:=A.len;have:=A.fzV (bw _);obtain⟨a1,B⟩:=q rfl;rw [ant]at B;rw [apf,List.append_nil]at a1;refine aE (hQ _ _ _ ⟨.es,o,Z,⟨a1,B⟩,rfl⟩ ?_);rw [I]at this;simp [I];simpa using this
 exact⟨g',K,c_,hS,bW.eq h⟩
def aB.le(x y:aB):Prop:=¬ y.lt x
theorem aB.le_trans{x y z:aB}(h:x.le y)(b:y.le z):x.le z:=by unfold aB.le aB.lt at *;omega
theorem aB.ad_{x y:aB}(h:x.lt y):x.le y:=by unfold aB.le aB.lt at *;omega
@[simp] theorem aB.al2 (x:aB):x.row.length=3:=rfl
theorem sG{b:Type}(A:List b)(x y:b)(B:List b):(A++x::B).set A.length y=A++y::B:=by simp
theorem xW(l:List aB)(j:Nat)(x:aB):(aD l).set j x.row=aD (l.set j x):=by simp [aD,List.map_set]
theorem pH{l:List aB}{j:Nat}{x:aB}(h:l[j]?=aa x):(aD l)[j]?=aa x.row:=by simp [aD,h]
theorem acu:((List.range 257).all fun n=>match (CF tab 60 60 (.fn 64) [.c (.f (.int .u64 n))] [])with | some (.c (.f (.int .i64 (.ofNat k))),_)=>Nat.ble k 62&&(Nat.beq n 0||Nat.ble (2 ^ k) (2*n)) | _=>ag)=ae:=by kernel_rfl
theorem Du:U1 tab bB 256:=fun n h=>by
 have j:=acu;rw [anx]at j;have b:=j n (by simp;omega);split at b
 ·rename_i k H' e;rw [If,Bool.or_eq_true]at b;refine⟨k,(A0 (m:=60) (d:=60) (by rw [e];rfl)).eq,Nat.le_of_ble_eq_true b.1,fun l=>?_⟩;rcases b.2 with g | g
  ·have:=Nat.eq_of_beq_eq_true g;omega
  ·exact Nat.le_of_ble_eq_true g
 ·cases b
theorem Lb:aft tab bB 3:=⟨U8,U7,afI,afR,afG,afH,afQ,
 afO,afP,afN,afJ,afK,afM,afL,afS⟩
def tt:List FC→aB
 | [.int _ a,.int _ b,.int _ c]=>⟨a,b,c⟩| _=>⟨0,0,0⟩
def qM(r:List FC):Prop:=r=(tt r).row
theorem BN(x:aB):qM x.row:=rfl
def Wl(r s:List FC):Int:=eM (tt r) (tt s)
theorem Vs:uM qM Wl where
 zU:=fun _ _ h b=>by
  unfold Wl at h b;rw [gJ]at h b;unfold aB.lt at h b;omega
 trans:=fun _ _ _ h b=>by
  unfold Wl at *;rw [gJ]at *;unfold aB.lt at *;omega
theorem abJ{F:Nat}(b:∀ x y:aB,Kf tab F [.a (x.row.map .f),.a (y.row.map .f)] (vi (eM x y))):Cv tab (.c (.f (.fn F []))) qM Wl:=by
 intro x y d g H;obtain⟨J,h⟩:=b (tt x) (tt y) H;rw [←show x=(tt x).row from d,←show y=(tt y).row from g]at h;exact⟨F,_,J,by simp [bO],h⟩
theorem J_{rows:List (List FC)}(h:∀ r ∈ rows,qM r):aD (rows.map tt)=rows:=by
 unfold aD;rw [List.map_map]
 conv=>rhs;rw [←List.map_id rows]
 exact aoM fun r b=>(h r b).symm
theorem xV(l:List aB):(aD l).map tt=l:=by
 unfold aD;rw [List.map_map]
 conv=>rhs;rw [←List.map_id l]
 exact aoM fun r _=>rfl
theorem adO{H:an}{b m F:Nat}{l:List aB}(M:∀ x y:aB,Kf tab F [.a (x.row.map .f),.a (y.row.map .f)] (vi (eM x y)))(U:l.length≤256)(B:RB H b 3 m (aD l)) :
  ∃ r H',Ev tab (.fn 28) [.c (.sl b 0 l.length 0 m 3),.c (.f (.fn F []))] H r H' ∧
   (r=.t []∧Fm b H H'∧∃ d:List aB,RB H' b 3 m (aD d)∧d.Perm l∧d.Pairwise aB.le):=by
 have A:∀ r ∈ aD l,qM r:=fun r u=>by
  obtain⟨x,-,rfl⟩:=anv.1 u;exact BN x
 obtain⟨k,I,-,-⟩:=Du l.length (by omega);have K:(aD l).length=l.length:=iV l;obtain⟨r,H',g,rfl,f,d,r',z,O⟩:=Wy (n:=l.length) Lb (abJ M) Vs (by omega) (fun L S=>Du L (by omega)) _ 0 l.length H (aD l) k rfl (by omega) (anl _) K B (bw l) A (fun k h=>absurd h (by omega));have q:∀ r ∈ d,qM r:=fun r u=>A r (z.1.mem_iff.1 u);have g:=g.eq;have v:IntKind.wrap .u64 (l.length:Int)=l.length:=by rw [uI];omega
 refine cM rfl rfl fun Q N=>?_;apply ai;simp [B.len];refine aq (.inl rfl) ?_;simp at I g;simp [v,I,g];refine cK (N _ _ (.t []) rfl rfl ⟨rfl,f,d.map tt,?_,?_,?_⟩)
 ·rw [J_ q];exact r'
 ·have:=z.1.map tt;rwa [xV]at this
 ·rw [anP];intro i j hi E s;simp only [anq]at hi E;have J:d.length=l.length:=by rw [z.len,K]
  have:=O i j d[i] d[j] (by omega) s (by omega) (By hi) (By E);rw [aoR,aoR];unfold Wl at this;rw [gJ]at this;exact this
theorem W5{H:an}{F:Nat}:∃ r H',Ev tab (.fn 28) [.c (.f .aC),.c (.f (.fn F []))] H r H'∧(r=.t []∧H'=H):=by
 obtain⟨k,d,-,-⟩:=Du 0 (by omega);have b:=(DE (σ:=bB) (sz:=3) U8 U7 (H:=H) (v:=.c (.f .aC)) (cv:=.c (.f (.fn F []))) (lim:=k)).eq;refine cM rfl rfl fun Q g=>?_;apply ai;simp [bu];refine aq (.inl rfl) ?_;have j:IntKind.wrap .u64 0=0:=rfl;simp at d b;simp [j,d,b];exact cK (g _ _ _ rfl rfl ⟨rfl,rfl⟩)
theorem VV{x y:aB}(h:x.le y)(b:x≠y):x.lt y:=aB.V2 h (Ne.symm b)
def eqB(x y:aB):Bool:=x.day == y.day&&(x.fr == y.fr&&x.to == y.to)
theorem su{x y:aB}:eqB x y=ae↔x=y:=by
 obtain⟨a,b,c⟩:=x;obtain⟨a',d,g⟩:=y;simp [eqB]
theorem Dt{l:List aB}(g:l.Pairwise aB.le){i j:Nat}(b:i<j)(d:j<l.length):(l[i]'(by omega)).le l[j]:=anP.1 g i j (by omega) d b
theorem Bw{H:an}{b A:Nat}{l:List aB}(hl:l.length≤1000000)(hs:l.Pairwise aB.le)(F:RB H b 3 A (aD l)) :
  ∃ r H',Ev tab (.fn 30) [.c (.sl b 0 l.length 0 A 3)] H r H' ∧
   (∃ l' R:List aB,r=.c (.sl b 0 l'.length 0 A 3)∧Fm b H H'∧RB H' b 3 A (aD (l'++R))∧l'.length≤l.length∧l'.Pairwise aB.lt∧∀ x,x ∈ l'↔x ∈ l):=by
 refine cM rfl rfl fun Q hQ=>?_;apply ai;simp;apply au;apply ai;simp [F.len];by_cases h2:l.length<2
 ·refine av (by simp;omega) ?_;apply ai;simp;refine aE (hQ _ _ _ rfl (dB (by simp)) ⟨l,[],rfl,Fm.refl _,by simpa using F,anl _,?_,fun _=>Iff.rfl⟩)
  match l,h2 with
  | [],_=>exact List.Pairwise.nil| [x],_=>exact an1 _ _| x::y::r,h=>simp at h;omega
 refine aF (by simp;omega) (aR ?_);apply au;apply ai;simp;refine ay ?_;refine bI (fun n s=>∃(k:Nat) (t:T),s=⟨t,[],H⟩∧n=l.length-k∧1≤k∧k≤l.length∧t.g 0=.c (.sl b 0 l.length 0 A 3)∧t.g 3=vi k∧(l.take k).Pairwise aB.lt) (l.length-1)
  ⟨1,_,rfl,rfl,by omega,by omega,by simp,by simp,?_⟩ ?_
 ·cases l with
  | nil=>simp| cons x r=>simp
 rintro n s ⟨k,t,rfl,rfl,i6,i7,B,E,hp⟩ ih;apply au;apply ai;simp [B,E,F.len];by_cases u:k<l.length
 case neg=>
  refine aF (by simp [u]) ?_;refine bh (k':=[.code nz]) rfl ?_;apply ai;simp [B];refine aE (hQ _ _ _ rfl (dB (by simp)) ⟨l,[],rfl,Fm.refl _,by simpa using F,anl _,?_,fun _=>Iff.rfl⟩);rwa [anA (by omega)]at hp
 refine av (by simp [u]) (aR ?_);obtain⟨m,rfl⟩:∃ m,k=m+1:=⟨k-1,by omega⟩
 have ix:∀ {H:an} {rows:List (List FC)} (F:RB H b 3 A rows) (o n i:Nat) (hi:i<n),bC H 3 ab (.c (.sl b o n 0 A 3)) (vi i)=aa (.c (.ptr b (o+i*3) A)):=by
  intro H rows F o n i hi;have:=F.idx (n:=n) (c:=0) (k:=.i64) (o:=o) (i:=(i:Int)) (by omega) (by omega);rwa [anJ]at this
 have i1:=ix F 0 l.length (m+1) u;have i0:=ix F 0 l.length m (by omega);have l1:=F.ldr (bw _) (cD (l:=l) (j:=m+1) u);have l0:=F.ldr (bw _) (cD (l:=l) (j:=m) (by omega));rw [aoa]at i1 i0;have c1:((m+1:Nat):Int)-1=m:=by omega
 rw [show((m+1:Nat):Int)=(m:Int)+1 by omega]at i1;have c_:l.take (m+1+1)=l.take (m+1)++[l[m+1]]:=by rw [anu,By u];rfl
 apply au;refine ay ?_;apply ai;simp [B,E,i1,i0,l1,l0,-az,aP (n:=(m:Int)),aB.row];cases hc:(l[m+1].day == l[m].day&&(l[m+1].fr == l[m].fr&&l[m+1].to == l[m].to))
 ·
  refine aF (by simp) (aR (ax ?_));refine aq (.inl rfl) ?_;simp [E,aP (n:=(m:Int)+1+1)];refine ih (l.length-(m+2)) _ (by omega) ⟨m+2,_,rfl,rfl,by omega,by omega,by simp [B],by simp;omega,?_⟩;show(l.take (m+1+1)).Pairwise aB.lt;have N:l[m]≠l[m+1]:=fun e=>by
   have:eqB l[m+1] l[m]=ae:=su.2 e.symm;rw [eqB,hc]at this;cases this
  rw [c_,an9];refine⟨hp,an1 _ _,fun y hy z hz=>?_⟩;obtain rfl:=OF.1 hz;obtain⟨i,hi,rfl⟩:=anB hy;have i4:i<m+1:=by simp at hi;omega
  rw [List.getElem_take];by_cases e:i=m
  ·subst e;exact VV (Dt hs (by omega) u) N
  ·exact aB.lt_trans (y:=l[m]) (by
    have h1:=anP.1 hp i m (by simp;omega) (by simp;omega) (by omega);simpa using h1) (VV (Dt hs (by omega) u) N)
 ·
  have f7:l[m+1]=l[m]:=su.1 hc;have c2:((m+1:Nat):Int)=(m:Int)+1:=by omega
  have O:=F.lI (k:=m+1) u;rw [c2]at O;refine av (by simp) ?_;apply ai;simp [B,E,O];apply au;apply ai;simp;refine ay ?_;refine bI (fun n s=>∃(i:Nat) (t:T) (I:an) (P R:List aB),s=⟨t,[],I⟩∧n=l.length-(m+2+i)∧m+2+i≤l.length∧t.g 0=.c (.sl b 0 l.length 0 A 3)∧t.g 3=vi P.length∧t.g 4=.c (.sl b ((m+1)*3) (l.length-(m+1)) 0 A 3)∧t.g 5=vi ((i:Int)+1) ∧
   Fm b H I∧RB I b 3 A (aD (P++R))∧(P++R).length=l.length∧1≤P.length∧P.length≤m+1+i∧(∀ q,m+1+i≤q→(P++R)[q]?=l[q]?)∧P.Pairwise aB.lt∧∀ x,x ∈ P↔x ∈ l.take (m+2+i)) (l.length-(m+2))
   ⟨0,_,H,l.take (m+1),l.drop (m+1),rfl,rfl,by omega,by simp [B],by simp [E];omega,by simp,by simp,Fm.refl _,by simpa using F,by simp,by simp;omega,by simp;omega,by simp,hp,fun x=>?_⟩ ?_
  ·show x ∈ l.take (m+1)↔x ∈ l.take (m+1+1);rw [c_,anm,OF];refine⟨.inl,fun h=>h.elim id fun e=>?_⟩;rw [e,f7];exact an0.2 ⟨m,by omega,rfl⟩
  rintro n s ⟨i,t,I,P,R,rfl,rfl,hi,B,E,U,W,J,d,v,X,d9,hq,L,g⟩ i3;have Y:=d.len (o:=(m+1)*3) (l:=l.length-(m+1)) (c:=0);apply au;apply ai;simp [U,W,Y];by_cases K:m+2+i<l.length
  case neg=>
   have a_:m+2+i=l.length:=by omega
   refine aF (by simp;omega) ?_;refine bh (k':=[.code qG,.inBlock 1,.code qH,.inLoop qF,.inBlock 0,.code nz]) rfl ?_;have a8:P.length<l.length:=by omega
   obtain⟨H3,e_,a7,f8⟩:=d.clr (bw _) (zs:=[fi 0,fi 0,fi 0]) (by simpa using v) a8 rfl;have O:=d.lI a8;apply ai;simp [B,E,O,e_];have h_:=a7.A9 (n:=l.length) (k:=P.length) (by omega) (by omega);apply ai;simp [B,E,h_];have e3:(aD (P++R)).take P.length++List.replicate (l.length-P.length) [fi 0,fi 0,fi 0]=aD (P++List.replicate (l.length-P.length) ⟨0,0,0⟩):=by
    simp [aD,aB.row]
   rw [e3]at a7;refine aE (hQ _ _ _ rfl (dB (by simp)) ⟨P,_,rfl,J.trans f8,a7,by omega,L,fun x=>?_⟩);rw [g,a_,ant]
  have ha:(P++R)[m+2+i]?=aa l[m+2+i]:=by rw [hq _ (by omega),By K]
  have d_:(P++R)[m+1+i]?=aa (l[m+1+i]'(by omega)):=by rw [hq _ (by omega),By]
  have j1:=ix d ((m+1)*3) (l.length-(m+1)) (i+1) (by omega);have j0:=ix d ((m+1)*3) (l.length-(m+1)) i (by omega);rw [show(m+1)*3+(i+1)*3=(m+2+i)*3 by omega,show((i+1:Nat):Int)=(i:Int)+1 by omega]at j1;rw [show(m+1)*3+i*3=(m+1+i)*3 by omega]at j0;have d1:=d.ldr (bw _) (pH ha);have d0:=d.ldr (bw _) (pH d_);refine av (by simp;omega) (aR ?_);apply au;refine ay ?_;apply ai;simp [U,W,j1,j0,d1,d0,-az,aP (n:=(i:Int)),aB.row];have S:l.take (m+2+(i+1))=l.take (m+2+i)++[l[m+2+i]]:=by
   rw [show m+2+(i+1)=m+2+i+1 by omega,anu,By K];rfl
  have next:∀(t:T) (I:an) (P R:List aB),t.g 0=.c (.sl b 0 l.length 0 A 3)→t.g 3=vi P.length→t.g 4=.c (.sl b ((m+1)*3) (l.length-(m+1)) 0 A 3)→t.g 5=vi ((i:Int)+1) →
    Fm b H I→RB I b 3 A (aD (P++R))→(P++R).length=l.length→1≤P.length→P.length≤m+2+i→(∀ q,m+2+i≤q→(P++R)[q]?=l[q]?)→P.Pairwise aB.lt→(∀ x,x ∈ P↔x ∈ l.take (m+2+(i+1))) →
    WP tab 30 ab [.inBlock 3,.code vG,.inLoop vF,.inBlock 2,.code qG,.inBlock 1,.code qH,.inLoop qF,.inBlock 0,.code nz] ⟨t,[],I⟩ Q:=by
   intro t I P R B E U W J d v X d9 hq L g;refine ax (aq (.inl rfl) ?_);simp [W,aP (n:=(i:Int)+1+1)];exact i3 (l.length-(m+2+(i+1))) _ (by omega) ⟨i+1,_,I,P,R,rfl,rfl,by omega,by simp [B],by simp [E],by simp [U],by simp,J,d,v,X,by omega,fun q h=>hq q (by omega),L,g⟩
  have f_:(l[m+1+i]'(by omega)).le l[m+2+i]:=Dt hs (by omega) K;cases M:(l[m+2+i].day == l[m+1+i].day&&(l[m+2+i].fr == l[m+1+i].fr&&l[m+2+i].to == l[m+1+i].to))
  ·have N:l[m+1+i]≠l[m+2+i]:=fun e=>by
    have:eqB l[m+2+i] l[m+1+i]=ae:=su.2 e.symm;rw [eqB,M]at this;cases this
   have c9:=VV f_ N;have kx:=ix d 0 l.length P.length (by omega);rw [aoa]at kx;obtain⟨H3,s3,r3,f3,-⟩:=d.str (bw _) (j:=P.length) (by rw [iV,v];omega) (row:=(l[m+2+i]).row) rfl;rw [xW]at r3;obtain⟨x0,R',rfl⟩:∃ x0 R',R=x0::R':=by
    cases R with
    | nil=>simp at v;omega| cons x0 R'=>exact⟨_,_,rfl⟩
   rw [sG]at r3;have Z:¬l[m+2+i].day=l[m+1+i].day∨¬l[m+2+i].fr=l[m+1+i].fr∨¬l[m+2+i].to=l[m+1+i].to:=by
    simp at M;omega
   refine av (by simpa using Z) ?_;apply ai;simp only [aB.row,ano,List.map_nil]at s3;simp [B,E,U,W,j1,d1,kx,s3,-az,-a6,aB.row];refine aq (.inl rfl) ?_;simp [E,aP (n:=(P.length:Int)+1)];have e5:P++l[m+2+i]::R'=(P++[l[m+2+i]])++R':=by simp
   rw [e5]at r3;refine next _ H3 (P++[l[m+2+i]]) R' (by simp [B]) (by simp) (by simp [U]) (by simp [W]) (J.trans f3) r3 (by simpa using v) (by simp) (by simp;omega) (fun q h=>?_) ?_ fun x=>?_
   ·rw [←e5,←sG P x0,sh (by omega)];exact hq q (by omega)
   ·rw [an9];refine⟨L,an1 _ _,fun y hy z hz=>?_⟩;obtain rfl:=OF.1 hz;obtain⟨q,g_,rfl⟩:=anB ((g y).1 hy);have i8:q<m+2+i:=by simp at g_;omega
    rw [List.getElem_take];by_cases e:q=m+1+i
    ·subst e;exact c9
    ·have h1:=Dt hs (i:=q) (j:=m+1+i) (by omega) (by omega);unfold aB.le aB.lt at *;omega
   ·rw [S,anm,anm,g]
  ·have b_:l[m+2+i]=l[m+1+i]:=su.1 M;have Z:l[m+2+i].day=l[m+1+i].day∧l[m+2+i].fr=l[m+1+i].fr∧l[m+2+i].to=l[m+1+i].to:=by simpa using M
   refine aF (by simpa using Z) (aR ?_);refine next _ I P R (by simp [B]) (by simp [E]) (by simp [U]) (by simp [W]) J d v X (by omega) (fun q h=>hq q (by omega)) L fun x=>?_
   rw [S,anm,OF,g];refine⟨.inl,fun h=>h.elim id fun e=>?_⟩;rw [e,b_];exact an0.2 ⟨m+1+i,by omega,rfl⟩
structure lO(ps:List aI):Prop where
 l1:1≤ps.length
 l2:ps.length≤64
 mod:∀ p ∈ ps,Mod p
 prod:eA ps≤1000000
 st:cN ps≤1000000000000
theorem lO.aL{ps:List aI}(h:lO ps):∀ p ∈ ps,cL p=ae:=fun p b=>(h.mod p b).ok
def Jv(ps:List aI)(n x:Int):Prop:=n≤x∧uU ps x=ae
theorem im{ps:List aI}{x:Int}(b:0≤x):uU ps x=ae↔∀ p ∈ ps,bK p x=ae:=by
 simp [uU,hasB,b]
theorem rj{x:Int}:∀ {l:List aI},0≤x→x<cN l→∃ p ∈ l,x<p.fr
 | [],b,h=>by simp only [cN]at h;omega
 | q::l,b,h=>by
  simp only [cN]at h;by_cases k:x<q.fr
  ·exact⟨q,anr,k⟩
  ·obtain⟨p,d,e⟩:=rj (x:=x) (l:=l) b (by omega);exact⟨p,anp _ d,e⟩
theorem Ar{ps:List aI}(h:lO ps){n x:Int}(l:0≤n)(m:cN ps≤x):Jv ps n x↔max n (cN ps)≤x∧∀ p ∈ ps,iC p x:=by
 have j:=nP ps;unfold Jv;rw [im (by omega)];constructor
 ·rintro⟨g,d⟩;exact⟨by omega,fun p b=>(pY (h.mod p b) (by have:=nO b;omega)).1 (d p b)⟩
 ·rintro⟨g,d⟩;exact⟨by omega,fun p b=>(pY (h.mod p b) (by have:=nO b;omega)).2 (d p b)⟩
theorem D3(g:Tg)(ps:List aI)(h:lO ps)(n:Int)(J:0≤n)(W:n≤1000000000000):∃ d f q z,eF (Jv ps n) d f∧(0≤d∧d≤1000001000000) ∧
  bW tab 107 [.c (.f (sl g (aJ ps))),vi n]=Eq (.t [vi q,vb z]) ∧
  ((z=ae∧d=q∧f=ae)∨(z=ag∧q=0∧∃ b,bW tab 78 [.c (.f (sl g (aJ ps)))]=Eq (vb b)∧((b=ag∧d=0∧f=ag)∨(b=ae∧bW tab 108 [.c (.f (sl g (aJ ps))),vi n]=Eq (.t [vi d,vb f]))))):=by
 obtain⟨q,z,U,A⟩:=Ai g ps h.aL h.l2 n;have Y:=nP ps;have Z:=h.st;have X:=h.prod;have u:∀ x,Jv ps n x→x<cN ps→iO ps n ps x:=by
  rintro x ⟨N,H⟩ l;obtain⟨p,y,S⟩:=rj (by omega) l;refine⟨N,H,p,y,?_⟩;have:=(im (by omega)).1 H p y;unfold bK at this;rw [aT (by omega),decide_eq_true_eq]at this;exact this
 rcases U with⟨rfl,rfl,F⟩ | ⟨rfl,O,v⟩
 ·have B:∀ x,Jv ps n x→cN ps≤x:=fun x l=>by
   rcases aoH x (cN ps)with k | k
   ·exact absurd (u x l k) (F x)
   ·exact k
  have j:∀ x,Jv ps n x↔max n (cN ps)≤x∧∀ p ∈ ps,iC p x:=fun x=>by
   constructor
   ·intro l;exact(Ar h J (B x l)).1 l
   ·intro l;exact(Ar h J (by omega)).2 l
  obtain⟨b,I,m⟩:=wW g ps h.mod h.l1 h.l2;cases b with
  | false=>
   refine⟨0,ag,0,ag,.inl ⟨rfl,rfl,fun x l=>?_⟩,⟨by omega,by omega⟩,A,.inr ⟨rfl,rfl,ag,m,.inl ⟨rfl,rfl,rfl⟩⟩⟩;have:=I.2 (yE (d:=x) ps [] (by simp) ((j x).1 l).2);cases this
  | true=>
   rcases aco g ps h.mod h.l2 h.prod n _ rfl (by omega)with⟨d,⟨K,L,d3,M⟩,E⟩ | ⟨s,E⟩
   ·exact⟨d,ae,0,ag,.inr ⟨rfl,(j d).2 ⟨K,L⟩,fun x l=>M x ((j x).1 l).1 ((j x).1 l).2⟩,⟨by omega,by omega⟩,A,.inr ⟨rfl,rfl,ae,m,.inr ⟨rfl,E⟩⟩⟩
   ·exact⟨0,ag,0,ag,.inl ⟨rfl,rfl,fun x l=>s x ((j x).1 l).1 ((j x).1 l).2⟩,⟨by omega,by omega⟩,A,.inr ⟨rfl,rfl,ae,m,.inr ⟨rfl,E⟩⟩⟩
 ·obtain⟨s1,s2,p,y,Q⟩:=O;have I:=(aY (h.aL p y)).2.2.2.2.2.2.1 q Q;have:=nO y;refine⟨q,ae,q,ae,.inr ⟨rfl,⟨s1,s2⟩,fun x l=>?_⟩,⟨by omega,by omega⟩,A,.inl ⟨rfl,rfl,rfl⟩⟩;rcases aoH x (cN ps)with k | k
  ·exact v x (u x l k)
  ·omega
theorem eF.join{S q s:Int→Prop}{l x:Int}{f m:Bool}(h1:eF q l f)(h2:eF s x m)(g:∀ d,S d↔q d∨s d):eF S (if m=ae∧(f=ag∨x<l)then x else l) (f||m):=by
 rcases h1 with⟨rfl,rfl,a⟩ | ⟨rfl,a,b⟩<;>rcases h2 with⟨rfl,rfl,c⟩ | ⟨rfl,c,e⟩
 ·refine .inl ⟨rfl,by simp,fun d j=>?_⟩;rcases(g d).1 j with h | h
  ·exact a d h
  ·exact c d h
 ·refine .inr ⟨rfl,by simpa using (g x).2 (.inr c),fun d j=>?_⟩;rcases(g d).1 j with h | h
  ·exact absurd h (a d)
  ·simpa using e d h
 ·refine .inr ⟨rfl,by simpa using (g l).2 (.inl a),fun d j=>?_⟩;rcases(g d).1 j with h | h
  ·simpa using b d h
  ·exact absurd h (c d)
 ·refine .inr ⟨rfl,?_,fun d j=>?_⟩
  ·by_cases k:x<l
   ·simpa [k]using (g x).2 (.inr c)
   ·simpa [k]using (g l).2 (.inl a)
  ·rcases(g d).1 j with h | h
   ·have:=b d h;by_cases k:x<l<;>simp [k]<;>omega
   ·have:=e d h;by_cases k:x<l<;>simp [k]<;>omega
def QH(H:an)(n b:Int)(found:Bool):Prop:=H[0]?=aa (.box [.f (fi n)] 0)∧H[1]?=aa (.box [.f (fi b)] 0)∧H[2]?=aa (.box [.f (.bool found)] 0)∧H[3]?=aa (.eo ae) ∧
 ∃ s:T,H[4]?=aa (.lp 69 s [P.nat 12] bU bJ .ready ab 3)∧s.g 3=.c (.ptr 0 0 0)∧s.g 6=.c (.ptr 1 0 0)∧s.g 7=.c (.ptr 2 0 0)
theorem Ax(g:Tg)(ps:List aI)(h:lO ps)(n:Int)(hn:0≤n)(a8:n≤1000000000000):∃ d f,eF (Jv ps n) d f∧(0≤d∧d≤1000001000000)∧∀ H j found,QH H n j found →
  ∃ r H',Ev tab (.yield 4) [.c (.f (sl g (aJ ps)))] H r H'∧(r=vb ae∧QH H' n (if f=ae∧(found=ag∨d<j)then d else j) (found||f)):=by
 obtain⟨d,f,e0,f0,hm,hd,he,Y⟩:=D3 g ps h n hn a8;refine⟨d,f,hm,hd,?_⟩;rintro H j found ⟨h0,h1,h2,h3,s,X,v,J,K⟩;refine dr (tab:=tab) (b:=4) X rfl fun W L=>?_;have a7:=aj X;have E:∀(t:T) (l:an),l[0]?=aa (.box [.f (fi n)] 0)→l[1]?=aa (.box [.f (fi j)] 0)→l[2]?=aa (.box [.f (.bool found)] 0)→l[3]?=aa (.eo ae)→l[4]?=aa (.lp 69 s [P.nat 12] bU bJ .busy ab 3) →
   t.g 3=.c (.ptr 0 0 0)→t.g 6=.c (.ptr 1 0 0)→t.g 7=.c (.ptr 2 0 0)→t.g 9=vi d→t.g 10=vb f→WP tab 69 (aa 4) [.code sN,.inBlock 1] ⟨t,[],l⟩ W:=by
  rintro t l q0 N A q3 U e3 F y I u;have l1:=aj N;have l2:=aj A;have ba:(f=ae∧(found=ag∨d<j)→False)→QH (l.set 4 (.lp 69 s [P.nat 12] bU bJ .ready ab 3)) n (if f=ae∧(found=ag∨d<j)then d else j) (found||f):=by
   intro x;have Z:(found||f)=found:=by
    cases f<;>cases found<;>simp at x ⊢
   rw [aT x,Z];exact⟨by rw [sh (by decide)];exact q0,by rw [sh (by decide)];exact N,by rw [sh (by decide)];exact A,by rw [sh (by decide)];exact q3,s,BY (aj U),v,J,K⟩
  have a_:(l.set 1 (.box [.f (fi d)] 0))[2]?=aa (.box [.f (.bool found)] 0):=by rw [sh (by decide)];exact A
  have M:(f=ae∧(found=ag∨d<j))→QH (((l.set 1 (.box [.f (fi d)] 0)).set 2 (.box [.f (.bool ae)] 0)).set 4 (.lp 69 s [P.nat 12] bU bJ .ready ab 3)) n (if f=ae∧(found=ag∨d<j)then d else j) (found||f):=by
   intro m;have Z:(found||f)=ae:=by rw [m.1];simp
   rw [bf m,Z];refine⟨?_,?_,?_,?_,s,BY (by simp;exact aj U),v,J,K⟩
   ·rw [sh (by decide),sh (by decide),sh (by decide)];exact q0
   ·rw [sh (by decide),sh (by decide),BY l1]
   ·rw [sh (by decide),BY (by simpa using l2)]
   ·rw [sh (by decide),sh (by decide),sh (by decide)];exact q3
  have done:∀ B:T,(f=ae∧(found=ag∨d<j)→False)→WP tab 69 (aa 4) [.inBlock 1] ⟨B,[],l⟩ W:=by
   intro B x;refine ax (cK (L _ _ _ _ _ _ _ _ _ _ rfl U ⟨rfl,?_⟩));have:=ba x;rw [show(l.set 4 (.lp 69 s [P.nat 12] bU bJ .ready ab 3))=l.set 4 (.lp 69 s [P.nat 12] bU bJ (if(ab:Option aw).isNone=ae then .ready else .done) ab 3) from rfl]at this;exact this
  have q:∀ B:T,B.g 6=.c (.ptr 1 0 0)→B.g 7=.c (.ptr 2 0 0)→B.g 9=vi d→(f=ae∧(found=ag∨d<j))→WP tab 69 (aa 4) [.code sO,.inBlock 1] ⟨B,[],l⟩ W:=by
   intro B F y I m;refine aq (.inr rfl) ?_;simp [F,y,I,N,A,a_];refine ax (cK (L _ _ _ _ _ _ _ _ _ _ rfl (by rw [sh (by decide),sh (by decide)];exact U) ⟨rfl,?_⟩));exact M m
  apply au;cases f with
  | false=>
   refine aq (.inr rfl) ?_;simp [y,u,A];refine aF (by simp) (aR (done _ (by simp)))
  | true=>
   cases found with
   | false=>
    refine aq (.inr rfl) ?_;simp [y,u,A];refine av (by simp) (q _ (by simp [F]) (by simp [y]) (by simp [I]) (by simp))
   | true=>
    by_cases k:d<j
    ·refine aq (.inr rfl) ?_;simp [F,y,I,u,N,A,k];refine av (by simp) (q _ (by simp [F]) (by simp [y]) (by simp [I]) (by simp [k]))
    ·refine aq (.inr rfl) ?_;simp [F,y,I,u,N,A,k];refine aF (by simp) (aR (done _ (by simp [k])))
 refine aq (.inr rfl) ?_;simp;refine fW X ?_;have b0:(H.set 4 (.lp 69 s [P.nat 12] bU bJ .busy ab 3))[0]?=aa (.box [.f (fi n)] 0):=by rw [sh (by decide)];exact h0
 have b1:(H.set 4 (.lp 69 s [P.nat 12] bU bJ .busy ab 3))[1]?=aa (.box [.f (fi j)] 0):=by rw [sh (by decide)];exact h1
 have O:(H.set 4 (.lp 69 s [P.nat 12] bU bJ .busy ab 3))[2]?=aa (.box [.f (.bool found)] 0):=by rw [sh (by decide)];exact h2
 have Q:(H.set 4 (.lp 69 s [P.nat 12] bU bJ .busy ab 3))[3]?=aa (.eo ae):=by rw [sh (by decide)];exact h3
 have S:(H.set 4 (.lp 69 s [P.nat 12] bU bJ .busy ab 3))[4]?=aa (.lp 69 s [P.nat 12] bU bJ .busy ab 3):=BY a7;generalize H.set 4 (.lp 69 s [P.nat 12] bU bJ .busy ab 3)=l at b0 b1 O Q S;refine ay ?_;refine au (aq (.inr rfl) ?_);simp [v,b0,he];apply au;rcases Y with⟨rfl,rfl,rfl⟩ | ⟨rfl,rfl,b,z,Y⟩
 ·refine au (aq (.inr rfl) ?_);simp;refine aX (by simp) ?_;exact E _ _ b0 b1 O Q S (by simp [v]) (by simp [J]) (by simp [K]) (by simp) (by simp)
 ·rcases Y with⟨rfl,rfl,rfl⟩ | ⟨rfl,hl⟩
  ·refine au (aq (.inr rfl) ?_);simp [v,b0,z,show n≤1152921504606846976 by omega];refine aX (by simp) ?_;exact E _ _ b0 b1 O Q S (by simp [v]) (by simp [J]) (by simp [K]) (by simp) (by simp)
  ·refine au (aq (.inr rfl) ?_);simp [v,b0,z,show n≤1152921504606846976 by omega];refine av (by simp) ?_;refine aq (.inr rfl) ?_;simp [v,b0,hl];exact E _ _ b0 b1 O Q S (by simp [v]) (by simp [J]) (by simp [K]) (by simp) (by simp)
theorem xh(x:FC):bW tab 77 [.c (.f x)]=Eq (.c (.f (.fn 119 [.fp [x] 0]))):=by
 refine bW.eq (cd rfl rfl fun Q b=>?_);apply ai;simp;apply ai;simp;refine aE (b _ _ ?_);simp [deep]
theorem xf{b:Nat}{H:an}(g:Tg)(ts:List cu)(L:ts.length≤1000000)(PP:Nat→an→Prop)(E:PP 0 H)
  (K:∀ j (q:j<ts.length) H,PP j H→∃ r H',Ev tab (.yield b) [.c (.f (sl ts[j].tg (aJ ts[j].fs)))] H r H'∧(r=vb ae∧PP (j+1) H')) :
  ∃ r A,Ev tab (.fn 119) [.c (.yl b),.c (.f (.fp [sl g (aA ts)] 0))] H r A∧(r=.t []∧PP ts.length A):=by
 refine cM rfl rfl fun Q I=>?_;apply ai;simp [rG];refine b7 ts.length (fun j s J=>s.g 0=.c (.yl b)∧s.g 5=.c (.f (sl g (aA ts)))∧PP j J) (by omega) (by decide) (by decide) (by simp) (by simp) ⟨by simp,by simp,E⟩ ?_ ?_
 ·rintro j s J q ⟨u,v,x⟩ y B next
  have m:=fun H:an=>gG (H:=H) (ft ts) (gr (l:=ts) (j:=j) q) rfl;have d:=fun H:an=>bG (H:=H) (g:=g) (rows:=aA ts) (sz:=1) (k:=.i64) (i:=j) (by omega) (by simpa using q);simp at m d;obtain⟨r,H',z,rfl,F⟩:=K j q J x;refine ay ?_;apply ai;simp [v,y,d,m];apply ai;simp [u,z.eq];refine aX (by simp) ?_;refine ax (next _ _ ?_ (by simp [y]) (by simp [B]));exact⟨by simp [u],by simp [v],F⟩
 ·rintro s J ⟨u,v,x⟩ y B;exact cK (I _ _ _ rfl rfl ⟨rfl,x⟩)
def qN(ts:List cu)(n x:Int):Prop:=∃ t ∈ ts,Jv t.fs n x
theorem VW(g:Tg)(ts:List cu)(K:ts.length≤1000000)(X:∀ t ∈ ts,lO t.fs)(n:Int)(Z:0≤n)(I:n≤1000000000000):∃ d f,eF (qN ts n) d f∧(0≤d∧d≤1000001000000) ∧
  bW tab 69 [.c (.f (.fn 119 [.fp [sl g (aA ts)] 0])),vi n]=Eq (.t [vi d,vb f]):=by
 have key:∃ r,(∃ d f,eF (qN ts n) d f∧(0≤d∧d≤1000001000000)∧r=.t [vi d,vb f])∧bW tab 69 [.c (.f (.fn 119 [.fp [sl g (aA ts)] 0])),vi n] r:=by
  refine qn ad3 rfl fun Q Y=>?_;have y:∀ s:T,s.g 3=.c (.ptr 0 0 0)→s.g 6=.c (.ptr 1 0 0)→s.g 7=.c (.ptr 2 0 0)→s.g 11=.c (.f (.fn 119 [.fp [sl g (aA ts)] 0])) →
    WP tab 69 ab [.code xu,.inBlock 0,.code sP] ⟨s,[],[.box [.f (fi n)] 0,.box [.f (fi 0)] 0,.box [.f (.bool ag)] 0]⟩ Q:=by
   intro s W M N z;obtain⟨r,v,U,rfl,l,found,⟨-,k,o,p,L,w,-⟩,q,O⟩:=xf (b:=4) (H:=[.box [.f (fi n)] 0,.box [.f (fi 0)] 0,.box [.f (.bool ag)] 0,.eo ae,.lp 69 s [P.nat 12] bU bJ .ready ab 3]) g ts K
    (fun j H=>∃ l found,QH H n l found∧eF (qN (ts.take j) n) l found∧(0≤l∧l≤1000001000000))
    ⟨0,ag,⟨rfl,rfl,rfl,rfl,s,rfl,W,M,N⟩,.inl ⟨rfl,rfl,fun d u=>by obtain⟨t,m,-⟩:=u;simp at m⟩,by omega,by omega⟩ fun j S H ⟨l,found,B,q,O⟩=>by
     obtain⟨d,f,F,u,a⟩:=Ax ts[j].tg ts[j].fs (X _ (IS S)) n Z I;obtain⟨r,H',E,rfl,A⟩:=a H l found B;have J:ts.take (j+1)=ts.take j++[ts[j]]:=by rw [anu,By S];rfl
     refine⟨_,H',E,rfl,_,_,A,eF.join q F fun x=>?_,?_⟩
     ·unfold qN;rw [J];constructor
      ·rintro⟨t,m,h⟩;rcases anm.1 m with m | m
       ·exact .inl ⟨t,m,h⟩
       ·rw [OF.1 m]at h;exact .inr h
      ·rintro(⟨t,m,h⟩ | h)
       ·exact⟨t,anO _ m,h⟩
       ·exact⟨_,aoo _ (OF.2 rfl),h⟩
     ·split<;>omega
   rw [ant]at q;refine dZ (g:=119) (by rw [oA,z];simp [bO]) U ?_;refine ff w (by decide) ?_;refine ax ?_;apply ai;have c:(v.set 4 (.lp 69 L [P.nat 12] bU bJ .exhausted ab 3))[1]?=aa (.box [.f (fi l)] 0):=by rw [sh (by decide)];exact k
   have e:(v.set 4 (.lp 69 L [P.nat 12] bU bJ .exhausted ab 3))[2]?=aa (.box [.f (.bool found)] 0):=by rw [sh (by decide)];exact o
   have i:(v.set 4 (.lp 69 L [P.nat 12] bU bJ .exhausted ab 3))[3]?=aa (.eo ae):=by rw [sh (by decide)];exact p
   simp [M,N,c,e];refine aE (Y _ _ _ ⟨l,found,q,O,rfl⟩ (.inr ⟨3,rfl,i,.t [vi l,vb found],?_,by simp [kM,dE,aZ]⟩));simp [Km.results,cr,aZ]
  apply ai;simp;apply ai;simp;apply au;apply ai;simp;refine ay ?_;exact y _ (by simp) (by simp) (by simp) (by simp)
 obtain⟨r,⟨d,f,q,u,rfl⟩,h⟩:=key;exact⟨d,f,q,u,h.eq⟩
theorem Dy(g:Tg)(ts:List cu)(j:iD ts=ae)(s:∀ t ∈ ts,lO t.fs)(n:Int)(z:0≤n)(l:n≤1000000000000):∃ d f,eF (qN ts n) d f∧(0≤d∧d≤1000001000000) ∧
  bW tab 44 [.a [.f (sl g (aA ts))],vi n]=Eq (.t [vi d,vb f]):=by
 obtain⟨F,m⟩:=nJ j;obtain⟨d,f,y,v,x⟩:=VW g ts (by omega) s n z l;refine⟨d,f,y,v,bW.eq (cd rfl rfl fun Q u=>?_)⟩;have b:=B' g ts (by omega) (fun t q=>⟨by have:=(fK (m t q)).2.1;omega,fun p A=>jF ((fK (m t q)).2.2 p A)⟩);rw [j]at b;have B:=xh (sl g (aA ts));have E:max n 0=n:=by omega
 apply ai;simp;apply au;apply ai;simp [b];refine aX (by simp) ?_;apply ai;simp [B,E,x];refine aE (u _ _ ?_);simp
theorem lK(j l m:FC)(len g d:Int)(v:0≤len)(q:len≤10080)(x:-4320≤g)(s:g≤4320) :
  bW tab 37 [.a [.f j,.f (fi len),.f l],.a [.f m,.f (fi g)],vi d]=Eq (vb (decide (d≤(2251799813685248-g-len) / 1440))):=Kf.eq (by
 refine dF rfl rfl fun H Q u=>?_;apply ai;simp;apply ai;simp [aP (n:=2251799813685248-g),aP (n:=2251799813685248-g-len),fH (a:=2251799813685248-g-len) (b:=1440) (by omega) (by omega) (by omega)];refine aE (u _ _ ?_);simp)
theorem abN(g j b:FC)(len d l m:Int):bW tab 25 [.a [.f g,.f (fi len),.f j],.a [.f b,.f (fi d)],.a [.f (fi l),.f (fi m)]] =
  Eq (.c (.f (.fn 62 [.fp [fi l,fi m] 0,.fp [g,fi len,j] 0,.fp [b,fi d] 0]))):=by
 refine bW.eq (cd rfl rfl fun Q q=>?_);apply ai;simp;apply ai;simp;refine aE (q _ _ ?_);simp [deep]
structure zK(ts:List cu):Prop where
 v:iD ts=ae
 f:∀ t ∈ ts,lO t.fs
structure ajM(len mi wf wt:Int):Prop where
 l0:1≤len
 l1:len≤10080
 m0:-4320≤mi
 m1:mi≤4320
 f0:-10000000000≤wf
 w:wf≤wt
 t1:wt≤10000000000
def n0I(len b d:Int):Int:=max 0 ((d-len-b) / 1440+1)
def zI(ts:List cu)(g b j d:Int):Prop:=qN ts g d∧d*1440+b<j
theorem lu{ts:List cu}{n m x:Int}(h:n≤m)(d:m≤x):qN ts n x↔qN ts m x:=by
 unfold qN Jv;constructor
 ·rintro⟨t,b,-,e⟩;exact⟨t,b,d,e⟩
 ·rintro⟨t,b,-,e⟩;exact⟨t,b,by omega,e⟩
theorem abM{b:Nat}{H:an}{PP:List Int→an→Prop}(g:Tg)(ts:List cu)(W:zK ts)(s0 s2:FC)(len q B E:Int)(hw:ajM len q B E)(u:Int)(hn:u=n0I len q B)(h0:PP [] H)
  (w:∀ l d H,PP l H→u≤d→d*1440+q<E→(l.length:Int)≤d-u→∃ H',Ev tab (.yield b) [vi d] H (vb ae) H'∧PP (l++[d]) H') :
  ∃ r H',Ev tab (.fn 62) [.c (.yl b),.c (.f (.fp [fi B,fi E] 0)),.c (.f (.fp [s0,fi len,s2] 0)),.c (.f (.fp [sl g (aA ts),fi q] 0))] H r H' ∧
   (r=.t []∧∃ l,PP l H'∧l.Pairwise (· < ·)∧∀ d,d ∈ l↔zI ts u q E d):=by
 obtain⟨c_,d9,d_,e_,b_,c9,f8⟩:=hw;refine cM rfl rfl fun Q hQ=>?_;have c:=jW (B-len-q) (by omega) (by omega);have I:=fun d=>lK s0 s2 (sl g (aA ts)) len q d (by omega) (by omega) (by omega) (by omega);have o:max 0 ((B-len-q) / 1440+1)=u:=hn.symm;have f7:0≤u∧u≤8000000:=by rw [hn];unfold n0I;omega
 have i:∀ x,qN ts u x→u≤x:=fun x ⟨t,_,h,_⟩=>h;apply ai;simp [rG,aP (n:=B-len),aP (n:=B-len-q),c,aP (n:=(B-len-q) / 1440+1),o];refine ay ?_;refine bI (fun m s=>∃(j:Int) (K:T) (J:an) (l:List Int),s=⟨K,[],J⟩∧(m:Int)=10000010-j∧u≤j∧j≤10000000∧K.g 0=.c (.yl b)∧K.g 1=.c (.f (.fp [fi B,fi E] 0))∧K.g 2=.c (.f (.fp [s0,fi len,s2] 0))∧K.g 3=.c (.f (.fp [sl g (aA ts),fi q] 0))∧K.g 5=vi j ∧
  PP l J∧l.Pairwise (· < ·)∧(∀ d ∈ l,d<j)∧(l.length:Int)≤j-u∧∀ d,d<j→(d ∈ l↔zI ts u q E d)) (10000010-u).toNat
  ⟨u,_,H,[],rfl,by omega,by omega,by omega,by simp,by simp,by simp,by simp,by simp,h0,by simp,by simp,by simp,fun d hd=>⟨fun h=>by simp at h,fun h=>by have:=i d h.1;omega⟩⟩ ?_
 rintro m s ⟨j,K,J,l,rfl,hm,M,a7,g0,Y,Z,X,g5,L,O,A,a_,F⟩ ih;obtain⟨d,f,v,⟨d0,d1⟩,p⟩:=Dy g ts W.v W.f j (by omega) (by omega);have U:d≤(2251799813685248-q-len) / 1440:=by omega
 refine ay ?_;apply ai;simp [X,g5,rG,p];apply au;have stop:(∀ e,¬ zI ts j q E e)→∀ d,d ∈ l↔zI ts u q E d:=by
  intro N e;by_cases z:e<j
  ·exact F e z
  ·exact⟨fun h=>absurd (A e h) z,fun h=>absurd ⟨(lu M (by omega)).1 h.1,h.2⟩ (N e)⟩
 rcases v with⟨rfl,rfl,N⟩ | ⟨rfl,hS,v⟩
 ·apply ai;simp;refine av (by simp) ?_;exact aE (hQ _ _ _ rfl rfl ⟨rfl,l,L,O,stop fun e h=>N e h.1⟩)
 ·have a8:j≤d:=by obtain⟨t,_,h,_⟩:=hS;exact h
  by_cases k:E≤d*1440+q
  ·apply ai;simp [Y,Z,X,rG,I,U,aP (n:=d*1440),aP (n:=d*1440+q),k];refine av (by simp) ?_;refine aE (hQ _ _ _ rfl rfl ⟨rfl,l,L,O,stop fun e h=>?_⟩);have:=v e h.1;have:=h.2;omega
  ·obtain⟨J',a,S⟩:=w l d J L (by omega) (by omega) (by omega);apply ai;simp [g0,Y,Z,X,rG,I,U,aP (n:=d*1440),aP (n:=d*1440+q),k,a.eq];refine aX (by simp) ?_;refine aq (.inl rfl) ?_;simp [aP (n:=d+1)];refine ax (ih (10000010-(d+1)).toNat _ (by omega) ⟨d+1,_,J',l++[d],rfl,by omega,by omega,by omega,by simp [g0],by simp [Y],by simp [Z],by simp [X],by simp,S,?_,fun e z=>?_,by simp;omega,fun e z=>?_⟩)
   ·rw [an9];exact⟨O,an1 _ _,fun x hx y w=>by obtain rfl:=OF.1 w;have:=A x hx;omega⟩
   ·rcases anm.1 z with z | z
    ·have:=A e z;omega
    ·obtain rfl:=OF.1 z;omega
   ·rw [anm,OF];by_cases hc:e<j
    ·rw [F e hc];exact⟨fun h=>h.elim id fun h=>absurd h (by omega),.inl⟩
    ·refine⟨fun h=>?_,fun h=>.inr ?_⟩
     ·rcases h with h | rfl
      ·exact absurd (A e h) hc
      ·exact⟨(lu M (by omega)).2 hS,by omega⟩
     ·have:=v e ((lu M (by omega)).1 h.1);omega
def iQ:bV→Bool
 | .cS _ _ _ _ _=>ag| _=>ae
def LI(H:an)(c:C)(o:List aB):Prop:=(o=[]∧c=.f .aC)∨(o≠[]∧∃ b d,c=.sl b 0 o.length 0 d 3∧RB H b 3 d (aD o))
theorem LI.push{H:an}{c:C}{o:List aB}(h:LI H c o)(J:an):LI (H++J) c o:=by
 rcases h with h | ⟨h,b,d,h1,h2⟩
 ·exact .inl h
 ·exact .inr ⟨h,b,d,h1,h2.push J⟩
theorem LI.set{H:an}{c:C}{o:List aB}(h:LI H c o){i:Nat}{x:bV}(hi:H[i]?=aa x)(g:iQ x=ae)(y:bV):LI (H.set i y) c o:=by
 rcases h with h | ⟨h,b,d,h1,h2⟩
 ·exact .inl h
 ·refine .inr ⟨h,b,d,h1,?_⟩;unfold RB at h2 ⊢;have:i≠b:=by rintro rfl;rw [h2]at hi;cases hi;cases g
  rw [sh this];exact h2
theorem uV(o:List aB)(x:aB):(aD (o++[x])).flatten=(aD o).flatten++x.row:=by simp [aD]
theorem LI.app{H:an}{c:C}{o:List aB}(h:LI H c o)(hl:o.length≤1000000){b1 fl:Nat}{x:aB}(q:H[b1]?=aa (.box (x.row.map .f) fl)) :
  ∃ s H',bF H 3 24 (.c c) (.c (.sl b1 0 1 1 0 3))=aa (.c s,H')∧LI H' s (o++[x])∧H.length≤H'.length∧∀(i:Nat) y,H[i]?=aa y→iQ y=ae→H'[i]?=aa y:=by
 have g:de H 3 (.c (.sl b1 0 1 1 0 3))=aa (1,x.row.map .f):=nC q (by rfl);rcases h with⟨rfl,rfl⟩ | ⟨v,b,l,rfl,h2⟩
 ·have d:cR 1 24=ae:=by simp [cR]
  refine⟨.sl H.length 0 1 0 0 3,H++[.cS 3 (x.row.map .f) 0 0 .loc],?_,.inr ⟨by simp,H.length,0,by simp,?_⟩,by simp,fun i y hy _=>by rw [AT (aj hy)];exact hy⟩
  ·simp [bF,g,d]
  ·unfold RB;simp [aD]
 ·have d:cR (o.length+1) 24=ae:=by simp [cR];omega
  have j:o.length*3=(aD o).flatten.length:=by rw [cC (bw o),iV]
  unfold RB at h2;refine⟨.sl b 0 (o.length+1) 0 (l+1) 3,H.set b (.cS 3 ((aD o).flatten.map .f++x.row.map .f) 0 (l+1) .loc),?_,.inr ⟨by simp,b,l+1,by simp,?_⟩,by simp,fun i y hy u=>?_⟩
  ·have m:(3:Nat)≠0:=by decide
   simp only [bF,g,m,if_false,h2,and_self,if_true];simp only [Nat.add_one_ne_zero,if_false];rw [bf ⟨trivial,by rw [anq];exact j,by omega⟩,d];simp
  ·unfold RB;rw [BY (aj h2),uV,aop]
  ·have:b≠i:=by rintro rfl;rw [h2]at hy;cases hy;cases u
   rw [sh this];exact hy
theorem ajF{H:an}{b d n:Nat}{l R:List aB}(h:RB H b 3 d (aD (l++R))):eL (n+1) H (.sl b 0 l.length 0 d 3)=aa (sl .fs (aD l)):=by
 unfold RB at h;have g:l.length*3=(aD l).flatten.length:=by rw [cC (bw l),iV]
 have e:(aD (l++R)).flatten=(aD l).flatten++(aD R).flatten:=by simp [aD]
 simp only [jz,h];rw [bf ⟨trivial,trivial,by rw [anq,e,ank];omega⟩,e,aod,aop,List.take_append_of_le_length (by rw [anq];omega),anA (by rw [anq];omega)];rw [ld];cases l with
 | nil=>simp [sl,aD,Tg.fc]| cons x l=>simp [sl,aD]
theorem Af{H:an}:∃ r H',Ev tab (.fn 30) [.c (.f .aC)] H r H'∧(r=.c (.f .aC)∧H'=H):=by
 refine cM rfl rfl fun Q b=>?_;apply ai;simp;apply au;apply ai;simp [bu];refine av (by simp) ?_;apply ai;simp;exact aE (b _ _ _ rfl (dB (by simp)) ⟨rfl,rfl⟩)
def oL:List Nat→an→an
 | [],H=>H| b::bs,H=>oL bs (H.set b (.eo ag))
structure eb(bs:List Nat)(H:an):Prop where
 nd:bs.Nodup
 on:∀ b ∈ bs,H[b]?=aa (.eo ae)
theorem ow{call:dy}:∀ {bs:List Nat} {H:an},eb bs H→en call (bs.map .dN) H=aa (oL bs H)
 | [],H,_=>rfl
 | b::bs,H,h=>by
  have j:=h.on b anr;have d:=ao8.1 h.nd;simp only [ano,en,j,oL];exact ow ⟨d.2,fun x g=>by rw [sh (by rintro rfl;exact d.1 g)];exact h.on x (anp _ g)⟩
theorem iF:∀ {bs:List Nat} {H:an} {i:Nat},i ∉ bs→(oL bs H)[i]?=H[i]?
 | [],_,_,_=>rfl
 | b::bs,H,i,h=>by
  simp only [anK,not_or]at h;rw [oL,iF h.2,sh (Ne.symm h.1)]
def UX(b:List gU)(r:V)(s:St):Prop:=∃ bs,s.defs=bs.map .dN∧eb bs s.heap∧∃ d,Km.results s.aG (oL bs s.heap) b=aa d∧kM deep (oL bs s.heap) d=aa r
theorem ko{f:Nat}{args:List V}{S:V→Prop}{ps:List P}{b:List gU}{body:aw}(A:tab f=aa ⟨ps,b,body⟩)(y:args.length=ps.length)
  (h:∀ Q:Option aw→St→Prop,(∀ j s r,S r→UX b r s→Q j s)→WP tab f ab [.code body] ⟨cz ps args .e,[],[]⟩ Q):∃ r,S r∧bW tab f args r:=by
 have q:=h (fun _ s=>∃ r,S r∧UX b r s) fun _ _ r g l=>⟨r,g,l⟩
 obtain⟨n,m,d,j,s,g,r,z,bs,x,v,B,l,u⟩:=q;exact⟨r,z,B,oL bs s.heap,rC A y ⟨n,m,d,j,s,g,0,0,_,by rw [x];exact ow v,l,rfl⟩,u⟩
theorem eb.push{bs:List Nat}{H:an}(h:eb bs H)(J:an):eb bs (H++J):=⟨h.nd,fun b hb=>by rw [AT (aj (h.on b hb))];exact h.on b hb⟩
theorem eb.ba{bs:List Nat}{H H':an}(h:eb bs H)(d:∀(i:Nat) y,H[i]?=aa y→iQ y=ae→H'[i]?=aa y):eb bs H':=⟨h.nd,fun b hb=>d b _ (h.on b hb) rfl⟩
theorem eb.set{bs:List Nat}{H:an}(h:eb bs H){i:Nat}{y z:bV}(hi:H[i]?=aa y)(hy:y≠.eo ae):eb bs (H.set i z):=⟨h.nd,fun b hb=>by
 have:=h.on b hb;rw [sh (by rintro rfl;rw [this]at hi;cases hi;exact hy rfl)];exact this⟩
theorem eb.not{bs:List Nat}{H:an}(h:eb bs H){i:Nat}{y:bV}(hi:H[i]?=aa y)(hy:y≠.eo ae):i ∉ bs:=fun hb=>by
 have:=h.on i hb;rw [hi]at this;cases this;exact hy rfl
theorem kU:∀(l:List Int) (a k:Int),l.Pairwise (· < ·)→(∀ x ∈ l,a≤x∧x<a+k)→(l.length:Int)≤max k 0
 | [],_,_,_,_=>by simp;omega
 | x::l,a,k,g,h=>by
  have j:=h x anr;have b:=aoQ.1 g;have:=kU l (x+1) (a+k-x-1) b.2 fun y d=>⟨by have:=b.1 y d;omega,by have:=h y (anp _ d);omega⟩
  simp only [List.length_cons];omega
structure jx(s:aN):Prop where
 v:fZ s=ae
 cn:s.cs.length≤3
 cl:∀ c ∈ s.cs,zK c.ts
 xn:s.xs.length≤4
def vJ(s:aN)(b g:Int)(l:List cm)(x:aB):Prop:=∃ c ∈ l,∃ d,zI c.ts (n0I s.len c.min b) c.min g d∧x=cJ s.len c.min d
def U0(s:aN)(b d:Int)(x:aB):Prop:=vJ s b d s.cs x∨(x ∈ s.xs∧eQ x.fr x.to b d=ae)
theorem pk:∀ {l:List cm} {o:Option Int},dM o l=ae→∀ c ∈ l,iD c.ts=ae∧-4320≤c.min∧c.min≤4320
 | c::l,o,h,x,d=>by
  simp only [dM,If]at h;obtain⟨⟨⟨g,b⟩,-⟩,j⟩:=h;rcases anK.1 d with rfl | d
  ·unfold dn at b;simp at b;exact⟨g,b.1,b.2⟩
  ·exact pk j x d
theorem jx.len{s:aN}(h:jx s):1≤s.len∧s.len≤10080:=by
 have:=h.v;simp [fZ,dn]at this;omega
theorem jx.min{s:aN}(h:jx s){c:cm}(hc:c ∈ s.cs):-4320≤c.min∧c.min≤4320:=by
 have:=h.v;simp only [fZ,If]at this;exact(pk this.1.2 c hc).2
theorem na{ts:List cu}(h:iD ts=ae):∀ t ∈ ts,t.Sm:=fun t d=>by
 obtain⟨-,b⟩:=nJ h;exact⟨by have:=(fK (b t d)).2.1;omega,fun p g=>jF ((fK (b t d)).2.2 p g)⟩
theorem jx.sm{s:aN}(h:jx s):s.Sm:=by
 have h1:=h.cn;have h2:=h.xn;refine⟨by omega,by omega,fun c hc=>⟨?_,na (h.cl c hc).v⟩⟩;have:=(nJ (h.cl c hc).v).1;omega
theorem Dv(s:aN)(hs:jx s)(u v:Int)(p9:-10000000000≤u)(p_:v≤10000000000)(o_:u<v)(p8:v≤u+70000) :
  ∃ g L,(L.Pairwise aB.lt∧∀ x,x ∈ L↔U0 s u v x)∧L.length≤184∧bW tab 9 [.a (s.row.map .f),.a [.f (fi u),.f (fi v)]]=Eq (.t [.c (.f (sl g (aD L))),vi 0]):=by
 have key:∃ r,(∃ g L,(L.Pairwise aB.lt∧∀ x,x ∈ L↔U0 s u v x)∧L.length≤184∧r=.t [.c (.f (sl g (aD L))),vi 0])∧bW tab 9 [.a (s.row.map .f),.a [.f (fi u),.f (fi v)]] r:=by
  refine ko ajH rfl fun Q hQ=>?_;have p:=(jj s hs.sm).eq;rw [hs.v]at p;simp [aN.row]at p;have hF:∀ x y:aB,Kf tab 29 [.a (x.row.map .f),.a (y.row.map .f)] (vi (eM x y)):=AN;obtain⟨m_,n6⟩:=hs.len;have o5:=hs.cn;have q_:=hs.xn;have j7:∀(t:T) (bs:List Nat) (H:an) (c:C) (o:List aB),t.g 6=.c (.ptr 2 0 0)→H[2]?=aa (.box [c] 0)→LI H c o→o.length≤184→eb bs H→(∀ x,x ∈ o↔U0 s u v x) →
    WP tab 9 ab [.code zc] ⟨t,bs.map .dN,H⟩ Q:=by
   intro t bs H c o I B A c9 K m;rcases A with⟨rfl,rfl⟩ | ⟨o9,b,ep,rfl,a⟩
   ·obtain⟨r1,H1,e1,rfl,rfl⟩:=W5 (H:=H) (F:=29);obtain⟨r2,w,e2,rfl,rfl⟩:=Af (H:=H1);apply ai;simp [I,B,e1.eq];apply ai;simp [I,B,e2.eq];have S:(w.set 2 (.box [.f .aC] 0))[2]?=aa (.box [.f .aC] 0):=BY (aj B);apply au;apply ai;simp [I,S,bu];refine aX (by simp) ?_;apply ai;simp [I,S];refine aE (hQ _ _ _ ⟨.nil,[],⟨by simp,m⟩,by simp,rfl⟩ ⟨bs,rfl,K.set B (by simp),.t [.c (.f .aC),vi 0],by simp [Km.results,cr,aZ],by simp [kM,dE,aZ,sl,aD,Tg.fc]⟩)
   ·have f7:(2:Nat)≠b:=by rintro rfl;unfold RB at a;rw [B]at a;cases a
    have f8:b ∉ bs:=K.not a (by simp);obtain⟨r1,H1,e1,rfl,f1,l1,q1,q2,q3⟩:=adO hF (by omega) a;have ll:=q2.length_eq;rw [←ll]at e1 B;have S:=f1.get B f7;obtain⟨r2,w,e2,l2,R2,rfl,f2,w1,w2,w3,w4⟩:=Bw (by omega) q3 q1;have i7:=f2.get S f7;apply ai;simp [I,B,e1.eq];apply ai;simp [I,S,e2.eq,i7];have k3:(w.set 2 (.box [.sl b 0 l2.length 0 ep 3] 0))[2]?=aa (.box [.sl b 0 l2.length 0 ep 3] 0):=BY (aj i7);have i8:RB (w.set 2 (.box [.sl b 0 l2.length 0 ep 3] 0)) b 3 ep (aD (l2++R2)):=by
     unfold RB at w1 ⊢;rw [sh f7];exact w1
    have j_:eb bs w:=⟨K.nd,fun x hx=>f2.get (f1.get (K.on x hx) (by rintro rfl;exact f8 hx)) (by rintro rfl;exact f8 hx)⟩
    apply au;apply ai;simp [I,k3,i8.len];refine aF (by simp;omega) (aR ?_);apply ai;simp [I,k3];refine aE (hQ _ _ _ ⟨.fs,l2,⟨w3,fun x=>by rw [w4,q2.mem_iff,m]⟩,by omega,rfl⟩ ⟨bs,rfl,j_.set i7 (by simp),.t [.c (.sl b 0 l2.length 0 ep 3),vi 0],by simp [Km.results,cr,aZ],?_⟩);have j4:RB (oL bs (w.set 2 (.box [.sl b 0 l2.length 0 ep 3] 0))) b 3 ep (aD (l2++R2)):=by
     unfold RB at i8 ⊢;rw [iF f8];exact i8
    have:=ajF (n:=63) j4;simp [deep,kM,dE,aZ,this]
  have a7:∀(t:T) (bs:List Nat) (H:an) (c:C) (o:List aB),t.g 2=.c (.ptr 0 0 0)→t.g 3=.c (.ptr 1 0 0)→t.g 6=.c (.ptr 2 0 0)→H[0]?=aa (.box [C.f (sl s.cg (aQ s.cs)),C.f (fi s.len),C.f (sl s.xg (aD s.xs))] 0)→H[1]?=aa (.box [.f (fi u),.f (fi v)] 0)→H[2]?=aa (.box [c] 0)→LI H c o→o.length≤180 →
    eb bs H→(∀ x,x ∈ o↔vJ s u v s.cs x)→WP tab 9 ab [.code oT] ⟨t,bs.map .dN,H⟩ Q:=by
   intro t bs H c o M U I h0 N B A c9 K m;apply au;apply ai;simp [M,h0];refine b7 s.xs.length (fun j t H'=>t.g 2=.c (.ptr 0 0 0)∧t.g 3=.c (.ptr 1 0 0)∧t.g 6=.c (.ptr 2 0 0)∧t.g 64=.c (.f (sl s.xg (aD s.xs)))∧H'[1]?=aa (.box [.f (fi u),.f (fi v)] 0)∧eb bs H' ∧
    ∃ c o',H'[2]?=aa (.box [c] 0)∧LI H' c o'∧o'.length≤180+j∧∀ x,x ∈ o'↔vJ s u v s.cs x∨(x ∈ s.xs.take j∧eQ x.fr x.to u v=ae)) (by omega) (by decide) (by decide) (by simp) (by simp)
    ⟨by simp [M],by simp [U],by simp [I],by simp,N,K,c,o,B,A,by omega,by simpa using m⟩ ?_ ?_
   ·rintro j t H' hj ⟨M,U,I,a_,N,i6,c,o',B,A,c9,m⟩ ha hb next
    have J:=fun H:an=>cH (H:=H) (bw s.xs) (cD hj);have g_:=C9 s.xs[j].fr s.xs[j].to u v;have c_:s.xs.take (j+1)=s.xs.take j++[s.xs[j]]:=by rw [anu,By hj];rfl
    simp [aB.row]at J;refine ay ?_;apply ai;simp [a_,ha,bG,hj,J];have kN:(H'++[bV.box [.f (fi s.xs[j].day),.f (fi s.xs[j].fr),.f (fi s.xs[j].to)] 0])[H'.length]?=aa (.box [.f (fi s.xs[j].day),.f (fi s.xs[j].fr),.f (fi s.xs[j].to)] 0):=by simp
    have k1:(H'++[bV.box [.f (fi s.xs[j].day),.f (fi s.xs[j].fr),.f (fi s.xs[j].to)] 0])[1]?=aa (.box [.f (fi u),.f (fi v)] 0):=by rw [AT (aj N)];exact N
    have S:(H'++[bV.box [.f (fi s.xs[j].day),.f (fi s.xs[j].fr),.f (fi s.xs[j].to)] 0])[2]?=aa (.box [c] 0):=by rw [AT (aj B)];exact B
    have kL:=A.push [bV.box [.f (fi s.xs[j].day),.f (fi s.xs[j].fr),.f (fi s.xs[j].to)] 0];have kd:=i6.push [bV.box [.f (fi s.xs[j].day),.f (fi s.xs[j].fr),.f (fi s.xs[j].to)] 0];generalize o4:H'++[bV.box [.f (fi s.xs[j].day),.f (fi s.xs[j].fr),.f (fi s.xs[j].to)] 0]=X at kN k1 S kL kd ⊢;apply ai;simp [U,kN,k1,g_];cases O:eQ s.xs[j].fr s.xs[j].to u v
    ·refine aF (by simp) (aR (ax (next _ _ ?_ (by simp [ha]) (by simp [hb]))));refine⟨by simp [M],by simp [U],by simp [I],by simp [a_],k1,kd,c,o',S,kL,by omega,fun x=>?_⟩;rw [m,c_,anm,OF];refine⟨fun h=>h.elim .inl fun h=>.inr ⟨.inl h.1,h.2⟩,fun h=>h.elim .inl fun h=>?_⟩;rcases h.1 with h' | rfl
     ·exact .inr ⟨h',h.2⟩
     ·rw [O]at h;cases h.2
    ·obtain⟨c',w,e1,e2,e3,e4⟩:=(kL.push [.box [.f (fi s.xs[j].day),.f (fi s.xs[j].fr),.f (fi s.xs[j].to)] 0]).app (by omega) (b1:=X.length) (fl:=0) (x:=s.xs[j]) (by simp [aB.row]);have p1:=e4 _ _ (show(X++[bV.box [.f (fi s.xs[j].day),.f (fi s.xs[j].fr),.f (fi s.xs[j].to)] 0])[1]?=_ by rw [AT (aj k1)];exact k1) rfl;have p2:=e4 _ _ (show(X++[bV.box [.f (fi s.xs[j].day),.f (fi s.xs[j].fr),.f (fi s.xs[j].to)] 0])[2]?=_ by rw [AT (aj S)];exact S) rfl;have pd:=(kd.push [bV.box [.f (fi s.xs[j].day),.f (fi s.xs[j].fr),.f (fi s.xs[j].to)] 0]).ba e4;refine av (by simp) ?_;refine aq (.inl rfl) ?_;simp [I,kN,S,e1,p2];refine ax (next _ _ ?_ (by simp [ha]) (by simp [hb]));refine⟨by simp [M],by simp [U],by simp [I],by simp [a_],by rw [sh (by decide)];exact p1,pd.set p2 (by simp),c',o'++[s.xs[j]],BY (aj p2),e2.set p2 rfl _,by simp;omega,fun x=>?_⟩;rw [anm,OF,m,c_,anm,OF];constructor
     ·rintro((h | h) | rfl)
      ·exact .inl h
      ·exact .inr ⟨.inl h.1,h.2⟩
      ·exact .inr ⟨.inr rfl,O⟩
     ·rintro(h | ⟨h | h,h'⟩)
      ·exact .inl (.inl h)
      ·exact .inl (.inr ⟨h,h'⟩)
      ·exact .inr h
   ·rintro t H' ⟨M,U,I,a_,N,i6,c,o',B,A,c9,m⟩ - -;rw [ant]at m;exact j7 _ bs H' c o' (by simp [I]) B A (by omega) i6 fun x=>m x
  have Y:∀ t:T,t.g 2=.c (.ptr 0 0 0)→t.g 3=.c (.ptr 1 0 0)→t.g 6=.c (.ptr 2 0 0)→WP tab 9 ab [.code yX] ⟨t,[],[.box [C.f (sl s.cg (aQ s.cs)),C.f (fi s.len),C.f (sl s.xg (aD s.xs))] 0,.box [.f (fi u),.f (fi v)] 0,.box [.f .aC] 0]⟩ Q:=by
   intro t M U I;apply au;apply ai;simp [M];refine ay ?_;refine bI (fun n st=>∃(j:Nat) (t:T) (bs:List Nat) (H:an) (c:C) (o:List aB),st=⟨t,bs.map .dN,H⟩∧n=s.cs.length-j∧j≤s.cs.length∧t.g 2=.c (.ptr 0 0 0)∧t.g 3=.c (.ptr 1 0 0)∧t.g 6=.c (.ptr 2 0 0)∧t.g 44=.c (.f (sl s.cg (aQ s.cs)))∧t.g 45=vi s.cs.length∧t.g 46=vi j ∧
    H[0]?=aa (.box [C.f (sl s.cg (aQ s.cs)),C.f (fi s.len),C.f (sl s.xg (aD s.xs))] 0)∧H[1]?=aa (.box [.f (fi u),.f (fi v)] 0)∧H[2]?=aa (.box [c] 0)∧LI H c o∧o.length≤60*j∧eb bs H∧∀ x,x ∈ o↔vJ s u v (s.cs.take j) x) s.cs.length
    ⟨0,_,[],_,.f .aC,[],rfl,by omega,by omega,by simp [M],by simp [U],by simp [I],by simp,by simp,by simp,rfl,rfl,rfl,.inl ⟨rfl,rfl⟩,by simp,⟨by simp,by simp⟩,fun x=>⟨fun h=>by simp at h,fun⟨c,O,_⟩=>by simp at O⟩⟩ ?_
   rintro n st ⟨j,t,bs,H,c,o,rfl,rfl,hj,M,U,I,a8,Z,W,h0,N,B,A,c9,K,m⟩ ih;by_cases f:j<s.cs.length
   ·obtain⟨cl,e⟩:=aM (s.cs[j]);have d_:cl ∈ s.cs:=e▸IS f;have o0:=hs.min d_;have i_:=hs.cl cl d_;have J:=fun H:an=>cH (H:=H) (dh s.cs) (eU (l:=s.cs) (j:=j) f);have e_:=fun H:an=>bG (H:=H) (g:=s.cg) (rows:=aQ s.cs) (sz:=2) (k:=.i64) (i:=j) (by omega) (by simpa using f);rw [←e]at J;simp [cm.row]at J e_;have c_:s.cs.take (j+1)=s.cs.take j++[cl]:=by rw [anu,By f,e];rfl
    have h_:=abN (sl s.cg (aQ s.cs)) (sl s.xg (aD s.xs)) (sl cl.mg (aA cl.ts)) s.len cl.min u v;have i4:=fun d (h:jR d)=>mj (sl s.cg (aQ s.cs)) (sl s.xg (aD s.xs)) (sl cl.mg (aA cl.ts)) s.len cl.min d (by unfold jR;omega) (by unfold jR;omega) h;apply ai;simp [Z,W];refine au (av (by simp [f]) (aR ?_));apply au;refine ay ?_;apply ai;simp [a8,W,e_,J];obtain⟨q,f_⟩:=aM (H.length);have kc:(H++[bV.box [.f (sl cl.mg (aA cl.ts)),.f (fi cl.min)] 0])[q]?=aa (.box [.f (sl cl.mg (aA cl.ts)),.f (fi cl.min)] 0):=by simp [f_]
    have k0:(H++[bV.box [.f (sl cl.mg (aA cl.ts)),.f (fi cl.min)] 0])[0]?=aa (.box [C.f (sl s.cg (aQ s.cs)),C.f (fi s.len),C.f (sl s.xg (aD s.xs))] 0):=by rw [AT (aj h0)];exact h0
    have k1:(H++[bV.box [.f (sl cl.mg (aA cl.ts)),.f (fi cl.min)] 0])[1]?=aa (.box [.f (fi u),.f (fi v)] 0):=by rw [AT (aj N)];exact N
    have S:(H++[bV.box [.f (sl cl.mg (aA cl.ts)),.f (fi cl.min)] 0])[2]?=aa (.box [c] 0):=by rw [AT (aj B)];exact B
    have kL:=A.push [bV.box [.f (sl cl.mg (aA cl.ts)),.f (fi cl.min)] 0];have kd:=K.push [bV.box [.f (sl cl.mg (aA cl.ts)),.f (fi cl.min)] 0];have kn:(H++[bV.box [.f (sl cl.mg (aA cl.ts)),.f (fi cl.min)] 0]).length=q+1:=by simp [f_]
    have n_:3≤q:=by have:=aj B;omega
    rw [←f_];generalize H++[bV.box [.f (sl cl.mg (aA cl.ts)),.f (fi cl.min)] 0]=X at kc k0 k1 S kL kd kn ⊢;apply ai;simp [M,U,k0,k1,kc,h_];refine ay ?_;have range:∀(E:T),E.g 2=.c (.ptr 0 0 0)→E.g 3=.c (.ptr 1 0 0)→E.g 6=.c (.ptr 2 0 0)→E.g 8=.c (.ptr q 0 0)→E.g 44=.c (.f (sl s.cg (aQ s.cs)))→E.g 45=vi s.cs.length→E.g 46=vi j →
      E.g 53=.c (.f (.fn 62 [.fp [fi u,fi v] 0,.fp [sl s.cg (aQ s.cs),fi s.len,sl s.xg (aD s.xs)] 0,.fp [sl cl.mg (aA cl.ts),fi cl.min] 0])) →
      WP tab 9 ab [.code yZ,.inBlock 2,.inBlock 1,.code y0,.inLoop yY,.inBlock 0,.code oT] ⟨E,bs.map .dN,X⟩ Q:=by
     intro E M U I g8 a8 Z W j8;obtain⟨PP,b_⟩:∃ PP:List Int→an→Prop,PP=fun ds H=>H[0]?=aa (.box [C.f (sl s.cg (aQ s.cs)),C.f (fi s.len),C.f (sl s.xg (aD s.xs))] 0)∧H[1]?=aa (.box [.f (fi u),.f (fi v)] 0)∧(∃ c,H[2]?=aa (.box [c] 0)∧LI H c (o++ds.map (cJ s.len cl.min))) ∧
      H[q]?=aa (.box [.f (sl cl.mg (aA cl.ts)),.f (fi cl.min)] 0)∧eb bs H∧H[q+1]?=aa (.eo ae)∧H[q+1+1]?=aa (.lp 9 E [P.nat 54] dJ dK .ready ab (q+1)):=⟨_,rfl⟩
     have n9:PP [] (X++[.eo ae,(.lp 9 E [P.nat 54] dJ dK .ready ab (q+1))]):=by
      rw [b_];refine⟨?_,?_,⟨c,?_,?_⟩,?_,kd.push _,?_,?_⟩
      ·rw [AT (aj k0)];exact k0
      ·rw [AT (aj k1)];exact k1
      ·rw [AT (aj S)];exact S
      ·simpa using kL.push _
      ·rw [AT (aj kc)];exact kc
      ·rw [ann (by omega),kn];simp
      ·rw [ann (by omega),kn];simp
     have o8:n0I s.len cl.min u=max 0 ((u-s.len-cl.min) / 1440+1):=rfl;obtain⟨r,H',he,rfl,ds,hp,n8,i3⟩:=abM (b:=q+1+1) (H:=X++[.eo ae,(.lp 9 E [P.nat 54] dJ dK .ready ab (q+1))]) (PP:=PP) cl.mg cl.ts i_ (sl s.cg (aQ s.cs)) (sl s.xg (aD s.xs)) s.len cl.min u v ⟨by omega,by omega,by omega,by omega,by omega,by omega,by omega⟩ (n0I s.len cl.min u) rfl n9 (by
      intro ds d H hp o6 o7 k_;rw [b_]at hp;obtain⟨h0,N,⟨c,B,A⟩,O,e,h4,h5⟩:=hp;have i9:=i4 d (by unfold jR;omega);simp [cJ,aB.row]at i9;obtain⟨r,H',e1,rfl,e2⟩:=dr (tab:=tab) (b:=q+1+1) (args:=[vi d]) (H:=H) (C:=fun r H'=>r=vb ae∧PP (ds++[d]) H') h5 rfl fun Q' j9=>by
       refine aq (.inr rfl) ?_;simp;refine fW h5 ?_;have b0:(H.set (q+1+1) (.lp 9 E [P.nat 54] dJ dK .busy ab (q+1)))[0]?=aa (.box [C.f (sl s.cg (aQ s.cs)),C.f (fi s.len),C.f (sl s.xg (aD s.xs))] 0):=by rw [sh (by omega)];exact h0
       have b1:(H.set (q+1+1) (.lp 9 E [P.nat 54] dJ dK .busy ab (q+1)))[1]?=aa (.box [.f (fi u),.f (fi v)] 0):=by rw [sh (by omega)];exact N
       have b2:(H.set (q+1+1) (.lp 9 E [P.nat 54] dJ dK .busy ab (q+1)))[2]?=aa (.box [c] 0):=by rw [sh (by omega)];exact B
       have b3:(H.set (q+1+1) (.lp 9 E [P.nat 54] dJ dK .busy ab (q+1)))[q]?=aa (.box [.f (sl cl.mg (aA cl.ts)),.f (fi cl.min)] 0):=by rw [sh (by omega)];exact O
       have b4:(H.set (q+1+1) (.lp 9 E [P.nat 54] dJ dK .busy ab (q+1)))[q+1]?=aa (.eo ae):=by rw [sh (by omega)];exact h4
       have b5:(H.set (q+1+1) (.lp 9 E [P.nat 54] dJ dK .busy ab (q+1)))[q+1+1]?=aa (.lp 9 E [P.nat 54] dJ dK .busy ab (q+1)):=BY (aj h5);have bd:=e.set (z:=(.lp 9 E [P.nat 54] dJ dK .busy ab (q+1))) h5 (by simp);have bL:=A.set h5 rfl (.lp 9 E [P.nat 54] dJ dK .busy ab (q+1));generalize H.set (q+1+1) (.lp 9 E [P.nat 54] dJ dK .busy ab (q+1))=HB at b0 b1 b2 b3 b4 b5 bd bL ⊢;obtain⟨c',w,a1,a2,a3,a4⟩:=(bL.push [.box [.f (fi d),.f (fi (d*1440+cl.min)),.f (fi (d*1440+cl.min+s.len))] 0]).app (by simp;omega) (b1:=HB.length) (fl:=0) (x:=cJ s.len cl.min d) (by simp [aB.row,cJ]);have up:∀(i:Nat) y,HB[i]?=aa y→iQ y=ae→w[i]?=aa y:=fun i y hy hn=>a4 i y (by rw [AT (aj hy)];exact hy) hn;have p2:=up _ _ b2 rfl;have s5:(w.set 2 (.box [c'] 0))[q+1+1]?=aa (.lp 9 E [P.nat 54] dJ dK .busy ab (q+1)):=by rw [sh (by omega)];exact up _ _ b5 rfl
       refine ay ?_;refine aq (.inr rfl) ?_;simp [M,I,g8,b0,b2,b3,i9,a1,p2];refine ax (cK (j9 _ _ _ _ _ _ _ _ _ _ rfl s5 ?_));refine⟨rfl,?_⟩;rw [b_];refine⟨?_,?_,⟨c',?_,?_⟩,?_,?_,?_,?_⟩
       ·rw [sh (by omega),sh (by decide)];exact up _ _ b0 rfl
       ·rw [sh (by omega),sh (by decide)];exact up _ _ b1 rfl
       ·rw [sh (by omega)];exact BY (aj p2)
       ·rw [aop,←anV];exact(a2.set p2 rfl _).set s5 rfl _
       ·rw [sh (by omega),sh (by omega)];exact up _ _ b3 rfl
       ·exact((bd.ba up).set p2 (by simp)).set s5 (by simp)
       ·rw [sh (by omega),sh (by omega)];exact up _ _ b4 rfl
       ·exact BY (aj s5)
      exact⟨H',e1,e2⟩)
     rw [b_]at hp;obtain⟨h0,N,⟨c,B,A⟩,O,d9,h4,h5⟩:=hp;have hB:X.length=q+1:=kn;have l_:Ev tab (.fn 62) [.c (.yl (X.length+1)),.c (.f (.fp [fi u,fi v] 0)),.c (.f (.fp [sl s.cg (aQ s.cs),fi s.len,sl s.xg (aD s.xs)] 0)),.c (.f (.fp [sl cl.mg (aA cl.ts),fi cl.min] 0))] (X++[.eo ae,.lp 9 E [P.nat 54] dJ dK .ready ab X.length]) (.t []) H':=by
      rw [hB];exact he
     refine dZ (g:=62) (by rw [oA,j8];simp [bO]) l_ ?_;rw [hB];refine ff h5 (by decide) ?_;refine ax (ax (aq (.inl rfl) ?_));simp [W,aP (n:=(j:Int)+1)];have k_:=kU ds (n0I s.len cl.min u) 60 n8 fun d hd=>by
      obtain⟨⟨t',_,a1,_⟩,a2⟩:=(i3 d).1 hd;refine⟨a1,?_⟩;omega
     refine ih (s.cs.length-(j+1)) _ (by omega) ⟨j+1,_,(q+1)::bs,_,c,_,rfl,by omega,by omega,by simp [M],by simp [U],by simp [I],by simp [a8],by simp [Z],by simp,?_,?_,?_,A.set h5 rfl _,by simp;omega,⟨?_,?_⟩,fun x=>?_⟩
     ·rw [sh (by omega)];exact h0
     ·rw [sh (by omega)];exact N
     ·rw [sh (by omega)];exact B
     ·refine ao8.2 ⟨fun hb=>?_,d9.nd⟩;have:=aj (kd.on _ hb);omega
     ·intro b hb;rcases anK.1 hb with rfl | hb
      ·rw [sh (by omega)];exact h4
      ·exact(d9.set h5 (by simp)).on b hb
     ·rw [anm,m,anv];unfold vJ;rw [c_];constructor
      ·rintro(⟨c,O,h⟩ | ⟨d,hd,rfl⟩)
       ·exact⟨c,anO _ O,h⟩
       ·exact⟨cl,aoo _ (OF.2 rfl),d,(i3 d).1 hd,rfl⟩
      ·rintro⟨c,O,d,hd,rfl⟩;rcases anm.1 O with O | O
       ·exact .inl ⟨c,O,d,hd,rfl⟩
       ·obtain rfl:=OF.1 O;exact .inr ⟨d,(i3 d).2 hd,rfl⟩
    exact range _ (by simp [M]) (by simp [U]) (by simp [I]) (by simp) (by simp [a8]) (by simp [Z]) (by simp [W]) (by simp)
   ·have m9:j=s.cs.length:=by omega
    subst m9;apply ai;simp [Z,W];refine au (aF (by simp) ?_);refine bh (k':=[.code oT]) rfl ?_;rw [ant]at m;exact a7 _ bs _ c o (by simp [M]) (by simp [U]) (by simp [I]) h0 N B A (by omega) K m
  apply ai;simp [aN.row];apply au;apply ai;simp [p,show¬ u < -2251799813685248 by omega,show¬ 2251799813685248<v by omega,show¬ v<u by omega];refine aX (by simp) ?_;apply au;apply ai;simp [aP (n:=v-u),show¬ 5760000<v-u by omega];refine aX (by simp) ?_;apply ai;simp;apply au;apply ai;simp [show¬ u=v by omega];refine aX (by simp) ?_;exact Y _ (by simp) (by simp) (by simp)
 obtain⟨r,⟨g,L,N,B,h3,rfl⟩,h⟩:=key;exact⟨g,L,N,B,h.eq⟩
end Go.Proofs.YthkmdpgdicohdaaGreat
