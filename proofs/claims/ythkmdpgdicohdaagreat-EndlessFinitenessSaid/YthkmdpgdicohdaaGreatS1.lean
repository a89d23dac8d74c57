/-
  abI the na jS and the mB answer, for all arguments of their kind, in the small machine: part 1.
-/
import Derived.Test.YthkmdpgdicohdaaGreatTab
import Derived.Test.YthkmdpgdicohdaaGreatK3
import Derived.Test.YthkmdpgdicohdaaGreatK4
import Derived.KernelRfl
open Option renaming some → aa,none → ab
open Bool renaming true → ae,false → ag
open Go.IntKind renaming wrap → ah
open Int renaming tmod_eq_emod_of_nonneg → akt, tdiv_eq_ediv_of_nonneg → akN, ediv_nonneg → ake, le_trans → akk, ediv_le_self → akm, mul_nonneg → akf, mul_le_mul → ako, emod_nonneg → ajV, emod_lt_of_pos → ajT, mul_neg → ald, mul_le_mul_of_nonneg_left → ajq, emod_eq_emod_iff_emod_sub_eq_zero → ala, dvd_mul_right → akR, gcd → ajU, lt_or_le → akq, dvd_refl → akw, le_of_dvd → aj7, emod_add_mul_ediv → ajS, mul_comm → aj1, mul_sub → ale, mul_assoc → ak1, mul_left_comm → alv, dvd_sub → akH, dvd_mul_left → alk, dvd_trans → aj8, gcd_dvd_left → ak7, gcd_pos_of_ne_zero_left → akg, ediv_mul_cancel → als, natCast_mul → akZ, mul_le_mul_of_nonneg_right → alo, le_refl → aky, mul_one → alm, toNat_natCast → ajA
open Nat renaming gcd → akb
open List renaming drop_eq_getElem_cons → ajh, getElem_mem → IT, getElem_of_mem → ajn, pairwise_cons → akI, mem_cons → ajB, all_eq_true → aji, mem_cons_self → ajc, mem_cons_of_mem → ajb, nil_append → ajZ, take_add_one → aju, getElem?_eq_getElem → By, take_length → ajr, getElem?_append_left → AT, getElem?_set_ne → sh, getElem?_set_self → If, drop_length → akX, mem_of_mem_drop → ajJ, mem_append → aja, mem_singleton → ai9, drop_zero → aj4, take_of_length_le → ajl, take_take → akU, mem_append_left → ajM, pairwise_append → akd, append_assoc → ajI, pairwise_singleton → aj9, map_cons → ajd, length_cons → ajL, getElem?_eq_none_iff → akF, mem_map → ajj, length_pos_iff → ajE, map_nil → ajt
open Bool renaming true_and → aj6, and_eq_true → BY
open Option.some renaming inj → akD
set_option linter.unusedVariables false
set_option linter.constructorNameAsVariable false
set_option linter.unusedSimpArgs false
set_option linter.unusedSectionVars false
set_option linter.unnecessarySimpa false
set_option maxRecDepth 100000
namespace Go.Proofs.YthkmdpgdicohdaaGreat
open Go Km
abbrev u64(n:Int):V:=.c (.f (.int .u64 n))
theorem iB{n:Int}(b:0≤n)(d:n≤18446744073709551615):IntKind.wrap .u64 n=n:=by
 simp only [IntKind.wrap,IntKind.bits,IntKind.signed];simp;omega
theorem Tu{a b:Int}(h:0≤a)(d:0<b):bM .rem (u64 a) (u64 b)=aa (u64 (a % b)):=by
 rw [gO (by omega),akt h]
theorem ag'{a b:Int}(h:0≤a)(g:0<b)(d:a≤18446744073709551615):bM .quo (u64 a) (u64 b)=aa (u64 (a / b)):=by
 rw [oq (by omega),akN h,iB (ake h (by omega)) (akk (akm _ h) d)]
theorem oP{a:Int}(b:0≤a)(g:a≤9223372036854775807):bR tab 158 [vi a]=Eq (u64 a):=bR.eq (by
 refine bY rfl rfl fun Q d=>?_;apply ai;simp;refine aq (ai ?_);simp;refine aG (by simp;omega) (aP ?_);apply ai;simp [iB (n:=a) b (by omega)];refine aF (d _ _ ?_);simp)
theorem RP{x y:Nat}(h:0<y):akb y (x % y)=akb x y:=by rw [Nat.gcd_comm x y,Nat.gcd_rec y x,Nat.gcd_comm]
theorem vV{a b:Nat}(z:(a:Int)≤4611686018427387904)(A:(b:Int)≤4611686018427387904):bR tab 122 [vi a,vi b]=Eq (vi (akb a b:Nat)):=bR.eq (by
 have H:=oP (a:=a) (by omega) (by omega);have I:=oP (a:=b) (by omega) (by omega);refine bY rfl rfl fun Q B=>?_;apply ai;simp;apply ai;simp [H,I];refine aq (az ?_);refine bJ (fun m s=>∃(x y:Nat) (t:T),s=⟨t,[],[]⟩∧m=y∧(x:Int)≤4611686018427387904∧(y:Int)≤4611686018427387904∧t.g 5=u64 x∧t.g 6=u64 y∧akb x y=akb a b) b ⟨a,b,_,rfl,rfl,z,A,by simp,by simp,rfl⟩ ?_;rintro m s ⟨x,y,t,rfl,rfl,J,K,d,l,u⟩ F;refine aq (ai ?_);simp [l];by_cases q:m=0
 ·subst q;refine aG (by simp) (bw rfl ?_);have j:x=akb a b:=by rw [←u];simp
  have E:¬ ((9223372036854775807:Int)<x):=by omega
  refine aq (ai ?_);simp [d,E];refine a6 (by simp) ?_;apply ai;simp [d,aM (n:=(x:Int))];refine aF (B _ _ ?_);simp [j]
 ·have v:=Tu (a:=x) (b:=m) (by omega) (by omega);rw [show(x:Int) % (m:Int)=((x % m:Nat):Int) from(Int.natCast_emod x m).symm]at v;have g:x % m<m:=Nat.mod_lt _ (by omega);refine aw (by simp [q]) (aP ?_);refine az (au (.inl rfl) ?_);simp [d,l,v];refine ax (F (x % m) _ g ⟨m,x % m,_,rfl,rfl,by omega,by omega,by simp,by simp,by rw [RP (by omega)];exact u⟩))
theorem Rc{x:Int}(g:0≤x)(j:x≤4294967295):bM .and (u64 x) (u64 4294967295)=aa (u64 x):=by
 obtain⟨n,rfl⟩:∃ n:Nat,x=n:=⟨x.toNat,by omega⟩
 have e:(BitVec.ofInt 64 (n:Int) &&& BitVec.ofInt 64 4294967295).toNat=n:=by
  rw [BitVec.toNat_and];have b:(BitVec.ofInt 64 (n:Int)).toNat=n:=by simp [BitVec.toNat_ofInt];omega
  have d:(BitVec.ofInt 64 4294967295).toNat=2 ^ 32-1:=by decide
  rw [b,d,Nat.and_two_pow_sub_one_eq_mod,Nat.mod_eq_of_lt (by omega)]
 have key:IntKind.wrap .u64 ((BitVec.ofInt 64 (n:Int) &&& BitVec.ofInt 64 4294967295).toNat:Int)=n:=by rw [e];exact iB (by omega) (by omega)
 exact congrArg (fun k:Int=>aa (u64 k)) key
theorem Ck{x:Int}(_:0≤x):bM .shr (u64 x) (u64 32)=aa (u64 (x / 4294967296)):=by
 simp only [bM];rw [aR (by decide),show min (Int.toNat 32) IntKind.u64.bits=32 from rfl,Int.fdiv_eq_ediv_of_nonneg _ (by decide)];rfl
theorem sE{x y:Int}(q:0≤x)(K:x≤2147483648)(g:0≤y)(L:y≤2147483648):bR tab 206 [u64 x,u64 y]=Eq (.t [u64 0,u64 (x*y)]):=bR.eq (by
 have d:0≤x*y:=akf q g;have F:x*y≤2147483648*2147483648:=ako K L g (by decide);have j:x*y / 4294967296≤4294967295:=by omega
 have b:0≤x*y / 4294967296:=by omega
 have a1:=Rc q (show x≤4294967295 by omega);have A:=Rc g (show y≤4294967295 by omega);have s:=Ck q;have u:=Ck g;have I:x / 4294967296=0:=by omega
 have J:y / 4294967296=0:=by omega
 rw [I]at s;rw [J]at u;have H:=Ck d;have B:=Rc b j;have l:=Ck b;have sz:x*y / 4294967296 / 4294967296=0:=by omega
 rw [sz]at l;have v:IntKind.wrap .u64 (x*y)=x*y:=iB d (by omega);have z:IntKind.wrap .u64 (x*y / 4294967296)=x*y / 4294967296:=iB b (by omega);have m:IntKind.wrap .u64 0=0:=by decide
 refine bY rfl rfl fun Q E=>?_;apply ai;simp;apply ai;simp [a1];apply ai;simp [s];apply ai;simp [A];apply ai;simp [u];apply ai;simp [v];apply ai;simp [H,m,z];apply ai;simp [B];apply ai;simp [l];apply ai;simp [m,z];apply ai;simp [m,l];apply ai;simp [v];refine aF (E _ _ ?_);simp)
theorem RE{x n:Int}(j:0≤x)(u:x≤9223372036854775807)(g:0<n)(s:n≤9223372036854775807):bR tab 208 [u64 0,u64 x,u64 n]=Eq (.t [u64 (x / n),u64 (x % n)]):=bR.eq (by
 have b:¬ (n=0):=by omega
 have d:¬ (n≤0):=by omega
 have l:=ag' j g (by omega);have m:=Tu j g;refine bY rfl rfl fun Q q=>?_;apply ai;simp;refine aq (ai ?_);simp;refine a6 (by simp [b]) ?_;refine aq (ai ?_);simp;refine a6 (by simp [d]) ?_;refine aq (ai ?_);simp;refine aw (by simp) ?_;apply ai;simp [l,m];refine aF (q _ _ ?_);simp)
def cW(n lo hi:Int):Bool:=decide (lo≤n)&&decide (n≤hi)
theorem IF{n lo hi:Int}(h:cW n lo hi=ae):lo≤n∧n≤hi:=by simpa [cW]using h
structure aE where
 hg:Tg
 head:List Int
 fr:Int
 aJ:Int
 cg:Tg
 a5:List Int
def aE.row(p:aE):List FC:=[sl p.hg (ints p.head),fi p.fr,fi p.aJ,sl p.cg (ints p.a5)]
def aH(l:List aE):List (List FC):=l.map aE.row
@[simp] theorem zk (l:List aE):(aH l).length=l.length:=by simp [aH]
theorem bA(l:List aE):bK 4 (aH l):=bK.map fun _=>rfl
theorem cF{l:List aE}{j:Nat}(b:j<l.length):(aH l)[j]?=aa l[j].row:=by simp [aH,b]
def dt(limit last:Int):List Int→Bool
 | []=>ae| n::r=>decide (last<n)&&decide (n<limit)&&dt limit n r
theorem wE{limit last:Int}{l:List Int}{j:Nat}(b:j<l.length):dt limit last (l.drop j)=(decide (last<l[j])&&decide (l[j]<limit)&&dt limit l[j] (l.drop (j+1))):=by
 rw [ajh b];rfl
def cu(p:aE):Bool:=decide (0≤p.fr)&&decide (p.fr≤1099511627776)&&decide (1≤p.aJ)&&decide (p.aJ≤1099511627776) &&
 decide ((p.head.length:Int)+p.a5.length≤1048576)&&dt p.fr (-1) p.head&&dt p.aJ (-1) p.a5
theorem Is(g:Tg)(l:List Int)(limit:Int)(A:l.length≤9223372036854775807):Kf tab 124 [.c (.f (sl g (ints l))),vi limit] (vb (dt limit (-1) l)):=by
 refine dO rfl rfl fun H Q q=>?_;apply ai;simp;apply ai;simp;apply aq;apply ai;simp;refine bU l.length (fun j t H'=>t.g 1=vi limit∧t.g 8=.c (.f (sl g (ints l)))∧H=H'∧∃ last,t.g 5=vi last∧dt limit (-1) l=dt limit last (l.drop j)) A (by decide) (by decide) (by simp) (by simp) (by simp) ?_ ?_
 ·rintro j t _ x ⟨d,m,rfl,last,u,b⟩ s v next
  rw [wE x]at b;refine az ?_;apply ai;simp [s,m,bH,x,dY];apply aq;apply ai;simp [u,d];by_cases y:l[j]≤last
  ·simp [y];refine aw (by simp) ?_;apply ai;simp;refine aF (q _ _ ?_);simp [b,show¬ last<l[j] by omega]
  simp [y,d];by_cases z:limit≤l[j]
  ·simp [z];refine aw (by simp) ?_;apply ai;simp;refine aF (q _ _ ?_);simp [b,show¬ l[j]<limit by omega]
  simp [z];refine aG (by simp) ?_;refine aP ?_;refine au (.inl rfl) ?_;simp;refine ax (next _ _ ?_ (by simp [s]) (by simp [v]));rw [decide_eq_true (by omega),decide_eq_true (by omega)]at b;exact⟨by simp [d],by simp [m],rfl,l[j],by simp,by simpa using b⟩
 ·rintro t _ ⟨d,m,rfl,last,u,b⟩ s v;apply ai;simp;refine aF (q _ _ ?_);simp [b,dt]
theorem nf(g:Tg)(l:List Int)(limit:Int)(b:l.length≤9223372036854775807) :
  bR tab 124 [.c (.f (sl g (ints l))),vi limit]=Eq (vb (dt limit (-1) l)):=(Is g l limit b).eq
theorem IG{n:Int}(b:9223372036854775807<n)(d:n≤18446744073709551615):IntKind.wrap .i64 n=n-18446744073709551616:=by
 simp only [IntKind.wrap,IntKind.bits,IntKind.signed];simp;omega
theorem nU:∀(l:List Int) (limit last:Int),dt limit last l=ae→l.length=0∨last+l.length<limit
 | [],_,_,_=>.inl rfl
 | n::r,limit,last,h=>by
  simp [dt]at h;have:=nU r limit n h.2;simp;omega
theorem ado(p:aE)(v:p.head.length≤9223372036854775807)(x:p.a5.length≤9223372036854775807) :
  Kf tab 82 [.a (p.row.map .f)] (vb (cu p)):=by
 refine dO rfl rfl fun H Q d=>?_;apply ai;simp [aE.row];apply ai;simp;by_cases l:0≤p.fr
 case neg=>
  simp [l];refine aF (d _ _ ?_);simp [cu,l]
 simp [l];by_cases m:p.fr≤1099511627776
 case neg=>
  simp [m];refine aF (d _ _ ?_);simp [cu,m]
 simp [m];by_cases q:1≤p.aJ
 case neg=>
  simp [q];refine aF (d _ _ ?_);simp [cu,q]
 simp [q];by_cases g:p.aJ≤1099511627776
 case neg=>
  simp [g];refine aF (d _ _ ?_);simp [cu,g]
 by_cases y:p.head.length+p.a5.length≤9223372036854775807
 case neg=>
  have e:IntKind.wrap .i64 ((p.head.length:Int)+p.a5.length)=(p.head.length:Int)+p.a5.length-18446744073709551616:=IG (by omega) (by omega);simp [g,e,show(p.head.length:Int)+p.a5.length-18446744073709551616≤1048576 by omega,nf p.hg p.head p.fr v];cases j:dt p.fr (-1) p.head
  ·simp;refine aF (d _ _ ?_);simp [cu,j]
  simp [nf p.cg p.a5 p.aJ x];have u:dt p.aJ (-1) p.a5=ag:=by
   have a:=nU _ _ _ j;cases u:dt p.aJ (-1) p.a5
   ·rfl
   ·have b:=nU _ _ _ u;omega
  refine aF (d _ _ ?_);simp [cu,u]
 simp [g,aM (n:=(p.head.length:Int)+p.a5.length)];by_cases s:(p.head.length:Int)+p.a5.length≤1048576
 case neg=>
  simp [s];refine aF (d _ _ ?_);simp [cu,s]
 simp [s,nf p.hg p.head p.fr v];cases j:dt p.fr (-1) p.head
 ·simp;refine aF (d _ _ ?_);simp [cu,j]
 simp [nf p.cg p.a5 p.aJ x];refine aF (d _ _ ?_);simp [cu,l,m,q,g,s,j]
def aE.Sm(p:aE):Prop:=p.head.length≤9223372036854775807∧p.a5.length≤9223372036854775807
theorem pR(p:aE)(h:p.Sm):bR tab 82 [.a (p.row.map .f)]=Eq (vb (cu p)):=(ado p h.1 h.2).eq
theorem lu{p:aE}(h:cu p=ae):p.Sm:=by
 simp [cu]at h;exact⟨by omega,by omega⟩
structure cz where
 tg:Tg
 fs:List aE
def cz.row(t:cz):List FC:=[sl t.tg (aH t.fs)]
def aD(l:List cz):List (List FC):=l.map cz.row
@[simp] theorem ZW (l:List cz):(aD l).length=l.length:=by simp [aD]
theorem eM(l:List cz):bK 1 (aD l):=bK.map fun _=>rfl
theorem fQ{l:List cz}{j:Nat}(b:j<l.length):(aD l)[j]?=aa l[j].row:=by simp [aD,b]
def cz.Sm(t:cz):Prop:=t.fs.length≤9223372036854775807∧∀ p ∈ t.fs,p.Sm
def il(t:cz):Bool:=decide (1≤(t.fs.length:Int))&&decide ((t.fs.length:Int)≤4)&&t.fs.all cu
def ij(l:List cz):Bool:=decide ((l.length:Int)≤64)&&l.all il
theorem Q9{b:Type}{l:List b}{p:b→Bool}{j:Nat}(d:j<l.length):(l.drop j).all p=(p l[j]&&(l.drop (j+1)).all p):=by
 rw [ajh d,List.all_cons]
theorem abK(p:aE)(h:p.Sm):Kf tab 81 [.a (p.row.map .f)] (vb (!cu p)):=by
 refine dO rfl rfl fun H Q d=>?_;have b:=pR p h;simp [aE.row]at b;apply ai;simp [aE.row];apply ai;simp [b];refine aF (d _ _ ?_);simp
theorem GP(g:Tg)(l:List aE)(d:l.length≤9223372036854775807)(h:∀ p ∈ l,p.Sm) :
  bR tab 80 [.c (.f (sl g (aH l))),.c (.f (.fn 81 []))]=Eq (vb (l.any fun p=>!cu p)):=
 (gU Q5 (jT Q6 l aE.row (fun r=>.a (r.row.map .f)) (fun p=>!cu p) g 81 [] d
  (fun j b H=>dr (bA l) (cF b)) (fun p m=>abK p (h p m)))).eq
theorem mu(g:Tg)(l:List cz)(E:l.length≤9223372036854775807)(h:∀ t ∈ l,t.Sm):Kf tab 50 [.a [.f (sl g (aD l))]] (vb (ij l)):=by
 refine dO rfl rfl fun H Q s=>?_;apply ai;simp;apply aq;apply ai;simp;by_cases y:(64:Int)<l.length
 ·simp [y];refine aw (by simp) ?_;apply ai;simp;refine aF (s _ _ ?_);simp [ij,show¬ (l.length:Int)≤64 by omega]
 simp [y];refine aG (by simp) ?_;refine aP ?_;apply aq;apply ai;simp;refine bU l.length (fun j t H'=>t.g 10=.c (.f (sl g (aD l)))∧(∃ J,H'=H++J)∧l.all il=(l.drop j).all il) E (by decide) (by decide) (by simp) (by simp) (by simp) ?_ ?_
 ·rintro j t _ m ⟨eo,⟨J,rfl⟩,d⟩ u v next
  rw [Q9 m]at d;have x:=h l[j] (IT m);have b:=mj (H:=H++J) (k:=0) (eM l) (fQ m) rfl;refine az ?_;apply ai;simp at b;simp [u,eo,bH,m,b];have bad:il l[j]=ag→∀(t:T) (J:an) k,WP tab 50 ab (.code (.region [⟨D 2,.cU (.k (.c (.f (.bool ag)))),ab⟩] [])::.code .ret::k) ⟨t,[],H++J⟩ Q:=by
   intro B t J k;refine au (.inl rfl) ?_;simp;refine aF (s _ _ ?_);simp [ij,d,B]
  apply ai;simp;by_cases z:(l[j].fs.length:Int)<1
  ·simp [z];exact aw (by simp) (aq (bad (by simp [il,show¬ 1≤(l[j].fs.length:Int) by omega]) _ _ _))
  simp [z];by_cases A:(4:Int)<l[j].fs.length
  ·simp [A];exact aw (by simp) (aq (bad (by simp [il,show¬ (l[j].fs.length:Int)≤4 by omega]) _ _ _))
  simp [A,GP l[j].tg l[j].fs x.1 x.2];cases q:l[j].fs.any fun p=>!cu p
  ·have:il l[j]=ae:=by
    simp [il]at q ⊢;exact⟨⟨by omega,by omega⟩,q⟩
   refine aG (by simp) ?_;refine aP (ax (next _ _ ?_ (by simp [u]) (by simp [v])));rw [this,aj6]at d;exact⟨by simp [eo],⟨_,rfl⟩,d⟩
  ·exact aw (by simp) (aq (bad (by simp [il]at q ⊢;intro _ _;exact q) _ _ _))
 ·rintro t _ ⟨eo,⟨J,rfl⟩,d⟩ u v;apply ai;simp;refine aF (s _ _ ?_);simp [ij,d,show(l.length:Int)≤64 by omega]
theorem oG(a:Int):bR tab 65 [vi a]=Eq (vb ag):=(show Kf tab 65 [vi a] (vb ag) by
 refine dO rfl rfl fun H Q b=>?_;apply ai;simp;apply ai;simp;refine aF (b _ _ ?_);simp).eq
def fR(a b:Int):Int:=if a<b then -1 else if b<a then 1 else 0
theorem z3(a b:Int):Kf tab 33 [vi a,vi b] (vi (fR a b)):=by
 refine dO rfl rfl fun H Q g=>?_;apply ai;simp;apply ai;simp [oG];apply ai;simp [oG];apply aq;apply ai;simp;refine a6 (by simp) ?_;apply aq;apply ai;simp;refine a6 (by simp) ?_;apply aq;apply ai;simp;by_cases h:a<b
 ·refine aw (by simp [h]) ?_;apply ai;simp;refine aF (g _ _ ?_);simp [fR,h]
 refine a6 (by simp [h]) ?_;apply aq;apply ai;simp;by_cases d:b<a
 ·refine aw (by simp [d]) ?_;apply ai;simp;refine aF (g _ _ ?_);simp [fR,h,d]
 refine a6 (by simp [d]) ?_;apply ai;simp;refine aF (g _ _ ?_);simp [fR,h,d]
theorem rI(a b:Int):bR tab 33 [vi a,vi b]=Eq (vi (fR a b)):=(z3 a b).eq
def AE:List Int→Int
 | []=>0| a::r=>if a=0 then AE r else a
theorem Sq{l:List Int}{j:Nat}(b:j<l.length):AE (l.drop j)=if l[j]=0 then AE (l.drop (j+1))else l[j]:=by
 rw [ajh b];rfl
theorem agA(g:Tg)(l:List Int)(x:l.length≤9223372036854775807):Kf tab 32 [.c (.f (sl g (ints l)))] (vi (AE l)):=by
 refine dO rfl rfl fun H Q s=>?_;apply ai;simp;apply ai;simp;apply aq;apply ai;simp;refine bU l.length (fun j t H'=>t.g 3=vi 0∧t.g 6=.c (.f (sl g (ints l)))∧H=H'∧AE l=AE (l.drop j)) x (by decide) (by decide) (by simp) (by simp) (by simp) ?_ ?_
 ·rintro j t _ v ⟨d,m,rfl,b⟩ q u next
  rw [Sq v]at b;refine az ?_;apply ai;simp [q,m,bH,v,dY];apply ai;simp [d];by_cases h:l[j]=0
  ·refine aG (by simp [h]) ?_;refine aP (ax (next _ _ ?_ (by simp [q]) (by simp [u])));rw [ba h]at b;exact⟨by simp [d],by simp [m],rfl,b⟩
  ·refine aw (by simp [h]) ?_;apply ai;simp;refine aF (s _ _ ?_);simp [b,h]
 ·rintro t _ ⟨d,m,rfl,b⟩ q u;apply ai;simp [d];refine aF (s _ _ ?_);simp [b,AE]
theorem aaj(g:Tg)(l:List Int)(b:l.length≤9223372036854775807):bR tab 32 [.c (.f (sl g (ints l)))]=Eq (vi (AE l)):=(agA g l b).eq
theorem abZ(n lo hi:Int):Kf tab 46 [vi n,vi lo,vi hi] (vb (cW n lo hi)):=by
 refine dO rfl rfl fun H Q b=>?_;apply ai;simp;apply ai;by_cases h:lo≤n
 ·simp [h];refine aF (b _ _ ?_);simp [cW,h]
 ·simp [h];refine aF (b _ _ ?_);simp [cW,h]
@[simp] theorem aib (n lo hi:Int):bR tab 46 [vi n,vi lo,vi hi]=Eq (vb (cW n lo hi)):=(abZ n lo hi).eq
structure aN where
 day:Int
 fr:Int
 to:Int
deriving DecidableEq
def aN.row(x:aN):List FC:=[fi x.day,fi x.fr,fi x.to]
def aT(l:List aN):List (List FC):=l.map aN.row
@[simp] theorem Yn (l:List aN):(aT l).length=l.length:=by simp [aT]
theorem dq(l:List aN):bK 3 (aT l):=bK.map fun _=>rfl
theorem fN{l:List aN}{j:Nat}(b:j<l.length):(aT l)[j]?=aa l[j].row:=by simp [aT,b]
def fJ(x y:aN):Int:=AE [fR x.fr y.fr,fR x.day y.day,fR x.to y.to]
theorem Su(x y:aN):Kf tab 29 [.a (x.row.map .f),.a (y.row.map .f)] (vi (fJ x y)):=by
 refine dO rfl rfl fun H Q d=>?_;have b:=aaj .fs [fR x.fr y.fr,fR x.day y.day,fR x.to y.to] (by simp);simp [ints,sl,Tg.fc]at b;apply ai;simp [aN.row];apply ai;simp [rI,deep,jQ,oT,b];refine aF (d _ _ ?_);simp [fJ]
theorem sM(x y:aN):bR tab 29 [.a (x.row.map .f),.a (y.row.map .f)]=Eq (vi (fJ x y)):=(Su x y).eq
theorem Se(g:Tg)(l:List cz)(b:l.length≤9223372036854775807)(h:∀ t ∈ l,t.Sm):bR tab 50 [.a [.f (sl g (aD l))]]=Eq (vb (ij l)):=(mu g l b h).eq
structure cm where
 mg:Tg
 ts:List cz
 min:Int
def cm.row(c:cm):List FC:=[sl c.mg (aD c.ts),fi c.min]
def aX(l:List cm):List (List FC):=l.map cm.row
@[simp] theorem TD (l:List cm):(aX l).length=l.length:=by simp [aX]
theorem dL(l:List cm):bK 2 (aX l):=bK.map fun _=>rfl
theorem fX{l:List cm}{j:Nat}(b:j<l.length):(aX l)[j]?=aa l[j].row:=by simp [aX,b]
structure aQ where
 cg:Tg
 cs:List cm
 len:Int
 xg:Tg
 xs:List aN
def aQ.row(s:aQ):List FC:=[sl s.cg (aX s.cs),fi s.len,sl s.xg (aT s.xs)]
def aQ.Sm(s:aQ):Prop:=s.cs.length≤9223372036854775807∧s.xs.length≤9223372036854775807∧∀ c ∈ s.cs,c.ts.length≤9223372036854775807∧∀ t ∈ c.ts,t.Sm
def dB:Option Int→List cm→Bool
 | _,[]=>ae| prev,c::r=>ij c.ts&&cW c.min (-4320) 4320&&(prev.all fun m=>decide (m<c.min))&&dB (aa c.min) r
def mf(x:aN):Bool:=cW x.day 0 1099511627776&&cW x.fr (-2251799813685248) 1583296743997439&&cW x.to (x.fr+1) (x.fr+10080)
def fY:Option aN→List aN→Bool
 | _,[]=>ae| prev,x::r=>mf x&&(prev.all fun m=>decide (fJ m x<0))&&fY (aa x) r
def gl(s:aQ):Bool:=decide ((s.cs.length:Int)≤64)&&cW s.len 1 10080&&decide ((s.xs.length:Int)≤4096)&&dB ab s.cs&&fY ab s.xs
theorem tB{p:Option Int}{l:List cm}{j:Nat}(b:j<l.length):dB p (l.drop j)=(ij l[j].ts&&cW l[j].min (-4320) 4320&&(p.all fun m=>decide (m<l[j].min))&&dB (aa l[j].min) (l.drop (j+1))):=by
 rw [ajh b];rfl
theorem yz{p:Option aN}{l:List aN}{j:Nat}(b:j<l.length):fY p (l.drop j)=(mf l[j]&&(p.all fun m=>decide (fJ m l[j]<0))&&fY (aa l[j]) (l.drop (j+1))):=by
 rw [ajh b];rfl
theorem nk(s:aQ)(h:s.Sm):Kf tab 24 [.a (s.row.map .f)] (vb (gl s)):=by
 obtain⟨hc,hx,U⟩:=h;refine dO rfl rfl fun H Q hQ=>?_;have bad:gl s=ag→∀(t:T) (J:an) k,WP tab 24 ab (.code (.region [⟨D 2,.cU (.k (.c (.f (.bool ag)))),ab⟩] [])::.code .ret::k) ⟨t,[],H++J⟩ Q:=by
  intro hf t J k;refine au (.inl rfl) ?_;simp;refine aF (hQ _ _ ?_);simp [hf]
 apply ai;simp [aQ.row];apply aq;apply ai;simp;by_cases k1:(64:Int)<s.cs.length
 ·simp [k1];exact aw (by simp) (aq (bad (by simp [gl,show¬ (s.cs.length:Int)≤64 by omega]) _ _ _))
 simp [k1];cases k2:cW s.len 1 10080
 ·simp;exact aw (by simp) (aq (bad (by simp [gl,k2]) _ _ _))
 simp;by_cases k3:(4096:Int)<s.xs.length
 ·simp [k3];exact aw (by simp) (aq (bad (by simp [gl,show¬ (s.xs.length:Int)≤4096 by omega]) _ _ _))
 simp [k3];have hS:gl s=(dB ab s.cs&&fY ab s.xs):=by simp [gl,k2,show(s.cs.length:Int)≤64 by omega,show(s.xs.length:Int)≤4096 by omega]
 rw [hS]at bad;refine aG (by simp) ?_;refine aP ?_;apply aq;apply ai;simp;obtain⟨l,v⟩:=aL ([C.f (sl s.cg (aX s.cs)),C.f (fi s.len),C.f (sl s.xg (aT s.xs))]);rw [←v];have a7:l.drop 0=[C.f (sl s.cg (aX s.cs)),C.f (fi s.len),C.f (sl s.xg (aT s.xs))]:=by rw [v];rfl
 have S:l.drop 2=[C.f (sl s.xg (aT s.xs))]:=by rw [v];rfl
 have M:l=C.f (sl s.cg (aX s.cs))::[C.f (fi s.len),C.f (sl s.xg (aT s.xs))]:=v;refine bU s.cs.length (fun j t H'=>t.g 1=.c (.ptr H.length 0 0)∧t.g 25=.c (.f (sl s.cg (aX s.cs)))∧(∃ J,H'=H++(.box l 0::J)) ∧
  ∃ d,(∀ m,j=m+1→∀ h:m<s.cs.length,d=aa (s.cs[m]'h).min)∧(j=0→d=ab)∧dB ab s.cs=dB d (s.cs.drop j)) hc (by decide) (by decide) (by simp) (by simp)
   ⟨by simp,by simp,⟨[],by simp⟩,ab,by omega,by simp,by simp⟩ ?_ ?_
 ·rintro j t _ F ⟨x,A,⟨J,rfl⟩,d,Y,Z,u⟩ E K next
  rw [tB F]at u;have L:=dr (H:=H++(.box l 0::J)) (dL s.cs) (fX F);have z:=Se s.cs[j].mg s.cs[j].ts (U _ (IT F)).1 (U _ (IT F)).2;refine az ?_;apply ai;simp [E,A,bH,F,L,cm.row];apply ai;simp [z];cases W:ij s.cs[j].ts
  ·simp;exact aw (by simp) (aq (bad (by simp [u,W]) _ _ _))
  simp;cases O:cW s.cs[j].min (-4320) 4320
  ·simp;exact aw (by simp) (aq (bad (by simp [u,O]) _ _ _))
  simp;have go:(d.all fun m=>decide (m<s.cs[j].min))=ae→∃ g,(∀ m,j+1=m+1→∀ h:m<s.cs.length,g=aa (s.cs[m]'h).min)∧(j+1=0→g=ab)∧dB ab s.cs=dB g (s.cs.drop (j+1)):=by
   intro hp;rw [W,O,hp,aj6,aj6,aj6]at u;refine⟨aa s.cs[j].min,fun m z h=>?_,by omega,u⟩;have:m=j:=by omega
   subst this;rfl
  cases j with
  | zero=>
   simp;refine aG (by simp) ?_;refine aP (ax (next _ _ ?_ (by simp [E]) (by simp [K])));exact⟨by simp [x],by simp [A],⟨_,rfl⟩,go (by rw [Z rfl];rfl)⟩
  | succ m=>
   have z:m<s.cs.length:=by omega
   have y:=Y m rfl z;have e1:((m+1:Nat):Int)-1=m:=by omega
   have q:=mj (H:=H++(bZ.box l 0 ::(J++[bZ.box [C.f (sl s.cs[m+1].mg (aD s.cs[m+1].ts)),C.f (fi s.cs[m+1].min)] 0]))) (k:=1) (dL s.cs) (fX z) rfl;rw [M]at q;simp [show 0<m+1 by omega,x,M,aM (n:=(m:Int)),bH,z,q];by_cases X:s.cs[m+1].min≤s.cs[m].min
   ·simp [X];have b:=bad (by simp [u,y,show¬ s.cs[m].min<s.cs[m+1].min by omega]);refine aw (by simp) ?_;exact aq (b _ _ _)
   ·simp [X];refine aG (by simp) ?_;refine aP (ax (next _ _ ?_ (by simp [E]) (by simp [K])));exact⟨by simp [x],by simp [A],⟨_,by rw [M]⟩,go (by rw [y];simp;omega)⟩
 ·rintro t _ ⟨x,A,⟨J,rfl⟩,d,Y,Z,u⟩ E K;have hC:dB ab s.cs=ae:=by rw [u];simp [dB]
  rw [hC,aj6]at bad hS;apply aq;apply ai;simp [x,S];refine bU s.xs.length (fun j t H'=>t.g 1=.c (.ptr H.length 0 0)∧t.g 60=.c (.f (sl s.xg (aT s.xs)))∧(∃ J,H'=H++(.box l 0::J)) ∧
   ∃ d,(∀ m,j=m+1→∀ h:m<s.xs.length,d=aa (s.xs[m]'h))∧(j=0→d=ab)∧fY ab s.xs=fY d (s.xs.drop j)) hx (by decide) (by decide) (by simp) (by simp)
    ⟨by simp [x],by simp,⟨J,by simp⟩,ab,by omega,by simp,by simp⟩ ?_ ?_
  ·rintro j t _ F ⟨x,B,⟨J,rfl⟩,d,Y,Z,u⟩ E K next
   rw [yz F]at u;have L:=dr (H:=H++(.box l 0::J)) (dq s.xs) (fN F);refine az ?_;apply ai;simp [E,B,bH,F,L,aN.row];have N:mf s.xs[j]=ag→∀(t:T) (J:an) k,t.g 7=vb ag→WP tab 24 ab (.code xd::k) ⟨t,[],H++J⟩ Q:=by
    intro hf t J k g7;apply ai;simp [g7];exact aw (by simp) (aq (bad (by simp [u,hf]) _ _ _))
   have go:mf s.xs[j]=ae→(d.all fun m=>decide (fJ m s.xs[j]<0))=ae→∃ g,(∀ m,j+1=m+1→∀ h:m<s.xs.length,g=aa (s.xs[m]'h))∧(j+1=0→g=ab)∧fY ab s.xs=fY g (s.xs.drop (j+1)):=by
    intro hg hp;rw [hg,hp,aj6,aj6]at u;refine⟨aa s.xs[j],fun m z h=>?_,by omega,u⟩;have:m=j:=by omega
    subst this;rfl
   apply ai;simp;cases W:cW s.xs[j].day 0 1099511627776
   ·simp;exact N (by simp [mf,W]) _ _ _ (by simp)
   simp;cases O:cW s.xs[j].fr (-2251799813685248) 1583296743997439
   ·simp;exact N (by simp [mf,O]) _ _ _ (by simp)
   have w5:=IF O;simp [aM (n:=s.xs[j].fr+1),aM (n:=s.xs[j].fr+10080)];cases X:cW s.xs[j].to (s.xs[j].fr+1) (s.xs[j].fr+10080)
   ·exact N (by simp [mf,X]) _ _ _ (by simp)
   have hg:mf s.xs[j]=ae:=by simp [mf,W,O,X]
   apply ai;simp;cases j with
   | zero=>
    simp;refine aG (by simp) ?_;refine aP (ax (next _ _ ?_ (by simp [E]) (by simp [K])));exact⟨by simp [x],by simp [B],⟨_,rfl⟩,go hg (by rw [Z rfl];rfl)⟩
   | succ m=>
    have z:m<s.xs.length:=by omega
    have y:=Y m rfl z;have e1:((m+1:Nat):Int)-1=m:=by omega
    have q:=dr (H:=H++(.box l 0 ::(J++[bZ.box [C.f (fi s.xs[m+1].day),C.f (fi s.xs[m+1].fr),C.f (fi s.xs[m+1].to)] 0]))) (dq s.xs) (fN z);have I:=sM s.xs[m] s.xs[m+1];simp [aN.row]at I q;simp [show 0<m+1 by omega,x,S,aM (n:=(m:Int)),bH,z,q,I];by_cases k7:0≤fJ s.xs[m] s.xs[m+1]
    ·simp [k7];have b:=bad (by simp [u,y,show¬ fJ s.xs[m] s.xs[m+1]<0 by omega]);refine aw (by simp) ?_;exact aq (b _ _ _)
    ·simp [k7];refine aG (by simp) ?_;refine aP (ax (next _ _ ?_ (by simp [E]) (by simp [K])));exact⟨by simp [x],by simp [B],⟨_,rfl⟩,go hg (by rw [y];simp;omega)⟩
  ·rintro t _ ⟨x,B,⟨J,rfl⟩,d,Y,Z,u⟩ E K;have hX:fY ab s.xs=ae:=by rw [u];simp [fY]
   apply ai;simp;refine aF (hQ _ _ ?_);simp [hS,hX]
theorem e9{a b:Int}(h:0≤a)(g:0<b)(d:a≤9223372036854775807):bM .quo (vi a) (vi b)=aa (vi (a / b)):=by
 rw [oq (by omega),akN h,wrap64 (akk (by omega) (ake h (by omega))) (akk (akm _ h) d)]
theorem eP{a b:Int}(h:0≤a)(d:0<b):bM .rem (vi a) (vi b)=aa (vi (a % b)):=by
 rw [gO (by omega),akt h]
theorem adH{a b:Int}(h:a≤0)(m:0<b)(l:-9223372036854775807≤a):bM .quo (vi a) (vi b)=aa (vi (-((-a) / b))):=by
 have g:(-a) / b≤-a:=akm _ (by omega);have j:0≤(-a) / b:=ake (by omega) (by omega);have d:a.tdiv b = -((-a) / b):=by
  have:a = -(-a):=by omega
  rw [this,Int.neg_tdiv,akN (by omega)];simp
 rw [oq (by omega),d,aM]
theorem adK{a b:Int}(h:a≤0)(g:0<b):bM .rem (vi a) (vi b)=aa (vi (-((-a) % b))):=by
 have d:a.tmod b = -((-a) % b):=by
  have:a = -(-a):=by omega
  rw [this,Int.neg_tmod,akt (by omega)];simp
 rw [gO (by omega),d]
theorem yC(a b:Int)(B:1≤b)(A:-4611686018427387904≤a)(g:a≤4611686018427387904):bR tab 68 [vi a,vi b]=Eq (.t [vi (a / b),vi 0]):=bR.eq (by
 refine bY rfl rfl fun Q d=>?_;apply ai;simp;apply aq;apply ai;simp;refine aG (by simp;omega) (aP ?_);by_cases h:0≤a
 ·apply ai;simp [e9 h (show 0<b by omega) (by omega)];apply aq;apply ai;have:=ajV a (show b≠0 by omega);simp [eP h (show 0<b by omega)];refine aG (by simp;omega) (aP ?_);apply ai;simp;refine aF (d _ _ ?_);simp
 ·apply ai;simp [adH (show a≤0 by omega) (show 0<b by omega) (by omega)];apply aq;apply ai;have e:=ajV (-a) (show b≠0 by omega);have j:=ajT (-a) (show 0<b by omega);have q:0≤(-a) / b:=ake (by omega) (by omega);have m:(-a) / b≤-a:=akm _ (by omega);have l:=Int.mul_ediv_add_emod (-a) b;simp [adK (show a≤0 by omega) (show 0<b by omega)];by_cases s:(-a) % b=0
  ·refine aG (by simp;omega) (aP ?_);apply ai;simp;refine aF (d _ _ ?_);have:a / b = -(-a / b):=by
    refine Int.ediv_eq_of_eq_mul_right (by omega) ?_;rw [ald];omega
   simp [this]
  ·refine aw (by simp;omega) ?_;refine au (.inl rfl) ?_;simp [aM (n:=-(-a / b)-1)];apply ai;simp;refine aF (d _ _ ?_);have:a / b = -(-a / b)-1:=by
    have u:=ajV a (show b≠0 by omega);have v:=ajT a (show 0<b by omega);have x:=Int.mul_ediv_add_emod a b;have y:b*(a / b+(-a) / b+1)=b-a % b-(-a) % b:=by rw [Int.mul_add,Int.mul_add];omega
    have z:a / b+(-a) / b+1=0:=by
     rcases Int.lt_trichotomy (a / b+(-a) / b+1) 0 with h | h | h
     ·have:b*(a / b+(-a) / b+1)≤b*(-1):=ajq (by omega) (by omega);omega
     ·exact h
     ·have:b*1≤b*(a / b+(-a) / b+1):=ajq (by omega) (by omega);omega
    omega
   simp [this])
theorem oD(a:Int)(g:-4611686018427387904≤a)(b:a≤4611686018427387904):bR tab 35 [vi a]=Eq (vi (a / 1440)):=Kf.eq (by
 refine dO rfl rfl fun H Q d=>?_;apply ai;simp;apply ai;simp [yC a 1440 (by omega) g b];apply ai;simp;refine aF (d _ _ ?_);simp)
def dw(len b d:Int):aN:=⟨d,d*1440+b,d*1440+b+len⟩
def pH(n:Int):Prop:=-1000000000000000≤n∧n≤1000000000000000
theorem rM(g j l:FC)(len b d:Int)(q:pH len)(s:pH b)(u:pH d) :
  bR tab 26 [.a [.f g,.f (fi len),.f j],.a [.f l,.f (fi b)],vi d]=Eq (.a ((dw len b d).row.map .f)):=bR.eq (Kf.adG (by
 unfold pH at *;refine dO rfl rfl fun H Q m=>?_;apply ai;simp;apply ai;simp [aM (n:=d*1440),aM (n:=d*1440+b)];apply ai;simp [aM (n:=d*1440+b+len)];refine aF (m _ _ ?_);simp [dw,aN.row]))
theorem zC{u m:Int}(b:0<m):(u.tmod m+m).tmod m=u % m:=by
 have d:=Int.tmod_lt_of_pos u b;have g:=Int.lt_tmod_of_pos u b;rw [akt (by omega),Int.add_emod_right];exact ala.2 (by
  have:=Int.tmod_add_mul_tdiv u m;have e:u.tmod m-u = -(m*u.tdiv m):=by omega
  rw [e];exact Int.emod_eq_zero_of_dvd (Int.dvd_neg.2 (akR _ _)))
theorem yE{x y:Int}(m:1<x)(h:ajU x y=1):1≤y % x:=by
 have l:=ajV y (show x≠0 by omega);rcases akq 0 (y % x)with d | d
 ·omega
 ·exfalso;have g:y % x=0:=by omega
  have j:x ∣ y:=Int.dvd_of_emod_eq_zero g;have b:x ∣ (ajU x y:Int):=Int.dvd_coe_gcd (akw x) j;rw [h]at b;have:=aj7 (by decide) b;omega
theorem Ai{a m:Int}(a0:0≤a)(a1:a≤1099511627776)(m0:2≤m)(m1:m≤1000000)(hg:ajU a m=1) :
  ∃ x,0≤x∧x<m∧m ∣ a*x-1∧bR tab 207 [vi a,vi m]=Eq (vi x):=by
 obtain⟨rr,⟨x,o,p,r,rfl⟩,hp⟩:∃ rr,(∃ x,0≤x∧x<m∧m ∣ a*x-1∧rr=vi x)∧bR tab 207 [vi a,vi m] rr:=by
  have hr:=eP (a:=a) (b:=m) a0 (by omega);have a7:=ajV a (show m≠0 by omega);have H:=ajT a (show 0<m by omega);have l:ajU (a % m) m=1:=by
   have e:a % m=a-a / m*m:=by have:=ajS a m;rw [aj1 (a / m)];omega
   rw [e,Int.gcd_sub_mul_right_left];exact hg
  have Z:1≤a % m:=by
   rcases akq 0 (a % m)with h | h
   ·omega
   ·exfalso;have h0:a % m=0:=by omega
    rw [h0]at l;simp at l;omega
  refine fu rfl rfl fun Q hQ=>?_;apply ai;simp;apply ai;simp [hr];refine aq (az ?_);refine bJ (fun n s=>∃(x y u v U V:Int) (t:T),s=⟨t,[],[]⟩∧(n:Int)=x∧t.g 1=vi m∧t.g 5=vi x∧t.g 6=vi y∧t.g 7=vi u∧t.g 8=vi v∧1≤x∧x<y∧y≤m∧ajU x y=1∧m ∣ a*u-x∧m ∣ a*v-y ∧
   0≤U∧0≤V∧(u=U∧v = -V∨u = -U∧v=V)∧U*y+V*x=m) (a % m).toNat
   ⟨a % m,m,1,0,1,0,_,rfl,by omega,by simp,by simp,by simp,by simp,by simp,Z,H,by omega,l,?_,?_,by decide,by decide,.inl ⟨rfl,rfl⟩,by omega⟩ ?_
  ·refine⟨a / m,?_⟩;have:=ajS a m;omega
  ·exact⟨-1,by omega⟩
  rintro n s ⟨x,y,u,v,U,V,t,rfl,hn,f,I,i,k,g8,o,p,r,w,M,h6,A,h8,h9,J⟩ ih;have a_:U≤U*y:=by have:=ajq (show(1:Int)≤y by omega) A;omega
  have c9:0≤V*x:=akf h8 (by omega);have a8:U≤m:=by omega
  have b_:V≤m:=by
   have K:V≤V*x:=by have:=ajq (show(1:Int)≤x by omega) h8;omega
   have L:0≤U*y:=akf A (by omega);omega
  refine aq (ai ?_);simp [I];by_cases hx:1<x
  ·
   have B:0≤y / x:=ake (by omega) (by omega);have X:y / x≤y:=akm _ (by omega);have E:=e9 (a:=y) (b:=x) (by omega) (by omega) (by omega);obtain⟨q,hq⟩:=aL (y / x);have j:=ajS y x;have O:=yE hx w;have S:=ajT y (show 0<x by omega);rw [←hq]at B X E j;obtain⟨g,Y⟩:=aL (y % x);rw [←Y]at j O S;have d_:q*x=y-g:=by rw [aj1];omega
   obtain⟨W,hW⟩:=aL (V+q*U);have d9:0≤q*U:=akf B A;have N:W*x+U*g=m:=by
    rw [hW,Int.add_mul,←J,show g=y-q*x by omega,ale,ak1 q U x,alv q U x];omega
   have c_:W≤m:=by
    have K:W≤W*x:=by have:=ajq (show(1:Int)≤x by omega) (show 0≤W by omega);omega
    have L:0≤U*g:=akf A (by omega);omega
   have d:(u=U→q*u=q*U)∧(u = -U→q*u = -(q*U)):=⟨fun e=>by rw [e],fun e=>by rw [e,ald]⟩
   have hb:-m≤q*u∧q*u≤m:=by
    rcases h9 with⟨e,-⟩ | ⟨e,-⟩
    ·rw [d.1 e];omega
    ·rw [d.2 e];omega
   have f7:-m≤v∧v≤m:=by omega
   have c:=aM (n:=q*x);have w2:ah .i64 (y-q*x)=g:=by rw [aM];omega
   have w3:=aM (n:=q*u);have w4:=aM (n:=v-q*u);refine aw (by simp [hx]) (aP ?_);refine az (ai ?_);simp [I,i,E];apply ai;simp [I,i,c,w2];refine au (.inl rfl) ?_;simp [k,g8,w3,w4];refine ax (ih g.toNat _ (by omega) ⟨g,x,v-q*u,u,W,U,_,rfl,by omega,by simp [f],by simp,by simp,by simp,by simp,by omega,by omega,by omega,?_,?_,M,by omega,A,?_,N⟩)
   ·rw [show g=y-q*x by omega,Int.gcd_sub_mul_right_left,Int.gcd_comm];exact w
   ·have e:a*(v-q*u)-g=(a*v-y)-q*(a*u-x):=by
     rw [ale,ale,alv a q u];omega
    rw [e];exact akH h6 (Int.dvd_mul_of_dvd_right M)
   ·rcases h9 with⟨z,e2⟩ | ⟨z,e2⟩
    ·exact .inr ⟨by rw [d.1 z];omega,z⟩
    ·exact .inl ⟨by rw [d.2 z];omega,z⟩
  ·
   have F:x=1:=by omega
   subst F;have e_:-m≤u∧u≤m:=by omega
   have t1:=Int.tmod_lt_of_pos u (show 0<m by omega);have t2:=Int.lt_tmod_of_pos u (show 0<m by omega);have r1:bM .rem (vi u) (vi m)=aa (vi (u.tmod m)):=gO (by omega);have r2:bM .rem (vi (u.tmod m+m)) (vi m)=aa (vi (u % m)):=by rw [gO (by omega),zC (by omega)]
   have c:=aM (n:=u.tmod m+m);refine aG (by simp) (bw rfl ?_);apply ai;simp [f,k,r1,c,r2];refine aF (hQ _ _ _ ⟨u % m,ajV _ (by omega),ajT _ (by omega),?_,rfl⟩ (by simp));have e:a*(u % m)-1=(a*u-1)-a*(u / m)*m:=by
    have:=ajS u m;rw [show u % m=u-m*(u / m) by omega,ale,ak1,aj1 m];omega
   rw [e];exact akH M (alk _ _)
 exact⟨x,o,p,r,hp.eq⟩
theorem XH{a s r p d:Int}(m:¬ (ajU s p:Int) ∣ r-a)(j:s ∣ d-a)(l:p ∣ d-r):False:=by
 apply m;have b:=aj8 (ak7 s p) j;have g:=aj8 (Int.gcd_dvd_right s p) l;have:=akH b g;rwa [show d-a-(d-r)=r-a by omega]at this
theorem XG{a s r p g n t:Int}(q:g=(ajU s p:Int))(E:0<p)(F:0<s)(z:p=n*g)(hd:g ∣ r-a)(B:n ∣ t*(s / g)-(r-a) / g) :
  (∀ d,s ∣ d-a∧p ∣ d-r↔(s*n) ∣ d-(a+t*s))∧0<g∧0<n:=by
 have l:0<g:=by
  rw [q];have:=akg p (show s≠0 by omega);omega
 have u:0<n:=by
  rcases Int.lt_trichotomy n 0 with h | h | h
  ·have:=Int.mul_neg_of_neg_of_pos h l;omega
  ·subst h;omega
  ·exact h
 have x:s / g*g=s:=als (q▸ak7 s p);have v:(r-a) / g*g=r-a:=als hd;have j:p ∣ a+t*s-r:=by
  obtain⟨k,A⟩:=B;refine⟨k,?_⟩;have:a+t*s-r=(t*(s / g)-(r-a) / g)*g:=by
   rw [Int.sub_mul,v,ak1,x];omega
  rw [this,A,z,Int.mul_right_comm]
 have y:(Int.lcm s p:Int)=s*n:=by
  have b:((ajU s p*Int.lcm s p:Nat):Int)=s*p:=by
   rw [Int.gcd_mul_lcm,akZ,Int.natAbs_of_nonneg (by omega),Int.natAbs_of_nonneg (by omega)]
  rw [akZ,←q]at b;have m:g*(Int.lcm s p:Int)=g*(s*n):=by rw [b,z,←ak1,aj1]
  exact Int.eq_of_mul_eq_mul_left (by omega) m
 refine⟨fun d=>⟨fun⟨b,m⟩=>?_,fun h=>⟨?_,?_⟩⟩,l,u⟩
 ·rw [←y];refine Int.coe_lcm_dvd ?_ ?_
  ·have:d-(a+t*s)=d-a-t*s:=by omega
   rw [this];exact akH b (alk t s)
  ·have:d-(a+t*s)=d-r-(a+t*s-r):=by omega
   rw [this];exact akH m j
 ·have b:=aj8 (akR s n) h;have:d-a=d-(a+t*s)+t*s:=by omega
  rw [this];exact Int.dvd_add b (alk t s)
 ·have b:p ∣ d-(a+t*s):=aj8 (by rw [←y];exact Int.dvd_lcm_right s p) h;have:d-r=d-(a+t*s)+(a+t*s-r):=by omega
  rw [this];exact Int.dvd_add b j
theorem oU{a b n:Int}:a % n=b % n↔n ∣ a-b:=ala.trans Int.dvd_iff_emod_eq_zero.symm
abbrev clV(at' st:Int):V:=.a [.f (.int .i64 at'),.f (.int .i64 st)]
theorem YE{a s r p:Int}(a0:0≤a)(a1:a<s)(s1:s≤1000000)(r0:0≤r)(r1:r<p)(p1:p≤1000) :
  (∃ a' i,0≤a'∧a'<i∧i≤s*p∧(∀ d,s ∣ d-a∧p ∣ d-r↔i ∣ d-a')∧bR tab 153 [clV a s,vi r,vi p]=Eq (.t [clV a' i,vb ae])) ∨
  ((∀ d,¬ (s ∣ d-a∧p ∣ d-r))∧bR tab 153 [clV a s,vi r,vi p]=Eq (.t [clV 0 0,vb ag])):=by
 have s0:0<s:=by omega
 have p0:0<p:=by omega
 obtain⟨g,x⟩:=aL ((ajU s p:Int):Int);have a8:ajU s p=akb s.toNat p.toNat:=by
  show akb s.natAbs p.natAbs=_;rw [show s.natAbs=s.toNat by omega,show p.natAbs=p.toNat by omega]
 have a_:g ∣ s:=x▸ak7 s p;have K:g ∣ p:=x▸Int.gcd_dvd_right s p;have l:0<ajU s p:=akg p (by omega);have g0:0<g:=by rw [x];exact Int.natCast_pos.2 l
 have gp:g≤p:=aj7 p0 K;obtain⟨n,f⟩:=aL (p / g);have W:p=n*g:=by rw [f,als K]
 have A:0<n:=by
  rcases akq 0 n with h | h
  ·exact h
  ·have:=Int.mul_nonneg_of_nonpos_of_nonpos (a:=n) (b:=-g) h (by omega);rw [ald]at this;omega
 have np:n≤p:=by
  have:=ajq (show(1:Int)≤g by omega) (show 0≤n by omega);omega
 have j:bR tab 122 [vi s,vi p]=Eq (vi g):=by
  have h:=vV (a:=s.toNat) (b:=p.toNat) (by omega) (by omega);rw [show((s.toNat:Nat):Int)=s by omega,show((p.toNat:Nat):Int)=p by omega,←a8,←x]at h;exact h
 have b0:∀ {L:an},aU (.box [.f (fi a),.f (fi s)] 0::L) ab (.c (.ptr 0 0 0))=aa (vi a)∧aU (.box [.f (fi a),.f (fi s)] 0::L) ab (.c (.ptr 0 1 0))=aa (vi s)∧aU (.box [.f (fi a),.f (fi s)] 0::L) (aa 2) (.c (.ptr 0 0 0))=aa (clV a s):=by
  intro L;refine⟨?_,?_,?_⟩<;>simp [aU,aC,aW]
 have q:=aM (n:=r-a);have E:bM .rem (vi (r-a)) (vi g)=aa (vi ((r-a).tmod g)):=gO (by omega);have z:¬ (s=0):=by omega
 by_cases hd:g ∣ r-a
 ·left;have m:(r-a).tmod g=0:=Int.tmod_eq_zero_of_dvd hd;by_cases y:n=1
  ·
   have M:p=g:=by rw [W,y,Int.one_mul]
   refine⟨a,s,a0,a1,?_,fun d=>⟨fun h=>h.1,fun h=>⟨h,?_⟩⟩,bR.eq ?_⟩
   ·have:=ajq (show(1:Int)≤p by omega) (show 0≤s by omega);omega
   ·rw [M];have:=akH (aj8 a_ h) hd;rwa [show d-a-(r-a)=d-r by omega]at this
   ·have B:bM .quo (vi p) (vi g)=aa (vi n):=by rw [e9 (by omega) g0 (by omega),←f]
    refine bY rfl rfl fun Q H=>?_;apply ai;simp;refine aq (ai ?_);simp [b0,-ay,z];refine a6 (by simp) ?_;apply ai;simp [b0,-ay,j];refine aq (ai ?_);simp [b0,-ay,q,E,m];refine a6 (by simp) ?_;apply ai;simp [B];refine aq (ai ?_);simp [y];refine aw (by simp) ?_;apply ai;simp [b0,-ay];refine aF (H _ _ ?_);simp
  ·
   have n2:2≤n:=by omega
   have Y:0≤s / g:=ake (by omega) (by omega);have f8:s / g≤s:=akm _ (by omega);have I:ajU (s / g) n=1:=by rw [f,x];exact Int.gcd_ediv_gcd_ediv_gcd l
   obtain⟨v,o,v1,hv,O⟩:=Ai Y (by omega) n2 (by omega) I;obtain⟨w,hw⟩:=aL (((r-a) / g) % n);have w0:0≤w:=by rw [hw];exact ajV _ (by omega)
   have w1:w<n:=by rw [hw];exact ajT _ A
   obtain⟨t,ht⟩:=aL ((w*v) % n);have t0:0≤t:=by rw [ht];exact ajV _ (by omega)
   have t1:t<n:=by rw [ht];exact ajT _ A
   have S:n ∣ t*(s / g)-(r-a) / g:=by
    obtain⟨k,hk⟩:=hv;have e1:t=w*v-n*(w*v / n):=by have:=ajS (w*v) n;omega
    have e2:w=(r-a) / g-n*((r-a) / g / n):=by have:=ajS ((r-a) / g) n;omega
    have e3:t*(s / g)-(r-a) / g=w*(s / g*v-1)-n*(w*v / n)*(s / g)-n*((r-a) / g / n):=by
     rw [e1,Int.sub_mul,ale,ak1 w v,aj1 v (s / g)];omega
    rw [e3,hk];refine akH (akH ?_ ?_) (akR _ _)
    ·exact⟨w*k,by rw [alv]⟩
    ·exact⟨w*v / n*(s / g),by rw [ak1]⟩
   obtain⟨N,-,-⟩:=XG x p0 s0 W hd S;have g_:0≤t*s:=akf t0 (by omega);have h_:t*s≤(n-1)*s:=alo (by omega) (by omega);have i4:(n-1)*s=n*s-s:=by rw [Int.sub_mul,Int.one_mul]
   have f7:n*s≤1000*1000000:=ako (by omega) s1 (by omega) (by decide);have i6:s*n=n*s:=aj1 _ _;have Z:0≤w*v:=akf w0 o;have i3:w*v≤1000*1000:=ako (by omega) (by omega) o (by decide);have f_:0≤n*s:=akf (by omega) (by omega);refine⟨a+t*s,s*n,by omega,by omega,?_,N,bR.eq ?_⟩
   ·exact ajq np (by omega)
   ·have B:bM .quo (vi p) (vi g)=aa (vi n):=by rw [e9 (by omega) g0 (by omega),←f]
    have a7:bM .quo (vi (r-a)) (vi g)=aa (vi ((r-a) / g)):=by
     rw [oq (by omega),Int.tdiv_eq_ediv_of_dvd hd];have hb:-1000000≤(r-a) / g∧(r-a) / g≤1000000:=by
      obtain⟨k,hk⟩:=hd;rw [hk,Int.mul_ediv_cancel_left _ (by omega)];constructor
      ·rcases akq k (-1000000)with h | h
       ·have:=ajq (show k≤-1000001 by omega) (show 0≤g by omega);omega
       ·omega
      ·rcases akq 1000000 k with h | h
       ·have:=ajq (show(1000001:Int)≤k by omega) (show 0≤g by omega);omega
       ·omega
     rw [aM]
    have d9:bM .rem (vi ((r-a) / g)) (vi n)=aa (vi (((r-a) / g).tmod n)):=gO (by omega);have tl:=Int.tmod_lt_of_pos ((r-a) / g) A;have tg:=Int.lt_tmod_of_pos ((r-a) / g) A;have d_:=aM (n:=((r-a) / g).tmod n+n);have U:bM .rem (vi (((r-a) / g).tmod n+n)) (vi n)=aa (vi w):=by rw [gO (by omega),zC A,←hw]
    have e_:bM .quo (vi s) (vi g)=aa (vi (s / g)):=e9 (by omega) g0 (by omega);have uw:IntKind.wrap .u64 w=w:=iB w0 (by omega);have uv:IntKind.wrap .u64 v=v:=iB o (by omega);have un:IntKind.wrap .u64 n=n:=iB (by omega) (by omega);have us:IntKind.wrap .u64 s=s:=iB (by omega) (by omega);have b_:=sE w0 (show w≤2147483648 by omega) o (show v≤2147483648 by omega);have X:=Tu (a:=0) (b:=n) (by decide) A;rw [Int.zero_emod]at X;have J:=RE Z (show w*v≤9223372036854775807 by omega) A (show n≤9223372036854775807 by omega);rw [←ht]at J;have c9:=sE t0 (show t≤2147483648 by omega) (show 0≤s by omega) (show s≤2147483648 by omega);have c_:=sE (show 0≤s by omega) (show s≤2147483648 by omega) (show 0≤n by omega) (show n≤2147483648 by omega);have u:=aM (n:=t*s);have fa:=aM (n:=1152921504606846976-a);have c1:¬ (1152921504606846976<t*s):=by omega
    have c2:¬ (1152921504606846976-a<t*s):=by omega
    have F:=aM (n:=a+t*s);have c:=aM (n:=s*n);have c3:s*n≤1152921504606846976:=by omega
    refine bY rfl rfl fun Q H=>?_;apply ai;simp;refine aq (ai ?_);simp [b0,-ay,z];refine a6 (by simp) ?_;apply ai;simp [b0,-ay,j];refine aq (ai ?_);simp [b0,-ay,q,E,m];refine a6 (by simp) ?_;apply ai;simp [B];refine aq (ai ?_);simp [y];refine a6 (by simp) ?_;apply ai;simp [b0,-ay,q,a7,d9,d_,U];apply ai;simp [b0,-ay,uw,e_,O,uv,b_];apply ai;simp [un,X,J];apply ai;simp [b0,-ay,us,c9];refine aq (ai ?_);simp [b0,-ay,c1,u,fa,c2];refine a6 (by simp) ?_;apply ai;simp [b0,-ay,u,F];refine aq (ai ?_);simp [b0,-ay,us,un,c_];apply ai;simp [c3];refine aw (by simp) (au (.inl rfl) ?_);simp [c];apply ai;simp;refine aF (H _ _ ?_);simp
 ·right;refine⟨fun d h=>XH (fun e=>hd (x▸e)) h.1 h.2,bR.eq ?_⟩;have m:¬ (r-a).tmod g=0:=fun e=>hd (Int.dvd_of_tmod_eq_zero e);refine bY rfl rfl fun Q H=>?_;apply ai;simp;refine aq (ai ?_);simp [b0,-ay,z];refine a6 (by simp) ?_;apply ai;simp [b0,-ay,j];refine aq (ai ?_);simp [b0,-ay,q,E,m];refine aw (by simp) ?_;apply ai;simp;refine aF (H _ _ ?_);simp
theorem qy(a b:Int):Kf tab 201 [vi a,vi b] (vb (decide (a<b))):=by
 refine dO rfl rfl fun H Q d=>?_;apply ai;simp;apply ai;simp [oG];refine aF (d _ _ ?_);simp [oG]
theorem ZK(a:Int):bR tab 222 [vi a]=Eq (vb ag):=Kf.eq (by
 refine dO rfl rfl fun H Q b=>?_;apply ai;simp;apply ai;simp;refine aF (b _ _ ?_);simp)
theorem fH(g:Tg)(l:List Int)(n:Int)(hl:l.length≤1000000000)(o:l.Pairwise (· < ·)) :
  ∃ i:Nat,i≤l.length∧(∀ j (d:j<l.length),j<i→l[j]<n)∧(∀ j (d:j<l.length),i≤j→n≤l[j]) ∧
   bR tab 184 [.c (.f (sl g (ints l))),vi n]=Eq (.t [vi i,vb (decide (n ∈ l))]):=by
 obtain⟨r,⟨i,c,f,O,rfl⟩,h⟩:∃ r,(∃ i:Nat,i≤l.length∧(∀ j (d:j<l.length),j<i→l[j]<n)∧(∀ j (d:j<l.length),i≤j→n≤l[j])∧r=.t [vi i,vb (decide (n ∈ l))]) ∧
   bR tab 184 [.c (.f (sl g (ints l))),vi n] r:=by
  refine fu rfl rfl fun Q S=>?_;have A:=fun(a b:Int) (H:an)=>(qy a b).ev H;have y:∀ i j (hi:i<j) (d:j<l.length),l[i]<l[j]:=fun i j hi d=>List.pairwise_iff_getElem.1 o i j (by omega) d hi;apply ai;simp;apply ai;simp;apply ai;simp;apply aq;refine az ?_;refine bJ (fun m s=>∃(lo hi:Nat) (t:T) (J:an),s=⟨t,[],J⟩∧m=hi-lo∧lo≤hi∧hi≤l.length∧t.g 0=.c (.f (sl g (ints l)))∧t.g 1=vi n∧t.g 6=vi l.length∧t.g 7=vi lo∧t.g 8=vi hi ∧
   (∀ j (d:j<l.length),j<lo→l[j]<n)∧(∀ j (d:j<l.length),hi≤j→n≤l[j])) l.length
   ⟨0,l.length,_,_,rfl,by omega,by omega,by omega,by simp,by simp,by simp,by simp,by simp,by simp,by intros;omega⟩ ?_
  rintro m s ⟨lo,hi,t,J,rfl,rfl,k,z,E,F,K,I,N,u,v⟩ next
  apply aq;apply ai;simp [I,N];by_cases W:lo<hi
  ·refine aw (by simp [W]) (aP ?_);obtain⟨q,hq⟩:=aL ((lo+hi) / 2);have L:q<l.length:=by omega
   have Z:bM BinOp.shr (V.c (C.f (FC.int IntKind.u64 (IntKind.u64.wrap ((lo:Int)+hi))))) (V.c (C.f (FC.int IntKind.u64 1)))=aa (.c (.f (.int .u64 (q:Int)))):=by
    have:IntKind.u64.wrap ((lo:Int)+hi)=(lo:Int)+hi:=by
     show((lo:Int)+hi) % 18446744073709551616=_;omega
    rw [this];show aa (V.c (C.f (FC.int IntKind.u64 (Int.fdiv ((lo:Int)+hi) (2 ^ (min (1:Int).toNat IntKind.u64.bits))))))=_;have O:Int.fdiv ((lo:Int)+hi) (2 ^ (min (1:Int).toNat IntKind.u64.bits))=q:=by
     show Int.fdiv ((lo:Int)+hi) 2=q;rw [Int.fdiv_eq_ediv_of_nonneg _ (by omega)];omega
    rw [O]
   have p:=aM (n:=(lo:Int)+hi);have Y:ah .i64 (q:Int)=q:=aM;refine az ?_;apply ai;simp [I,N,p,Z,Y];apply ai;simp [E,F,bH,L,dY,A];by_cases U:l[q]<n
   ·refine aw (by simp [U]) ?_;refine au (.inl rfl) ?_;simp [aM (n:=(q:Int)+1)];refine ax (next (hi-(q+1)) _ (by omega) ⟨q+1,hi,_,_,rfl,rfl,by omega,by omega,by simp [E],by simp [F],by simp [K],by simp,by simp [N],fun j d h=>?_,v⟩);by_cases e:j=q
    ·subst e;exact U
    ·have:=y j q (by omega) L;omega
   ·refine aG (by simp [U]) ?_;refine au (.inl rfl) ?_;simp;refine ax (next (q-lo) _ (by omega) ⟨lo,q,_,_,rfl,rfl,by omega,by omega,by simp [E],by simp [F],by simp [K],by simp [I],by simp,u,fun j d h=>?_⟩);by_cases e:j=q
    ·subst e;omega
    ·have:=y q j (by omega) d;omega
  ·have:lo=hi:=by omega
   subst this;refine aG (by simp) ?_;refine bw rfl ?_;apply ai;by_cases x:lo<l.length
   ·have w:=v lo x (by omega);by_cases M:l[lo]=n
    ·simp [E,F,K,I,x,bH,dY,M];refine aF (S _ _ _ ⟨lo,z,u,v,rfl⟩ ?_);have:n ∈ l:=M▸IT x;simp [this]
    ·have B:n ∉ l:=fun X=>by
      obtain⟨j,d,rfl⟩:=ajn X;rcases Nat.lt_trichotomy j lo with h | h | h
      ·have:=u j d h;omega
      ·subst h;exact M rfl
      ·have:=y lo j h d;omega
     simp [E,F,K,I,x,bH,dY,M,ZK];refine aF (S _ _ _ ⟨lo,z,u,v,rfl⟩ ?_);simp [B]
   ·have B:n ∉ l:=fun X=>by
     obtain⟨j,d,rfl⟩:=ajn X;have:=u j d (by omega);omega
    simp [E,F,K,I,x];refine aF (S _ _ _ ⟨lo,z,u,v,rfl⟩ ?_);simp [B]
 exact⟨i,c,f,O,bR.eq h⟩
theorem lB{limit:Int}:∀ {l:List Int} {last:Int},dt limit last l=ae→l.Pairwise (· < ·)∧∀ c ∈ l,last<c∧c<limit
 | [],_,_=>⟨List.Pairwise.nil,by simp⟩
 | a::l,last,h=>by
  simp only [dt,BY,decide_eq_true_eq]at h;obtain⟨⟨g,j⟩,m⟩:=h;obtain⟨q,d⟩:=lB m;refine⟨akI.2 ⟨fun c b=>(d c b).1,q⟩,fun c b=>?_⟩;rcases ajB.1 b with rfl | b
  ·exact⟨g,j⟩
  ·have:=d c b;omega
theorem aV{p:aE}(h:cu p=ae):0≤p.fr∧p.fr≤1099511627776∧1≤p.aJ∧p.aJ≤1099511627776∧p.head.length+p.a5.length≤1048576∧p.head.Pairwise (· < ·)∧(∀ c ∈ p.head,-1<c∧c<p.fr)∧p.a5.Pairwise (· < ·)∧∀ c ∈ p.a5,-1<c∧c<p.aJ:=by
 unfold cu at h;simp only [BY,decide_eq_true_eq]at h;obtain⟨⟨⟨⟨⟨⟨j,l⟩,m⟩,q⟩,v⟩,s⟩,u⟩:=h;obtain⟨a1,b⟩:=lB s;obtain⟨d,g⟩:=lB u;exact⟨j,l,m,q,by omega,a1,b,d,g⟩
def bF(p:aE)(d:Int):Bool:=if p.fr≤d then decide ((d-p.fr) % p.aJ ∈ p.a5)else decide (d ∈ p.head)
def Day(d:Int):Prop:=d≤2305843009213693952
theorem uV(p:aE)(h:cu p=ae)(d:Int)(z:0≤d)(hd:Day d):bR tab 194 [.a (p.row.map .f),vi d]=Eq (vb (bF p d)):=Kf.eq (by
 obtain⟨A,B,E,F,I,s,K,u,L⟩:=aV h;unfold Day at hd;refine dO rfl rfl fun H Q v=>?_;have j:∀(t:T) (J:an) (g:Tg) (l:List Int) (n:Int),l.length≤1048576→l.Pairwise (· < ·)→t.g 5=.c (.f (sl g (ints l)))→t.g 6=vi n→bF p d=decide (n ∈ l)→WP tab 194 ab [.code wV] ⟨t,[],H++J⟩ Q:=by
  intro t J g l n M x m q e;obtain⟨i,-,-,-,y⟩:=fH g l n (by omega) x;apply ai;simp [m,q,y];apply ai;simp;refine aF (v _ _ ?_);simp [e]
 apply ai;simp [aE.row];apply ai;simp;apply aq;apply ai;simp;by_cases k:p.fr≤d
 ·refine aw (by simp [k]) ?_;refine au (.inl rfl) ?_;simp [aM (n:=d-p.fr),eP (a:=d-p.fr) (b:=p.aJ) (by omega) (by omega)];exact j _ _ p.cg p.a5 ((d-p.fr) % p.aJ) (by omega) u (by simp) (by simp) (by simp [bF,k])
 ·refine a6 (by simp [k]) ?_;exact j _ _ p.hg p.head d (by omega) s (by simp) (by simp) (by simp [bF,k]))
def hasB(p:aE)(d:Int):Bool:=decide (0≤d)&&bF p d
theorem Zc(p:aE)(h:cu p=ae)(d:Int)(hd:Day d):Kf tab 143 [.a (p.row.map .f),vi d] (vb (hasB p d)):=by
 refine dO rfl rfl fun H Q g=>?_;have b:=pR p (lu h);rw [h]at b;apply ai;simp [aE.row]at b ⊢;apply ai;by_cases k:0≤d
 ·have j:=uV p h d k hd;simp [aE.row]at j;simp [b,k,j];refine aF (g _ _ ?_);simp [hasB,k]
 ·simp [b,k];refine aF (g _ _ ?_);simp [hasB,k]
theorem Ig(p:aE)(h:cu p=ae)(d:Int)(hd:Day d):Kf tab 142 [.a (p.row.map .f),.c (.f (.fp [fi d] 0))] (vb (!hasB p d)):=by
 refine dO rfl rfl fun H Q g=>?_;have b:=(Zc p h d hd).eq;simp [aE.row]at b;have j:∀ H:an,aU H ab (.c (.f (.fp [fi d] 0)))=aa (vi d):=fun H=>by simp [aU,aC]
 apply ai;simp [aE.row];apply ai;simp [j,b];refine aF (g _ _ ?_);simp
def tD(l:List aE)(d:Int):Bool:=l.all fun p=>hasB p d
theorem aab(g:Tg)(l:List aE)(u:l.length≤9223372036854775807)(h:∀ p ∈ l,cu p=ae)(d:Int)(hd:Day d):Kf tab 94 [.c (.f (sl g (aH l))),vi d] (vb (tD l d)):=by
 refine dO rfl rfl fun H Q m=>?_;have q:=(gU Q5 (jT Q6 l aE.row (fun r=>.a (r.row.map .f)) (fun p=>!hasB p d) g 142 [.fp [fi d] 0] u
  (fun j s H=>dr (bA l) (cF s)) (fun p v=>Ig p (h p v) d hd))).eq
 have e:(!l.any fun p=>!hasB p d)=tD l d:=by
  rw [tD,Bool.eq_iff_iff];simp [List.any_eq_false,aji]
 apply ai;simp;apply ai;have b:bR tab 80 [.c (.f (sl g (aH l))),.c (.f (.fn 142 [.fp [fi d] 0]))]=Eq (vb (l.any fun p=>!hasB p d)):=q;simp [deep,Sf,Ay,b,e];refine aF (m _ _ ?_);simp
theorem acd(t:cz)(j:t.fs.length≤9223372036854775807)(h:∀ p ∈ t.fs,cu p=ae)(d:Int)(hd:Day d):Kf tab 93 [.c (.f (sl t.tg (aH t.fs))),.c (.f (.fp [fi d] 0))] (vb (tD t.fs d)):=by
 refine dO rfl rfl fun H Q g=>?_;have b:∀ H:an,aU H ab (.c (.f (.fp [fi d] 0)))=aa (vi d):=fun H=>by simp [aU,aC]
 apply ai;simp;apply ai;simp [b,(aab t.tg t.fs j h d hd).eq];refine aF (g _ _ ?_);simp
def yT(l:List cz)(d:Int):Bool:=ij l&&l.any fun t=>tD t.fs d
theorem gI{t:cz}(h:il t=ae):1≤t.fs.length∧t.fs.length≤4∧∀ p ∈ t.fs,cu p=ae:=by
 unfold il at h;simp only [BY,decide_eq_true_eq,aji]at h;exact⟨by omega,by omega,h.2⟩
theorem pQ{l:List cz}(h:ij l=ae):l.length≤64∧∀ t ∈ l,il t=ae:=by
 unfold ij at h;simp only [BY,decide_eq_true_eq,aji]at h;exact⟨by omega,h.2⟩
theorem YF(g:Tg)(l:List cz)(h:ij l=ae)(d:Int)(hd:Day d):bR tab 56 [.a [.f (sl g (aD l))],vi d]=Eq (vb (yT l d)):=Kf.eq (by
 obtain⟨z,m⟩:=pQ h;have s:=Se g l (by omega) (fun t b=>⟨by have:=(gI (m t b)).2.1;omega,fun p y=>lu ((gI (m t b)).2.2 p y)⟩);have v:=(gU zN (jT zO l cz.row (fun t=>.c (.f (sl t.tg (aH t.fs)))) (fun t=>tD t.fs d) g 93 [.fp [fi d] 0] (by omega)
  (fun j x H=>fZ (eM l) (fQ x) rfl) (fun t b=>acd t (by have:=(gI (m t b)).2.1;omega) (gI (m t b)).2.2 d hd))).eq
 have q:bR tab 74 [.c (.f (sl g (aD l))),.c (.f (.fn 93 [.fp [fi d] 0]))]=Eq (vb (l.any fun t=>tD t.fs d)):=v;rw [h]at s;refine dO rfl rfl fun H Q u=>?_;apply ai;simp;apply ai;simp [s,deep,Sf,Ay,q];refine aF (u _ _ ?_);simp [yT,h])
structure Mod(p:aE):Prop where
 ok:cu p=ae
 agN:p.aJ≤1000
def fe(p:aE)(c:Int):Int:=(p.fr % p.aJ+c) % p.aJ
theorem agh{x c p:Int}(d:0≤c)(g:c<p):x % p=c↔p ∣ x-c:=by
 have h:=oU (a:=x) (b:=c) (n:=p);rw [Int.emod_eq_of_lt d g]at h;exact h
theorem pe{p:aE}(h:Mod p){c:Int}(b:0≤c)(g:c<p.aJ):0≤fe p c∧fe p c<p.aJ∧∀ d,(d-p.fr) % p.aJ=c↔p.aJ ∣ d-fe p c:=by
 have j:0<p.aJ:=by omega
 refine⟨ajV _ (by omega),ajT _ j,fun d=>?_⟩;rw [agh b g];have e:p.aJ ∣ p.fr+c-fe p c:=by
  rw [←oU];unfold fe;rw [Int.emod_emod_of_dvd _ (akw _),Int.emod_add_emod]
 constructor
 ·intro k;have:=Int.dvd_add k e;rwa [show d-p.fr-c+(p.fr+c-fe p c)=d-fe p c by omega]at this
 ·intro k;have:=akH k e;rwa [show d-fe p c-(p.fr+c-fe p c)=d-p.fr-c by omega]at this
theorem qU{p:aE}(h:Mod p){c:Int}(d:c ∈ p.a5):0≤c∧c<p.aJ:=by
 obtain⟨-,-,-,-,-,-,-,-,b⟩:=aV h.ok;have:=b c d;omega
def hO(p:aE)(d:Int):Prop:=∃ c ∈ p.a5,p.aJ ∣ d-fe p c
theorem mw{p:aE}(h:Mod p){d:Int}(hd:p.fr≤d):bF p d=ae↔hO p d:=by
 unfold bF;rw [ba hd,decide_eq_true_eq];constructor
 ·intro j;obtain⟨a,b⟩:=qU h j;exact⟨_,j,((pe h a b).2.2 d).1 rfl⟩
 ·rintro⟨c,g,e⟩;obtain⟨a,b⟩:=qU h g;rw [((pe h a b).2.2 d).2 e];exact g
theorem sV(p:aE)(h:Mod p)(c:Int)(l:0≤c)(m:c<p.aJ):bR tab 121 [.a (p.row.map .f),vi c]=Eq (vi (fe p c)):=Kf.eq (by
 obtain⟨d,j,u,v,-⟩:=aV h.ok;have q:=ajV p.fr (show p.aJ≠0 by omega);have s:=ajT p.fr (show 0<p.aJ by omega);refine dO rfl rfl fun H Q g=>?_;apply ai;simp [aE.row];apply ai;simp [eP (a:=p.fr) (b:=p.aJ) d (by omega),aM (n:=p.fr % p.aJ+c),eP (a:=p.fr % p.aJ+c) (b:=p.aJ) (by omega) (by omega)];refine aF (g _ _ ?_);simp [fe])
def cA:List aE→Int
 | []=>0| p::l=>max p.fr (cA l)
theorem nh:∀ l:List aE,0≤cA l
 | []=>aky _| p::l=>by have:=nh l;simp only [cA];omega
theorem ng{p:aE}:∀ {l:List aE},p ∈ l→p.fr≤cA l
 | q::l,h=>by
  simp only [cA];rcases ajB.1 h with rfl | h
  ·omega
  ·have:=ng h;omega
theorem A1{l:List aE}{m:Int}(b:0≤m)(h:∀ p ∈ l,p.fr≤m):cA l≤m:=by
 induction l with
 | nil=>exact b
 | cons p l g=>
  have:=h p ajc;have:=g fun q d=>h q (ajb _ d);simp only [cA];omega
theorem zy(l:List aE)(p:aE):cA (l++[p])=max (cA l) p.fr:=by
 induction l with
 | nil=>simp only [ajZ,cA];omega| cons q l b=>simp only [List.cons_append,cA,b];omega
theorem Tn(g:Tg)(l:List aE)(z:l.length≤64):bR tab 151 [.c (.f (sl g (aH l)))]=Eq (vi (cA l)):=Kf.eq (by
 refine dO rfl rfl fun H Q y=>?_;apply ai;simp;apply ai;simp;apply aq;apply ai;simp;refine bU l.length (fun j t H'=>(∃ J,H'=H++J)∧t.g 6=.c (.f (sl g (aH l)))∧t.g 3=vi (cA (l.take j))) (by omega) (by decide) (by decide) (by simp) (by simp) ⟨⟨[],by simp⟩,by simp,by simp [cA]⟩ ?_ ?_
 ·rintro j t _ u ⟨⟨J,rfl⟩,q,m⟩ s x next
  have d:=fun H:an=>dr (H:=H) (bA l) (cF (l:=l) (j:=j) u);have b:=fun H:an=>bH (H:=H) (g:=g) (rows:=aH l) (sz:=4) (k:=.i64) (i:=j) (by omega) (by simpa using u);simp [aE.row]at d b;have v:l.take (j+1)=l.take j++[l[j]]:=by rw [aju,By u];rfl
  have e:cA (l.take (j+1))=max (cA (l.take j)) l[j].fr:=by rw [v,zy]
  refine az ?_;apply ai;simp [q,s,b,d];refine au (.inl rfl) ?_;simp [m];refine ax (next _ _ ?_ (by simp [s]) (by simp [x]));exact⟨⟨_,rfl⟩,by simp [q],by simp [e]⟩
 ·rintro t _ ⟨⟨J,rfl⟩,q,m⟩ s x;rw [ajr]at m;apply ai;simp [m];refine aF (y _ _ ?_);simp)
def wU(n a s:Int):Int:=if a<n then a+(n-a+s-1) / s*s else a
theorem Cq{n a s:Int}(x:0≤a)(y:a<s)(z:0≤n):n≤wU n a s∧s ∣ wU n a s-a∧wU n a s≤n+s∧∀ d,n≤d→s ∣ d-a→wU n a s≤d:=by
 have l:0<s:=by omega
 unfold wU;split
 ·have m:=ajS (n-a+s-1) s;have u:=ajV (n-a+s-1) (show s≠0 by omega);have v:=ajT (n-a+s-1) l;have g:(n-a+s-1) / s*s=s*((n-a+s-1) / s):=aj1 _ _;rw [g];generalize (n-a+s-1) / s=q at *;refine⟨by omega,⟨q,by omega⟩,by omega,?_⟩;rintro d hd ⟨k,j⟩;rcases akq k q with h | h
  ·have b:s*k≤s*(q-1):=ajq (by omega) (by omega);rw [ale,alm]at b;omega
  ·have b:s*q≤s*k:=ajq h (by omega);omega
 ·refine⟨by omega,⟨0,by omega⟩,by omega,?_⟩;rintro d hd ⟨k,j⟩;rcases akq k 0 with h | h
  ·have b:s*k≤s*(-1):=ajq (by omega) (by omega);omega
  ·have b:0≤s*k:=akf (by omega) h;omega
structure fE(S:Int→Prop)(l:Int)(f:Bool)(l':Int)(f':Bool):Prop where
 le:l'≤l
 fnd:f=ae→f'=ae
 src:(l'=l∧f'=f)∨(f'=ae∧S l')
 low:∀ d,S d→l'≤d∧(d≤l→f'=ae)
theorem fE.none{S:Int→Prop}{l:Int}{f:Bool}(h:∀ d,¬ S d):fE S l f l f:=⟨aky _,id,.inl ⟨rfl,rfl⟩,fun d hd=>absurd hd (h d)⟩
theorem fE.trans{S q s:Int→Prop}{l l1 l2:Int}{f u v:Bool}(h1:fE q l f l1 u)(h2:fE s l1 u l2 v)(m:∀ d,S d↔q d∨s d):fE S l f l2 v where
 le:=akk h2.le h1.le
 fnd h:=h2.fnd (h1.fnd h)
 src:=by
  rcases h2.src with⟨rfl,rfl⟩ | ⟨h,k⟩
  ·rcases h1.src with h | ⟨h,k⟩
   ·exact .inl h
   ·exact .inr ⟨h,(m _).2 (.inl k)⟩
  ·exact .inr ⟨h,(m _).2 (.inr k)⟩
 low d hd:=by
  have b:=h2.le;rcases(m d).1 hd with k | k
  ·obtain⟨a1,j⟩:=h1.low d k;exact⟨by omega,fun e=>h2.fnd (j e)⟩
  ·obtain⟨a1,j⟩:=h2.low d k;refine⟨a1,fun e=>?_⟩;rcases akq l1 d with g | g
   ·rcases h1.src with⟨rfl,rfl⟩ | ⟨h,-⟩
    ·omega
    ·exact h2.fnd h
   ·exact j g
theorem fE.iff{S S':Int→Prop}{l j:Int}{f b:Bool}(h:fE S l f j b)(g:∀ d,S' d↔S d):fE S' l f j b:=
 ⟨h.le,h.fnd,by rcases h.src with k | ⟨k,k'⟩;exact .inl k;exact .inr ⟨k,(g _).2 k'⟩,fun d hd=>h.low d ((g d).1 hd)⟩
theorem fE.one{S:Int→Prop}{l x:Int}{f:Bool}(g:S x)(b:∀ d,S d→x≤d):fE S l f (if x≤l then x else l) (f||decide (x≤l)) where
 le:=by split<;>omega
 fnd h:=by rw [h];rfl
 src:=by
  by_cases k:x≤l
  ·exact .inr ⟨by simp [k],by simpa [k]using g⟩
  ·exact .inl ⟨by simp [k],by simp [k]⟩
 low d hd:=by
  have:=b d hd;constructor
  ·split<;>omega
  ·intro e;simp [show x≤l by omega]
def LH(H:an)(g:Tg)(ps:List aE)(n least:Int)(found:Bool):Prop:=(∃ a,H[0]?=aa (.box [.f (sl g (aH ps))] a))∧H[1]?=aa (.box [.f (fi n)] 0)∧H[2]?=aa (.box [.f (fi least)] 0)∧H[3]?=aa (.box [.f (.bool found)] 0) ∧
 H[4]?=aa (.box [.cl 152 [.ptr 0 0 0,.ptr 4 0 0,.ptr 1 0 0,.ptr 2 0 0,.ptr 3 0 0]] 0)
theorem LH.push{H:an}{g:Tg}{ps:List aE}{n least:Int}{found:Bool}(h:LH H g ps n least found)(J:an):LH (H++J) g ps n least found:=by
 obtain⟨⟨a,h0⟩,h1,h2,h3,h4⟩:=h;refine⟨⟨a,?_⟩,?_,?_,?_,?_⟩
 ·rw [AT (aj h0)];exact h0
 ·rw [AT (aj h1)];exact h1
 ·rw [AT (aj h2)];exact h2
 ·rw [AT (aj h3)];exact h3
 ·rw [AT (aj h4)];exact h4
theorem HM(g:Tg)(ps:List aE)(H:an)(n least:Int)(found:Bool)(r s:Int)(o:LH H g ps n least found)(A:0≤r)(B:r<s)(F:s≤1000000)(p:0≤n)(w:n≤1000000000000) :
  ∃ v H',Ev tab (.fn 152) [vi ps.length,clV r s,.c (.ptr 0 0 0),.c (.ptr 4 0 0),.c (.ptr 1 0 0),.c (.ptr 2 0 0),.c (.ptr 3 0 0)] H v H' ∧
   (v=.t []∧LH H' g ps n (if wU n r s≤least then wU n r s else least) (found||decide (wU n r s≤least))∧∀ i:Nat,5≤i→i<H.length→H'[i]?=H[i]?):=by
 obtain⟨⟨E,c⟩,e,f,h,M⟩:=o;obtain⟨u1,-,u3,-⟩:=Cq A B p;have l4:=aj M;refine cM rfl rfl fun Q S=>?_;have m:∀(t:T) (q:an) (y:Int),y=wU n r s→t.g 8=.c (.ptr H.length 0 0)→t.g 4=.c (.ptr 1 0 0)→t.g 5=.c (.ptr 2 0 0)→t.g 6=.c (.ptr 3 0 0)→LH q g ps n least found→q[H.length]?=aa (.box [.f (fi y),.f (fi s)] 0)→(∀ i:Nat,5≤i→i<H.length→q[i]?=H[i]?) →
   WP tab 152 ab [.code xx] ⟨t,[],q⟩ Q:=by
  rintro t q _ rfl L Y K Z j W l;have q1:=j.2.1;have U:=j.2.2.1;have q3:=j.2.2.2.1;apply ai;simp [L,Y,K,W,q1,U,u1];by_cases k:wU n r s≤least
  ·refine aw (by simp [k]) ?_;have I:(q.set 2 (.box [.f (fi (wU n r s))] 0))[3]?=aa (.box [.f (.bool found)] 0):=by rw [sh (by decide)];exact q3
   refine au (.inl rfl) ?_;simp [L,K,Z,W,U,I];refine dh (S _ _ _ rfl rfl ⟨rfl,?_,fun i hi z=>by rw [sh (by omega),sh (by omega)];exact l i hi z⟩);obtain⟨⟨E,A⟩,B,F,N,O⟩:=j;refine⟨⟨E,?_⟩,?_,?_,?_,?_⟩
   ·rw [sh (by decide),sh (by decide)];exact A
   ·rw [sh (by decide),sh (by decide)];exact B
   ·rw [sh (by decide),If (aj F)];simp [k]
   ·rw [If (by rw [List.length_set];exact aj N)];simp [k]
   ·rw [sh (by decide),sh (by decide)];exact O
  ·refine a6 (by simp [k]) ?_;refine dh (S _ _ _ rfl rfl ⟨rfl,?_,l⟩);simpa [k]using j
 apply ai;simp;have d:=LH.push (H:=H) (g:=g) (ps:=ps) (n:=n) (least:=least) (found:=found) ⟨⟨E,c⟩,e,f,h,M⟩ [.box [.f (fi r),.f (fi s)] 0];have x:(H++[bZ.box [.f (fi r),.f (fi s)] 0])[H.length]?=aa (.box [.f (fi r),.f (fi s)] 0):=by simp
 have u:∀ i:Nat,5≤i→i<H.length→(H++[bZ.box [.f (fi r),.f (fi s)] 0])[i]?=H[i]?:=fun i _ z=>AT z;generalize H++[bZ.box [.f (fi r),.f (fi s)] 0]=q at d x u ⊢;obtain⟨a1,r0⟩:=d.1;have J:=d.2.1;apply aq;apply ai;simp [r0];refine a6 (by simp) ?_;apply aq;apply ai;by_cases k:r<n
 ·simp [J,x,k,show 0<s by omega];refine aw (by simp) ?_;have a7:wU n r s=r+(n-r+s-1) / s*s:=by unfold wU;rw [ba k]
  have hq:=e9 (a:=n-r+s-1) (b:=s) (by omega) (by omega) (by omega);have X:(n-r+s-1) / s*s=wU n r s-r:=by omega
  refine au (.inl rfl) ?_;simp [J,x,aM (n:=n-r),aM (n:=n-r+s),aM (n:=n-r+s-1),hq,X,aM (n:=wU n r s-r),aM (n:=r+(wU n r s-r))];refine m _ _ _ (show r+(wU n r s-r)=_ by omega) (by simp) (by simp) (by simp) (by simp) ?_ (If (aj x)) fun i hi z=>by rw [sh (by omega)];exact u i hi z
  obtain⟨⟨a1,A⟩,B,F,N,O⟩:=d;refine⟨⟨a1,?_⟩,?_,?_,?_,?_⟩
  all_goals (rw [sh (by omega)];assumption)
 ·simp [J,x,k];refine a6 (by simp) ?_;exact m _ _ r (by unfold wU;rw [aR k]) (by simp) (by simp) (by simp) (by simp) d x u
def ea:List aE→Int
 | []=>1| p::l=>p.aJ*ea l
theorem pS{l:List aE}(h:∀ p ∈ l,Mod p):1≤ea l:=by
 induction l with
 | nil=>exact aky _
 | cons p l j=>
  have b:=(aV (h p ajc).ok).2.2.1;have d:=j fun q g=>h q (ajb _ g);have:=ako b d (by decide) (by omega);simp only [ea];omega
def rz(ps:List aE)(n a s d:Int):Prop:=n≤d∧s ∣ d-a∧∀ p ∈ ps,hO p d
theorem af5(g:Tg)(ps:List aE)(hM:∀ p ∈ ps,Mod p)(j9:ps.length≤64)(n:Int)(hn:0≤n)(h_:n≤1000000000000) :
  ∀(k i:Nat),i+k=ps.length→∀(H:an) (least:Int) (found:Bool) (a s:Int),LH H g ps n least found→0≤a→a<s→s*ea (ps.drop i)≤1000000 →
  ∃ v H',Ev tab (.fn 152) [vi i,clV a s,.c (.ptr 0 0 0),.c (.ptr 4 0 0),.c (.ptr 1 0 0),.c (.ptr 2 0 0),.c (.ptr 3 0 0)] H v H' ∧
   (v=.t []∧∃ F z,LH H' g ps n F z∧fE (rz (ps.drop i) n a s) least found F z∧∀ i:Nat,5≤i→i<H.length→H'[i]?=H[i]?):=by
 intro k;induction k with
 | zero=>
  intro i hi H least found a s hH a0 a1 hs;have:i=ps.length:=by omega
  subst this;rw [akX]at hs ⊢;simp only [ea,alm]at hs;obtain⟨v,H',J,rfl,hL,hk⟩:=HM g ps H n least found a s hH a0 a1 hs hn h_;obtain⟨u1,u2,u3,u4⟩:=Cq (n:=n) a0 a1 hn;exact⟨_,H',J,rfl,_,_,hL,fE.one ⟨u1,u2,fun p hp=>absurd hp (List.not_mem_nil)⟩ (fun d hd=>u4 d hd.1 hd.2.1),hk⟩
 | succ k ih=>
  intro i hi H least found a s hH a0 a1 hs;have u:i<ps.length:=by omega
  obtain⟨p,hp⟩:=aL (ps[i]);have i3:p ∈ ps:=hp▸IT u;have L:=hM p i3;obtain⟨f0,f1,p0,p1,j8,-⟩:=aV L.ok;have b_:ps.drop i=p::ps.drop (i+1):=by rw [hp];exact ajh u
  have i4:=pS (l:=ps.drop (i+1)) fun q hq=>hM q (ajJ hq);have k_:s*p.aJ*ea (ps.drop (i+1))≤1000000:=by
   rw [b_]at hs;simp only [ea,←ak1]at hs;exact hs
  have j_:1≤s:=by omega
  have j4:s≤s*p.aJ:=by
   have:=ajq p0 (show 0≤s by omega);omega
  have j7:s*p.aJ≤1000000:=by
   have:=ajq i4 (show 0≤s*p.aJ by omega);omega
  refine cM rfl rfl fun Q hQ=>?_;have E:=fun H:an=>dr (H:=H) (bA ps) (cF (l:=ps) (j:=i) u);have m:=fun H:an=>mj (H:=H) (k:=3) (bA ps) (cF (l:=ps) (j:=i) u) rfl;have B:=fun H:an=>mj (H:=H) (k:=2) (bA ps) (cF (l:=ps) (j:=i) u) rfl;have A:=fun H:an=>bH (H:=H) (g:=g) (rows:=aH ps) (sz:=4) (k:=.i64) (i:=i) (by omega) (by simpa using u);rw [←hp]at E m B;simp [aE.row]at E A m B;have l4:=aj hH.2.2.2.2;apply ai;simp;have a7:=hH.push [.box [.f (fi a),.f (fi s)] 0];have K:(H++[bZ.box [.f (fi a),.f (fi s)] 0])[H.length]?=aa (.box [.f (fi a),.f (fi s)] 0):=by simp
  have c_:∀ i:Nat,5≤i→i<H.length→(H++[bZ.box [.f (fi a),.f (fi s)] 0])[i]?=H[i]?:=fun i _ hl=>AT hl;obtain⟨b8,f_⟩:=aL (H.length);rw [←f_]at K ⊢;generalize H++[bZ.box [.f (fi a),.f (fi s)] 0]=HH at a7 K c_ ⊢;obtain⟨q,q0⟩:=a7.1;apply aq;apply ai;simp [q0];refine aw (by simp [u]) ?_;apply aq;apply ai;simp [q0,A,m];refine bU p.a5.length (fun j t H'=>t.g 0=vi i∧t.g 2=.c (.ptr 0 0 0)∧t.g 3=.c (.ptr 4 0 0)∧t.g 8=.c (.ptr b8 0 0)∧t.g 21=.c (.f (sl p.cg (ints p.a5)))∧H'[b8]?=aa (.box [.f (fi a),.f (fi s)] 0) ∧
   ∃ l' U,LH H' g ps n l' U∧fE (fun d=>rz (ps.drop (i+1)) n a s d∧∃ c ∈ p.a5.take j,p.aJ ∣ d-fe p c) least found l' U∧∀ x:Nat,5≤x→x<H.length→H'[x]?=H[x]?) (by omega) (by decide) (by decide) (by simp) (by simp)
   ⟨by simp,by simp,by simp,by simp,by simp,K,_,_,a7,fE.none (by simp),c_⟩ ?_ ?_
  ·rintro j t H' hj ⟨g0,g2,g3,g8,O,K,l',U,I,hP,b⟩ ha hb next
   have hm:=qU L (IT hj);obtain⟨i9,i_,-⟩:=pe L hm.1 hm.2;have M:=sV p L p.a5[j] hm.1 hm.2;simp [aE.row]at M;have i8:p.a5.take (j+1)=p.a5.take j++[p.a5[j]]:=by rw [aju,By hj];rfl
   have d9:∀ d,(rz (ps.drop (i+1)) n a s d∧∃ c ∈ p.a5.take (j+1),p.aJ ∣ d-fe p c)↔(rz (ps.drop (i+1)) n a s d∧∃ c ∈ p.a5.take j,p.aJ ∣ d-fe p c)∨(rz (ps.drop (i+1)) n a s d∧p.aJ ∣ d-fe p p.a5[j]):=by
    intro d;rw [i8];simp only [aja,ai9];constructor
    ·rintro⟨h,c,hc | rfl,e⟩
     ·exact .inl ⟨h,c,hc,e⟩
     ·exact .inr ⟨h,e⟩
    ·rintro(⟨h,c,hc,e⟩ | ⟨h,e⟩)
     ·exact⟨h,c,.inl hc,e⟩
     ·exact⟨h,_,.inr rfl,e⟩
   obtain⟨a9,e0⟩:=I.1;have e4:=I.2.2.2.2;have j3:=aj K;refine az ?_;apply ai;simp [ha,O,bH,hj,dY];rcases YE a0 a1 (by omega) i9 i_ L.agN with⟨a',N,d_,e_,i6,c9,y⟩ | ⟨a_,y⟩
   ·apply ai;simp [g0,g2,g8,K,e0,A,E,B,M,y];have i7:N*ea (ps.drop (i+1))≤1000000:=by
     have:=alo i6 (show 0≤ea (ps.drop (i+1)) by omega);omega
    obtain⟨v,H2,J,rfl,l2,f2,f7,f8,a8⟩:=ih (i+1) (by omega) (H'++[.box [.f (fi a'),.f (fi N)] 0]) l' U a' N (I.push _) d_ e_ i7;have J:=J.eq;have k4:(H'++[bZ.box [.f (fi a'),.f (fi N)] 0])[4]?=aa (.box [.cl 152 [.ptr 0 0 0,.ptr 4 0 0,.ptr 1 0 0,.ptr 2 0 0,.ptr 3 0 0]] 0):=by rw [AT (aj e4)];exact e4
    have kN:(H'++[bZ.box [.f (fi a'),.f (fi N)] 0])[H'.length]?=aa (.box [.f (fi a'),.f (fi N)] 0):=by simp
    have kl:(H'++[bZ.box [.f (fi a'),.f (fi N)] 0]).length=H'.length+1:=by simp
    have kb:(H'++[bZ.box [.f (fi a'),.f (fi N)] 0])[b8]?=aa (.box [.f (fi a),.f (fi s)] 0):=by rw [AT (aj K)];exact K
    have kk:∀ x:Nat,5≤x→x<H.length→(H'++[bZ.box [.f (fi a'),.f (fi N)] 0])[x]?=H[x]?:=fun x h5 hx=>by
     rw [AT (by omega)];exact b x h5 hx
    apply aq;refine au (.inl rfl) ?_;simp;generalize H'++[bZ.box [.f (fi a'),.f (fi N)] 0]=HA at J k4 kN kl kb kk a8 ⊢;refine aw (by simp) ?_;refine au (.inl rfl) ?_;have g_:ah .i64 ((i:Int)+1)=((i+1:Nat):Int):=by rw [aM];rfl
    simp [g0,g3,k4,kN,g_,bS];rw [show(↑i+1:Int)=((i+1:Nat):Int) from rfl];simp only [J];simp;refine ax (next _ _ ?_ (by simp [ha]) (by simp [hb]));refine⟨by simp [g0],by simp [g2],by simp [g3],by simp [g8],by simp [O],?_,l2,f2,f7,?_,?_⟩
    ·rw [a8 b8 (by omega) (by omega)];exact kb
    ·refine fE.trans hP (f8.iff (S':=fun d=>rz (ps.drop (i+1)) n a s d∧p.aJ ∣ d-fe p p.a5[j]) fun d=>?_) d9;unfold rz;rw [←c9 d];constructor
     ·rintro⟨⟨W,X,Y⟩,Z⟩;exact⟨W,⟨X,Z⟩,Y⟩
     ·rintro⟨W,⟨X,Z⟩,Y⟩;exact⟨⟨W,X,Y⟩,Z⟩
    ·intro x h5 hx;rw [a8 x h5 (by omega)];exact kk x h5 hx
   ·apply ai;simp [g0,g2,g8,K,e0,A,E,B,M,y];apply aq;refine au (.inl rfl) ?_;simp;refine a6 (by simp) ?_;refine ax (next _ _ ?_ (by simp [ha]) (by simp [hb]));refine⟨by simp [g0],by simp [g2],by simp [g3],by simp [g8],by simp [O],?_,l',U,I.push _,fE.trans hP (fE.none (S:=fun d=>rz (ps.drop (i+1)) n a s d∧p.aJ ∣ d-fe p p.a5[j]) fun d hd=>a_ d ⟨hd.1.2.1,hd.2⟩) d9,?_⟩
    ·rw [AT (by omega)];exact K
    ·intro x h5 hx;rw [AT (by omega)];exact b x h5 hx
  ·rintro t H' ⟨g0,g2,g3,g8,O,K,l',U,I,hP,b⟩ - -;rw [ajr]at hP;refine aF (hQ _ _ _ rfl rfl ⟨rfl,l',U,I,hP.iff fun d=>?_,b⟩);rw [b_];unfold rz;simp only [ajB,forall_eq_or_imp];constructor
   ·rintro⟨W,X,Y,Z⟩;exact⟨⟨W,X,Z⟩,Y⟩
   ·rintro⟨⟨W,X,Z⟩,Y⟩;exact⟨W,X,Y,Z⟩
theorem vh{p:aE}:∀ {l:List aE},p ∈ l→p.aJ ∣ ea l
 | q::l,h=>by
  simp only [ea];rcases ajB.1 h with rfl | h
  ·exact akR _ _
  ·exact aj8 (vh h) (alk _ _)
theorem HI{p:aE}{d k:Int}(h:hO p d)(g:p.aJ ∣ k):hO p (d-k):=by
 obtain⟨c,b,e⟩:=h;refine⟨c,b,?_⟩;have:=akH e g;rwa [show d-fe p c-k=d-k-fe p c by omega]at this
theorem uK{ps:List aE}(g:∀ p ∈ ps,Mod p){m d:Int}(h:∀ p ∈ ps,hO p d)(s:m≤d):∃ d',m≤d'∧d'<m+ea ps∧∀ p ∈ ps,hO p d':=by
 have u:=pS g;have j:=ajS (d-m) (ea ps);have l:=ajV (d-m) (show ea ps≠0 by omega);have q:=ajT (d-m) (show 0<ea ps by omega);refine⟨d-ea ps*((d-m) / ea ps),by omega,by omega,fun p b=>HI (h p b) (aj8 (vh b) (akR _ _))⟩
def aby(ps:List aE)(m d:Int):Prop:=m≤d∧(∀ p ∈ ps,hO p d)∧d<m+ea ps∧∀ d',m≤d'→(∀ p ∈ ps,hO p d')→d≤d'
theorem Ys(g:Tg)(ps:List aE)(x:∀ p ∈ ps,Mod p)(L:ps.length≤64)(W:ea ps≤1000000)(n m:Int)(S:m=max n (cA ps))(I:m≤1000000000000) :
  (∃ d,aby ps m d∧bR tab 108 [.c (.f (sl g (aH ps))),vi n]=Eq (.t [vi d,vb ae])) ∨
  ((∀ d,m≤d→¬ ∀ p ∈ ps,hO p d)∧bR tab 108 [.c (.f (sl g (aH ps))),vi n]=Eq (.t [vi 0,vb ag])):=by
 have s:=Tn g ps L;have X:=nh ps;have U:=pS x;obtain⟨v,H',b,rfl,z,O,E,y,-⟩:=af5 g ps x L m (by omega) I ps.length 0 (by omega) [.box [.f (sl g (aH ps))] 0,.box [.f (fi m)] 0,.box [.f (fi 1152921504606846976)] 0,.box [.f (.bool ag)] 0,.box [.cl 152 [.ptr 0 0 0,.ptr 4 0 0,.ptr 1 0 0,.ptr 2 0 0,.ptr 3 0 0]] 0]
  1152921504606846976 ag 0 1 ⟨⟨0,rfl⟩,rfl,rfl,rfl,rfl⟩ (by decide) (by decide) (by rw [aj4];omega)
 rw [aj4]at y;have H:∀ d,rz ps m 0 1 d↔m≤d∧∀ p ∈ ps,hO p d:=fun d=>⟨fun h=>⟨h.1,h.2.2⟩,fun h=>⟨h.1,Int.one_dvd _,h.2⟩⟩
 have j:max n (cA ps)=m:=S.symm;have b:=b.eq;simp only [show((0:Nat):Int)=0 from rfl]at b;cases O with
 | true=>
  left;have q:rz ps m 0 1 z:=by
   rcases y.src with⟨_,h⟩ | ⟨_,h⟩
   ·cases h
   ·exact h
  have l:∀ d',m≤d'→(∀ p ∈ ps,hO p d')→z≤d':=fun d' A B=>(y.low d' ((H d').2 ⟨A,B⟩)).1;obtain⟨M,N⟩:=(H z).1 q;obtain⟨u,J,Y,K⟩:=uK x N M;refine⟨z,⟨M,N,by have:=l u J K;omega,l⟩,bR.eq (bY rfl rfl fun Q F=>?_)⟩;apply ai;simp;apply ai;simp [s,j];apply ai;simp;apply ai;simp;apply ai;simp;apply ai;simp [bS,b];apply aq;apply ai;simp [E.2.2.2.1];refine a6 (by simp) ?_;apply ai;simp [E.2.2.1];refine aF (F _ _ ?_);simp
 | false=>
  right;refine⟨fun d A B=>?_,bR.eq (bY rfl rfl fun Q F=>?_)⟩
  ·obtain⟨u,J,Y,K⟩:=uK x B A;have:=(y.low u ((H u).2 ⟨J,K⟩)).2 (by omega);cases this
  ·apply ai;simp;apply ai;simp [s,j];apply ai;simp;apply ai;simp;apply ai;simp;apply ai;simp [bS,b];apply aq;apply ai;simp [E.2.2.2.1];refine aw (by simp) ?_;apply ai;simp;refine aF (F _ _ ?_);simp
def lP:List (Int × Int)→List aE→Prop
 | _,[]=>True| ch,p::l=>∃ c ∈ p.a5,(∀ x ∈ ch,(ajU p.aJ x.2:Int) ∣ fe p c-x.1)∧lP (ch++[(fe p c,p.aJ)]) l
theorem qX{d:Int}:∀(l:List aE) (ch:List (Int × Int)),(∀ x ∈ ch,x.2 ∣ d-x.1)→(∀ p ∈ l,hO p d)→lP ch l
 | [],_,_,_=>trivial
 | p::l,ch,j,m=>by
  obtain⟨c,g,hd⟩:=m p ajc;refine⟨c,g,fun x b=>?_,qX l _ (fun x b=>?_) fun q v=>m q (ajb _ v)⟩
  ·have s:=aj8 (Int.gcd_dvd_right p.aJ x.2) (j x b);have u:=aj8 (ak7 p.aJ x.2) hd;have:=akH s u;rwa [show d-x.1-(d-fe p c)=fe p c-x.1 by omega]at this
  ·rcases aja.1 b with b | b
   ·exact j x b
   ·rw [ai9.1 b];exact hd
def RH(B:an)(H:an)(g:Tg)(ps:List aE)(b:List Int):Prop:=(∃ a,H[B.length]?=aa (.box [.f (sl g (aH ps))] a))∧H[B.length+1]?=aa (.box (b.map fun x=>C.f (fi x)) 0)∧H[B.length+2]?=aa (.box [.sl (B.length+1) 0 ps.length ps.length 0 1] 0) ∧
 H[B.length+3]?=aa (.box [.cl 120 [.ptr B.length 0 0,.ptr (B.length+2) 0 0,.ptr (B.length+3) 0 0]] 0)∧∀ i:Nat,i<B.length→H[i]?=B[i]?
def Cho(ps:List aE)(b:List Int)(ch:List (Int × Int)):Prop:=∀ j,(h:j<ch.length)→b[j]?=aa ch[j].1∧(∃ p,ps[j]?=aa p∧p.aJ=ch[j].2)∧0≤ch[j].1∧ch[j].1≤1000
theorem aim(B:an){o:Nat}(ho:o=B.length)(g:Tg)(ps:List aE)(hM:∀ p ∈ ps,Mod p)(s7:ps.length≤64) :
  ∀(k i:Nat),i+k=ps.length→∀(H:an) (ls:List Int) (ch:List (Int × Int)),RH B H g ps ls→ls.length=ps.length→ch.length=i→Cho ps ls ch →
  ∃ v H',Ev tab (.fn 120) [vi i,.c (.ptr o 0 0),.c (.ptr (o+2) 0 0),.c (.ptr (o+3) 0 0)] H v H' ∧
   ∃ b,v=vb b∧(b=ae↔lP ch (ps.drop i))∧∃ d,RH B H' g ps d∧d.length=ps.length∧d.take i=ls.take i:=by
 intro k;induction k with
 | zero=>
  intro i hi H ls ch hH i9 i4 E;have:i=ps.length:=by omega
  subst this;obtain⟨q,q0⟩:=hH.1;rw [←ho]at q0;refine cM rfl rfl fun Q hQ=>?_;apply ai;simp;refine jU ?_;apply aq;apply ai;simp [q0];refine aw (by simp) ?_;apply ai;simp;exact aF (hQ _ _ _ rfl (dU (by simp)) ⟨ae,rfl,by rw [akX];simp [lP],ls,hH,i9,rfl⟩)
 | succ k ih=>
  intro i hi H ls ch hH i9 i4 E;have u:i<ps.length:=by omega
  obtain⟨p,hp⟩:=aL (ps[i]);have r7:p ∈ ps:=hp▸IT u;have O:=hM p r7;obtain⟨f0,f1,p0,p1,r9,-⟩:=aV O.ok;have o_:ps.drop i=p::ps.drop (i+1):=by rw [hp];exact ajh u
  have Z:=fun H:an=>dr (H:=H) (bA ps) (cF (l:=ps) (j:=i) u);have s:=fun H:an=>mj (H:=H) (k:=3) (bA ps) (cF (l:=ps) (j:=i) u) rfl;have X:=fun H:an=>mj (H:=H) (k:=2) (bA ps) (cF (l:=ps) (j:=i) u) rfl;have F:=fun H:an=>bH (H:=H) (g:=g) (rows:=aH ps) (sz:=4) (k:=.i64) (i:=i) (by omega) (by simpa using u);rw [←hp]at Z s X;simp [aE.row]at Z F s X;obtain⟨q,q0⟩:=hH.1;rw [←ho]at q0;refine cM rfl rfl fun Q hQ=>?_;apply ai;simp;refine jU ?_;apply aq;apply ai;simp [q0];refine aG (by simp;omega) (aP ?_);refine aq (oK ?_);apply aq;apply ai;simp [q0,F,s];obtain⟨Ok,j8⟩:∃ Ok:Int→Prop,Ok=fun c=>(∀ x ∈ ch,(ajU p.aJ x.2:Int) ∣ fe p c-x.1)∧lP (ch++[(fe p c,p.aJ)]) (ps.drop (i+1)):=⟨_,rfl⟩
  have S:∀ c,Ok c↔((∀ x ∈ ch,(ajU p.aJ x.2:Int) ∣ fe p c-x.1)∧lP (ch++[(fe p c,p.aJ)]) (ps.drop (i+1))):=fun c=>by rw [j8]
  have e_:lP ch (ps.drop i)↔∃ c ∈ p.a5,Ok c:=by rw [o_,j8];rfl
  refine bU p.a5.length (fun j t H'=>t.g 0=vi i∧t.g 1=.c (.ptr o 0 0)∧t.g 2=.c (.ptr (o+2) 0 0)∧t.g 3=.c (.ptr (o+3) 0 0)∧t.g 18=.c (.f (sl p.cg (ints p.a5))) ∧
   (∀ c ∈ p.a5.take j,¬ Ok c)∧∃ d,RH B H' g ps d∧d.length=ps.length∧d.take i=ls.take i) (by omega) (by decide) (by decide) (by simp) (by simp) ⟨by simp,by simp,by simp,by simp,by simp,by simp,ls,hH,i9,rfl⟩ ?_ ?_
  ·rintro j t H' hj ⟨N,g1,g2,g3,m,c_,d,hR,J,K⟩ ha hb next
   have hm:=qU O (IT hj);obtain⟨o6,r8,-⟩:=pe O hm.1 hm.2;have Y:=sV p O p.a5[j] hm.1 hm.2;simp [aE.row]at Y;have s_:=O.agN;have o0:p.a5.take (j+1)=p.a5.take j++[p.a5[j]]:=by rw [aju,By hj];rfl
   have f8:¬ Ok p.a5[j]→∀ c ∈ p.a5.take (j+1),¬ Ok c:=by
    intro h c hc;rw [o0,aja,ai9]at hc;rcases hc with hc | rfl
    ·exact c_ c hc
    ·exact h
   obtain⟨r,hr⟩:=aL (fe p p.a5[j]);rw [←hr]at o6 r8 Y;obtain⟨q',d9⟩:=hR.1;have M:=hR.2.1;have d_:=hR.2.2.1;have o4:=hR.2.2.2.1;have o5:=hR.2.2.2.2;rw [←ho]at d9 M d_ o4 o5;have f7:∀ j,(h:j<ch.length)→d[j]?=aa ch[j].1:=fun j h=>by
    have h1:(d.take i)[j]?=d[j]?:=List.getElem?_take_of_lt (by omega);have h2:(ls.take i)[j]?=ls[j]?:=List.getElem?_take_of_lt (by omega);rw [←h1,K,h2];exact(E j h).1
   refine az ?_;apply ai;simp [ha,m,bH,hj,dY];apply ai;simp [N,g1,d9,F,Z,Y];apply aq;apply ai;simp [N];refine bU i (fun n t H2=>(t.g 0=vi i∧t.g 1=.c (.ptr o 0 0)∧t.g 2=.c (.ptr (o+2) 0 0)∧t.g 3=.c (.ptr (o+3) 0 0)∧t.g 18=.c (.f (sl p.cg (ints p.a5)))∧t.g 20=vi j∧t.g 19=vi p.a5.length∧t.g 8=vi r)∧H2=H'∧∀ x ∈ ch.take n,(ajU p.aJ x.2:Int) ∣ r-x.1)
    (by omega) (by decide) (by decide) (by simp) (by simp) ⟨⟨by simp [N],by simp [g1],by simp [g2],by simp [g3],by simp [m],by simp [ha],by simp [hb],by simp⟩,rfl,by simp⟩ ?_ ?_
   ·rintro n t H2 hn ⟨⟨N,g1,g2,g3,m,a8,a7,g8⟩,h_,A⟩ j_ o9 nx;rw [h_];have c9:n<ps.length:=by omega
    have b_:n<ch.length:=by omega
    obtain⟨-,⟨pn,n9,i_⟩,x0,x1⟩:=E n b_;have i8:=f7 n b_;obtain⟨x,hx⟩:=aL (ch[n]);rw [←hx]at i8 i_ x0 x1;have f_:ps[n]=pn:=by rw [By c9]at n9;exact akD n9
    have o8:=hM pn (f_▸IT c9);obtain⟨-,-,z0,z1,-⟩:=aV o8.ok;rw [i_]at z0 z1;have z:=fun H:an=>mj (H:=H) (k:=2) (bA ps) (cF (l:=ps) (j:=n) c9) rfl;have U:=fun H:an=>bH (H:=H) (g:=g) (rows:=aH ps) (sz:=4) (k:=.i64) (i:=n) (by omega) (by simpa using c9);rw [f_]at z;simp [aE.row,i_]at z U;have W:bz H' 1 ab (.c (.sl (o+1) 0 ps.length ps.length 0 1)) (vi n)=aa (.c (.ptr (o+1) n 0)):=by
     simp [bz,fS,M,J];omega
    have m_:aU H' ab (.c (.ptr (o+1) n 0))=aa (vi x.1):=by
     have hd:(d.map fun y=>C.f (fi y)).drop n=C.f (fi x.1) ::(d.map fun y=>C.f (fi y)).drop (n+1):=by
      rw [ajh (by simp;omega),List.getElem_map];rw [By (by omega)]at i8;rw [akD i8]
     simp only [aU,aC,M,Option.bind_some];rw [hd];rfl
    have q_:aU H' ab (.c (.ptr (o+2) 0 0))=aa (.c (.sl (o+1) 0 ps.length ps.length 0 1)):=by simp [d_]
    have p_:aU H' ab (.c (.ptr o 0 0))=aa (.c (.f (sl g (aH ps)))):=by simp [d9]
    obtain⟨gg,i7⟩:=aL ((ajU p.aJ x.2:Int):Int);have p8:ajU p.aJ x.2=akb p.aJ.toNat x.2.toNat:=by
     show akb p.aJ.natAbs x.2.natAbs=_;rw [show p.aJ.natAbs=p.aJ.toNat by omega,show x.2.natAbs=x.2.toNat by omega]
    have r_:0<gg:=by
     have:=akg x.2 (show p.aJ≠0 by omega);omega
    have l_:bR tab 122 [vi p.aJ,vi x.2]=Eq (vi gg):=by
     have h:=vV (a:=p.aJ.toNat) (b:=x.2.toNat) (by omega) (by omega);rw [show((p.aJ.toNat:Nat):Int)=p.aJ by omega,show((x.2.toNat:Nat):Int)=x.2 by omega,←p8,←i7]at h;exact h
    have o7:=aM (n:=r-x.1);have n_:bM .rem (vi (r-x.1)) (vi gg)=aa (vi ((r-x.1).tmod gg)):=gO (by omega);have I:ch.take (n+1)=ch.take n++[x]:=by rw [aju,By b_,hx];rfl
    refine az ?_;apply ai;simp [j_];apply ai;simp [N,g1,g2,g8,p_,q_,W,m_,F,X,U,z,l_,o7,n_,-ay];by_cases hd:gg ∣ r-x.1
    ·have j3:(r-x.1).tmod gg=0:=Int.tmod_eq_zero_of_dvd hd;refine a6 (by simp [j3]) ?_;refine ax (nx _ _ ?_ (by simp [j_]) (by simp [o9]));refine⟨⟨by simp [N],by simp [g1],by simp [g2],by simp [g3],by simp [m],by simp [a8],by simp [a7],by simp [g8]⟩,rfl,fun y hy=>?_⟩;rw [I,aja,ai9]at hy;rcases hy with hy | rfl
     ·exact A y hy
     ·rw [←i7];exact hd
    ·have j3:¬ (r-x.1).tmod gg=0:=fun e=>hd (Int.dvd_of_tmod_eq_zero e);refine aw (by simp [j3]) ?_;refine bw rfl (next _ _ ?_ (by simp [a8]) (by simp [a7]));refine⟨by simp [N],by simp [g1],by simp [g2],by simp [g3],by simp [m],f8 ?_,d,hR,J,K⟩;rw [S];rintro⟨h,-⟩;have:=h x (hx▸IT b_);rw [←i7,←hr]at this;exact hd this
   ·rintro t H2 ⟨⟨N,g1,g2,g3,m,a8,a7,g8⟩,h_,A⟩ - -;rw [h_];rw [ajl (by omega)]at A;have W:bz H' 1 ab (.c (.sl (o+1) 0 ps.length ps.length 0 1)) (vi i)=aa (.c (.ptr (o+1) i 0)):=by
     simp [bz,fS,M,J];omega
    have g_:di H' (.ptr (o+1) i 0) [.f (fi r)]=aa (H'.set (o+1) (.box ((d.set i r).map fun y=>C.f (fi y)) 0)):=by
     simp only [di,M];rw [ba (by simp;omega),sN (by simp;omega),List.map_set]
    have n8:(H'.set (o+1) (.box ((d.set i r).map fun y=>C.f (fi y)) 0))[o+3]?=H'[o+3]?:=sh (by omega);have n6:=aj M;have i3:RH B (H'.set (o+1) (.box ((d.set i r).map fun y=>C.f (fi y)) 0)) g ps (d.set i r):=by
     unfold RH;rw [←ho];refine⟨⟨q',?_⟩,If n6,?_,?_,fun i hi=>?_⟩
     ·rw [sh (by omega)];exact d9
     ·rw [sh (by omega)];exact d_
     ·rw [n8];exact o4
     ·rw [sh (by omega)];exact o5 i hi
    have i6:Cho ps (d.set i r) (ch++[(r,p.aJ)]):=by
     intro y hy;rw [List.length_append,List.length_singleton]at hy;by_cases j4:y<ch.length
     ·rw [List.getElem_append_left j4,sh (by omega)];obtain⟨-,h2,h3⟩:=E y j4;exact⟨f7 y j4,h2,h3⟩
     ·have:y=i:=by omega
      subst this;rw [List.getElem_append_right (by omega)];simp only [i4,Nat.sub_self,List.getElem_cons_zero];refine⟨by rw [If (by omega)],⟨p,by rw [By u,hp],rfl⟩,o6,by omega⟩
    obtain⟨v,H3,a_,b,rfl,k_,L,j9,m9,I⟩:=ih (i+1) (by omega) _ _ (ch++[(r,p.aJ)]) i3 (by simpa using J) (by simp [i4]) i6;have a_:=a_.eq;have j7:=i3.2.2.2.1;rw [←ho]at j7;generalize H'.set (o+1) (.box ((d.set i r).map fun y=>C.f (fi y)) 0)=HN at g_ a_ j7 n8 i3;have p9:ah .i64 ((i:Int)+1)=((i+1:Nat):Int):=by rw [aM];rfl
    apply ai;simp [N,g2,g8,d_,W,g_,-bu];apply ai;simp [N,g3,j7,p9,bS];rw [show(↑i+1:Int)=((i+1:Nat):Int) from rfl];simp only [a_];simp;cases b with
    | true=>
     refine aw (by simp) ?_;apply ai;simp;refine aF (hQ _ _ _ rfl (dU (by simp)) ⟨ae,rfl,?_,L,j9,m9,?_⟩)
     ·rw [e_];refine⟨fun _=>⟨_,IT hj,?_⟩,fun _=>rfl⟩;rw [S,←hr];exact⟨A,k_.1 rfl⟩
     ·have h1:(L.take (i+1)).take i=L.take i:=by rw [akU,Nat.min_eq_left (by omega)]
      rw [←h1,I,akU,Nat.min_eq_left (by omega),List.take_set_of_le (by omega),K]
    | false=>
     refine a6 (by simp) ?_;refine ax (next _ _ ?_ (by simp [a8]) (by simp [a7]));refine⟨by simp [N],by simp [g1],by simp [g2],by simp [g3],by simp [m],f8 ?_,L,j9,m9,?_⟩
     ·rw [S,←hr];rintro⟨-,h⟩;have:=k_.2 h;cases this
     ·have h1:(L.take (i+1)).take i=L.take i:=by rw [akU,Nat.min_eq_left (by omega)]
      rw [←h1,I,akU,Nat.min_eq_left (by omega),List.take_set_of_le (by omega),K]
  ·rintro t H' ⟨N,g1,g2,g3,m,c_,d,hR,J,K⟩ - -;rw [ajr]at c_;apply ai;simp;refine aF (hQ _ _ _ rfl (dU (by simp)) ⟨ag,rfl,?_,d,hR,J,K⟩);rw [e_];constructor
   ·intro h;cases h
   ·rintro⟨c,hc,h⟩;exact absurd h (c_ c hc)
theorem dF{n b:Nat}(g:n≤1100000)(d:b≤4096):cO n b=ae:=by
 have h:(2*n+768)*b≤2200768*4096:=Nat.mul_le_mul (by omega) d;simp [cO];omega
theorem vl(g:Tg)(ps:List aE)(B:∀ p ∈ ps,Mod p)(I:1≤ps.length)(F:ps.length≤64):∃ b,(b=ae↔lP [] ps)∧Kf tab 78 [.c (.f (sl g (aH ps)))] (vb b):=by
 obtain⟨b,z⟩:∃ b:Bool,b=ae↔lP [] ps:=⟨open Classical in decide (lP [] ps),by simp⟩
 refine⟨b,z,dO rfl rfl fun H Q E=>?_⟩;have u:RH H (H++[.box [.f (sl g (aH ps))] 0,.box (List.replicate ps.length (C.f (fi 0))) 0,.box [.sl (H.length+1) 0 ps.length ps.length 0 1] 0,.box [.cl 120 [.ptr H.length 0 0,.ptr (H.length+2) 0 0,.ptr (H.length+3) 0 0]] 0]) g ps (List.replicate ps.length 0):=by
  refine⟨⟨0,by simp⟩,by simp,by simp,by simp,fun i hi=>AT hi⟩
 obtain⟨v,H',d,A,rfl,q,K,m,-⟩:=aim H rfl g ps B F ps.length 0 (by omega) _ _ [] u (by simp) rfl (fun j h=>absurd h (Nat.not_lt_zero j));rw [aj4,←z]at q;have x:A=b:=by rw [Bool.eq_iff_iff];exact q
 subst x;have d:=d.eq;simp only [show((0:Nat):Int)=0 from rfl]at d;apply ai;simp;have l:cO ps.length 8=ae:=dF (by omega) (by decide);have y:∀(t:T) (H:an),t.g 6=vi ps.length→bC t H (.dD 1 8 [.int .i64 0] (R 6) (R 6))=aa (.c (.sl H.length 0 ps.length ps.length 0 1),H++[.box (List.replicate ps.length (C.f (fi 0))) 0]):=by
  intro t H h;have e:(cB ps.length [fi 0]).map C.f=List.replicate ps.length (C.f (fi 0)):=by simp [cB]
  simp only [bC,ry,h,fS];rw [ba ⟨by omega,aky _,by simpa using l,rfl⟩];rw [aR (by omega),ajA,e]
 apply ai;simp [y];apply ai;simp;apply ai;simp;apply ai;simp [bS,d];have s:H'=H++H'.drop H.length:=by
  refine List.ext_getElem? fun i=>?_;have J:=aj m.2.2.2.1;rcases Nat.lt_or_ge i H.length with h | h
  ·exact(m.2.2.2.2 i h).trans (AT h).symm
  ·refine Eq.trans ?_ (List.getElem?_append_right h).symm;rw [List.getElem?_drop,Nat.add_sub_cancel' h]
 refine aF (E _ _ ?_);simp;exact⟨_,s⟩
theorem vm(g:Tg)(ps:List aE)(j:∀ p ∈ ps,Mod p)(d:1≤ps.length)(m:ps.length≤64):∃ b,(b=ae↔lP [] ps)∧bR tab 78 [.c (.f (sl g (aH ps)))]=Eq (vb b):=by
 obtain⟨b,l,h⟩:=vl g ps j d m;exact⟨b,l,h.eq⟩
def eX(S:Int→Prop)(l:Int)(f:Bool):Prop:=(f=ag∧l=0∧∀ d,¬ S d)∨(f=ae∧S l∧∀ d,S d→l≤d)
theorem eX.iff{S S':Int→Prop}{l:Int}{f:Bool}(h:eX S l f)(g:∀ d,S' d↔S d):eX S' l f:=by
 rcases h with⟨a,b,c⟩ | ⟨a,b,c⟩
 ·exact .inl ⟨a,b,fun d hd=>c d ((g d).1 hd)⟩
 ·exact .inr ⟨a,(g _).2 b,fun d hd=>c d ((g d).1 hd)⟩
theorem eX.step{S S':Int→Prop}{l x:Int}{f:Bool}(h:eX S l f)(g:∀ d,S' d↔S d∨d=x):eX S' (if f=ag∨x<l then x else l) ae:=by
 right;rcases h with⟨rfl,rfl,c⟩ | ⟨rfl,b,c⟩
 ·refine⟨rfl,by simpa using (g x).2 (.inr rfl),fun d hd=>?_⟩;rcases(g d).1 hd with h | rfl
  ·exact absurd h (c d)
  ·simp
 ·refine⟨rfl,?_,fun d hd=>?_⟩
  ·by_cases k:x<l
   ·simpa [k]using (g x).2 (.inr rfl)
   ·simpa [k]using (g l).2 (.inl b)
  ·rcases(g d).1 hd with h | rfl
   ·have:=c d h;by_cases k:x<l<;>simp [k]<;>omega
   ·by_cases k:d<l<;>simp [k];omega
def iK(ps:List aE)(n:Int)(l:List aE)(d:Int):Prop:=n≤d∧tD ps d=ae∧∃ p ∈ l,d ∈ p.head
theorem yx(g:Tg)(ps:List aE)(hP:∀ p ∈ ps,cu p=ae)(hl:ps.length≤64)(n:Int):∃ e f,eX (iK ps n ps) e f∧bR tab 107 [.c (.f (sl g (aH ps))),vi n]=Eq (.t [vi e,vb f]):=by
 have key:∃ r,(∃ e f,eX (iK ps n ps) e f∧r=.t [vi e,vb f])∧bR tab 107 [.c (.f (sl g (aH ps))),vi n] r:=by
  refine fu rfl rfl fun Q hQ=>?_;apply ai;simp;apply ai;simp;apply aq;apply ai;simp;refine bU ps.length (fun j t H'=>t.g 0=.c (.f (sl g (aH ps)))∧t.g 1=vi n∧t.g 12=.c (.f (sl g (aH ps)))∧∃ e f,t.g 6=vi e∧t.g 7=vb f∧eX (iK ps n (ps.take j)) e f) (by omega) (by decide) (by decide) (by simp) (by simp)
   ⟨by simp,by simp,by simp,0,ag,by simp,by simp,.inl ⟨rfl,rfl,fun d hd=>by obtain⟨_,_,p,hp,_⟩:=hd;simp at hp⟩⟩ ?_ ?_
  ·rintro j t H hj ⟨s,u,b,e,f,B,E,N⟩ ha hb next
   obtain⟨p,hp⟩:=aL (ps[j]);have b_:p ∈ ps:=hp▸IT hj;obtain⟨f0,f1,p0,p1,g_,-,a8,-⟩:=aV (hP p b_);have O:=fun H:an=>dr (H:=H) (bA ps) (cF (l:=ps) (j:=j) hj);have W:=fun H:an=>bH (H:=H) (g:=g) (rows:=aH ps) (sz:=4) (k:=.i64) (i:=j) (by omega) (by simpa using hj);rw [←hp]at O;simp [aE.row]at O W;have c9:ps.take (j+1)=ps.take j++[p]:=by rw [aju,By hj,hp];rfl
   refine az ?_;apply ai;simp [b,ha,W,O];apply ai;simp;refine bU p.head.length (fun i t H'=>t.g 0=.c (.f (sl g (aH ps)))∧t.g 1=vi n∧t.g 12=.c (.f (sl g (aH ps)))∧t.g 14=vi j∧t.g 13=vi ps.length∧t.g 19=.c (.f (sl p.hg (ints p.head))) ∧
    ∃ e f,t.g 6=vi e∧t.g 7=vb f∧eX (fun d=>iK ps n (ps.take j) d∨(n≤d∧tD ps d=ae∧d ∈ p.head.take i)) e f) (by omega) (by decide) (by decide) (by simp) (by simp)
    ⟨by simp [s],by simp [u],by simp [b],by simp [ha],by simp [hb],by simp,e,f,by simp [B],by simp [E],N.iff fun d=>by simp⟩ ?_ ?_
   ·rintro i t H hi ⟨s,u,b,y,v,z,e,f,B,E,N⟩ K M nx;obtain⟨x,hx⟩:=aL (p.head[i]);have c_:x ∈ p.head:=hx▸IT hi;have h_:=a8 x c_;have a7:=fun H:an=>dY (H:=H) hi;rw [←hx]at a7;have A:=(aab g ps (by omega) hP x (by unfold Day;omega)).eq;have X:p.head.take (i+1)=p.head.take i++[x]:=by rw [aju,By hi,hx];rfl
    refine az ?_;apply ai;simp [K,z,bH,hi,a7];have bf:¬ (n≤x∧tD ps x=ae)→eX (fun d=>iK ps n (ps.take j) d∨(n≤d∧tD ps d=ae∧d ∈ p.head.take (i+1))) e f:=fun a_=>N.iff fun d=>by
     rw [X,aja,ai9];constructor
     ·rintro(h | ⟨F,I,J | rfl⟩)
      ·exact .inl h
      ·exact .inr ⟨F,I,J⟩
      ·exact absurd ⟨F,I⟩ a_
     ·rintro(h | ⟨F,I,J⟩)
      ·exact .inl h
      ·exact .inr ⟨F,I,.inl J⟩
    have S:(n≤x∧tD ps x=ae)→eX (fun d=>iK ps n (ps.take j) d∨(n≤d∧tD ps d=ae∧d ∈ p.head.take (i+1))) (if f=ag∨x<e then x else e) ae:=fun Y=>N.step fun d=>by
     rw [X,aja,ai9];constructor
     ·rintro(h | ⟨F,I,J | rfl⟩)
      ·exact .inl (.inl h)
      ·exact .inl (.inr ⟨F,I,J⟩)
      ·exact .inr rfl
     ·rintro((h | ⟨F,I,J⟩) | rfl)
      ·exact .inl h
      ·exact .inr ⟨F,I,.inl J⟩
      ·exact .inr ⟨Y.1,Y.2,.inr rfl⟩
    have L:∀(t:T) (H:an) (e':Int) (f':Bool),t.g 0=.c (.f (sl g (aH ps)))→t.g 1=vi n→t.g 12=.c (.f (sl g (aH ps)))→t.g 14=vi j→t.g 13=vi ps.length→t.g 19=.c (.f (sl p.hg (ints p.head)))→t.g 21=vi i→t.g 20=vi p.head.length→t.g 6=vi e'→t.g 7=vb f'→eX (fun d=>iK ps n (ps.take j) d∨(n≤d∧tD ps d=ae∧d ∈ p.head.take (i+1))) e' f' →
      WP tab 107 ab [.code xu,.inLoop xr,.inBlock 2,.inBlock 1,.code xv,.inLoop A_,.inBlock 0,.code xw] ⟨t,[],H⟩ Q:=by
     intro t H e' f' q0 q1 d9 e_ d_ f7 f_ f8 q6 q7 qm;refine nx _ _ ?_ f_ f8;exact⟨by simp [q0],by simp [q1],by simp [d9],by simp [e_],by simp [d_],by simp [f7],e',f',by simp [q6],by simp [q7],qm⟩
    by_cases U:n≤x
    ·cases f with
     | false=>
      cases m:tD ps x with
      | false=>
       rw [m]at A;apply ai;simp [s,u,B,E,U,A];refine aG (by simp) (aP (ax ?_));exact L _ _ e ag (by simp [s]) (by simp [u]) (by simp [b]) (by simp [y]) (by simp [v]) (by simp [z]) (by simp [K]) (by simp [M]) (by simp [B]) (by simp [E]) (bf (by simp [m]))
      | true=>
       rw [m]at A;apply ai;simp [s,u,B,E,U,A];refine aw (by simp) (au (.inl rfl) ?_);simp;refine ax ?_;exact L _ _ x ae (by simp [s]) (by simp [u]) (by simp [b]) (by simp [y]) (by simp [v]) (by simp [z]) (by simp [K]) (by simp [M]) (by simp) (by simp) (by have:=S ⟨U,m⟩;simpa using this)
     | true=>
      by_cases c2:x<e
      ·cases m:tD ps x with
       | false=>
        rw [m]at A;apply ai;simp [s,u,B,E,U,c2,A];refine aG (by simp) (aP (ax ?_));exact L _ _ e ae (by simp [s]) (by simp [u]) (by simp [b]) (by simp [y]) (by simp [v]) (by simp [z]) (by simp [K]) (by simp [M]) (by simp [B]) (by simp [E]) (bf (by simp [m]))
       | true=>
        rw [m]at A;apply ai;simp [s,u,B,E,U,c2,A];refine aw (by simp) (au (.inl rfl) ?_);simp;refine ax ?_;exact L _ _ x ae (by simp [s]) (by simp [u]) (by simp [b]) (by simp [y]) (by simp [v]) (by simp [z]) (by simp [K]) (by simp [M]) (by simp) (by simp) (by have:=S ⟨U,m⟩;simpa [c2]using this)
      ·apply ai;simp [s,u,B,E,U,c2];refine aG (by simp) (aP (ax ?_));refine L _ _ e ae (by simp [s]) (by simp [u]) (by simp [b]) (by simp [y]) (by simp [v]) (by simp [z]) (by simp [K]) (by simp [M]) (by simp [B]) (by simp [E]) ?_;cases m:tD ps x with
       | false=>exact bf (by simp [m])
       | true=>have:=S ⟨U,m⟩;simpa [c2]using this
    ·apply ai;simp [s,u,B,E,U];refine aG (by simp) (aP (ax ?_));exact L _ _ e f (by simp [s]) (by simp [u]) (by simp [b]) (by simp [y]) (by simp [v]) (by simp [z]) (by simp [K]) (by simp [M]) (by simp [B]) (by simp [E]) (bf fun h=>U h.1)
   ·rintro t H ⟨s,u,b,y,v,z,e,f,B,E,N⟩ - -;rw [ajr]at N;refine ax (next _ _ ?_ (by simp [y]) (by simp [v]));refine⟨by simp [s],by simp [u],by simp [b],e,f,by simp [B],by simp [E],N.iff fun d=>?_⟩;unfold iK;rw [c9];constructor
    ·rintro⟨F,I,q,Z,J⟩;rcases aja.1 Z with Z | Z
     ·exact .inl ⟨F,I,q,Z,J⟩
     ·rw [ai9.1 Z]at J;exact .inr ⟨F,I,J⟩
    ·rintro(⟨F,I,q,Z,J⟩ | ⟨F,I,J⟩)
     ·exact⟨F,I,q,ajM _ Z,J⟩
     ·exact⟨F,I,p,List.mem_append_right _ (ai9.2 rfl),J⟩
  ·rintro t H ⟨s,u,b,e,f,B,E,N⟩ ha hb;rw [ajr]at N;apply ai;simp [B,E];refine aF (hQ _ _ _ ⟨e,f,N,rfl⟩ ?_);simp
 obtain⟨r,⟨e,f,N,rfl⟩,h⟩:=key;exact⟨e,f,N,h.eq⟩
def Compat(L:List (Int × Int)):Prop:=∀ x ∈ L,∀ y ∈ L,(ajU x.2 y.2:Int) ∣ x.1-y.1
theorem vk:∀(l:List aE) (ch:List (Int × Int)),lP ch l→Compat ch→∃ g,Compat (ch++g)∧(∀ p ∈ l,∃ c ∈ p.a5,(fe p c,p.aJ) ∈ g)∧∀ x ∈ g,∃ p ∈ l,x.2=p.aJ
 | [],ch,_,s=>⟨[],by simpa using s,by simp,by simp⟩
 | p::l,ch,⟨c,s,z,B⟩,u=>by
  obtain⟨g,E,F,H⟩:=vk l _ B (fun x b y d=>by
   rcases aja.1 b with b | b
   ·rcases aja.1 d with d | d
    ·exact u x b y d
    ·rw [ai9.1 d];have:=z x b;rw [Int.gcd_comm]at this;have:=Int.dvd_neg.2 this;rwa [show -(fe p c-x.1)=x.1-fe p c by omega]at this
   ·rw [ai9.1 b];rcases aja.1 d with d | d
    ·exact z y d
    ·rw [ai9.1 d,Int.sub_self];exact Int.dvd_zero _)
  refine⟨(fe p c,p.aJ)::g,by simpa using E,fun q v=>?_,fun x b=>?_⟩
  ·rcases ajB.1 v with rfl | v
   ·exact⟨c,s,ajc⟩
   ·obtain⟨A,j,m⟩:=F q v;exact⟨A,j,ajb _ m⟩
  ·rcases ajB.1 b with rfl | b
   ·exact⟨p,ajc,rfl⟩
   ·obtain⟨q,j,m⟩:=H x b;exact⟨q,ajb _ j,m⟩
theorem XF(Q:Nat)(d:Q ∈ [8,9,5,7,11]):∀ a b:Fin 13,akb a.1 Q ∣ akb b.1 Q∨akb b.1 Q ∣ akb a.1 Q:=by
 have h:∀ Q ∈ [8,9,5,7,11],∀ a b:Fin 13,akb a.1 Q ∣ akb b.1 Q∨akb b.1 Q ∣ akb a.1 Q:=by decide
 exact h Q d
theorem BC(Q:Nat)(g:Q ∈ [8,9,5,7,11]):∀ L:List (Int × Int),L≠[]→(∀ x ∈ L,1≤x.2∧x.2≤12)→∃ y ∈ L,∀ z ∈ L,akb z.2.toNat Q ∣ akb y.2.toNat Q
 | [],h,_=>absurd rfl h| [x],_,_=>⟨x,by simp,by simp⟩
 | x::y::L,_,d=>by
  obtain⟨m,j,h⟩:=BC Q g (y::L) (by simp) fun z b=>d z (ajb _ b);have l:=d x ajc;have q:=d m (ajb _ j);rcases XF Q g ⟨x.2.toNat,by omega⟩ ⟨m.2.toNat,by omega⟩with k | k
  ·refine⟨m,ajb _ j,fun z b=>?_⟩;rcases ajB.1 b with rfl | b
   ·exact k
   ·exact h z b
  ·refine⟨x,ajc,fun z b=>?_⟩;rcases ajB.1 b with rfl | b
   ·exact Nat.dvd_refl _
   ·exact Nat.dvd_trans (h z b) k
theorem ox(Q:Nat)(m:Q ∈ [8,9,5,7,11]){L:List (Int × Int)}(b:∀ x ∈ L,1≤x.2∧x.2≤12)(q:Compat L):∃ c:Int,∀ x ∈ L,((akb x.2.toNat Q:Nat):Int) ∣ c-x.1:=by
 by_cases g:L=[]
 ·exact⟨0,by simp [g]⟩
 obtain⟨y,j,h⟩:=BC Q m L g b;refine⟨y.1,fun z d=>aj8 (Int.natCast_dvd_natCast.2 ?_) (q y j z d)⟩;have s:=b y j;have u:=b z d;have l:ajU y.2 z.2=akb y.2.toNat z.2.toNat:=by
  rw [ajU,show y.2.natAbs=y.2.toNat by omega,show z.2.natAbs=z.2.toNat by omega]
 rw [l];exact Nat.dvd_gcd (Nat.dvd_trans (h z d) (Nat.gcd_dvd_left _ _)) (Nat.gcd_dvd_left _ _)
theorem afH{L:List (Int × Int)}(g:∀ x ∈ L,1≤x.2∧x.2≤12)(l:Compat L):∃ d:Int,0≤d∧d<27720∧∀ x ∈ L,x.2 ∣ d-x.1:=by
 obtain⟨a,s⟩:=ox 8 (by decide) g l;obtain⟨b,m⟩:=ox 9 (by decide) g l;obtain⟨c,q⟩:=ox 5 (by decide) g l;obtain⟨d,hd⟩:=ox 7 (by decide) g l;obtain⟨e,u⟩:=ox 11 (by decide) g l;refine⟨(3465*a+15400*b+22176*c+11880*d+2520*e) % 27720,by omega,by omega,fun x j=>?_⟩;have v:=g x j;have z:=s x j;have A:=m x j;have B:=q x j;have E:=hd x j;have F:=u x j;obtain⟨r,n⟩:=x;dsimp only at *;have y:n=1∨n=2∨n=3∨n=4∨n=5∨n=6∨n=7∨n=8∨n=9∨n=10∨n=11∨n=12:=by omega
 clear s m q hd u g l j v;rcases y with rfl | rfl | rfl | rfl | rfl | rfl | rfl | rfl | rfl | rfl | rfl | rfl<;>simp at z A B E F ⊢<;>omega
theorem S3{ps:List aE}(y:∀ p ∈ ps,1≤p.aJ∧p.aJ≤12)(h:lP [] ps):∃ d:Int,0≤d∧d<27720∧∀ p ∈ ps,hO p d:=by
 obtain⟨z,j,q,s⟩:=vk ps [] h (by intro x g;cases g);rw [ajZ]at j;obtain⟨d,l,m,hd⟩:=afH (fun x g=>by obtain⟨p,b,e⟩:=s x g;rw [e];exact y p b) j;refine⟨d,l,m,fun p b=>?_⟩;obtain⟨c,u,v⟩:=q p b;exact⟨c,u,hd _ v⟩
theorem Al{ps:List aE}(s:∀ p ∈ ps,1≤p.aJ∧p.aJ≤12){d:Int}(h:∀ p ∈ ps,hO p d)(k:Int):∀ p ∈ ps,hO p (d+27720*k):=fun p g=>by
 obtain⟨c,m,j⟩:=h p g;refine⟨c,m,?_⟩;have l:p.aJ ∣ 27720:=by
  obtain⟨a,b⟩:=s p g;have q:p.aJ=1∨p.aJ=2∨p.aJ=3∨p.aJ=4∨p.aJ=5∨p.aJ=6∨p.aJ=7∨p.aJ=8∨p.aJ=9∨p.aJ=10∨p.aJ=11∨p.aJ=12:=by omega
  rcases q with e | e | e | e | e | e | e | e | e | e | e | e<;>rw [e]<;>decide
 rw [show d+27720*k-fe p c=(d-fe p c)+27720*k by omega];exact Int.dvd_add j (aj8 l (akR _ _))
def sw(x y:aN):Bool:=if x.fr=y.fr then(if x.day=y.day then decide (x.to<y.to)else decide (x.day<y.day))else decide (x.fr<y.fr)
theorem Yz(x y:aN):bR tab 61 [.a (x.row.map .f),.a (y.row.map .f)]=Eq (vb (sw x y)):=by
 refine Kf.eq (dO rfl rfl fun H Q g=>?_);apply ai;simp [aN.row];apply aq;apply ai;simp;by_cases b:x.fr=y.fr
 ·refine a6 (by simp [b]) ?_;apply aq;apply ai;simp;by_cases d:x.day=y.day
  ·refine a6 (by simp [d]) ?_;apply ai;simp;refine aF (g _ _ ?_);simp [sw,b,d]
  ·refine aw (by simp [d]) ?_;apply ai;simp;refine aF (g _ _ ?_);simp [sw,b,d]
 ·refine aw (by simp [b]) ?_;apply ai;simp;refine aF (g _ _ ?_);simp [sw,b]
def aN.lt(x y:aN):Prop:=x.fr<y.fr∨x.fr=y.fr∧(x.day<y.day∨x.day=y.day∧x.to<y.to)
theorem uM(x y:aN):sw x y=ae↔x.lt y:=by
 unfold sw aN.lt;by_cases b:x.fr=y.fr
 ·by_cases d:x.day=y.day
  ·simp [b,d]
  ·simp [b,d]
 ·simp [b]
theorem sL(x y:aN):fJ x y<0↔x.lt y:=by
 unfold fJ aN.lt;simp only [AE,fR]
 repeat' split
 all_goals omega
theorem aN.lt_trans{x y z:aN}(h:x.lt y)(b:y.lt z):x.lt z:=by unfold aN.lt at *;omega
theorem aN.acn{x y:aN}(h:¬ x.lt y)(d:x≠y):y.lt x:=by
 obtain⟨a,b,c⟩:=x;obtain⟨a',g,j⟩:=y;unfold aN.lt at *;simp only [ne_eq,aN.mk.injEq]at d;simp only at h ⊢;omega
theorem Hx(g:Tg)(l:List aN)(x:aN)(hl:l.length≤10)(hs:l.Pairwise aN.lt):∃ g' K,K.length≤l.length+1∧(K.Pairwise aN.lt∧∀ y,y ∈ K↔y=x∨y ∈ l)∧bR tab 23 [.c (.f (sl g (aT l))),.a (x.row.map .f)]=Eq (.c (.f (sl g' (aT K)))):=by
 obtain⟨r,⟨g',K,c_,hS,rfl⟩,h⟩:∃ r,(∃ g' K,K.length≤l.length+1∧(K.Pairwise aN.lt∧∀ y,y ∈ K↔y=x∨y ∈ l)∧r=.c (.f (sl g' (aT K))))∧bR tab 23 [.c (.f (sl g (aT l))),.a (x.row.map .f)] r:=by
  refine fu rfl rfl fun Q hQ=>?_;apply ai;simp [aN.row];apply ai;simp;apply ai;simp;apply aq;apply ai;simp;have W:∀(H:an) (v:V) (o:List aN) (y:aN),o.length≤30→LB ae H 3 v .es (aT o)→∃ v' H',bD (H++[.box [.f (fi y.day),.f (fi y.fr),.f (fi y.to)] 0]) 3 24 v (.c (.sl H.length 0 1 1 0 3))=aa (v',H')∧LB ae H' 3 v' .es (aT (o++[y]))∧(∀(b:Nat) cs fl,H[b]?=aa (.box cs fl)→H'[b]?=aa (.box cs fl)):=by
   intro H v o y Y A;obtain⟨v',H',X,U,-,e4⟩:=LB.app (H:=H++[.box [.f (fi y.day),.f (fi y.fr),.f (fi y.to)] 0]) (row:=y.row) (bytes:=24) (y:=.c (.sl H.length 0 1 1 0 3)) (A.push _) (dq _) rfl (by decide)
    (pJ (fl:=0) (cs:=y.row.map .f) (by simp [aN.row]) rfl) (yP _) (by simp [cO];omega)
   refine⟨v',H',X,by simpa [aT]using U,fun b cs fl hb=>e4 _ _ _ ?_⟩;rw [AT (aj hb)];exact hb
  refine mY l.length (fun j t H=>t.g 0=.c (.f (sl g (aT l)))∧t.g 3=.c (.ptr 0 0 0)∧H[0]?=aa (.box [.f (fi x.day),.f (fi x.fr),.f (fi x.to)] 0)∧∃ d o,t.g 6=vb d∧LB ae H 3 (t.g 5) .es (aT o)∧o.length≤j+1∧(d=ag→o=l.take j∧∀ y ∈ o,y.lt x)∧(d=ae→(o++l.drop j).Pairwise aN.lt∧∀ y,y ∈ o↔y=x∨y ∈ l.take j)) (by omega) rfl (by simp)
   ⟨by simp,by simp,by simp,ag,[],by simp,by simpa [aT]using LB.es0,by simp,by simp,by simp⟩ ?_ ?_ ?_
  ·rintro j t H L S ⟨u,E,F,d,o,N,A,Y,hd,q⟩ O hL;simp [O,u];exact hL _ ⟨by simp [u],by simp [E],F,d,o,by simp [N],by simpa using A,Y,hd,q⟩ (by simp [O]) (by simp)
  ·rintro j t H S ⟨u,E,F,d,o,N,A,Y,hd,q⟩ O next
   have s:=fun H:an=>dr (H:=H) (dq l) (fN S);have J:=Yz x l[j];simp [aN.row]at s J;refine az ?_;apply aq;apply ai;simp [u,E,O,bH,S,s,F];have M:∀(t:T) (H:an) (o:List aN) (d:Bool),t.g 0=.c (.f (sl g (aT l)))→t.g 3=.c (.ptr 0 0 0)→t.g 7=vi j→t.g 6=vb d→H[0]?=aa (.box [.f (fi x.day),.f (fi x.fr),.f (fi x.to)] 0)→LB ae H 3 (t.g 5) .es (aT o) →
     o.length≤j+1→(d=ag→o=l.take j∧(∀ y ∈ o,y.lt x)∧l[j].lt x)→(d=ae→(o++l.drop j).Pairwise aN.lt∧∀ y,y ∈ o↔y=x∨y ∈ l.take j) →
     WP tab 23 ab [.code tV,.inBlock 1,.code (se 7 13 14),.inLoop (qY 0 7 12 13 14 [⟨D 9,.cU (R 7),ab⟩,⟨D 10,.cU (R 0),ab⟩,⟨D 11,.len (R 10),ab⟩,⟨D 12,.bin .lss (R 9) (R 11),ab⟩] tU),.inBlock 0,.code tW] ⟨t,[],H⟩ Q:=by
    intro t H o d u E g7 N F A Y hd q;have b_:l.take (j+1)=l.take j++[l[j]]:=by rw [aju,By S];rfl
    have c9:l.drop j=l[j]::l.drop (j+1):=ajh S;have e_:(l.take j).length=j:=by simp;omega
    have d_:(o++[l[j]]).length≤j+1+1:=by simp;omega
    obtain⟨v',H',X,U,e4⟩:=W H (t.g 5) o l[j] (by omega) A;refine au (.inl rfl) ?_;simp [u,g7,bH,S,s,X];refine ax (next _ _ ?_ (by simp [g7]));exact⟨by simp [u],by simp [E],e4 _ _ _ F,d,o++[l[j]],by simp [N],by simpa using U,d_,fun h=>by
     obtain⟨a1,B,a3⟩:=hd h;subst a1;refine⟨b_.symm,fun y m=>?_⟩;rcases aja.1 m with m | m
     ·exact B y m
     ·obtain rfl:=ai9.1 m;exact a3,fun h=>by
     obtain⟨a1,B⟩:=q h;rw [c9]at a1;refine⟨by simpa using a1,fun y=>?_⟩;rw [b_,aja,aja,B,or_assoc]⟩
   cases hc:(l[j].day == x.day&&(l[j].fr == x.fr&&l[j].to == x.to))
   ·refine a6 (by simp) ?_;apply aq;apply ai;simp [N];cases d
    ·simp [E,F,u,O,bH,S,s,J];cases a8:sw x l[j]
     ·refine a6 (by simp) ?_;exact M _ _ o ag (by simp [u]) (by simp [E]) (by simp [O]) (by simp [N]) F (by simpa using A) (by omega) (fun _=>by
       obtain⟨a1,B⟩:=hd rfl;refine⟨a1,B,aN.acn (x:=x) ?_ ?_⟩
       ·rw [←uM,a8];simp
       ·rintro rfl;simp at hc) (by simp)
     ·refine aw (by simp) ?_;obtain⟨v',H',X,U,e4⟩:=W H (t.g 5) o x (by omega) A;obtain⟨a1,B⟩:=hd rfl;have a7:=(uM _ _).1 a8;have f7:o.length≤j:=by rw [a1];simp;omega
      apply ai;simp [E,F,X];refine au (.inl rfl) ?_;simp;refine M _ _ (o++[x]) ae (by simp [u]) (by simp [E]) (by simp [O]) (by simp) (e4 _ _ _ F) (by simpa using U) (by simp;omega) (by simp) fun _=>⟨?_,fun y=>?_⟩
      ·have a_:(l.take j++l.drop j).Pairwise aN.lt:=by rw [List.take_append_drop];exact hs
       rw [akd]at a_;obtain⟨b1,b2,b3⟩:=a_;rw [ajI,akd,a1];refine⟨b1,?_,?_⟩
       ·rw [List.singleton_append,akI];refine⟨fun y m=>?_,b2⟩;rw [ajh S]at m b2;rcases ajB.1 m with rfl | m
        ·exact a7
        ·exact aN.lt_trans a7 ((akI.1 b2).1 y m)
       ·intro y m z Z;rcases aja.1 Z with Z | Z
        ·obtain rfl:=ai9.1 Z;exact B y (a1▸m)
        ·exact b3 y m z Z
      ·rw [aja,a1,ai9,or_comm]
    ·simp;refine a6 (by simp) ?_;exact M _ _ o ae (by simp [u]) (by simp [E]) (by simp [O]) (by simp [N]) F (by simpa using A) Y (by simp) fun _=>q rfl
   ·refine aw (by simp) ?_;apply ai;simp [u];refine aF (hQ _ _ _ ⟨g,l,by omega,⟨hs,fun y=>⟨.inr,?_⟩⟩,rfl⟩ ?_)
    ·rintro(rfl | m)
     ·have:y=l[j]:=by
       obtain⟨a,b,c⟩:=y;simp only [BY,beq_iff_eq]at hc;cases d9:l[j]with
       | mk a' b' c'=>
        rw [d9]at hc;simp at hc;obtain⟨rfl,rfl,rfl⟩:=hc;rfl
      rw [this];exact IT S
     ·exact m
    simp
  ·rintro t H ⟨u,E,F,d,o,N,A,Y,hd,q⟩ O;apply aq;apply ai;simp [N];cases d
   ·refine aw (by simp) ?_;obtain⟨v',H',X,U,e4⟩:=W H (t.g 5) o x (by omega) A;refine au (.inl rfl) ?_;simp [E,F,X];apply ai;simp;obtain⟨cv,I,_⟩:=U.len;have:=U.fzV (dq _);obtain⟨a1,B⟩:=hd rfl;rw [ajr]at a1;subst a1;refine aF (hQ _ _ _ ⟨.es,o++[x],by simp,⟨?_,fun y=>by rw [aja,ai9,or_comm]⟩,rfl⟩ ?_)
    ·rw [akd];exact⟨hs,aj9 _ _,fun y m z Z=>by obtain rfl:=ai9.1 Z;exact B y m⟩
    rw [I]at this;simp [I];simpa using this
   ·refine a6 (by simp) ?_;apply ai;simp;obtain⟨cv,I,_⟩:=A.len;have:=A.fzV (dq _);obtain⟨a1,B⟩:=q rfl;rw [ajr]at B;rw [akX,List.append_nil]at a1;refine aF (hQ _ _ _ ⟨.es,o,Y,⟨a1,B⟩,rfl⟩ ?_);rw [I]at this;simp [I];simpa using this
 exact⟨g',K,c_,hS,bR.eq h⟩
@[simp] theorem aN.ahN (x:aN):x.row.length=3:=rfl
theorem Cj{b:Type}(A:List b)(x y:b)(B:List b):(A++x::B).set A.length y=A++y::B:=by simp
theorem Yy:((List.range 257).all fun n=>match (CF tab 60 60 (.fn 64) [.c (.f (.int .u64 n))] [])with | some (.c (.f (.int .i64 (.ofNat k))),_)=>Nat.ble k 62&&(Nat.beq n 0||Nat.ble (2 ^ k) (2*n)) | _=>ag)=ae:=by kernel_rfl
theorem af8:Q1 tab gH 256:=fun n h=>by
 have j:=Yy;rw [aji]at j;have b:=j n (by simp;omega);split at b
 ·rename_i k H' e;rw [BY,Bool.or_eq_true]at b;refine⟨k,(zo (m:=60) (d:=60) (by rw [e];rfl)).eq,Nat.le_of_ble_eq_true b.1,fun l=>?_⟩;rcases b.2 with g | g
  ·have:=Nat.eq_of_beq_eq_true g;omega
  ·exact Nat.le_of_ble_eq_true g
 ·cases b
structure ob(ps:List aE):Prop where
 l1:1≤ps.length
 l2:ps.length≤64
 mod:∀ p ∈ ps,Mod p
 prod:ea ps≤1000000
 st:cA ps≤1000000000000
theorem ob.aJ{ps:List aE}(h:ob ps):∀ p ∈ ps,cu p=ae:=fun p b=>(h.mod p b).ok
def QZ(ps:List aE)(n x:Int):Prop:=n≤x∧tD ps x=ae
theorem iu{ps:List aE}{x:Int}(b:0≤x):tD ps x=ae↔∀ p ∈ ps,bF p x=ae:=by
 simp [tD,hasB,b]
theorem pZ{x:Int}:∀ {l:List aE},0≤x→x<cA l→∃ p ∈ l,x<p.fr
 | [],b,h=>by simp only [cA]at h;omega
 | q::l,b,h=>by
  simp only [cA]at h;by_cases k:x<q.fr
  ·exact⟨q,ajc,k⟩
  ·obtain⟨p,d,e⟩:=pZ (x:=x) (l:=l) b (by omega);exact⟨p,ajb _ d,e⟩
theorem yG{ps:List aE}(h:ob ps){n x:Int}(l:0≤n)(m:cA ps≤x):QZ ps n x↔max n (cA ps)≤x∧∀ p ∈ ps,hO p x:=by
 have j:=nh ps;unfold QZ;rw [iu (by omega)];constructor
 ·rintro⟨g,d⟩;exact⟨by omega,fun p b=>(mw (h.mod p b) (by have:=ng b;omega)).1 (d p b)⟩
 ·rintro⟨g,d⟩;exact⟨by omega,fun p b=>(mw (h.mod p b) (by have:=ng b;omega)).2 (d p b)⟩
theorem ZX(g:Tg)(ps:List aE)(h:ob ps)(n:Int)(J:0≤n)(W:n≤1000000000000):∃ d f q z,eX (QZ ps n) d f∧(0≤d∧d≤1000001000000) ∧
  bR tab 107 [.c (.f (sl g (aH ps))),vi n]=Eq (.t [vi q,vb z]) ∧
  ((z=ae∧d=q∧f=ae)∨(z=ag∧q=0∧∃ b,bR tab 78 [.c (.f (sl g (aH ps)))]=Eq (vb b)∧((b=ag∧d=0∧f=ag)∨(b=ae∧bR tab 108 [.c (.f (sl g (aH ps))),vi n]=Eq (.t [vi d,vb f]))))):=by
 obtain⟨q,z,U,A⟩:=yx g ps h.aJ h.l2 n;have Y:=nh ps;have Z:=h.st;have X:=h.prod;have u:∀ x,QZ ps n x→x<cA ps→iK ps n ps x:=by
  rintro x ⟨N,H⟩ l;obtain⟨p,y,S⟩:=pZ (by omega) l;refine⟨N,H,p,y,?_⟩;have:=(iu (by omega)).1 H p y;unfold bF at this;rw [aR (by omega),decide_eq_true_eq]at this;exact this
 rcases U with⟨rfl,rfl,F⟩ | ⟨rfl,O,v⟩
 ·have B:∀ x,QZ ps n x→cA ps≤x:=fun x l=>by
   rcases akq x (cA ps)with k | k
   ·exact absurd (u x l k) (F x)
   ·exact k
  have j:∀ x,QZ ps n x↔max n (cA ps)≤x∧∀ p ∈ ps,hO p x:=fun x=>by
   constructor
   ·intro l;exact(yG h J (B x l)).1 l
   ·intro l;exact(yG h J (by omega)).2 l
  obtain⟨b,I,m⟩:=vm g ps h.mod h.l1 h.l2;cases b with
  | false=>
   refine⟨0,ag,0,ag,.inl ⟨rfl,rfl,fun x l=>?_⟩,⟨by omega,by omega⟩,A,.inr ⟨rfl,rfl,ag,m,.inl ⟨rfl,rfl,rfl⟩⟩⟩;have:=I.2 (qX (d:=x) ps [] (by simp) ((j x).1 l).2);cases this
  | true=>
   rcases Ys g ps h.mod h.l2 h.prod n _ rfl (by omega)with⟨d,⟨K,L,d3,M⟩,E⟩ | ⟨s,E⟩
   ·exact⟨d,ae,0,ag,.inr ⟨rfl,(j d).2 ⟨K,L⟩,fun x l=>M x ((j x).1 l).1 ((j x).1 l).2⟩,⟨by omega,by omega⟩,A,.inr ⟨rfl,rfl,ae,m,.inr ⟨rfl,E⟩⟩⟩
   ·exact⟨0,ag,0,ag,.inl ⟨rfl,rfl,fun x l=>s x ((j x).1 l).1 ((j x).1 l).2⟩,⟨by omega,by omega⟩,A,.inr ⟨rfl,rfl,ae,m,.inr ⟨rfl,E⟩⟩⟩
 ·obtain⟨s1,s2,p,y,Q⟩:=O;have I:=(aV (h.aJ p y)).2.2.2.2.2.2.1 q Q;have:=ng y;refine⟨q,ae,q,ae,.inr ⟨rfl,⟨s1,s2⟩,fun x l=>?_⟩,⟨by omega,by omega⟩,A,.inl ⟨rfl,rfl,rfl⟩⟩;rcases akq x (cA ps)with k | k
  ·exact v x (u x l k)
  ·omega
theorem eX.join{S m q:Int→Prop}{l x:Int}{f j:Bool}(h1:eX m l f)(h2:eX q x j)(g:∀ d,S d↔m d∨q d):eX S (if j=ae∧(f=ag∨x<l)then x else l) (f||j):=by
 rcases h1 with⟨rfl,rfl,a⟩ | ⟨rfl,a,b⟩<;>rcases h2 with⟨rfl,rfl,c⟩ | ⟨rfl,c,e⟩
 ·refine .inl ⟨rfl,by simp,fun d hd=>?_⟩;rcases(g d).1 hd with h | h
  ·exact a d h
  ·exact c d h
 ·refine .inr ⟨rfl,by simpa using (g x).2 (.inr c),fun d hd=>?_⟩;rcases(g d).1 hd with h | h
  ·exact absurd h (a d)
  ·simpa using e d h
 ·refine .inr ⟨rfl,by simpa using (g l).2 (.inl a),fun d hd=>?_⟩;rcases(g d).1 hd with h | h
  ·simpa using b d h
  ·exact absurd h (c d)
 ·refine .inr ⟨rfl,?_,fun d hd=>?_⟩
  ·by_cases k:x<l
   ·simpa [k]using (g x).2 (.inr c)
   ·simpa [k]using (g l).2 (.inl a)
  ·rcases(g d).1 hd with h | h
   ·have:=b d h;by_cases k:x<l<;>simp [k]<;>omega
   ·have:=e d h;by_cases k:x<l<;>simp [k]<;>omega
def QH(H:an)(n b:Int)(found:Bool):Prop:=H[0]?=aa (.box [.f (fi n)] 0)∧H[1]?=aa (.box [.f (fi b)] 0)∧H[2]?=aa (.box [.f (.bool found)] 0)∧H[3]?=aa (.fg ae) ∧
 ∃ s:T,H[4]?=aa (.lp 69 s [P.nat 12] dp cL .ready ab 3)∧s.g 3=.c (.ptr 0 0 0)∧s.g 6=.c (.ptr 1 0 0)∧s.g 7=.c (.ptr 2 0 0)
theorem IE(x:FC):bR tab 77 [.c (.f x)]=Eq (.c (.f (.fn 119 [.fp [x] 0]))):=by
 refine bR.eq (bY rfl rfl fun Q b=>?_);apply ai;simp;apply ai;simp;refine aF (b _ _ ?_);simp [deep]
theorem ID{b:Nat}{H:an}(g:Tg)(ts:List cz)(L:ts.length≤1000000)(PP:Nat→an→Prop)(E:PP 0 H)
  (K:∀ j (q:j<ts.length) H,PP j H→∃ r H',Ev tab (.yield b) [.c (.f (sl ts[j].tg (aH ts[j].fs)))] H r H'∧(r=vb ae∧PP (j+1) H')) :
  ∃ r A,Ev tab (.fn 119) [.c (.yl b),.c (.f (.fp [sl g (aD ts)] 0))] H r A∧(r=.t []∧PP ts.length A):=by
 refine cM rfl rfl fun Q I=>?_;apply ai;simp [BW];refine bU ts.length (fun j s J=>s.g 0=.c (.yl b)∧s.g 5=.c (.f (sl g (aD ts)))∧PP j J) (by omega) (by decide) (by decide) (by simp) (by simp) ⟨by simp,by simp,E⟩ ?_ ?_
 ·rintro j s J q ⟨u,v,x⟩ y B next
  have m:=fun H:an=>fZ (H:=H) (eM ts) (fQ (l:=ts) (j:=j) q) rfl;have d:=fun H:an=>bH (H:=H) (g:=g) (rows:=aD ts) (sz:=1) (k:=.i64) (i:=j) (by omega) (by simpa using q);simp at m d;obtain⟨r,H',z,rfl,F⟩:=K j q J x;refine az ?_;apply ai;simp [v,y,d,m];apply ai;simp [u,z.eq];refine a6 (by simp) ?_;refine ax (next _ _ ?_ (by simp [y]) (by simp [B]));exact⟨by simp [u],by simp [v],F⟩
 ·rintro s J ⟨u,v,x⟩ y B;exact dh (I _ _ _ rfl rfl ⟨rfl,x⟩)
def afp(ts:List cz)(n x:Int):Prop:=∃ t ∈ ts,QZ t.fs n x
theorem tn(j l m:FC)(len g d:Int)(v:0≤len)(q:len≤10080)(x:-4320≤g)(s:g≤4320) :
  bR tab 37 [.a [.f j,.f (fi len),.f l],.a [.f m,.f (fi g)],vi d]=Eq (vb (decide (d≤(2251799813685248-g-len) / 1440))):=Kf.eq (by
 refine dO rfl rfl fun H Q u=>?_;apply ai;simp;apply ai;simp [aM (n:=2251799813685248-g),aM (n:=2251799813685248-g-len),e9 (a:=2251799813685248-g-len) (b:=1440) (by omega) (by omega) (by omega)];refine aF (u _ _ ?_);simp)
structure Bp(ts:List cz):Prop where
 v:ij ts=ae
 f:∀ t ∈ ts,ob t.fs
def ld:bZ→Bool
 | .cE _ _ _ _ _=>ag| _=>ae
def oX:List Nat→an→an
 | [],H=>H| b::bs,H=>oX bs (H.set b (.fg ag))
structure fv(bs:List Nat)(H:an):Prop where
 nd:bs.Nodup
 on:∀ b ∈ bs,H[b]?=aa (.fg ae)
theorem nG{call:dj}:∀ {bs:List Nat} {H:an},fv bs H→dV call (bs.map .er) H=aa (oX bs H)
 | [],H,_=>rfl
 | b::bs,H,h=>by
  have j:=h.on b ajc;have d:=List.nodup_cons.1 h.nd;simp only [ajd,dV,j,oX];exact nG ⟨d.2,fun x g=>by rw [sh (by rintro rfl;exact d.1 g)];exact h.on x (ajb _ g)⟩
theorem kd:∀ {bs:List Nat} {H:an} {i:Nat},i ∉ bs→(oX bs H)[i]?=H[i]?
 | [],_,_,_=>rfl
 | b::bs,H,i,h=>by
  simp only [ajB,not_or]at h;rw [oX,kd h.2,sh (Ne.symm h.1)]
def QX(b:List gA)(r:V)(s:St):Prop:=∃ bs,s.defs=bs.map .er∧fv bs s.heap∧∃ d,Km.results s.aB (oX bs s.heap) b=aa d∧mR deep (oX bs s.heap) d=aa r
theorem pT{f:Nat}{args:List V}{S:V→Prop}{ps:List P}{b:List gA}{body:av}(z:tab f=aa ⟨ps,b,body⟩)(x:args.length=ps.length)
  (h:∀ Q:Option av→St→Prop,(∀ j s r,S r→QX b r s→Q j s)→WP tab f ab [.code body] ⟨bV ps args .e,[],[]⟩ Q):∃ r,S r∧bR tab f args r:=by
 have q:=h (fun _ s=>∃ r,S r∧QX b r s) fun _ _ r g l=>⟨r,g,l⟩
 obtain⟨n,m,d,j,s,g,r,y,bs,hd,v,A,l,u⟩:=q;exact⟨r,y,A,oX bs s.heap,qu z x ⟨n,m,d,j,s,g,0,0,_,by rw [hd];exact nG v,l,rfl⟩,u⟩
theorem fv.push{bs:List Nat}{H:an}(h:fv bs H)(J:an):fv bs (H++J):=⟨h.nd,fun b hb=>by rw [AT (aj (h.on b hb))];exact h.on b hb⟩
theorem fv.bf{bs:List Nat}{H H':an}(h:fv bs H)(d:∀(i:Nat) y,H[i]?=aa y→ld y=ae→H'[i]?=aa y):fv bs H':=⟨h.nd,fun b hb=>d b _ (h.on b hb) rfl⟩
theorem fv.set{bs:List Nat}{H:an}(h:fv bs H){i:Nat}{y z:bZ}(hi:H[i]?=aa y)(hy:y≠.fg ae):fv bs (H.set i z):=⟨h.nd,fun b hb=>by
 have:=h.on b hb;rw [sh (by rintro rfl;rw [this]at hi;cases hi;exact hy rfl)];exact this⟩
theorem fv.not{bs:List Nat}{H:an}(h:fv bs H){i:Nat}{y:bZ}(hi:H[i]?=aa y)(hy:y≠.fg ae):i ∉ bs:=fun hb=>by
 have:=h.on i hb;rw [hi]at this;cases this;exact hy rfl
theorem mW:∀(l:List Int) (a k:Int),l.Pairwise (· < ·)→(∀ x ∈ l,a≤x∧x<a+k)→(l.length:Int)≤max k 0
 | [],_,_,_,_=>by simp;omega
 | x::l,a,k,g,h=>by
  have j:=h x ajc;have b:=akI.1 g;have:=mW l (x+1) (a+k-x-1) b.2 fun y d=>⟨by have:=b.1 y d;omega,by have:=h y (ajb _ d);omega⟩
  simp only [ajL];omega
structure oh(s:aQ):Prop where
 v:gl s=ae
 cn:s.cs.length≤3
 cl:∀ c ∈ s.cs,Bp c.ts
 xn:s.xs.length≤4
theorem ov:∀ {l:List cm} {o:Option Int},dB o l=ae→∀ c ∈ l,ij c.ts=ae∧-4320≤c.min∧c.min≤4320
 | c::l,o,h,x,d=>by
  simp only [dB,BY]at h;obtain⟨⟨⟨g,b⟩,-⟩,j⟩:=h;rcases ajB.1 d with rfl | d
  ·unfold cW at b;simp at b;exact⟨g,b.1,b.2⟩
  ·exact ov j x d
theorem oh.len{s:aQ}(h:oh s):1≤s.len∧s.len≤10080:=by
 have:=h.v;simp [gl,cW]at this;omega
theorem oh.min{s:aQ}(h:oh s){c:cm}(hc:c ∈ s.cs):-4320≤c.min∧c.min≤4320:=by
 have:=h.v;simp only [gl,BY]at this;exact(ov this.1.2 c hc).2
theorem mv{ts:List cz}(h:ij ts=ae):∀ t ∈ ts,t.Sm:=fun t d=>by
 obtain⟨-,b⟩:=pQ h;exact⟨by have:=(gI (b t d)).2.1;omega,fun p g=>lu ((gI (b t d)).2.2 p g)⟩
theorem oh.sm{s:aQ}(h:oh s):s.Sm:=by
 have h1:=h.cn;have h2:=h.xn;refine⟨by omega,by omega,fun c hc=>⟨?_,mv (h.cl c hc).v⟩⟩;have:=(pQ (h.cl c hc).v).1;omega
def Z8(c:cm)(len:Int)(x:aN):Prop:=∃ d,afp c.ts 0 d∧x=dw len c.min d
def nD(s:aQ)(x:aN):Prop:=(∃ c ∈ s.cs,Z8 c s.len x)∨x ∈ s.xs
abbrev u8(n:Nat):FC:=.int .u8 n
def dA(l:List Nat):List (List FC):=l.map fun n=>[u8 n]
@[simp] theorem ad_ (l:List Nat):(dA l).length=l.length:=by simp [dA]
theorem zX(l:List Nat):bK 1 (dA l):=bK.map fun _=>rfl
theorem yM{j:Nat}{l:List Nat}(b:j<l.length){H:an}:aU H ab (.c (.f (.fp (dA l).flatten j)))=aa (.c (.f (u8 l[j]))):=by
 have:=fZ (H:=H) (rows:=dA l) (j:=j) (sz:=1) (row:=[u8 l[j]]) (x:=u8 l[j]) (zX l) (by simp [dA,b]) rfl;simpa using this
theorem uE{j:Nat}{l:List Nat}{g:Tg}(b:j<l.length){H:an}:bz H 1 ab (.c (.f (sl g (dA l)))) (vi j)=aa (.c (.f (.fp (dA l).flatten j))):=by
 have:=bH (H:=H) (g:=g) (rows:=dA l) (sz:=1) (k:=.i64) (i:=(j:Int)) (by omega) (by simp;omega);simpa using this
def tt(b:List Nat)(i:Nat):Nat:=b[i]?.getD 0
theorem vJ{b:List Nat}(h:∀ n ∈ b,n<256)(i:Nat):tt b i<256:=by
 unfold tt;by_cases hi:i<b.length
 ·rw [By hi];exact h _ (IT hi)
 ·rw [akF.2 (by omega)];decide
theorem ud(g:Tg)(b:List Nat)(m:∀ n ∈ b,n<256)(s:b.length≤9223372036854775807)(i:Nat)(hi:i≤1000):bR tab 60 [.c (.f (sl g (dA b))),vi i]=Eq (vi (tt b i:Nat)):=bR.eq (by
 refine bY rfl rfl fun Q d=>?_;apply ai;simp;refine aq (ai ?_);simp;by_cases h:i<b.length
 ·have j:=uE (g:=g) h (H:=[]);have l:=yM h (H:=[]);have q:=m _ (IT h);have w:ah .i64 ((b[i]:Nat):Int)=((b[i]:Nat):Int):=aM;refine aw (by simp [h]) (ai ?_);simp [j,l,w];refine aF (d _ _ ?_);simp [tt,By h]
 ·refine a6 (by simp [h]) ?_;apply ai;simp;refine aF (d _ _ ?_);simp [tt,akF.2 (show b.length≤i by omega)])
theorem nb{limit:Int}:∀ {l:List Int} {last:Int},(∀ x ∈ l,last<x∧x<limit)→l.Pairwise (· < ·)→dt limit last l=ae
 | [],_,_,_=>rfl
 | n::r,last,h,b=>by
  have d:=h n ajc;rw [akI]at b;simp only [dt,decide_eq_true d.1,decide_eq_true d.2,aj6];exact nb (fun x g=>⟨b.1 x g,(h x (ajb _ g)).2⟩) b.2
def Up(l:List Int)(n:Nat):Prop:=(∀ x ∈ l,0≤x∧x<n)∧l.Pairwise (· < ·)∧l.length≤n
theorem Up.nil:Up [] 0:=⟨by simp,List.Pairwise.nil,by simp⟩
theorem Up.skip{l:List Int}{n:Nat}(h:Up l n):Up l (n+1):=⟨fun x b=>by have:=h.1 x b;omega,h.2.1,by have:=h.2.2;omega⟩
theorem Up.app{l:List Int}{n:Nat}(h:Up l n):Up (l++[(n:Int)]) (n+1):=by
 refine⟨fun x d=>?_,?_,by simp;exact h.2.2⟩
 ·rcases aja.1 d with d | d
  ·have:=h.1 x d;omega
  ·simp at d;subst d;omega
 ·rw [akd];exact⟨h.2.1,aj9 _ _,fun a g b hb=>by simp at hb;subst hb;have:=h.1 a g;omega⟩
theorem Up.rising{l:List Int}{n:Nat}(h:Up l n):dt n (-1) l=ae:=nb (fun x b=>by have:=h.1 x b;omega) h.2.1
theorem kW(l:List Int):bK 1 (ints l):=bK.map fun _=>rfl
structure FI(b:V)(fr aJ:Nat)(hd cy:List Int)(ch cc:C)(t:T)(J:an):Prop where
 res:J[0]?=aa (.box [.f .aA,.f (fi 0),.f (fi 0),.f .aA] 0)
 pb:J[1]?=aa (.box [ch,.f (fi fr),.f (fi aJ),cc] 0)
 lh:LR J ch 1 (ints hd)
 lc:LR J cc 1 (ints cy)
 ne:∀ i,aS ch=aa i→aS cc≠aa i
 g0:t.g 0=b
 g2:t.g 2=.c (.ptr 0 0 0)
 g3:t.g 3=.c (.ptr 1 0 0)
section
variable{b:V}{fr aJ:Nat}{hd cy:List Int}{ch cc:C}{t:T}{J:an}
theorem FI.to(k:FI b fr aJ hd cy ch cc t J){d:T}(g0:d.g 0=b)(g2:d.g 2=.c (.ptr 0 0 0))(g3:d.g 3=.c (.ptr 1 0 0)):FI b fr aJ hd cy ch cc d J:=⟨k.res,k.pb,k.lh,k.lc,k.ne,g0,g2,g3⟩
theorem FI.XL(k:FI b fr aJ hd cy ch cc t J)(hl:cy.length≤1000)(n:Int) :
  ∃ m j,bD (J++[.box [.f (fi n)] 0]) 1 8 (.c cc) (.c (.sl J.length 0 1 1 0 1))=aa (.c m,j)∧di j (.ptr 1 3 0) [m]=aa (j.set 1 (.box [ch,.f (fi fr),.f (fi aJ),m] 0)) ∧
   ∀ x:T,x.g 0=b→x.g 2=.c (.ptr 0 0 0)→x.g 3=.c (.ptr 1 0 0)→FI b fr aJ hd (cy++[n]) ch m x (j.set 1 (.box [ch,.f (fi fr),.f (fi aJ),m] 0)):=by
 obtain⟨A,d⟩:=aL (J++[.box ([fi n].map .f) 0]:an);have up:∀ i y,J[i]?=aa y→A[i]?=aa y:=fun i y hy=>by rw [d,AT (aj hy)];exact hy
 have u:LR A cc 1 (ints cy):=by rw [d];exact k.lc.push _
 have B:A[J.length]?=aa (.box ([fi n].map .f) 0):=by rw [d];simp
 obtain⟨m,j,l,q,s,E⟩:=u.app (kW cy) (by decide) (row:=[fi n]) rfl (bytes:=8) (dF (by simp [ints];omega) (by decide)) B;have z:∀(i:Nat) (cs:List C) (fl:Nat),J[i]?=aa (.box cs fl)→j[i]?=aa (.box cs fl):=fun i cs fl hy=>s.2 i _ (up _ _ hy) (u.bh (up _ _ hy));have g:=z _ _ _ k.pb;have H:ints cy++[[fi n]]=ints (cy++[n]):=by simp [ints]
 rw [H]at q;have v:LR j ch 1 (ints hd):=k.lh.bf fun i y hy hi=>s.2 i y (up _ _ hy) (k.ne i hi);refine⟨m,j,by rw [d]at l;exact l,by simp [di,g,over],fun x g0 g2 g3=>⟨?_,If (aj g),v.set (v.bh g) _,q.set (q.bh g) _,?_,g0,g2,g3⟩⟩
 ·rw [sh (by decide)];exact z _ _ _ k.res
 ·intro i hi;rcases E with e | e
  ·rw [e];exact k.ne i hi
  ·rw [e];intro F;cases F;have:=k.lh.lt hi;have h2:A.length=J.length+1:=by rw [d];simp
   omega
theorem FI.RQ(k:FI b fr aJ hd cy ch cc t J)(hl:hd.length≤1000)(n:Int) :
  ∃ m j,bD (J++[.box [.f (fi n)] 0]) 1 8 (.c ch) (.c (.sl J.length 0 1 1 0 1))=aa (.c m,j)∧di j (.ptr 1 0 0) [m]=aa (j.set 1 (.box [m,.f (fi fr),.f (fi aJ),cc] 0)) ∧
   ∀ z:T,z.g 0=b→z.g 2=.c (.ptr 0 0 0)→z.g 3=.c (.ptr 1 0 0)→FI b fr aJ (hd++[n]) cy m cc z (j.set 1 (.box [m,.f (fi fr),.f (fi aJ),cc] 0)):=by
 obtain⟨B,d⟩:=aL (J++[.box ([fi n].map .f) 0]:an);have up:∀ i y,J[i]?=aa y→B[i]?=aa y:=fun i y hy=>by rw [d,AT (aj hy)];exact hy
 have u:LR B ch 1 (ints hd):=by rw [d];exact k.lh.push _
 have E:B[J.length]?=aa (.box ([fi n].map .f) 0):=by rw [d];simp
 obtain⟨m,j,l,q,s,F⟩:=u.app (kW hd) (by decide) (row:=[fi n]) rfl (bytes:=8) (dF (by simp [ints];omega) (by decide)) E;have A:∀(i:Nat) (cs:List C) (fl:Nat),J[i]?=aa (.box cs fl)→j[i]?=aa (.box cs fl):=fun i cs fl hy=>s.2 i _ (up _ _ hy) (u.bh (up _ _ hy));have g:=A _ _ _ k.pb;have H:ints hd++[[fi n]]=ints (hd++[n]):=by simp [ints]
 rw [H]at q;have v:LR j cc 1 (ints cy):=k.lc.bf fun i y hy hi=>s.2 i y (up _ _ hy) (fun e=>k.ne i e hi);refine⟨m,j,by rw [d]at l;exact l,by simp [di,g,over],fun z g0 g2 g3=>⟨?_,If (aj g),q.set (q.bh g) _,v.set (v.bh g) _,?_,g0,g2,g3⟩⟩
 ·rw [sh (by decide)];exact A _ _ _ k.res
 ·intro i hi x;rcases F with e | e
  ·rw [e]at hi;exact k.ne i hi x
  ·rw [e]at hi;cases hi;have:=k.lc.lt x;have h2:B.length=J.length+1:=by rw [d];simp
   omega
end
theorem S_(a:Int)(j:Nat):bM .shr (vi a) (vi j)=aa (vi (a.fdiv (2 ^ (min j 64)))):=by
 have:¬ ((j:Int)<0):=by omega
 simp only [bM,this,if_false];rw [ajA];rfl
theorem Cl(a:Int)(j:Nat):bM .rem (vi (a.fdiv (2 ^ (min j 64)))) (vi 2)=aa (vi ((a.fdiv (2 ^ (min j 64))).tmod 2)):=by
 simp [bM,ky,V.int]
def aE.eX(p:aE):Prop:=cu p=ae∧p.fr≤8∧p.aJ≤12
theorem tF(g:Tg){b:List Nat}(s:∀ n ∈ b,n<256)(m:b.length≤9223372036854775807) :
  ∃ p:aE,p.eX∧bR tab 59 [.c (.f (sl g (dA b)))]=Eq (.a (p.row.map .f)):=by
 obtain⟨rr,⟨p,hp,rfl⟩,N⟩:∃ rr,(∃ p:aE,p.eX∧rr=.a (p.row.map .f))∧bR tab 59 [.c (.f (sl g (dA b)))] rr:=by
  refine fu rfl rfl fun Q o=>?_;have S:bR tab 60 [.c (.f (sl g (dA b))),vi 0]=Eq (vi (tt b 0:Nat)):=ud g b s m 0 (by decide);have a1:bR tab 60 [.c (.f (sl g (dA b))),vi 1]=Eq (vi (tt b 1:Nat)):=ud g b s m 1 (by decide);have U:bR tab 60 [.c (.f (sl g (dA b))),vi 2]=Eq (vi (tt b 2:Nat)):=ud g b s m 2 (by decide);have W:bR tab 60 [.c (.f (sl g (dA b))),vi 3]=Eq (vi (tt b 3:Nat)):=ud g b s m 3 (by decide);have X:bR tab 60 [.c (.f (sl g (dA b))),vi 4]=Eq (vi (tt b 4:Nat)):=ud g b s m 4 (by decide);have b0:=vJ s 0;have b1:=vJ s 1;have b2:=vJ s 2;have b3:=vJ s 3;obtain⟨fr,F⟩:=aL (tt b 1 % 9:Nat);obtain⟨aJ,B⟩:=aL (1+tt b 0 % 12:Nat);have r1:bM .rem (vi (tt b 1:Nat)) (vi 9)=aa (vi fr):=by rw [eP (by omega) (by decide),F];simp
  have r0:bM .rem (vi (tt b 0:Nat)) (vi 12)=aa (vi (tt b 0 % 12:Nat)):=by rw [eP (by omega) (by decide)];simp
  have w0:ah .i64 (1+(tt b 0:Int) % 12)=aJ:=by rw [aM,B];simp
  have w3:=aM (n:=256*(tt b 3:Int));obtain⟨bits,x⟩:=aL (ah .i64 ((tt b 2:Int)+256*(tt b 3:Int)));apply ai;simp;apply ai;simp [S,a1,r0,r1,w0];apply ai;simp [U,W,w3,←x];refine aq (ai ?_);simp;refine mY aJ (fun j t J=>∃ cy cc,Up cy j∧FI (.c (.f (sl g (dA b)))) fr aJ [] cy (.f .aA) cc t J∧t.g 4=vi bits) (by omega) (by decide) (by simp)
   ⟨[],.f .aA,Up.nil,⟨rfl,rfl,LR.nil _ _,LR.nil _ _,(fun i h=>by cases h),by simp,by simp,by simp⟩,by simp⟩ ?_ ?_ ?_
  ·rintro j t J L H ⟨cy,cc,u,k,q⟩ d M;simp [d,k.g3,k.pb,aW];exact M _ ⟨cy,cc,u,k.to (by simp [k.g0]) (by simp [k.g2]) (by simp [k.g3]),by simp [q]⟩ (by simp [d]) (by simp)
  ·rintro j t J H ⟨cy,cc,u,k,q⟩ d nx;refine az (ai ?_);simp [d,q,S_,Cl];by_cases A:(bits.fdiv (2 ^ (min j 64))).tmod 2=1
   ·simp [A];refine aw (by simp) (au (.inl rfl) ?_);obtain⟨Y,O,l,z,I⟩:=k.XL (by have:=u.2.2;omega) j;simp [d,k.g3,k.pb,aW,l,z,-bu];refine ax (nx _ _ ⟨_,_,u.app,I _ (by simp [k.g0]) (by simp [k.g2]) (by simp [k.g3]),by simp [q]⟩ (by simp [d]))
   ·simp [A];refine a6 (by simp) ?_;refine ax (nx _ _ ⟨_,_,u.skip,k.to (by simp [k.g0]) (by simp [k.g2]) (by simp [k.g3]),by simp [q]⟩ (by simp [d]))
  rintro t J ⟨cy,cc,u,k,q⟩ d;refine aq (ai ?_);simp;refine mY fr (fun j t J=>∃ hd ch,Up hd j∧FI (.c (.f (sl g (dA b)))) fr aJ hd cy ch cc t J) (by omega) (by decide) (by simp)
   ⟨[],.f .aA,Up.nil,k.to (by simp [k.g0]) (by simp [k.g2]) (by simp [k.g3])⟩ ?_ ?_ ?_
  ·clear k q d;rintro j t J L H ⟨hd,ch,v,k⟩ d M;simp [d,k.g3,k.pb,aW];exact M _ ⟨hd,ch,v,k.to (by simp [k.g0]) (by simp [k.g2]) (by simp [k.g3])⟩ (by simp [d]) (by simp)
  ·clear k q d;rintro j t J H ⟨hd,ch,v,k⟩ d nx;refine az (ai ?_);simp [d,k.g0,X,S_,Cl];by_cases A:((tt b 4:Int).fdiv (2 ^ (min j 64))).tmod 2=1
   ·simp [A];refine aw (by simp) (au (.inl rfl) ?_);obtain⟨Y,O,l,z,I⟩:=k.RQ (by have:=v.2.2;omega) j;simp [d,k.g3,k.pb,aW,l,z,-bu];refine ax (nx _ _ ⟨_,_,v.app,I _ (by simp [k.g0]) (by simp [k.g2]) (by simp [k.g3])⟩ (by simp [d]))
   ·simp [A];refine a6 (by simp) ?_;refine ax (nx _ _ ⟨_,_,v.skip,k.to (by simp [k.g0]) (by simp [k.g2]) (by simp [k.g3])⟩ (by simp [d]))
  clear k q d;rintro t J ⟨hd,ch,v,k⟩ d;apply ai;simp [k.g2,k.g3,k.pb,k.res,aW];obtain⟨w,hh⟩:=k.lh.XY (kW _);obtain⟨Z,r⟩:=k.lc.XY (kW _);have K:=aj k.res;have a:=hh (J.set 0 (.box [ch,.f (fi fr),.f (fi aJ),cc] 0)) 63 fun i y hi E=>by
   rw [sh (by rintro rfl;exact k.lh.bh k.res E)];exact hi
  have c:=r (J.set 0 (.box [ch,.f (fi fr),.f (fi aJ),cc] 0)) 63 fun i y hi E=>by
   rw [sh (by rintro rfl;exact k.lc.bh k.res E)];exact hi
  refine aF (o _ _ _ ⟨⟨w,hd,fr,aJ,Z,cy⟩,?_,rfl⟩ ⟨rfl,.a [ch,.f (fi fr),.f (fi aJ),cc],?_,?_⟩)
  ·have A:=u.2.2;have h2:=v.2.2;have e:=u.rising;have f:=v.rising;refine⟨?_,by show(fr:Int)≤8;omega,by show(aJ:Int)≤12;omega⟩;simp [cu,e,f];omega
  ·simp [Km.results,cC,aZ,k.g2,K,aW]
  ·simp [mR,dI,aZ,deep,a,c,aE.row]
 exact⟨p,hp,N.eq⟩
def gq(J:an)(c:C)(fs:List aE):Prop:=
 (∃ p m,fs=[p]∧c=.sl m 0 1 1 0 4∧J[m]?=aa (.box (p.row.map .f) 0))∨(fs≠[]∧LR J c 4 (aH fs))
theorem wv(fs:List aE)(q:aE):aH fs++[q.row]=aH (fs++[q]):=by simp [aH]
section
variable{J J':an}{c:C}{fs:List aE}
theorem gq.bf(h:gq J c fs)(b:∀ i y,J[i]?=aa y→aS c=aa i→J'[i]?=aa y):gq J' c fs:=by
 rcases h with⟨p,m,rfl,rfl,h⟩ | ⟨h,h2⟩
 ·exact .inl ⟨p,m,rfl,rfl,b m _ h rfl⟩
 ·exact .inr ⟨h,h2.bf b⟩
theorem gq.push(h:gq J c fs)(L:an):gq (J++L) c fs:=h.bf fun i y hy _=>by rw [AT (aj hy)];exact hy
theorem gq.len(h:gq J c fs):bg J c=aa fs.length:=by
 rcases h with⟨p,m,rfl,rfl,h⟩ | ⟨h,h2⟩
 ·simp [bg,h]
 ·simpa using h2.len
theorem gq.bO(h:gq J c fs):∃ m,aS c=aa m∧m<J.length∧∀ cs fl d st,J[m]?≠aa (.cE 1 cs fl d st):=by
 rcases h with⟨p,m,rfl,rfl,h⟩ | ⟨h,⟨h1,_⟩ | ⟨_,b,d,rfl,hb⟩⟩
 ·exact⟨m,rfl,aj h,fun cs fl d st e=>by rw [h]at e;cases e⟩
 ·exact absurd (by simpa [aH]using h1) h
 ·unfold RB at hb;exact⟨b,rfl,aj hb,fun cs fl d st e=>by rw [hb]at e;cases e⟩
theorem gq.app(h:gq J c fs)(hl:fs.length≤10)(q:aE){b1:Nat}(j:J[b1]?=aa (.box (q.row.map .f) 0)) :
  ∃ l H',bD J 4 64 (.c c) (.c (.sl b1 0 1 1 0 4))=aa (.c l,H')∧gq H' l (fs++[q])∧Kb J H' c∧(aS l=aS c∨aS l=aa J.length):=by
 rcases h with⟨p,m,rfl,rfl,h⟩ | ⟨h,h2⟩
 ·have d:de J 4 (.c (.sl b1 0 1 1 0 4))=aa (1,q.row.map .f):=pJ j rfl;have b:cO 2 64=ae:=dF (by decide) (by decide);refine⟨.sl J.length 0 2 0 0 4,J++[.cE 4 (p.row.map .f++q.row.map .f) 0 0 .loc],?_,.inr ⟨by simp,.inr ⟨by simp [aH],J.length,0,rfl,?_⟩⟩,Kb.push _ _ _,.inr rfl⟩
  ·simp [bD,d,h,b,aE.row]
  ·unfold RB;simp [aH]
 ·obtain⟨y,x,g,u,s,v⟩:=h2.app (bA fs) (by decide) (row:=q.row) rfl (bytes:=64) (dF (by simp;omega) (by decide)) j;exact⟨y,x,g,.inr ⟨by simp,wv fs q▸u⟩,s,v⟩
theorem gq.ex(h:gq J c fs)(n:Nat):et (n+1) J c=aa (sl .fs (aH fs)):=by
 rcases h with⟨p,m,rfl,rfl,h⟩ | ⟨h,h2⟩
 ·simp [jQ,h,aH,sl,aE.row,aZ]
 ·obtain⟨g,e⟩:=h2.ex (bA fs) n;rw [e,Tc (g':=.fs) (by simpa [aH]using h)]
end
inductive Bm{α β:Type}(R:α→β→Prop):List α→List β→Prop
 | nil:Bm R [] []
 | cons {a b l m}:R a b→Bm R l m→Bm R (a::l) (b::m)
def TL(J:an)(ct:C)(ts:List (List aE)):Prop:=(ts=[]∧ct=.f .aA) ∨
 (ts≠[]∧∃ b d cs,ct=.sl b 0 ts.length 0 d 1∧J[b]?=aa (.cE 1 cs 0 d .loc)∧Bm (gq J) cs ts∧cs.Pairwise (fun a b=>aS a≠aS b))
theorem gV{d g:Type}{R S:d→g→Prop}:∀ {l:List d} {m:List g},Bm R l m→(∀ a b,a ∈ l→R a b→S a b)→Bm S l m
 | [],[],_,_=>.nil| a::l,b::m,.cons h t,hi=>.cons (hi a b ajc h) (gV t fun x y j=>hi x y (ajb _ j))
theorem iZ{b d:Type}{R:b→d→Prop}:∀ {l:List b} {m:List d},Bm R l m→l.length=m.length
 | [],[],_=>rfl| _::_,_::_,.cons _ t=>by simp [iZ t]
theorem kS{d g:Type}{R:d→g→Prop}:∀ {l:List d} {m:List g},Bm R l m→∀ {a b},R a b→Bm R (l++[a]) (m++[b])
 | [],[],_,a,b,h=>.cons h .nil| _::_,_::_,.cons h t,a,b,j=>.cons h (kS t j)
theorem me{j g:Type}{R:j→g→Prop}:∀ {l:List j} {m:List g} {b:g},Bm R l (m++[b])→∃ d a,l=d++[a]∧Bm R d m∧R a b
 | _,[],b,h=>by
  cases h with
  | cons h t=>cases t;exact⟨[],_,rfl,.nil,h⟩
 | _,y::m,b,h=>by
  cases h with
  | cons h t=>
   obtain⟨d,a,rfl,q,s⟩:=me t;exact⟨_::d,a,rfl,.cons h q,s⟩
theorem md{g j:Type}{R:g→j→Prop}:∀ {l:List g} {m:List j},Bm R l m→∀ a ∈ l,∃ b,R a b
 | [],[],_,a,h=>by cases h
 | x::_,y::_,.cons h t,a,d=>by
  rcases ajB.1 d with rfl | d
  ·exact⟨y,h⟩
  ·exact md t a d
section
variable{J J':an}{ct:C}{ts:List (List aE)}
theorem TL.bf(h:TL J ct ts)(l:∀ i y,J[i]?=aa y→i≠0→i≠1→J'[i]?=aa y)(h0:∃ x fl,J[0]?=aa (.box [x] fl))(h1:∃ x fl,J[1]?=aa (.box [x] fl)):TL J' ct ts:=by
 obtain⟨B,z,h0⟩:=h0;obtain⟨E,A,h1⟩:=h1;rcases h with h | ⟨h,b,q,cs,rfl,hb,u,v⟩
 ·exact .inl h
 ·refine .inr ⟨h,b,q,cs,rfl,l _ _ hb (by rintro rfl;rw [h0]at hb;cases hb) (by rintro rfl;rw [h1]at hb;cases hb),gV u fun c fs _ hi=>hi.bf fun i y hy g=>l i y hy ?_ ?_,v⟩
  all_goals
   rintro rfl;rcases hi with⟨p,m,rfl,rfl,d⟩ | ⟨j,⟨e,_⟩ | ⟨_,m,s,rfl,d⟩⟩
   ·cases g
    first | (rw [h0]at d;simp [aE.row]at d) | (rw [h1]at d;simp [aE.row]at d)
   ·exact j (by simpa [aH]using e)
   ·cases g;unfold RB at d
    first | (rw [h0]at d;cases d) | (rw [h1]at d;cases d)
theorem TL.push(h:TL J ct ts)(L:an):TL (J++L) ct ts:=by
 rcases h with h | ⟨h,b,d,cs,rfl,hb,g,j⟩
 ·exact .inl h
 ·exact .inr ⟨h,b,d,cs,rfl,by rw [AT (aj hb)];exact hb,gV g fun c fs _ hi=>hi.push L,j⟩
theorem TL.len(h:TL J ct ts):bg J ct=aa ts.length:=by
 rcases h with⟨rfl,rfl⟩ | ⟨h,b,d,cs,rfl,hb,g,j⟩
 ·rfl
 ·simp [bg,hb]
theorem oQ{d j s:Type}{R:d→j→Prop}{g:d→Option s}{k:j→s}(q:∀ a b,R a b→g a=aa (k b)):∀ {l:List d} {m:List j},Bm R l m→aZ g l=aa (m.map k)
 | [],[],_=>rfl| _::_,_::_,.cons h t=>by simp only [aZ,q _ _ h,oQ q t,ajd]
theorem lM:∀ {l:List (List aE)},(l.map fun fs=>[sl .fs (aH fs)]).flatten=l.map fun fs=>sl .fs (aH fs)
 | []=>rfl| x::l=>by simp [lM (l:=l)]
theorem TL.ex(h:TL J ct ts)(n:Nat):∃ g,et (n+2) J ct=aa (sl g (aD (ts.map fun fs=>⟨.fs,fs⟩))):=by
 rcases h with⟨rfl,rfl⟩ | ⟨h,b,m,cs,rfl,hb,j,q⟩
 ·exact⟨.nil,rfl⟩
 ·refine⟨.fs,?_⟩;have hl:=iZ j;have l:=oQ (g:=et (n+1) J) (k:=fun fs=>sl .fs (aH fs)) (fun c fs hi=>hi.ex n) j;simp only [jQ,hb];rw [ba ⟨trivial,trivial,by omega⟩,aj4,ajl (by omega),l];have d:¬ (aD (ts.map fun fs=>(⟨.fs,fs⟩:cz))).isEmpty=ae:=by simpa [aD]using h
  have e:(aD (ts.map fun fs=>(⟨.fs,fs⟩:cz))).flatten=ts.map fun fs=>sl .fs (aH fs):=by
   simp only [aD,List.map_map];exact lM
  have el:(aD (ts.map fun fs=>(⟨.fs,fs⟩:cz))).length=ts.length:=by simp
  have es:sl .fs (aD (ts.map fun fs=>(⟨.fs,fs⟩:cz)))=.fs (ts.map fun fs=>sl .fs (aH fs)) ts.length:=by
   rw [←e,←el];unfold sl;rw [aR d]
  rw [es];rfl
end
structure SI(J:an)(ct:C)(ts:List (List aE)):Prop where
 res:J[0]?=aa (.box [.f .aA] 0)
 out:J[1]?=aa (.box [ct] 0)
 tl:TL J ct ts
theorem SI.push{J:an}{ct:C}{ts:List (List aE)}(h:SI J ct ts)(L:an):SI (J++L) ct ts:=
 ⟨by rw [AT (aj h.res)];exact h.res,by rw [AT (aj h.out)];exact h.out,h.tl.push L⟩
theorem Cb{R:C→C→Prop}{l:List C}{a:C}(h:l.Pairwise R)(d:∀ x ∈ l,R x a):(l++[a]).Pairwise R:=by
 rw [akd];exact⟨h,aj9 _ _,fun x g y b=>by simp at b;subst b;exact d x g⟩
theorem SI.new{J:an}{ct:C}{ts:List (List aE)}(h:SI J ct ts)(hl:ts.length≤10)(q:aE) :
  ∃ A H',bD (J++[.box (q.row.map .f) 0]++[.box [.sl J.length 0 1 1 0 4] 0]) 1 24 (.c ct) (.c (.sl (J.length+1) 0 1 1 0 1))=aa (.c A,H')∧di H' (.ptr 1 0 0) [A]=aa (H'.set 1 (.box [A] 0))∧SI (H'.set 1 (.box [A] 0)) A (ts++[[q]]):=by
 obtain⟨O,s⟩:=aL (J++[.box (q.row.map .f) 0]:an);obtain⟨l,j⟩:=aL (O++[.box [.sl J.length 0 1 1 0 4] 0]:an);rw [←s,←j];have l1:O.length=J.length+1:=by rw [s];simp
 have l2:l.length=J.length+2:=by rw [j];simp [l1]
 have u:SI l ct ts:=by rw [j,s];exact(h.push _).push _
 have I:l[J.length]?=aa (.box (q.row.map .f) 0):=by rw [j,AT (by omega),s];simp
 have bx:l[J.length+1]?=aa (.box [.sl J.length 0 1 1 0 4] 0):=by rw [j,←l1];simp
 have v:de l 1 (.c (.sl (J.length+1) 0 1 1 0 1))=aa (1,[.sl J.length 0 1 1 0 4]):=by simp [de,bg,cH,bx]
 have g:cO (ts.length+1) 24=ae:=dF (by omega) (by decide);have h0:=aj h.res;have h1:=aj h.out;rcases u.tl with⟨U,W⟩ | ⟨x,b,E,cs,rfl,hb,Q,X⟩
 ·subst U W;have g:cO 1 24=ae:=dF (by decide) (by decide);refine⟨.sl l.length 0 1 0 0 1,l++[.cE 1 [.sl J.length 0 1 1 0 4] 0 0 .loc],?_,?_,?_,?_,?_⟩
  ·simp [bD,v,g]
  ·have:(l++[.cE 1 [.sl J.length 0 1 1 0 4] 0 0 .loc])[1]?=aa (.box [.f .aA] 0):=by rw [AT (by omega)];exact u.out
   simp [di,this,over]
  ·rw [sh (by decide),AT (by omega)];exact u.res
  ·rw [If (by simp;omega)]
  ·refine .inr ⟨by simp,l.length,0,[.sl J.length 0 1 1 0 4],rfl,?_,.cons (.inl ⟨q,J.length,rfl,rfl,?_⟩) .nil,aj9 _ _⟩
   ·rw [sh (by omega)];simp
   ·rw [sh (by omega),AT (by omega)];exact I
 ·have M:=iZ Q;have b1:b≠1:=by rintro rfl;rw [u.out]at hb;cases hb
  have b0:b≠0:=by rintro rfl;rw [u.res]at hb;cases hb
  have bl:=aj hb;obtain⟨H',d⟩:=aL (l.set b (.cE 1 (cs++[.sl J.length 0 1 1 0 4]) 0 (E+1) .loc):an);have L:H'[1]?=aa (.box [.sl b 0 ts.length 0 E 1] 0):=by rw [d,sh b1];exact u.out
  have lH:H'.length=l.length:=by rw [d];simp
  refine⟨.sl b 0 (ts.length+1) 0 (E+1) 1,H',?_,?_,?_,?_,?_⟩
  ·simp [bD,v,g,hb,M,d]
  ·simp [di,L,over]
  ·rw [sh (by decide),d,sh b0];exact u.res
  ·rw [If (by omega)]
  ·refine .inr ⟨by simp,b,E+1,cs++[.sl J.length 0 1 1 0 4],by simp,?_,kS (gV Q fun c fs hc hi=>?_) (.inl ⟨q,J.length,rfl,rfl,?_⟩),Cb X fun c hc=>?_⟩
   ·rw [sh (Ne.symm b1),d,If bl]
   ·obtain⟨m,B,lm,S⟩:=hi.bO;refine hi.bf fun i y hy H=>?_;rw [B]at H;cases H;have Y:1≠m:=by
     rintro rfl;rcases hi with⟨p,m,rfl,rfl,z⟩ | ⟨x,⟨e,_⟩ | ⟨_,m,K,rfl,z⟩⟩
     ·cases B;rw [u.out]at z;simp [aE.row]at z
     ·exact x (by simpa [aH]using e)
     ·cases B;unfold RB at z;rw [u.out]at z;cases z
    have Z:b≠m:=by rintro rfl;exact S _ _ _ _ hb
    rw [sh Y,d,sh Z];exact hy
   ·rw [sh (by omega),d,sh (by rintro rfl;rw [I]at hb;cases hb)];exact I
   ·have h3:Bm (gq J) cs ts:=by
     rcases h.tl with⟨e,_⟩ | ⟨_,b',K,cs',e,F,N,_⟩
     ·exact absurd e x
     ·cases e;have:l[b]?=aa (.cE 1 cs' 0 E .loc):=by rw [j,s,ajI,AT (aj F)];exact F
      rw [hb]at this;cases this;exact N
    obtain⟨fs,hi⟩:=md h3 c hc;obtain⟨m,B,lm,S⟩:=hi.bO;rw [B];intro e;cases e;omega
theorem SI.more{J:an}{ct:C}{ts:List (List aE)}{fs:List aE}(h:SI J ct (ts++[fs]))(hl:fs.length≤10)(q:aE) :
  ∃ b l c,bz J 1 ab (.c ct) (vi ts.length)=aa (.c (.ptr b ts.length l))∧aU J ab (.c (.ptr b ts.length l))=aa (.c c)∧bg J c=aa fs.length ∧
   ∃ B H',bD (J++[.box (q.row.map .f) 0]) 4 64 (.c c) (.c (.sl J.length 0 1 1 0 4))=aa (.c B,H')∧bz H' 1 ab (.c ct) (vi ts.length)=aa (.c (.ptr b ts.length l))∧H'[1]?=aa (.box [ct] 0) ∧
    ∃ Y,di H' (.ptr b ts.length l) [B]=aa Y∧SI Y ct (ts++[fs++[q]]):=by
 rcases h.tl with⟨e,_⟩ | ⟨_,b,l,cs,rfl,hb,hf,Z⟩
 ·simp at e
 obtain⟨cs',c,rfl,z,hi⟩:=me hf;have F:=iZ z;obtain⟨E,d⟩:=aL (J++[.box (q.row.map .f) 0]:an);have l1:E.length=J.length+1:=by rw [d];simp
 have k1:SI E (.sl b 0 (ts++[fs]).length 0 l 1) (ts++[fs]):=by rw [d];exact h.push _
 have bq:E[J.length]?=aa (.box (q.row.map .f) 0):=by rw [d];simp
 have Q:gq E c fs:=by rw [d];exact hi.push _
 obtain⟨m,L,lm,om⟩:=hi.bO;obtain⟨B,H',x,H,hK,O⟩:=Q.app hl q bq;have up:∀ i y,J[i]?=aa y→E[i]?=aa y:=fun i y hy=>by rw [d,AT (aj hy)];exact hy
 have v:∀ i y,J[i]?=aa y→i≠m→H'[i]?=aa y:=fun i y hy A=>hK.2 i y (up i y hy) (by rw [L];intro e;cases e;exact A rfl);have mb:b≠m:=by rintro rfl;exact om _ _ _ _ hb
 have s:=v _ _ hb mb;have I:m≠0∧m≠1:=by
  rcases hi with⟨p,U,rfl,rfl,j⟩ | ⟨A,⟨e,_⟩ | ⟨_,U,a7,rfl,j⟩⟩
  ·cases L;exact⟨by rintro rfl;rw [h.res]at j;simp [aE.row]at j,by rintro rfl;rw [h.out]at j;simp [aE.row]at j⟩
  ·exact absurd (by simpa [aH]using e) A
  ·cases L;unfold RB at j;exact⟨(by rintro rfl;rw [h.res]at j;cases j),(by rintro rfl;rw [h.out]at j;cases j)⟩
 have r0:=v _ _ h.res (Ne.symm I.1);have r1:=v _ _ h.out (Ne.symm I.2);have b0:b≠0:=by rintro rfl;rw [h.res]at hb;cases hb
 have b1:b≠1:=by rintro rfl;rw [h.out]at hb;cases hb
 obtain⟨U,N,a8,X⟩:=H.bO;have W:b≠U:=by rintro rfl;exact X _ _ _ _ s
 rw [akd]at Z;obtain⟨p1,-,p3⟩:=Z;refine⟨b,l,c,?_,?_,hi.len,B,H',by rw [d]at x;exact x,?_,r1,H'.set b (.cE 1 (cs'++[B]) 0 l .loc),?_,?_,?_,?_⟩
 ·simp [bz,fS,hb];omega
 ·simp [aU,aC,hb,←F,aW]
 ·simp [bz,fS,s];omega
 ·simp [di,s,over,←F]
 ·rw [sh b0];exact r0
 ·rw [sh b1];simpa using r1
 ·refine .inr ⟨by simp,b,l,cs'++[B],by simp,If (aj s),kS (gV z fun a f M u=>?_) (H.bf fun i y hy g=>?_),Cb p1 fun a M=>?_⟩
  ·obtain⟨k,K,lk,ok⟩:=u.bO;refine u.bf fun i y hy g=>?_;rw [K]at g;cases g;have S:k≠m:=by
    have:=p3 a M c (by simp);rw [K,L]at this;exact fun e=>this (by rw [e])
   rw [sh (by rintro rfl;exact ok _ _ _ _ hb)];exact v _ _ hy S
  ·rw [N]at g;cases g;rw [sh W];exact hy
  ·rcases O with e | e
   ·rw [e];exact p3 a M c (by simp)
   ·obtain⟨f,u⟩:=md z a M;obtain⟨k,K,lk,ok⟩:=u.bO;rw [e,K];intro e2;cases e2;omega
abbrev TH:=Tg × List Nat
def aa'(b:TH):Prop:=b.2.length≤9223372036854775807∧∀ n ∈ b.2,n<256
def du(l:List TH):List (List FC):=l.map fun b=>[sl b.1 (dA b.2)]
@[simp] theorem zW (l:List TH):(du l).length=l.length:=by simp [du]
theorem qh(l:List TH):bK 1 (du l):=bK.map fun _=>rfl
theorem af6{j:Nat}{l:List TH}(b:j<l.length){H:an}:aU H ab (.c (.f (.fp (du l).flatten j)))=aa (.c (.f (sl l[j].1 (dA l[j].2)))):=by
 have:=fZ (H:=H) (rows:=du l) (j:=j) (sz:=1) (row:=[sl l[j].1 (dA l[j].2)]) (x:=sl l[j].1 (dA l[j].2)) (qh l) (by simp [du,b]) rfl;simpa using this
theorem aca{j:Nat}{l:List TH}{g:Tg}(b:j<l.length){H:an}:bz H 1 ab (.c (.f (sl g (du l)))) (vi j)=aa (.c (.f (.fp (du l).flatten j))):=by
 have:=bH (H:=H) (g:=g) (rows:=du l) (sz:=1) (k:=.i64) (i:=(j:Int)) (by omega) (by simp;omega);simpa using this
def lS(ts:List (List aE)):Prop:=ts.length≤3∧∀ fs ∈ ts,fs≠[]∧fs.length≤3∧∀ p ∈ fs,p.eX
theorem lS.new{ts:List (List aE)}(h:lS ts)(hl:ts.length<3){p:aE}(g:p.eX):lS (ts++[[p]]):=by
 refine⟨by simp;omega,fun fs b=>?_⟩;rcases aja.1 b with b | b
 ·exact h.2 fs b
 ·simp at b;subst b;exact⟨by simp,by simp,fun q d=>by simp at d;subst d;exact g⟩
theorem lS.more{ts:List (List aE)}{fs:List aE}(h:lS (ts++[fs]))(hl:fs.length<3){p:aE}(g:p.eX):lS (ts++[fs++[p]]):=by
 refine⟨by have:=h.1;simpa using this,fun d hg=>?_⟩;rcases aja.1 hg with hg | hg
 ·exact h.2 d (ajM _ hg)
 ·simp at hg;subst hg;have h2:=(h.2 fs (by simp)).2.2;refine⟨by simp,by simp;omega,fun q b=>?_⟩;rcases aja.1 b with b | b
  ·exact h2 q b
  ·simp at b;subst b;exact g
theorem lS.mix{ts:List (List aE)}(h:lS ts):ij (ts.map fun fs=>⟨.fs,fs⟩)=ae:=by
 have h1:=h.1;simp only [ij,BY,decide_eq_true_eq,aji,List.length_map];refine⟨by omega,fun t j=>?_⟩;obtain⟨fs,d,rfl⟩:=ajj.1 j;obtain⟨a,b,c⟩:=h.2 fs d;have:=ajE.2 a;simp only [il,BY,decide_eq_true_eq,aji];exact⟨⟨by omega,by omega⟩,fun p g=>(c p g).1⟩
theorem sQ:∀ {l:List aE},(∀ p ∈ l,p.eX)→1≤ea l∧ea l≤12 ^ l.length
 | [],_=>by simp [ea]
 | p::l,h=>by
  obtain⟨b,-,d⟩:=h p ajc;have g:=(aV b).2.2.1;obtain⟨j,m⟩:=sQ fun q u=>h q (ajb _ u);simp only [ea,ajL];have v:=ako g j (by decide) (by omega);have s:=ako d m (by omega) (by decide);rw [Int.pow_succ,aj1];refine⟨by rw [aj1];omega,by rw [aj1];rw [aj1 (12 ^ l.length)];exact s⟩
theorem z9{fs:List aE}(d:fs≠[])(g:fs.length≤5)(h:∀ p ∈ fs,p.eX):ob fs:=by
 have u:=ajE.2 d;refine⟨by omega,by omega,fun p b=>⟨(h p b).1,by have:=(h p b).2.2;omega⟩,?_,?_⟩
 ·have j:=(sQ h).2;have q:(12:Int) ^ fs.length≤12 ^ 5:=by
   have:fs.length=1∨fs.length=2∨fs.length=3∨fs.length=4∨fs.length=5:=by omega
   rcases this with e | e | e | e | e<;>rw [e]<;>decide
  have s:(12:Int) ^ 5=248832:=by decide
  omega
 ·have:=A1 (l:=fs) (m:=8) (by decide) fun p b=>(h p b).2.1;omega
theorem lS.ok{ts:List (List aE)}(h:lS ts):Bp (ts.map fun fs=>⟨.fs,fs⟩):=⟨h.mix,fun t g=>by
 obtain⟨fs,d,rfl⟩:=ajj.1 g;obtain⟨a,b,c⟩:=h.2 fs d;exact z9 a (show fs.length≤5 by omega) c⟩
def nA(ts:List (List aE)):Nat:=(ts.map List.length).sum
theorem yp(a:List (List aE))(fs:List aE):nA (a++[fs])=nA a+fs.length:=by simp [nA]
theorem BB:∀ {ts:List (List aE)},(∀ fs ∈ ts,fs≠[])→ts.length≤nA ts
 | [],_=>Nat.zero_le _
 | f::ts,h=>by
  have b:=BB fun g d=>h g (ajb _ d);have j:=ajE.2 (h f ajc);simp only [nA,ajd,List.sum_cons,ajL]at b ⊢;omega
theorem yq:∀ {ts:List (List aE)} {fs:List aE},fs ∈ ts→fs.length≤nA ts
 | f::ts,g,h=>by
  simp only [nA,ajd,List.sum_cons];rcases ajB.1 h with rfl | h
  ·omega
  ·have:=yq h;simp only [nA]at this;omega
theorem R9(g:Tg){l:List TH}(hl:l.length≤9223372036854775807)(hb:∀ b ∈ l,aa' b) :
  ∃ tg ts,(lS ts∧nA ts≤l.length)∧bR tab 22 [.c (.f (sl g (du l)))]=Eq (.a [.f (sl tg (aD (ts.map fun fs=>⟨.fs,fs⟩)))]):=by
 obtain⟨rr,⟨tg,ts,hm,rfl⟩,hp⟩:∃ rr,(∃ tg ts,(lS ts∧nA ts≤l.length)∧rr=.a [.f (sl tg (aD (ts.map fun fs=>⟨.fs,fs⟩)))])∧bR tab 22 [.c (.f (sl g (du l)))] rr:=by
  refine fu rfl rfl fun Q hQ=>?_;obtain⟨N,hN⟩:=aL (min l.length 9);apply ai;simp;apply ai;simp;refine aq (ai ?_);simp;refine mY N (fun j t J=>∃ ct ts,(lS ts∧nA ts≤j)∧SI J ct ts∧t.g 0=.c (.f (sl g (du l)))∧t.g 2=.c (.ptr 0 0 0)∧t.g 3=.c (.ptr 1 0 0)) (by omega) (by decide) (by simp)
   ⟨.f .aA,[],⟨⟨by simp,by simp⟩,by simp [nA]⟩,⟨rfl,rfl,.inl ⟨rfl,rfl⟩⟩,by simp,by simp,by simp⟩ ?_ ?_ ?_
  ·rintro j t J L hj ⟨ct,ts,M,k,m,v,d⟩ z hn;by_cases c1:(j:Int)<l.length
   ·simp [z,m,c1];exact hn _ ⟨ct,ts,M,k,by simp [m],by simp [v],by simp [d]⟩ (by simp [z]) (by simp;omega)
   ·simp [z,m,c1];exact hn _ ⟨ct,ts,M,k,by simp [m],by simp [v],by simp [d]⟩ (by simp [z]) (by simp;omega)
  ·rintro j t J hj ⟨ct,ts,⟨M,c9⟩,k,m,v,d⟩ z nx;have Z:j<l.length:=by omega
   obtain⟨bl,bb⟩:=hb _ (IT Z);obtain⟨p,d9,i4⟩:=tF l[j].1 bb bl;have B:bR tab 60 [.c (.f (sl l[j].1 (dA l[j].2))),vi 0]=Eq (vi (tt l[j].2 0:Nat)):=ud l[j].1 l[j].2 bb bl 0 (by decide);obtain⟨a,f_⟩:=aL ((tt l[j].2 0:Int));rw [←f_]at B;have ii:=fun H=>aca (g:=g) Z (H:=H);have dd:=fun H=>af6 Z (H:=H);have f7:=k.tl.len;have a8:aU J ab (.c (.ptr 1 0 0))=aa (.c ct):=by simp [aU,aC,k.out,aW]
   refine az (ai ?_);simp [d,a8,-ay,f7];apply ai;simp [m,z,ii,dd,i4,aE.row,-ay];obtain⟨E,F⟩:=aL (J++[.box (p.row.map .f) 0]:an);have k1:SI E ct ts:=by rw [F];exact k.push _
   have l1:E.length=J.length+1:=by rw [F];simp
   have bx:E[J.length]?=aa (.box (p.row.map .f) 0):=by rw [F];simp
   have a_:aU E (aa 4) (.c (.ptr J.length 0 0))=aa (.a [.f (sl p.hg (ints p.head)),.f (fi p.fr),.f (fi p.aJ),.f (sl p.cg (ints p.a5))]):=by simp [aU,aC,bx,aW,aE.row]
   have x:aU E ab (.c (.ptr 1 0 0))=aa (.c ct):=by simp [aU,aC,k1.out,aW]
   simp only [aE.row,ajd,ajt]at F;rw [←F];have e_:∀ t:T,t.g 0=.c (.f (sl g (du l)))→t.g 2=.c (.ptr 0 0 0)→t.g 3=.c (.ptr 1 0 0)→t.g 4=vi j→t.g 5=vi ts.length→t.g 6=.c (.ptr J.length 0 0) →
     WP tab 22 ab [.code pC,.inBlock 1,.code (se 4 16 17),.inLoop nY,.inBlock 0,.code mL] ⟨t,[],E⟩ Q:=by
    intro t m v d g4 W g6;apply ai;by_cases h3:ts.length<3
    ·simp [W,show(ts.length:Int)<3 by omega];refine aw (by simp) (au (.inl rfl) ?_);obtain⟨c',H',s,a7,hk⟩:=k1.new (by omega) p;simp only [aE.row,ajd,ajt]at s;have Y:bD (E++[.box [.f (sl p.hg (ints p.head)),.f (fi p.fr),.f (fi p.aJ),.f (sl p.cg (ints p.a5))] 0,.box [.sl E.length 0 1 1 0 4] 0]) 1 24 (.c ct) (.c (.sl (E.length+1) 0 1 1 0 1))=aa (.c c',H'):=by
      rw [←s,ajI];rfl
     simp [d,g6,x,a_,-ay,Y,a7,-bu];refine ax (nx _ _ ⟨c',_,⟨M.new h3 d9,by rw [yp];simp;omega⟩,hk,by simp [m],by simp [v],by simp [d]⟩ (by simp [g4]))
    ·simp [W,show¬ (ts.length:Int)<3 by omega];refine a6 (by simp) ?_;refine ax (nx _ _ ⟨ct,ts,⟨M,by omega⟩,k1,by simp [m],by simp [v],by simp [d]⟩ (by simp [g4]))
   have w0:ah .i64 0=0:=by decide
   apply ai;rcases List.eq_nil_or_concat ts with rfl | ⟨q,fs,rfl⟩
   ·simp;refine aG (by simp) ?_;exact e_ _ (by simp [m]) (by simp [v]) (by simp [d]) (by simp [z]) (by simp) (by simp)
   rw [List.concat_eq_append]at *;have f8:=M.1;simp at f8;have h3:=(M.2 fs (by simp)).2.1;obtain⟨b,ep,c,O,A,u,c',H',s,d_,c_,H2,a7,k2⟩:=k1.more (by omega) p;simp only [aE.row,ajd,ajt]at s;have U:ah .i64 (q.length:Int)=q.length:=aM;have i6:aU H' ab (.c (.ptr 1 0 0))=aa (.c ct):=by simp [aU,aC,c_,aW]
   have b_:(V.c ct).beq (.c ct)=ae:=by
    rcases k1.tl with⟨e,_⟩ | ⟨_,b,ep,cs,rfl,_⟩
    ·simp at e
    ·simp [V.beq,C.beq]
   have S:∀ t:T,fs.length<3→t.g 0=.c (.f (sl g (du l)))→t.g 2=.c (.ptr 0 0 0)→t.g 3=.c (.ptr 1 0 0)→t.g 4=vi j→t.g 5=vi ((q.length:Int)+1)→t.g 6=.c (.ptr J.length 0 0) →
     WP tab 22 ab [.code tT,.inBlock 1,.code (se 4 16 17),.inLoop nY,.inBlock 0,.code mL] ⟨t,[],E⟩ Q:=by
    intro t h3 m v d g4 W g6;refine eB (.inl rfl) ?_ ?_
    case refine_2=>
     intro c h_;have g_:c=(1,14):=by simpa using h_
     subst g_;refine⟨by decide,_,rfl,.inl ⟨by decide,?_⟩⟩;simp [d,W,g6,x,a_,O,A,U,s,d_,i6,fx,-ay];exact b_
    simp [d,W,g6,x,a_,O,A,U,s,d_,a7,-ay,-bu];refine ax (nx _ _ ⟨ct,_,⟨M.more h3 d9,by rw [yp]at c9 ⊢;simp;omega⟩,k2,by simp [m],by simp [v],by simp [d]⟩ (by simp [g4]))
   have K:∀ t:T,t.g 0=.c (.f (sl g (du l)))→t.g 2=.c (.ptr 0 0 0)→t.g 3=.c (.ptr 1 0 0)→t.g 4=vi j→t.g 5=vi ((q.length:Int)+1)→t.g 6=.c (.ptr J.length 0 0) →
     WP tab 22 ab [.code pC,.inBlock 1,.code (se 4 16 17),.inLoop nY,.inBlock 0,.code mL] ⟨t,[],E⟩ Q:=fun t m v d g4 W g6=>e_ t m v d g4 (by rw [W];simp) g6
   by_cases I:a<128
   ·by_cases X:fs.length<3
    ·simp [m,d,z,ii,dd,B,I,x,-ay,U,O,A,u,show(fs.length:Int)<3 by omega,show(0:Int)<(q.length:Int)+1 by omega];refine aw (by simp) ?_;exact S _ X (by simp [m]) (by simp [v]) (by simp [d]) (by simp [z]) (by simp) (by simp)
    ·simp [m,d,z,ii,dd,B,I,x,-ay,U,O,A,u,show¬ (fs.length:Int)<3 by omega,show(0:Int)<(q.length:Int)+1 by omega];refine aG (by simp) ?_;exact K _ (by simp [m]) (by simp [v]) (by simp [d]) (by simp [z]) (by simp) (by simp)
   ·by_cases h4:(q.length:Int)+1=3
    ·by_cases X:fs.length<3
     ·simp [m,d,z,ii,dd,B,I,x,-ay,U,O,A,u,show(fs.length:Int)<3 by omega,show(0:Int)<(q.length:Int)+1 by omega];rw [decide_eq_true h4];simp [d,x,-ay,U,O,A,u,show(fs.length:Int)<3 by omega];refine aw (by simp) ?_;exact S _ X (by simp [m]) (by simp [v]) (by simp [d]) (by simp [z]) (by simp) (by simp)
     ·simp [m,d,z,ii,dd,B,I,x,-ay,U,O,A,u,show¬ (fs.length:Int)<3 by omega,show(0:Int)<(q.length:Int)+1 by omega];rw [decide_eq_true h4];simp [d,x,-ay,U,O,A,u,show¬ (fs.length:Int)<3 by omega];refine aG (by simp) ?_;exact K _ (by simp [m]) (by simp [v]) (by simp [d]) (by simp [z]) (by simp) (by simp)
    ·simp [m,d,z,ii,dd,B,I,h4,show(0:Int)<(q.length:Int)+1 by omega];refine aG (by simp) ?_;exact K _ (by simp [m]) (by simp [v]) (by simp [d]) (by simp [z]) (by simp) (by simp)
  rintro t J ⟨ct,ts,⟨M,c9⟩,k,m,v,d⟩ z;have h0:=aj k.res;have a8:aU J (aa 1) (.c (.ptr 1 0 0))=aa (.a [ct]):=by simp [aU,aC,k.out,aW]
  have i7:di J (.ptr 0 0 0) [ct]=aa (J.set 0 (.box [ct] 0)):=by simp [di,k.res,over]
  apply ai;simp [v,d,a8,i7,-ay,-bu];have kl:TL (J.set 0 (.box [ct] 0)) ct ts:=k.tl.bf (fun i y hy hi _=>by rw [sh (Ne.symm hi)];exact hy) ⟨_,_,k.res⟩ ⟨_,_,k.out⟩;obtain⟨tg,i3⟩:=kl.ex 62;refine aF (hQ _ _ _ ⟨tg,_,⟨M,by omega⟩,rfl⟩ ⟨rfl,.a [ct],?_,?_⟩)
  ·simp [Km.results,cC,aZ,v,h0,aW]
  ·simp [mR,dI,aZ,deep,i3]
 exact⟨tg,ts,hm,hp.eq⟩
def im(l:List Nat):List (List FC):=l.map fun n:Nat=>[.int .u16 (n:Int)]
@[simp] theorem aes (l:List Nat):(im l).length=l.length:=by simp [im]
theorem A5(l:List Nat):bK 1 (im l):=bK.map fun _=>rfl
theorem R2{j:Nat}{l:List Nat}(b:j<l.length){H:an}:aU H ab (.c (.f (.fp (im l).flatten j)))=aa (.c (.f (.int .u16 l[j]))):=by
 have:=fZ (H:=H) (rows:=im l) (j:=j) (sz:=1) (row:=[.int .u16 l[j]]) (x:=.int .u16 l[j]) (A5 l) (by simp [im,b]) rfl;simpa using this
theorem Hw{j:Nat}{l:List Nat}{g:Tg}(b:j<l.length){H:an}:bz H 1 ab (.c (.f (sl g (im l)))) (vi j)=aa (.c (.f (.fp (im l).flatten j))):=by
 have:=bH (H:=H) (g:=g) (rows:=im l) (sz:=1) (k:=.i64) (i:=(j:Int)) (by omega) (by simp;omega);simpa using this
theorem adX{H:an}{sz:Nat}{g:Tg}{rows:List (List FC)}{k m:Nat}(s:bK sz rows)(I:k≤m)(J:m≤rows.length)(F:rows≠[]) :
  bG H sz (.c (.f (sl g rows))) (aa (vi k)) (aa (vi m)) ab=aa (.c (.f (sl .fs ((rows.take m).drop k)))):=by
 cases rows with
 | nil=>exact absurd rfl F
 | cons x r=>
  have B:wR (vi k) m=aa k:=by
   have:(0:Int)≤(k:Int)∧(k:Int)≤(m:Int):=⟨by omega,by omega⟩
   show(if(0:Int)≤(k:Int)∧(k:Int)≤(m:Int)then aa (k:Int).toNat else ab)=aa k;rw [ba this,ajA]
  have b:wR (vi m) (x::r).length=aa m:=by
   have:(0:Int)≤(m:Int)∧(m:Int)≤((x::r).length:Int):=⟨by omega,by omega⟩
   show(if(0:Int)≤(m:Int)∧(m:Int)≤((x::r).length:Int)then aa (m:Int).toNat else ab)=aa m;rw [ba this,ajA]
  have l:bE (x::r).length (x::r).length (aa (vi k)) (aa (vi m)) ab=aa (k,m,(x::r).length):=by
   simp only [ajL]at b;simp [bE,B,b]
  show bG H sz (.c (.f (.fs (x::r).flatten (x::r).length))) _ _ _=_;simp only [bG,l];have v:bK sz ((x::r).take m):=fun y j=>s y (List.mem_of_mem_take j);have E:bK sz (((x::r).take m).drop k):=fun y j=>v y (ajJ j);have d:(((x::r).take m).drop k).length=m-k:=by rw [List.length_drop,List.length_take];omega
  have z:((x::r).flatten.drop (k*sz)).take ((m-k)*sz)=(((x::r).take m).drop k).flatten:=by
   rw [mQ k s];have e:(((x::r).take m).drop k)=((x::r).drop k).take (m-k):=by rw [List.drop_take]
   rw [e];have u:bK sz ((x::r).drop k):=fun y j=>s y (ajJ j);rw [nq (m-k) u]
  rw [z];have A:sl .fs (((x::r).take m).drop k)=.fs (((x::r).take m).drop k).flatten (m-k):=by
   cases hd:((x::r).take m).drop k with
   | nil=>rw [hd]at d;simp at d;rw [←d];rfl| cons y q=>rw [hd]at d;rw [←d];rfl
  rw [A];simp
end Go.Proofs.YthkmdpgdicohdaaGreat
