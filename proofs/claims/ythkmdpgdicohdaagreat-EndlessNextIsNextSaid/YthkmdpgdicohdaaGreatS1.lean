/-
  abd the sV kX and the wR answer, for all arguments of their kind, in the small machine: part 1.
-/
import Derived.Test.YthkmdpgdicohdaaGreatTabB
import Derived.Test.YthkmdpgdicohdaaGreatK4
import Derived.Test.YthkmdpgdicohdaaGreatK5
import Derived.KernelRfl
open Option renaming some → aa,none → ab
open Bool renaming true → ae,false → ag
open List renaming drop_eq_getElem_cons → acP, getElem_mem → acE, getElem?_append_left → AT, take_add_one → acW, getElem?_eq_getElem → By, mem_append → acG, mem_singleton → acF, pairwise_append → ada, append_assoc → adG, pairwise_cons → adw, mem_cons → ac2, take_length → ac0, pairwise_singleton → ac7, drop_length → aew, all_eq_true → acN, mem_map → adx, pairwise_iff_getElem → adr, length_map → ac1, getElem_map → aex, take_of_length_le → acS, getElem_of_mem → adJ, mem_take_iff_getElem → adS, map_cons → ac5, getElem?_set_ne → AI, mem_cons_self → acK, mem_cons_of_mem → acM, getElem?_set_self → OF, drop_zero → ady, length_append → acZ, take_take → ad7, mem_append_left → adj, mem_append_right → adE, map_append → adP, getElem?_append_right → acR
open Bool renaming true_and → adl, and_eq_true → BY
open Nat renaming le_of_ble_eq_true → adv, le_refl → IT, zero_add → adt, gcd → aei, min_eq_left → adQ
open Int renaming toNat_natCast → adq, tmod_eq_emod_of_nonneg → adp, tdiv_eq_ediv_of_nonneg → adO, ediv_nonneg → ad1, le_trans → aey, ediv_le_self → adV, mul_nonneg → adF, mul_le_mul → ad8, emod_nonneg → adm, emod_lt_of_pos → ade, mul_le_mul_of_nonneg_left → acL, emod_eq_emod_iff_emod_sub_eq_zero → aed, dvd_mul_right → ad6, gcd → adK, lt_or_le → adA, emod_add_mul_ediv → ado, mul_comm → adu, mul_sub → aej, mul_assoc → ad2, mul_left_comm → aet, dvd_sub → adI, dvd_mul_left → aek, dvd_trans → adL, gcd_dvd_left → ael, gcd_dvd_right → aeu, gcd_pos_of_ne_zero_left → ad9, ediv_mul_cancel → aes, natCast_mul → aef, mul_le_mul_of_nonneg_right → aem
open Option.some renaming inj → adz
set_option linter.unusedVariables false
set_option linter.constructorNameAsVariable false
set_option linter.unusedSimpArgs false
set_option linter.unusedSectionVars false
set_option linter.unnecessarySimpa false
set_option maxRecDepth 100000
namespace Go.Proofs.YthkmdpgdicohdaaGreat
open Go Km
def bR(n lo b:Int):Bool:=decide (lo≤n)&&decide (n≤b)
theorem DT{n lo b:Int}(h:bR n lo b=ae):lo≤n∧n≤b:=by simpa [bR]using h
structure aT where
 hg:Tg
 head:List Int
 fr:Int
 cU:Int
 cg:Tg
 fY:List Int
def aT.row(p:aT):List FC:=[sl p.hg (ints p.head),fi p.fr,fi p.cU,sl p.cg (ints p.fY)]
def aQ(l:List aT):List (List FC):=l.map aT.row
@[simp] theorem S6 (l:List aT):(aQ l).length=l.length:=by simp [aQ]
theorem bO(l:List aT):bC 4 (aQ l):=bC.map fun _=>rfl
theorem dc{l:List aT}{j:Nat}(b:j<l.length):(aQ l)[j]?=aa l[j].row:=by simp [aQ,b]
def cH(b d:Int):List Int→Bool
 | []=>ae| n::r=>decide (d<n)&&decide (n<b)&&cH b n r
theorem uD{b d:Int}{l:List Int}{j:Nat}(g:j<l.length):cH b d (l.drop j)=(decide (d<l[j])&&decide (l[j]<b)&&cH b l[j] (l.drop (j+1))):=by
 rw [acP g];rfl
def eV(p:aT):Bool:=decide (0≤p.fr)&&decide (p.fr≤1099511627776)&&decide (1≤p.cU)&&decide (p.cU≤1099511627776) &&
 decide ((p.head.length:Int)+p.fY.length≤1048576)&&cH p.fr (-1) p.head&&cH p.cU (-1) p.fY
theorem DK(g:Tg)(l:List Int)(b:Int)(F:l.length≤9223372036854775807):Kf tab.get 100 [.c (.f (sl g (ints l))),vi b] (vb (cH b (-1) l)):=by
 refine dF rfl rfl fun H Q u=>?_;apply ai;simp;apply ai;simp;apply aq;apply ai;simp;refine et l.length (fun j t E=>t.g 1=vi b∧t.g 8=.c (.f (sl g (ints l)))∧H=E∧∃ d,t.g 5=vi d∧cH b (-1) l=cH b d (l.drop j)) F (by decide) (by decide) (by simp) (by simp) (by simp) ?_ ?_
 ·rintro j t _ z ⟨q,s,rfl,d,x,m⟩ v y next
  rw [uD z]at m;refine aB ?_;apply ai;simp [v,s,bW,z,kB];apply aq;apply ai;simp [x,q];by_cases A:l[j]≤d
  ·simp [A];refine an (by simp) ?_;apply ai;simp;refine aG (u _ _ ?_);simp [m,show¬ d<l[j] by omega]
  simp [A,q];by_cases B:b≤l[j]
  ·simp [B];refine an (by simp) ?_;apply ai;simp;refine aG (u _ _ ?_);simp [m,show¬ l[j]<b by omega]
  simp [B];refine aD (by simp) ?_;refine aO ?_;refine au (.inl rfl) ?_;simp;refine az (next _ _ ?_ (by simp [v]) (by simp [y]));rw [decide_eq_true (by omega),decide_eq_true (by omega)]at m;exact⟨by simp [q],by simp [s],rfl,l[j],by simp,by simpa using m⟩
 ·rintro t _ ⟨q,s,rfl,d,x,m⟩ v y;apply ai;simp;refine aG (u _ _ ?_);simp [m,cH]
theorem lg(g:Tg)(l:List Int)(b:Int)(d:l.length≤9223372036854775807) :
  cB tab.get 100 [.c (.f (sl g (ints l))),vi b]=Eq (vb (cH b (-1) l)):=(DK g l b d).eq
theorem DU{n:Int}(b:9223372036854775807<n)(d:n≤18446744073709551615):IntKind.wrap .i64 n=n-18446744073709551616:=by
 simp only [IntKind.wrap,IntKind.bits,IntKind.signed];simp;omega
theorem mj:∀(l:List Int) (b d:Int),cH b d l=ae→l.length=0∨d+l.length<b
 | [],_,_,_=>.inl rfl
 | n::r,b,d,h=>by
  simp [cH]at h;have:=mj r b n h.2;simp;omega
theorem VZ(p:aT)(v:p.head.length≤9223372036854775807)(x:p.fY.length≤9223372036854775807) :
  Kf tab.get 67 [.a (p.row.map .f)] (vb (eV p)):=by
 refine dF rfl rfl fun H Q d=>?_;apply ai;simp [aT.row];apply ai;simp;by_cases l:0≤p.fr
 case neg=>
  simp [l];refine aG (d _ _ ?_);simp [eV,l]
 simp [l];by_cases m:p.fr≤1099511627776
 case neg=>
  simp [m];refine aG (d _ _ ?_);simp [eV,m]
 simp [m];by_cases q:1≤p.cU
 case neg=>
  simp [q];refine aG (d _ _ ?_);simp [eV,q]
 simp [q];by_cases g:p.cU≤1099511627776
 case neg=>
  simp [g];refine aG (d _ _ ?_);simp [eV,g]
 by_cases y:p.head.length+p.fY.length≤9223372036854775807
 case neg=>
  have e:IntKind.wrap .i64 ((p.head.length:Int)+p.fY.length)=(p.head.length:Int)+p.fY.length-18446744073709551616:=DU (by omega) (by omega);simp [g,e,show(p.head.length:Int)+p.fY.length-18446744073709551616≤1048576 by omega,lg p.hg p.head p.fr v];cases j:cH p.fr (-1) p.head
  ·simp;refine aG (d _ _ ?_);simp [eV,j]
  simp [lg p.cg p.fY p.cU x];have u:cH p.cU (-1) p.fY=ag:=by
   have a:=mj _ _ _ j;cases u:cH p.cU (-1) p.fY
   ·rfl
   ·have b:=mj _ _ _ u;omega
  refine aG (d _ _ ?_);simp [eV,u]
 simp [g,aK (n:=(p.head.length:Int)+p.fY.length)];by_cases s:(p.head.length:Int)+p.fY.length≤1048576
 case neg=>
  simp [s];refine aG (d _ _ ?_);simp [eV,s]
 simp [s,lg p.hg p.head p.fr v];cases j:cH p.fr (-1) p.head
 ·simp;refine aG (d _ _ ?_);simp [eV,j]
 simp [lg p.cg p.fY p.cU x];refine aG (d _ _ ?_);simp [eV,l,m,q,g,s,j]
def aT.Sm(p:aT):Prop:=p.head.length≤9223372036854775807∧p.fY.length≤9223372036854775807
theorem K'(p:aT)(h:p.Sm):cB tab.get 67 [.a (p.row.map .f)]=Eq (vb (eV p)):=(VZ p h.1 h.2).eq
theorem uq{p:aT}(h:eV p=ae):p.Sm:=by
 simp [eV]at h;exact⟨by omega,by omega⟩
structure dj where
 tg:Tg
 fs:List aT
def dj.row(t:dj):List FC:=[sl t.tg (aQ t.fs)]
def aI(l:List dj):List (List FC):=l.map dj.row
@[simp] theorem RX (l:List dj):(aI l).length=l.length:=by simp [aI]
theorem lN(l:List dj):bC 1 (aI l):=bC.map fun _=>rfl
theorem o0{l:List dj}{j:Nat}(b:j<l.length):(aI l)[j]?=aa l[j].row:=by simp [aI,b]
def dj.Sm(t:dj):Prop:=t.fs.length≤9223372036854775807∧∀ p ∈ t.fs,p.Sm
def ji(t:dj):Bool:=decide (1≤(t.fs.length:Int))&&decide ((t.fs.length:Int)≤4)&&t.fs.all eV
def kF(l:List dj):Bool:=decide ((l.length:Int)≤64)&&l.all ji
theorem I_{b:Type}{l:List b}{p:b→Bool}{j:Nat}(d:j<l.length):(l.drop j).all p=(p l[j]&&(l.drop (j+1)).all p):=by
 rw [acP d,List.all_cons]
theorem T6(p:aT)(h:p.Sm):Kf tab.get 66 [.a (p.row.map .f)] (vb (!eV p)):=by
 refine dF rfl rfl fun H Q d=>?_;have b:=K' p h;simp [aT.row]at b;apply ai;simp [aT.row];apply ai;simp [b];refine aG (d _ _ ?_);simp
theorem Cn(g:Tg)(l:List aT)(d:l.length≤9223372036854775807)(h:∀ p ∈ l,p.Sm) :
  cB tab.get 65 [.c (.f (sl g (aQ l))),.c (.f (.fn 66 []))]=Eq (vb (l.any fun p=>!eV p)):=
 (kj I2 (nZ I3 l aT.row (fun r=>.a (r.row.map .f)) (fun p=>!eV p) g 66 [] d
  (fun j b H=>dt (bO l) (dc b)) (fun p m=>T6 p (h p m)))).eq
theorem UQ(g:Tg)(l:List dj)(F:l.length≤9223372036854775807)(h:∀ t ∈ l,t.Sm):Kf tab.get 39 [.a [.f (sl g (aI l))]] (vb (kF l)):=by
 refine dF rfl rfl fun H Q s=>?_;apply ai;simp;apply aq;apply ai;simp;by_cases y:(64:Int)<l.length
 ·simp [y];refine an (by simp) ?_;apply ai;simp;refine aG (s _ _ ?_);simp [kF,show¬ (l.length:Int)≤64 by omega]
 simp [y];refine aD (by simp) ?_;refine aO ?_;apply aq;apply ai;simp;refine et l.length (fun j t B=>t.g 10=.c (.f (sl g (aI l)))∧(∃ J,B=H++J)∧l.all ji=(l.drop j).all ji) F (by decide) (by decide) (by simp) (by simp) (by simp) ?_ ?_
 ·rintro j t _ m ⟨g10,⟨J,rfl⟩,d⟩ u v next
  rw [I_ m]at d;have x:=h l[j] (acE m);have b:=ic (H:=H++J) (k:=0) (lN l) (o0 m) rfl;refine aB ?_;apply ai;simp at b;simp [u,g10,bW,m,b];have bad:ji l[j]=ag→∀(t:T) (J:aj) k,WP tab.get 39 ab (.code (.region [⟨D 2,.cb (.k (.c (.f (.bool ag)))),ab⟩] [])::.code .ret::k) ⟨t,[],H++J⟩ Q:=by
   intro E t J k;refine au (.inl rfl) ?_;simp;refine aG (s _ _ ?_);simp [kF,d,E]
  apply ai;simp;by_cases z:(l[j].fs.length:Int)<1
  ·simp [z];exact an (by simp) (aq (bad (by simp [ji,show¬ 1≤(l[j].fs.length:Int) by omega]) _ _ _))
  simp [z];by_cases A:(4:Int)<l[j].fs.length
  ·simp [A];exact an (by simp) (aq (bad (by simp [ji,show¬ (l[j].fs.length:Int)≤4 by omega]) _ _ _))
  simp [A,Cn l[j].tg l[j].fs x.1 x.2];cases q:l[j].fs.any fun p=>!eV p
  ·have:ji l[j]=ae:=by
    simp [ji]at q ⊢;exact⟨⟨by omega,by omega⟩,q⟩
   refine aD (by simp) ?_;refine aO (az (next _ _ ?_ (by simp [u]) (by simp [v])));rw [this,adl]at d;exact⟨by simp [g10],⟨_,rfl⟩,d⟩
  ·exact an (by simp) (aq (bad (by simp [ji]at q ⊢;intro _ _;exact q) _ _ _))
 ·rintro t _ ⟨g10,⟨J,rfl⟩,d⟩ u v;apply ai;simp;refine aG (s _ _ ?_);simp [kF,d,show(l.length:Int)≤64 by omega]
theorem mW(a:Int):cB tab.get 53 [vi a]=Eq (vb ag):=(show Kf tab.get 53 [vi a] (vb ag) by
 refine dF rfl rfl fun H Q b=>?_;apply ai;simp;apply ai;simp;refine aG (b _ _ ?_);simp).eq
def o8(a b:Int):Int:=if a<b then -1 else if b<a then 1 else 0
theorem ye(a b:Int):Kf tab.get 24 [vi a,vi b] (vi (o8 a b)):=by
 refine dF rfl rfl fun H Q g=>?_;apply ai;simp;apply ai;simp [mW];apply ai;simp [mW];apply aq;apply ai;simp;refine bg (by simp) ?_;apply aq;apply ai;simp;refine bg (by simp) ?_;apply aq;apply ai;simp;by_cases h:a<b
 ·refine an (by simp [h]) ?_;apply ai;simp;refine aG (g _ _ ?_);simp [o8,h]
 refine bg (by simp [h]) ?_;apply aq;apply ai;simp;by_cases d:b<a
 ·refine an (by simp [d]) ?_;apply ai;simp;refine aG (g _ _ ?_);simp [o8,h,d]
 refine bg (by simp [d]) ?_;apply ai;simp;refine aG (g _ _ ?_);simp [o8,h,d]
theorem yg(a b:Int):cB tab.get 24 [vi a,vi b]=Eq (vi (o8 a b)):=(ye a b).eq
def Mf:List Int→Int
 | []=>0| a::r=>if a=0 then Mf r else a
theorem Kj{l:List Int}{j:Nat}(b:j<l.length):Mf (l.drop j)=if l[j]=0 then Mf (l.drop (j+1))else l[j]:=by
 rw [acP b];rfl
theorem Zx(g:Tg)(l:List Int)(y:l.length≤9223372036854775807):Kf tab.get 23 [.c (.f (sl g (ints l)))] (vi (Mf l)):=by
 refine dF rfl rfl fun H Q s=>?_;apply ai;simp;apply ai;simp;apply aq;apply ai;simp;refine et l.length (fun j t x=>t.g 3=vi 0∧t.g 6=.c (.f (sl g (ints l)))∧H=x∧Mf l=Mf (l.drop j)) y (by decide) (by decide) (by simp) (by simp) (by simp) ?_ ?_
 ·rintro j t _ v ⟨d,m,rfl,b⟩ q u next
  rw [Kj v]at b;refine aB ?_;apply ai;simp [q,m,bW,v,kB];apply ai;simp [d];by_cases h:l[j]=0
  ·refine aD (by simp [h]) ?_;refine aO (az (next _ _ ?_ (by simp [q]) (by simp [u])));rw [bf h]at b;exact⟨by simp [d],by simp [m],rfl,b⟩
  ·refine an (by simp [h]) ?_;apply ai;simp;refine aG (s _ _ ?_);simp [b,h]
 ·rintro t _ ⟨d,m,rfl,b⟩ q u;apply ai;simp [d];refine aG (s _ _ ?_);simp [b,Mf]
theorem Zy(g:Tg)(l:List Int)(b:l.length≤9223372036854775807):cB tab.get 23 [.c (.f (sl g (ints l)))]=Eq (vi (Mf l)):=(Zx g l b).eq
theorem JD(n lo d:Int):Kf tab.get 35 [vi n,vi lo,vi d] (vb (bR n lo d)):=by
 refine dF rfl rfl fun H Q b=>?_;apply ai;simp;apply ai;by_cases h:lo≤n
 ·simp [h];refine aG (b _ _ ?_);simp [bR,h]
 ·simp [h];refine aG (b _ _ ?_);simp [bR,h]
@[simp] theorem abm (n lo b:Int):cB tab.get 35 [vi n,vi lo,vi b]=Eq (vb (bR n lo b)):=(JD n lo b).eq
structure aC where
 day:Int
 fr:Int
 to:Int
deriving DecidableEq
def aC.row(x:aC):List FC:=[fi x.day,fi x.fr,fi x.to]
def ay(l:List aC):List (List FC):=l.map aC.row
@[simp] theorem gi (l:List aC):(ay l).length=l.length:=by simp [ay]
theorem aX(l:List aC):bC 3 (ay l):=bC.map fun _=>rfl
theorem cJ{l:List aC}{j:Nat}(b:j<l.length):(ay l)[j]?=aa l[j].row:=by simp [ay,b]
def jb(x y:aC):Int:=Mf [o8 x.fr y.fr,o8 x.day y.day,o8 x.to y.to]
theorem wo(x y:aC):Kf tab.get 20 [.a (x.row.map .f),.a (y.row.map .f)] (vi (jb x y)):=by
 refine dF rfl rfl fun H Q d=>?_;have b:=Zy .fs [o8 x.fr y.fr,o8 x.day y.day,o8 x.to y.to] (by simp);simp [ints,sl,Tg.fc]at b;apply ai;simp [aC.row];apply ai;simp [yg,deep,oP,Zg,b];refine aG (d _ _ ?_);simp [jb]
def qu(x y:aC):Bool:=if x.fr=y.fr then(if x.day=y.day then decide (x.to<y.to)else decide (x.day<y.day))else decide (x.fr<y.fr)
theorem P0(x y:aC):cB tab.get 49 [.a (x.row.map .f),.a (y.row.map .f)]=Eq (vb (qu x y)):=by
 refine Kf.eq (dF rfl rfl fun H Q g=>?_);apply ai;simp [aC.row];apply aq;apply ai;simp;by_cases b:x.fr=y.fr
 ·refine bg (by simp [b]) ?_;apply aq;apply ai;simp;by_cases d:x.day=y.day
  ·refine bg (by simp [d]) ?_;apply ai;simp;refine aG (g _ _ ?_);simp [qu,b,d]
  ·refine an (by simp [d]) ?_;apply ai;simp;refine aG (g _ _ ?_);simp [qu,b,d]
 ·refine an (by simp [b]) ?_;apply ai;simp;refine aG (g _ _ ?_);simp [qu,b]
def aC.lt(x y:aC):Prop:=x.fr<y.fr∨x.fr=y.fr∧(x.day<y.day∨x.day=y.day∧x.to<y.to)
theorem sC(x y:aC):qu x y=ae↔x.lt y:=by
 unfold qu aC.lt;by_cases b:x.fr=y.fr
 ·by_cases d:x.day=y.day
  ·simp [b,d]
  ·simp [b,d]
 ·simp [b]
theorem gJ(x y:aC):jb x y<0↔x.lt y:=by
 unfold jb aC.lt;simp only [Mf,o8]
 repeat' split
 all_goals omega
theorem aC.lt_trans{x y z:aC}(h:x.lt y)(b:y.lt z):x.lt z:=by unfold aC.lt at *;omega
theorem aC.J0{x y:aC}(h:¬ x.lt y)(d:x≠y):y.lt x:=by
 obtain⟨a,b,c⟩:=x;obtain⟨a',g,j⟩:=y;unfold aC.lt at *;simp only [ne_eq,aC.mk.injEq]at d;simp only at h ⊢;omega
theorem aC.yJ{x:aC}:¬ x.lt x:=by unfold aC.lt;omega
theorem CJ(g:Tg)(l:List aC)(x:aC)(hl:l.length≤10)(hs:l.Pairwise aC.lt):∃ g' K,K.length≤l.length+1∧(K.Pairwise aC.lt∧∀ y,y ∈ K↔y=x∨y ∈ l)∧cB tab.get 14 [.c (.f (sl g (ay l))),.a (x.row.map .f)]=Eq (.c (.f (sl g' (ay K)))):=by
 obtain⟨r,⟨g',K,b_,hS,rfl⟩,h⟩:∃ r,(∃ g' K,K.length≤l.length+1∧(K.Pairwise aC.lt∧∀ y,y ∈ K↔y=x∨y ∈ l)∧r=.c (.f (sl g' (ay K))))∧cB tab.get 14 [.c (.f (sl g (ay l))),.a (x.row.map .f)] r:=by
  refine gZ rfl rfl fun Q hQ=>?_;apply ai;simp [aC.row];apply ai;simp;apply ai;simp;apply aq;apply ai;simp;have Y:∀(H:aj) (v:V) (o:List aC) (y:aC),o.length≤30→LB ae H 3 v .es (ay o)→∃ v' U,bJ (H++[.box [.f (fi y.day),.f (fi y.fr),.f (fi y.to)] 0]) 3 24 v (.c (.sl H.length 0 1 1 0 3))=aa (v',U)∧LB ae U 3 v' .es (ay (o++[y]))∧(∀(b:Nat) cs fl,H[b]?=aa (.box cs fl)→U[b]?=aa (.box cs fl)):=by
   intro H v o y ho A;obtain⟨v',U,Z,W,-,e4⟩:=LB.app (H:=H++[.box [.f (fi y.day),.f (fi y.fr),.f (fi y.to)] 0]) (row:=y.row) (bytes:=24) (y:=.c (.sl H.length 0 1 1 0 3)) (A.push _) (aX _) rfl (by decide)
    (kU (fl:=0) (cs:=y.row.map .f) (by simp [aC.row]) rfl) (we _) (by simp [bB];omega)
   refine⟨v',U,Z,by simpa [ay]using W,fun b cs fl hb=>e4 _ _ _ ?_⟩;rw [AT (av hb)];exact hb
  refine jC l.length (fun j t H=>t.g 0=.c (.f (sl g (ay l)))∧t.g 3=.c (.ptr 0 0 0)∧H[0]?=aa (.box [.f (fi x.day),.f (fi x.fr),.f (fi x.to)] 0)∧∃ d o,t.g 6=vb d∧LB ae H 3 (t.g 5) .es (ay o)∧o.length≤j+1∧(d=ag→o=l.take j∧∀ y ∈ o,y.lt x)∧(d=ae→(o++l.drop j).Pairwise aC.lt∧∀ y,y ∈ o↔y=x∨y ∈ l.take j)) (by omega) rfl (by simp)
   ⟨by simp,by simp,by simp,ag,[],by simp,by simpa [ay]using LB.es0,by simp,by simp,by simp⟩ ?_ ?_ ?_
  ·rintro j t H L S ⟨u,E,F,d,o,N,A,ho,X,q⟩ O hL;simp [O,u];exact hL _ ⟨by simp [u],by simp [E],F,d,o,by simp [N],by simpa using A,ho,X,q⟩ (by simp [O]) (by simp)
  ·rintro j t H S ⟨u,E,F,d,o,N,A,ho,X,q⟩ O next
   have s:=fun H:aj=>dt (H:=H) (aX l) (cJ S);have J:=P0 x l[j];simp [aC.row]at s J;refine aB ?_;apply aq;apply ai;simp [u,E,O,bW,S,s,F];have M:∀(t:T) (H:aj) (o:List aC) (d:Bool),t.g 0=.c (.f (sl g (ay l)))→t.g 3=.c (.ptr 0 0 0)→t.g 7=vi j→t.g 6=vb d→H[0]?=aa (.box [.f (fi x.day),.f (fi x.fr),.f (fi x.to)] 0)→LB ae H 3 (t.g 5) .es (ay o) →
     o.length≤j+1→(d=ag→o=l.take j∧(∀ y ∈ o,y.lt x)∧l[j].lt x)→(d=ae→(o++l.drop j).Pairwise aC.lt∧∀ y,y ∈ o↔y=x∨y ∈ l.take j) →
     WP tab.get 14 ab [.code rU,.inBlock 1,.code (oS 7 13 14),.inLoop (pE 0 7 12 13 14 [⟨D 9,.cb (R 7),ab⟩,⟨D 10,.cb (R 0),ab⟩,⟨D 11,.len (R 10),ab⟩,⟨D 12,.bin .lss (R 9) (R 11),ab⟩] rT),.inBlock 0,.code rV] ⟨t,[],H⟩ Q:=by
    intro t H o d u E g7 N F A ho X q;have b7:l.take (j+1)=l.take j++[l[j]]:=by rw [acW,By S];rfl
    have b9:l.drop j=l[j]::l.drop (j+1):=acP S;have c7:(l.take j).length=j:=by simp;omega
    have c6:(o++[l[j]]).length≤j+1+1:=by simp;omega
    obtain⟨v',U,Z,W,e4⟩:=Y H (t.g 5) o l[j] (by omega) A;refine au (.inl rfl) ?_;simp [u,g7,bW,S,s,Z];refine az (next _ _ ?_ (by simp [g7]));exact⟨by simp [u],by simp [E],e4 _ _ _ F,d,o++[l[j]],by simp [N],by simpa using W,c6,fun h=>by
     obtain⟨a1,B,a3⟩:=X h;subst a1;refine⟨b7.symm,fun y m=>?_⟩;rcases acG.1 m with m | m
     ·exact B y m
     ·obtain rfl:=acF.1 m;exact a3,fun h=>by
     obtain⟨a1,B⟩:=q h;rw [b9]at a1;refine⟨by simpa using a1,fun y=>?_⟩;rw [b7,acG,acG,B,or_assoc]⟩
   cases hc:(l[j].day == x.day&&(l[j].fr == x.fr&&l[j].to == x.to))
   ·refine bg (by simp) ?_;apply aq;apply ai;simp [N];cases d
    ·simp [E,F,u,O,bW,S,s,J];cases a_:qu x l[j]
     ·refine bg (by simp) ?_;exact M _ _ o ag (by simp [u]) (by simp [E]) (by simp [O]) (by simp [N]) F (by simpa using A) (by omega) (fun _=>by
       obtain⟨a1,B⟩:=X rfl;refine⟨a1,B,aC.J0 (x:=x) ?_ ?_⟩
       ·rw [←sC,a_];simp
       ·rintro rfl;simp at hc) (by simp)
     ·refine an (by simp) ?_;obtain⟨v',U,Z,W,e4⟩:=Y H (t.g 5) o x (by omega) A;obtain⟨a1,B⟩:=X rfl;have a8:=(sC _ _).1 a_;have c8:o.length≤j:=by rw [a1];simp;omega
      apply ai;simp [E,F,Z];refine au (.inl rfl) ?_;simp;refine M _ _ (o++[x]) ae (by simp [u]) (by simp [E]) (by simp [O]) (by simp) (e4 _ _ _ F) (by simpa using W) (by simp;omega) (by simp) fun _=>⟨?_,fun y=>?_⟩
      ·have b6:(l.take j++l.drop j).Pairwise aC.lt:=by rw [List.take_append_drop];exact hs
       rw [ada]at b6;obtain⟨b1,b2,b3⟩:=b6;rw [adG,ada,a1];refine⟨b1,?_,?_⟩
       ·rw [List.singleton_append,adw];refine⟨fun y m=>?_,b2⟩;rw [acP S]at m b2;rcases ac2.1 m with rfl | m
        ·exact a8
        ·exact aC.lt_trans a8 ((adw.1 b2).1 y m)
       ·intro y m z hz;rcases acG.1 hz with hz | hz
        ·obtain rfl:=acF.1 hz;exact B y (a1▸m)
        ·exact b3 y m z hz
      ·rw [acG,a1,acF,or_comm]
    ·simp;refine bg (by simp) ?_;exact M _ _ o ae (by simp [u]) (by simp [E]) (by simp [O]) (by simp [N]) F (by simpa using A) ho (by simp) fun _=>q rfl
   ·refine an (by simp) ?_;apply ai;simp [u];refine aG (hQ _ _ _ ⟨g,l,by omega,⟨hs,fun y=>⟨.inr,?_⟩⟩,rfl⟩ ?_)
    ·rintro(rfl | m)
     ·have:y=l[j]:=by
       obtain⟨a,b,c⟩:=y;simp only [BY,beq_iff_eq]at hc;cases c4:l[j]with
       | mk a' b' c'=>
        rw [c4]at hc;simp at hc;obtain⟨rfl,rfl,rfl⟩:=hc;rfl
      rw [this];exact acE S
     ·exact m
    simp
  ·rintro t H ⟨u,E,F,d,o,N,A,ho,X,q⟩ O;apply aq;apply ai;simp [N];cases d
   ·refine an (by simp) ?_;obtain⟨v',U,Z,W,e4⟩:=Y H (t.g 5) o x (by omega) A;refine au (.inl rfl) ?_;simp [E,F,Z];apply ai;simp;obtain⟨cv,I,_⟩:=W.len;have:=W.fzV (aX _);obtain⟨a1,B⟩:=X rfl;rw [ac0]at a1;subst a1;refine aG (hQ _ _ _ ⟨.es,o++[x],by simp,⟨?_,fun y=>by rw [acG,acF,or_comm]⟩,rfl⟩ ?_)
    ·rw [ada];exact⟨hs,ac7 _ _,fun y m z hz=>by obtain rfl:=acF.1 hz;exact B y m⟩
    rw [I]at this;simp [I];simpa using this
   ·refine bg (by simp) ?_;apply ai;simp;obtain⟨cv,I,_⟩:=A.len;have:=A.fzV (aX _);obtain⟨a1,B⟩:=q rfl;rw [ac0]at B;rw [aew,List.append_nil]at a1;refine aG (hQ _ _ _ ⟨.es,o,ho,⟨a1,B⟩,rfl⟩ ?_);rw [I]at this;simp [I];simpa using this
 exact⟨g',K,b_,hS,cB.eq h⟩
def aC.le(x y:aC):Prop:=¬ y.lt x
theorem aC.le_trans{x y z:aC}(h:x.le y)(b:y.le z):x.le z:=by unfold aC.le aC.lt at *;omega
theorem aC.JZ{x y:aC}(h:x.lt y):x.le y:=by unfold aC.le aC.lt at *;omega
@[simp] theorem aC.aaY (x:aC):x.row.length=3:=rfl
theorem AD{b:Type}(A:List b)(x y:b)(B:List b):(A++x::B).set A.length y=A++y::B:=by simp
theorem tM(l:List aC)(j:Nat)(x:aC):(ay l).set j x.row=ay (l.set j x):=by simp [ay,List.map_set]
theorem mU{l:List aC}{j:Nat}{x:aC}(h:l[j]?=aa x):(ay l)[j]?=aa x.row:=by simp [ay,h]
theorem PZ:((List.range 257).all fun n=>match (CF tab.get 60 60 (.fn 52) [.c (.f (.int .u64 n))] [])with | some (.c (.f (.int .i64 (.ofNat k))),_)=>Nat.ble k 62&&(Nat.beq n 0||Nat.ble (2 ^ k) (2*n)) | _=>ag)=ae:=by kernel_rfl
theorem JY:aa_ tab.get aR 256:=fun n h=>by
 have j:=PZ;rw [acN]at j;have b:=j n (by simp;omega);split at b
 ·rename_i k l e;rw [BY,Bool.or_eq_true]at b;refine⟨k,(wK (m:=60) (d:=60) (by rw [e];rfl)).eq,adv b.1,fun q=>?_⟩;rcases b.2 with g | g
  ·have:=Nat.eq_of_beq_eq_true g;omega
  ·exact adv g
 ·cases b
theorem DQ:XK tab.get aR 3:=⟨I5,I4,TN,TX,TK,TM,TW,
 TU,TV,TT,TO,TP,TS,TR,TY⟩
def qc:List FC→aC
 | [.int _ a,.int _ b,.int _ c]=>⟨a,b,c⟩| _=>⟨0,0,0⟩
def nL(r:List FC):Prop:=r=(qc r).row
theorem yF(x:aC):nL x.row:=rfl
def Kl(r s:List FC):Int:=jb (qc r) (qc s)
theorem Ju:ru nL Kl where
 x4:=fun _ _ h b=>by
  unfold Kl at h b;rw [gJ]at h b;unfold aC.lt at h b;omega
 trans:=fun _ _ _ h b=>by
  unfold Kl at *;rw [gJ]at *;unfold aC.lt at *;omega
theorem Ph{F:Nat}(b:∀ x y:aC,Kf tab.get F [.a (x.row.map .f),.a (y.row.map .f)] (vi (jb x y))):Cv tab.get (.c (.f (.fn F []))) nL Kl:=by
 intro x y d g H;obtain⟨J,h⟩:=b (qc x) (qc y) H;rw [←show x=(qc x).row from d,←show y=(qc y).row from g]at h;exact⟨F,_,J,by simp [bG],h⟩
theorem Cy{rows:List (List FC)}(h:∀ r ∈ rows,nL r):ay (rows.map qc)=rows:=by
 unfold ay;rw [List.map_map]
 conv=>rhs;rw [←List.map_id rows]
 exact List.map_congr_left fun r b=>(h r b).symm
theorem tL(l:List aC):(ay l).map qc=l:=by
 unfold ay;rw [List.map_map]
 conv=>rhs;rw [←List.map_id l]
 exact List.map_congr_left fun r _=>rfl
theorem RU{H:aj}{b q F:Nat}{l:List aC}(N:∀ x y:aC,Kf tab.get F [.a (x.row.map .f),.a (y.row.map .f)] (vi (jb x y)))(W:l.length≤256)(B:RB H b 3 q (ay l)) :
  ∃ r g,Ev tab.get (.fn 19) [.c (.sl b 0 l.length 0 q 3),.c (.f (.fn F []))] H r g ∧
   (r=.t []∧Fm b H g∧∃ d:List aC,RB g b 3 q (ay d)∧d.Perm l∧d.Pairwise aC.le):=by
 have A:∀ r ∈ ay l,nL r:=fun r v=>by
  obtain⟨x,-,rfl⟩:=adx.1 v;exact yF x
 obtain⟨k,J,-,-⟩:=JY l.length (by omega);have M:(ay l).length=l.length:=gi l;obtain⟨r,g,m,rfl,f,d,r',s',S⟩:=VK (n:=l.length) DQ (Ph N) Ju (by omega) (fun L U=>JY L (by omega)) _ 0 l.length H (ay l) k rfl (by omega) (IT _) M B (aX l) A (fun k h=>absurd h (by omega));have s:∀ r ∈ d,nL r:=fun r v=>A r (s'.1.mem_iff.1 v);have m:=m.eq;have z:IntKind.wrap .u64 (l.length:Int)=l.length:=by rw [ta];omega
 refine dy rfl rfl fun Q O=>?_;apply ai;simp [B.len];refine au (.inl rfl) ?_;simp at J m;simp [z,J,m];refine eu (O _ _ (.t []) rfl rfl ⟨rfl,f,d.map qc,?_,?_,?_⟩)
 ·rw [Cy s];exact r'
 ·have:=s'.1.map qc;rwa [tL]at this
 ·rw [adr];intro i j E I u;simp only [ac1]at E I;have K:d.length=l.length:=by rw [s'.len,M]
  have:=S i j d[i] d[j] (by omega) u (by omega) (By E) (By I);rw [aex,aex];unfold Kl at this;rw [gJ]at this;exact this
theorem LS{H:aj}{F:Nat}:∃ r b,Ev tab.get (.fn 19) [.c (.f .ax),.c (.f (.fn F []))] H r b∧(r=.t []∧b=H):=by
 obtain⟨k,g,-,-⟩:=JY 0 (by omega);have d:=(QS (σ:=aR) (sz:=3) I5 I4 (H:=H) (v:=.c (.f .ax)) (cv:=.c (.f (.fn F []))) (lim:=k)).eq;refine dy rfl rfl fun Q j=>?_;apply ai;simp [bM];refine au (.inl rfl) ?_;have l:IntKind.wrap .u64 0=0:=rfl;simp at g d;simp [l,g,d];exact eu (j _ _ _ rfl rfl ⟨rfl,rfl⟩)
theorem JW{x y:aC}(h:x.le y)(b:x≠y):x.lt y:=aC.J0 h (Ne.symm b)
def JE(x y:aC):Bool:=x.day == y.day&&(x.fr == y.fr&&x.to == y.to)
theorem pj{x y:aC}:JE x y=ae↔x=y:=by
 obtain⟨a,b,c⟩:=x;obtain⟨a',d,g⟩:=y;simp [JE]
theorem z_{l:List aC}(g:l.Pairwise aC.le){i j:Nat}(b:i<j)(d:j<l.length):(l[i]'(by omega)).le l[j]:=adr.1 g i j (by omega) d b
theorem yd{H:aj}{b A:Nat}{l:List aC}(hl:l.length≤1000000)(hs:l.Pairwise aC.le)(F:RB H b 3 A (ay l)) :
  ∃ r H',Ev tab.get (.fn 21) [.c (.sl b 0 l.length 0 A 3)] H r H' ∧
   (∃ l' R:List aC,r=.c (.sl b 0 l'.length 0 A 3)∧Fm b H H'∧RB H' b 3 A (ay (l'++R))∧l'.length≤l.length∧l'.Pairwise aC.lt∧∀ x,x ∈ l'↔x ∈ l):=by
 refine dy rfl rfl fun Q hQ=>?_;apply ai;simp;apply aq;apply ai;simp [F.len];by_cases h2:l.length<2
 ·refine an (by simp;omega) ?_;apply ai;simp;refine aG (hQ _ _ _ rfl (jH (by simp)) ⟨l,[],rfl,Fm.refl _,by simpa using F,IT _,?_,fun _=>Iff.rfl⟩)
  match l,h2 with
  | [],_=>exact List.Pairwise.nil| [x],_=>exact ac7 _ _| x::y::r,h=>simp at h;omega
 refine aD (by simp;omega) (aO ?_);apply aq;apply ai;simp;refine aB ?_;refine bu (fun n s=>∃(k:Nat) (t:T),s=⟨t,[],H⟩∧n=l.length-k∧1≤k∧k≤l.length∧t.g 0=.c (.sl b 0 l.length 0 A 3)∧t.g 3=vi k∧(l.take k).Pairwise aC.lt) (l.length-1)
  ⟨1,_,rfl,rfl,by omega,by omega,by simp,by simp,?_⟩ ?_
 ·cases l with
  | nil=>simp| cons x r=>simp
 rintro n s ⟨k,t,rfl,rfl,d9,d_,B,E,hp⟩ ih;apply aq;apply ai;simp [B,E,F.len];by_cases u:k<l.length
 case neg=>
  refine aD (by simp [u]) ?_;refine ba (k':=[.code kT]) rfl ?_;apply ai;simp [B];refine aG (hQ _ _ _ rfl (jH (by simp)) ⟨l,[],rfl,Fm.refl _,by simpa using F,IT _,?_,fun _=>Iff.rfl⟩);rwa [acS (by omega)]at hp
 refine an (by simp [u]) (aO ?_);obtain⟨m,rfl⟩:∃ m,k=m+1:=⟨k-1,by omega⟩
 have ix:∀ {H:aj} {rows:List (List FC)} (F:RB H b 3 A rows) (o n i:Nat) (hi:i<n),a6 H 3 ab (.c (.sl b o n 0 A 3)) (vi i)=aa (.c (.ptr b (o+i*3) A)):=by
  intro H rows F o n i hi;have:=F.idx (n:=n) (c:=0) (k:=.i64) (o:=o) (i:=(i:Int)) (by omega) (by omega);rwa [adq]at this
 have i1:=ix F 0 l.length (m+1) u;have i0:=ix F 0 l.length m (by omega);have l1:=F.Y7 (aX _) (cJ (l:=l) (j:=m+1) u);have l0:=F.Y7 (aX _) (cJ (l:=l) (j:=m) (by omega));rw [adt]at i1 i0;have c1:((m+1:Nat):Int)-1=m:=by omega
 rw [show((m+1:Nat):Int)=(m:Int)+1 by omega]at i1;have b_:l.take (m+1+1)=l.take (m+1)++[l[m+1]]:=by rw [acW,By u];rfl
 apply aq;refine aB ?_;apply ai;simp [B,E,i1,i0,l1,l0,-aP,aK (n:=(m:Int)),aC.row];cases hc:(l[m+1].day == l[m].day&&(l[m+1].fr == l[m].fr&&l[m+1].to == l[m].to))
 ·
  refine aD (by simp) (aO (az ?_));refine au (.inl rfl) ?_;simp [E,aK (n:=(m:Int)+1+1)];refine ih (l.length-(m+2)) _ (by omega) ⟨m+2,_,rfl,rfl,by omega,by omega,by simp [B],by simp;omega,?_⟩;show(l.take (m+1+1)).Pairwise aC.lt;have N:l[m]≠l[m+1]:=fun e=>by
   have:JE l[m+1] l[m]=ae:=pj.2 e.symm;rw [JE,hc]at this;cases this
  rw [b_,ada];refine⟨hp,ac7 _ _,fun y hy z hz=>?_⟩;obtain rfl:=acF.1 hz;obtain⟨i,hi,rfl⟩:=adJ hy;have d8:i<m+1:=by simp at hi;omega
  rw [List.getElem_take];by_cases e:i=m
  ·subst e;exact JW (z_ hs (by omega) u) N
  ·exact aC.lt_trans (y:=l[m]) (by
    have h1:=adr.1 hp i m (by simp;omega) (by simp;omega) (by omega);simpa using h1) (JW (z_ hs (by omega) u) N)
 ·
  have c8:l[m+1]=l[m]:=pj.1 hc;have c2:((m+1:Nat):Int)=(m:Int)+1:=by omega
  have O:=F.qX (k:=m+1) u;rw [c2]at O;refine an (by simp) ?_;apply ai;simp [B,E,O];apply aq;apply ai;simp;refine aB ?_;refine bu (fun n s=>∃(i:Nat) (t:T) (I:aj) (P R:List aC),s=⟨t,[],I⟩∧n=l.length-(m+2+i)∧m+2+i≤l.length∧t.g 0=.c (.sl b 0 l.length 0 A 3)∧t.g 3=vi P.length∧t.g 4=.c (.sl b ((m+1)*3) (l.length-(m+1)) 0 A 3)∧t.g 5=vi ((i:Int)+1) ∧
   Fm b H I∧RB I b 3 A (ay (P++R))∧(P++R).length=l.length∧1≤P.length∧P.length≤m+1+i∧(∀ q,m+1+i≤q→(P++R)[q]?=l[q]?)∧P.Pairwise aC.lt∧∀ x,x ∈ P↔x ∈ l.take (m+2+i)) (l.length-(m+2))
   ⟨0,_,H,l.take (m+1),l.drop (m+1),rfl,rfl,by omega,by simp [B],by simp [E];omega,by simp,by simp,Fm.refl _,by simpa using F,by simp,by simp;omega,by simp;omega,by simp,hp,fun x=>?_⟩ ?_
  ·show x ∈ l.take (m+1)↔x ∈ l.take (m+1+1);rw [b_,acG,acF];refine⟨.inl,fun h=>h.elim id fun e=>?_⟩;rw [e,c8];exact adS.2 ⟨m,by omega,rfl⟩
  rintro n s ⟨i,t,I,P,R,rfl,rfl,hi,B,E,U,W,J,d,v,X,c4,hq,L,g⟩ d7;have Y:=d.len (o:=(m+1)*3) (l:=l.length-(m+1)) (c:=0);apply aq;apply ai;simp [U,W,Y];by_cases K:m+2+i<l.length
  case neg=>
   have b6:m+2+i=l.length:=by omega
   refine aD (by simp;omega) ?_;refine ba (k':=[.code nI,.inBlock 1,.code nJ,.inLoop nH,.inBlock 0,.code kT]) rfl ?_;have a_:P.length<l.length:=by omega
   obtain⟨H3,c7,a8,c9⟩:=d.clr (aX _) (zs:=[fi 0,fi 0,fi 0]) (by simpa using v) a_ rfl;have O:=d.qX a_;apply ai;simp [B,E,O,c7];have d6:=a8.LP (n:=l.length) (k:=P.length) (by omega) (by omega);apply ai;simp [B,E,d6];have e3:(ay (P++R)).take P.length++List.replicate (l.length-P.length) [fi 0,fi 0,fi 0]=ay (P++List.replicate (l.length-P.length) ⟨0,0,0⟩):=by
    simp [ay,aC.row]
   rw [e3]at a8;refine aG (hQ _ _ _ rfl (jH (by simp)) ⟨P,_,rfl,J.trans c9,a8,by omega,L,fun x=>?_⟩);rw [g,b6,ac0]
  have ha:(P++R)[m+2+i]?=aa l[m+2+i]:=by rw [hq _ (by omega),By K]
  have c6:(P++R)[m+1+i]?=aa (l[m+1+i]'(by omega)):=by rw [hq _ (by omega),By]
  have j1:=ix d ((m+1)*3) (l.length-(m+1)) (i+1) (by omega);have j0:=ix d ((m+1)*3) (l.length-(m+1)) i (by omega);rw [show(m+1)*3+(i+1)*3=(m+2+i)*3 by omega,show((i+1:Nat):Int)=(i:Int)+1 by omega]at j1;rw [show(m+1)*3+i*3=(m+1+i)*3 by omega]at j0;have d1:=d.Y7 (aX _) (mU ha);have d0:=d.Y7 (aX _) (mU c6);refine an (by simp;omega) (aO ?_);apply aq;refine aB ?_;apply ai;simp [U,W,j1,j0,d1,d0,-aP,aK (n:=(i:Int)),aC.row];have S:l.take (m+2+(i+1))=l.take (m+2+i)++[l[m+2+i]]:=by
   rw [show m+2+(i+1)=m+2+i+1 by omega,acW,By K];rfl
  have next:∀(t:T) (I:aj) (P R:List aC),t.g 0=.c (.sl b 0 l.length 0 A 3)→t.g 3=vi P.length→t.g 4=.c (.sl b ((m+1)*3) (l.length-(m+1)) 0 A 3)→t.g 5=vi ((i:Int)+1) →
    Fm b H I→RB I b 3 A (ay (P++R))→(P++R).length=l.length→1≤P.length→P.length≤m+2+i→(∀ q,m+2+i≤q→(P++R)[q]?=l[q]?)→P.Pairwise aC.lt→(∀ x,x ∈ P↔x ∈ l.take (m+2+(i+1))) →
    WP tab.get 21 ab [.inBlock 3,.code rY,.inLoop rX,.inBlock 2,.code nI,.inBlock 1,.code nJ,.inLoop nH,.inBlock 0,.code kT] ⟨t,[],I⟩ Q:=by
   intro t I P R B E U W J d v X c4 hq L g;refine az (au (.inl rfl) ?_);simp [W,aK (n:=(i:Int)+1+1)];exact d7 (l.length-(m+2+(i+1))) _ (by omega) ⟨i+1,_,I,P,R,rfl,rfl,by omega,by simp [B],by simp [E],by simp [U],by simp,J,d,v,X,by omega,fun q h=>hq q (by omega),L,g⟩
  have c_:(l[m+1+i]'(by omega)).le l[m+2+i]:=z_ hs (by omega) K;cases M:(l[m+2+i].day == l[m+1+i].day&&(l[m+2+i].fr == l[m+1+i].fr&&l[m+2+i].to == l[m+1+i].to))
  ·have N:l[m+1+i]≠l[m+2+i]:=fun e=>by
    have:JE l[m+2+i] l[m+1+i]=ae:=pj.2 e.symm;rw [JE,M]at this;cases this
   have b9:=JW c_ N;have kx:=ix d 0 l.length P.length (by omega);rw [adt]at kx;obtain⟨H3,s3,r3,f3,-⟩:=d.str (aX _) (j:=P.length) (by rw [gi,v];omega) (row:=(l[m+2+i]).row) rfl;rw [tM]at r3;obtain⟨x0,R',rfl⟩:∃ x0 R',R=x0::R':=by
    cases R with
    | nil=>simp at v;omega| cons x0 R'=>exact⟨_,_,rfl⟩
   rw [AD]at r3;have Z:¬l[m+2+i].day=l[m+1+i].day∨¬l[m+2+i].fr=l[m+1+i].fr∨¬l[m+2+i].to=l[m+1+i].to:=by
    simp at M;omega
   refine an (by simpa using Z) ?_;apply ai;simp only [aC.row,ac5,List.map_nil]at s3;simp [B,E,U,W,j1,d1,kx,s3,-aP,-bZ,aC.row];refine au (.inl rfl) ?_;simp [E,aK (n:=(P.length:Int)+1)];have e5:P++l[m+2+i]::R'=(P++[l[m+2+i]])++R':=by simp
   rw [e5]at r3;refine next _ H3 (P++[l[m+2+i]]) R' (by simp [B]) (by simp) (by simp [U]) (by simp [W]) (J.trans f3) r3 (by simpa using v) (by simp) (by simp;omega) (fun q h=>?_) ?_ fun x=>?_
   ·rw [←e5,←AD P x0,AI (by omega)];exact hq q (by omega)
   ·rw [ada];refine⟨L,ac7 _ _,fun y hy z hz=>?_⟩;obtain rfl:=acF.1 hz;obtain⟨q,d5,rfl⟩:=adJ ((g y).1 hy);have e_:q<m+2+i:=by simp at d5;omega
    rw [List.getElem_take];by_cases e:q=m+1+i
    ·subst e;exact b9
    ·have h1:=z_ hs (i:=q) (j:=m+1+i) (by omega) (by omega);unfold aC.le aC.lt at *;omega
   ·rw [S,acG,acG,g]
  ·have b7:l[m+2+i]=l[m+1+i]:=pj.1 M;have Z:l[m+2+i].day=l[m+1+i].day∧l[m+2+i].fr=l[m+1+i].fr∧l[m+2+i].to=l[m+1+i].to:=by simpa using M
   refine aD (by simpa using Z) (aO ?_);refine next _ I P R (by simp [B]) (by simp [E]) (by simp [U]) (by simp [W]) J d v X (by omega) (fun q h=>hq q (by omega)) L fun x=>?_
   rw [S,acG,acF,g];refine⟨.inl,fun h=>h.elim id fun e=>?_⟩;rw [e,b7];exact adS.2 ⟨m+1+i,by omega,rfl⟩
abbrev u64(n:Int):V:=.c (.f (.int .u64 n))
theorem gw{n:Int}(b:0≤n)(d:n≤18446744073709551615):IntKind.wrap .u64 n=n:=by
 simp only [IntKind.wrap,IntKind.bits,IntKind.signed];simp;omega
theorem L1{a b:Int}(h:0≤a)(d:0<b):bt .rem (u64 a) (u64 b)=aa (u64 (a % b)):=by
 rw [fA (by omega),adp h]
theorem aak{a b:Int}(h:0≤a)(g:0<b)(d:a≤18446744073709551615):bt .quo (u64 a) (u64 b)=aa (u64 (a / b)):=by
 rw [mH (by omega),adO h,gw (ad1 h (by omega)) (aey (adV _ h) d)]
theorem nf{a:Int}(b:0≤a)(g:a≤9223372036854775807):cB tab.get 128 [vi a]=Eq (u64 a):=cB.eq (by
 refine du rfl rfl fun Q d=>?_;apply ai;simp;refine aq (ai ?_);simp;refine aD (by simp;omega) (aO ?_);apply ai;simp [gw (n:=a) b (by omega)];refine aG (d _ _ ?_);simp)
theorem JL{x y:Nat}(h:0<y):aei y (x % y)=aei x y:=by rw [Nat.gcd_comm x y,Nat.gcd_rec y x,Nat.gcd_comm]
theorem JK{a b:Nat}(z:(a:Int)≤4611686018427387904)(A:(b:Int)≤4611686018427387904):cB tab.get 98 [vi a,vi b]=Eq (vi (aei a b:Nat)):=cB.eq (by
 have H:=nf (a:=a) (by omega) (by omega);have I:=nf (a:=b) (by omega) (by omega);refine du rfl rfl fun Q B=>?_;apply ai;simp;apply ai;simp [H,I];refine aq (aB ?_);refine bu (fun m s=>∃(x y:Nat) (t:T),s=⟨t,[],[]⟩∧m=y∧(x:Int)≤4611686018427387904∧(y:Int)≤4611686018427387904∧t.g 5=u64 x∧t.g 6=u64 y∧aei x y=aei a b) b ⟨a,b,_,rfl,rfl,z,A,by simp,by simp,rfl⟩ ?_;rintro m s ⟨x,y,t,rfl,rfl,J,K,d,l,u⟩ F;refine aq (ai ?_);simp [l];by_cases q:m=0
 ·subst q;refine aD (by simp) (ba rfl ?_);have j:x=aei a b:=by rw [←u];simp
  have E:¬ ((9223372036854775807:Int)<x):=by omega
  refine aq (ai ?_);simp [d,E];refine bg (by simp) ?_;apply ai;simp [d,aK (n:=(x:Int))];refine aG (B _ _ ?_);simp [j]
 ·have v:=L1 (a:=x) (b:=m) (by omega) (by omega);rw [show(x:Int) % (m:Int)=((x % m:Nat):Int) from(Int.natCast_emod x m).symm]at v;have g:x % m<m:=Nat.mod_lt _ (by omega);refine an (by simp [q]) (aO ?_);refine aB (au (.inl rfl) ?_);simp [d,l,v];refine az (F (x % m) _ g ⟨m,x % m,_,rfl,rfl,by omega,by omega,by simp,by simp,by rw [JL (by omega)];exact u⟩))
theorem Jb{x:Int}(g:0≤x)(j:x≤4294967295):bt .and (u64 x) (u64 4294967295)=aa (u64 x):=by
 obtain⟨n,rfl⟩:∃ n:Nat,x=n:=⟨x.toNat,by omega⟩
 have e:(BitVec.ofInt 64 (n:Int) &&& BitVec.ofInt 64 4294967295).toNat=n:=by
  rw [BitVec.toNat_and];have b:(BitVec.ofInt 64 (n:Int)).toNat=n:=by simp [BitVec.toNat_ofInt];omega
  have d:(BitVec.ofInt 64 4294967295).toNat=2 ^ 32-1:=by decide
  rw [b,d,Nat.and_two_pow_sub_one_eq_mod,Nat.mod_eq_of_lt (by omega)]
 have key:IntKind.wrap .u64 ((BitVec.ofInt 64 (n:Int) &&& BitVec.ofInt 64 4294967295).toNat:Int)=n:=by rw [e];exact gw (by omega) (by omega)
 exact congrArg (fun k:Int=>aa (u64 k)) key
theorem AE{x:Int}(_:0≤x):bt .shr (u64 x) (u64 32)=aa (u64 (x / 4294967296)):=by
 simp only [bt];rw [aU (by decide),show min (Int.toNat 32) IntKind.u64.bits=32 from rfl,Int.fdiv_eq_ediv_of_nonneg _ (by decide)];rfl
theorem qA{x y:Int}(q:0≤x)(K:x≤2147483648)(g:0≤y)(L:y≤2147483648):cB tab.get 152 [u64 x,u64 y]=Eq (.t [u64 0,u64 (x*y)]):=cB.eq (by
 have d:0≤x*y:=adF q g;have F:x*y≤2147483648*2147483648:=ad8 K L g (by decide);have j:x*y / 4294967296≤4294967295:=by omega
 have b:0≤x*y / 4294967296:=by omega
 have a1:=Jb q (show x≤4294967295 by omega);have A:=Jb g (show y≤4294967295 by omega);have s:=AE q;have u:=AE g;have I:x / 4294967296=0:=by omega
 have J:y / 4294967296=0:=by omega
 rw [I]at s;rw [J]at u;have H:=AE d;have B:=Jb b j;have l:=AE b;have sz:x*y / 4294967296 / 4294967296=0:=by omega
 rw [sz]at l;have v:IntKind.wrap .u64 (x*y)=x*y:=gw d (by omega);have z:IntKind.wrap .u64 (x*y / 4294967296)=x*y / 4294967296:=gw b (by omega);have m:IntKind.wrap .u64 0=0:=by decide
 refine du rfl rfl fun Q E=>?_;apply ai;simp;apply ai;simp [a1];apply ai;simp [s];apply ai;simp [A];apply ai;simp [u];apply ai;simp [v];apply ai;simp [H,m,z];apply ai;simp [B];apply ai;simp [l];apply ai;simp [m,z];apply ai;simp [m,l];apply ai;simp [v];refine aG (E _ _ ?_);simp)
theorem Jy{x n:Int}(j:0≤x)(u:x≤9223372036854775807)(g:0<n)(s:n≤9223372036854775807):cB tab.get 154 [u64 0,u64 x,u64 n]=Eq (.t [u64 (x / n),u64 (x % n)]):=cB.eq (by
 have b:¬ (n=0):=by omega
 have d:¬ (n≤0):=by omega
 have l:=aak j g (by omega);have m:=L1 j g;refine du rfl rfl fun Q q=>?_;apply ai;simp;refine aq (ai ?_);simp;refine bg (by simp [b]) ?_;refine aq (ai ?_);simp;refine bg (by simp [d]) ?_;refine aq (ai ?_);simp;refine an (by simp) ?_;apply ai;simp [l,m];refine aG (q _ _ ?_);simp)
theorem wq(x y:aC):cB tab.get 20 [.a (x.row.map .f),.a (y.row.map .f)]=Eq (vi (jb x y)):=(wo x y).eq
theorem J8(g:Tg)(l:List dj)(b:l.length≤9223372036854775807)(h:∀ t ∈ l,t.Sm):cB tab.get 39 [.a [.f (sl g (aI l))]]=Eq (vb (kF l)):=(UQ g l b h).eq
structure bU where
 mg:Tg
 ts:List dj
 min:Int
def bU.row(c:bU):List FC:=[sl c.mg (aI c.ts),fi c.min]
def aM(l:List bU):List (List FC):=l.map bU.row
@[simp] theorem Ma (l:List bU):(aM l).length=l.length:=by simp [aM]
theorem da(l:List bU):bC 2 (aM l):=bC.map fun _=>rfl
theorem e8{l:List bU}{j:Nat}(b:j<l.length):(aM l)[j]?=aa l[j].row:=by simp [aM,b]
structure bF where
 cg:Tg
 cs:List bU
 len:Int
 xg:Tg
 xs:List aC
def bF.row(s:bF):List FC:=[sl s.cg (aM s.cs),fi s.len,sl s.xg (ay s.xs)]
def bF.Sm(s:bF):Prop:=s.cs.length≤9223372036854775807∧s.xs.length≤9223372036854775807∧∀ c ∈ s.cs,c.ts.length≤9223372036854775807∧∀ t ∈ c.ts,t.Sm
def cQ:Option Int→List bU→Bool
 | _,[]=>ae| prev,c::r=>kF c.ts&&bR c.min (-4320) 4320&&(prev.all fun m=>decide (m<c.min))&&cQ (aa c.min) r
def iW(x:aC):Bool:=bR x.day 0 1099511627776&&bR x.fr (-2251799813685248) 1583296743997439&&bR x.to (x.fr+1) (x.fr+10080)
def dV:Option aC→List aC→Bool
 | _,[]=>ae| prev,x::r=>iW x&&(prev.all fun m=>decide (jb m x<0))&&dV (aa x) r
def ei(s:bF):Bool:=decide ((s.cs.length:Int)≤64)&&bR s.len 1 10080&&decide ((s.xs.length:Int)≤4096)&&cQ ab s.cs&&dV ab s.xs
theorem rC{p:Option Int}{l:List bU}{j:Nat}(b:j<l.length):cQ p (l.drop j)=(kF l[j].ts&&bR l[j].min (-4320) 4320&&(p.all fun m=>decide (m<l[j].min))&&cQ (aa l[j].min) (l.drop (j+1))):=by
 rw [acP b];rfl
theorem vN{p:Option aC}{l:List aC}{j:Nat}(b:j<l.length):dV p (l.drop j)=(iW l[j]&&(p.all fun m=>decide (jb m l[j]<0))&&dV (aa l[j]) (l.drop (j+1))):=by
 rw [acP b];rfl
theorem oG(s:bF)(h:s.Sm):Kf tab.get 15 [.a (s.row.map .f)] (vb (ei s)):=by
 obtain⟨hc,hx,S⟩:=h;refine dF rfl rfl fun H Q hQ=>?_;have bad:ei s=ag→∀(t:T) (J:aj) k,WP tab.get 15 ab (.code (.region [⟨D 2,.cb (.k (.c (.f (.bool ag)))),ab⟩] [])::.code .ret::k) ⟨t,[],H++J⟩ Q:=by
  intro hf t J k;refine au (.inl rfl) ?_;simp;refine aG (hQ _ _ ?_);simp [hf]
 apply ai;simp [bF.row];apply aq;apply ai;simp;by_cases k1:(64:Int)<s.cs.length
 ·simp [k1];exact an (by simp) (aq (bad (by simp [ei,show¬ (s.cs.length:Int)≤64 by omega]) _ _ _))
 simp [k1];cases k2:bR s.len 1 10080
 ·simp;exact an (by simp) (aq (bad (by simp [ei,k2]) _ _ _))
 simp;by_cases k3:(4096:Int)<s.xs.length
 ·simp [k3];exact an (by simp) (aq (bad (by simp [ei,show¬ (s.xs.length:Int)≤4096 by omega]) _ _ _))
 simp [k3];have hS:ei s=(cQ ab s.cs&&dV ab s.xs):=by simp [ei,k2,show(s.cs.length:Int)≤64 by omega,show(s.xs.length:Int)≤4096 by omega]
 rw [hS]at bad;refine aD (by simp) ?_;refine aO ?_;apply aq;apply ai;simp;obtain⟨l,v⟩:=bV ([C.f (sl s.cg (aM s.cs)),C.f (fi s.len),C.f (sl s.xg (ay s.xs))]);rw [←v];have a8:l.drop 0=[C.f (sl s.cg (aM s.cs)),C.f (fi s.len),C.f (sl s.xg (ay s.xs))]:=by rw [v];rfl
 have O:l.drop 2=[C.f (sl s.xg (ay s.xs))]:=by rw [v];rfl
 have M:l=C.f (sl s.cg (aM s.cs))::[C.f (fi s.len),C.f (sl s.xg (ay s.xs))]:=v;refine et s.cs.length (fun j t H'=>t.g 1=.c (.ptr H.length 0 0)∧t.g 25=.c (.f (sl s.cg (aM s.cs)))∧(∃ J,H'=H++(.box l 0::J)) ∧
  ∃ d,(∀ m,j=m+1→∀ h:m<s.cs.length,d=aa (s.cs[m]'h).min)∧(j=0→d=ab)∧cQ ab s.cs=cQ d (s.cs.drop j)) hc (by decide) (by decide) (by simp) (by simp)
   ⟨by simp,by simp,⟨[],by simp⟩,ab,by omega,by simp,by simp⟩ ?_ ?_
 ·rintro j t _ F ⟨x,A,⟨J,rfl⟩,d,X,Y,u⟩ E K next
  rw [rC F]at u;have L:=dt (H:=H++(.box l 0::J)) (da s.cs) (e8 F);have z:=J8 s.cs[j].mg s.cs[j].ts (S _ (acE F)).1 (S _ (acE F)).2;refine aB ?_;apply ai;simp [E,A,bW,F,L,bU.row];apply ai;simp [z];cases U:kF s.cs[j].ts
  ·simp;exact an (by simp) (aq (bad (by simp [u,U]) _ _ _))
  simp;cases N:bR s.cs[j].min (-4320) 4320
  ·simp;exact an (by simp) (aq (bad (by simp [u,N]) _ _ _))
  simp;have go:(d.all fun m=>decide (m<s.cs[j].min))=ae→∃ g,(∀ m,j+1=m+1→∀ h:m<s.cs.length,g=aa (s.cs[m]'h).min)∧(j+1=0→g=ab)∧cQ ab s.cs=cQ g (s.cs.drop (j+1)):=by
   intro hp;rw [U,N,hp,adl,adl,adl]at u;refine⟨aa s.cs[j].min,fun m z h=>?_,by omega,u⟩;have:m=j:=by omega
   subst this;rfl
  cases j with
  | zero=>
   simp;refine aD (by simp) ?_;refine aO (az (next _ _ ?_ (by simp [E]) (by simp [K])));exact⟨by simp [x],by simp [A],⟨_,rfl⟩,go (by rw [Y rfl];rfl)⟩
  | succ m=>
   have z:m<s.cs.length:=by omega
   have y:=X m rfl z;have e1:((m+1:Nat):Int)-1=m:=by omega
   have q:=ic (H:=H++(bK.box l 0 ::(J++[bK.box [C.f (sl s.cs[m+1].mg (aI s.cs[m+1].ts)),C.f (fi s.cs[m+1].min)] 0]))) (k:=1) (da s.cs) (e8 z) rfl;rw [M]at q;simp [show 0<m+1 by omega,x,M,aK (n:=(m:Int)),bW,z,q];by_cases W:s.cs[m+1].min≤s.cs[m].min
   ·simp [W];have b:=bad (by simp [u,y,show¬ s.cs[m].min<s.cs[m+1].min by omega]);refine an (by simp) ?_;exact aq (b _ _ _)
   ·simp [W];refine aD (by simp) ?_;refine aO (az (next _ _ ?_ (by simp [E]) (by simp [K])));exact⟨by simp [x],by simp [A],⟨_,by rw [M]⟩,go (by rw [y];simp;omega)⟩
 ·rintro t _ ⟨x,A,⟨J,rfl⟩,d,X,Y,u⟩ E K;have hC:cQ ab s.cs=ae:=by rw [u];simp [cQ]
  rw [hC,adl]at bad hS;apply aq;apply ai;simp [x,O];refine et s.xs.length (fun j t H'=>t.g 1=.c (.ptr H.length 0 0)∧t.g 60=.c (.f (sl s.xg (ay s.xs)))∧(∃ J,H'=H++(.box l 0::J)) ∧
   ∃ d,(∀ m,j=m+1→∀ h:m<s.xs.length,d=aa (s.xs[m]'h))∧(j=0→d=ab)∧dV ab s.xs=dV d (s.xs.drop j)) hx (by decide) (by decide) (by simp) (by simp)
    ⟨by simp [x],by simp,⟨J,by simp⟩,ab,by omega,by simp,by simp⟩ ?_ ?_
  ·rintro j t _ F ⟨x,B,⟨J,rfl⟩,d,X,Y,u⟩ E K next
   rw [vN F]at u;have L:=dt (H:=H++(.box l 0::J)) (aX s.xs) (cJ F);refine aB ?_;apply ai;simp [E,B,bW,F,L,aC.row];have off:iW s.xs[j]=ag→∀(t:T) (J:aj) k,t.g 7=vb ag→WP tab.get 15 ab (.code u9::k) ⟨t,[],H++J⟩ Q:=by
    intro hf t J k g7;apply ai;simp [g7];exact an (by simp) (aq (bad (by simp [u,hf]) _ _ _))
   have go:iW s.xs[j]=ae→(d.all fun m=>decide (jb m s.xs[j]<0))=ae→∃ g,(∀ m,j+1=m+1→∀ h:m<s.xs.length,g=aa (s.xs[m]'h))∧(j+1=0→g=ab)∧dV ab s.xs=dV g (s.xs.drop (j+1)):=by
    intro Z hp;rw [Z,hp,adl,adl]at u;refine⟨aa s.xs[j],fun m z h=>?_,by omega,u⟩;have:m=j:=by omega
    subst this;rfl
   apply ai;simp;cases U:bR s.xs[j].day 0 1099511627776
   ·simp;exact off (by simp [iW,U]) _ _ _ (by simp)
   simp;cases N:bR s.xs[j].fr (-2251799813685248) 1583296743997439
   ·simp;exact off (by simp [iW,N]) _ _ _ (by simp)
   have w5:=DT N;simp [aK (n:=s.xs[j].fr+1),aK (n:=s.xs[j].fr+10080)];cases W:bR s.xs[j].to (s.xs[j].fr+1) (s.xs[j].fr+10080)
   ·exact off (by simp [iW,W]) _ _ _ (by simp)
   have Z:iW s.xs[j]=ae:=by simp [iW,U,N,W]
   apply ai;simp;cases j with
   | zero=>
    simp;refine aD (by simp) ?_;refine aO (az (next _ _ ?_ (by simp [E]) (by simp [K])));exact⟨by simp [x],by simp [B],⟨_,rfl⟩,go Z (by rw [Y rfl];rfl)⟩
   | succ m=>
    have z:m<s.xs.length:=by omega
    have y:=X m rfl z;have e1:((m+1:Nat):Int)-1=m:=by omega
    have q:=dt (H:=H++(.box l 0 ::(J++[bK.box [C.f (fi s.xs[m+1].day),C.f (fi s.xs[m+1].fr),C.f (fi s.xs[m+1].to)] 0]))) (aX s.xs) (cJ z);have I:=wq s.xs[m] s.xs[m+1];simp [aC.row]at I q;simp [show 0<m+1 by omega,x,O,aK (n:=(m:Int)),bW,z,q,I];by_cases k7:0≤jb s.xs[m] s.xs[m+1]
    ·simp [k7];have b:=bad (by simp [u,y,show¬ jb s.xs[m] s.xs[m+1]<0 by omega]);refine an (by simp) ?_;exact aq (b _ _ _)
    ·simp [k7];refine aD (by simp) ?_;refine aO (az (next _ _ ?_ (by simp [E]) (by simp [K])));exact⟨by simp [x],by simp [B],⟨_,rfl⟩,go Z (by rw [y];simp;omega)⟩
  ·rintro t _ ⟨x,B,⟨J,rfl⟩,d,X,Y,u⟩ E K;have hX:dV ab s.xs=ae:=by rw [u];simp [dV]
   apply ai;simp;refine aG (hQ _ _ ?_);simp [hS,hX]
theorem kJ{a b:Int}(h:0≤a)(g:0<b)(d:a≤9223372036854775807):bt .quo (vi a) (vi b)=aa (vi (a / b)):=by
 rw [mH (by omega),adO h,wrap64 (aey (by omega) (ad1 h (by omega))) (aey (adV _ h) d)]
theorem kO{a b:Int}(h:0≤a)(d:0<b):bt .rem (vi a) (vi b)=aa (vi (a % b)):=by
 rw [fA (by omega),adp h]
theorem Wh{a b:Int}(h:a≤0)(m:0<b)(l:-9223372036854775807≤a):bt .quo (vi a) (vi b)=aa (vi (-((-a) / b))):=by
 have g:(-a) / b≤-a:=adV _ (by omega);have j:0≤(-a) / b:=ad1 (by omega) (by omega);have d:a.tdiv b = -((-a) / b):=by
  have:a = -(-a):=by omega
  rw [this,Int.neg_tdiv,adO (by omega)];simp
 rw [mH (by omega),d,aK]
theorem WI{a b:Int}(h:a≤0)(g:0<b):bt .rem (vi a) (vi b)=aa (vi (-((-a) % b))):=by
 have d:a.tmod b = -((-a) % b):=by
  have:a = -(-a):=by omega
  rw [this,Int.neg_tmod,adp (by omega)];simp
 rw [fA (by omega),d]
theorem vR(a b:Int)(B:1≤b)(A:-4611686018427387904≤a)(g:a≤4611686018427387904):cB tab.get 55 [vi a,vi b]=Eq (.t [vi (a / b),vi 0]):=cB.eq (by
 refine du rfl rfl fun Q d=>?_;apply ai;simp;apply aq;apply ai;simp;refine aD (by simp;omega) (aO ?_);by_cases h:0≤a
 ·apply ai;simp [kJ h (show 0<b by omega) (by omega)];apply aq;apply ai;have:=adm a (show b≠0 by omega);simp [kO h (show 0<b by omega)];refine aD (by simp;omega) (aO ?_);apply ai;simp;refine aG (d _ _ ?_);simp
 ·apply ai;simp [Wh (show a≤0 by omega) (show 0<b by omega) (by omega)];apply aq;apply ai;have e:=adm (-a) (show b≠0 by omega);have j:=ade (-a) (show 0<b by omega);have q:0≤(-a) / b:=ad1 (by omega) (by omega);have m:(-a) / b≤-a:=adV _ (by omega);have l:=Int.mul_ediv_add_emod (-a) b;simp [WI (show a≤0 by omega) (show 0<b by omega)];by_cases s:(-a) % b=0
  ·refine aD (by simp;omega) (aO ?_);apply ai;simp;refine aG (d _ _ ?_);have:a / b = -(-a / b):=by
    refine Int.ediv_eq_of_eq_mul_right (by omega) ?_;rw [Int.mul_neg];omega
   simp [this]
  ·refine an (by simp;omega) ?_;refine au (.inl rfl) ?_;simp [aK (n:=-(-a / b)-1)];apply ai;simp;refine aG (d _ _ ?_);have:a / b = -(-a / b)-1:=by
    have u:=adm a (show b≠0 by omega);have v:=ade a (show 0<b by omega);have x:=Int.mul_ediv_add_emod a b;have y:b*(a / b+(-a) / b+1)=b-a % b-(-a) % b:=by rw [Int.mul_add,Int.mul_add];omega
    have z:a / b+(-a) / b+1=0:=by
     rcases Int.lt_trichotomy (a / b+(-a) / b+1) 0 with h | h | h
     ·have:b*(a / b+(-a) / b+1)≤b*(-1):=acL (by omega) (by omega);omega
     ·exact h
     ·have:b*1≤b*(a / b+(-a) / b+1):=acL (by omega) (by omega);omega
    omega
   simp [this])
theorem ql(a:Int)(g:-4611686018427387904≤a)(b:a≤4611686018427387904):cB tab.get 26 [vi a]=Eq (vi (a / 1440)):=Kf.eq (by
 refine dF rfl rfl fun H Q d=>?_;apply ai;simp;apply ai;simp [vR a 1440 (by omega) g b];apply ai;simp;refine aG (d _ _ ?_);simp)
def gI(len b d:Int):aC:=⟨d,d*1440+b,d*1440+b+len⟩
def pP(n:Int):Prop:=-1000000000000000≤n∧n≤1000000000000000
theorem vL(g j l:FC)(len b d:Int)(q:pP len)(s:pP b)(u:pP d) :
  cB tab.get 17 [.a [.f g,.f (fi len),.f j],.a [.f l,.f (fi b)],vi d]=Eq (.a ((gI len b d).row.map .f)):=cB.eq (Kf.Wf (by
 unfold pP at *;refine dF rfl rfl fun H Q m=>?_;apply ai;simp;apply ai;simp [aK (n:=d*1440),aK (n:=d*1440+b)];apply ai;simp [aK (n:=d*1440+b+len)];refine aG (m _ _ ?_);simp [gI,aC.row]))
def iw(a b c d:Int):Bool:=decide (a<d)&&decide (c<b)
theorem zQ(a b c d:Int):cB tab.get 18 [.a [.f (fi a),.f (fi b)],.a [.f (fi c),.f (fi d)]]=Eq (vb (iw a b c d)):=Kf.eq (by
 refine dF rfl rfl fun H Q g=>?_;apply ai;simp;apply ai;by_cases h:a<d
 ·simp [h];refine aG (g _ _ ?_);simp [iw,h]
 ·simp [h];refine aG (g _ _ ?_);simp [iw,h])
theorem xd{u m:Int}(b:0<m):(u.tmod m+m).tmod m=u % m:=by
 have d:=Int.tmod_lt_of_pos u b;have g:=Int.lt_tmod_of_pos u b;rw [adp (by omega),Int.add_emod_right];exact aed.2 (by
  have:=Int.tmod_add_mul_tdiv u m;have e:u.tmod m-u = -(m*u.tdiv m):=by omega
  rw [e];exact Int.emod_eq_zero_of_dvd (Int.dvd_neg.2 (ad6 _ _)))
theorem vT{x y:Int}(m:1<x)(h:adK x y=1):1≤y % x:=by
 have l:=adm y (show x≠0 by omega);rcases adA 0 (y % x)with d | d
 ·omega
 ·exfalso;have g:y % x=0:=by omega
  have j:x ∣ y:=Int.dvd_of_emod_eq_zero g;have b:x ∣ (adK x y:Int):=Int.dvd_coe_gcd (Int.dvd_refl x) j;rw [h]at b;have:=Int.le_of_dvd (by decide) b;omega
theorem yE{a m:Int}(a0:0≤a)(a1:a≤1099511627776)(m0:2≤m)(m1:m≤1000000)(hg:adK a m=1) :
  ∃ x,0≤x∧x<m∧m ∣ a*x-1∧cB tab.get 153 [vi a,vi m]=Eq (vi x):=by
 obtain⟨c,⟨x,p,r,w,rfl⟩,hp⟩:∃ c,(∃ x,0≤x∧x<m∧m ∣ a*x-1∧c=vi x)∧cB tab.get 153 [vi a,vi m] c:=by
  have hr:=kO (a:=a) (b:=m) a0 (by omega);have a8:=adm a (show m≠0 by omega);have H:=ade a (show 0<m by omega);have l:adK (a % m) m=1:=by
   have e:a % m=a-a / m*m:=by have:=ado a m;rw [adu (a / m)];omega
   rw [e,Int.gcd_sub_mul_right_left];exact hg
  have Z:1≤a % m:=by
   rcases adA 0 (a % m)with h | h
   ·omega
   ·exfalso;have h0:a % m=0:=by omega
    rw [h0]at l;simp at l;omega
  refine gZ rfl rfl fun Q hQ=>?_;apply ai;simp;apply ai;simp [hr];refine aq (aB ?_);refine bu (fun n s=>∃(x y u v U V:Int) (t:T),s=⟨t,[],[]⟩∧(n:Int)=x∧t.g 1=vi m∧t.g 5=vi x∧t.g 6=vi y∧t.g 7=vi u∧t.g 8=vi v∧1≤x∧x<y∧y≤m∧adK x y=1∧m ∣ a*u-x∧m ∣ a*v-y ∧
   0≤U∧0≤V∧(u=U∧v = -V∨u = -U∧v=V)∧U*y+V*x=m) (a % m).toNat
   ⟨a % m,m,1,0,1,0,_,rfl,by omega,by simp,by simp,by simp,by simp,by simp,Z,H,by omega,l,?_,?_,by decide,by decide,.inl ⟨rfl,rfl⟩,by omega⟩ ?_
  ·refine⟨a / m,?_⟩;have:=ado a m;omega
  ·exact⟨-1,by omega⟩
  rintro n s ⟨x,y,u,v,U,V,t,rfl,hn,i,I,k,o,g8,p,r,w,h4,M,h6,A,h8,h9,J⟩ ih;have b6:U≤U*y:=by have:=acL (show(1:Int)≤y by omega) A;omega
  have b9:0≤V*x:=adF h8 (by omega);have a_:U≤m:=by omega
  have b7:V≤m:=by
   have K:V≤V*x:=by have:=acL (show(1:Int)≤x by omega) h8;omega
   have L:0≤U*y:=adF A (by omega);omega
  refine aq (ai ?_);simp [I];by_cases hx:1<x
  ·
   have B:0≤y / x:=ad1 (by omega) (by omega);have X:y / x≤y:=adV _ (by omega);have E:=kJ (a:=y) (b:=x) (by omega) (by omega) (by omega);obtain⟨q,hq⟩:=bV (y / x);have j:=ado y x;have O:=vT hx h4;have S:=ade y (show 0<x by omega);rw [←hq]at B X E j;obtain⟨g,Y⟩:=bV (y % x);rw [←Y]at j O S;have c6:q*x=y-g:=by rw [adu];omega
   obtain⟨W,hW⟩:=bV (V+q*U);have c4:0≤q*U:=adF B A;have N:W*x+U*g=m:=by
    rw [hW,Int.add_mul,←J,show g=y-q*x by omega,aej,ad2 q U x,aet q U x];omega
   have b_:W≤m:=by
    have K:W≤W*x:=by have:=acL (show(1:Int)≤x by omega) (show 0≤W by omega);omega
    have L:0≤U*g:=adF A (by omega);omega
   have d:(u=U→q*u=q*U)∧(u = -U→q*u = -(q*U)):=⟨fun e=>by rw [e],fun e=>by rw [e,Int.mul_neg]⟩
   have hb:-m≤q*u∧q*u≤m:=by
    rcases h9 with⟨e,-⟩ | ⟨e,-⟩
    ·rw [d.1 e];omega
    ·rw [d.2 e];omega
   have c8:-m≤v∧v≤m:=by omega
   have f:=aK (n:=q*x);have w2:IntKind.i64.wrap (y-q*x)=g:=by rw [aK];omega
   have w3:=aK (n:=q*u);have w4:=aK (n:=v-q*u);refine an (by simp [hx]) (aO ?_);refine aB (ai ?_);simp [I,k,E];apply ai;simp [I,k,f,w2];refine au (.inl rfl) ?_;simp [o,g8,w3,w4];refine az (ih g.toNat _ (by omega) ⟨g,x,v-q*u,u,W,U,_,rfl,by omega,by simp [i],by simp,by simp,by simp,by simp,by omega,by omega,by omega,?_,?_,M,by omega,A,?_,N⟩)
   ·rw [show g=y-q*x by omega,Int.gcd_sub_mul_right_left,Int.gcd_comm];exact h4
   ·have e:a*(v-q*u)-g=(a*v-y)-q*(a*u-x):=by
     rw [aej,aej,aet a q u];omega
    rw [e];exact adI h6 (Int.dvd_mul_of_dvd_right M)
   ·rcases h9 with⟨z,e2⟩ | ⟨z,e2⟩
    ·exact .inr ⟨by rw [d.1 z];omega,z⟩
    ·exact .inl ⟨by rw [d.2 z];omega,z⟩
  ·
   have F:x=1:=by omega
   subst F;have c7:-m≤u∧u≤m:=by omega
   have t1:=Int.tmod_lt_of_pos u (show 0<m by omega);have t2:=Int.lt_tmod_of_pos u (show 0<m by omega);have r1:bt .rem (vi u) (vi m)=aa (vi (u.tmod m)):=fA (by omega);have r2:bt .rem (vi (u.tmod m+m)) (vi m)=aa (vi (u % m)):=by rw [fA (by omega),xd (by omega)]
   have f:=aK (n:=u.tmod m+m);refine aD (by simp) (ba rfl ?_);apply ai;simp [i,o,r1,f,r2];refine aG (hQ _ _ _ ⟨u % m,adm _ (by omega),ade _ (by omega),?_,rfl⟩ (by simp));have e:a*(u % m)-1=(a*u-1)-a*(u / m)*m:=by
    have:=ado u m;rw [show u % m=u-m*(u / m) by omega,aej,ad2,adu m];omega
   rw [e];exact adI M (aek _ _)
 exact⟨x,p,r,w,hp.eq⟩
theorem Pf{a s r p d:Int}(m:¬ (adK s p:Int) ∣ r-a)(j:s ∣ d-a)(l:p ∣ d-r):False:=by
 apply m;have b:=adL (ael s p) j;have g:=adL (aeu s p) l;have:=adI b g;rwa [show d-a-(d-r)=r-a by omega]at this
theorem Pe{a s r p g n t:Int}(q:g=(adK s p:Int))(F:0<p)(H:0<s)(z:p=n*g)(A:g ∣ r-a)(E:n ∣ t*(s / g)-(r-a) / g) :
  (∀ d,s ∣ d-a∧p ∣ d-r↔(s*n) ∣ d-(a+t*s))∧0<g∧0<n:=by
 have l:0<g:=by
  rw [q];have:=ad9 p (show s≠0 by omega);omega
 have u:0<n:=by
  rcases Int.lt_trichotomy n 0 with h | h | h
  ·have:=Int.mul_neg_of_neg_of_pos h l;omega
  ·subst h;omega
  ·exact h
 have x:s / g*g=s:=aes (q▸ael s p);have v:(r-a) / g*g=r-a:=aes A;have j:p ∣ a+t*s-r:=by
  obtain⟨k,B⟩:=E;refine⟨k,?_⟩;have:a+t*s-r=(t*(s / g)-(r-a) / g)*g:=by
   rw [Int.sub_mul,v,ad2,x];omega
  rw [this,B,z,Int.mul_right_comm]
 have y:(Int.lcm s p:Int)=s*n:=by
  have b:((adK s p*Int.lcm s p:Nat):Int)=s*p:=by
   rw [Int.gcd_mul_lcm,aef,Int.natAbs_of_nonneg (by omega),Int.natAbs_of_nonneg (by omega)]
  rw [aef,←q]at b;have m:g*(Int.lcm s p:Int)=g*(s*n):=by rw [b,z,←ad2,adu]
  exact Int.eq_of_mul_eq_mul_left (by omega) m
 refine⟨fun d=>⟨fun⟨b,m⟩=>?_,fun h=>⟨?_,?_⟩⟩,l,u⟩
 ·rw [←y];refine Int.coe_lcm_dvd ?_ ?_
  ·have:d-(a+t*s)=d-a-t*s:=by omega
   rw [this];exact adI b (aek t s)
  ·have:d-(a+t*s)=d-r-(a+t*s-r):=by omega
   rw [this];exact adI m j
 ·have b:=adL (ad6 s n) h;have:d-a=d-(a+t*s)+t*s:=by omega
  rw [this];exact Int.dvd_add b (aek t s)
 ·have b:p ∣ d-(a+t*s):=adL (by rw [←y];exact Int.dvd_lcm_right s p) h;have:d-r=d-(a+t*s)+(a+t*s-r):=by omega
  rw [this];exact Int.dvd_add b j
theorem Ad{a b n:Int}:a % n=b % n↔n ∣ a-b:=aed.trans Int.dvd_iff_emod_eq_zero.symm
abbrev Uh(at' st:Int):V:=.a [.f (.int .i64 at'),.f (.int .i64 st)]
theorem P3{a s r p:Int}(a0:0≤a)(a1:a<s)(s1:s≤1000000)(r0:0≤r)(r1:r<p)(p1:p≤1000) :
  (∃ a' s',0≤a'∧a'<s'∧s'≤s*p∧(∀ d,s ∣ d-a∧p ∣ d-r↔s' ∣ d-a')∧cB tab.get 124 [Uh a s,vi r,vi p]=Eq (.t [Uh a' s',vb ae])) ∨
  ((∀ d,¬ (s ∣ d-a∧p ∣ d-r))∧cB tab.get 124 [Uh a s,vi r,vi p]=Eq (.t [Uh 0 0,vb ag])):=by
 have s0:0<s:=by omega
 have p0:0<p:=by omega
 obtain⟨g,y⟩:=bV ((adK s p:Int):Int);have a_:adK s p=aei s.toNat p.toNat:=by
  show aei s.natAbs p.natAbs=_;rw [show s.natAbs=s.toNat by omega,show p.natAbs=p.toNat by omega]
 have b6:g ∣ s:=y▸ael s p;have M:g ∣ p:=y▸aeu s p;have l:0<adK s p:=ad9 p (by omega);have g0:0<g:=by rw [y];exact Int.natCast_pos.2 l
 have gp:g≤p:=Int.le_of_dvd p0 M;obtain⟨n,i⟩:=bV (p / g);have X:p=n*g:=by rw [i,aes M]
 have B:0<n:=by
  rcases adA 0 n with h | h
  ·exact h
  ·have:=Int.mul_nonneg_of_nonpos_of_nonpos (a:=n) (b:=-g) h (by omega);rw [Int.mul_neg]at this;omega
 have np:n≤p:=by
  have:=acL (show(1:Int)≤g by omega) (show 0≤n by omega);omega
 have j:cB tab.get 98 [vi s,vi p]=Eq (vi g):=by
  have h:=JK (a:=s.toNat) (b:=p.toNat) (by omega) (by omega);rw [show((s.toNat:Nat):Int)=s by omega,show((p.toNat:Nat):Int)=p by omega,←a_,←y]at h;exact h
 have b0:∀ {L:aj},dz (.box [.f (fi a),.f (fi s)] 0::L) ab (.c (.ptr 0 0 0))=aa (vi a)∧dz (.box [.f (fi a),.f (fi s)] 0::L) ab (.c (.ptr 0 1 0))=aa (vi s)∧dz (.box [.f (fi a),.f (fi s)] 0::L) (aa 2) (.c (.ptr 0 0 0))=aa (Uh a s):=by
  intro L;refine⟨?_,?_,?_⟩<;>simp [dz,bo,bY]
 have q:=aK (n:=r-a);have F:bt .rem (vi (r-a)) (vi g)=aa (vi ((r-a).tmod g)):=fA (by omega);have A:¬ (s=0):=by omega
 by_cases x:g ∣ r-a
 ·left;have m:(r-a).tmod g=0:=Int.tmod_eq_zero_of_dvd x;by_cases z:n=1
  ·
   have N:p=g:=by rw [X,z,Int.one_mul]
   refine⟨a,s,a0,a1,?_,fun d=>⟨fun h=>h.1,fun h=>⟨h,?_⟩⟩,cB.eq ?_⟩
   ·have:=acL (show(1:Int)≤p by omega) (show 0≤s by omega);omega
   ·rw [N];have:=adI (adL b6 h) x;rwa [show d-a-(r-a)=d-r by omega]at this
   ·have E:bt .quo (vi p) (vi g)=aa (vi n):=by rw [kJ (by omega) g0 (by omega),←i]
    refine du rfl rfl fun Q I=>?_;apply ai;simp;refine aq (ai ?_);simp [b0,-aP,A];refine bg (by simp) ?_;apply ai;simp [b0,-aP,j];refine aq (ai ?_);simp [b0,-aP,q,F,m];refine bg (by simp) ?_;apply ai;simp [E];refine aq (ai ?_);simp [z];refine an (by simp) ?_;apply ai;simp [b0,-aP];refine aG (I _ _ ?_);simp
  ·
   have n2:2≤n:=by omega
   have Z:0≤s / g:=ad1 (by omega) (by omega);have c9:s / g≤s:=adV _ (by omega);have J:adK (s / g) n=1:=by rw [i,y];exact Int.gcd_ediv_gcd_ediv_gcd l
   obtain⟨v,o,v1,hv,S⟩:=yE Z (by omega) n2 (by omega) J;obtain⟨w,hw⟩:=bV (((r-a) / g) % n);have w0:0≤w:=by rw [hw];exact adm _ (by omega)
   have w1:w<n:=by rw [hw];exact ade _ B
   obtain⟨t,ht⟩:=bV ((w*v) % n);have t0:0≤t:=by rw [ht];exact adm _ (by omega)
   have t1:t<n:=by rw [ht];exact ade _ B
   have U:n ∣ t*(s / g)-(r-a) / g:=by
    obtain⟨k,hk⟩:=hv;have e1:t=w*v-n*(w*v / n):=by have:=ado (w*v) n;omega
    have e2:w=(r-a) / g-n*((r-a) / g / n):=by have:=ado ((r-a) / g) n;omega
    have e3:t*(s / g)-(r-a) / g=w*(s / g*v-1)-n*(w*v / n)*(s / g)-n*((r-a) / g / n):=by
     rw [e1,Int.sub_mul,aej,ad2 w v,adu v (s / g)];omega
    rw [e3,hk];refine adI (adI ?_ ?_) (ad6 _ _)
    ·exact⟨w*k,by rw [aet]⟩
    ·exact⟨w*v / n*(s / g),by rw [ad2]⟩
   obtain⟨O,-,-⟩:=Pe y p0 s0 X x U;have d5:0≤t*s:=adF t0 (by omega);have d6:t*s≤(n-1)*s:=aem (by omega) (by omega);have d8:(n-1)*s=n*s-s:=by rw [Int.sub_mul,Int.one_mul]
   have c8:n*s≤1000*1000000:=ad8 (by omega) s1 (by omega) (by decide);have d9:s*n=n*s:=adu _ _;have c:0≤w*v:=adF w0 o;have d7:w*v≤1000*1000:=ad8 (by omega) (by omega) o (by decide);have c_:0≤n*s:=adF (by omega) (by omega);refine⟨a+t*s,s*n,by omega,by omega,?_,O,cB.eq ?_⟩
   ·exact acL np (by omega)
   ·have E:bt .quo (vi p) (vi g)=aa (vi n):=by rw [kJ (by omega) g0 (by omega),←i]
    have a8:bt .quo (vi (r-a)) (vi g)=aa (vi ((r-a) / g)):=by
     rw [mH (by omega),Int.tdiv_eq_ediv_of_dvd x];have hb:-1000000≤(r-a) / g∧(r-a) / g≤1000000:=by
      obtain⟨k,hk⟩:=x;rw [hk,Int.mul_ediv_cancel_left _ (by omega)];constructor
      ·rcases adA k (-1000000)with h | h
       ·have:=acL (show k≤-1000001 by omega) (show 0≤g by omega);omega
       ·omega
      ·rcases adA 1000000 k with h | h
       ·have:=acL (show(1000001:Int)≤k by omega) (show 0≤g by omega);omega
       ·omega
     rw [aK]
    have c4:bt .rem (vi ((r-a) / g)) (vi n)=aa (vi (((r-a) / g).tmod n)):=fA (by omega);have tl:=Int.tmod_lt_of_pos ((r-a) / g) B;have tg:=Int.lt_tmod_of_pos ((r-a) / g) B;have c6:=aK (n:=((r-a) / g).tmod n+n);have W:bt .rem (vi (((r-a) / g).tmod n+n)) (vi n)=aa (vi w):=by rw [fA (by omega),xd B,←hw]
    have c7:bt .quo (vi s) (vi g)=aa (vi (s / g)):=kJ (by omega) g0 (by omega);have uw:IntKind.wrap .u64 w=w:=gw w0 (by omega);have uv:IntKind.wrap .u64 v=v:=gw o (by omega);have un:IntKind.wrap .u64 n=n:=gw (by omega) (by omega);have us:IntKind.wrap .u64 s=s:=gw (by omega) (by omega);have b7:=qA w0 (show w≤2147483648 by omega) o (show v≤2147483648 by omega);have Y:=L1 (a:=0) (b:=n) (by decide) B;rw [Int.zero_emod]at Y;have K:=Jy c (show w*v≤9223372036854775807 by omega) B (show n≤9223372036854775807 by omega);rw [←ht]at K;have b9:=qA t0 (show t≤2147483648 by omega) (show 0≤s by omega) (show s≤2147483648 by omega);have b_:=qA (show 0≤s by omega) (show s≤2147483648 by omega) (show 0≤n by omega) (show n≤2147483648 by omega);have u:=aK (n:=t*s);have fa:=aK (n:=1152921504606846976-a);have c1:¬ (1152921504606846976<t*s):=by omega
    have c2:¬ (1152921504606846976-a<t*s):=by omega
    have H:=aK (n:=a+t*s);have f:=aK (n:=s*n);have c3:s*n≤1152921504606846976:=by omega
    refine du rfl rfl fun Q I=>?_;apply ai;simp;refine aq (ai ?_);simp [b0,-aP,A];refine bg (by simp) ?_;apply ai;simp [b0,-aP,j];refine aq (ai ?_);simp [b0,-aP,q,F,m];refine bg (by simp) ?_;apply ai;simp [E];refine aq (ai ?_);simp [z];refine bg (by simp) ?_;apply ai;simp [b0,-aP,q,a8,c4,c6,W];apply ai;simp [b0,-aP,uw,c7,S,uv,b7];apply ai;simp [un,Y,K];apply ai;simp [b0,-aP,us,b9];refine aq (ai ?_);simp [b0,-aP,c1,u,fa,c2];refine bg (by simp) ?_;apply ai;simp [b0,-aP,u,H];refine aq (ai ?_);simp [b0,-aP,us,un,b_];apply ai;simp [c3];refine an (by simp) (au (.inl rfl) ?_);simp [f];apply ai;simp;refine aG (I _ _ ?_);simp
 ·right;refine⟨fun d h=>Pf (fun e=>x (y▸e)) h.1 h.2,cB.eq ?_⟩;have m:¬ (r-a).tmod g=0:=fun e=>x (Int.dvd_of_tmod_eq_zero e);refine du rfl rfl fun Q I=>?_;apply ai;simp;refine aq (ai ?_);simp [b0,-aP,A];refine bg (by simp) ?_;apply ai;simp [b0,-aP,j];refine aq (ai ?_);simp [b0,-aP,q,F,m];refine an (by simp) ?_;apply ai;simp;refine aG (I _ _ ?_);simp
theorem v_(a b:Int):cB tab.get 149 [vi a,vi b]=Eq (vb (decide (a<b))):=Kf.eq (by
 refine dF rfl rfl fun H Q d=>?_;apply ai;simp;apply ai;simp [mW];refine aG (d _ _ ?_);simp [mW])
theorem RT(a:Int):cB tab.get 161 [vi a]=Eq (vb ag):=Kf.eq (by
 refine dF rfl rfl fun H Q b=>?_;apply ai;simp;apply ai;simp;refine aG (b _ _ ?_);simp)
theorem x7(g:Tg)(l:List Int)(n:Int)(k:l.length≤1000000000)(a:l.Pairwise (· < ·)) :
  ∃ i:Nat,i≤l.length∧(∀ j (d:j<l.length),j<i→l[j]<n)∧(∀ j (d:j<l.length),i≤j→n≤l[j]) ∧
   cB tab.get 145 [.c (.f (sl g (ints l))),vi n]=Eq (.t [vi i,vb (decide (n ∈ l))]):=by
 obtain⟨r,⟨i,X,Y,L,rfl⟩,h⟩:∃ r,(∃ i:Nat,i≤l.length∧(∀ j (d:j<l.length),j<i→l[j]<n)∧(∀ j (d:j<l.length),i≤j→n≤l[j])∧r=.t [vi i,vb (decide (n ∈ l))]) ∧
   cB tab.get 145 [.c (.f (sl g (ints l))),vi n] r:=by
  refine gZ rfl rfl fun Q M=>?_;have y:∀ i j (b:i<j) (d:j<l.length),l[i]<l[j]:=fun i j b d=>adr.1 a i j (by omega) d b;apply ai;simp;apply ai;simp;apply ai;simp;apply aq;refine aB ?_;refine bu (fun m s=>∃(lo b:Nat) (t:T),s=⟨t,[],[]⟩∧m=b-lo∧lo≤b∧b≤l.length∧t.g 0=.c (.f (sl g (ints l)))∧t.g 1=vi n∧t.g 6=vi l.length∧t.g 7=vi lo∧t.g 8=vi b ∧
   (∀ j (d:j<l.length),j<lo→l[j]<n)∧(∀ j (d:j<l.length),b≤j→n≤l[j])) l.length
   ⟨0,l.length,_,rfl,by omega,by omega,by omega,by simp,by simp,by simp,by simp,by simp,by simp,by intros;omega⟩ ?_
  rintro m s ⟨lo,b,t,rfl,rfl,Z,z,B,E,H,F,K,u,v⟩ next
  apply aq;apply ai;simp [F,K];by_cases O:lo<b
  ·refine an (by simp [O]) (aO ?_);obtain⟨q,o⟩:=bV ((lo+b) / 2);have I:q<l.length:=by omega
   have W:bt BinOp.shr (V.c (C.f (FC.int IntKind.u64 (IntKind.u64.wrap ((lo:Int)+b))))) (V.c (C.f (FC.int IntKind.u64 1)))=aa (.c (.f (.int .u64 (q:Int)))):=by
    have:IntKind.u64.wrap ((lo:Int)+b)=(lo:Int)+b:=by
     show((lo:Int)+b) % 18446744073709551616=_;omega
    rw [this];show aa (V.c (C.f (FC.int IntKind.u64 (Int.fdiv ((lo:Int)+b) (2 ^ (min (1:Int).toNat IntKind.u64.bits))))))=_;have L:Int.fdiv ((lo:Int)+b) (2 ^ (min (1:Int).toNat IntKind.u64.bits))=q:=by
     show Int.fdiv ((lo:Int)+b) 2=q;rw [Int.fdiv_eq_ediv_of_nonneg _ (by omega)];omega
    rw [L]
   have c:=aK (n:=(lo:Int)+b);have U:IntKind.i64.wrap (q:Int)=q:=aK;refine aB ?_;apply ai;simp [F,K,c,W,U];apply ai;simp [B,E,bW,I,kB,v_];by_cases N:l[q]<n
   ·refine an (by simp [N]) ?_;refine au (.inl rfl) ?_;simp [aK (n:=(q:Int)+1)];refine az (next (b-(q+1)) _ (by omega) ⟨q+1,b,_,rfl,rfl,by omega,by omega,by simp [B],by simp [E],by simp [H],by simp,by simp [K],fun j d h=>?_,v⟩);by_cases e:j=q
    ·subst e;exact N
    ·have:=y j q (by omega) I;omega
   ·refine aD (by simp [N]) ?_;refine au (.inl rfl) ?_;simp;refine az (next (q-lo) _ (by omega) ⟨lo,q,_,rfl,rfl,by omega,by omega,by simp [B],by simp [E],by simp [H],by simp [F],by simp,u,fun j d h=>?_⟩);by_cases e:j=q
    ·subst e;omega
    ·have:=y q j (by omega) d;omega
  ·have:lo=b:=by omega
   subst this;refine aD (by simp) ?_;refine ba rfl ?_;apply ai;by_cases x:lo<l.length
   ·have f:=v lo x (by omega);by_cases J:l[lo]=n
    ·simp [B,E,H,F,x,bW,kB,J];refine aG (M _ _ _ ⟨lo,z,u,v,rfl⟩ ?_);have:n ∈ l:=J▸acE x;simp [this]
    ·have A:n ∉ l:=fun S=>by
      obtain⟨j,d,rfl⟩:=adJ S;rcases Nat.lt_trichotomy j lo with h | h | h
      ·have:=u j d h;omega
      ·subst h;exact J rfl
      ·have:=y lo j h d;omega
     simp [B,E,H,F,x,bW,kB,J,RT];refine aG (M _ _ _ ⟨lo,z,u,v,rfl⟩ ?_);simp [A]
   ·have A:n ∉ l:=fun S=>by
     obtain⟨j,d,rfl⟩:=adJ S;have:=u j d (by omega);omega
    simp [B,E,H,F,x];refine aG (M _ _ _ ⟨lo,z,u,v,rfl⟩ ?_);simp [A]
 exact⟨i,X,Y,L,cB.eq h⟩
theorem jI{d:Int}:∀ {l:List Int} {b:Int},cH d b l=ae→l.Pairwise (· < ·)∧∀ c ∈ l,b<c∧c<d
 | [],_,_=>⟨List.Pairwise.nil,by simp⟩
 | a::l,b,h=>by
  simp only [cH,BY,decide_eq_true_eq]at h;obtain⟨⟨m,q⟩,s⟩:=h;obtain⟨u,j⟩:=jI s;refine⟨adw.2 ⟨fun c g=>(j c g).1,u⟩,fun c g=>?_⟩;rcases ac2.1 g with rfl | g
  ·exact⟨m,q⟩
  ·have:=j c g;omega
theorem dQ{p:aT}(h:eV p=ae):0≤p.fr∧p.fr≤1099511627776∧1≤p.cU∧p.cU≤1099511627776∧p.head.length+p.fY.length≤1048576∧p.head.Pairwise (· < ·)∧(∀ c ∈ p.head,-1<c∧c<p.fr)∧p.fY.Pairwise (· < ·)∧∀ c ∈ p.fY,-1<c∧c<p.cU:=by
 unfold eV at h;simp only [BY,decide_eq_true_eq]at h;obtain⟨⟨⟨⟨⟨⟨g,j⟩,l⟩,m⟩,u⟩,q⟩,s⟩:=h;obtain⟨a1,b⟩:=jI q;obtain⟨b1,d⟩:=jI s;exact⟨g,j,l,m,by omega,a1,b,b1,d⟩
def tV(p:aT)(d:Int):Bool:=if p.fr≤d then decide ((d-p.fr) % p.cU ∈ p.fY)else decide (d ∈ p.head)
def Day(d:Int):Prop:=d≤2305843009213693952
theorem CV(p:aT)(h:eV p=ae)(d:Int)(A:0≤d)(x:Day d):cB tab.get 147 [.a (p.row.map .f),vi d]=Eq (vb (tV p d)):=Kf.eq (by
 obtain⟨B,E,F,I,K,s,L,u,M⟩:=dQ h;unfold Day at x;refine dF rfl rfl fun H Q v=>?_;have j:∀(t:T) (J:aj) (g:Tg) (l:List Int) (n:Int),l.length≤1048576→l.Pairwise (· < ·)→t.g 5=.c (.f (sl g (ints l)))→t.g 6=vi n→tV p d=decide (n ∈ l)→WP tab.get 147 ab [.code zC] ⟨t,[],H++J⟩ Q:=by
  intro t J g l n N y m q e;obtain⟨i,-,-,-,z⟩:=x7 g l n (by omega) y;apply ai;simp [m,q,z];apply ai;simp;refine aG (v _ _ ?_);simp [e]
 apply ai;simp [aT.row];apply ai;simp;apply aq;apply ai;simp;by_cases k:p.fr≤d
 ·refine an (by simp [k]) ?_;refine au (.inl rfl) ?_;simp [aK (n:=d-p.fr),kO (a:=d-p.fr) (b:=p.cU) (by omega) (by omega)];exact j _ _ p.cg p.fY ((d-p.fr) % p.cU) (by omega) u (by simp) (by simp) (by simp [tV,k])
 ·refine bg (by simp [k]) ?_;exact j _ _ p.hg p.head d (by omega) s (by simp) (by simp) (by simp [tV,k]))
def hasB(p:aT)(d:Int):Bool:=decide (0≤d)&&tV p d
theorem QT(p:aT)(h:eV p=ae)(d:Int)(l:Day d):Kf tab.get 114 [.a (p.row.map .f),vi d] (vb (hasB p d)):=by
 refine dF rfl rfl fun H Q g=>?_;have b:=K' p (uq h);rw [h]at b;apply ai;simp [aT.row]at b ⊢;apply ai;by_cases k:0≤d
 ·have j:=CV p h d k l;simp [aT.row]at j;simp [b,k,j];refine aG (g _ _ ?_);simp [hasB,k]
 ·simp [b,k];refine aG (g _ _ ?_);simp [hasB,k]
theorem C0(p:aT)(h:eV p=ae)(d:Int)(j:Day d):Kf tab.get 113 [.a (p.row.map .f),.c (.f (.fp [fi d] 0))] (vb (!hasB p d)):=by
 refine dF rfl rfl fun H Q g=>?_;have b:=(QT p h d j).eq;simp [aT.row]at b;have l:∀ H:aj,dz H ab (.c (.f (.fp [fi d] 0)))=aa (vi d):=fun H=>by simp [dz,bo]
 apply ai;simp [aT.row];apply ai;simp [l,b];refine aG (g _ _ ?_);simp
def xi(l:List aT)(d:Int):Bool:=l.all fun p=>hasB p d
theorem YY(g:Tg)(l:List aT)(v:l.length≤9223372036854775807)(h:∀ p ∈ l,eV p=ae)(d:Int)(s:Day d):Kf tab.get 77 [.c (.f (sl g (aQ l))),vi d] (vb (xi l d)):=by
 refine dF rfl rfl fun H Q m=>?_;have q:=(kj I2 (nZ I3 l aT.row (fun r=>.a (r.row.map .f)) (fun p=>!hasB p d) g 113 [.fp [fi d] 0] v
  (fun j u H=>dt (bO l) (dc u)) (fun p x=>C0 p (h p x) d s))).eq
 have e:(!l.any fun p=>!hasB p d)=xi l d:=by
  rw [xi,Bool.eq_iff_iff];simp [List.any_eq_false,acN]
 apply ai;simp;apply ai;have b:cB tab.get 65 [.c (.f (sl g (aQ l))),.c (.f (.fn 113 [.fp [fi d] 0]))]=Eq (vb (l.any fun p=>!hasB p d)):=q;simp [deep,SX,J_,b,e];refine aG (m _ _ ?_);simp
theorem jL{t:dj}(h:ji t=ae):1≤t.fs.length∧t.fs.length≤4∧∀ p ∈ t.fs,eV p=ae:=by
 unfold ji at h;simp only [BY,decide_eq_true_eq,acN]at h;exact⟨by omega,by omega,h.2⟩
theorem oq{l:List dj}(h:kF l=ae):l.length≤64∧∀ t ∈ l,ji t=ae:=by
 unfold kF at h;simp only [BY,decide_eq_true_eq,acN]at h;exact⟨by omega,h.2⟩
structure Mod(p:aT):Prop where
 ok:eV p=ae
 ZU:p.cU≤1000
def fh(p:aT)(c:Int):Int:=(p.fr % p.cU+c) % p.cU
theorem abt{x c p:Int}(d:0≤c)(g:c<p):x % p=c↔p ∣ x-c:=by
 have h:=Ad (a:=x) (b:=c) (n:=p);rw [Int.emod_eq_of_lt d g]at h;exact h
theorem nu{p:aT}(h:Mod p){c:Int}(b:0≤c)(g:c<p.cU):0≤fh p c∧fh p c<p.cU∧∀ d,(d-p.fr) % p.cU=c↔p.cU ∣ d-fh p c:=by
 have j:0<p.cU:=by omega
 refine⟨adm _ (by omega),ade _ j,fun d=>?_⟩;rw [abt b g];have e:p.cU ∣ p.fr+c-fh p c:=by
  rw [←Ad];unfold fh;rw [Int.emod_emod_of_dvd _ (Int.dvd_refl _),Int.emod_add_emod]
 constructor
 ·intro k;have:=Int.dvd_add k e;rwa [show d-p.fr-c+(p.fr+c-fh p c)=d-fh p c by omega]at this
 ·intro k;have:=adI k e;rwa [show d-fh p c-(p.fr+c-fh p c)=d-p.fr-c by omega]at this
theorem pw{p:aT}(h:Mod p){c:Int}(d:c ∈ p.fY):0≤c∧c<p.cU:=by
 obtain⟨-,-,-,-,-,-,-,-,b⟩:=dQ h.ok;have:=b c d;omega
def gV(p:aT)(d:Int):Prop:=∃ c ∈ p.fY,p.cU ∣ d-fh p c
theorem wk{p:aT}(h:Mod p){d:Int}(l:p.fr≤d):tV p d=ae↔gV p d:=by
 unfold tV;rw [bf l,decide_eq_true_eq];constructor
 ·intro j;obtain⟨a,b⟩:=pw h j;exact⟨_,j,((nu h a b).2.2 d).1 rfl⟩
 ·rintro⟨c,g,e⟩;obtain⟨a,b⟩:=pw h g;rw [((nu h a b).2.2 d).2 e];exact g
theorem qR(p:aT)(h:Mod p)(c:Int)(l:0≤c)(m:c<p.cU):cB tab.get 97 [.a (p.row.map .f),vi c]=Eq (vi (fh p c)):=Kf.eq (by
 obtain⟨d,j,p0,p1,-⟩:=dQ h.ok;have q:=adm p.fr (show p.cU≠0 by omega);have s:=ade p.fr (show 0<p.cU by omega);refine dF rfl rfl fun H Q g=>?_;apply ai;simp [aT.row];apply ai;simp [kO (a:=p.fr) (b:=p.cU) d (by omega),aK (n:=p.fr % p.cU+c),kO (a:=p.fr % p.cU+c) (b:=p.cU) (by omega) (by omega)];refine aG (g _ _ ?_);simp [fh])
def cz:List aT→Int
 | []=>0| p::l=>max p.fr (cz l)
theorem lv:∀ l:List aT,0≤cz l
 | []=>Int.le_refl _| p::l=>by have:=lv l;simp only [cz];omega
theorem lu{p:aT}:∀ {l:List aT},p ∈ l→p.fr≤cz l
 | q::l,h=>by
  simp only [cz];rcases ac2.1 h with rfl | h
  ·omega
  ·have:=lu h;omega
theorem zt{l:List aT}{m:Int}(b:0≤m)(h:∀ p ∈ l,p.fr≤m):cz l≤m:=by
 induction l with
 | nil=>exact b
 | cons p l g=>
  have:=h p acK;have:=g fun q d=>h q (acM _ d);simp only [cz];omega
theorem w8(l:List aT)(p:aT):cz (l++[p])=max (cz l) p.fr:=by
 induction l with
 | nil=>simp only [List.nil_append,cz];omega| cons q l b=>simp only [List.cons_append,cz,b];omega
theorem LW(g:Tg)(l:List aT)(A:l.length≤64):cB tab.get 122 [.c (.f (sl g (aQ l)))]=Eq (vi (cz l)):=Kf.eq (by
 refine dF rfl rfl fun H Q z=>?_;apply ai;simp;apply ai;simp;apply aq;apply ai;simp;refine et l.length (fun j t y=>(∃ J,y=H++J)∧t.g 6=.c (.f (sl g (aQ l)))∧t.g 3=vi (cz (l.take j))) (by omega) (by decide) (by decide) (by simp) (by simp) ⟨⟨[],by simp⟩,by simp,by simp [cz]⟩ ?_ ?_
 ·rintro j t _ u ⟨⟨J,rfl⟩,q,m⟩ s x next
  have d:=fun H:aj=>dt (H:=H) (bO l) (dc (l:=l) (j:=j) u);have b:=fun H:aj=>bW (H:=H) (g:=g) (rows:=aQ l) (sz:=4) (k:=.i64) (i:=j) (by omega) (by simpa using u);simp [aT.row]at d b;have v:l.take (j+1)=l.take j++[l[j]]:=by rw [acW,By u];rfl
  have e:cz (l.take (j+1))=max (cz (l.take j)) l[j].fr:=by rw [v,w8]
  refine aB ?_;apply ai;simp [q,s,b,d];refine au (.inl rfl) ?_;simp [m];refine az (next _ _ ?_ (by simp [s]) (by simp [x]));exact⟨⟨_,rfl⟩,by simp [q],by simp [e]⟩
 ·rintro t _ ⟨⟨J,rfl⟩,q,m⟩ s x;rw [ac0]at m;apply ai;simp [m];refine aG (z _ _ ?_);simp)
def uW(n a s:Int):Int:=if a<n then a+(n-a+s-1) / s*s else a
theorem AK{n a s:Int}(y:0≤a)(z:a<s)(A:0≤n):n≤uW n a s∧s ∣ uW n a s-a∧uW n a s≤n+s∧∀ d,n≤d→s ∣ d-a→uW n a s≤d:=by
 have m:0<s:=by omega
 unfold uW;split
 ·have u:=ado (n-a+s-1) s;have v:=adm (n-a+s-1) (show s≠0 by omega);have x:=ade (n-a+s-1) m;have g:(n-a+s-1) / s*s=s*((n-a+s-1) / s):=adu _ _;rw [g];generalize (n-a+s-1) / s=q at *;refine⟨by omega,⟨q,by omega⟩,by omega,?_⟩;rintro d j ⟨k,l⟩;rcases adA k q with h | h
  ·have b:s*k≤s*(q-1):=acL (by omega) (by omega);rw [aej,Int.mul_one]at b;omega
  ·have b:s*q≤s*k:=acL h (by omega);omega
 ·refine⟨by omega,⟨0,by omega⟩,by omega,?_⟩;rintro d j ⟨k,l⟩;rcases adA k 0 with h | h
  ·have b:s*k≤s*(-1):=acL (by omega) (by omega);omega
  ·have b:0≤s*k:=adF (by omega) h;omega
structure eB(S:Int→Prop)(l:Int)(f:Bool)(l':Int)(f':Bool):Prop where
 le:l'≤l
 Ur:f=ae→f'=ae
 src:(l'=l∧f'=f)∨(f'=ae∧S l')
 low:∀ d,S d→l'≤d∧(d≤l→f'=ae)
theorem eB.none{S:Int→Prop}{l:Int}{f:Bool}(h:∀ d,¬ S d):eB S l f l f:=⟨Int.le_refl _,id,.inl ⟨rfl,rfl⟩,fun d b=>absurd b (h d)⟩
theorem eB.trans{S u v:Int→Prop}{l l1 l2:Int}{f x y:Bool}(m:eB u l f l1 x)(j:eB v l1 x l2 y)(s:∀ d,S d↔u d∨v d):eB S l f l2 y where
 le:=aey j.le m.le
 Ur h:=j.Ur (m.Ur h)
 src:=by
  rcases j.src with⟨rfl,rfl⟩ | ⟨h,k⟩
  ·rcases m.src with h | ⟨h,k⟩
   ·exact .inl h
   ·exact .inr ⟨h,(s _).2 (.inl k)⟩
  ·exact .inr ⟨h,(s _).2 (.inr k)⟩
 low d z:=by
  have b:=j.le;rcases(s d).1 z with k | k
  ·obtain⟨a1,q⟩:=m.low d k;exact⟨by omega,fun e=>j.Ur (q e)⟩
  ·obtain⟨a1,q⟩:=j.low d k;refine⟨a1,fun e=>?_⟩;rcases adA l1 d with g | g
   ·rcases m.src with⟨rfl,rfl⟩ | ⟨h,-⟩
    ·omega
    ·exact j.Ur h
   ·exact q g
theorem eB.iff{S S':Int→Prop}{l j:Int}{f b:Bool}(h:eB S l f j b)(g:∀ d,S' d↔S d):eB S' l f j b:=
 ⟨h.le,h.Ur,by rcases h.src with k | ⟨k,k'⟩;exact .inl k;exact .inr ⟨k,(g _).2 k'⟩,fun d m=>h.low d ((g d).1 m)⟩
theorem eB.one{S:Int→Prop}{l x:Int}{f:Bool}(j:S x)(g:∀ d,S d→x≤d):eB S l f (if x≤l then x else l) (f||decide (x≤l)) where
 le:=by split<;>omega
 Ur h:=by rw [h];rfl
 src:=by
  by_cases k:x≤l
  ·exact .inr ⟨by simp [k],by simpa [k]using j⟩
  ·exact .inl ⟨by simp [k],by simp [k]⟩
 low d b:=by
  have:=g d b;constructor
  ·split<;>omega
  ·intro e;simp [show x≤l by omega]
def LH(H:aj)(g:Tg)(ps:List aT)(n least:Int)(found:Bool):Prop:=(∃ a,H[0]?=aa (.box [.f (sl g (aQ ps))] a))∧H[1]?=aa (.box [.f (fi n)] 0)∧H[2]?=aa (.box [.f (fi least)] 0)∧H[3]?=aa (.box [.f (.bool found)] 0) ∧
 H[4]?=aa (.box [.cl 123 [.ptr 0 0 0,.ptr 4 0 0,.ptr 1 0 0,.ptr 2 0 0,.ptr 3 0 0]] 0)
theorem LH.push{H:aj}{g:Tg}{ps:List aT}{n least:Int}{found:Bool}(h:LH H g ps n least found)(J:aj):LH (H++J) g ps n least found:=by
 obtain⟨⟨a,b⟩,d,j,l,m⟩:=h;refine⟨⟨a,?_⟩,?_,?_,?_,?_⟩
 ·rw [AT (av b)];exact b
 ·rw [AT (av d)];exact d
 ·rw [AT (av j)];exact j
 ·rw [AT (av l)];exact l
 ·rw [AT (av m)];exact m
theorem CO(g:Tg)(ps:List aT)(H:aj)(n least:Int)(found:Bool)(r s:Int)(o:LH H g ps n least found)(A:0≤r)(B:r<s)(I:s≤1000000)(p:0≤n)(w:n≤1000000000000) :
  ∃ v E,Ev tab.get (.fn 123) [vi ps.length,Uh r s,.c (.ptr 0 0 0),.c (.ptr 4 0 0),.c (.ptr 1 0 0),.c (.ptr 2 0 0),.c (.ptr 3 0 0)] H v E ∧
   (v=.t []∧LH E g ps n (if uW n r s≤least then uW n r s else least) (found||decide (uW n r s≤least))∧∀ i:Nat,5≤i→i<H.length→E[i]?=H[i]?):=by
 obtain⟨⟨F,c⟩,e,f,h,N⟩:=o;obtain⟨u1,-,u3,-⟩:=AK A B p;have l4:=av N;refine dy rfl rfl fun Q U=>?_;have m:∀(t:T) (q:aj) (y:Int),y=uW n r s→t.g 8=.c (.ptr H.length 0 0)→t.g 4=.c (.ptr 1 0 0)→t.g 5=.c (.ptr 2 0 0)→t.g 6=.c (.ptr 3 0 0)→LH q g ps n least found→q[H.length]?=aa (.box [.f (fi y),.f (fi s)] 0)→(∀ i:Nat,5≤i→i<H.length→q[i]?=H[i]?) →
   WP tab.get 123 ab [.code vj] ⟨t,[],q⟩ Q:=by
  rintro t q _ rfl M Y L Z j X l;have q1:=j.2.1;have W:=j.2.2.1;have q3:=j.2.2.2.1;apply ai;simp [M,Y,L,X,q1,W,u1];by_cases k:uW n r s≤least
  ·refine an (by simp [k]) ?_;have K:(q.set 2 (.box [.f (fi (uW n r s))] 0))[3]?=aa (.box [.f (.bool found)] 0):=by rw [AI (by decide)];exact q3
   refine au (.inl rfl) ?_;simp [M,L,Z,X,W,K];refine eu (U _ _ _ rfl rfl ⟨rfl,?_,fun i J z=>by rw [AI (by omega),AI (by omega)];exact l i J z⟩);obtain⟨⟨F,A⟩,B,I,O,S⟩:=j;refine⟨⟨F,?_⟩,?_,?_,?_,?_⟩
   ·rw [AI (by decide),AI (by decide)];exact A
   ·rw [AI (by decide),AI (by decide)];exact B
   ·rw [AI (by decide),OF (av I)];simp [k]
   ·rw [OF (by rw [List.length_set];exact av O)];simp [k]
   ·rw [AI (by decide),AI (by decide)];exact S
  ·refine bg (by simp [k]) ?_;refine eu (U _ _ _ rfl rfl ⟨rfl,?_,l⟩);simpa [k]using j
 apply ai;simp;have d:=LH.push (H:=H) (g:=g) (ps:=ps) (n:=n) (least:=least) (found:=found) ⟨⟨F,c⟩,e,f,h,N⟩ [.box [.f (fi r),.f (fi s)] 0];have x:(H++[bK.box [.f (fi r),.f (fi s)] 0])[H.length]?=aa (.box [.f (fi r),.f (fi s)] 0):=by simp
 have u:∀ i:Nat,5≤i→i<H.length→(H++[bK.box [.f (fi r),.f (fi s)] 0])[i]?=H[i]?:=fun i _ z=>AT z;generalize H++[bK.box [.f (fi r),.f (fi s)] 0]=q at d x u ⊢;obtain⟨a1,r0⟩:=d.1;have r1:=d.2.1;apply aq;apply ai;simp [r0];refine bg (by simp) ?_;apply aq;apply ai;by_cases k:r<n
 ·simp [r1,x,k,show 0<s by omega];refine an (by simp) ?_;have a8:uW n r s=r+(n-r+s-1) / s*s:=by unfold uW;rw [bf k]
  have hq:=kJ (a:=n-r+s-1) (b:=s) (by omega) (by omega) (by omega);have b1:(n-r+s-1) / s*s=uW n r s-r:=by omega
  refine au (.inl rfl) ?_;simp [r1,x,aK (n:=n-r),aK (n:=n-r+s),aK (n:=n-r+s-1),hq,b1,aK (n:=uW n r s-r),aK (n:=r+(uW n r s-r))];refine m _ _ _ (show r+(uW n r s-r)=_ by omega) (by simp) (by simp) (by simp) (by simp) ?_ (OF (av x)) fun i J z=>by rw [AI (by omega)];exact u i J z
  obtain⟨⟨a1,A⟩,B,I,O,S⟩:=d;refine⟨⟨a1,?_⟩,?_,?_,?_,?_⟩
  all_goals (rw [AI (by omega)];assumption)
 ·simp [r1,x,k];refine bg (by simp) ?_;exact m _ _ r (by unfold uW;rw [aU k]) (by simp) (by simp) (by simp) (by simp) d x u
def dX:List aT→Int
 | []=>1| p::l=>p.cU*dX l
theorem oz{l:List aT}(h:∀ p ∈ l,Mod p):1≤dX l:=by
 induction l with
 | nil=>exact Int.le_refl _
 | cons p l j=>
  have b:=(dQ (h p acK).ok).2.2.1;have d:=j fun q g=>h q (acM _ g);have:=ad8 b d (by decide) (by omega);simp only [dX];omega
def pQ(ps:List aT)(n a s d:Int):Prop:=n≤d∧s ∣ d-a∧∀ p ∈ ps,gV p d
theorem Y4(g:Tg)(ps:List aT)(hM:∀ p ∈ ps,Mod p)(h_:ps.length≤64)(n:Int)(hn:0≤n)(d6:n≤1000000000000) :
  ∀(k i:Nat),i+k=ps.length→∀(H:aj) (least:Int) (found:Bool) (a s:Int),LH H g ps n least found→0≤a→a<s→s*dX (ps.drop i)≤1000000 →
  ∃ v b,Ev tab.get (.fn 123) [vi i,Uh a s,.c (.ptr 0 0 0),.c (.ptr 4 0 0),.c (.ptr 1 0 0),.c (.ptr 2 0 0),.c (.ptr 3 0 0)] H v b ∧
   (v=.t []∧∃ I A,LH b g ps n I A∧eB (pQ (ps.drop i) n a s) least found I A∧∀ i:Nat,5≤i→i<H.length→b[i]?=H[i]?):=by
 intro k;induction k with
 | zero=>
  intro i hi H least found a s hH a0 a1 hs;have:i=ps.length:=by omega
  subst this;rw [aew]at hs ⊢;simp only [dX,Int.mul_one]at hs;obtain⟨v,b,K,rfl,hL,hk⟩:=CO g ps H n least found a s hH a0 a1 hs hn d6;obtain⟨u1,u2,u3,u4⟩:=AK (n:=n) a0 a1 hn;exact⟨_,b,K,rfl,_,_,hL,eB.one ⟨u1,u2,fun p hp=>absurd hp (List.not_mem_nil)⟩ (fun d hd=>u4 d hd.1 hd.2.1),hk⟩
 | succ k ih=>
  intro i hi H least found a s hH a0 a1 hs;have y:i<ps.length:=by omega
  obtain⟨p,hp⟩:=bV (ps[i]);have d7:p ∈ ps:=hp▸acE y;have M:=hM p d7;obtain⟨f0,f1,p0,p1,g_,-⟩:=dQ M.ok;have b7:ps.drop i=p::ps.drop (i+1):=by rw [hp];exact acP y
  have d8:=oz (l:=ps.drop (i+1)) fun q hq=>hM q (List.mem_of_mem_drop hq);have j3:s*p.cU*dX (ps.drop (i+1))≤1000000:=by
   rw [b7]at hs;simp only [dX,←ad2]at hs;exact hs
  have i_:1≤s:=by omega
  have f9:s≤s*p.cU:=by
   have:=acL p0 (show 0≤s by omega);omega
  have f_:s*p.cU≤1000000:=by
   have:=acL d8 (show 0≤s*p.cU by omega);omega
  refine dy rfl rfl fun Q hQ=>?_;have F:=fun H:aj=>dt (H:=H) (bO ps) (dc (l:=ps) (j:=i) y);have u:=fun H:aj=>ic (H:=H) (k:=3) (bO ps) (dc (l:=ps) (j:=i) y) rfl;have E:=fun H:aj=>ic (H:=H) (k:=2) (bO ps) (dc (l:=ps) (j:=i) y) rfl;have B:=fun H:aj=>bW (H:=H) (g:=g) (rows:=aQ ps) (sz:=4) (k:=.i64) (i:=i) (by omega) (by simpa using y);rw [←hp]at F u E;simp [aT.row]at F B u E;have l4:=av hH.2.2.2.2;apply ai;simp;have a8:=hH.push [.box [.f (fi a),.f (fi s)] 0];have L:(H++[bK.box [.f (fi a),.f (fi s)] 0])[H.length]?=aa (.box [.f (fi a),.f (fi s)] 0):=by simp
  have b_:∀ i:Nat,5≤i→i<H.length→(H++[bK.box [.f (fi a),.f (fi s)] 0])[i]?=H[i]?:=fun i _ hl=>AT hl;obtain⟨b8,c_⟩:=bV (H.length);rw [←c_]at L ⊢;generalize H++[bK.box [.f (fi a),.f (fi s)] 0]=HH at a8 L b_ ⊢;obtain⟨q,q0⟩:=a8.1;apply aq;apply ai;simp [q0];refine an (by simp [y]) ?_;apply aq;apply ai;simp [q0,B,u];refine et p.fY.length (fun j t b=>t.g 0=vi i∧t.g 2=.c (.ptr 0 0 0)∧t.g 3=.c (.ptr 4 0 0)∧t.g 8=.c (.ptr b8 0 0)∧t.g 21=.c (.f (sl p.cg (ints p.fY)))∧b[b8]?=aa (.box [.f (fi a),.f (fi s)] 0) ∧
   ∃ l' U,LH b g ps n l' U∧eB (fun d=>pQ (ps.drop (i+1)) n a s d∧∃ c ∈ p.fY.take j,p.cU ∣ d-fh p c) least found l' U∧∀ x:Nat,5≤x→x<H.length→b[x]?=H[x]?) (by omega) (by decide) (by decide) (by simp) (by simp)
   ⟨by simp,by simp,by simp,by simp,by simp,L,_,_,a8,eB.none (by simp),b_⟩ ?_ ?_
  ·rintro j t b hj ⟨g0,g2,g3,g8,O,L,l',U,J,hP,m⟩ ha hb next
   have hm:=pw M (acE hj);obtain⟨f4,f7,-⟩:=nu M hm.1 hm.2;have N:=qR p M p.fY[j] hm.1 hm.2;simp [aT.row]at N;have e_:p.fY.take (j+1)=p.fY.take j++[p.fY[j]]:=by rw [acW,By hj];rfl
   have c4:∀ d,(pQ (ps.drop (i+1)) n a s d∧∃ c ∈ p.fY.take (j+1),p.cU ∣ d-fh p c)↔(pQ (ps.drop (i+1)) n a s d∧∃ c ∈ p.fY.take j,p.cU ∣ d-fh p c)∨(pQ (ps.drop (i+1)) n a s d∧p.cU ∣ d-fh p p.fY[j]):=by
    intro d;rw [e_];simp only [acG,acF];constructor
    ·rintro⟨h,c,hc | rfl,e⟩
     ·exact .inl ⟨h,c,hc,e⟩
     ·exact .inr ⟨h,e⟩
    ·rintro(⟨h,c,hc,e⟩ | ⟨h,e⟩)
     ·exact⟨h,c,.inl hc,e⟩
     ·exact⟨h,_,.inr rfl,e⟩
   obtain⟨a9,e0⟩:=J.1;have e4:=J.2.2.2.2;have f8:=av L;refine aB ?_;apply ai;simp [ha,O,bW,hj,kB];rcases P3 a0 a1 (by omega) f4 f7 M.ZU with⟨a',s',c6,c7,d9,b9,z⟩ | ⟨b6,z⟩
   ·apply ai;simp [g0,g2,g8,L,e0,B,F,E,N,z];have d_:s'*dX (ps.drop (i+1))≤1000000:=by
     have:=aem d9 (show 0≤dX (ps.drop (i+1)) by omega);omega
    obtain⟨v,H2,K,rfl,l2,f2,c8,c9,a_⟩:=ih (i+1) (by omega) (b++[.box [.f (fi a'),.f (fi s')] 0]) l' U a' s' (J.push _) c6 c7 d_;have K:=K.eq;have k4:(b++[bK.box [.f (fi a'),.f (fi s')] 0])[4]?=aa (.box [.cl 123 [.ptr 0 0 0,.ptr 4 0 0,.ptr 1 0 0,.ptr 2 0 0,.ptr 3 0 0]] 0):=by rw [AT (av e4)];exact e4
    have kN:(b++[bK.box [.f (fi a'),.f (fi s')] 0])[b.length]?=aa (.box [.f (fi a'),.f (fi s')] 0):=by simp
    have kl:(b++[bK.box [.f (fi a'),.f (fi s')] 0]).length=b.length+1:=by simp
    have kb:(b++[bK.box [.f (fi a'),.f (fi s')] 0])[b8]?=aa (.box [.f (fi a),.f (fi s)] 0):=by rw [AT (av L)];exact L
    have kk:∀ x:Nat,5≤x→x<H.length→(b++[bK.box [.f (fi a'),.f (fi s')] 0])[x]?=H[x]?:=fun x h5 hx=>by
     rw [AT (by omega)];exact m x h5 hx
    apply aq;refine au (.inl rfl) ?_;simp;generalize b++[bK.box [.f (fi a'),.f (fi s')] 0]=HA at K k4 kN kl kb kk a_ ⊢;refine an (by simp) ?_;refine au (.inl rfl) ?_;have d5:IntKind.i64.wrap ((i:Int)+1)=((i+1:Nat):Int):=by rw [aK];rfl
    simp [g0,g3,k4,kN,d5,bG];rw [show(↑i+1:Int)=((i+1:Nat):Int) from rfl];simp only [K];simp;refine az (next _ _ ?_ (by simp [ha]) (by simp [hb]));refine⟨by simp [g0],by simp [g2],by simp [g3],by simp [g8],by simp [O],?_,l2,f2,c8,?_,?_⟩
    ·rw [a_ b8 (by omega) (by omega)];exact kb
    ·refine eB.trans hP (c9.iff (S':=fun d=>pQ (ps.drop (i+1)) n a s d∧p.cU ∣ d-fh p p.fY[j]) fun d=>?_) c4;unfold pQ;rw [←b9 d];constructor
     ·rintro⟨⟨W,X,Y⟩,Z⟩;exact⟨W,⟨X,Z⟩,Y⟩
     ·rintro⟨W,⟨X,Z⟩,Y⟩;exact⟨⟨W,X,Y⟩,Z⟩
    ·intro x h5 hx;rw [a_ x h5 (by omega)];exact kk x h5 hx
   ·apply ai;simp [g0,g2,g8,L,e0,B,F,E,N,z];apply aq;refine au (.inl rfl) ?_;simp;refine bg (by simp) ?_;refine az (next _ _ ?_ (by simp [ha]) (by simp [hb]));refine⟨by simp [g0],by simp [g2],by simp [g3],by simp [g8],by simp [O],?_,l',U,J.push _,eB.trans hP (eB.none (S:=fun d=>pQ (ps.drop (i+1)) n a s d∧p.cU ∣ d-fh p p.fY[j]) fun d hd=>b6 d ⟨hd.1.2.1,hd.2⟩) c4,?_⟩
    ·rw [AT (by omega)];exact L
    ·intro x h5 hx;rw [AT (by omega)];exact m x h5 hx
  ·rintro t b ⟨g0,g2,g3,g8,O,L,l',U,J,hP,m⟩ - -;rw [ac0]at hP;refine aG (hQ _ _ _ rfl rfl ⟨rfl,l',U,J,hP.iff fun d=>?_,m⟩);rw [b7];unfold pQ;simp only [ac2,forall_eq_or_imp];constructor
   ·rintro⟨W,X,Y,Z⟩;exact⟨⟨W,X,Z⟩,Y⟩
   ·rintro⟨⟨W,X,Z⟩,Y⟩;exact⟨W,X,Y,Z⟩
theorem sT{p:aT}:∀ {l:List aT},p ∈ l→p.cU ∣ dX l
 | q::l,h=>by
  simp only [dX];rcases ac2.1 h with rfl | h
  ·exact ad6 _ _
  ·exact adL (sT h) (aek _ _)
theorem CN{p:aT}{d k:Int}(h:gV p d)(g:p.cU ∣ k):gV p (d-k):=by
 obtain⟨c,b,e⟩:=h;refine⟨c,b,?_⟩;have:=adI e g;rwa [show d-fh p c-k=d-k-fh p c by omega]at this
theorem sB{ps:List aT}(j:∀ p ∈ ps,Mod p){m d:Int}(h:∀ p ∈ ps,gV p d)(u:m≤d):∃ g,m≤g∧g<m+dX ps∧∀ p ∈ ps,gV p g:=by
 have v:=oz j;have l:=ado (d-m) (dX ps);have q:=adm (d-m) (show dX ps≠0 by omega);have s:=ade (d-m) (show 0<dX ps by omega);refine⟨d-dX ps*((d-m) / dX ps),by omega,by omega,fun p b=>CN (h p b) (adL (sT b) (ad6 _ _))⟩
def TH(ps:List aT)(m d:Int):Prop:=m≤d∧(∀ p ∈ ps,gV p d)∧d<m+dX ps∧∀ b,m≤b→(∀ p ∈ ps,gV p b)→d≤b
theorem PR(g:Tg)(ps:List aT)(y:∀ p ∈ ps,Mod p)(M:ps.length≤64)(X:dX ps≤1000000)(n m:Int)(U:m=max n (cz ps))(J:m≤1000000000000) :
  (∃ d,TH ps m d∧cB tab.get 89 [.c (.f (sl g (aQ ps))),vi n]=Eq (.t [vi d,vb ae])) ∨
  ((∀ d,m≤d→¬ ∀ p ∈ ps,gV p d)∧cB tab.get 89 [.c (.f (sl g (aQ ps))),vi n]=Eq (.t [vi 0,vb ag])):=by
 have u:=LW g ps M;have Y:=lv ps;have W:=oz y;obtain⟨v,H',b,rfl,A,S,F,z,-⟩:=Y4 g ps y M m (by omega) J ps.length 0 (by omega) [.box [.f (sl g (aQ ps))] 0,.box [.f (fi m)] 0,.box [.f (fi 1152921504606846976)] 0,.box [.f (.bool ag)] 0,.box [.cl 123 [.ptr 0 0 0,.ptr 4 0 0,.ptr 1 0 0,.ptr 2 0 0,.ptr 3 0 0]] 0]
  1152921504606846976 ag 0 1 ⟨⟨0,rfl⟩,rfl,rfl,rfl,rfl⟩ (by decide) (by decide) (by rw [ady];omega)
 rw [ady]at z;have I:∀ d,pQ ps m 0 1 d↔m≤d∧∀ p ∈ ps,gV p d:=fun d=>⟨fun h=>⟨h.1,h.2.2⟩,fun h=>⟨h.1,Int.one_dvd _,h.2⟩⟩
 have j:max n (cz ps)=m:=U.symm;have b:=b.eq;simp only [show((0:Nat):Int)=0 from rfl]at b;cases S with
 | true=>
  left;have s:pQ ps m 0 1 A:=by
   rcases z.src with⟨_,h⟩ | ⟨_,h⟩
   ·cases h
   ·exact h
  have l:∀ q,m≤q→(∀ p ∈ ps,gV p q)→A≤q:=fun q B E=>(z.low q ((I q).2 ⟨B,E⟩)).1;obtain⟨N,O⟩:=(I A).1 s;obtain⟨x,K,Z,L⟩:=sB y O N;refine⟨A,⟨N,O,by have:=l x K L;omega,l⟩,cB.eq (du rfl rfl fun Q H=>?_)⟩;apply ai;simp;apply ai;simp [u,j];apply ai;simp;apply ai;simp;apply ai;simp;apply ai;simp [bG,b];apply aq;apply ai;simp [F.2.2.2.1];refine bg (by simp) ?_;apply ai;simp [F.2.2.1];refine aG (H _ _ ?_);simp
 | false=>
  right;refine⟨fun d B E=>?_,cB.eq (du rfl rfl fun Q H=>?_)⟩
  ·obtain⟨x,K,Z,L⟩:=sB y E B;have:=(z.low x ((I x).2 ⟨K,L⟩)).2 (by omega);cases this
  ·apply ai;simp;apply ai;simp [u,j];apply ai;simp;apply ai;simp;apply ai;simp;apply ai;simp [bG,b];apply aq;apply ai;simp [F.2.2.2.1];refine an (by simp) ?_;apply ai;simp;refine aG (H _ _ ?_);simp
def vp:List (Int × Int)→List aT→Prop
 | _,[]=>True| ch,p::l=>∃ c ∈ p.fY,(∀ x ∈ ch,(adK p.cU x.2:Int) ∣ fh p c-x.1)∧vp (ch++[(fh p c,p.cU)]) l
theorem Ay{d:Int}:∀(l:List aT) (g:List (Int × Int)),(∀ x ∈ g,x.2 ∣ d-x.1)→(∀ p ∈ l,gV p d)→vp g l
 | [],_,_,_=>trivial
 | p::l,g,m,u=>by
  obtain⟨c,j,s⟩:=u p acK;refine⟨c,j,fun x b=>?_,Ay l _ (fun x b=>?_) fun q z=>u q (acM _ z)⟩
  ·have v:=adL (aeu p.cU x.2) (m x b);have y:=adL (ael p.cU x.2) s;have:=adI v y;rwa [show d-x.1-(d-fh p c)=fh p c-x.1 by omega]at this
  ·rcases acG.1 b with b | b
   ·exact m x b
   ·rw [acF.1 b];exact s
def RH(H:aj)(g:Tg)(ps:List aT)(b:List Int):Prop:=(∃ a,H[0]?=aa (.box [.f (sl g (aQ ps))] a))∧H[1]?=aa (.box (b.map fun x=>C.f (fi x)) 0)∧H[2]?=aa (.box [.sl 1 0 ps.length ps.length 0 1] 0) ∧
 H[3]?=aa (.box [.cl 96 [.ptr 0 0 0,.ptr 2 0 0,.ptr 3 0 0]] 0)
def Cho(ps:List aT)(d:List Int)(b:List (Int × Int)):Prop:=∀ j,(h:j<b.length)→d[j]?=aa b[j].1∧(∃ p,ps[j]?=aa p∧p.cU=b[j].2)∧0≤b[j].1∧b[j].1≤1000
theorem abN(g:Tg)(ps:List aT)(hM:∀ p ∈ ps,Mod p)(n9:ps.length≤64) :
  ∀(k i:Nat),i+k=ps.length→∀(H:aj) (ls:List Int) (m:List (Int × Int)),RH H g ps ls→ls.length=ps.length→m.length=i→Cho ps ls m →
  ∃ v s,Ev tab.get (.fn 96) [vi i,.c (.ptr 0 0 0),.c (.ptr 2 0 0),.c (.ptr 3 0 0)] H v s ∧
   ∃ b,v=vb b∧(b=ae↔vp m (ps.drop i))∧∃ d,RH s g ps d∧d.length=ps.length∧d.take i=ls.take i:=by
 intro k;induction k with
 | zero=>
  intro i hi H ls m hH e_ d7 F;have:i=ps.length:=by omega
  subst this;obtain⟨q,q0⟩:=hH.1;refine dy rfl rfl fun Q hQ=>?_;apply ai;simp;refine v7 ?_;apply aq;apply ai;simp [q0];refine an (by simp) ?_;apply ai;simp;exact aG (hQ _ _ _ rfl (jH (by simp)) ⟨ae,rfl,by rw [aew];simp [vp],ls,hH,e_,rfl⟩)
 | succ k ih=>
  intro i hi H ls m hH e_ d7 F;have A:i<ps.length:=by omega
  obtain⟨p,hp⟩:=bV (ps[i]);have n4:p ∈ ps:=hp▸acE A;have O:=hM p n4;obtain⟨f0,f1,p0,p1,n7,-⟩:=dQ O.ok;have m6:ps.drop i=p::ps.drop (i+1):=by rw [hp];exact acP A
  have Z:=fun H:aj=>dt (H:=H) (bO ps) (dc (l:=ps) (j:=i) A);have z:=fun H:aj=>ic (H:=H) (k:=3) (bO ps) (dc (l:=ps) (j:=i) A) rfl;have X:=fun H:aj=>ic (H:=H) (k:=2) (bO ps) (dc (l:=ps) (j:=i) A) rfl;have I:=fun H:aj=>bW (H:=H) (g:=g) (rows:=aQ ps) (sz:=4) (k:=.i64) (i:=i) (by omega) (by simpa using A);rw [←hp]at Z z X;simp [aT.row]at Z I z X;obtain⟨q,q0⟩:=hH.1;refine dy rfl rfl fun Q hQ=>?_;apply ai;simp;refine v7 ?_;apply aq;apply ai;simp [q0];refine aD (by simp;omega) (aO ?_);refine aq (JS ?_);apply aq;apply ai;simp [q0,I,z];obtain⟨Ok,g_⟩:∃ Ok:Int→Prop,Ok=fun c=>(∀ x ∈ m,(adK p.cU x.2:Int) ∣ fh p c-x.1)∧vp (m++[(fh p c,p.cU)]) (ps.drop (i+1)):=⟨_,rfl⟩
  have S:∀ c,Ok c↔((∀ x ∈ m,(adK p.cU x.2:Int) ∣ fh p c-x.1)∧vp (m++[(fh p c,p.cU)]) (ps.drop (i+1))):=fun c=>by rw [g_]
  have c6:vp m (ps.drop i)↔∃ c ∈ p.fY,Ok c:=by rw [m6,g_];rfl
  refine et p.fY.length (fun j t s=>t.g 0=vi i∧t.g 1=.c (.ptr 0 0 0)∧t.g 2=.c (.ptr 2 0 0)∧t.g 3=.c (.ptr 3 0 0)∧t.g 18=.c (.f (sl p.cg (ints p.fY))) ∧
   (∀ c ∈ p.fY.take j,¬ Ok c)∧∃ d,RH s g ps d∧d.length=ps.length∧d.take i=ls.take i) (by omega) (by decide) (by decide) (by simp) (by simp) ⟨by simp,by simp,by simp,by simp,by simp,by simp,ls,hH,e_,rfl⟩ ?_ ?_
  ·rintro j t s hj ⟨N,g1,g2,g3,u,c4,d,hR,K,L⟩ ha hb next
   have hm:=pw O (acE hj);obtain⟨l_,n6,-⟩:=nu O hm.1 hm.2;have Y:=qR p O p.fY[j] hm.1 hm.2;simp [aT.row]at Y;have n_:=O.ZU;have l8:p.fY.take (j+1)=p.fY.take j++[p.fY[j]]:=by rw [acW,By hj];rfl
   have c8:¬ Ok p.fY[j]→∀ c ∈ p.fY.take (j+1),¬ Ok c:=by
    intro h c hc;rw [l8,acG,acF]at hc;rcases hc with hc | rfl
    ·exact c4 c hc
    ·exact h
   obtain⟨r,hr⟩:=bV (fh p p.fY[j]);rw [←hr]at l_ n6 Y;obtain⟨q',f9⟩:=hR.1;have a8:=hR.2.1;have f_:=hR.2.2.1;have n5:=hR.2.2.2;have c7:∀ j,(h:j<m.length)→d[j]?=aa m[j].1:=fun j h=>by
    have h1:(d.take i)[j]?=d[j]?:=List.getElem?_take_of_lt (by omega);have h2:(ls.take i)[j]?=ls[j]?:=List.getElem?_take_of_lt (by omega);rw [←h1,L,h2];exact(F j h).1
   refine aB ?_;apply ai;simp [ha,u,bW,hj,kB];apply ai;simp [N,g1,f9,I,Z,Y];apply aq;apply ai;simp [N];refine et i (fun n t H2=>(t.g 0=vi i∧t.g 1=.c (.ptr 0 0 0)∧t.g 2=.c (.ptr 2 0 0)∧t.g 3=.c (.ptr 3 0 0)∧t.g 18=.c (.f (sl p.cg (ints p.fY)))∧t.g 20=vi j∧t.g 19=vi p.fY.length∧t.g 8=vi r)∧H2=s∧∀ x ∈ m.take n,(adK p.cU x.2:Int) ∣ r-x.1)
    (by omega) (by decide) (by decide) (by simp) (by simp) ⟨⟨by simp [N],by simp [g1],by simp [g2],by simp [g3],by simp [u],by simp [ha],by simp [hb],by simp⟩,rfl,by simp⟩ ?_ ?_
   ·rintro n t H2 hn ⟨⟨N,g1,g2,g3,u,b6,a_,g8⟩,d5,E⟩ i_ m5 nx;rw [d5];have b_:n<ps.length:=by omega
    have b9:n<m.length:=by omega
    obtain⟨-,⟨pn,k_,f4⟩,x0,x1⟩:=F n b9;have d_:=c7 n b9;obtain⟨x,hx⟩:=bV (m[n]);rw [←hx]at d_ f4 x0 x1;have c9:ps[n]=pn:=by rw [By b_]at k_;exact adz k_
    have m4:=hM pn (c9▸acE b_);obtain⟨-,-,z0,z1,-⟩:=dQ m4.ok;rw [f4]at z0 z1;have B:=fun H:aj=>ic (H:=H) (k:=2) (bO ps) (dc (l:=ps) (j:=n) b_) rfl;have U:=fun H:aj=>bW (H:=H) (g:=g) (rows:=aQ ps) (sz:=4) (k:=.i64) (i:=n) (by omega) (by simpa using b_);rw [c9]at B;simp [aT.row,f4]at B U;have W:a6 s 1 ab (.c (.sl 1 0 ps.length ps.length 0 1)) (vi n)=aa (.c (.ptr 1 n 0)):=by
     simp [a6,fK,a8,K];omega
    have j8:dz s ab (.c (.ptr 1 n 0))=aa (vi x.1):=by
     have hd:(d.map fun y=>C.f (fi y)).drop n=C.f (fi x.1) ::(d.map fun y=>C.f (fi y)).drop (n+1):=by
      rw [acP (by simp;omega),aex];rw [By (by omega)]at d_;rw [adz d_]
     simp only [dz,bo,a8,Option.bind_some];rw [hd];rfl
    have m_:dz s ab (.c (.ptr 2 0 0))=aa (.c (.sl 1 0 ps.length ps.length 0 1)):=by simp [f_]
    have m9:dz s ab (.c (.ptr 0 0 0))=aa (.c (.f (sl g (aQ ps)))):=by simp [f9]
    obtain⟨gg,d9⟩:=bV ((adK p.cU x.2:Int):Int);have m7:adK p.cU x.2=aei p.cU.toNat x.2.toNat:=by
     show aei p.cU.natAbs x.2.natAbs=_;rw [show p.cU.natAbs=p.cU.toNat by omega,show x.2.natAbs=x.2.toNat by omega]
    have n8:0<gg:=by
     have:=ad9 x.2 (show p.cU≠0 by omega);omega
    have j4:cB tab.get 98 [vi p.cU,vi x.2]=Eq (vi gg):=by
     have h:=JK (a:=p.cU.toNat) (b:=x.2.toNat) (by omega) (by omega);rw [show((p.cU.toNat:Nat):Int)=p.cU by omega,show((x.2.toNat:Nat):Int)=x.2 by omega,←m7,←d9]at h;exact h
    have m3:=aK (n:=r-x.1);have l7:bt .rem (vi (r-x.1)) (vi gg)=aa (vi ((r-x.1).tmod gg)):=fA (by omega);have J:m.take (n+1)=m.take n++[x]:=by rw [acW,By b9,hx];rfl
    refine aB ?_;apply ai;simp [i_];apply ai;simp [N,g1,g2,g8,m9,m_,W,j8,I,X,U,B,j4,m3,l7,-aP];by_cases hd:gg ∣ r-x.1
    ·have f7:(r-x.1).tmod gg=0:=Int.tmod_eq_zero_of_dvd hd;refine bg (by simp [f7]) ?_;refine az (nx _ _ ?_ (by simp [i_]) (by simp [m5]));refine⟨⟨by simp [N],by simp [g1],by simp [g2],by simp [g3],by simp [u],by simp [b6],by simp [a_],by simp [g8]⟩,rfl,fun y hy=>?_⟩;rw [J,acG,acF]at hy;rcases hy with hy | rfl
     ·exact E y hy
     ·rw [←d9];exact hd
    ·have f7:¬ (r-x.1).tmod gg=0:=fun e=>hd (Int.dvd_of_tmod_eq_zero e);refine an (by simp [f7]) ?_;refine ba rfl (next _ _ ?_ (by simp [b6]) (by simp [a_]));refine⟨by simp [N],by simp [g1],by simp [g2],by simp [g3],by simp [u],c8 ?_,d,hR,K,L⟩;rw [S];rintro⟨h,-⟩;have:=h x (hx▸acE b9);rw [←d9,←hr]at this;exact hd this
   ·rintro t H2 ⟨⟨N,g1,g2,g3,u,b6,a_,g8⟩,d5,E⟩ - -;rw [d5];rw [acS (by omega)]at E;have W:a6 s 1 ab (.c (.sl 1 0 ps.length ps.length 0 1)) (vi i)=aa (.c (.ptr 1 i 0)):=by
     simp [a6,fK,a8,K];omega
    have c_:gD s (.ptr 1 i 0) [.f (fi r)]=aa (s.set 1 (.box ((d.set i r).map fun y=>C.f (fi y)) 0)):=by
     simp only [gD,a8];rw [bf (by simp;omega),wA (by simp;omega),List.map_set]
    have j_:(s.set 1 (.box ((d.set i r).map fun y=>C.f (fi y)) 0))[3]?=s[3]?:=AI (by decide);have j9:=av a8;have d6:RH (s.set 1 (.box ((d.set i r).map fun y=>C.f (fi y)) 0)) g ps (d.set i r):=by
     refine⟨⟨q',?_⟩,OF j9,?_,?_⟩
     ·rw [AI (by decide)];exact f9
     ·rw [AI (by decide)];exact f_
     ·rw [j_];exact n5
    have d8:Cho ps (d.set i r) (m++[(r,p.cU)]):=by
     intro y hy;rw [acZ,List.length_singleton]at hy;by_cases f8:y<m.length
     ·rw [List.getElem_append_left f8,AI (by omega)];obtain⟨-,h2,h3⟩:=F y f8;exact⟨c7 y f8,h2,h3⟩
     ·have:y=i:=by omega
      subst this;rw [List.getElem_append_right (by omega)];simp only [d7,Nat.sub_self,List.getElem_cons_zero];refine⟨by rw [OF (by omega)],⟨p,by rw [By A,hp],rfl⟩,l_,by omega⟩
    obtain⟨v,H3,b7,b,rfl,j3,M,h_,j7,J⟩:=ih (i+1) (by omega) _ _ (m++[(r,p.cU)]) d6 (by simpa using K) (by simp [d7]) d8;have b7:=b7.eq;have l9:=d6.2.2.2;generalize s.set 1 (.box ((d.set i r).map fun y=>C.f (fi y)) 0)=HN at c_ b7 l9 j_ d6;have m8:IntKind.i64.wrap ((i:Int)+1)=((i+1:Nat):Int):=by rw [aK];rfl
    apply ai;simp [N,g2,g8,f_,W,c_,-bZ];apply ai;simp [N,g3,l9,m8,bG];rw [show(↑i+1:Int)=((i+1:Nat):Int) from rfl];simp only [b7];simp;cases b with
    | true=>
     refine an (by simp) ?_;apply ai;simp;refine aG (hQ _ _ _ rfl (jH (by simp)) ⟨ae,rfl,?_,M,h_,j7,?_⟩)
     ·rw [c6];refine⟨fun _=>⟨_,acE hj,?_⟩,fun _=>rfl⟩;rw [S,←hr];exact⟨E,j3.1 rfl⟩
     ·have h1:(M.take (i+1)).take i=M.take i:=by rw [ad7,adQ (by omega)]
      rw [←h1,J,ad7,adQ (by omega),List.take_set_of_le (by omega),L]
    | false=>
     refine bg (by simp) ?_;refine az (next _ _ ?_ (by simp [b6]) (by simp [a_]));refine⟨by simp [N],by simp [g1],by simp [g2],by simp [g3],by simp [u],c8 ?_,M,h_,j7,?_⟩
     ·rw [S,←hr];rintro⟨-,h⟩;have:=j3.2 h;cases this
     ·have h1:(M.take (i+1)).take i=M.take i:=by rw [ad7,adQ (by omega)]
      rw [←h1,J,ad7,adQ (by omega),List.take_set_of_le (by omega),L]
  ·rintro t s ⟨N,g1,g2,g3,u,c4,d,hR,K,L⟩ - -;rw [ac0]at c4;apply ai;simp;refine aG (hQ _ _ _ rfl (jH (by simp)) ⟨ag,rfl,?_,d,hR,K,L⟩);rw [c6];constructor
   ·intro h;cases h
   ·rintro⟨c,hc,h⟩;exact absurd h (c4 c hc)
theorem hO{n b:Nat}(g:n≤1100000)(d:b≤4096):bB n b=ae:=by
 have h:(2*n+768)*b≤2200768*4096:=Nat.mul_le_mul (by omega) d;simp [bB];omega
theorem DI(g:Tg)(ps:List aT)(u:∀ p ∈ ps,Mod p)(z:1≤ps.length)(y:ps.length≤64):∃ b,(b=ae↔vp [] ps)∧cB tab.get 63 [.c (.f (sl g (aQ ps)))]=Eq (vb b):=by
 have m:RH [.box [.f (sl g (aQ ps))] 0,.box (List.replicate ps.length (C.f (fi 0))) 0,.box [.sl 1 0 ps.length ps.length 0 1] 0,.box [.cl 96 [.ptr 0 0 0,.ptr 2 0 0,.ptr 3 0 0]] 0] g ps (List.replicate ps.length 0):=by
  refine⟨⟨0,rfl⟩,?_,rfl,rfl⟩;simp
 obtain⟨v,A,d,b,rfl,s,-⟩:=abN g ps u y ps.length 0 (by omega) _ _ [] m (by simp) rfl (fun j h=>absurd h (Nat.not_lt_zero j));rw [ady]at s;have d:=d.eq;simp only [show((0:Nat):Int)=0 from rfl]at d;refine⟨b,s,cB.eq (du rfl rfl fun Q x=>?_)⟩;apply ai;simp;have l:bB ps.length 8=ae:=hO (by omega) (by decide);have q:∀(t:T) (H:aj),t.g 6=vi ps.length→aW t H (.dh 1 8 [.int .i64 0] (R 6) (R 6))=aa (.c (.sl H.length 0 ps.length ps.length 0 1),H++[.box (List.replicate ps.length (C.f (fi 0))) 0]):=by
  intro t H h;have e:(bX ps.length [fi 0]).map C.f=List.replicate ps.length (C.f (fi 0)):=by simp [bX]
  simp only [aW,O7,h,fK];rw [bf ⟨by omega,Int.le_refl _,by simpa using l,rfl⟩];rw [aU (by omega),adq,e]
 apply ai;simp [q];apply ai;simp;apply ai;simp;apply ai;simp [bG,d];refine aG (x _ _ ?_);simp
def eA(S:Int→Prop)(l:Int)(f:Bool):Prop:=(f=ag∧l=0∧∀ d,¬ S d)∨(f=ae∧S l∧∀ d,S d→l≤d)
theorem eA.iff{S S':Int→Prop}{l:Int}{f:Bool}(h:eA S l f)(g:∀ d,S' d↔S d):eA S' l f:=by
 rcases h with⟨a,b,c⟩ | ⟨a,b,c⟩
 ·exact .inl ⟨a,b,fun d j=>c d ((g d).1 j)⟩
 ·exact .inr ⟨a,(g _).2 b,fun d j=>c d ((g d).1 j)⟩
theorem eA.step{S S':Int→Prop}{l x:Int}{f:Bool}(h:eA S l f)(g:∀ d,S' d↔S d∨d=x):eA S' (if f=ag∨x<l then x else l) ae:=by
 right;rcases h with⟨rfl,rfl,c⟩ | ⟨rfl,b,c⟩
 ·refine⟨rfl,by simpa using (g x).2 (.inr rfl),fun d j=>?_⟩;rcases(g d).1 j with h | rfl
  ·exact absurd h (c d)
  ·simp
 ·refine⟨rfl,?_,fun d j=>?_⟩
  ·by_cases k:x<l
   ·simpa [k]using (g x).2 (.inr rfl)
   ·simpa [k]using (g l).2 (.inl b)
  ·rcases(g d).1 j with h | rfl
   ·have:=c d h;by_cases k:x<l<;>simp [k]<;>omega
   ·by_cases k:d<l<;>simp [k];omega
def jk(ps:List aT)(n:Int)(l:List aT)(d:Int):Prop:=n≤d∧xi ps d=ae∧∃ p ∈ l,d ∈ p.head
theorem JC(g:Tg)(ps:List aT)(hP:∀ p ∈ ps,eV p=ae)(hl:ps.length≤64)(n:Int):∃ e f,eA (jk ps n ps) e f∧cB tab.get 88 [.c (.f (sl g (aQ ps))),vi n]=Eq (.t [vi e,vb f]):=by
 have key:∃ r,(∃ e f,eA (jk ps n ps) e f∧r=.t [vi e,vb f])∧cB tab.get 88 [.c (.f (sl g (aQ ps))),vi n] r:=by
  refine gZ rfl rfl fun Q hQ=>?_;apply ai;simp;apply ai;simp;apply aq;apply ai;simp;refine et ps.length (fun j t H'=>t.g 0=.c (.f (sl g (aQ ps)))∧t.g 1=vi n∧t.g 12=.c (.f (sl g (aQ ps)))∧∃ e f,t.g 6=vi e∧t.g 7=vb f∧eA (jk ps n (ps.take j)) e f) (by omega) (by decide) (by decide) (by simp) (by simp)
   ⟨by simp,by simp,by simp,0,ag,by simp,by simp,.inl ⟨rfl,rfl,fun d hd=>by obtain⟨_,_,p,hp,_⟩:=hd;simp at hp⟩⟩ ?_ ?_
  ·rintro j t H hj ⟨s,u,b,e,f,B,E,N⟩ ha hb next
   obtain⟨p,hp⟩:=bV (ps[j]);have b7:p ∈ ps:=hp▸acE hj;obtain⟨f0,f1,p0,p1,d5,-,a_,-⟩:=dQ (hP p b7);have O:=fun H:aj=>dt (H:=H) (bO ps) (dc (l:=ps) (j:=j) hj);have W:=fun H:aj=>bW (H:=H) (g:=g) (rows:=aQ ps) (sz:=4) (k:=.i64) (i:=j) (by omega) (by simpa using hj);rw [←hp]at O;simp [aT.row]at O W;have b9:ps.take (j+1)=ps.take j++[p]:=by rw [acW,By hj,hp];rfl
   refine aB ?_;apply ai;simp [b,ha,W,O];apply ai;simp;refine et p.head.length (fun i t H'=>t.g 0=.c (.f (sl g (aQ ps)))∧t.g 1=vi n∧t.g 12=.c (.f (sl g (aQ ps)))∧t.g 14=vi j∧t.g 13=vi ps.length∧t.g 19=.c (.f (sl p.hg (ints p.head))) ∧
    ∃ e f,t.g 6=vi e∧t.g 7=vb f∧eA (fun d=>jk ps n (ps.take j) d∨(n≤d∧xi ps d=ae∧d ∈ p.head.take i)) e f) (by omega) (by decide) (by decide) (by simp) (by simp)
    ⟨by simp [s],by simp [u],by simp [b],by simp [ha],by simp [hb],by simp,e,f,by simp [B],by simp [E],N.iff fun d=>by simp⟩ ?_ ?_
   ·rintro i t H hi ⟨s,u,b,y,v,z,e,f,B,E,N⟩ K M nx;obtain⟨x,hx⟩:=bV (p.head[i]);have b_:x ∈ p.head:=hx▸acE hi;have d6:=a_ x b_;have a8:=fun H:aj=>kB (H:=H) hi;rw [←hx]at a8;have A:=(YY g ps (by omega) hP x (by unfold Day;omega)).eq;have X:p.head.take (i+1)=p.head.take i++[x]:=by rw [acW,By hi,hx];rfl
    refine aB ?_;apply ai;simp [K,z,bW,hi,a8];have cC:¬ (n≤x∧xi ps x=ae)→eA (fun d=>jk ps n (ps.take j) d∨(n≤d∧xi ps d=ae∧d ∈ p.head.take (i+1))) e f:=fun b6=>N.iff fun d=>by
     rw [X,acG,acF];constructor
     ·rintro(h | ⟨F,I,J | rfl⟩)
      ·exact .inl h
      ·exact .inr ⟨F,I,J⟩
      ·exact absurd ⟨F,I⟩ b6
     ·rintro(h | ⟨F,I,J⟩)
      ·exact .inl h
      ·exact .inr ⟨F,I,.inl J⟩
    have S:(n≤x∧xi ps x=ae)→eA (fun d=>jk ps n (ps.take j) d∨(n≤d∧xi ps d=ae∧d ∈ p.head.take (i+1))) (if f=ag∨x<e then x else e) ae:=fun Y=>N.step fun d=>by
     rw [X,acG,acF];constructor
     ·rintro(h | ⟨F,I,J | rfl⟩)
      ·exact .inl (.inl h)
      ·exact .inl (.inr ⟨F,I,J⟩)
      ·exact .inr rfl
     ·rintro((h | ⟨F,I,J⟩) | rfl)
      ·exact .inl h
      ·exact .inr ⟨F,I,.inl J⟩
      ·exact .inr ⟨Y.1,Y.2,.inr rfl⟩
    have L:∀(t:T) (H:aj) (e':Int) (f':Bool),t.g 0=.c (.f (sl g (aQ ps)))→t.g 1=vi n→t.g 12=.c (.f (sl g (aQ ps)))→t.g 14=vi j→t.g 13=vi ps.length→t.g 19=.c (.f (sl p.hg (ints p.head)))→t.g 21=vi i→t.g 20=vi p.head.length→t.g 6=vi e'→t.g 7=vb f'→eA (fun d=>jk ps n (ps.take j) d∨(n≤d∧xi ps d=ae∧d ∈ p.head.take (i+1))) e' f' →
      WP tab.get 88 ab [.code vf,.inLoop ve,.inBlock 2,.inBlock 1,.code vg,.inLoop zA,.inBlock 0,.code vh] ⟨t,[],H⟩ Q:=by
     intro t H e' f' q0 q1 c4 c7 c6 c8 c_ c9 q6 q7 qm;refine nx _ _ ?_ c_ c9;exact⟨by simp [q0],by simp [q1],by simp [c4],by simp [c7],by simp [c6],by simp [c8],e',f',by simp [q6],by simp [q7],qm⟩
    by_cases U:n≤x
    ·cases f with
     | false=>
      cases m:xi ps x with
      | false=>
       rw [m]at A;apply ai;simp [s,u,B,E,U,A];refine aD (by simp) (aO (az ?_));exact L _ _ e ag (by simp [s]) (by simp [u]) (by simp [b]) (by simp [y]) (by simp [v]) (by simp [z]) (by simp [K]) (by simp [M]) (by simp [B]) (by simp [E]) (cC (by simp [m]))
      | true=>
       rw [m]at A;apply ai;simp [s,u,B,E,U,A];refine an (by simp) (au (.inl rfl) ?_);simp;refine az ?_;exact L _ _ x ae (by simp [s]) (by simp [u]) (by simp [b]) (by simp [y]) (by simp [v]) (by simp [z]) (by simp [K]) (by simp [M]) (by simp) (by simp) (by have:=S ⟨U,m⟩;simpa using this)
     | true=>
      by_cases c2:x<e
      ·cases m:xi ps x with
       | false=>
        rw [m]at A;apply ai;simp [s,u,B,E,U,c2,A];refine aD (by simp) (aO (az ?_));exact L _ _ e ae (by simp [s]) (by simp [u]) (by simp [b]) (by simp [y]) (by simp [v]) (by simp [z]) (by simp [K]) (by simp [M]) (by simp [B]) (by simp [E]) (cC (by simp [m]))
       | true=>
        rw [m]at A;apply ai;simp [s,u,B,E,U,c2,A];refine an (by simp) (au (.inl rfl) ?_);simp;refine az ?_;exact L _ _ x ae (by simp [s]) (by simp [u]) (by simp [b]) (by simp [y]) (by simp [v]) (by simp [z]) (by simp [K]) (by simp [M]) (by simp) (by simp) (by have:=S ⟨U,m⟩;simpa [c2]using this)
      ·apply ai;simp [s,u,B,E,U,c2];refine aD (by simp) (aO (az ?_));refine L _ _ e ae (by simp [s]) (by simp [u]) (by simp [b]) (by simp [y]) (by simp [v]) (by simp [z]) (by simp [K]) (by simp [M]) (by simp [B]) (by simp [E]) ?_;cases m:xi ps x with
       | false=>exact cC (by simp [m])
       | true=>have:=S ⟨U,m⟩;simpa [c2]using this
    ·apply ai;simp [s,u,B,E,U];refine aD (by simp) (aO (az ?_));exact L _ _ e f (by simp [s]) (by simp [u]) (by simp [b]) (by simp [y]) (by simp [v]) (by simp [z]) (by simp [K]) (by simp [M]) (by simp [B]) (by simp [E]) (cC fun h=>U h.1)
   ·rintro t H ⟨s,u,b,y,v,z,e,f,B,E,N⟩ - -;rw [ac0]at N;refine az (next _ _ ?_ (by simp [y]) (by simp [v]));refine⟨by simp [s],by simp [u],by simp [b],e,f,by simp [B],by simp [E],N.iff fun d=>?_⟩;unfold jk;rw [b9];constructor
    ·rintro⟨F,I,q,Z,J⟩;rcases acG.1 Z with Z | Z
     ·exact .inl ⟨F,I,q,Z,J⟩
     ·rw [acF.1 Z]at J;exact .inr ⟨F,I,J⟩
    ·rintro(⟨F,I,q,Z,J⟩ | ⟨F,I,J⟩)
     ·exact⟨F,I,q,adj _ Z,J⟩
     ·exact⟨F,I,p,adE _ (acF.2 rfl),J⟩
  ·rintro t H ⟨s,u,b,e,f,B,E,N⟩ ha hb;rw [ac0]at N;apply ai;simp [B,E];refine aG (hQ _ _ _ ⟨e,f,N,rfl⟩ ?_);simp
 obtain⟨r,⟨e,f,N,rfl⟩,h⟩:=key;exact⟨e,f,N,h.eq⟩
structure mz(ps:List aT):Prop where
 l1:1≤ps.length
 l2:ps.length≤64
 mod:∀ p ∈ ps,Mod p
 prod:dX ps≤1000000
 st:cz ps≤1000000000000
theorem mz.cU{ps:List aT}(h:mz ps):∀ p ∈ ps,eV p=ae:=fun p b=>(h.mod p b).ok
def O5(ps:List aT)(n x:Int):Prop:=n≤x∧xi ps x=ae
theorem z4{ps:List aT}{x:Int}(b:0≤x):xi ps x=ae↔∀ p ∈ ps,tV p x=ae:=by
 simp [xi,hasB,b]
theorem s7{x:Int}:∀ {l:List aT},0≤x→x<cz l→∃ p ∈ l,x<p.fr
 | [],b,h=>by simp only [cz]at h;omega
 | q::l,b,h=>by
  simp only [cz]at h;by_cases k:x<q.fr
  ·exact⟨q,acK,k⟩
  ·obtain⟨p,d,e⟩:=s7 (x:=x) (l:=l) b (by omega);exact⟨p,acM _ d,e⟩
theorem vX{ps:List aT}(h:mz ps){n x:Int}(l:0≤n)(m:cz ps≤x):O5 ps n x↔max n (cz ps)≤x∧∀ p ∈ ps,gV p x:=by
 have j:=lv ps;unfold O5;rw [z4 (by omega)];constructor
 ·rintro⟨g,d⟩;exact⟨by omega,fun p b=>(wk (h.mod p b) (by have:=lu b;omega)).1 (d p b)⟩
 ·rintro⟨g,d⟩;exact⟨by omega,fun p b=>(wk (h.mod p b) (by have:=lu b;omega)).2 (d p b)⟩
theorem RY(g:Tg)(ps:List aT)(h:mz ps)(n:Int)(J:0≤n)(W:n≤1000000000000):∃ d f q z,eA (O5 ps n) d f∧(0≤d∧d≤1000001000000) ∧
  cB tab.get 88 [.c (.f (sl g (aQ ps))),vi n]=Eq (.t [vi q,vb z]) ∧
  ((z=ae∧d=q∧f=ae)∨(z=ag∧q=0∧∃ b,cB tab.get 63 [.c (.f (sl g (aQ ps)))]=Eq (vb b)∧((b=ag∧d=0∧f=ag)∨(b=ae∧cB tab.get 89 [.c (.f (sl g (aQ ps))),vi n]=Eq (.t [vi d,vb f]))))):=by
 obtain⟨q,z,U,A⟩:=JC g ps h.cU h.l2 n;have Y:=lv ps;have Z:=h.st;have X:=h.prod;have u:∀ x,O5 ps n x→x<cz ps→jk ps n ps x:=by
  rintro x ⟨N,H⟩ l;obtain⟨p,y,S⟩:=s7 (by omega) l;refine⟨N,H,p,y,?_⟩;have:=(z4 (by omega)).1 H p y;unfold tV at this;rw [aU (by omega),decide_eq_true_eq]at this;exact this
 rcases U with⟨rfl,rfl,F⟩ | ⟨rfl,O,v⟩
 ·have B:∀ x,O5 ps n x→cz ps≤x:=fun x l=>by
   rcases adA x (cz ps)with k | k
   ·exact absurd (u x l k) (F x)
   ·exact k
  have j:∀ x,O5 ps n x↔max n (cz ps)≤x∧∀ p ∈ ps,gV p x:=fun x=>by
   constructor
   ·intro l;exact(vX h J (B x l)).1 l
   ·intro l;exact(vX h J (by omega)).2 l
  obtain⟨b,I,m⟩:=DI g ps h.mod h.l1 h.l2;cases b with
  | false=>
   refine⟨0,ag,0,ag,.inl ⟨rfl,rfl,fun x l=>?_⟩,⟨by omega,by omega⟩,A,.inr ⟨rfl,rfl,ag,m,.inl ⟨rfl,rfl,rfl⟩⟩⟩;have:=I.2 (Ay (d:=x) ps [] (by simp) ((j x).1 l).2);cases this
  | true=>
   rcases PR g ps h.mod h.l2 h.prod n _ rfl (by omega)with⟨d,⟨K,L,d3,M⟩,E⟩ | ⟨s,E⟩
   ·exact⟨d,ae,0,ag,.inr ⟨rfl,(j d).2 ⟨K,L⟩,fun x l=>M x ((j x).1 l).1 ((j x).1 l).2⟩,⟨by omega,by omega⟩,A,.inr ⟨rfl,rfl,ae,m,.inr ⟨rfl,E⟩⟩⟩
   ·exact⟨0,ag,0,ag,.inl ⟨rfl,rfl,fun x l=>s x ((j x).1 l).1 ((j x).1 l).2⟩,⟨by omega,by omega⟩,A,.inr ⟨rfl,rfl,ae,m,.inr ⟨rfl,E⟩⟩⟩
 ·obtain⟨s1,s2,p,y,Q⟩:=O;have I:=(dQ (h.cU p y)).2.2.2.2.2.2.1 q Q;have:=lu y;refine⟨q,ae,q,ae,.inr ⟨rfl,⟨s1,s2⟩,fun x l=>?_⟩,⟨by omega,by omega⟩,A,.inl ⟨rfl,rfl,rfl⟩⟩;rcases adA x (cz ps)with k | k
  ·exact v x (u x l k)
  ·omega
theorem eA.join{S q s:Int→Prop}{l x:Int}{f m:Bool}(u:eA q l f)(v:eA s x m)(g:∀ d,S d↔q d∨s d):eA S (if m=ae∧(f=ag∨x<l)then x else l) (f||m):=by
 rcases u with⟨rfl,rfl,a⟩ | ⟨rfl,a,b⟩<;>rcases v with⟨rfl,rfl,c⟩ | ⟨rfl,c,e⟩
 ·refine .inl ⟨rfl,by simp,fun d j=>?_⟩;rcases(g d).1 j with h | h
  ·exact a d h
  ·exact c d h
 ·refine .inr ⟨rfl,by simpa using (g x).2 (.inr c),fun d j=>?_⟩;rcases(g d).1 j with h | h
  ·exact absurd h (a d)
  ·simpa using e d h
 ·refine .inr ⟨rfl,by simpa using (g l).2 (.inl a),fun d j=>?_⟩;rcases(g d).1 j with h | h
  ·simpa using b d h
  ·exact absurd h (c d)
 ·refine .inr ⟨rfl,?_,fun d j=>?_⟩
  ·by_cases k:x<l
   ·simpa [k]using (g x).2 (.inr c)
   ·simpa [k]using (g l).2 (.inl a)
  ·rcases(g d).1 j with h | h
   ·have:=b d h;by_cases k:x<l<;>simp [k]<;>omega
   ·have:=e d h;by_cases k:x<l<;>simp [k]<;>omega
def QH(H:aj)(n b:Int)(found:Bool):Prop:=H[0]?=aa (.box [.f (fi n)] 0)∧H[1]?=aa (.box [.f (fi b)] 0)∧H[2]?=aa (.box [.f (.bool found)] 0)∧H[3]?=aa (.fk ae) ∧
 ∃ s:T,H[4]?=aa (.lp 56 s [P.nat 12] de cE .ready ab 3)∧s.g 3=.c (.ptr 0 0 0)∧s.g 6=.c (.ptr 1 0 0)∧s.g 7=.c (.ptr 2 0 0)
theorem v9(g:Tg)(ps:List aT)(h:mz ps)(n:Int)(hn:0≤n)(a8:n≤1000000000000):∃ d f,eA (O5 ps n) d f∧(0≤d∧d≤1000001000000)∧∀ H j found,QH H n j found →
  ∃ r H',Ev tab.get (.yield 4) [.c (.f (sl g (aQ ps)))] H r H'∧(r=vb ae∧QH H' n (if f=ae∧(found=ag∨d<j)then d else j) (found||f)):=by
 obtain⟨d,f,e0,f0,hm,hd,he,X⟩:=RY g ps h n hn a8;refine⟨d,f,hm,hd,?_⟩;rintro H j found ⟨h0,h1,h2,h3,s,W,v,I,J⟩;refine kr (tab:=tab.get) (b:=4) W rfl fun U K=>?_;have Z:=av W;have B:∀(t:T) (l:aj),l[0]?=aa (.box [.f (fi n)] 0)→l[1]?=aa (.box [.f (fi j)] 0)→l[2]?=aa (.box [.f (.bool found)] 0)→l[3]?=aa (.fk ae)→l[4]?=aa (.lp 56 s [P.nat 12] de cE .busy ab 3) →
   t.g 3=.c (.ptr 0 0 0)→t.g 6=.c (.ptr 1 0 0)→t.g 7=.c (.ptr 2 0 0)→t.g 9=vi d→t.g 10=vb f→WP tab.get 56 (aa 4) [.code vk,.inBlock 1] ⟨t,[],l⟩ U:=by
  rintro t l q0 M A q3 S e3 E y F u;have l1:=av M;have l2:=av A;have cC:(f=ae∧(found=ag∨d<j)→False)→QH (l.set 4 (.lp 56 s [P.nat 12] de cE .ready ab 3)) n (if f=ae∧(found=ag∨d<j)then d else j) (found||f):=by
   intro x;have Y:(found||f)=found:=by
    cases f<;>cases found<;>simp at x ⊢
   rw [aU x,Y];exact⟨by rw [AI (by decide)];exact q0,by rw [AI (by decide)];exact M,by rw [AI (by decide)];exact A,by rw [AI (by decide)];exact q3,s,OF (av S),v,I,J⟩
  have a_:(l.set 1 (.box [.f (fi d)] 0))[2]?=aa (.box [.f (.bool found)] 0):=by rw [AI (by decide)];exact A
  have L:(f=ae∧(found=ag∨d<j))→QH (((l.set 1 (.box [.f (fi d)] 0)).set 2 (.box [.f (.bool ae)] 0)).set 4 (.lp 56 s [P.nat 12] de cE .ready ab 3)) n (if f=ae∧(found=ag∨d<j)then d else j) (found||f):=by
   intro m;have Y:(found||f)=ae:=by rw [m.1];simp
   rw [bf m,Y];refine⟨?_,?_,?_,?_,s,OF (by simp;exact av S),v,I,J⟩
   ·rw [AI (by decide),AI (by decide),AI (by decide)];exact q0
   ·rw [AI (by decide),AI (by decide),OF l1]
   ·rw [AI (by decide),OF (by simpa using l2)]
   ·rw [AI (by decide),AI (by decide),AI (by decide)];exact q3
  have done:∀ t2:T,(f=ae∧(found=ag∨d<j)→False)→WP tab.get 56 (aa 4) [.inBlock 1] ⟨t2,[],l⟩ U:=by
   intro t2 x;refine az (eu (K _ _ _ _ _ _ _ _ _ _ rfl S ⟨rfl,?_⟩));have:=cC x;rw [show(l.set 4 (.lp 56 s [P.nat 12] de cE .ready ab 3))=l.set 4 (.lp 56 s [P.nat 12] de cE (if(ab:Option ak).isNone=ae then .ready else .done) ab 3) from rfl]at this;exact this
  have q:∀ t2:T,t2.g 6=.c (.ptr 1 0 0)→t2.g 7=.c (.ptr 2 0 0)→t2.g 9=vi d→(f=ae∧(found=ag∨d<j))→WP tab.get 56 (aa 4) [.code vl,.inBlock 1] ⟨t2,[],l⟩ U:=by
   intro t2 E y F m;refine au (.inr rfl) ?_;simp [E,y,F,M,A,a_];refine az (eu (K _ _ _ _ _ _ _ _ _ _ rfl (by rw [AI (by decide),AI (by decide)];exact S) ⟨rfl,?_⟩));exact L m
  apply aq;cases f with
  | false=>
   refine au (.inr rfl) ?_;simp [y,u,A];refine aD (by simp) (aO (done _ (by simp)))
  | true=>
   cases found with
   | false=>
    refine au (.inr rfl) ?_;simp [y,u,A];refine an (by simp) (q _ (by simp [E]) (by simp [y]) (by simp [F]) (by simp))
   | true=>
    by_cases k:d<j
    ·refine au (.inr rfl) ?_;simp [E,y,F,u,M,A,k];refine an (by simp) (q _ (by simp [E]) (by simp [y]) (by simp [F]) (by simp [k]))
    ·refine au (.inr rfl) ?_;simp [E,y,F,u,M,A,k];refine aD (by simp) (aO (done _ (by simp [k])))
 refine au (.inr rfl) ?_;simp;refine tN W ?_;have b0:(H.set 4 (.lp 56 s [P.nat 12] de cE .busy ab 3))[0]?=aa (.box [.f (fi n)] 0):=by rw [AI (by decide)];exact h0
 have b1:(H.set 4 (.lp 56 s [P.nat 12] de cE .busy ab 3))[1]?=aa (.box [.f (fi j)] 0):=by rw [AI (by decide)];exact h1
 have N:(H.set 4 (.lp 56 s [P.nat 12] de cE .busy ab 3))[2]?=aa (.box [.f (.bool found)] 0):=by rw [AI (by decide)];exact h2
 have O:(H.set 4 (.lp 56 s [P.nat 12] de cE .busy ab 3))[3]?=aa (.fk ae):=by rw [AI (by decide)];exact h3
 have Q:(H.set 4 (.lp 56 s [P.nat 12] de cE .busy ab 3))[4]?=aa (.lp 56 s [P.nat 12] de cE .busy ab 3):=OF Z;generalize H.set 4 (.lp 56 s [P.nat 12] de cE .busy ab 3)=l at b0 b1 N O Q;refine aB ?_;refine aq (au (.inr rfl) ?_);simp [v,b0,he];apply aq;rcases X with⟨rfl,rfl,rfl⟩ | ⟨rfl,rfl,b,z,X⟩
 ·refine aq (au (.inr rfl) ?_);simp;refine bg (by simp) ?_;exact B _ _ b0 b1 N O Q (by simp [v]) (by simp [I]) (by simp [J]) (by simp) (by simp)
 ·rcases X with⟨rfl,rfl,rfl⟩ | ⟨rfl,hl⟩
  ·refine aq (au (.inr rfl) ?_);simp [v,b0,z,show n≤1152921504606846976 by omega];refine bg (by simp) ?_;exact B _ _ b0 b1 N O Q (by simp [v]) (by simp [I]) (by simp [J]) (by simp) (by simp)
  ·refine aq (au (.inr rfl) ?_);simp [v,b0,z,show n≤1152921504606846976 by omega];refine an (by simp) ?_;refine au (.inr rfl) ?_;simp [v,b0,hl];exact B _ _ b0 b1 N O Q (by simp [v]) (by simp [I]) (by simp [J]) (by simp) (by simp)
theorem DS(x:FC):cB tab.get 62 [.c (.f x)]=Eq (.c (.f (.fn 95 [.fp [x] 0]))):=by
 refine cB.eq (du rfl rfl fun Q b=>?_);apply ai;simp;apply ai;simp;refine aG (b _ _ ?_);simp [deep]
theorem DR{b:Nat}{H:aj}(g:Tg)(ts:List dj)(M:ts.length≤1000000)(PP:Nat→aj→Prop)(F:PP 0 H)
  (L:∀ j (q:j<ts.length) H,PP j H→∃ r u,Ev tab.get (.yield b) [.c (.f (sl ts[j].tg (aQ ts[j].fs)))] H r u∧(r=vb ae∧PP (j+1) u)) :
  ∃ r B,Ev tab.get (.fn 95) [.c (.yl b),.c (.f (.fp [sl g (aI ts)] 0))] H r B∧(r=.t []∧PP ts.length B):=by
 refine dy rfl rfl fun Q K=>?_;apply ai;simp [mY];refine et ts.length (fun j s J=>s.g 0=.c (.yl b)∧s.g 5=.c (.f (sl g (aI ts)))∧PP j J) (by omega) (by decide) (by decide) (by simp) (by simp) ⟨by simp,by simp,F⟩ ?_ ?_
 ·rintro j s J q ⟨v,x,y⟩ z E next
  have m:=fun H:aj=>mZ (H:=H) (lN ts) (o0 (l:=ts) (j:=j) q) rfl;have d:=fun H:aj=>bW (H:=H) (g:=g) (rows:=aI ts) (sz:=1) (k:=.i64) (i:=j) (by omega) (by simpa using q);simp at m d;obtain⟨r,u,A,rfl,I⟩:=L j q J y;refine aB ?_;apply ai;simp [x,z,d,m];apply ai;simp [v,A.eq];refine bg (by simp) ?_;refine az (next _ _ ?_ (by simp [z]) (by simp [E]));exact⟨by simp [v],by simp [x],I⟩
 ·rintro s J ⟨v,x,y⟩ z E;exact eu (K _ _ _ rfl rfl ⟨rfl,y⟩)
def o5(ts:List dj)(n x:Int):Prop:=∃ t ∈ ts,O5 t.fs n x
theorem JX(g:Tg)(ts:List dj)(K:ts.length≤1000000)(Y:∀ t ∈ ts,mz t.fs)(n:Int)(a:0≤n)(I:n≤1000000000000):∃ d f,eA (o5 ts n) d f∧(0≤d∧d≤1000001000000) ∧
  cB tab.get 56 [.c (.f (.fn 95 [.fp [sl g (aI ts)] 0])),vi n]=Eq (.t [vi d,vb f]):=by
 have key:∃ r,(∃ d f,eA (o5 ts n) d f∧(0≤d∧d≤1000001000000)∧r=.t [vi d,vb f])∧cB tab.get 56 [.c (.f (.fn 95 [.fp [sl g (aI ts)] 0])),vi n] r:=by
  refine Le XM rfl fun Q Z=>?_;have y:∀ s:T,s.g 3=.c (.ptr 0 0 0)→s.g 6=.c (.ptr 1 0 0)→s.g 7=.c (.ptr 2 0 0)→s.g 11=.c (.f (.fn 95 [.fp [sl g (aI ts)] 0])) →
    WP tab.get 56 ab [.code zB,.inBlock 0,.code vm] ⟨s,[],[.box [.f (fi n)] 0,.box [.f (fi 0)] 0,.box [.f (.bool ag)] 0]⟩ Q:=by
   intro s X M N z;obtain⟨r,v,W,rfl,l,found,⟨-,o,p,w,L,w4,-⟩,q,O⟩:=DR (b:=4) (H:=[.box [.f (fi n)] 0,.box [.f (fi 0)] 0,.box [.f (.bool ag)] 0,.fk ae,.lp 56 s [P.nat 12] de cE .ready ab 3]) g ts K
    (fun j H=>∃ l found,QH H n l found∧eA (o5 (ts.take j) n) l found∧(0≤l∧l≤1000001000000))
    ⟨0,ag,⟨rfl,rfl,rfl,rfl,s,rfl,X,M,N⟩,.inl ⟨rfl,rfl,fun d u=>by obtain⟨t,m,-⟩:=u;simp at m⟩,by omega,by omega⟩ fun j S H ⟨l,found,B,q,O⟩=>by
     obtain⟨d,f,F,u,c⟩:=v9 ts[j].tg ts[j].fs (Y _ (acE S)) n a I;obtain⟨r,U,E,rfl,A⟩:=c H l found B;have J:ts.take (j+1)=ts.take j++[ts[j]]:=by rw [acW,By S];rfl
     refine⟨_,U,E,rfl,_,_,A,eA.join q F fun x=>?_,?_⟩
     ·unfold o5;rw [J];constructor
      ·rintro⟨t,m,h⟩;rcases acG.1 m with m | m
       ·exact .inl ⟨t,m,h⟩
       ·rw [acF.1 m]at h;exact .inr h
      ·rintro(⟨t,m,h⟩ | h)
       ·exact⟨t,adj _ m,h⟩
       ·exact⟨_,adE _ (acF.2 rfl),h⟩
     ·split<;>omega
   rw [ac0]at q;refine oe (g:=95) (by rw [O7,z];simp [bG]) W ?_;refine qp w4 (by decide) ?_;refine az ?_;apply ai;have e:(v.set 4 (.lp 56 L [P.nat 12] de cE .exhausted ab 3))[1]?=aa (.box [.f (fi l)] 0):=by rw [AI (by decide)];exact o
   have i:(v.set 4 (.lp 56 L [P.nat 12] de cE .exhausted ab 3))[2]?=aa (.box [.f (.bool found)] 0):=by rw [AI (by decide)];exact p
   have k:(v.set 4 (.lp 56 L [P.nat 12] de cE .exhausted ab 3))[3]?=aa (.fk ae):=by rw [AI (by decide)];exact w
   simp [M,N,e,i];refine aG (Z _ _ _ ⟨l,found,q,O,rfl⟩ (.inr ⟨3,rfl,k,.t [vi l,vb found],?_,by simp [nE,db,aY]⟩));simp [Km.results,cD,aY]
  apply ai;simp;apply ai;simp;apply aq;apply ai;simp;refine aB ?_;exact y _ (by simp) (by simp) (by simp) (by simp)
 obtain⟨r,⟨d,f,q,u,rfl⟩,h⟩:=key;exact⟨d,f,q,u,h.eq⟩
theorem tW(g:Tg)(ts:List dj)(j:kF ts=ae)(s:∀ t ∈ ts,mz t.fs)(n:Int)(z:0≤n)(l:n≤1000000000000):∃ d f,eA (o5 ts n) d f∧(0≤d∧d≤1000001000000) ∧
  cB tab.get 33 [.a [.f (sl g (aI ts))],vi n]=Eq (.t [vi d,vb f]):=by
 obtain⟨F,m⟩:=oq j;obtain⟨d,f,y,v,x⟩:=JX g ts (by omega) s n z l;refine⟨d,f,y,v,cB.eq (du rfl rfl fun Q u=>?_)⟩;have b:=J8 g ts (by omega) (fun t q=>⟨by have:=(jL (m t q)).2.1;omega,fun p A=>uq ((jL (m t q)).2.2 p A)⟩);rw [j]at b;have B:=DS (sl g (aI ts));have E:max n 0=n:=by omega
 apply ai;simp;apply aq;apply ai;simp [b];refine bg (by simp) ?_;apply ai;simp [B,E,x];refine aG (u _ _ ?_);simp
theorem mo(j l m:FC)(len g d:Int)(v:0≤len)(q:len≤10080)(x:-4320≤g)(s:g≤4320) :
  cB tab.get 28 [.a [.f j,.f (fi len),.f l],.a [.f m,.f (fi g)],vi d]=Eq (vb (decide (d≤(2251799813685248-g-len) / 1440))):=Kf.eq (by
 refine dF rfl rfl fun H Q u=>?_;apply ai;simp;apply ai;simp [aK (n:=2251799813685248-g),aK (n:=2251799813685248-g-len),kJ (a:=2251799813685248-g-len) (b:=1440) (by omega) (by omega) (by omega)];refine aG (u _ _ ?_);simp)
theorem zR(g j b:FC)(len d l m:Int):cB tab.get 16 [.a [.f g,.f (fi len),.f j],.a [.f b,.f (fi d)],.a [.f (fi l),.f (fi m)]] =
  Eq (.c (.f (.fn 50 [.fp [fi l,fi m] 0,.fp [g,fi len,j] 0,.fp [b,fi d] 0]))):=by
 refine cB.eq (du rfl rfl fun Q q=>?_);apply ai;simp;apply ai;simp;refine aG (q _ _ ?_);simp [deep]
structure rZ(ts:List dj):Prop where
 v:kF ts=ae
 f:∀ t ∈ ts,mz t.fs
structure SK(len mi wf wt:Int):Prop where
 l0:1≤len
 l1:len≤10080
 m0:-4320≤mi
 m1:mi≤4320
 f0:-10000000000≤wf
 w:wf≤wt
 t1:wt≤10000000000
def DW(len b d:Int):Int:=max 0 ((d-len-b) / 1440+1)
def pM(ts:List dj)(g b j d:Int):Prop:=o5 ts g d∧d*1440+b<j
theorem jE{ts:List dj}{n m x:Int}(h:n≤m)(d:m≤x):o5 ts n x↔o5 ts m x:=by
 unfold o5 O5;constructor
 ·rintro⟨t,b,-,e⟩;exact⟨t,b,d,e⟩
 ·rintro⟨t,b,-,e⟩;exact⟨t,b,by omega,e⟩
theorem Pk{b:Nat}{H:aj}{PP:List Int→aj→Prop}(g:Tg)(ts:List dj)(W:rZ ts)(s0 s2:FC)(len l A B:Int)(hw:SK len l A B)(q:Int)(hn:q=DW len l A)(h0:PP [] H)
  (w:∀ ds d H,PP ds H→q≤d→d*1440+l<B→(ds.length:Int)≤d-q→∃ O,Ev tab.get (.yield b) [vi d] H (vb ae) O∧PP (ds++[d]) O) :
  ∃ r O,Ev tab.get (.fn 50) [.c (.yl b),.c (.f (.fp [fi A,fi B] 0)),.c (.f (.fp [s0,fi len,s2] 0)),.c (.f (.fp [sl g (aI ts),fi l] 0))] H r O ∧
   (r=.t []∧∃ ds,PP ds O∧ds.Pairwise (· < ·)∧∀ d,d ∈ ds↔pM ts q l B d):=by
 obtain⟨b_,c4,c6,c7,b7,b9,c9⟩:=hw;refine dy rfl rfl fun Q hQ=>?_;have c:=ql (A-len-l) (by omega) (by omega);have F:=fun d=>mo s0 s2 (sl g (aI ts)) len l d (by omega) (by omega) (by omega) (by omega);have o:max 0 ((A-len-l) / 1440+1)=q:=hn.symm;have c8:0≤q∧q≤8000000:=by rw [hn];unfold DW;omega
 have i:∀ x,o5 ts q x→q≤x:=fun x ⟨t,_,h,_⟩=>h;apply ai;simp [mY,aK (n:=A-len),aK (n:=A-len-l),c,aK (n:=(A-len-l) / 1440+1),o];refine aB ?_;refine bu (fun m s=>∃(j:Int) (I:T) (J:aj) (ds:List Int),s=⟨I,[],J⟩∧(m:Int)=10000010-j∧q≤j∧j≤10000000∧I.g 0=.c (.yl b)∧I.g 1=.c (.f (.fp [fi A,fi B] 0))∧I.g 2=.c (.f (.fp [s0,fi len,s2] 0))∧I.g 3=.c (.f (.fp [sl g (aI ts),fi l] 0))∧I.g 5=vi j ∧
  PP ds J∧ds.Pairwise (· < ·)∧(∀ d ∈ ds,d<j)∧(ds.length:Int)≤j-q∧∀ d,d<j→(d ∈ ds↔pM ts q l B d)) (10000010-q).toNat
  ⟨q,_,H,[],rfl,by omega,by omega,by omega,by simp,by simp,by simp,by simp,by simp,h0,by simp,by simp,by simp,fun d hd=>⟨fun h=>by simp at h,fun h=>by have:=i d h.1;omega⟩⟩ ?_
 rintro m s ⟨j,I,J,ds,rfl,hm,L,a8,g0,Y,Z,X,g5,K,N,z,b6,E⟩ ih;obtain⟨d,f,u,⟨d0,d1⟩,p⟩:=tW g ts W.v W.f j (by omega) (by omega);have U:d≤(2251799813685248-l-len) / 1440:=by omega
 refine aB ?_;apply ai;simp [X,g5,mY,p];apply aq;have stop:(∀ e,¬ pM ts j l B e)→∀ d,d ∈ ds↔pM ts q l B d:=by
  intro M e;by_cases v:e<j
  ·exact E e v
  ·exact⟨fun h=>absurd (z e h) v,fun h=>absurd ⟨(jE L (by omega)).1 h.1,h.2⟩ (M e)⟩
 rcases u with⟨rfl,rfl,M⟩ | ⟨rfl,hS,u⟩
 ·apply ai;simp;refine an (by simp) ?_;exact aG (hQ _ _ _ rfl rfl ⟨rfl,ds,K,N,stop fun e h=>M e h.1⟩)
 ·have a_:j≤d:=by obtain⟨t,_,h,_⟩:=hS;exact h
  by_cases k:B≤d*1440+l
  ·apply ai;simp [Y,Z,X,mY,F,U,aK (n:=d*1440),aK (n:=d*1440+l),k];refine an (by simp) ?_;refine aG (hQ _ _ _ rfl rfl ⟨rfl,ds,K,N,stop fun e h=>?_⟩);have:=u e h.1;have:=h.2;omega
  ·obtain⟨J',a,S⟩:=w ds d J K (by omega) (by omega) (by omega);apply ai;simp [g0,Y,Z,X,mY,F,U,aK (n:=d*1440),aK (n:=d*1440+l),k,a.eq];refine bg (by simp) ?_;refine au (.inl rfl) ?_;simp [aK (n:=d+1)];refine az (ih (10000010-(d+1)).toNat _ (by omega) ⟨d+1,_,J',ds++[d],rfl,by omega,by omega,by omega,by simp [g0],by simp [Y],by simp [Z],by simp [X],by simp,S,?_,fun e v=>?_,by simp;omega,fun e v=>?_⟩)
   ·rw [ada];exact⟨N,ac7 _ _,fun x hx y w=>by obtain rfl:=acF.1 w;have:=z x hx;omega⟩
   ·rcases acG.1 v with v | v
    ·have:=z e v;omega
    ·obtain rfl:=acF.1 v;omega
   ·rw [acG,acF];by_cases hc:e<j
    ·rw [E e hc];exact⟨fun h=>h.elim id fun h=>absurd h (by omega),.inl⟩
    ·refine⟨fun h=>?_,fun h=>.inr ?_⟩
     ·rcases h with h | rfl
      ·exact absurd (z e h) hc
      ·exact⟨(jE L (by omega)).2 hS,by omega⟩
     ·have:=u e ((jE L (by omega)).1 h.1);omega
theorem yo{b:Nat}{H:aj}{C:aj→Prop}(g:Tg)(ts:List dj)(B:rZ ts)(N O:FC)(len j q z:Int)(hw:SK len j q z)(v:Int)(W:v=DW len j q)
  (hy:∀ d,∃ r y,Ev tab.get (.yield b) [vi d] H r y∧(r=vb ag∧C y)) :
  ∃ r y,Ev tab.get (.fn 50) [.c (.yl b),.c (.f (.fp [fi q,fi z] 0)),.c (.f (.fp [N,fi len,O] 0)),.c (.f (.fp [sl g (aI ts),fi j] 0))] H r y ∧
   (r=.t []∧(((∃ d,pM ts v j z d)∧C y)∨((∀ d,¬ pM ts v j z d)∧y=H))):=by
 obtain⟨o,p,t,w,c,i,a_⟩:=hw;refine dy rfl rfl fun Q F=>?_;have J:=ql (q-len-j) (by omega) (by omega);have u:=fun d=>mo N O (sl g (aI ts)) len j d (by omega) (by omega) (by omega) (by omega);have K:max 0 ((q-len-j) / 1440+1)=v:=W.symm;have a8:0≤v∧v≤8000000:=by rw [W];unfold DW;omega
 apply ai;simp [mY,aK (n:=q-len),aK (n:=q-len-j),J,aK (n:=(q-len-j) / 1440+1),K];refine aB ?_;obtain⟨d,f,l,⟨d0,d1⟩,M⟩:=tW g ts B.v B.f v (by omega) (by omega);have A:d≤(2251799813685248-j-len) / 1440:=by omega
 refine bu (fun m s=>m=0∧∃ x:T,s=⟨x,[],H⟩∧x.g 0=.c (.yl b)∧x.g 1=.c (.f (.fp [fi q,fi z] 0))∧x.g 2=.c (.f (.fp [N,fi len,O] 0))∧x.g 3=.c (.f (.fp [sl g (aI ts),fi j] 0))∧x.g 5=vi v) 0
  ⟨rfl,_,rfl,by simp,by simp,by simp,by simp,by simp⟩ ?_
 rintro m s ⟨rfl,x,rfl,X,S,U,E,Y⟩ -;refine aB ?_;apply ai;simp [E,Y,mY,M];apply aq;rcases l with⟨rfl,rfl,L⟩ | ⟨rfl,a,l⟩
 ·apply ai;simp;refine an (by simp) ?_;exact aG (F _ _ _ rfl rfl ⟨rfl,.inr ⟨fun e h=>L e h.1,rfl⟩⟩)
 ·by_cases k:z≤d*1440+j
  ·apply ai;simp [S,U,E,mY,u,A,aK (n:=d*1440),aK (n:=d*1440+j),k];refine an (by simp) ?_;refine aG (F _ _ _ rfl rfl ⟨rfl,.inr ⟨fun e h=>?_,rfl⟩⟩);have:=l e h.1;have:=h.2;omega
  ·obtain⟨r,J',I,rfl,Z⟩:=hy d;apply ai;simp [X,S,U,E,mY,u,A,aK (n:=d*1440),aK (n:=d*1440+j),k,I.eq];refine an (by simp) ?_;exact aG (F _ _ _ rfl rfl ⟨rfl,.inl ⟨⟨d,a,by omega⟩,Z⟩⟩)
def tZ:bK→Bool
 | .bA _ _ _ _ _=>ag| _=>ae
def LI(H:aj)(c:C)(o:List aC):Prop:=(o=[]∧c=.f .ax)∨(o≠[]∧∃ b d,c=.sl b 0 o.length 0 d 3∧RB H b 3 d (ay o))
theorem LI.push{H:aj}{c:C}{o:List aC}(h:LI H c o)(J:aj):LI (H++J) c o:=by
 rcases h with h | ⟨h,b,d,g,j⟩
 ·exact .inl h
 ·exact .inr ⟨h,b,d,g,j.push J⟩
theorem LI.set{H:aj}{c:C}{o:List aC}(h:LI H c o){i:Nat}{x:bK}(g:H[i]?=aa x)(m:tZ x=ae)(y:bK):LI (H.set i y) c o:=by
 rcases h with h | ⟨h,b,j,l,d⟩
 ·exact .inl h
 ·refine .inr ⟨h,b,j,l,?_⟩;unfold RB at d ⊢;have:i≠b:=by rintro rfl;rw [d]at g;cases g;cases m
  rw [AI this];exact d
theorem rD(o:List aC)(x:aC):(ay (o++[x])).flatten=(ay o).flatten++x.row:=by simp [ay]
theorem LI.app{H:aj}{c:C}{o:List aC}(h:LI H c o)(B:o.length≤1000000){b1 fl:Nat}{x:aC}(u:H[b1]?=aa (.box (x.row.map .f) fl)) :
  ∃ v l,bJ H 3 24 (.c c) (.c (.sl b1 0 1 1 0 3))=aa (.c v,l)∧LI l v (o++[x])∧H.length≤l.length∧∀(i:Nat) y,H[i]?=aa y→tZ y=ae→l[i]?=aa y:=by
 have g:dC H 3 (.c (.sl b1 0 1 1 0 3))=aa (1,x.row.map .f):=kU u (by rfl);rcases h with⟨rfl,rfl⟩ | ⟨A,b,q,rfl,m⟩
 ·have d:bB 1 24=ae:=by simp [bB]
  refine⟨.sl H.length 0 1 0 0 3,H++[.bA 3 (x.row.map .f) 0 0 .loc],?_,.inr ⟨by simp,H.length,0,by simp,?_⟩,by simp,fun i y hy _=>by rw [AT (av hy)];exact hy⟩
  ·simp [bJ,g,d]
  ·unfold RB;simp [ay]
 ·have d:bB (o.length+1) 24=ae:=by simp [bB];omega
  have j:o.length*3=(ay o).flatten.length:=by rw [cX (aX o),gi]
  unfold RB at m;refine⟨.sl b 0 (o.length+1) 0 (q+1) 3,H.set b (.bA 3 ((ay o).flatten.map .f++x.row.map .f) 0 (q+1) .loc),?_,.inr ⟨by simp,b,q+1,by simp,?_⟩,by simp,fun i y hy z=>?_⟩
  ·have s:(3:Nat)≠0:=by decide
   simp only [bJ,g,s,if_false,m,and_self,if_true];simp only [Nat.add_one_ne_zero,if_false];rw [bf ⟨trivial,by rw [ac1];exact j,by omega⟩,d];simp
  ·unfold RB;rw [OF (av m),rD,adP]
  ·have:b≠i:=by rintro rfl;rw [m]at hy;cases hy;cases z
   rw [AI this];exact hy
theorem XH{H:aj}{b d n:Nat}{l R:List aC}(h:RB H b 3 d (ay (l++R))):dI (n+1) H (.sl b 0 l.length 0 d 3)=aa (sl .fs (ay l)):=by
 unfold RB at h;have g:l.length*3=(ay l).flatten.length:=by rw [cX (aX l),gi]
 have e:(ay (l++R)).flatten=(ay l).flatten++(ay R).flatten:=by simp [ay]
 simp only [oP,h];rw [bf ⟨trivial,trivial,by rw [ac1,e,acZ];omega⟩,e,ady,adP,List.take_append_of_le_length (by rw [ac1];omega),acS (by rw [ac1];omega)];rw [tU];cases l with
 | nil=>simp [sl,ay,Tg.fc]| cons x l=>simp [sl,ay]
theorem vK{H:aj}:∃ r b,Ev tab.get (.fn 21) [.c (.f .ax)] H r b∧(r=.c (.f .ax)∧b=H):=by
 refine dy rfl rfl fun Q d=>?_;apply ai;simp;apply aq;apply ai;simp [bM];refine an (by simp) ?_;apply ai;simp;exact aG (d _ _ _ rfl (jH (by simp)) ⟨rfl,rfl⟩)
def t_:List Nat→aj→aj
 | [],H=>H| b::d,H=>t_ d (H.set b (.fk ag))
structure en(bs:List Nat)(H:aj):Prop where
 nd:bs.Nodup
 on:∀ b ∈ bs,H[b]?=aa (.fk ae)
theorem lL{call:bQ}:∀ {d:List Nat} {H:aj},en d H→cV call (d.map .hY) H=aa (t_ d H)
 | [],H,_=>rfl
 | b::d,H,h=>by
  have l:=h.on b acK;have g:=List.nodup_cons.1 h.nd;simp only [ac5,cV,l,t_];exact lL ⟨g.2,fun x j=>by rw [AI (by rintro rfl;exact g.1 j)];exact h.on x (acM _ j)⟩
theorem nk:∀ {d:List Nat} {H:aj} {i:Nat},i ∉ d→(t_ d H)[i]?=H[i]?
 | [],_,_,_=>rfl
 | b::d,H,i,h=>by
  simp only [ac2,not_or]at h;rw [t_,nk h.2,AI (Ne.symm h.1)]
def SG(d:List fF)(r:V)(s:St):Prop:=∃ b,s.defs=b.map .hY∧en b s.heap∧∃ r0,Km.results s.al (t_ b s.heap) d=aa r0∧nE deep (t_ b s.heap) r0=aa r
theorem sW{f:Nat}{args:List V}{S:V→Prop}{ps:List P}{b:List fF}{body:ak}(B:tab.get f=aa ⟨ps,b,body⟩)(z:args.length=ps.length)
  (h:∀ Q:Option ak→St→Prop,(∀ j s r,S r→SG b r s→Q j s)→WP tab.get f ab [.code body] ⟨bP ps args .e,[],[]⟩ Q):∃ r,S r∧cB tab.get f args r:=by
 have u:=h (fun _ s=>∃ r,S r∧SG b r s) fun _ _ r g l=>⟨r,g,l⟩
 obtain⟨n,m,d,j,s,g,r,A,q,y,x,r0,l,v⟩:=u;exact⟨r,A,r0,t_ q s.heap,qk B z ⟨n,m,d,j,s,g,0,0,_,by rw [y];exact lL x,l,rfl⟩,v⟩
theorem en.push{d:List Nat}{H:aj}(h:en d H)(J:aj):en d (H++J):=⟨h.nd,fun b g=>by rw [AT (av (h.on b g))];exact h.on b g⟩
theorem en.cC{g:List Nat}{H d:aj}(h:en g H)(l:∀(i:Nat) y,H[i]?=aa y→tZ y=ae→d[i]?=aa y):en g d:=⟨h.nd,fun b j=>l b _ (h.on b j) rfl⟩
theorem en.set{d:List Nat}{H:aj}(h:en d H){i:Nat}{y z:bK}(g:H[i]?=aa y)(hy:y≠.fk ae):en d (H.set i z):=⟨h.nd,fun b j=>by
 have:=h.on b j;rw [AI (by rintro rfl;rw [this]at g;cases g;exact hy rfl)];exact this⟩
theorem en.not{b:List Nat}{H:aj}(h:en b H){i:Nat}{y:bK}(g:H[i]?=aa y)(hy:y≠.fk ae):i ∉ b:=fun d=>by
 have:=h.on i d;rw [g]at this;cases this;exact hy rfl
theorem z5:∀(l:List Int) (a k:Int),l.Pairwise (· < ·)→(∀ x ∈ l,a≤x∧x<a+k)→(l.length:Int)≤max k 0
 | [],_,_,_,_=>by simp;omega
 | x::l,a,k,g,h=>by
  have j:=h x acK;have b:=adw.1 g;have:=z5 l (x+1) (a+k-x-1) b.2 fun y d=>⟨by have:=b.1 y d;omega,by have:=h y (acM _ d);omega⟩
  simp only [List.length_cons];omega
structure fG(s:bF):Prop where
 v:ei s=ae
 cn:s.cs.length≤3
 cl:∀ c ∈ s.cs,rZ c.ts
 xn:s.xs.length≤4
def pK(s:bF)(b g:Int)(l:List bU)(x:aC):Prop:=∃ c ∈ l,∃ d,pM c.ts (DW s.len c.min b) c.min g d∧x=gI s.len c.min d
def ry(s:bF)(b d:Int)(x:aC):Prop:=pK s b d s.cs x∨(x ∈ s.xs∧iw x.fr x.to b d=ae)
theorem mJ:∀ {l:List bU} {o:Option Int},cQ o l=ae→∀ c ∈ l,kF c.ts=ae∧-4320≤c.min∧c.min≤4320
 | c::l,o,h,x,d=>by
  simp only [cQ,BY]at h;obtain⟨⟨⟨g,b⟩,-⟩,j⟩:=h;rcases ac2.1 d with rfl | d
  ·unfold bR at b;simp at b;exact⟨g,b.1,b.2⟩
  ·exact mJ j x d
theorem fG.len{s:bF}(h:fG s):1≤s.len∧s.len≤10080:=by
 have:=h.v;simp [ei,bR]at this;omega
theorem fG.min{s:bF}(h:fG s){c:bU}(hc:c ∈ s.cs):-4320≤c.min∧c.min≤4320:=by
 have:=h.v;simp only [ei,BY]at this;exact(mJ this.1.2 c hc).2
theorem UR{ts:List dj}(h:kF ts=ae):∀ t ∈ ts,t.Sm:=fun t d=>by
 obtain⟨-,b⟩:=oq h;exact⟨by have:=(jL (b t d)).2.1;omega,fun p g=>uq ((jL (b t d)).2.2 p g)⟩
theorem fG.sm{s:bF}(h:fG s):s.Sm:=by
 have b:=h.cn;have d:=h.xn;refine⟨by omega,by omega,fun c hc=>⟨?_,UR (h.cl c hc).v⟩⟩;have:=(oq (h.cl c hc).v).1;omega
theorem P1(s:bF)(hs:fG s)(u v:Int)(m9:-10000000000≤u)(m_:v≤10000000000)(m7:u<v)(m8:v≤u+70000) :
  ∃ g L,(L.Pairwise aC.lt∧∀ x,x ∈ L↔ry s u v x)∧L.length≤184∧cB tab.get 3 [.a (s.row.map .f),.a [.f (fi u),.f (fi v)]]=Eq (.t [.c (.f (sl g (ay L))),vi 0]):=by
 have key:∃ r,(∃ g L,(L.Pairwise aC.lt∧∀ x,x ∈ L↔ry s u v x)∧L.length≤184∧r=.t [.c (.f (sl g (ay L))),vi 0])∧cB tab.get 3 [.a (s.row.map .f),.a [.f (fi u),.f (fi v)]] r:=by
  refine sW XL rfl fun Q hQ=>?_;have a8:=(oG s hs.sm).eq;rw [hs.v]at a8;simp [bF.row]at a8;have hF:∀ x y:aC,Kf tab.get 20 [.a (x.row.map .f),.a (y.row.map .f)] (vi (jb x y)):=wo;obtain⟨j8,j9⟩:=hs.len;have l_:=hs.cn;have n4:=hs.xn;have f_:∀(t:T) (J:List Nat) (H:aj) (c:C) (o:List aC),t.g 6=.c (.ptr 2 0 0)→H[2]?=aa (.box [c] 0)→LI H c o→o.length≤184→en J H→(∀ x,x ∈ o↔ry s u v x) →
    WP tab.get 3 ab [.code u5] ⟨t,J.map .hY,H⟩ Q:=by
   intro t J H c o I B A b_ M m;rcases A with⟨rfl,rfl⟩ | ⟨m6,b,ep,rfl,f⟩
   ·obtain⟨r1,H1,e1,rfl,rfl⟩:=LS (H:=H) (F:=20);obtain⟨r2,H2,e2,rfl,rfl⟩:=vK (H:=H1);apply ai;simp [I,B,e1.eq];apply ai;simp [I,B,e2.eq];have W:(H2.set 2 (.box [.f .ax] 0))[2]?=aa (.box [.f .ax] 0):=OF (av B);apply aq;apply ai;simp [I,W,bM];refine bg (by simp) ?_;apply ai;simp [I,W];refine aG (hQ _ _ _ ⟨.nil,[],⟨by simp,m⟩,by simp,rfl⟩ ⟨J,rfl,M.set B (by simp),.t [.c (.f .ax),vi 0],by simp [Km.results,cD,aY],by simp [nE,db,aY,sl,ay,Tg.fc]⟩)
   ·have c9:(2:Nat)≠b:=by rintro rfl;unfold RB at f;rw [B]at f;cases f
    have c_:b ∉ J:=M.not f (by simp);obtain⟨r1,H1,e1,rfl,f1,l1,q1,q2,q3⟩:=RU hF (by omega) f;have ll:=q2.length_eq;rw [←ll]at e1 B;have W:=f1.get B c9;obtain⟨r2,H2,e2,l2,R2,rfl,f2,w1,w2,w3,w4⟩:=yd (by omega) q3 q1;have e_:=f2.get W c9;apply ai;simp [I,B,e1.eq];apply ai;simp [I,W,e2.eq,e_];have k3:(H2.set 2 (.box [.sl b 0 l2.length 0 ep 3] 0))[2]?=aa (.box [.sl b 0 l2.length 0 ep 3] 0):=OF (av e_);have f4:RB (H2.set 2 (.box [.sl b 0 l2.length 0 ep 3] 0)) b 3 ep (ay (l2++R2)):=by
     unfold RB at w1 ⊢;rw [AI c9];exact w1
    have i_:en J H2:=⟨M.nd,fun x hx=>f2.get (f1.get (M.on x hx) (by rintro rfl;exact c_ hx)) (by rintro rfl;exact c_ hx)⟩
    apply aq;apply ai;simp [I,k3,f4.len];refine aD (by simp;omega) (aO ?_);apply ai;simp [I,k3];refine aG (hQ _ _ _ ⟨.fs,l2,⟨w3,fun x=>by rw [w4,q2.mem_iff,m]⟩,by omega,rfl⟩ ⟨J,rfl,i_.set e_ (by simp),.t [.c (.sl b 0 l2.length 0 ep 3),vi 0],by simp [Km.results,cD,aY],?_⟩);have f9:RB (t_ J (H2.set 2 (.box [.sl b 0 l2.length 0 ep 3] 0))) b 3 ep (ay (l2++R2)):=by
     unfold RB at f4 ⊢;rw [nk c_];exact f4
    have:=XH (n:=63) f9;simp [deep,nE,db,aY,this]
  have a_:∀(t:T) (J:List Nat) (H:aj) (c:C) (o:List aC),t.g 2=.c (.ptr 0 0 0)→t.g 3=.c (.ptr 1 0 0)→t.g 6=.c (.ptr 2 0 0)→H[0]?=aa (.box [C.f (sl s.cg (aM s.cs)),C.f (fi s.len),C.f (sl s.xg (ay s.xs))] 0)→H[1]?=aa (.box [.f (fi u),.f (fi v)] 0)→H[2]?=aa (.box [c] 0)→LI H c o→o.length≤180 →
    en J H→(∀ x,x ∈ o↔pK s u v s.cs x)→WP tab.get 3 ab [.code mv] ⟨t,J.map .hY,H⟩ Q:=by
   intro t J H c o O X I h0 S B A b_ M m;apply aq;apply ai;simp [O,h0];refine et s.xs.length (fun j t N=>t.g 2=.c (.ptr 0 0 0)∧t.g 3=.c (.ptr 1 0 0)∧t.g 6=.c (.ptr 2 0 0)∧t.g 64=.c (.f (sl s.xg (ay s.xs)))∧N[1]?=aa (.box [.f (fi u),.f (fi v)] 0)∧en J N ∧
    ∃ c o',N[2]?=aa (.box [c] 0)∧LI N c o'∧o'.length≤180+j∧∀ x,x ∈ o'↔pK s u v s.cs x∨(x ∈ s.xs.take j∧iw x.fr x.to u v=ae)) (by omega) (by decide) (by decide) (by simp) (by simp)
    ⟨by simp [O],by simp [X],by simp [I],by simp,S,M,c,o,B,A,by omega,by simpa using m⟩ ?_ ?_
   ·rintro j t N hj ⟨O,X,I,b7,S,d_,c,o',B,A,b_,m⟩ ha hb next
    have K:=fun H:aj=>dt (H:=H) (aX s.xs) (cJ hj);have d6:=zQ s.xs[j].fr s.xs[j].to u v;have c4:s.xs.take (j+1)=s.xs.take j++[s.xs[j]]:=by rw [acW,By hj];rfl
    simp [aC.row]at K;refine aB ?_;apply ai;simp [b7,ha,bW,hj,K];have kN:(N++[bK.box [.f (fi s.xs[j].day),.f (fi s.xs[j].fr),.f (fi s.xs[j].to)] 0])[N.length]?=aa (.box [.f (fi s.xs[j].day),.f (fi s.xs[j].fr),.f (fi s.xs[j].to)] 0):=by simp
    have k1:(N++[bK.box [.f (fi s.xs[j].day),.f (fi s.xs[j].fr),.f (fi s.xs[j].to)] 0])[1]?=aa (.box [.f (fi u),.f (fi v)] 0):=by rw [AT (av S)];exact S
    have W:(N++[bK.box [.f (fi s.xs[j].day),.f (fi s.xs[j].fr),.f (fi s.xs[j].to)] 0])[2]?=aa (.box [c] 0):=by rw [AT (av B)];exact B
    have kL:=A.push [bK.box [.f (fi s.xs[j].day),.f (fi s.xs[j].fr),.f (fi s.xs[j].to)] 0];have kd:=d_.push [bK.box [.f (fi s.xs[j].day),.f (fi s.xs[j].fr),.f (fi s.xs[j].to)] 0];generalize l9:N++[bK.box [.f (fi s.xs[j].day),.f (fi s.xs[j].fr),.f (fi s.xs[j].to)] 0]=Z at kN k1 W kL kd ⊢;apply ai;simp [X,kN,k1,d6];cases U:iw s.xs[j].fr s.xs[j].to u v
    ·refine aD (by simp) (aO (az (next _ _ ?_ (by simp [ha]) (by simp [hb]))));refine⟨by simp [O],by simp [X],by simp [I],by simp [b7],k1,kd,c,o',W,kL,by omega,fun x=>?_⟩;rw [m,c4,acG,acF];refine⟨fun h=>h.elim .inl fun h=>.inr ⟨.inl h.1,h.2⟩,fun h=>h.elim .inl fun h=>?_⟩;rcases h.1 with h' | rfl
     ·exact .inr ⟨h',h.2⟩
     ·rw [U]at h;cases h.2
    ·obtain⟨c',H2,e1,e2,e3,e4⟩:=(kL.push [.box [.f (fi s.xs[j].day),.f (fi s.xs[j].fr),.f (fi s.xs[j].to)] 0]).app (by omega) (b1:=Z.length) (fl:=0) (x:=s.xs[j]) (by simp [aC.row]);have p1:=e4 _ _ (show(Z++[bK.box [.f (fi s.xs[j].day),.f (fi s.xs[j].fr),.f (fi s.xs[j].to)] 0])[1]?=_ by rw [AT (av k1)];exact k1) rfl;have p2:=e4 _ _ (show(Z++[bK.box [.f (fi s.xs[j].day),.f (fi s.xs[j].fr),.f (fi s.xs[j].to)] 0])[2]?=_ by rw [AT (av W)];exact W) rfl;have pd:=(kd.push [bK.box [.f (fi s.xs[j].day),.f (fi s.xs[j].fr),.f (fi s.xs[j].to)] 0]).cC e4;refine an (by simp) ?_;refine au (.inl rfl) ?_;simp [I,kN,W,e1,p2];refine az (next _ _ ?_ (by simp [ha]) (by simp [hb]));refine⟨by simp [O],by simp [X],by simp [I],by simp [b7],by rw [AI (by decide)];exact p1,pd.set p2 (by simp),c',o'++[s.xs[j]],OF (av p2),e2.set p2 rfl _,by simp;omega,fun x=>?_⟩;rw [acG,acF,m,c4,acG,acF];constructor
     ·rintro((h | h) | rfl)
      ·exact .inl h
      ·exact .inr ⟨.inl h.1,h.2⟩
      ·exact .inr ⟨.inr rfl,U⟩
     ·rintro(h | ⟨h | h,h'⟩)
      ·exact .inl (.inl h)
      ·exact .inl (.inr ⟨h,h'⟩)
      ·exact .inr h
   ·rintro t N ⟨O,X,I,b7,S,d_,c,o',B,A,b_,m⟩ - -;rw [ac0]at m;exact f_ _ J N c o' (by simp [I]) B A (by omega) d_ fun x=>m x
  have a:∀ t:T,t.g 2=.c (.ptr 0 0 0)→t.g 3=.c (.ptr 1 0 0)→t.g 6=.c (.ptr 2 0 0)→WP tab.get 3 ab [.code uX] ⟨t,[],[.box [C.f (sl s.cg (aM s.cs)),C.f (fi s.len),C.f (sl s.xg (ay s.xs))] 0,.box [.f (fi u),.f (fi v)] 0,.box [.f .ax] 0]⟩ Q:=by
   intro t O X I;apply aq;apply ai;simp [O];refine aB ?_;refine bu (fun n st=>∃(j:Nat) (t:T) (J:List Nat) (H:aj) (c:C) (o:List aC),st=⟨t,J.map .hY,H⟩∧n=s.cs.length-j∧j≤s.cs.length∧t.g 2=.c (.ptr 0 0 0)∧t.g 3=.c (.ptr 1 0 0)∧t.g 6=.c (.ptr 2 0 0)∧t.g 44=.c (.f (sl s.cg (aM s.cs)))∧t.g 45=vi s.cs.length∧t.g 46=vi j ∧
    H[0]?=aa (.box [C.f (sl s.cg (aM s.cs)),C.f (fi s.len),C.f (sl s.xg (ay s.xs))] 0)∧H[1]?=aa (.box [.f (fi u),.f (fi v)] 0)∧H[2]?=aa (.box [c] 0)∧LI H c o∧o.length≤60*j∧en J H∧∀ x,x ∈ o↔pK s u v (s.cs.take j) x) s.cs.length
    ⟨0,_,[],_,.f .ax,[],rfl,by omega,by omega,by simp [O],by simp [X],by simp [I],by simp,by simp,by simp,rfl,rfl,rfl,.inl ⟨rfl,rfl⟩,by simp,⟨by simp,by simp⟩,fun x=>⟨fun h=>by simp at h,fun⟨c,U,_⟩=>by simp at U⟩⟩ ?_
   rintro n st ⟨j,t,J,H,c,o,rfl,rfl,hj,O,X,I,b6,e,Y,h0,S,B,A,b_,M,m⟩ ih;by_cases w:j<s.cs.length
   ·obtain⟨cl,p⟩:=bV (s.cs[j]);have c7:cl ∈ s.cs:=p▸acE w;have l8:=hs.min c7;have f8:=hs.cl cl c7;have K:=fun H:aj=>dt (H:=H) (da s.cs) (e8 (l:=s.cs) (j:=j) w);have c8:=fun H:aj=>bW (H:=H) (g:=s.cg) (rows:=aM s.cs) (sz:=2) (k:=.i64) (i:=j) (by omega) (by simpa using w);rw [←p]at K;simp [bU.row]at K c8;have c4:s.cs.take (j+1)=s.cs.take j++[cl]:=by rw [acW,By w,p];rfl
    have d7:=zR (sl s.cg (aM s.cs)) (sl s.xg (ay s.xs)) (sl cl.mg (aI cl.ts)) s.len cl.min u v;have d9:=fun d (h:pP d)=>vL (sl s.cg (aM s.cs)) (sl s.xg (ay s.xs)) (sl cl.mg (aI cl.ts)) s.len cl.min d (by unfold pP;omega) (by unfold pP;omega) h;apply ai;simp [e,Y];refine aq (an (by simp [w]) (aO ?_));apply aq;refine aB ?_;apply ai;simp [b6,Y,c8,K];obtain⟨q,d5⟩:=bV (H.length);have kc:(H++[bK.box [.f (sl cl.mg (aI cl.ts)),.f (fi cl.min)] 0])[q]?=aa (.box [.f (sl cl.mg (aI cl.ts)),.f (fi cl.min)] 0):=by simp [d5]
    have k0:(H++[bK.box [.f (sl cl.mg (aI cl.ts)),.f (fi cl.min)] 0])[0]?=aa (.box [C.f (sl s.cg (aM s.cs)),C.f (fi s.len),C.f (sl s.xg (ay s.xs))] 0):=by rw [AT (av h0)];exact h0
    have k1:(H++[bK.box [.f (sl cl.mg (aI cl.ts)),.f (fi cl.min)] 0])[1]?=aa (.box [.f (fi u),.f (fi v)] 0):=by rw [AT (av S)];exact S
    have W:(H++[bK.box [.f (sl cl.mg (aI cl.ts)),.f (fi cl.min)] 0])[2]?=aa (.box [c] 0):=by rw [AT (av B)];exact B
    have kL:=A.push [bK.box [.f (sl cl.mg (aI cl.ts)),.f (fi cl.min)] 0];have kd:=M.push [bK.box [.f (sl cl.mg (aI cl.ts)),.f (fi cl.min)] 0];have kn:(H++[bK.box [.f (sl cl.mg (aI cl.ts)),.f (fi cl.min)] 0]).length=q+1:=by simp [d5]
    have l7:3≤q:=by have:=av B;omega
    rw [←d5];generalize H++[bK.box [.f (sl cl.mg (aI cl.ts)),.f (fi cl.min)] 0]=Z at kc k0 k1 W kL kd kn ⊢;apply ai;simp [O,X,k0,k1,kc,d7];refine aB ?_;have range:∀(E:T),E.g 2=.c (.ptr 0 0 0)→E.g 3=.c (.ptr 1 0 0)→E.g 6=.c (.ptr 2 0 0)→E.g 8=.c (.ptr q 0 0)→E.g 44=.c (.f (sl s.cg (aM s.cs)))→E.g 45=vi s.cs.length→E.g 46=vi j →
      E.g 53=.c (.f (.fn 50 [.fp [fi u,fi v] 0,.fp [sl s.cg (aM s.cs),fi s.len,sl s.xg (ay s.xs)] 0,.fp [sl cl.mg (aI cl.ts),fi cl.min] 0])) →
      WP tab.get 3 ab [.code uZ,.inBlock 2,.inBlock 1,.code u0,.inLoop uY,.inBlock 0,.code mv] ⟨E,J.map .hY,Z⟩ Q:=by
     intro E O X I g8 b6 e Y g_;obtain⟨PP,b9⟩:∃ PP:List Int→aj→Prop,PP=fun ds H=>H[0]?=aa (.box [C.f (sl s.cg (aM s.cs)),C.f (fi s.len),C.f (sl s.xg (ay s.xs))] 0)∧H[1]?=aa (.box [.f (fi u),.f (fi v)] 0)∧(∃ c,H[2]?=aa (.box [c] 0)∧LI H c (o++ds.map (gI s.len cl.min))) ∧
      H[q]?=aa (.box [.f (sl cl.mg (aI cl.ts)),.f (fi cl.min)] 0)∧en J H∧H[q+1]?=aa (.fk ae)∧H[q+1+1]?=aa (.lp 3 E [P.nat 54] cN cO .ready ab (q+1)):=⟨_,rfl⟩
     have k_:PP [] (Z++[.fk ae,(.lp 3 E [P.nat 54] cN cO .ready ab (q+1))]):=by
      rw [b9];refine⟨?_,?_,⟨c,?_,?_⟩,?_,kd.push _,?_,?_⟩
      ·rw [AT (av k0)];exact k0
      ·rw [AT (av k1)];exact k1
      ·rw [AT (av W)];exact W
      ·simpa using kL.push _
      ·rw [AT (av kc)];exact kc
      ·rw [acR (by omega),kn];simp
      ·rw [acR (by omega),kn];simp
     have m5:DW s.len cl.min u=max 0 ((u-s.len-cl.min) / 1440+1):=rfl;obtain⟨r,N,he,rfl,ds,hp,j_,d8⟩:=Pk (b:=q+1+1) (H:=Z++[.fk ae,(.lp 3 E [P.nat 54] cN cO .ready ab (q+1))]) (PP:=PP) cl.mg cl.ts f8 (sl s.cg (aM s.cs)) (sl s.xg (ay s.xs)) s.len cl.min u v ⟨by omega,by omega,by omega,by omega,by omega,by omega,by omega⟩ (DW s.len cl.min u) rfl k_ (by
      intro ds d H hp m3 m4 j3;rw [b9]at hp;obtain⟨h0,S,⟨c,B,A⟩,U,p,h4,h5⟩:=hp;have f7:=d9 d (by unfold pP;omega);simp [gI,aC.row]at f7;obtain⟨r,N,e1,rfl,e2⟩:=kr (tab:=tab.get) (b:=q+1+1) (args:=[vi d]) (H:=H) (C:=fun r N=>r=vb ae∧PP (ds++[d]) N) h5 rfl fun Q' h_=>by
       refine au (.inr rfl) ?_;simp;refine tN h5 ?_;have b0:(H.set (q+1+1) (.lp 3 E [P.nat 54] cN cO .busy ab (q+1)))[0]?=aa (.box [C.f (sl s.cg (aM s.cs)),C.f (fi s.len),C.f (sl s.xg (ay s.xs))] 0):=by rw [AI (by omega)];exact h0
       have b1:(H.set (q+1+1) (.lp 3 E [P.nat 54] cN cO .busy ab (q+1)))[1]?=aa (.box [.f (fi u),.f (fi v)] 0):=by rw [AI (by omega)];exact S
       have b2:(H.set (q+1+1) (.lp 3 E [P.nat 54] cN cO .busy ab (q+1)))[2]?=aa (.box [c] 0):=by rw [AI (by omega)];exact B
       have b3:(H.set (q+1+1) (.lp 3 E [P.nat 54] cN cO .busy ab (q+1)))[q]?=aa (.box [.f (sl cl.mg (aI cl.ts)),.f (fi cl.min)] 0):=by rw [AI (by omega)];exact U
       have b4:(H.set (q+1+1) (.lp 3 E [P.nat 54] cN cO .busy ab (q+1)))[q+1]?=aa (.fk ae):=by rw [AI (by omega)];exact h4
       have b5:(H.set (q+1+1) (.lp 3 E [P.nat 54] cN cO .busy ab (q+1)))[q+1+1]?=aa (.lp 3 E [P.nat 54] cN cO .busy ab (q+1)):=OF (av h5);have bd:=p.set (z:=(.lp 3 E [P.nat 54] cN cO .busy ab (q+1))) h5 (by simp);have bL:=A.set h5 rfl (.lp 3 E [P.nat 54] cN cO .busy ab (q+1));generalize H.set (q+1+1) (.lp 3 E [P.nat 54] cN cO .busy ab (q+1))=HB at b0 b1 b2 b3 b4 b5 bd bL ⊢;obtain⟨c',H2,a1,a2,a3,a4⟩:=(bL.push [.box [.f (fi d),.f (fi (d*1440+cl.min)),.f (fi (d*1440+cl.min+s.len))] 0]).app (by simp;omega) (b1:=HB.length) (fl:=0) (x:=gI s.len cl.min d) (by simp [aC.row,gI]);have up:∀(i:Nat) y,HB[i]?=aa y→tZ y=ae→H2[i]?=aa y:=fun i y hy hn=>a4 i y (by rw [AT (av hy)];exact hy) hn;have p2:=up _ _ b2 rfl;have s5:(H2.set 2 (.box [c'] 0))[q+1+1]?=aa (.lp 3 E [P.nat 54] cN cO .busy ab (q+1)):=by rw [AI (by omega)];exact up _ _ b5 rfl
       refine aB ?_;refine au (.inr rfl) ?_;simp [O,I,g8,b0,b2,b3,f7,a1,p2];refine az (eu (h_ _ _ _ _ _ _ _ _ _ _ rfl s5 ?_));refine⟨rfl,?_⟩;rw [b9];refine⟨?_,?_,⟨c',?_,?_⟩,?_,?_,?_,?_⟩
       ·rw [AI (by omega),AI (by decide)];exact up _ _ b0 rfl
       ·rw [AI (by omega),AI (by decide)];exact up _ _ b1 rfl
       ·rw [AI (by omega)];exact OF (av p2)
       ·rw [adP,←adG];exact(a2.set p2 rfl _).set s5 rfl _
       ·rw [AI (by omega),AI (by omega)];exact up _ _ b3 rfl
       ·exact((bd.cC up).set p2 (by simp)).set s5 (by simp)
       ·rw [AI (by omega),AI (by omega)];exact up _ _ b4 rfl
       ·exact OF (av s5)
      exact⟨N,e1,e2⟩)
     rw [b9]at hp;obtain⟨h0,S,⟨c,B,A⟩,U,c6,h4,h5⟩:=hp;have hB:Z.length=q+1:=kn;have j4:Ev tab.get (.fn 50) [.c (.yl (Z.length+1)),.c (.f (.fp [fi u,fi v] 0)),.c (.f (.fp [sl s.cg (aM s.cs),fi s.len,sl s.xg (ay s.xs)] 0)),.c (.f (.fp [sl cl.mg (aI cl.ts),fi cl.min] 0))] (Z++[.fk ae,.lp 3 E [P.nat 54] cN cO .ready ab Z.length]) (.t []) N:=by
      rw [hB];exact he
     refine oe (g:=50) (by rw [O7,g_];simp [bG]) j4 ?_;rw [hB];refine qp h5 (by decide) ?_;refine az (az (au (.inl rfl) ?_));simp [Y,aK (n:=(j:Int)+1)];have j3:=z5 ds (DW s.len cl.min u) 60 j_ fun d hd=>by
      obtain⟨⟨t',_,a1,_⟩,a2⟩:=(d8 d).1 hd;refine⟨a1,?_⟩;omega
     refine ih (s.cs.length-(j+1)) _ (by omega) ⟨j+1,_,(q+1)::J,_,c,_,rfl,by omega,by omega,by simp [O],by simp [X],by simp [I],by simp [b6],by simp [e],by simp,?_,?_,?_,A.set h5 rfl _,by simp;omega,⟨?_,?_⟩,fun x=>?_⟩
     ·rw [AI (by omega)];exact h0
     ·rw [AI (by omega)];exact S
     ·rw [AI (by omega)];exact B
     ·refine List.nodup_cons.2 ⟨fun hb=>?_,c6.nd⟩;have:=av (kd.on _ hb);omega
     ·intro b hb;rcases ac2.1 hb with rfl | hb
      ·rw [AI (by omega)];exact h4
      ·exact(c6.set h5 (by simp)).on b hb
     ·rw [acG,m,adx];unfold pK;rw [c4];constructor
      ·rintro(⟨c,U,h⟩ | ⟨d,hd,rfl⟩)
       ·exact⟨c,adj _ U,h⟩
       ·exact⟨cl,adE _ (acF.2 rfl),d,(d8 d).1 hd,rfl⟩
      ·rintro⟨c,U,d,hd,rfl⟩;rcases acG.1 U with U | U
       ·exact .inl ⟨c,U,d,hd,rfl⟩
       ·obtain rfl:=acF.1 U;exact .inr ⟨d,(d8 d).2 hd,rfl⟩
    exact range _ (by simp [O]) (by simp [X]) (by simp [I]) (by simp) (by simp [b6]) (by simp [e]) (by simp [Y]) (by simp)
   ·have j7:j=s.cs.length:=by omega
    subst j7;apply ai;simp [e,Y];refine aq (aD (by simp) ?_);refine ba (k':=[.code mv]) rfl ?_;rw [ac0]at m;exact a_ _ J _ c o (by simp [O]) (by simp [X]) (by simp [I]) h0 S B A (by omega) M m
  apply ai;simp [bF.row];apply aq;apply ai;simp [a8,show¬ u < -2251799813685248 by omega,show¬ 2251799813685248<v by omega,show¬ v<u by omega];refine bg (by simp) ?_;apply aq;apply ai;simp [aK (n:=v-u),show¬ 5760000<v-u by omega];refine bg (by simp) ?_;apply ai;simp;apply aq;apply ai;simp [show¬ u=v by omega];refine bg (by simp) ?_;exact a _ (by simp) (by simp) (by simp)
 obtain⟨r,⟨g,L,S,B,h3,rfl⟩,h⟩:=key;exact⟨g,L,S,B,h.eq⟩
end Go.Proofs.YthkmdpgdicohdaaGreat
