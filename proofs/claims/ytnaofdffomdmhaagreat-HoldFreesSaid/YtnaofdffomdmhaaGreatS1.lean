/-
  ali the nb km and the mC answer, for all arguments of their kind, in the small machine: part 1.
-/
import Derived.Test.YtnaofdffomdmhaaGreatTab
import Derived.Test.YtnaofdffomdmhaaGreatK4
open Option renaming some → aa,none → ab
open Bool renaming true → ae,false → ag
open List renaming drop_eq_getElem_cons → arM, getElem_mem → anc, append_nil → as1, getElem?_append_left → AT, mem_cons → asv, pairwise_iff_getElem → as0, getElem?_set_self → IN, getElem?_set_ne → AI, set_getElem_self → att, getElem_of_mem → asZ, append_assoc → asT, getElem?_eq_getElem → By, map_cons → asq, mem_cons_self → asn, mem_cons_of_mem → asm, rel_of_pairwise_cons → atd, take_add_one → asQ, filter_append → at9, length_map → asi, length_filter_le → atu, length_take → ast, take_of_length_le → arf, mem_map → asH, map_nil → asA, cons_append → ati, nil_append → as9, findIdx?_eq_some_iff_getElem → atl, pairwise_cons → ata, pairwise_map → auc, mem_append → asw, all_eq_true → asC, take_length → asK, drop_length → atv, mem_singleton → asj, drop_zero → atf, take_take → atF
open Bool renaming true_and → as3, and_eq_true → If, eq_iff_iff → atn
open Nat renaming lt_of_lt_of_le → asJ, le_trans → asz, le_refl → aft, sub_self → at2, lt_trichotomy → atk, gcd → aue, min_eq_left → as8
open List.Pairwise renaming of_cons → atZ
open Int renaming tmod_eq_emod_of_nonneg → atp, tdiv_eq_ediv_of_nonneg → at3, ediv_nonneg → atU, le_trans → aur, ediv_le_self → atQ, mul_nonneg → atw, mul_le_mul → aua, emod_nonneg → asV, emod_lt_of_pos → asO, mul_le_mul_of_nonneg_left → asx, tmod_lt_of_pos → aun, lt_tmod_of_pos → auo, emod_eq_emod_iff_emod_sub_eq_zero → at6, dvd_mul_right → at0, gcd → atC, lt_or_le → atq, emod_add_mul_ediv → as7, mul_comm → atK, mul_sub → auf, mul_assoc → atV, mul_left_comm → aup, dvd_sub → atA, dvd_mul_left → aug, dvd_trans → atD, gcd_dvd_left → auh, gcd_dvd_right → auq, gcd_pos_of_ne_zero_left → at1, ediv_mul_cancel → aul, natCast_mul → atT, mul_le_mul_of_nonneg_right → aui
open Option.some renaming inj → at8
set_option linter.unusedVariables false
set_option linter.constructorNameAsVariable false
set_option linter.unusedSimpArgs false
set_option linter.unusedSectionVars false
set_option linter.unnecessarySimpa false
set_option maxRecDepth 100000
namespace Go.Proofs.YtnaofdffomdmhaaGreat
open Go Km
def bO(n lo hi:Int):Bool:=decide (lo≤n)&&decide (n≤hi)
theorem ri{n lo hi:Int}(h:bO n lo hi=ae):lo≤n∧n≤hi:=by simpa [bO]using h
theorem PA(n lo hi:Int):Kf tab 193 [vi n,vi lo,vi hi] (vb (bO n lo hi)):=by
 refine cT rfl rfl fun H Q b=>?_;apply ak;refine al (.inl rfl) ?_;simp;apply ak;refine al (.inl rfl) ?_;by_cases h:lo≤n
 ·simp [h];refine aB (b _ _ ?_);simp [bO,h]
 ·simp [h];refine aB (b _ _ ?_);simp [bO,h]
@[simp] theorem ann (n lo hi:Int):bh tab 193 [vi n,vi lo,vi hi]=Eq (vb (bO n lo hi)):=(PA n lo hi).eq
theorem rN(g:Tg)(l:List Int)(v:Int)(b:l.length≤9223372036854775807) :
  Kf tab 272 [.c (.f (sl g (ints l))),vi v] (vb (l.any (· == v))):=
 gi ak7 (zo alc g l v b)
structure cF where
 cap:Int
 jn:Int
 oP:Int
 (o0 o1 o2 o3 o4 o5 o6 o7 o8 o9:FC)
 qg:Tg
 q:List (Int × Int)
 pg:Tg
 p:List Int
def gm(l:List (Int × Int)):List (List FC):=l.map fun x=>[fi x.1,fi x.2]
@[simp] theorem anl (l:List (Int × Int)):(gm l).length=l.length:=by simp [gm]
theorem vC(l:List (Int × Int)):cC 2 (gm l):=cC.map fun _=>rfl
theorem BO{l:List (Int × Int)}{j:Nat}(b:j<l.length):(gm l)[j]?=aa [fi l[j].1,fi l[j].2]:=by simp [gm,b]
def cF.op(r:cF):List C:=[.f r.o0,.f r.o1,.f r.o2,.f r.o3,.f r.o4,.f r.o5,.f r.o6,.f r.o7,.f r.o8,.f r.o9]
def cF.row(r:cF):List FC:=[fi r.cap,fi r.jn,fi r.oP,r.o0,r.o1,r.o2,r.o3,r.o4,r.o5,r.o6,r.o7,r.o8,r.o9,sl r.qg (gm r.q),sl r.pg (ints r.p)]
def rows(l:List cF):List (List FC):=l.map cF.row
@[simp] theorem apw (l:List cF):(rows l).length=l.length:=by simp [rows]
theorem gn(l:List cF):cC 15 (rows l):=cC.map fun _=>rfl
theorem pQ{l:List cF}{j:Nat}(b:j<l.length):(rows l)[j]?=aa l[j].row:=by simp [rows,b]
def kP(r:cF):Prop:=bh tab 190 [.a r.op] (vi 0)
def tW(r:cF):Bool:=decide (64<(r.q.length:Int))||decide (64<(r.p.length:Int))
def BW(l:List cF)(p:Int):Nat:=((l[p.toNat]?).map (·.p.length)).getD 0
theorem ah5{l:List cF}{p:Int}(h0:0≤p)(b:p.toNat<l.length):BW l p=(l[p.toNat]).p.length:=by simp [BW,b]
def jN(b:Int):List (Int × Int)→Bool
 | []=>ae| x::r=>bO x.1 (b+1) 63&&bO x.2 0 10080&&jN x.1 r
def mz(l:List cF)(i b:Int):List Int→Bool
 | []=>ae| p::r=>bO p (b+1) ((l.length:Int)-1)&&!decide (p=i)&&decide (BW l p=0)&&mz l i p r
def ff(l:List cF)(i:Nat)(r:cF):Bool:=
 bO r.cap 1 512&&bO r.jn 0 1440&&bO r.oP 0 1440&&jN (-1) r.q&&mz l i (-1) r.p
def gW(l:List cF):Nat→List cF→Bool
 | _,[]=>ae| i,r::b=>ff l i r&&gW l (i+1) b
def oD(l:List cF):Int:=if l.any tW then 2 else if gW l 0 l then 0 else 1
theorem alv(r:cF)(j:kP r):Kf tab 189 [.a (r.row.map .f)] (vb (tW r)):=by
 refine cT rfl rfl fun H Q d=>?_;have g:=bh.eq j;simp only [cF.op]at g;apply ak;refine al (.inl rfl) ?_;simp [cF.row];apply ak;refine al (.inl rfl) ?_;simp;refine Fe (fun h=>?_) (fun h=>?_)
 ·simp [h];refine Fe (fun b=>?_) (fun b=>?_)
  ·simp [b,g];refine aB (d _ _ ?_);simp [tW,h,b]
  ·simp [b];refine aB (d _ _ ?_);simp [tW,h,b]
 ·simp [h];refine aB (d _ _ ?_);simp [tW,h]
theorem NT(g:Tg)(l:List cF)(q:l.length≤6)(d:∀ r ∈ l,kP r) :
  Kf tab 191 [.c (.f (sl g (rows l))),.c (.f (.fn 189 []))] (vb (l.any tW)):=
 gi ak4 (kr ak_ l cF.row (fun r=>.a (r.row.map .f)) tW g 189 [] (by omega)
  (fun j b H=>cf (gn l) (pQ b)) (fun r m=>alv r (d r m)))
structure bT where
 hg:Tg
 head:List Int
 fr:Int
 fq:Int
 cg:Tg
 jJ:List Int
def bT.row(p:bT):List FC:=[sl p.hg (ints p.head),fi p.fr,fi p.fq,sl p.cg (ints p.jJ)]
def aY(l:List bT):List (List FC):=l.map bT.row
@[simp] theorem BQ (l:List bT):(aY l).length=l.length:=by simp [aY]
theorem cu(l:List bT):cC 4 (aY l):=cC.map fun _=>rfl
theorem dY{l:List bT}{j:Nat}(b:j<l.length):(aY l)[j]?=aa l[j].row:=by simp [aY,b]
def eO(b d:Int):List Int→Bool
 | []=>ae| n::r=>decide (d<n)&&decide (n<b)&&eO b n r
theorem zG{b d:Int}{l:List Int}{j:Nat}(g:j<l.length):eO b d (l.drop j)=(decide (d<l[j])&&decide (l[j]<b)&&eO b l[j] (l.drop (j+1))):=by
 rw [arM g];rfl
def gv(p:bT):Bool:=decide (0≤p.fr)&&decide (p.fr≤1099511627776)&&decide (1≤p.fq)&&decide (p.fq≤1099511627776) &&
 decide ((p.head.length:Int)+p.jJ.length≤1048576)&&eO p.fr (-1) p.head&&eO p.fq (-1) p.jJ
theorem Pn(g:Tg)(l:List Int)(b:Int)(E:l.length≤9223372036854775807):Kf tab 249 [.c (.f (sl g (ints l))),vi b] (vb (eO b (-1) l)):=by
 refine cT rfl rfl fun H Q u=>?_;apply ai;simp;apply ai;simp;apply ak;apply ai;simp;refine bW l.length (fun j t H'=>t.g 1=vi b∧t.g 8=.c (.f (sl g (ints l)))∧H=H'∧∃ d,t.g 5=vi d∧eO b (-1) l=eO b d (l.drop j)) E (by decide) (by decide) (by simp) (by simp) (by simp) ?_ ?_
 ·rintro j t _ z ⟨q,s,rfl,d,x,m⟩ v y next
  rw [zG z]at m;refine aG ?_;apply ai;simp [v,s,bC,z,jw];apply ak;apply ai;simp [x,q];by_cases A:l[j]≤d
  ·simp [A];refine aq (by simp) ?_;apply ai;simp;refine aB (u _ _ ?_);simp [m,show¬ d<l[j] by omega]
  simp [A,q];by_cases B:b≤l[j]
  ·simp [B];refine aq (by simp) ?_;apply ai;simp;refine aB (u _ _ ?_);simp [m,show¬ l[j]<b by omega]
  simp [B];refine aD (by simp) ?_;refine aO ?_;refine al (.inl rfl) ?_;simp;refine aw (next _ _ ?_ (by simp [v]) (by simp [y]));rw [decide_eq_true (by omega),decide_eq_true (by omega)]at m;exact⟨by simp [q],by simp [s],rfl,l[j],by simp,by simpa using m⟩
 ·rintro t _ ⟨q,s,rfl,d,x,m⟩ v y;apply ai;simp;refine aB (u _ _ ?_);simp [m,eO]
theorem yv(g:Tg)(l:List Int)(b:Int)(d:l.length≤9223372036854775807) :
  bh tab 249 [.c (.f (sl g (ints l))),vi b]=Eq (vb (eO b (-1) l)):=(Pn g l b d).eq
theorem amt(p:bT)(s:p.head.length≤9223372036854775807)(u:p.jJ.length≤9223372036854775807)(h:p.head.length+p.jJ.length≤9223372036854775807) :
  Kf tab 168 [.a (p.row.map .f)] (vb (gv p)):=by
 refine cT rfl rfl fun H Q b=>?_;apply ai;simp [bT.row];apply ai;simp;by_cases d:0≤p.fr
 case neg=>
  simp [d];refine aB (b _ _ ?_);simp [gv,d]
 simp [d];by_cases g:p.fr≤1099511627776
 case neg=>
  simp [g];refine aB (b _ _ ?_);simp [gv,g]
 simp [g];by_cases j:1≤p.fq
 case neg=>
  simp [j];refine aB (b _ _ ?_);simp [gv,j]
 simp [j];by_cases l:p.fq≤1099511627776
 case neg=>
  simp [l];refine aB (b _ _ ?_);simp [gv,l]
 simp [l,aU (n:=(p.head.length:Int)+p.jJ.length)];by_cases m:(p.head.length:Int)+p.jJ.length≤1048576
 case neg=>
  simp [m];refine aB (b _ _ ?_);simp [gv,m]
 simp [m,yv p.hg p.head p.fr s];cases q:eO p.fr (-1) p.head
 ·simp;refine aB (b _ _ ?_);simp [gv,q]
 simp [yv p.cg p.jJ p.fq u];refine aB (b _ _ ?_);simp [gv,d,g,j,l,m,q]
def bT.Sm(p:bT):Prop:=p.head.length+p.jJ.length≤9223372036854775807
theorem abq(p:bT)(h:p.Sm):bh tab 168 [.a (p.row.map .f)]=Eq (vb (gv p)):=by
 have h:p.head.length+p.jJ.length≤9223372036854775807:=h;exact(amt p (by omega) (by omega) h).eq
theorem FD{p:bT}(h:gv p=ae):p.Sm:=by
 simp [gv]at h;show p.head.length+p.jJ.length≤9223372036854775807;omega
structure dP where
 tg:Tg
 fs:List bT
def dP.row(t:dP):List FC:=[sl t.tg (aY t.fs)]
def aJ(l:List dP):List (List FC):=l.map dP.row
@[simp] theorem ai0 (l:List dP):(aJ l).length=l.length:=by simp [aJ]
theorem iu(l:List dP):cC 1 (aJ l):=cC.map fun _=>rfl
theorem jR{l:List dP}{j:Nat}(b:j<l.length):(aJ l)[j]?=aa l[j].row:=by simp [aJ,b]
def dP.Sm(t:dP):Prop:=t.fs.length≤9223372036854775807∧∀ p ∈ t.fs,p.Sm
def jQ(t:dP):Bool:=decide (1≤(t.fs.length:Int))&&decide ((t.fs.length:Int)≤4)&&t.fs.all gv
def nw(l:List dP):Bool:=decide ((l.length:Int)≤64)&&l.all jQ
theorem ZT{b:Type}{l:List b}{p:b→Bool}{j:Nat}(d:j<l.length):(l.drop j).all p=(p l[j]&&(l.drop (j+1)).all p):=by
 rw [arM d,List.all_cons]
theorem als(p:bT)(h:p.Sm):Kf tab 167 [.a (p.row.map .f)] (vb (!gv p)):=by
 refine cT rfl rfl fun H Q d=>?_;have b:=abq p h;simp [bT.row]at b;apply ai;simp [bT.row];apply ai;simp [b];refine aB (d _ _ ?_);simp
theorem NS(g:Tg)(l:List bT)(d:l.length≤9223372036854775807)(h:∀ p ∈ l,p.Sm) :
  bh tab 166 [.c (.f (sl g (aY l))),.c (.f (.fn 167 []))]=Eq (vb (l.any fun p=>!gv p)):=
 (gi ZI (kr ZJ l bT.row (fun r=>.a (r.row.map .f)) (fun p=>!gv p) g 167 [] d
  (fun j b H=>cf (cu l) (dY b)) (fun p m=>als p (h p m)))).eq
theorem DL(g:Tg)(l:List dP)(F:l.length≤9223372036854775807)(h:∀ t ∈ l,t.Sm):Kf tab 98 [.a [.f (sl g (aJ l))]] (vb (nw l)):=by
 refine cT rfl rfl fun H Q u=>?_;apply ai;simp;apply ak;apply ai;simp;by_cases z:(64:Int)<l.length
 ·simp [z];refine aq (by simp) ?_;apply ai;simp;refine aB (u _ _ ?_);simp [nw,show¬ (l.length:Int)≤64 by omega]
 simp [z];refine aD (by simp) ?_;refine aO ?_;apply ak;apply ai;simp;refine bW l.length (fun j t H'=>t.g 10=.c (.f (sl g (aJ l)))∧(∃ J,H'=H++J)∧l.all jQ=(l.drop j).all jQ) F (by decide) (by decide) (by simp) (by simp) (by simp) ?_ ?_
 ·rintro j t _ q ⟨d,⟨J,rfl⟩,m⟩ v x next
  rw [ZT q]at m;have y:=h l[j] (anc q);have b:=ib (H:=H++J) (k:=0) (iu l) (jR q) rfl;refine aG ?_;apply ai;simp at b;simp [v,d,bC,q,b];have bad:jQ l[j]=ag→∀(t:T) (J:aj) k,WP tab 98 ab (.code (.region [⟨D 2,.a7 (.k (.c (.f (.bool ag)))),ab⟩] [])::.code .ret::k) ⟨t,[],H++J⟩ Q:=by
   intro E t J k;refine al (.inl rfl) ?_;simp;refine aB (u _ _ ?_);simp [nw,m,E]
  apply ai;simp;by_cases A:(l[j].fs.length:Int)<1
  ·simp [A];exact aq (by simp) (ak (bad (by simp [jQ,show¬ 1≤(l[j].fs.length:Int) by omega]) _ _ _))
  simp [A];by_cases B:(4:Int)<l[j].fs.length
  ·simp [B];exact aq (by simp) (ak (bad (by simp [jQ,show¬ (l[j].fs.length:Int)≤4 by omega]) _ _ _))
  simp [B,NS l[j].tg l[j].fs y.1 y.2];cases s:l[j].fs.any fun p=>!gv p
  ·have:jQ l[j]=ae:=by
    simp [jQ]at s ⊢;exact⟨⟨by omega,by omega⟩,s⟩
   refine aD (by simp) ?_;refine aO (aw (next _ _ ?_ (by simp [v]) (by simp [x])));rw [this,as3]at m;exact⟨by simp [d],⟨_,rfl⟩,m⟩
  ·exact aq (by simp) (ak (bad (by simp [jQ]at s ⊢;intro _ _;exact s) _ _ _))
 ·rintro t _ ⟨d,⟨J,rfl⟩,m⟩ v x;apply ai;simp;refine aB (u _ _ ?_);simp [nw,m,show(l.length:Int)≤64 by omega]
theorem pk(a:Int):bh tab 130 [vi a]=Eq (vb ag):=(show Kf tab 130 [vi a] (vb ag) by
 refine cT rfl rfl fun H Q b=>?_;apply ai;simp;apply ai;simp;refine aB (b _ _ ?_);simp).eq
def ef(a b:Int):Int:=if a<b then -1 else if b<a then 1 else 0
theorem C9(a b:Int):Kf tab 72 [vi a,vi b] (vi (ef a b)):=by
 refine cT rfl rfl fun H Q g=>?_;apply ai;simp;apply ai;simp [pk];apply ai;simp [pk];apply ak;apply ai;simp;refine bp (by simp) ?_;apply ak;apply ai;simp;refine bp (by simp) ?_;apply ak;apply ai;simp;by_cases h:a<b
 ·refine aq (by simp [h]) ?_;apply ai;simp;refine aB (g _ _ ?_);simp [ef,h]
 refine bp (by simp [h]) ?_;apply ak;apply ai;simp;by_cases d:b<a
 ·refine aq (by simp [d]) ?_;apply ai;simp;refine aB (g _ _ ?_);simp [ef,h,d]
 refine bp (by simp [d]) ?_;apply ai;simp;refine aB (g _ _ ?_);simp [ef,h,d]
theorem ga(a b:Int):bh tab 72 [vi a,vi b]=Eq (vi (ef a b)):=(C9 a b).eq
def BI:List Int→Int
 | []=>0| a::r=>if a=0 then BI r else a
theorem abl{l:List Int}{j:Nat}(b:j<l.length):BI (l.drop j)=if l[j]=0 then BI (l.drop (j+1))else l[j]:=by
 rw [arM b];rfl
theorem apn(g:Tg)(l:List Int)(x:l.length≤9223372036854775807):Kf tab 76 [.c (.f (sl g (ints l)))] (vi (BI l)):=by
 refine cT rfl rfl fun H Q s=>?_;apply ai;simp;apply ai;simp;apply ak;apply ai;simp;refine bW l.length (fun j t H'=>t.g 3=vi 0∧t.g 6=.c (.f (sl g (ints l)))∧H=H'∧BI l=BI (l.drop j)) x (by decide) (by decide) (by simp) (by simp) (by simp) ?_ ?_
 ·rintro j t _ v ⟨d,m,rfl,b⟩ q u next
  rw [abl v]at b;refine aG ?_;apply ai;simp [q,m,bC,v,jw];apply ai;simp [d];by_cases h:l[j]=0
  ·refine aD (by simp [h]) ?_;refine aO (aw (next _ _ ?_ (by simp [q]) (by simp [u])));rw [ba h]at b;exact⟨by simp [d],by simp [m],rfl,b⟩
  ·refine aq (by simp [h]) ?_;apply ai;simp;refine aB (s _ _ ?_);simp [b,h]
 ·rintro t _ ⟨d,m,rfl,b⟩ q u;apply ai;simp [d];refine aB (s _ _ ?_);simp [b,BI]
theorem yh(g:Tg)(l:List Int)(b:l.length≤9223372036854775807):bh tab 76 [.c (.f (sl g (ints l)))]=Eq (vi (BI l)):=(apn g l b).eq
theorem alH(n lo hi:Int):Kf tab 97 [vi n,vi lo,vi hi] (vb (bO n lo hi)):=by
 refine cT rfl rfl fun H Q b=>?_;apply ai;simp;apply ai;by_cases h:lo≤n
 ·simp [h];refine aB (b _ _ ?_);simp [bO,h]
 ·simp [h];refine aB (b _ _ ?_);simp [bO,h]
@[simp] theorem aqQ (n lo hi:Int):bh tab 97 [vi n,vi lo,vi hi]=Eq (vb (bO n lo hi)):=(alH n lo hi).eq
structure aM where
 day:Int
 fr:Int
 to:Int
deriving DecidableEq
def aM.row(x:aM):List FC:=[fi x.day,fi x.fr,fi x.to]
def aH(l:List aM):List (List FC):=l.map aM.row
@[simp] theorem iZ (l:List aM):(aH l).length=l.length:=by simp [aH]
theorem bz(l:List aM):cC 3 (aH l):=cC.map fun _=>rfl
theorem gl{l:List aM}{j:Nat}(b:j<l.length):(aH l)[j]?=aa l[j].row:=by simp [aH,b]
def gJ(x y:aM):Int:=BI [ef x.fr y.fr,ef x.day y.day,ef x.to y.to]
theorem abn(x y:aM):Kf tab 99 [.a (x.row.map .f),.a (y.row.map .f)] (vi (gJ x y)):=by
 refine cT rfl rfl fun H Q d=>?_;have b:=yh .fs [ef x.fr y.fr,ef x.day y.day,ef x.to y.to] (by simp);simp [ints,sl,Tg.fc]at b;apply ai;simp [aM.row];apply ai;simp [ga,deep,lJ,pF,b];refine aB (d _ _ ?_);simp [gJ]
theorem vz(x y:aM):bh tab 99 [.a (x.row.map .f),.a (y.row.map .f)]=Eq (vi (gJ x y)):=(abn x y).eq
theorem aa'(g:Tg)(l:List dP)(b:l.length≤9223372036854775807)(h:∀ t ∈ l,t.Sm):bh tab 98 [.a [.f (sl g (aJ l))]]=Eq (vb (nw l)):=(DL g l b h).eq
structure cN where
 mg:Tg
 ts:List dP
 min:Int
def cN.row(c:cN):List FC:=[sl c.mg (aJ c.ts),fi c.min]
def aL(l:List cN):List (List FC):=l.map cN.row
@[simp] theorem wG (l:List cN):(aL l).length=l.length:=by simp [aL]
theorem cY(l:List cN):cC 2 (aL l):=cC.map fun _=>rfl
theorem eg{l:List cN}{j:Nat}(b:j<l.length):(aL l)[j]?=aa l[j].row:=by simp [aL,b]
structure aT where
 cg:Tg
 cs:List cN
 len:Int
 xg:Tg
 xs:List aM
def aT.row(s:aT):List FC:=[sl s.cg (aL s.cs),fi s.len,sl s.xg (aH s.xs)]
def aT.Sm(s:aT):Prop:=s.cs.length≤9223372036854775807∧s.xs.length≤9223372036854775807∧∀ c ∈ s.cs,c.ts.length≤9223372036854775807∧∀ t ∈ c.ts,t.Sm
def eT:Option Int→List cN→Bool
 | _,[]=>ae| prev,c::r=>nw c.ts&&bO c.min (-4320) 4320&&(prev.all fun m=>decide (m<c.min))&&eT (aa c.min) r
def pc(x:aM):Bool:=bO x.day 0 1099511627776&&bO x.fr (-2251799813685248) 1583296743997439&&bO x.to (x.fr+1) (x.fr+10080)
def iK:Option aM→List aM→Bool
 | _,[]=>ae| prev,x::r=>pc x&&(prev.all fun m=>decide (gJ m x<0))&&iK (aa x) r
def en(s:aT):Bool:=decide ((s.cs.length:Int)≤64)&&bO s.len 1 10080&&decide ((s.xs.length:Int)≤4096)&&eT ab s.cs&&iK ab s.xs
theorem wH{p:Option Int}{l:List cN}{j:Nat}(b:j<l.length):eT p (l.drop j)=(nw l[j].ts&&bO l[j].min (-4320) 4320&&(p.all fun m=>decide (m<l[j].min))&&eT (aa l[j].min) (l.drop (j+1))):=by
 rw [arM b];rfl
theorem Bd{p:Option aM}{l:List aM}{j:Nat}(b:j<l.length):iK p (l.drop j)=(pc l[j]&&(p.all fun m=>decide (gJ m l[j]<0))&&iK (aa l[j]) (l.drop (j+1))):=by
 rw [arM b];rfl
theorem jk(s:aT)(h:s.Sm):Kf tab 53 [.a (s.row.map .f)] (vb (en s)):=by
 obtain⟨hc,hx,S⟩:=h;refine cT rfl rfl fun H Q hQ=>?_;have bad:en s=ag→∀(t:T) (J:aj) k,WP tab 53 ab (.code (.region [⟨D 2,.a7 (.k (.c (.f (.bool ag)))),ab⟩] [])::.code .ret::k) ⟨t,[],H++J⟩ Q:=by
  intro hf t J k;refine al (.inl rfl) ?_;simp;refine aB (hQ _ _ ?_);simp [hf]
 apply ai;simp [aT.row];apply ak;apply ai;simp;by_cases k1:(64:Int)<s.cs.length
 ·simp [k1];exact aq (by simp) (ak (bad (by simp [en,show¬ (s.cs.length:Int)≤64 by omega]) _ _ _))
 simp [k1];cases k2:bO s.len 1 10080
 ·simp;exact aq (by simp) (ak (bad (by simp [en,k2]) _ _ _))
 simp;by_cases k3:(4096:Int)<s.xs.length
 ·simp [k3];exact aq (by simp) (ak (bad (by simp [en,show¬ (s.xs.length:Int)≤4096 by omega]) _ _ _))
 simp [k3];have hS:en s=(eT ab s.cs&&iK ab s.xs):=by simp [en,k2,show(s.cs.length:Int)≤64 by omega,show(s.xs.length:Int)≤4096 by omega]
 rw [hS]at bad;refine aD (by simp) ?_;refine aO ?_;apply ak;apply ai;simp;obtain⟨l,v⟩:=aI ([C.f (sl s.cg (aL s.cs)),C.f (fi s.len),C.f (sl s.xg (aH s.xs))]);rw [←v];have a8:l.drop 0=[C.f (sl s.cg (aL s.cs)),C.f (fi s.len),C.f (sl s.xg (aH s.xs))]:=by rw [v];rfl
 have O:l.drop 2=[C.f (sl s.xg (aH s.xs))]:=by rw [v];rfl
 have M:l=C.f (sl s.cg (aL s.cs))::[C.f (fi s.len),C.f (sl s.xg (aH s.xs))]:=v;refine bW s.cs.length (fun j t H'=>t.g 1=.c (.ptr H.length 0 0)∧t.g 25=.c (.f (sl s.cg (aL s.cs)))∧(∃ J,H'=H++(.box l 0::J)) ∧
  ∃ d,(∀ m,j=m+1→∀ h:m<s.cs.length,d=aa (s.cs[m]'h).min)∧(j=0→d=ab)∧eT ab s.cs=eT d (s.cs.drop j)) hc (by decide) (by decide) (by simp) (by simp)
   ⟨by simp,by simp,⟨[],by simp⟩,ab,by omega,by simp,by simp⟩ ?_ ?_
 ·rintro j t _ F ⟨x,A,⟨J,rfl⟩,d,X,Y,u⟩ E K next
  rw [wH F]at u;have L:=cf (H:=H++(.box l 0::J)) (cY s.cs) (eg F);have z:=aa' s.cs[j].mg s.cs[j].ts (S _ (anc F)).1 (S _ (anc F)).2;refine aG ?_;apply ai;simp [E,A,bC,F,L,cN.row];apply ai;simp [z];cases U:nw s.cs[j].ts
  ·simp;exact aq (by simp) (ak (bad (by simp [u,U]) _ _ _))
  simp;cases N:bO s.cs[j].min (-4320) 4320
  ·simp;exact aq (by simp) (ak (bad (by simp [u,N]) _ _ _))
  simp;have go:(d.all fun m=>decide (m<s.cs[j].min))=ae→∃ g,(∀ m,j+1=m+1→∀ h:m<s.cs.length,g=aa (s.cs[m]'h).min)∧(j+1=0→g=ab)∧eT ab s.cs=eT g (s.cs.drop (j+1)):=by
   intro hp;rw [U,N,hp,as3,as3,as3]at u;refine⟨aa s.cs[j].min,fun m z h=>?_,by omega,u⟩;have:m=j:=by omega
   subst this;rfl
  cases j with
  | zero=>
   simp;refine aD (by simp) ?_;refine aO (aw (next _ _ ?_ (by simp [E]) (by simp [K])));exact⟨by simp [x],by simp [A],⟨_,rfl⟩,go (by rw [Y rfl];rfl)⟩
  | succ m=>
   have z:m<s.cs.length:=by omega
   have y:=X m rfl z;have e1:((m+1:Nat):Int)-1=m:=by omega
   have q:=ib (H:=H++(bq.box l 0 ::(J++[bq.box [C.f (sl s.cs[m+1].mg (aJ s.cs[m+1].ts)),C.f (fi s.cs[m+1].min)] 0]))) (k:=1) (cY s.cs) (eg z) rfl;rw [M]at q;simp [show 0<m+1 by omega,x,M,aU (n:=(m:Int)),bC,z,q];by_cases W:s.cs[m+1].min≤s.cs[m].min
   ·simp [W];have b:=bad (by simp [u,y,show¬ s.cs[m].min<s.cs[m+1].min by omega]);refine aq (by simp) ?_;exact ak (b _ _ _)
   ·simp [W];refine aD (by simp) ?_;refine aO (aw (next _ _ ?_ (by simp [E]) (by simp [K])));exact⟨by simp [x],by simp [A],⟨_,by rw [M]⟩,go (by rw [y];simp;omega)⟩
 ·rintro t _ ⟨x,A,⟨J,rfl⟩,d,X,Y,u⟩ E K;have hC:eT ab s.cs=ae:=by rw [u];simp [eT]
  rw [hC,as3]at bad hS;apply ak;apply ai;simp [x,O];refine bW s.xs.length (fun j t H'=>t.g 1=.c (.ptr H.length 0 0)∧t.g 60=.c (.f (sl s.xg (aH s.xs)))∧(∃ J,H'=H++(.box l 0::J)) ∧
   ∃ d,(∀ m,j=m+1→∀ h:m<s.xs.length,d=aa (s.xs[m]'h))∧(j=0→d=ab)∧iK ab s.xs=iK d (s.xs.drop j)) hx (by decide) (by decide) (by simp) (by simp)
    ⟨by simp [x],by simp,⟨J,by simp⟩,ab,by omega,by simp,by simp⟩ ?_ ?_
  ·rintro j t _ F ⟨x,B,⟨J,rfl⟩,d,X,Y,u⟩ E K next
   rw [Bd F]at u;have L:=cf (H:=H++(.box l 0::J)) (bz s.xs) (gl F);refine aG ?_;apply ai;simp [E,B,bC,F,L,aM.row];have off:pc s.xs[j]=ag→∀(t:T) (J:aj) k,t.g 7=vb ag→WP tab 53 ab (.code EH::k) ⟨t,[],H++J⟩ Q:=by
    intro hf t J k g7;apply ai;simp [g7];exact aq (by simp) (ak (bad (by simp [u,hf]) _ _ _))
   have go:pc s.xs[j]=ae→(d.all fun m=>decide (gJ m s.xs[j]<0))=ae→∃ g,(∀ m,j+1=m+1→∀ h:m<s.xs.length,g=aa (s.xs[m]'h))∧(j+1=0→g=ab)∧iK ab s.xs=iK g (s.xs.drop (j+1)):=by
    intro Z hp;rw [Z,hp,as3,as3]at u;refine⟨aa s.xs[j],fun m z h=>?_,by omega,u⟩;have:m=j:=by omega
    subst this;rfl
   apply ai;simp;cases U:bO s.xs[j].day 0 1099511627776
   ·simp;exact off (by simp [pc,U]) _ _ _ (by simp)
   simp;cases N:bO s.xs[j].fr (-2251799813685248) 1583296743997439
   ·simp;exact off (by simp [pc,N]) _ _ _ (by simp)
   have w5:=ri N;simp [aU (n:=s.xs[j].fr+1),aU (n:=s.xs[j].fr+10080)];cases W:bO s.xs[j].to (s.xs[j].fr+1) (s.xs[j].fr+10080)
   ·exact off (by simp [pc,W]) _ _ _ (by simp)
   have Z:pc s.xs[j]=ae:=by simp [pc,U,N,W]
   apply ai;simp;cases j with
   | zero=>
    simp;refine aD (by simp) ?_;refine aO (aw (next _ _ ?_ (by simp [E]) (by simp [K])));exact⟨by simp [x],by simp [B],⟨_,rfl⟩,go Z (by rw [Y rfl];rfl)⟩
   | succ m=>
    have z:m<s.xs.length:=by omega
    have y:=X m rfl z;have e1:((m+1:Nat):Int)-1=m:=by omega
    have q:=cf (H:=H++(.box l 0 ::(J++[bq.box [C.f (fi s.xs[m+1].day),C.f (fi s.xs[m+1].fr),C.f (fi s.xs[m+1].to)] 0]))) (bz s.xs) (gl z);have I:=vz s.xs[m] s.xs[m+1];simp [aM.row]at I q;simp [show 0<m+1 by omega,x,O,aU (n:=(m:Int)),bC,z,q,I];by_cases k7:0≤gJ s.xs[m] s.xs[m+1]
    ·simp [k7];have b:=bad (by simp [u,y,show¬ gJ s.xs[m] s.xs[m+1]<0 by omega]);refine aq (by simp) ?_;exact ak (b _ _ _)
    ·simp [k7];refine aD (by simp) ?_;refine aO (aw (next _ _ ?_ (by simp [E]) (by simp [K])));exact⟨by simp [x],by simp [B],⟨_,rfl⟩,go Z (by rw [y];simp;omega)⟩
  ·rintro t _ ⟨x,B,⟨J,rfl⟩,d,X,Y,u⟩ E K;have hX:iK ab s.xs=ae:=by rw [u];simp [iK]
   apply ai;simp;refine aB (hQ _ _ ?_);simp [hS,hX]
theorem zF{b:Int}{q:List (Int × Int)}{j:Nat}(d:j<q.length):jN b (q.drop j)=(bO q[j].1 (b+1) 63&&bO q[j].2 0 10080&&jN q[j].1 (q.drop (j+1))):=by
 rw [arM d];rfl
theorem BP{l:List cF}{i b:Int}{p:List Int}{j:Nat}(d:j<p.length) :
  mz l i b (p.drop j)=(bO p[j] (b+1) ((l.length:Int)-1)&&!decide (p[j]=i)&&decide (BW l p[j]=0)&&mz l i p[j] (p.drop (j+1))):=by
 rw [arM d];rfl
theorem Pe(g:Tg)(l:List cF)(i:Nat)(hi:i<l.length)(hl:l.length≤6)(ho:∀ r ∈ l,kP r)(hq:l[i].q.length≤64)(hp:l[i].p.length≤64) :
  Kf tab 192 [.c (.f (sl g (rows l))),vi i] (vb (ff l i l[i])):=by
 refine cT rfl rfl fun H Q m=>?_;obtain⟨r,hr⟩:=aI (l[i]);have X:=bh.eq (ho _ (anc hi));rw [←hr]at X hq hp m;simp only [cF.op]at X;have K:=cf (H:=H) (gn l) (pQ hi);rw [←hr]at K;apply ak;refine al (.inl rfl) ?_;simp;apply ak;refine al (.inl rfl) ?_;simp [bC,hi,K,cF.row];apply ak;apply ak;refine al (.inl rfl) ?_;simp;cases h1:bO r.cap 1 512
 case false=>
  simp;refine aq (by simp) ?_;apply ai;simp;refine aB (m _ _ ?_);simp [ff,h1]
 simp;cases h2:bO r.jn 0 1440
 case false=>
  simp;refine aq (by simp) ?_;apply ai;simp;refine aB (m _ _ ?_);simp [ff,h2]
 simp;cases h3:bO r.oP 0 1440
 case false=>
  simp;refine aq (by simp) ?_;apply ai;simp;refine aB (m _ _ ?_);simp [ff,h3]
 simp [X];refine aD (by simp) ?_;refine aO ?_;apply ai;simp;apply ak;apply ak;refine al (.inl rfl) ?_;simp;obtain⟨F,q⟩:=aI ([C.f (fi r.cap),C.f (fi r.jn),C.f (fi r.oP),C.f r.o0,C.f r.o1,C.f r.o2,C.f r.o3,C.f r.o4,C.f r.o5,C.f r.o6,C.f r.o7,C.f r.o8,C.f r.o9,C.f (sl r.qg (gm r.q)),C.f (sl r.pg (ints r.p))]);rw [←q];have M:F.drop 14=[C.f (sl r.pg (ints r.p))]:=by rw [q];rfl
 refine bW r.q.length (fun j t H'=>t.g 0=.c (.f (sl g (rows l)))∧t.g 1=vi i∧t.g 5=.c (.ptr H.length 0 0)∧t.g 38=.c (.f (sl r.qg (gm r.q)))∧(∃ J,H'=H++(.box F 0::J)) ∧
  ∃ b,t.g 6=vi b∧-1≤b∧b≤63∧jN (-1) r.q=jN b (r.q.drop j)) (by omega) (by decide) (by decide) (by simp) (by simp) (by simp) ?_ ?_
 ·rintro j t _ E ⟨h0,s,O,u,⟨J,rfl⟩,b,B,Y,Z,d⟩ A I next
  rw [zF E]at d;refine aG ?_;apply ai;simp [A,u,bC,E,cf (vC r.q) (BO E)];apply ak;apply ai;simp [B,aU (n:=b+1)];cases x:bO r.q[j].1 (b+1) 63
  case false=>
   simp;refine aq (by simp) ?_;apply ai;simp;refine aB (m _ _ ?_);simp [ff,d,x]
  simp;cases y:bO r.q[j].2 0 10080
  case false=>
   simp;refine aq (by simp) ?_;apply ai;simp;refine aB (m _ _ ?_);simp [ff,d,y]
  simp;refine aD (by simp) ?_;refine aO ?_;refine al (.inl rfl) ?_;simp [B];refine aw (next _ _ ?_ (by simp [A]) (by simp [I]));have hw:=ri x;simp [x,y]at d;exact⟨by simp [h0],by simp [s],by simp [O],by simp [u],⟨_,rfl⟩,r.q[j].1,by simp,by omega,by omega,d⟩
 ·rintro t _ ⟨h0,s,O,u,⟨J,rfl⟩,b,B,Y,Z,d⟩ A I;have W:jN (-1) r.q=ae:=by rw [d];simp [jN]
  apply ai;simp;apply ak;apply ak;refine al (.inl rfl) ?_;simp [O,M];refine bW r.p.length (fun j t H'=>t.g 0=.c (.f (sl g (rows l)))∧t.g 1=vi i∧t.g 60=.c (.f (sl r.pg (ints r.p)))∧(∃ J,H'=H++J) ∧
   ∃ b,t.g 6=vi b∧-1≤b∧b≤6∧mz l i (-1) r.p=mz l i b (r.p.drop j)) (by omega) (by decide) (by decide) (by simp) (by simp) (by simp [h0,s]) ?_ ?_
  ·rintro j t _ E ⟨h0,s,v,⟨J,rfl⟩,b,B,Y,Z,d⟩ A I next
   rw [BP E]at d;refine aG ?_;apply ai;simp [A,v,bC,E,jw];apply ak;apply ai;simp [B,h0,aU (n:=b+1),aU (n:=(l.length:Int)-1)];cases x:bO r.p[j] (b+1) ((l.length:Int)-1)
   case false=>
    simp;refine aq (by simp) ?_;apply ai;simp;refine aB (m _ _ ?_);simp [ff,d,x]
   have hw:=ri x;simp [s];by_cases y:r.p[j]=i
   ·simp [y];refine aq (by simp) ?_;apply ai;simp;refine aB (m _ _ ?_);simp [ff,d,y]
   have hk:r.p[j].toNat<l.length:=by omega
   have N:=ib (H:=H++J) (k:=14) (gn l) (pQ hk) rfl;simp [y,h0,bC (g:=g) (rows:=rows l) (sz:=15) (k:=.i64) (i:=r.p[j]) (by omega) (by simp;omega),N];have L:=ah5 (l:=l) (p:=r.p[j]) (by omega) hk;by_cases S:BW l r.p[j]=0
   ·have z:l[r.p[j].toNat].p=[]:=List.eq_nil_of_length_eq_zero (by rw [←L];exact S);simp [z];refine aD (by simp) ?_;refine aO ?_;refine al (.inl rfl) ?_;simp;refine aw (next _ _ ?_ (by simp [A]) (by simp [I]));simp [x,y,S]at d;exact⟨by simp [h0],by simp [s],by simp [v],⟨_,rfl⟩,r.p[j],by simp,by omega,by omega,d⟩
   ·have z:0<l[r.p[j].toNat].p.length:=by rw [←L];omega
    simp [z];refine aq (by simp) ?_;apply ai;simp;refine aB (m _ _ ?_);simp [ff,d,S]
  ·rintro t _ ⟨h0,s,v,⟨J,rfl⟩,b,B,Y,Z,d⟩ A I;have U:mz l i (-1) r.p=ae:=by rw [d];simp [mz]
   apply ai;simp;refine aB (m _ _ ?_);simp [ff,h1,h2,h3,W,U]
theorem Pf(g:Tg)(l:List cF)(i:Nat)(hi:i<l.length)(b:l.length≤6)(d:∀ r ∈ l,kP r)(m:l[i].q.length≤64)(j:l[i].p.length≤64) :
  bh tab 192 [.c (.f (sl g (rows l))),vi i]=Eq (vb (ff l i l[i])):=(Pe g l i hi b d m j).eq
theorem NU(g:Tg)(l:List cF)(b:l.length≤6)(d:∀ r ∈ l,kP r) :
  bh tab 191 [.c (.f (sl g (rows l))),.c (.f (.fn 189 []))]=Eq (vb (l.any tW)):=(NT g l b d).eq
theorem tT{l:List cF}{j:Nat}(b:j<l.length):gW l j (l.drop j)=(ff l j l[j]&&gW l (j+1) (l.drop (j+1))):=by
 rw [arM b];rfl
theorem acv(g:Tg)(l:List cF)(y:l.length≤6)(z:∀ r ∈ l,kP r):Kf tab 113 [.c (.f (sl g (rows l)))] (vi (oD l)):=by
 refine cT rfl rfl fun H Q s=>?_;apply ai;simp;apply ai;simp;apply ak;apply ai;have d:¬ (256:Int)<l.length:=by omega
 simp [d,NU g l y z];cases q:l.any tW
 case true=>
  refine aq (by simp) ?_;apply ai;simp;refine aB (s _ _ ?_);simp [oD,q]
 refine aD (by simp) ?_;refine aO ?_;apply ak;apply ai;simp;refine bW l.length (fun j t H'=>t.g 0=.c (.f (sl g (rows l)))∧(∃ J,H'=H++J)∧gW l 0 l=gW l j (l.drop j)) (by omega) (by decide) (by decide) (by simp) (by simp) (by simp) ?_ ?_
 ·rintro j t _ v ⟨h0,⟨J,rfl⟩,b⟩ u m next
  rw [tT v]at b;have x:tW l[j]=ag:=by
   have:=List.any_eq_false.1 q l[j] (anc v);simpa using this
  simp only [tW,Bool.or_eq_false_iff,decide_eq_false_iff_not]at x;refine aG ?_;apply ai;simp [u];apply ai;simp [h0,Pf g l j v y z (by omega) (by omega)];cases A:ff l j l[j]
  ·refine aq (by simp) ?_;apply ai;simp;refine aB (s _ _ ?_);simp [oD,q,b,A]
  ·refine aD (by simp) ?_;refine aO (aw (next _ _ ?_ (by simp [u]) (by simp [m])));simp [A]at b;exact⟨by simp [h0],⟨_,rfl⟩,b⟩
 ·rintro t _ ⟨h0,⟨J,rfl⟩,b⟩ u m;apply ai;simp;refine aB (s _ _ ?_);simp [oD,q,b,gW]
theorem acw(g:Tg)(l:List cF)(b:l.length≤6)(d:∀ r ∈ l,kP r):bh tab 113 [.c (.f (sl g (rows l)))]=Eq (vi (oD l)):=(acv g l b d).eq
theorem iI(g:Tg)(l:List Int)(v:Int)(b:l.length≤9223372036854775807) :
  bh tab 272 [.c (.f (sl g (ints l))),vi v]=Eq (vb (l.any (· == v))):=(rN g l v b).eq
theorem N4(g:Tg)(q:List Int)(x:Int)(d:q.length≤9223372036854775807):Kf tab 274 [vi x,.c (.f (.fp [sl g (ints q)] 0))] (vb (q.any (· == x))):=by
 refine cT rfl rfl fun H Q b=>?_;apply ai;simp;apply ai;simp [nQ,iI g q x d];refine aB (b _ _ ?_);simp
theorem yU(g g':Tg)(p q:List Int)(d:p.length≤9223372036854775807)(l:q.length≤9223372036854775807) :
  bh tab 273 [.c (.f (sl g (ints p))),.c (.f (.fn 274 [.fp [sl g' (ints q)] 0]))]=Eq (vb (p.any fun x=>q.any (· == x))):=
 (gi ak6 (kr alb p (fun n=>[fi n]) vi (fun x=>q.any (· == x)) g 274 [.fp [sl g' (ints q)] 0] d
  (fun j b H=>by have:=jw (H:=H) b;simpa [ints]using this) (fun x _=>by have:=N4 g' q x l;simpa using this))).eq
def lz(a b:Nat)(ra d:cF):Bool:=decide (a=b)||ra.p.any (· ==(b:Int))||d.p.any (· ==(a:Int))||ra.p.any fun x=>d.p.any (· == x)
theorem Pq(g:Tg)(l:List cF)(a b:Nat)(s:a<l.length)(u:b<l.length)(y:l[a].p.length≤64)(z:l[b].p.length≤64) :
  Kf tab 200 [.c (.f (sl g (rows l))),vi a,vi b] (vb (lz a b l[a] l[b])):=by
 refine cT rfl rfl fun H Q j=>?_;have v:=ib (H:=H) (k:=14) (gn l) (pQ s) rfl;have x:=ib (H:=H) (k:=14) (gn l) (pQ u) rfl;apply ai;simp;apply ai;simp [bC,s,u,v,x];apply ai;simp;by_cases d:a=b
 ·simp [d];refine aB (j _ _ ?_);simp [lz,d]
 simp [d,iI _ l[a].p _ (by omega)];cases m:l[a].p.any (· ==(b:Int))
 case true=>
  simp;refine aB (j _ _ ?_);simp [lz,m]
 simp [iI _ l[b].p _ (by omega)];cases q:l[b].p.any (· ==(a:Int))
 case true=>
  simp;refine aB (j _ _ ?_);simp [lz,q]
 simp [deep,aba,DN,yU l[a].pg l[b].pg l[a].p l[b].p (by omega) (by omega)];refine aB (j _ _ ?_);simp [lz,d,m,q]
theorem yD(s:aT)(h:s.Sm):bh tab 53 [.a (s.row.map .f)]=Eq (vb (en s)):=(jk s h).eq
structure aA where
 meet:Int
 room:Int
 eH:Int
 size:Int
 st:aT
def aA.row(s:aA):List FC:=[fi s.meet,fi s.room,fi s.eH,fi s.size,sl s.st.cg (aL s.st.cs),fi s.st.len,sl s.st.xg (aH s.st.xs)]
def aC(l:List aA):List (List FC):=l.map aA.row
@[simp] theorem acF (l:List aA):(aC l).length=l.length:=by simp [aC]
theorem bw(l:List aA):cC 7 (aC l):=cC.map fun _=>rfl
theorem eR{l:List aA}{j:Nat}(b:j<l.length):(aC l)[j]?=aa l[j].row:=by simp [aC,b]
def oU(x y:aA):Int:=BI [ef x.meet y.meet,ef x.room y.room]
def iO(n:Nat)(s:aA):Bool:=decide (1≤s.meet)&&bO s.room 0 ((n:Int)-1)&&bO s.eH 0 63&&bO s.size 1 512&&en s.st
def gL(n:Nat):Option aA→List aA→Bool
 | _,[]=>ae| prev,s::r=>iO n s&&(prev.all fun m=>decide (oU m s<0))&&gL n (aa s) r
theorem zN{n:Nat}{p:Option aA}{l:List aA}{j:Nat}(b:j<l.length):gL n p (l.drop j)=(iO n l[j]&&(p.all fun m=>decide (oU m l[j]<0))&&gL n (aa l[j]) (l.drop (j+1))):=by
 rw [arM b];rfl
def ry(b:List cF)(l:List aA):Bool:=decide (oD b=0)&&decide ((l.length:Int)≤4096)&&gL b.length ab l
theorem EW(x y:aA):Kf tab 115 [.a (x.row.map .f),.a (y.row.map .f)] (vi (oU x y)):=by
 refine cT rfl rfl fun H Q d=>?_;have b:=yh .fs [ef x.meet y.meet,ef x.room y.room] (by simp);simp [ints,sl,Tg.fc]at b;apply ai;simp [aA.row];apply ai;simp [ga,deep,lJ,pF,b];refine aB (d _ _ ?_);simp [oU]
theorem ag_(x y:aA):bh tab 115 [.a (x.row.map .f),.a (y.row.map .f)]=Eq (vi (oU x y)):=(EW x y).eq
theorem Ci(g:Tg)(d:List cF)(s:aA)(v:d.length≤6)(h:s.st.Sm):Kf tab 114 [.c (.f (sl g (rows d))),.a (s.row.map .f)] (vb (iO d.length s)):=by
 refine cT rfl rfl fun H Q b=>?_;have l:=yD s.st h;simp [aT.row]at l;apply ai;simp [aA.row];apply ai;simp;by_cases j:1≤s.meet
 case neg=>
  simp [j];refine aB (b _ _ ?_);simp [iO,j]
 simp [j,aU (n:=(d.length:Int)-1)];cases m:bO s.room 0 ((d.length:Int)-1)
 ·simp;refine aB (b _ _ ?_);simp [iO,m]
 simp;cases q:bO s.eH 0 63
 ·simp;refine aB (b _ _ ?_);simp [iO,q]
 simp;cases u:bO s.size 1 512
 ·simp;refine aB (b _ _ ?_);simp [iO,u]
 simp [l];refine aB (b _ _ ?_);simp [iO,j,m,q,u]
theorem acd(g:Tg)(b:List cF)(s:aA)(d:b.length≤6)(h:s.st.Sm):bh tab 114 [.c (.f (sl g (rows b))),.a (s.row.map .f)]=Eq (vb (iO b.length s)):=(Ci g b s d h).eq
theorem ahQ(g g':Tg)(q:List cF)(l:List aA)(U:q.length≤6)(ho:∀ r ∈ q,kP r)(hl:l.length≤9223372036854775807)(h:∀ s ∈ l,s.st.Sm) :
  Kf tab 59 [.c (.f (sl g (rows q))),.c (.f (sl g' (aC l)))] (vb (ry q l)):=by
 refine cT rfl rfl fun H Q O=>?_;have bad:ry q l=ag→∀(t:T) (J:aj) k,WP tab 59 ab (.code (.region [⟨D 4,.a7 (.k (.c (.f (.bool ag)))),ab⟩] [])::.code .ret::k) ⟨t,[],H++J⟩ Q:=by
  intro hf t J k;refine al (.inl rfl) ?_;simp;refine aB (O _ _ ?_);simp [hf]
 apply ai;simp;apply ak;apply ai;simp [acw g q U ho];by_cases L:oD q=0
 case neg=>
  simp [L];have b:=fun t k=>bad (by simp [ry,L]) t [] k;simp only [as1]at b;refine aq (by simp) ?_;exact ak (b _ _)
 simp [L];by_cases W:(4096:Int)<l.length
 ·simp [W];have b:=fun t k=>bad (by simp [ry,show¬ (l.length:Int)≤4096 by omega]) t [] k;simp only [as1]at b;refine aq (by simp) ?_;exact ak (b _ _)
 simp [W];have S:ry q l=gL q.length ab l:=by simp [ry,L,show(l.length:Int)≤4096 by omega]
 rw [S]at bad;refine aD (by simp) ?_;refine aO ?_;apply ak;apply ai;simp;refine bW l.length (fun j t H'=>t.g 0=.c (.f (sl g (rows q)))∧t.g 1=.c (.f (sl g' (aC l)))∧t.g 15=.c (.f (sl g' (aC l)))∧(∃ J,H'=H++J) ∧
  ∃ d,(∀ m,j=m+1→∀ h:m<l.length,d=aa (l[m]'h))∧(j=0→d=ab)∧gL q.length ab l=gL q.length d (l.drop j)) hl (by decide) (by decide) (by simp) (by simp)
   ⟨by simp,by simp,by simp,⟨[],by simp⟩,ab,by omega,by simp,by simp⟩ ?_ ?_
 ·rintro j t _ I ⟨g0,E,v,⟨J,rfl⟩,d,Z,l2,z⟩ F M next
  rw [zN I]at z;have N:=cf (H:=H++J) (bw l) (eR I);have B:=acd g q l[j] U (h _ (anc I));simp [aA.row]at B;refine aG ?_;apply ai;simp [F,v,bC,I,N,aA.row];apply ai;simp [g0,B];cases X:iO q.length l[j]
  ·simp;exact aq (by simp) (ak (bad (by simp [z,X]) _ _ _))
  simp;have go:(d.all fun m=>decide (oU m l[j]<0))=ae→∃ u,(∀ m,j+1=m+1→∀ h:m<l.length,u=aa (l[m]'h))∧(j+1=0→u=ab)∧gL q.length ab l=gL q.length u (l.drop (j+1)):=by
   intro hp;rw [X,hp,as3,as3]at z;refine⟨aa l[j],fun m K h=>?_,by omega,z⟩;have:m=j:=by omega
   subst this;rfl
  cases j with
  | zero=>
   simp;refine aD (by simp) ?_;refine aO (aw (next _ _ ?_ (by simp [F]) (by simp [M])));exact⟨by simp [g0],by simp [E],by simp [v],⟨_,rfl⟩,go (by rw [l2 rfl];rfl)⟩
  | succ m=>
   have K:m<l.length:=by omega
   have A:=Z m rfl K;have e1:((m+1:Nat):Int)-1=m:=by omega
   have y:=fun H:aj=>cf (H:=H) (bw l) (eR K);have x:=ag_ l[m] l[m+1];simp [aA.row]at x y;simp [show 0<m+1 by omega,E,aU (n:=(m:Int)),bC,K,y,x];by_cases Y:0≤oU l[m] l[m+1]
   ·simp [Y];have b:=bad (by simp [z,A,show¬ oU l[m] l[m+1]<0 by omega]);refine aq (by simp) ?_;exact ak (b _ _ _)
   ·simp [Y];refine aD (by simp) ?_;refine aO (aw (next _ _ ?_ (by simp [F]) (by simp [M])));exact⟨by simp [g0],by simp [E],by simp [v],⟨_,rfl⟩,go (by rw [A];simp;omega)⟩
 ·rintro t _ ⟨g0,E,v,⟨J,rfl⟩,d,Z,l2,z⟩ F M;have hX:gL q.length ab l=ae:=by rw [z];simp [gL]
  apply ai;simp;refine aB (O _ _ ?_);simp [S,hX]
structure bl where
 id:Int
 dl:Int
 state:Int
 bc:aA
def bl.row(h:bl):List FC:=[fi h.id,fi h.dl,fi h.state,fi h.bc.meet,fi h.bc.room,fi h.bc.eH,fi h.bc.size,sl h.bc.st.cg (aL h.bc.st.cs),fi h.bc.st.len,sl h.bc.st.xg (aH h.bc.st.xs)]
def aN(l:List bl):List (List FC):=l.map bl.row
@[simp] theorem ahy (l:List bl):(aN l).length=l.length:=by simp [aN]
theorem bS(l:List bl):cC 10 (aN l):=cC.map fun _=>rfl
theorem dQ{l:List bl}{j:Nat}(b:j<l.length):(aN l)[j]?=aa l[j].row:=by simp [aN,b]
structure dv where
 clock:Int
 bZ:Int
 lg:Tg
 l:List bl
def dv.row(h:dv):List FC:=[fi h.clock,fi h.bZ,sl h.lg (aN h.l)]
theorem mD{n b:Nat}(g:n≤1100000)(d:b≤4096):bY n b=ae:=by
 have h:(2*n+768)*b≤2200768*4096:=Nat.mul_le_mul (by omega) d;simp [bY];omega
def Fix(s:aA):Prop:=bh tab 46 [.a (s.row.map .f)]=Eq (.a (s.row.map .f))
def DW(x y:List FC):Int:=match x,y with
 | .int _ a::.int _ b::_,.int _ c::.int _ d::_=>BI [ef a c,ef b d]| _,_=>0
def Fk(x:List FC):Prop:=∃ s:aA,x=s.row
theorem OI(x y:aA):Kf tab 43 [.a (x.row.map .f),.a (y.row.map .f)] (vi (DW x.row y.row)):=by
 refine cT rfl rfl fun H Q d=>?_;have b:=yh .fs [ef x.meet y.meet,ef x.room y.room] (by simp);simp [ints,sl,Tg.fc]at b;apply ai;simp [aA.row];apply ai;simp [ga,deep,lJ,pF,b];refine aB (d _ _ ?_);simp [DW,aA.row]
theorem aag:Cv tab (.c (.f (.fn 43 []))) Fk DW:=by
 rintro _ _ ⟨x,rfl⟩ ⟨y,rfl⟩ H;obtain⟨J,b⟩:=OI x y H;exact⟨_,_,J,by simp,b⟩
theorem EV{a b:Int}:ef a b<0↔a<b:=by unfold ef;split<;>(try split)<;>omega
theorem zD(x y:aA):DW x.row y.row<0↔x.meet<y.meet∨x.meet=y.meet∧x.room<y.room:=by
 simp only [DW,aA.row,BI,ef];split<;>split<;>(try split)<;>(try split)<;>(try split)<;>omega
theorem N3:CS Fk DW:=by
 constructor
 ·rintro _ _ ⟨x,rfl⟩ ⟨y,rfl⟩ h b;rw [zD]at h b;omega
 ·rintro _ _ _ ⟨x,rfl⟩ ⟨y,rfl⟩ ⟨z,rfl⟩ h b d;rw [zD]at h b d;omega
theorem al6(x:aA):Kf tab 132 [.a (x.row.map .f)] (.a [.f (fi x.meet),.f (fi x.room)]):=by
 refine cT rfl rfl fun H Q b=>?_;apply ai;simp [aA.row];apply ai;simp;refine aB (b _ _ ?_);simp
theorem aaP(x:aA):bh tab 132 [.a (x.row.map .f)]=Eq (.a [.f (fi x.meet),.f (fi x.room)]):=(Kf.D4 (xs:=[fi x.meet,fi x.room]) (al6 x)).eq
def mr(n:Int):Bool:=decide (0≤n)&&decide (n≤2251799813685248)
theorem amc(n:Int):Kf tab 38 [vi n] (vb (mr n)):=by
 refine cT rfl rfl fun H Q b=>?_;apply ai;simp;apply ai;by_cases h:0≤n
 ·simp [h];refine aB (b _ _ ?_);simp [mr,h]
 ·simp [h];refine aB (b _ _ ?_);simp [mr,h]
theorem vk(n:Int):bh tab 38 [vi n]=Eq (vb (mr n)):=(amc n).eq
def ju(b d:Int)(x:bl):Bool:=decide (d<x.id)&&decide (1≤x.state)&&decide (x.state≤4)&&mr x.dl&&!(decide (x.state=1)&&decide (x.dl<b))
def gZ(b:Int):Int→List bl→Bool
 | _,[]=>ae| last,x::r=>ju b last x&&gZ b x.id r
theorem Bl{b d:Int}{l:List bl}{j:Nat}(g:j<l.length):gZ b d (l.drop j)=(ju b d l[j]&&gZ b l[j].id (l.drop (j+1))):=by
 rw [arM g];rfl
def eF(h:dv):Bool:=mr h.clock&&mr h.bZ&&gZ h.clock 0 h.l
theorem qN(h:dv)(Y:h.l.length≤30):bh tab 27 [.a (h.row.map .f)]=Eq (vb (eF h)):=bh.eq (by
 refine bV rfl rfl fun Q S=>?_;have bad:eF h=ag→∀(t:T) (J:aj) k,WP tab 27 ab (.code (.seq (.region [⟨D 2,.a7 (.k (.c (.f (.bool ag)))),ab⟩] []) .ret)::k) ⟨t,[],J⟩ Q:=by
  intro X t J k;apply ai;simp;refine aB (S _ _ ?_);simp [X]
 apply ai;simp [dv.row];apply ak;apply ai;simp [vk];cases U:mr h.clock
 ·simp;exact aq (by simp) (bad (by simp [eF,U]) _ _ _)
 simp [vk];cases W:mr h.bZ
 ·simp;exact aq (by simp) (bad (by simp [eF,W]) _ _ _)
 simp [show¬ (4096:Int)<h.l.length by omega];refine bp (by simp) ?_;apply ai;simp;apply ak;apply ai;simp;refine bW h.l.length (fun j t H=>t.g 1=.c (.ptr 0 0 0)∧t.g 23=.c (.f (sl h.lg (aN h.l)))∧H[0]?=aa (.box [.f (fi h.clock),.f (fi h.bZ),.f (sl h.lg (aN h.l))] 0)∧∃ b,t.g 3=vi b∧gZ h.clock 0 h.l=gZ h.clock b (h.l.drop j)) (by omega) (by decide) (by decide) (by simp) (by simp) ⟨by simp,by simp,rfl,0,by simp,by simp⟩ ?_ ?_
 ·rintro j t H E ⟨u,d,h0,b,O,l⟩ y B next
  rw [Bl E]at l;have q:=fun H:aj=>cf (H:=H) (bS h.l) (dQ E);simp only [bl.row]at q;obtain⟨x,F⟩:=aI (h.l[j]);rw [←F]at l q;have v:ju h.clock b x=ag→eF h=ag:=fun e=>by simp [eF,l,e]
  refine aG ?_;apply ai;simp [y,d,bC,E,q];obtain⟨N,m⟩:=aI (H++[.box [.f (fi x.id),.f (fi x.dl),.f (fi x.state),.f (fi x.bc.meet),.f (fi x.bc.room),.f (fi x.bc.eH),.f (fi x.bc.size),.f (sl x.bc.st.cg (aL x.bc.st.cs)),.f (fi x.bc.st.len),.f (sl x.bc.st.xg (aH x.bc.st.xs))] 0]:aj);have A:N[0]?=aa (.box [.f (fi h.clock),.f (fi h.bZ),.f (sl h.lg (aN h.l))] 0):=by rw [m,AT (an h0)];exact h0
  have g:N[H.length]?=aa (.box [.f (fi x.id),.f (fi x.dl),.f (fi x.state),.f (fi x.bc.meet),.f (fi x.bc.room),.f (fi x.bc.eH),.f (fi x.bc.size),.f (sl x.bc.st.cg (aL x.bc.st.cs)),.f (fi x.bc.st.len),.f (sl x.bc.st.xg (aH x.bc.st.xs))] 0):=by rw [m];simp
  rw [←m];apply ak;refine aG ?_;apply ak;apply ai;simp [O,g];by_cases I:x.id≤b
  ·refine aq (by simp [I]) (aO ?_);refine aq (by simp [I]) ?_;exact bad (v (by simp [ju,show¬ b<x.id by omega])) _ _ _
  refine aD (by simp [I]) ?_;apply ai;simp [g];by_cases K:x.state<1
  ·refine aq (by simp [K]) (aO ?_);refine aq (by simp [K]) ?_;exact bad (v (by simp [ju,show¬ 1≤x.state by omega])) _ _ _
  refine aD (by simp [K]) ?_;apply ai;simp [g];by_cases L:4<x.state
  ·refine aq (by simp [L]) (aO ?_);refine aq (by simp [L]) ?_;exact bad (v (by simp [ju,show¬ x.state≤4 by omega])) _ _ _
  refine aD (by simp [L]) ?_;refine al (.inl rfl) ?_;simp [g,vk];cases M:mr x.dl
  ·refine aq (by simp) ?_;exact bad (v (by simp [ju,M])) _ _ _
  refine aD (by simp) ?_;apply ai;simp [g];by_cases s:x.state=1
  ·by_cases z:x.dl<h.clock
   ·simp [s,z,u,A,g];refine aq (by simp) ?_;exact bad (v (by simp [ju,s,z])) _ _ _
   ·simp [s,z,u,A,g];refine aD (by simp) (aO (aw ?_));refine al (.inl rfl) ?_;simp [g];refine aw (next _ _ ⟨by simp [u],by simp [d],A,x.id,by simp,?_⟩ (by simp [y]) (by simp [B]));rw [l,show ju h.clock b x=ae by simp [ju,s,z,M];omega];simp [F]
  ·simp [s];refine aD (by simp) (aO (aw ?_));refine al (.inl rfl) ?_;simp [g];refine aw (next _ _ ⟨by simp [u],by simp [d],A,x.id,by simp,?_⟩ (by simp [y]) (by simp [B]));rw [l,show ju h.clock b x=ae by simp [ju,s,M];omega];simp [F]
 ·rintro t H ⟨u,d,h0,b,O,l⟩ y B;apply ai;simp;refine aB (S _ _ ?_);simp [eF,U,W,l,gZ])
theorem Bf(x:bl)(id:Int):Kf tab 71 [.a (x.row.map .f),vi id] (vi (ef x.id id)):=by
 refine cT rfl rfl fun H Q b=>?_;apply ai;simp [bl.row];apply ai;simp [ga];refine aB (b _ _ ?_);simp
theorem qL{b:Int}:∀ {last:Int} {l:List bl},gZ b last l=ae→(∀ x ∈ l,last<x.id)∧l.Pairwise (fun x y=>x.id<y.id)
 | _,[],_=>⟨by simp,.nil⟩
 | last,x::r,h=>by
  simp only [gZ,If]at h;obtain⟨g,j⟩:=qL h.2;have m:last<x.id:=by have:=h.1;simp [ju]at this;omega
  refine⟨fun y d=>?_,.cons (fun y d=>g y d) j⟩;rcases asv.1 d with rfl | d
  ·exact m
  ·have:=g y d;omega
theorem N2{a b:Int}:ef a b=0↔a=b:=by unfold ef;split<;>(try split)<;>omega
def ti(l:List bl)(i:Nat)(id:Int):Bool:=match l[i]? with | some x=>decide (x.id=id) | none=>ag
theorem Fa(h:dv)(hl:h.l.length≤30)(U:eF h=ae)(id:Int):∃ i:Nat,i≤h.l.length∧(∀ j (b:j<h.l.length),j<i→h.l[j].id<id)∧(∀ j (b:j<h.l.length),i≤j→id≤h.l[j].id) ∧
  bh tab 39 [.a (h.row.map .f),vi id]=Eq (.t [vi i,vb (ti h.l i id)]):=by
 have S:h.l.Pairwise (fun x y=>x.id<y.id):=by simp [eF]at U;exact(qL U.2).2
 have E:∀ i j (hi:i<j) (b:j<h.l.length),h.l[i].id<h.l[j].id:=fun i j hi b=>as0.1 S i j (by omega) b hi;obtain⟨r,⟨i,W,X,Y,rfl⟩,O⟩:∃ r,(∃ i:Nat,i≤h.l.length∧(∀ j (b:j<h.l.length),j<i→h.l[j].id<id)∧(∀ j (b:j<h.l.length),i≤j→id≤h.l[j].id)∧r=.t [vi i,vb (ti h.l i id)]) ∧
   bh tab 70 [.c (.f (sl h.lg (aN h.l))),vi id,.c (.f (.fn 71 []))] r:=by
  refine fg rfl rfl fun Q J=>?_;have F:=fun(H:aj) (j:Nat) (b:j<h.l.length)=>cf (H:=H) (bS h.l) (dQ b);apply ai;simp;apply ai;simp;apply ai;simp;apply ak;refine aG ?_;refine cP (fun m s=>∃(lo hi:Nat) (t:T) (H:aj),s=⟨t,[],H⟩∧lo+m=hi∧hi≤h.l.length∧t.g 0=.c (.f (sl h.lg (aN h.l)))∧t.g 1=vi id∧t.g 2=.c (.f (.fn 71 []))∧t.g 8=vi h.l.length∧t.g 9=vi lo∧t.g 10=vi hi ∧
   (∀ j (b:j<h.l.length),j<lo→h.l[j].id<id)∧(∀ j (b:j<h.l.length),hi≤j→id≤h.l[j].id)) h.l.length
   ⟨0,h.l.length,_,_,rfl,by omega,by omega,by simp,by simp,by simp,by simp,by simp,by simp,by simp,by intros;omega⟩ ?_
  rintro m s ⟨lo,hi,t,H,rfl,hm,Z,g0,z,A,I,B,g,u,l⟩ next
  apply ak;apply ai;simp [B,g];by_cases N:lo<hi
  ·refine aq (by simp [N]) (aO ?_);obtain⟨q,hq⟩:=aI ((lo+hi) / 2);have v:q<h.l.length:=by omega
   have L:=(Bf h.l[q] id).ev H;refine aG ?_;apply ai;simp [B,g,aU (n:=(lo:Int)+hi),ko (lo:=lo) (hi:=hi) (by omega),mh (lo:=lo) (hi:=hi) (by omega) hq,aU (n:=(q:Int))];apply ai;simp [g0,z,A,bC,v,F _ q v,L];by_cases K:h.l[q].id<id
   ·refine aq (by simp [EV,K]) (al (.inl rfl) ?_);simp [aU (n:=(q:Int)+1)];refine aw (next (hi-(q+1)) _ (by omega) ⟨q+1,hi,_,_,rfl,by omega,by omega,by simp [g0],by simp [z],by simp [A],by simp [I],by simp,by simp [g],fun j b M=>?_,l⟩);by_cases e:j=q
    ·subst e;exact K
    ·have:=E j q (by omega) v;omega
   ·refine aD (by simp [EV,K]) (al (.inl rfl) ?_);simp;refine aw (next (q-lo) _ (by omega) ⟨lo,q,_,_,rfl,by omega,by omega,by simp [g0],by simp [z],by simp [A],by simp [I],by simp [B],by simp,u,fun j b M=>?_⟩);by_cases e:q=j
    ·subst e;omega
    ·have:=E q j (by omega) b;omega
  obtain rfl:lo=hi:=by omega
  refine aD (by simp) ?_;refine bR (k':=[.code xi]) rfl ?_;apply ai;by_cases d:lo<h.l.length
  ·have L:=(Bf h.l[lo] id).ev H;simp [g0,z,A,I,B,d,bC,F _ lo d,L];refine aB (J _ _ (.t [vi lo,vb (ti h.l lo id)]) ⟨lo,by omega,u,l,rfl⟩ ?_);simp [N2,d,ti]
  ·simp [g0,z,A,I,B,d];refine aB (J _ _ (.t [vi lo,vb (ti h.l lo id)]) ⟨lo,by omega,u,l,rfl⟩ ?_);simp [d,ti]
 refine⟨i,W,X,Y,bh.eq ?_⟩;have O:=O.eq;refine bV rfl rfl fun Q J=>?_;apply ai;simp [dv.row];apply ai;simp [O];refine aB (J _ _ ?_);simp
theorem kY(l:List bl)(j:Nat)(x:bl):(aN l).set j x.row=aN (l.set j x):=by simp [aN,List.map_set]
theorem xB(h:dv)(hl:h.l.length≤30)(hs:∀ x ∈ h.l,Fix x.bc)(H:aj):∃ r H',Ev tab (.fn 45) [.a (h.row.map .f)] H r H' ∧
  ∃ c,r=.a [.f (fi h.clock),.f (fi h.bZ),c]∧Kp H H'∧LR H' c 10 (aN h.l)∧∀ i,bB c=aa i→H.length≤i:=by
 refine cJ rfl rfl fun Q hQ=>?_;apply ai;simp [dv.row];obtain⟨u,m⟩:=aI (H++[.box [.f (fi h.clock),.f (fi h.bZ),.f (sl h.lg (aN h.l))] 0,.box [.f (fi 0),.f (fi 0),.f .au] 0]:aj);have z0:u[H.length]?=aa (.box [.f (fi h.clock),.f (fi h.bZ),.f (sl h.lg (aN h.l))] 0):=by rw [m];simp
 have z1:u[H.length+1]?=aa (.box [.f (fi 0),.f (fi 0),.f .au] 0):=by rw [m];simp
 have zl:u.length=H.length+2:=by rw [m];simp
 have zk:Kp H u:=by rw [m];exact Kp.push _ _
 rw [←m];obtain⟨r,H1,E,c,Y,rfl,rfl,y,o⟩:=ub (F:=81) (sz:=10) (zs:=[fi 0,fi 0,fi 0,fi 0,fi 0,fi 0,fi 0,.au,fi 0,.au]) (bytes:=112) (H:=u) (g:=h.lg) (rows:=aN h.l) akZ (by decide) (bS _) (mD (by simp;omega) (by decide));have E:=E.eq;have a0:(u++Y)[H.length]?=aa (.box [.f (fi h.clock),.f (fi h.bZ),.f (sl h.lg (aN h.l))] 0):=by rw [AT (by omega)];exact z0
 have a1:(u++Y)[H.length+1]?=aa (.box [.f (fi 0),.f (fi 0),.f .au] 0):=by rw [AT (by omega)];exact z1
 apply ai;simp [z0,E,a0];obtain⟨W,q⟩:=aI ((u++Y).set H.length (.box [.f (fi h.clock),.f (fi h.bZ),c] 0):aj);have b0:W[H.length]?=aa (.box [.f (fi h.clock),.f (fi h.bZ),c] 0):=by rw [q];exact IN (by simp;omega)
 have b1:W[H.length+1]?=aa (.box [.f (fi 0),.f (fi 0),.f .au] 0):=by rw [q,AI (by omega)];exact a1
 have s:∀ i,bB c=aa i→H.length+2≤i:=fun i e=>by have:=o i e;omega
 have O:LR W c 10 (aN h.l):=by rw [q];exact y.set (fun e=>by have:=s _ e;omega) _
 have k2:Kp H W:=by
  rw [q];exact⟨by simp;omega,fun Z l=>by rw [AI (by omega),AT (by omega)];exact zk.2 Z l⟩
 rw [←q];have a:∀(t:T) (b:aj),t.g 1=.c (.ptr H.length 0 0)→t.g 2=.c (.ptr (H.length+1) 0 0)→b[H.length]?=aa (.box [.f (fi h.clock),.f (fi h.bZ),c] 0)→b[H.length+1]?=aa (.box [.f (fi 0),.f (fi 0),.f .au] 0)→Kp H b→LR b c 10 (aN h.l) →
   WP tab 45 ab [.code Am] ⟨t,[],b⟩ Q:=by
  intro t b I J h0 K L y;apply ai;simp [I,J,h0,K];refine aB (hQ _ _ (.a [.f (fi h.clock),.f (fi h.bZ),c]) rfl ?_ ⟨c,rfl,?_,y.set (fun e=>by have:=s _ e;omega) _,fun i e=>by have:=s i e;omega⟩)
  ·simp [Km.results,bg,J,an K]
  ·exact⟨by simpa using L.1,fun Z l=>by rw [AI (by omega)];exact L.2 Z l⟩
 apply ak;apply ai;have v:=O.len;simp at v;simp [b0,v];refine bW h.l.length (fun j t b=>t.g 1=.c (.ptr H.length 0 0)∧t.g 2=.c (.ptr (H.length+1) 0 0)∧b[H.length]?=aa (.box [.f (fi h.clock),.f (fi h.bZ),c] 0)∧b[H.length+1]?=aa (.box [.f (fi 0),.f (fi 0),.f .au] 0)∧Kp H b∧LR b c 10 (aN h.l)) (by omega) (by decide) (by decide) (by simp) (by simp) ⟨by simp,by simp,b0,b1,k2,O⟩ ?_ ?_
 ·rintro j t b hj ⟨I,J,h0,K,L,y⟩ ha hb next
  have d:=hj;rcases y with⟨he,_⟩ | ⟨a_,B,ep,rfl,f⟩
  ·rw [show h.l=[] by simpa [aN]using he]at d;simp at d
  obtain⟨x,X⟩:=aI (h.l[j]);have e2:Fix x.bc:=hs x (by rw [X];exact anc d);unfold Fix at e2;have S:=f.at (show j<(aN h.l).length by simpa using d);have A:=f.ldp (n:=7) (k:=3) (bS h.l) (dQ d) (by decide);rw [←X]at A;have U:((x.row.drop 3).take 7)=x.bc.row:=rfl;rw [U]at A;obtain⟨H4,c_,M,z,d9⟩:=f.stp (k:=3) (xs:=x.bc.row) (bS h.l) (dQ d) (by show 3+7≤10;omega);have b9:over h.l[j].row 3 x.bc.row=x.row:=by rw [X];rfl
  rw [b9,kY,X,att]at M;have N:B≠H.length∧B≠H.length+1:=by have:=s B rfl;omega
  refine aG ?_;apply ai;simp [ha];refine al (.inl rfl) ?_;have a8:(aN h.l).length=h.l.length:=by simp
  simp only [a8]at *;have b_:(x.bc.row.map C.f).length=7:=rfl;have w:aS b ab (.c (.ptr H.length 2 0))=aa (.c (.sl B 0 h.l.length 0 ep 10)):=by simp [h0,aQ]
  simp [I,w,S,A,e2,c_,b_,-av,-bf];refine aw (next _ _ ⟨by simp [I],by simp [J],z.get h0 (Ne.symm N.1),z.get K (Ne.symm N.2),L.next (p:=B) (by have:=s B rfl;omega) z,.inr ⟨a_,B,ep,by simp,M⟩⟩ (by simp [ha]) (by simp [hb]))
 ·rintro t b ⟨I,J,h0,K,L,y⟩ - -;exact a _ b (by simp [I]) (by simp [J]) h0 K L y
def dC(x y:aA):Bool:=decide (x.meet=y.meet∧x.room=y.room)
theorem Cu(x s:aA){H:aj}{p:Nat}(v:H[p]?=aa (.box (s.row.map .f) 0)):∃ J,Ev tab (.fn 131) [.a (x.row.map .f),.c (.ptr p 0 0)] H (vb (dC x s)) (H++J):=by
 obtain⟨r,H',z,rfl,J,rfl⟩:∃ r H',Ev tab (.fn 131) [.a (x.row.map .f),.c (.ptr p 0 0)] H r H'∧r=vb (dC x s)∧∃ J,H'=H++J:=by
  refine cJ (C:=fun r H'=>r=vb (dC x s)∧∃ J,H'=H++J) aow rfl fun Q y=>?_;have q:=aaP x;have u:=aaP s;have m:=an v;obtain⟨j,b⟩:=aI (H++[.box (x.row.map .f) 0]:aj);have d:j[p]?=aa (.box (s.row.map .f) 0):=by rw [b,AT m];exact v
  have g:j[H.length]?=aa (.box (x.row.map .f) 0):=by rw [b];simp
  have l:∃ J,j=H++J:=⟨_,b⟩
  simp only [aA.row]at q u d g b ⊢;simp at d g b;apply ai;simp;rw [←b];apply ai;simp at q u;simp [d,g,q,u,CC,qa,E4];exact aB (y _ _ (vb (dC x s)) rfl (by simp [Km.results,bg,dC];rw [atn];simp) ⟨rfl,l⟩)
 exact⟨J,z⟩
def RS(H:aj)(c:C)(l:List aA):Prop:=bt H c=aa l.length∧∀(j:Nat) (b:j<l.length),∃ p,bA H 7 ab (.c c) (vi j)=aa (.c p)∧aS H (aa 7) (.c p)=aa (.a (l[j].row.map .f))
theorem LR.rs{H:aj}{c:C}{l:List aA}(h:LR H c 7 (aC l)):RS H c l:=⟨by simpa using h.len,fun j d=>by
 obtain⟨b,ep,m,l1⟩:=h.at (bw l) (j:=j) (by simpa using d);have g:(aC l)[j]'(by simpa using d)=l[j].row:=by simp [aC]
 rw [g]at l1;exact⟨_,m,l1⟩⟩
theorem apx(H:aj)(g:Tg)(l:List aA):RS H (.f (sl g (aC l))) l:=⟨by simpa using Dy (H:=H) g (aC l),fun j d=>by
 have b:=bC (H:=H) (g:=g) (rows:=aC l) (sz:=7) (k:=.i64) (i:=(j:Int)) (by omega) (by simp;omega);rw [Int.toNat_natCast]at b;exact⟨_,b,cf (bw l) (eR d)⟩⟩
theorem Ff{H:aj}{c:C}{l:List aA}(E:∀ J,RS (H++J) c l)(W:l.length≤1000)(s:aA){p:Nat}(K:H[p]?=aa (.box (s.row.map .f) 0)):∃ J,Ev tab (.fn 133) [.c c,.c (.cl 131 [.ptr p 0 0])] H (vb (l.any fun x=>dC x s)) (H++J):=by
 have A:∃ r H',Ev tab (.fn 206) [.c c,.c (.cl 131 [.ptr p 0 0])] H r H'∧∃ J,H'=H++J∧∃ i:Int,r=vi i∧(0≤i↔(l.any fun x=>dC x s)=ae):=by
  refine cJ (C:=fun r H'=>∃ J,H'=H++J∧∃ i:Int,r=vi i∧(0≤i↔(l.any fun x=>dC x s)=ae)) ala rfl fun Q v=>?_;have b:=(E []).1;rw [as1]at b;apply ai;simp;apply ak;apply ai;simp [b];refine bW l.length (fun j t L=>t.g 0=.c c∧t.g 1=.c (.cl 131 [.ptr p 0 0])∧(∃ J,L=H++J)∧∀(q:Nat) (u:q<l.length),q<j→dC l[q] s=ag) (by omega) (by decide) (by decide) (by simp) (by simp) ⟨by simp,by simp,⟨[],by simp⟩,by simp⟩ ?_ ?_
  ·rintro j t _ I ⟨g0,y,⟨J,rfl⟩,g⟩ z F next
   obtain⟨X,S,U⟩:=(E J).2 j I;obtain⟨B,d⟩:=Cu l[j] s (H:=H++J) (p:=p) (by rw [AT (an K)];exact K);have d:=d.eq;refine aG ?_;apply ai;simp [z];apply ai;simp [g0,y,S,U,d,-av];cases m:dC l[j] s
   ·refine aD (by simp) (aO (aw (next _ _ ⟨by simp [g0],by simp [y],⟨J++B,by simp⟩,fun q u N=>?_⟩ (by simp [z]) (by simp [F]))));by_cases e:q=j
    ·subst e;exact m
    ·exact g q u (by omega)
   ·refine aq (by simp) (ai ?_);simp;refine aB (v _ _ (vi j) rfl (by simp [Km.results,bg]) ⟨J++B,by simp,j,rfl,?_⟩);simp only [List.any_eq_true];exact⟨fun _=>⟨l[j],anc I,m⟩,fun _=>by omega⟩
  ·rintro t _ ⟨g0,y,⟨J,rfl⟩,g⟩ z F;apply ai;simp;refine aB (v _ _ (vi (-1)) rfl (by simp [Km.results,bg]) ⟨J,rfl,-1,rfl,?_⟩);simp only [List.any_eq_true];refine⟨fun h=>by omega,fun⟨x,O,m⟩=>?_⟩;obtain⟨q,u,rfl⟩:=asZ O;rw [g q u u]at m;cases m
 obtain⟨r,H',d,J,rfl,i,rfl,hi⟩:=A;have d:=d.eq;obtain⟨r,H',M,rfl,rfl⟩:∃ r H',Ev tab (.fn 133) [.c c,.c (.cl 131 [.ptr p 0 0])] H r H'∧r=vb (l.any fun x=>dC x s)∧H'=H++J:=by
  refine cJ (C:=fun r H'=>r=vb (l.any fun x=>dC x s)∧H'=H++J) ak5 rfl fun Q v=>?_;apply ai;simp;apply ai;simp [d];refine aB (v _ _ (vb (l.any fun x=>dC x s)) rfl ?_ ⟨rfl,rfl⟩);have:decide (0≤i)=(l.any fun x=>dC x s):=by
   rw [atn,decide_eq_true_eq];exact hi
  simp [Km.results,bg,this]
 exact⟨J,M⟩
def uniq(l0:List aA):List aA→List aA→List aA
 | acc,[]=>acc| acc,s::r=>if l0.any (fun x=>dC x s)||acc.any (fun x=>dC x s)then uniq l0 acc r else uniq l0 (acc++[s]) r
theorem pW{l0:List aA}:∀ {l acc:List aA},(uniq l0 acc l).length≤acc.length+l.length
 | [],_=>by simp [uniq]
 | s::l,acc=>by
  simp only [uniq];split
  ·have:=pW (l0:=l0) (l:=l) (acc:=acc);simp;omega
  ·have:=pW (l0:=l0) (l:=l) (acc:=acc++[s]);simp at this ⊢;omega
theorem wq{l0:List aA}:∀ {l acc:List aA} {x:aA},x ∈ uniq l0 acc l→x ∈ acc∨x ∈ l
 | [],_,x,h=>.inl h
 | s::l,acc,x,h=>by
  simp only [uniq]at h;split at h
  ·rcases wq h with h | h<;>simp [h]
  ·rcases wq h with h | h
   ·simp at h;rcases h with h | h<;>simp [h]
   ·simp [h]
theorem Ek{H:aj}{c:C}{l:List aA}(hL:LR H c 7 (aC l))(hl:l.length≤30)(hsm:∀ s ∈ l,Fix s)(g0:Tg)(l0:List aA)(h0:l0.length≤30):∃ r H',Ev tab (.fn 74) [.c c,.c (.f (sl g0 (aC l0)))] H r H' ∧
  ∃ d,r=.c d∧Kp H H'∧LR H' d 7 (aC (uniq l0 [] l))∧∀ i,bB d=aa i→H.length≤i:=by
 refine cJ (C:=fun r H'=>∃ d,r=.c d∧Kp H H'∧LR H' d 7 (aC (uniq l0 [] l))∧∀ i,bB d=aa i→H.length≤i) aov rfl fun Q hQ=>?_;have O:=hL.len;simp at O;apply ai;simp;apply ai;simp;apply ak;apply ai;simp [O];refine bW l.length (fun j t K=>t.g 1=.c (.f (sl g0 (aC l0)))∧t.g 9=.c c∧Kp H K∧∃ d o,t.g 5=.c d∧LR K d 7 (aC o)∧uniq l0 o (l.drop j)=uniq l0 [] l∧o.length≤j∧∀ i,bB d=aa i→H.length≤i) (by omega) (by decide) (by decide) (by simp) (by simp)
  ⟨by simp,by simp,Kp.refl H,.f .au,[],by simp,LR.nil _ _,by simp,by simp,by simp [bB]⟩ ?_ ?_
 ·rintro j t K hj ⟨Y,g9,M,d,o,Z,hO,I,f7,z⟩ ha hb next
  obtain⟨x,hx⟩:=aI (l[j]);have hd:l.drop j=x::l.drop (j+1):=by rw [hx];exact arM hj
  rw [hd]at I;have b_:LR K c 7 (aC l):=hL.cO fun i y hy _=>by rw [M.2 i (an hy)];exact hy
  obtain⟨b,ep,i1,l1⟩:=b_.at (bw l) (j:=j) (by simpa using hj);have e0:(aC l)[j]'(by simpa using hj)=x.row:=by simp [aC,hx]
  rw [e0]at l1;have e2:Fix x:=hsm x (by rw [hx];exact anc hj);unfold Fix at e2;obtain⟨N,q⟩:=aI (K++[.box (x.row.map .f) 0]:aj);have B:N[K.length]?=aa (.box (x.row.map .f) 0):=by rw [q];simp
  have c_:LR N d 7 (aC o):=by rw [q];exact hO.push _
  obtain⟨J1,X⟩:=Ff (H:=N) (fun J=>apx _ g0 l0) (by omega) x B;have L:LR (N++J1) d 7 (aC o):=c_.push _;have f8:(N++J1)[K.length]?=aa (.box (x.row.map .f) 0):=by rw [AT (an B)];exact B
  obtain⟨J2,n2⟩:=Ff (H:=N++J1) (fun J=>LR.rs (L.push J)) (by omega) x f8;have X:=X.eq;have n2:=n2.eq;refine aG ?_;apply ai;simp [g9,ha,i1,l1,-av,aA.row];simp only [aA.row]at q X n2 e2 B;simp at q;rw [←q];apply ai;simp;apply ak;refine al (.inl rfl) ?_;cases hz:l0.any fun y=>dC y x
  case true=>
   rw [hz]at X;simp only [uniq,hz,Bool.true_or,if_true]at I;obtain⟨S,m⟩:=aI (N++J1:aj);have A:Kp H S:=by
    rw [m,q];exact⟨by have:=M.1;simp;omega,fun F g=>by
     have:=M.1;rw [asT,AT (by omega)];exact M.2 F g⟩
   simp [Y,X];rw [←m];rw [←m]at L;refine aD (by simp) (aO (aw (next _ _ ⟨by simp [Y],by simp [g9],A,d,o,by simp [Z],L,I,by omega,z⟩ (by simp [ha]) (by simp [hb]))))
  rw [hz]at X;simp [Y,Z,X,n2];obtain⟨S,m⟩:=aI (N++(J1++J2):aj);have A:Kp H S:=by
   rw [m,q];exact⟨by have:=M.1;simp;omega,fun F g=>by
    have:=M.1;rw [asT,AT (by omega)];exact M.2 F g⟩
  have a_:LR S d 7 (aC o):=by rw [m,←asT];exact L.push _
  rw [←m];have W:S[K.length]?=aa (.box (x.row.map .f) 0):=by rw [m,AT (an B)];simp only [aA.row];exact B
  cases u:o.any fun y=>dC y x
  case true=>
   simp only [uniq,u,Bool.or_true,if_true]at I;refine aD (by simp [u]) (aO (aw (next _ _ ⟨by simp [Y],by simp [g9],A,d,o,by simp [Z],a_,I,by omega,z⟩ (by simp [ha]) (by simp [hb]))))
  case false=>
   simp only [uniq,hz,u,Bool.or_self,Bool.false_eq_true,if_false]at I;obtain⟨H4,v⟩:=aI (S++[.box (x.row.map .f) 0]:aj);have d9:LR H4 d 7 (aC o):=by rw [v];exact a_.push _
   obtain⟨c2,H5,E,d_,a8,b9⟩:=d9.app (bw o) (by decide) (row:=x.row) rfl (bytes:=88) (mD (by simp;omega) (by decide)) (b1:=S.length) (fl1:=0) (by rw [v];simp);have U:Kp H H4:=by
    rw [v];exact⟨by have:=A.1;simp;omega,fun F g=>by rw [AT (asJ g A.1)];exact A.2 F g⟩
   have e_:Kp H H5:=⟨asz U.1 a8.1,fun F g=>by
    have hy:=By g;rw [a8.2 F H[F] (by rw [U.2 F g,hy]) (fun e=>by have:=z F e;omega),hy]⟩
   refine aq (by simp [u]) ?_;refine al (.inl rfl) ?_;simp only [aA.row]at W v E;simp at W v E;have f_:(cG 1 [fi 0,fi 0,fi 0,fi 0,FC.au,fi 0,FC.au]).map C.f=[.f (fi 0),.f (fi 0),.f (fi 0),.f (fi 0),.f .au,.f (fi 0),.f .au]:=rfl;simp at e2;simp [Z,W,e2,←v,E];refine aw (next _ _ ⟨by simp [Y],by simp [g9],e_,c2,o++[x],by simp,?_,?_,by simp;omega,fun i hi=>?_⟩ (by simp [ha]) (by simp [hb]))
   ·have e:aC (o++[x])=aC o++[x.row]:=by simp [aC]
    rw [e];exact d_
   ·exact I
   ·rcases b9 with h | h
    ·rw [h]at hi;exact z i hi
    ·rw [h]at hi;cases hi;exact U.1
 ·rintro t K ⟨Y,g9,M,d,o,Z,hO,I,f7,z⟩ ha hb;apply ai;simp [Z];refine aB (hQ _ _ (.c d) rfl (by simp [Km.results,bg]) ⟨d,rfl,M,?_,z⟩);rw [List.drop_of_length_le (aft _)]at I;rw [←I];exact hO
theorem abr{m u:Type}{f:m→u}{l l':List u}(h:l'.Perm l):∀ o:List m,l=o.map f→∃ o':List m,l'=o'.map f∧o'.Perm o:=by
 induction h with
 | nil=>intro o d;exact⟨[],rfl,by
   have:o=[]:=by simpa using d.symm
   rw [this]⟩
 | cons x h A=>
  intro o d;cases o with
  | nil=>simp at d
  | cons a o=>
   simp only [asq,List.cons.injEq]at d;obtain⟨o',q,s⟩:=A o d.2;exact⟨a::o',by simp [q,d.1],s.cons a⟩
 | swap x y l=>
  intro o d
  match o with
  | []=>simp at d| [a]=>simp at d
  | a::b::o=>
   simp only [asq,List.cons.injEq]at d;exact⟨b::a::o,by simp [d.1,d.2.1,d.2.2],List.Perm.swap a b o⟩
 | trans q s g j=>
  intro o d;obtain⟨E,z,H⟩:=j o d;obtain⟨B,v,F⟩:=g E z;exact⟨B,v,F.trans H⟩
theorem ur{j:Type}{R:j→j→Prop}:∀ {A B:List j},A.Perm B→A.Pairwise R→B.Pairwise R→(∀ x ∈ A,∀ y ∈ A,R x y→R y x→x=y)→A=B
 | [],B,h,_,_,_=>(List.nil_perm.1 h).symm| a::A,[],h,_,_,_=>by have:=h.length_eq;simp at this
 | a::A,b::B,h,m,q,d=>by
  have g:a=b:=by
   by_cases e:a=b
   ·exact e
   have s:a ∈ B:=by
    have:a ∈ b::B:=h.mem_iff.1 asn;rcases asv.1 this with rfl | h
    ·exact absurd rfl e
    ·exact h
   have l:b ∈ A:=by
    have:b ∈ a::A:=h.mem_iff.2 asn;rcases asv.1 this with rfl | h
    ·exact absurd rfl e
    ·exact h
   exact d a asn b (asm _ l) (atd m l) (atd q s)
  subst g;rw [ur ((List.perm_cons a).1 h) (atZ m) (atZ q) fun x u y v=>d x (asm _ u) y (asm _ v)]
def lK(x y:aA):Prop:=¬ (y.meet<x.meet∨y.meet=x.meet∧y.room<x.room)
theorem OS{x y:aA}:dC x y=ae↔x.meet=y.meet∧x.room=y.room:=by simp [dC]
def pA(x:bl):Bool:=decide (x.state=1)||decide (x.state=2)
def cZ(l:List bl):List aA:=(l.filter pA).map bl.bc
theorem N0(h:dv)(hl:h.l.length≤30)(hs:∀ x ∈ h.l,Fix x.bc)(g0:Tg)(l0:List aA)(h0:l0.length≤30)(H:aj):∃ r H',Ev tab (.fn 41) [.a (h.row.map .f),.c (.f (sl g0 (aC l0)))] H r H' ∧
  ∃ u,r=.c u∧Kp H H'∧LR H' u 7 (aC (uniq l0 [] (cZ h.l)))∧∀ i,bB u=aa i→H.length≤i:=by
 refine cJ (C:=fun r H'=>∃ u,r=.c u∧Kp H H'∧LR H' u 7 (aC (uniq l0 [] (cZ h.l)))∧∀ i,bB u=aa i→H.length≤i) aot rfl fun Q hQ=>?_;apply ai;simp [dv.row];obtain⟨H0,K⟩:=aI (H++[.box [.f (fi h.clock),.f (fi h.bZ),.f (sl h.lg (aN h.l))] 0]:aj);have z0:H0[H.length]?=aa (.box [.f (fi h.clock),.f (fi h.bZ),.f (sl h.lg (aN h.l))] 0):=by rw [K];simp
 have zk:Kp H H0:=by rw [K];exact Kp.push _ _
 rw [←K];apply ai;simp;apply ak;apply ai;simp [z0];refine bW h.l.length (fun j t E=>t.g 1=.c (.f (sl g0 (aC l0)))∧t.g 9=.c (.f (sl h.lg (aN h.l)))∧Kp H E∧∃ c,t.g 5=.c c∧LR E c 7 (aC (cZ (h.l.take j)))∧∀ i,bB c=aa i→H.length≤i) (by omega) (by decide) (by decide) (by simp) (by simp)
  ⟨by simp,by simp,zk,.f .au,by simp,LR.nil _ _,by simp [bB]⟩ ?_ ?_
 ·rintro j t E hj ⟨F,J,A,c,I,hL,z⟩ X hb next
  have M:=fun H:aj=>cf (H:=H) (bS h.l) (dQ hj);simp only [bl.row]at M;obtain⟨x,hx⟩:=aI (h.l[j]);rw [←hx]at M;have a_:h.l.take (j+1)=h.l.take j++[x]:=by rw [hx,asQ,By hj];rfl
  obtain⟨N,v⟩:=aI (E++[.box [.f (fi x.id),.f (fi x.dl),.f (fi x.state),.f (fi x.bc.meet),.f (fi x.bc.room),.f (fi x.bc.eH),.f (fi x.bc.size),.f (sl x.bc.st.cg (aL x.bc.st.cs)),.f (fi x.bc.st.len),.f (sl x.bc.st.xg (aH x.bc.st.xs))] 0]:aj);have nr:N[E.length]?=aa (.box [.f (fi x.id),.f (fi x.dl),.f (fi x.state),.f (fi x.bc.meet),.f (fi x.bc.room),.f (fi x.bc.eH),.f (fi x.bc.size),.f (sl x.bc.st.cg (aL x.bc.st.cs)),.f (fi x.bc.st.len),.f (sl x.bc.st.xg (aH x.bc.st.xs))] 0):=by rw [v];simp
  have d:Kp H N:=by
   rw [v];exact⟨by have:=A.1;simp;omega,fun l b=>by rw [AT (asJ b A.1)];exact A.2 l b⟩
  have W:LR N c 7 (aC (cZ (h.l.take j))):=by rw [v];exact hL.push _
  refine aG ?_;apply ai;simp [X,J,bC,hj,M];rw [←v];apply ak;refine al (.inl rfl) ?_;simp [nr];cases q:pA x
  case false=>
   have f7:cZ (h.l.take (j+1))=cZ (h.l.take j):=by rw [a_];simp [cZ,at9,q]
   have O:x.state≠1:=fun e=>by simp [pA,e]at q
   have h2:x.state≠2:=fun e=>by simp [pA,e]at q
   simp [O,h2,nr];refine aD (by simp) (aO (aw (next _ _ ⟨by simp [F],by simp [J],d,c,by simp [I],by rw [f7];exact W,z⟩ (by simp [X]) (by simp [hb]))))
  case true=>
   have b9:cZ (h.l.take (j+1))=cZ (h.l.take j)++[x.bc]:=by rw [a_];simp [cZ,at9,q]
   obtain⟨H4,g⟩:=aI (N++[.box (x.bc.row.map .f) 0]:aj);have B:(cZ (h.l.take j)).length≤30:=by
    have O:(cZ (h.l.take j)).length≤(h.l.take j).length:=by simp only [cZ,asi];exact atu _ _
    have h2:(h.l.take j).length≤h.l.length:=by rw [ast];omega
    omega
   have d9:LR H4 c 7 (aC (cZ (h.l.take j))):=by rw [g];exact W.push _
   obtain⟨c2,H5,m,d_,U,Z⟩:=d9.app (bw _) (by decide) (row:=x.bc.row) rfl (bytes:=88) (mD (by simp;omega) (by decide)) (b1:=N.length) (fl1:=0) (by rw [g];simp);have L:Kp H H4:=by
    rw [g];exact⟨by have:=d.1;simp;omega,fun l b=>by rw [AT (asJ b d.1)];exact d.2 l b⟩
   have e_:Kp H H5:=⟨asz L.1 U.1,fun l b=>by
    have hy:=By b;rw [U.2 l H[l] (by rw [L.2 l b,hy]) (fun e=>by have:=z l e;omega),hy]⟩
   simp only [aA.row]at g m;simp at g m;have S:∀ t:T,t.g 1=.c (.f (sl g0 (aC l0)))→t.g 9=.c (.f (sl h.lg (aN h.l)))→t.g 5=.c c→t.g 7=.c (.ptr E.length 0 0)→t.g 10=vi h.l.length→t.g 11=vi j →
     WP tab 41 ab [.code Ak,.inBlock 1,.code (sU 11 28),.inLoop (iN 0 11 10 12 28 Aj),.inBlock 0,.code Al] ⟨t,[],N⟩ Q:=by
    intro t F J I g7 b_ c_;refine al (.inl rfl) ?_;simp [I,g7,nr,←g,m];refine aw (next _ _ ⟨by simp [F],by simp [J],e_,c2,by simp,?_,fun i hi=>?_⟩ (by simp [c_]) (by simp [b_]))
    ·rw [b9];have e:aC (cZ (h.l.take j)++[x.bc])=aC (cZ (h.l.take j))++[x.bc.row]:=by simp [aC]
     rw [e];exact d_
    ·rcases Z with h | h
     ·rw [h]at hi;exact z i hi
     ·rw [h]at hi;cases hi;exact L.1
   by_cases O:x.state=1
   ·simp [O];exact aq (by simp) (S _ (by simp [F]) (by simp [J]) (by simp [I]) (by simp) (by simp [hb]) (by simp [X]))
   ·have h2:x.state=2:=by simp [pA]at q;omega
    simp [O,h2,nr];exact aq (by simp) (S _ (by simp [F]) (by simp [J]) (by simp [I]) (by simp) (by simp [hb]) (by simp [X]))
 ·rintro t E ⟨F,J,A,c,I,hL,z⟩ X hb;rw [arf (aft _)]at hL;have B:(cZ h.l).length≤30:=by
   have O:(cZ h.l).length≤h.l.length:=by simp only [cZ,asi];exact atu _ _
   omega
  obtain⟨r,H2,he,u,rfl,d,hO,Y⟩:=Ek hL B (g0:=g0) (l0:=l0) (h0:=h0) (hsm:=fun s a8=>by
   simp only [cZ,asH,List.mem_filter]at a8;obtain⟨y,⟨hy,_⟩,rfl⟩:=a8;exact hs y hy)
  have he:=he.eq;apply ai;simp [F,I,he];exact aB (hQ _ _ (.c u) rfl (by simp [Km.results,bg]) ⟨u,rfl,⟨asz A.1 d.1,fun l b=>by rw [d.2 l (asJ b A.1)];exact A.2 l b⟩,hO,fun i hi=>asz A.1 (Y i hi)⟩)
def sσ:CA:={ pdq:=0,ins:=134,heap:=0,arq:=0,brk:=0,piv:=0,rev:=0,part:=0,peq:=0,pins:=0,arh:=0,med:=0,ord:=0,npt:=0,nxt:=0,len:=0,amL:=75,pU:=135,rot:=207,swr:=281 }
theorem ahD{H:aj}(v:V):∃ r H',Ev tab (.fn 134) [v,vi 0,vi 0,.c (.f (.fn 43 []))] H r H'∧(r=.t []∧H'=H):=by
 refine cJ rfl rfl fun Q b=>?_;apply ai;simp [aU (n:=(1:Int))];refine aG (iB ?_);apply ak;apply ai;simp;refine aD (by simp) ?_;refine bR (k':=[]) rfl ?_;exact cL (b _ _ _ rfl rfl ⟨rfl,rfl⟩)
theorem aca{H:aj}(v:V):∃ r H',Ev tab (.fn 75) [v,vi 0,.c (.f (.fn 43 []))] H r H'∧(r=.t []∧H'=H):=by
 obtain⟨r,H',b,rfl,rfl⟩:=ahD (H:=H) v;have b:=b.eq;refine cJ rfl rfl fun Q d=>?_;apply ai;simp;apply ai;simp;apply ak;refine aG (iB ?_);apply ak;apply ai;simp;refine aD (by simp) ?_;refine bR (k':=[.code xl]) rfl ?_;apply ai;simp [b];refine aG (iB ?_);apply ak;apply ai;simp;refine aD (by simp) ?_;refine bR (k':=[]) rfl ?_;exact cL (d _ _ _ rfl rfl ⟨rfl,rfl⟩)
theorem Ct{o:List aA}{n:Nat}(g:o.length=n)(h:Up DW 0 n (aC o)):o.Pairwise lK:=by
 rw [as0];intro i j hi d b;have:=h i j o[i].row o[j].row (by omega) b (by omega) (eR hi) (eR d);rw [zD]at this;exact this
theorem aiI{H:aj}{c:C}{o:List aA}(A:LR H c 7 (aC o))(L:o.length<40):∃ r H',Ev tab (.fn 42) [.c c,.c (.f (.fn 43 []))] H r H' ∧
  (r=.t []∧Kb H H' c∧∃ o',LR H' c 7 (aC o')∧o'.Perm o∧o'.Pairwise lK):=by
 have d:=A.len;simp at d;rcases A with⟨J,I⟩ | ⟨y,B,ep,rfl,F⟩
 ·have z:o=[]:=by simpa [aC]using J
  subst z;obtain⟨r,H',g,rfl,rfl⟩:=aca (H:=H) (.c c);have g:=g.eq;refine cJ (C:=fun r j=>r=.t []∧Kb H' j c∧∃ o',LR j c 7 (aC o')∧o'.Perm []∧o'.Pairwise lK) ZK rfl fun Q x=>?_;refine al (.inl rfl) ?_;simp at d;simp [d,g];exact cL (x _ _ (.t []) rfl rfl ⟨rfl,Kb.refl _ _,[],.inl ⟨rfl,I⟩,.refl _,.nil⟩)
 ·have l:(aC o).length=o.length:=by simp
  obtain⟨r,H',g,rfl,K,l',v,M,N⟩:=aiV (σ:=sσ) (tab:=tab) (sz:=7) (b:=B) (ep:=ep) (H:=H) (rows:=aC o) (n:=o.length) alf ald alh ale alg aag N3 l L F (bw o) (fun r E=>by
   simp only [aC,asH]at E;obtain⟨s,_,rfl⟩:=E;exact⟨s,rfl⟩)
  have g:=g.eq;obtain⟨o',rfl,u⟩:=abr M o rfl;have q:o'.length=o.length:=u.length_eq;rw [l]at d ⊢;refine cJ (C:=fun r j=>r=.t []∧Kb H j (.sl B 0 o.length 0 ep 7)∧∃ o',LR j (.sl B 0 o.length 0 ep 7) 7 (aC o')∧o'.Perm o∧o'.Pairwise lK) ZK rfl fun Q x=>?_;refine al (.inl rfl) ?_;have m:Ev tab (.fn 75) [.c (.sl B 0 o.length 0 ep 7),vi o.length,.c (.f (.fn 43 []))] H=E2 (.t []) H':=g;simp [d,m];refine cL (x _ ⟨_,[],H'⟩ (.t []) rfl rfl ⟨rfl,Kb.apa K,o',.inr ⟨?_,B,ep,?_,v⟩,u,Ct q N⟩)
  ·intro e;have h0:o'.length=0:=by have:=congrArg List.length e;simpa [aC]using this
   exact y (List.length_eq_zero_iff.1 (by rw [l];omega))
  ·have:(aC o').length=o.length:=by simp [q]
   rw [this]
def gq:dv:=⟨0,0,.nil,[]⟩
def Chg(F:Nat)(b:List FC)(h:dv)(e:Int)(res:dv):Prop:=
 ∀(H:aj) (p:Nat) (c:C),H[p]?=aa (.box [.f (fi h.clock),.f (fi h.bZ),c] 0)→LR H c 10 (aN h.l)→bB c≠aa p →
  ∃ r H',Ev tab (.fn F) (.c (.ptr p 0 0)::b.map fun x=>.c (.f x)) H r H'∧r=vi e∧H.length≤H'.length∧(∀ i y,H[i]?=aa y→i≠p→bB c≠aa i→H'[i]?=aa y) ∧
   (e=0→H'[p]?=aa (.box [.f (fi res.clock),.f (fi res.bZ),c] 0)∧LR H' c 10 (aN res.l))
theorem xy(h:dv)(hl:h.l.length≤30)(hs:∀ x ∈ h.l,Fix x.bc){F:Nat}{b:List FC}{e:Int}{res:dv}(Z:Chg F b h e res) :
  ∃(g:Tg) (s:dv),s=(if e=0 then { res with lg:=g }else gq)∧bh tab 50 [.a (h.row.map .f),.c (.f (.fn F b)),vi 0]=Eq (.t [.a (s.row.map .f),vi e]):=by
 obtain⟨r,⟨g,s,N,rfl⟩,hp⟩:∃ r,(∃(g:Tg) (s:dv),s=(if e=0 then { res with lg:=g }else gq)∧r=.t [.a (s.row.map .f),vi e])∧bh tab 50 [.a (h.row.map .f),.c (.f (.fn F b)),vi 0] r:=by
  refine fg rfl rfl fun Q U=>?_;apply ai;simp [dv.row];obtain⟨A,d⟩:=aI ([.box [.f (fi h.clock),.f (fi h.bZ),.f (sl h.lg (aN h.l))] 0,.box [.f (fi 0),.f (fi 0),.f .au] 0]:aj);obtain⟨r,u,E,c,rfl,W,S,hc⟩:=xB h hl hs A;have E:=E.eq;simp [dv.row]at E;have z0:A[0]?=aa (.box [.f (fi h.clock),.f (fi h.bZ),.f (sl h.lg (aN h.l))] 0):=by rw [d];rfl
  have z1:A[1]?=aa (.box [.f (fi 0),.f (fi 0),.f .au] 0):=by rw [d];rfl
  have zl:A.length=2:=by rw [d];rfl
  have X:u[1]?=aa (.box [.f (fi 0),.f (fi 0),.f .au] 0):=by rw [W.2 1 (by omega)];exact z1
  rw [←d];apply ai;simp [z0,E];obtain⟨B,j⟩:=aI (u++[.box [.f (fi h.clock),.f (fi h.bZ),c] 0]:aj);have m1:B[1]?=aa (.box [.f (fi 0),.f (fi 0),.f .au] 0):=by rw [j,AT (an X)];exact X
  have m2:B[u.length]?=aa (.box [.f (fi h.clock),.f (fi h.bZ),c] 0):=by rw [j];simp
  have I:LR B c 10 (aN h.l):=by rw [j];exact S.push _
  have K:bB c≠aa u.length:=fun e=>by have:=S.lt e;omega
  have Y:=W.1;rw [←j];obtain⟨r,O,m,rfl,M,q,z⟩:=Z B u.length c m2 I K;have m:=m.eq;have v:bB c≠aa 1:=fun e=>by have:=hc 1 e;omega
  have H:O[1]?=aa (.box [.f (fi 0),.f (fi 0),.f .au] 0):=q 1 _ m1 (by omega) v;apply ak;apply ai;simp [b5,m];apply ak;refine al (.inl rfl) ?_;simp;by_cases l:e=0
  case neg=>
   refine aq (by simp [l]) ?_;apply ai;simp [H];refine aB (U _ _ (.t [.a (gq.row.map .f),vi e]) ⟨.nil,gq,by simp [l],rfl⟩ ?_);simp [Km.results,bg,an H,iV,cK,deep,gq,dv.row,sl,Tg.fc,aN]
  subst l;obtain⟨q1,J⟩:=z rfl;obtain⟨g,hg⟩:=J.exU (bS _);refine bp (by simp) ?_;apply ai;simp [H,q1];have L:=hg (O.set 1 (.box [.f (fi res.clock),.f (fi res.bZ),c] 0)) 63 (fun i y hy hi=>by
   have:(1:Nat)≠i:=by rintro rfl;exact v hi
   rw [AI this];exact hy)
  refine aB (U _ _ (.t [.a ((⟨res.clock,res.bZ,g,res.l⟩:dv).row.map .f),vi 0]) ⟨g,⟨res.clock,res.bZ,g,res.l⟩,by simp,rfl⟩ ?_);simp [Km.results,bg,an H,iV,cK,deep,dv.row,L]
 exact⟨g,s,N,hp.eq⟩
def fI(clk:Int)(x:bl):bl:=if x.state=1∧x.dl<clk then { x with state:=4 }else x
def eS(clk:Int)(j:Nat)(l:List bl):List bl:=(l.take j).map (fI clk)++l.drop j
theorem jB{clk:Int}{j:Nat}{l:List bl}:(eS clk j l).length=l.length:=by
 simp [eS];omega
theorem yF{clk:Int}{j:Nat}{l:List bl}(b:j<l.length):(eS clk j l)[j]?=aa l[j]:=by
 unfold eS;rw [List.getElem?_append_right (by simp;omega)];simp [show min j l.length=j by omega,b]
theorem rH{clk:Int}{j:Nat}{l:List bl}(b:j<l.length):eS clk (j+1) l=(eS clk j l).set j (fI clk l[j]):=by
 unfold eS;have d:((l.take j).map (fI clk)).length=j:=by simp;omega
 rw [List.set_append_right _ _ (by omega),d,at2,arM b,List.take_succ_eq_append_getElem b];simp only [List.map_append,asq,asA,asT,ati,as9,List.set_cons_zero]
theorem Ej{clk:Int}{l:List bl}:eS clk l.length l=l.map (fI clk):=by simp [eS]
def jA(h:dv)(clk:Int):Int:=if eF h=ag∨clk<h.clock∨2251799813685248<clk then 1 else 0
theorem acm(h:dv)(hl:h.l.length≤30)(clk:Int):Chg 51 [.fp [fi h.clock,fi h.bZ,sl h.lg (aN h.l)] 0,.fp [fi clk] 0] h (jA h clk) ⟨clk,h.bZ,.nil,h.l.map (fI clk)⟩:=by
 intro H p c hp hL Y;have hv:=qN h hl;simp [dv.row]at hv;have e1:∀ H:aj,aS H (aa 3) (.c (.f (.fp [fi h.clock,fi h.bZ,sl h.lg (aN h.l)] 0)))=aa (.a [.f (fi h.clock),.f (fi h.bZ),.f (sl h.lg (aN h.l))]):=fun _=>rfl;have e2:∀ H:aj,aS H ab (.c (.f (.fp [fi h.clock,fi h.bZ,sl h.lg (aN h.l)] 0)))=aa (vi h.clock):=fun _=>rfl;have O:∀ H:aj,aS H ab (.c (.f (.fp [fi clk] 0)))=aa (vi clk):=fun _=>rfl;refine cJ (C:=fun r H'=>r=vi (jA h clk)∧H.length≤H'.length∧(∀ i y,H[i]?=aa y→i≠p→bB c≠aa i→H'[i]?=aa y) ∧
   (jA h clk=0→H'[p]?=aa (.box [.f (fi clk),.f (fi h.bZ),c] 0)∧LR H' c 10 (aN (h.l.map (fI clk))))) aor rfl fun Q hQ=>?_
 have bad:jA h clk=1→∀ t:T,t.g 19=vb ae→WP tab 51 ab [.code Es,.code Et] ⟨t,[],H⟩ Q:=by
  intro he t g;refine aq (by simp [g]) (ai ?_);simp;exact aB (hQ _ _ (vi 1) rfl (by simp [Km.results,bg]) ⟨by rw [he],aft _,fun i y hy _ _=>hy,fun e=>by rw [he]at e;cases e⟩)
 apply ai;simp;apply ak;apply ak;refine al (.inl rfl) ?_;simp [e1,hv];cases u:eF h
 case false=>
  simp;exact bad (by simp [jA,u]) _ (by simp)
 by_cases k1:clk<h.clock
 ·simp [e2,O,k1];exact bad (by simp [jA,k1]) _ (by simp)
 by_cases k2:2251799813685248<clk
 ·simp [e2,O,k1,k2];exact bad (by simp [jA,k2]) _ (by simp)
 simp [e2,O,k1,k2];have he:jA h clk=0:=by simp [jA,u,k1,k2]
 refine bp (by simp) ?_;obtain⟨H1,d⟩:=aI (H.set p (.box [.f (fi clk),.f (fi h.bZ),c] 0):aj);have z1:H1[p]?=aa (.box [.f (fi clk),.f (fi h.bZ),c] 0):=by rw [d];exact IN (an hp)
 have W:LR H1 c 10 (aN h.l):=by rw [d];exact hL.set Y _
 have f8:H1.length=H.length:=by rw [d];simp
 have f7:∀ i y,H[i]?=aa y→i≠p→bB c≠aa i→H1[i]?=aa y:=fun i y hy hi _=>by rw [d,AI (Ne.symm hi)];exact hy
 apply ai;simp [O,hp];rw [←d];apply ak;have b_:=W.len;simp at b_;apply ai;simp [z1,b_];refine bW h.l.length (fun j t m=>t.g 0=.c (.ptr p 0 0)∧t.g 2=.c (.f (.fp [fi clk] 0))∧m[p]?=aa (.box [.f (fi clk),.f (fi h.bZ),c] 0)∧LR m c 10 (aN (eS clk j h.l))∧H.length≤m.length∧(∀ i y,H[i]?=aa y→i≠p→bB c≠aa i→m[i]?=aa y)) (by omega) (by decide) (by decide) (by simp) (by simp)
  ⟨by simp,by simp,z1,by simpa [eS]using W,by omega,f7⟩ ?_ ?_
 ·rintro j t m S ⟨g0,l,z2,q,I,s⟩ ha hb next
  rcases q with⟨e_,_⟩ | ⟨g_,B,ep,rfl,u⟩
  ·have:(eS clk j h.l).length=0:=by have:=congrArg List.length e_;simpa [aN]using this
   rw [jB]at this;omega
  obtain⟨x,hx⟩:=aI (h.l[j]);have c_:(aN (eS clk j h.l)).length=h.l.length:=by simp [jB]
  have F:(aN (eS clk j h.l))[j]?=aa x.row:=by rw [hx];simp [aN,yF S]
  have b9:=u.at (show j<(aN (eS clk j h.l)).length by omega);have J:=u.ldc (k:=2) (x:=fi x.state) (bS _) F rfl;have Z:=u.ldc (k:=1) (x:=fi x.dl) (bS _) F rfl;obtain⟨H4,v,U,a8,i5⟩:=u.stp (k:=2) (xs:=[fi 4]) (bS _) F (by decide);have h_:over x.row 2 [fi 4]=(bl.row { x with state:=4 }):=rfl;rw [h_,kY]at U;have d9:B≠p:=fun e=>Y (by rw [e];rfl);have d_:aS m ab (.c (.ptr p 2 0))=aa (.c (.sl B 0 h.l.length 0 ep 10)):=by simp [z2,aQ,c_]
  simp only [c_]at *;refine aG ?_;apply ai;simp [ha];apply ai;simp [g0,d_,b9,-av];have no:fI clk x=x→∀ b:T,b.g 0=.c (.ptr p 0 0)→b.g 2=.c (.f (.fp [fi clk] 0))→b.g 29=vi j→b.g 28=t.g 28→b.g 50=vb ag →
    WP tab 51 ab [.code tJ,.inBlock 1,.code tK,.inLoop tI,.inBlock 0,.code tL] ⟨b,[],m⟩ Q:=by
   intro L b g0 l A z E;have K:eS clk (j+1) h.l=eS clk j h.l:=by
    rw [rH S,←hx,L];obtain⟨f_,a_⟩:=List.getElem?_eq_some_iff.1 (yF (clk:=clk) S);rw [←hx]at a_
    conv=>lhs;rw [←a_]
    exact att f_
   refine aD (by simp [E]) (aO (aw (next _ _ ⟨by simp [g0],by simp [l],z2,?_,I,s⟩ (by simp [A]) (by simp [z,hb]))));rw [K];exact .inr ⟨g_,B,ep,by simp [jB],u⟩
  have i4:x.state=1→x.dl<clk→∀ b:T,b.g 0=.c (.ptr p 0 0)→b.g 2=.c (.f (.fp [fi clk] 0))→b.g 29=vi j→b.g 28=t.g 28→b.g 6=.c (.ptr B (j*10) ep)→b.g 50=vb ae →
    WP tab 51 ab [.code tJ,.inBlock 1,.code tK,.inLoop tI,.inBlock 0,.code tL] ⟨b,[],m⟩ Q:=by
   intro M N b g0 l A z g6 E;have L:fI clk x = { x with state:=4 }:=ba ⟨M,N⟩;have K:eS clk (j+1) h.l=(eS clk j h.l).set j { x with state:=4 }:=by rw [rH S,←hx,L]
   refine aq (by simp [E]) ?_;refine al (.inl rfl) ?_;simp only [asq,asA]at v;simp [g6,v,-bf];refine aw (next _ _ ⟨by simp [g0],by simp [l],a8.get z2 (Ne.symm d9),?_,by omega,fun i y hy hi X=>a8.get (s i y hy hi X) (fun e=>X (by rw [e];rfl))⟩ (by simp [A]) (by simp [z,hb]));rw [K];refine .inr ⟨fun e=>?_,B,ep,by simp [jB],U⟩;have:=congrArg List.length e;simp [jB]at this;rw [this]at S;simp at S
  apply ak;refine al (.inl rfl) ?_;by_cases M:x.state=1
  ·by_cases N:x.dl<clk
   ·simp [J,Z,M,N,l,O,-av];exact i4 M N _ (by simp [g0]) (by simp [l]) (by simp [ha]) (by simp) (by simp) (by simp)
   ·simp [J,Z,M,N,l,O,-av];exact no (aX fun e=>N e.2) _ (by simp [g0]) (by simp [l]) (by simp [ha]) (by simp) (by simp)
  ·simp [J,M,-av];exact no (aX fun e=>M e.1) _ (by simp [g0]) (by simp [l]) (by simp [ha]) (by simp) (by simp)
 ·rintro t m ⟨g0,l,z2,q,I,s⟩ - -;apply ai;simp;rw [Ej]at q;exact aB (hQ _ _ (vi 0) rfl (by simp [Km.results,bg]) ⟨by rw [he],I,s,fun _=>⟨z2,q⟩⟩)
theorem zQ(h:dv)(m:h.l.length≤30)(v:∀ x ∈ h.l,Fix x.bc)(clk:Int):∃(g:Tg) (j:dv),j=(if jA h clk=0 then⟨clk,h.bZ,g,h.l.map (fI clk)⟩else gq) ∧
  bh tab 18 [.a (h.row.map .f),vi clk]=Eq (.t [.a (j.row.map .f),vi (jA h clk)]):=by
 obtain⟨g,j,l,d⟩:=xy h m v (acm h m clk);refine⟨g,j,l,bh.eq ?_⟩;refine bV rfl rfl fun Q u=>?_;simp [dv.row]at d;apply ai;simp [dv.row];obtain⟨s,b⟩:=aI (gu 64 (C.cl 51 [C.ptr 0 0 0,C.ptr 1 0 0]) [bq.box [C.f (fi h.clock),C.f (fi h.bZ),C.f (sl h.lg (aN h.l))] 0,bq.box [vi clk |> fun _=>C.f (fi clk)] 0,bq.box [C.f (fi 0),C.f (fi 0),C.f FC.au] 0]:aj);have q:s[2]?=aa (.box [C.f (fi 0),C.f (fi 0),C.f FC.au] 0):=by rw [b];rfl
 apply ai;simp [lY,iV,cK,deep,d];simp at b;rw [←b];simp [q];refine aB (u _ _ ?_);simp [Km.results,bg,an q,iV,cK,deep,dv.row]
def mc(id:Int)(l:List bl):Option Nat:=l.findIdx? fun x=>decide (x.id=id)
theorem qA{id:Int}{l:List bl}{i:Nat}(h:mc id l=aa i):∃ hi:i<l.length,l[i].id=id:=by
 unfold mc at h;rw [atl]at h;obtain⟨hi,b,_⟩:=h;exact⟨hi,by simpa using b⟩
theorem qz{id:Int}{l:List bl}(h:∀ q (b:q<l.length),l[q].id≠id):mc id l=ab:=by
 unfold mc;rw [List.findIdx?_eq_none_iff];intro x d;obtain⟨q,b,rfl⟩:=asZ d;simp [h q b]
theorem zf{id:Int}{l:List bl}{i:Nat}(hi:i<l.length)(b:l[i].id=id)(h:∀ q (g:q<l.length),q<i→l[q].id≠id):mc id l=aa i:=by
 unfold mc;rw [atl];exact⟨hi,by simpa using b,fun j d=>by simpa using h j (by omega) d⟩
def eo(h:dv)(id:Int):Int:=if eF h=ag then 1 else match mc id h.l with
 | none=>4
 | some i=>match h.l[i]? with
  | none=>4| some x=>if x.state=1 then 0 else 7
def abN(i:Nat)(b:Int)(l:List bl):List bl:=match l[i]? with
 | none=>l| some x=>l.set i { x with state:=b }
def gT(h:dv)(id b:Int):dv:=⟨h.clock,h.bZ,.nil,match mc id h.l with
 | none=>h.l
 | some i=>abN i b h.l⟩
theorem xH{h:dv}(u:eF h=ae){id:Int}{i:Nat}(b:∀ j (x:j<h.l.length),j<i→h.l[j].id<id)(m:∀ j (x:j<h.l.length),i≤j→id≤h.l[j].id):mc id h.l=if ti h.l i id then aa i else ab:=by
 have v:gZ h.clock 0 h.l=ae:=by
  unfold eF at u;simp only [If]at u;exact u.2
 have g:=(qL v).2;rw [as0]at g;by_cases hi:i<h.l.length
 ·by_cases l:h.l[i].id=id
  ·have:ti h.l i id=ae:=by simp [ti,hi,l]
   rw [this,ba rfl];exact zf hi l fun q d s=>by have:=b q d s;omega
  ·have:ti h.l i id=ag:=by simp [ti,hi,l]
   rw [this,aX (by simp)];refine qz fun q d=>?_;rcases atk q i with k | k | k
   ·have:=b q d k;omega
   ·subst k;exact l
   ·have:=g i q hi d k;have:=m i hi (aft _);omega
 ·have:ti h.l i id=ag:=by simp [ti,List.getElem?_eq_none (by omega:h.l.length≤i)]
  rw [this,aX (by simp)];exact qz fun q d=>by have:=b q d (by omega);omega
theorem acp(h:dv)(hl:h.l.length≤30)(id l:Int):Chg 96 [.fp [fi h.clock,fi h.bZ,sl h.lg (aN h.l)] 0,.fp [fi id] 0,.fp [fi l] 0] h (eo h id) (gT h id l):=by
 intro H p c hp hL S;have hv:=qN h hl;simp [dv.row]at hv;have e1:∀ H:aj,aS H (aa 3) (.c (.f (.fp [fi h.clock,fi h.bZ,sl h.lg (aN h.l)] 0)))=aa (.a [.f (fi h.clock),.f (fi h.bZ),.f (sl h.lg (aN h.l))]):=fun _=>rfl;have e2:∀ H:aj,aS H ab (.c (.f (.fp [fi id] 0)))=aa (vi id):=fun _=>rfl;have e3:∀ H:aj,aS H ab (.c (.f (.fp [fi l] 0)))=aa (vi l):=fun _=>rfl;refine cJ (C:=fun r H'=>r=vi (eo h id)∧H.length≤H'.length∧(∀ i y,H[i]?=aa y→i≠p→bB c≠aa i→H'[i]?=aa y) ∧
   (eo h id=0→H'[p]?=aa (.box [.f (fi (gT h id l).clock),.f (fi (gT h id l).bZ),c] 0)∧LR H' c 10 (aN (gT h id l).l))) aou rfl fun Q hQ=>?_
 have A:eo h id≠0→∀(t:T) (k:List dg) ,t.g 5=vi (eo h id)→WP tab 96 ab (.code .ret::k) ⟨t,[],H⟩ Q:=by
  intro j t k g;exact aB (hQ _ _ (vi (eo h id)) rfl (by simp [Km.results,bg,g]) ⟨rfl,aft _,fun i y hy _ _=>hy,fun e=>absurd e j⟩)
 apply ai;simp;apply ak;apply ak;refine al (.inl rfl) ?_;simp [e1,hv];cases E:eF h
 case false=>
  refine aq (by simp) (ai ?_);have j:eo h id=1:=by simp [eo,E]
  simp;exact A (by rw [j];decide) _ _ (by rw [j];simp)
 refine bp (by simp) ?_;obtain⟨i,hi,X,W,m⟩:=Fa h hl E id;have b:=xH E X W;simp [dv.row]at m;apply ai;simp [e1,e2,m];apply ak;refine aG ?_;apply ak;refine al (.inl rfl) ?_;simp;cases hf:ti h.l i id
 case false=>
  rw [hf]at b;simp at b;have j:eo h id=4:=by simp [eo,E,b]
  refine aq (by simp) (ai ?_);simp;exact A (by rw [j];decide) _ _ (by rw [j];simp)
 rw [hf]at b;simp at b;have s:i<h.l.length:=(qA b).1;have q:=s;obtain⟨x,hx⟩:=aI (h.l[i]);have L:x.state=h.l[i].state:=by rw [hx]
 rcases hL with⟨U,_⟩ | ⟨a_,B,ep,rfl,v⟩
 ·have:h.l.length=0:=by have:=congrArg List.length U;simpa [aN]using this
  omega
 have Z:(aN h.l).length=h.l.length:=by simp
 have I:(aN h.l)[i]?=aa x.row:=by rw [hx];exact dQ q
 have d:=v.at (show i<(aN h.l).length by omega);have K:=v.ldc (k:=2) (x:=fi x.state) (bS _) I rfl;obtain⟨H4,u,F,J,a8⟩:=v.stp (k:=2) (xs:=[fi l]) (bS _) I (by simp);simp only [asq,asA]at u;have Y:over x.row 2 [fi l]=(bl.row { x with state:=l }):=rfl;rw [Y,kY]at F;have N:B≠p:=fun e=>S (by rw [e];rfl);have z:aS H ab (.c (.ptr p 2 0))=aa (.c (.sl B 0 h.l.length 0 ep 10)):=by simp [hp,aQ]
 rw [Z]at d;refine aD (by simp) ?_;apply ai;by_cases M:x.state=1
 case neg=>
  have j:eo h id=7:=by simp [eo,E,b,s,←L,M]
  simp [z,d,K,M,-av];refine aq (by simp) (ai ?_);simp;exact A (by rw [j];decide) _ _ (by rw [j];simp)
 have j:eo h id=0:=by simp [eo,E,b,s,←L,M]
 simp [z,d,K,M,-av];refine aD (by simp) (aO (aw ?_));apply ai;simp [z,d,e3,u,-av,-bf];apply ai;simp;refine aB (hQ _ _ (vi 0) rfl (by simp [Km.results,bg]) ⟨by rw [j],by show H.length≤H4.length;omega,fun i y hy hi O=>J.get hy (fun e=>O (by rw [e];rfl)),fun _=>⟨J.get hp (Ne.symm N),?_⟩⟩);have h1:(gT h id l).l=h.l.set i { x with state:=l }:=by simp [gT,b,abN,s,hx]
 rw [h1];refine .inr ⟨fun e=>?_,B,ep,by simp,F⟩;have:=congrArg List.length e;simp at this;rw [this]at q;simp at q
theorem F5(h:dv)(q:h.l.length≤30)(y:∀ x ∈ h.l,Fix x.bc)(id l:Int):∃(g:Tg) (j:dv),j=(if eo h id=0 then { gT h id l with lg:=g }else gq) ∧
  bh tab 52 [.a (h.row.map .f),vi id,vi l]=Eq (.t [.a (j.row.map .f),vi (eo h id)]):=by
 obtain⟨g,j,m,d⟩:=xy h q y (acp h q id l);refine⟨g,j,m,bh.eq ?_⟩;refine bV rfl rfl fun Q v=>?_;simp [dv.row]at d;apply ai;simp [dv.row];obtain⟨u,b⟩:=aI (gu 64 (C.cl 96 [C.ptr 0 0 0,C.ptr 1 0 0,C.ptr 2 0 0]) [bq.box [C.f (fi h.clock),C.f (fi h.bZ),C.f (sl h.lg (aN h.l))] 0,bq.box [C.f (fi id)] 0,bq.box [C.f (fi l)] 0,bq.box [C.f (fi 0),C.f (fi 0),C.f FC.au] 0]:aj);have s:u[3]?=aa (.box [C.f (fi 0),C.f (fi 0),C.f FC.au] 0):=by rw [b];rfl
 apply ai;simp [lY,iV,cK,deep,d];rw [←b];simp [s];refine aB (v _ _ ?_);simp [Km.results,bg,an s,iV,cK,deep,dv.row]
theorem C'(h:dv)(m:h.l.length≤30)(q:∀ x ∈ h.l,Fix x.bc)(id:Int):∃(g:Tg) (d:dv),d=(if eo h id=0 then { gT h id 2 with lg:=g }else gq) ∧
  bh tab 33 [.a (h.row.map .f),vi id]=Eq (.t [.a (d.row.map .f),vi (eo h id)]):=by
 obtain⟨g,d,j,b⟩:=F5 h m q id 2;refine⟨g,d,j,bh.eq ?_⟩;refine bV rfl rfl fun Q l=>?_;simp [dv.row]at b;apply ai;simp [dv.row];apply ai;simp [b];refine aB (l _ _ ?_);simp [Km.results,bg,iV,cK,deep,dv.row]
theorem vL(h:dv)(m:h.l.length≤30)(q:∀ x ∈ h.l,Fix x.bc)(id:Int):∃(g:Tg) (d:dv),d=(if eo h id=0 then { gT h id 3 with lg:=g }else gq) ∧
  bh tab 22 [.a (h.row.map .f),vi id]=Eq (.t [.a (d.row.map .f),vi (eo h id)]):=by
 obtain⟨g,d,j,b⟩:=F5 h m q id 3;refine⟨g,d,j,bh.eq ?_⟩;refine bV rfl rfl fun Q l=>?_;simp [dv.row]at b;apply ai;simp [dv.row];apply ai;simp [b];refine aB (l _ _ ?_);simp [Km.results,bg,iV,cK,deep,dv.row]
def okX(b:Int)(x:bl):Prop:=1≤x.state∧x.state≤4∧0≤x.dl∧x.dl≤2251799813685248∧¬ (x.state=1∧x.dl<b)
theorem OH{b d:Int}{x:bl}:ju b d x=ae↔okX b x∧d<x.id:=by
 simp only [ju,mr,okX,If,decide_eq_true_eq,Bool.not_eq_true',Bool.and_eq_false_iff,decide_eq_false_iff_not];omega
theorem uZ{b:Int}:∀ {last:Int} {l:List bl},gZ b last l=ae↔(∀ x ∈ l,okX b x∧last<x.id)∧l.Pairwise fun x y=>x.id<y.id
 | _,[]=>by simp [gZ]
 | last,x::r=>by
  rw [gZ,If,OH,uZ,ata];constructor
  ·rintro⟨⟨j,m⟩,g,q⟩;refine⟨fun y d=>?_,fun y d=>(g y d).2,q⟩;rcases asv.1 d with rfl | d
   ·exact⟨j,m⟩
   ·exact⟨(g y d).1,by have:=(g y d).2;omega⟩
  ·rintro⟨j,m,g⟩;exact⟨j x asn,fun y d=>⟨(j y (asm _ d)).1,m y d⟩,g⟩
def sV(m r t z n p mi le:Int):aA:=⟨m,r,t,z,⟨.fs,[⟨.fs,[⟨.fs,[⟨.nil,[],0,n,.fs,[p]⟩]⟩],mi⟩],le,.nil,[]⟩⟩
structure aqC(m r t z n p mi le:Int):Prop where
 m0:1≤m
 m1:m≤22
 r0:0≤r
 r1:r≤2
 t0:0≤t
 t1:t≤2
 z0:1≤z
 z1:z≤12
 n0:1≤n
 n1:n≤6
 p0:0≤p
 p1:p<n
 i0:∃ k:Nat,k<60∧mi=20*k
 l0:10≤le
 l1:le≤300
def nL(s:aA):Prop:=∃ m r t z n p mi le,s=sV m r t z n p mi le∧aqC m r t z n p mi le
structure nq(h:dv):Prop where
 v:eF h=ae
 c0:100≤h.clock
 c1:h.clock≤100000
 d:h.bZ=5
 f:∀ x ∈ h.l,(1≤x.id∧x.id≤8∨x.id=100)∧nL x.bc
theorem ew{h:dv}:eF h=ae↔mr h.clock=ae∧mr h.bZ=ae∧(∀ x ∈ h.l,okX h.clock x∧0<x.id)∧h.l.Pairwise fun x y=>x.id<y.id:=by
 rw [eF,If,If,uZ,and_assoc]
theorem acu:∀ {l:List Int} {lo hi:Int},l.Pairwise (· < ·)→(∀ x ∈ l,lo≤x∧x≤hi)→lo≤hi+1→(l.length:Int)≤hi+1-lo
 | [],lo,hi,_,_,h=>by simp;omega
 | x::r,lo,hi,j,d,h=>by
  have b:=ata.1 j;have m:=d x asn;have:=acu (lo:=x+1) (hi:=hi) b.2 (fun y g=>⟨by have:=b.1 y g;omega,(d y (asm _ g)).2⟩) (by omega);simp only [List.length_cons];omega
theorem nq.len{h:dv}(k:nq h):h.l.length≤9:=by
 have d:=(ew.1 k.v).2.2.2;have:=acu (l:=h.l.map fun x=>if x.id=100 then 9 else x.id) (lo:=1) (hi:=9) (by
  rw [auc];refine List.Pairwise.imp_of_mem (fun {x y} b hy g=>?_) d;have h1:=(k.f x b).1;have h2:=(k.f y hy).1;split<;>split<;>omega) (fun y hy=>by
  obtain⟨x,b,rfl⟩:=asH.1 hy;have h1:=(k.f x b).1;split<;>omega) (by omega)
 simp at this;omega
theorem amd{n:Int}(h0:0≤n)(b:n≤2251799813685248):mr n=ae:=by simp [mr,h0,b]
theorem zR{h:dv}(k:nq h){c:Int}(h0:h.clock≤c)(l:c≤100000)(g:Tg):nq ⟨c,h.bZ,g,h.l.map (fI c)⟩:=by
 obtain⟨u,m,q,s⟩:=ew.1 k.v;have k0:=k.c0;have id:∀ x:bl,(fI c x).id=x.id∧(fI c x).bc=x.bc:=fun x=>by unfold fI;split<;>exact⟨rfl,rfl⟩
 refine⟨ew.2 ⟨amd (by show 0≤c;omega) (by show c≤_;omega),m,fun y j=>?_,?_⟩,by show 100≤c;omega,l,k.d,fun y j=>?_⟩
 ·obtain⟨x,d,rfl⟩:=asH.1 j;obtain⟨a,b⟩:=q x d;refine⟨?_,by rw [(id x).1];exact b⟩;unfold okX at *;unfold fI;split
  ·rename_i e;simp only;omega
  ·rename_i e;refine⟨a.1,a.2.1,a.2.2.1,a.2.2.2.1,e⟩
 ·show(h.l.map (fI c)).Pairwise _;rw [auc];exact List.Pairwise.imp (fun {x y} e=>by rw [(id x).1,(id y).1];exact e) s
 ·obtain⟨x,d,rfl⟩:=asH.1 j;rw [(id x).1,(id x).2];exact k.f x d
theorem F6{h:dv}(k:nq h){id b:Int}(B:b=2∨b=3)(g:Tg):nq { gT h id b with lg:=g }:=by
 obtain⟨u,v,q,z⟩:=ew.1 k.v;unfold gT;cases A:mc id h.l with
 | none=>exact⟨ew.2 ⟨u,v,q,z⟩,k.c0,k.c1,k.d,k.f⟩
 | some i=>
  obtain⟨hi,-⟩:=qA A;simp only [abN,By hi];have l:∀ y ∈ h.l.set i { h.l[i]with state:=b },∃ x ∈ h.l,y=x∨y = { x with state:=b }:=fun y j=>by
   rcases List.mem_or_eq_of_mem_set j with h | rfl
   ·exact⟨y,h,.inl rfl⟩
   ·exact⟨h.l[i],anc hi,.inr rfl⟩
  have d:(h.l.set i { h.l[i]with state:=b }).map bl.id=h.l.map bl.id:=by
   rw [List.map_set];have:(bl.id { h.l[i]with state:=b })=(h.l.map bl.id)[i]'(by simpa using hi):=by simp
   rw [this,att]
  refine⟨ew.2 ⟨u,v,fun y j=>?_,?_⟩,k.c0,k.c1,k.d,fun y j=>?_⟩
  ·obtain⟨x,m,rfl | rfl⟩:=l y j
   ·exact q _ m
   ·have:=q x m;unfold okX at *;simp only;omega
  ·have s:(h.l.map bl.id).Pairwise (· < ·):=by rw [auc];exact z
   rw [←d,auc]at s;exact s
  ·obtain⟨x,m,e⟩:=l y j;have:=k.f x m;rcases e with rfl | rfl<;>exact this
theorem aaN{h:dv}(k:nq h){x:bl}(E:okX h.clock x)(h0:0<x.id)(v:(1≤x.id∧x.id≤8∨x.id=100)∧nL x.bc){i:Nat}(u:∀ j (l:j<h.l.length),j<i→h.l[j].id<x.id)(s:∀ j (l:j<h.l.length),i≤j→x.id<h.l[j].id)(g:Tg) :
  nq ⟨h.clock,h.bZ,g,h.l.take i++x::h.l.drop i⟩:=by
 obtain⟨H,I,J,A⟩:=ew.1 k.v;have m:∀ y ∈ h.l.take i++x::h.l.drop i,y=x∨y ∈ h.l:=fun y d=>by
  rcases asw.1 d with d | d
  ·exact .inr (List.mem_of_mem_take d)
  ·rcases asv.1 d with e | d
   ·exact .inl e
   ·exact .inr (List.mem_of_mem_drop d)
 have F:∀ y ∈ h.l.take i,y.id<x.id:=fun y d=>by
  obtain⟨j,l,rfl⟩:=asZ d;rw [ast]at l;rw [List.getElem_take];exact u j (by omega) (by omega)
 have z:∀ y ∈ h.l.drop i,x.id<y.id:=fun y d=>by
  obtain⟨j,l,rfl⟩:=asZ d;rw [List.length_drop]at l;rw [List.getElem_drop];exact s (i+j) (by omega) (by omega)
 refine⟨ew.2 ⟨H,I,fun y d=>?_,?_⟩,k.c0,k.c1,k.d,fun y d=>?_⟩
 ·rcases m y d with e | d
  ·rw [e];exact⟨E,h0⟩
  ·exact J y d
 ·show(h.l.take i++x::h.l.drop i).Pairwise _;refine List.pairwise_append.2 ⟨A.sublist (List.take_sublist _ _),ata.2 ⟨z,A.sublist (List.drop_sublist _ _)⟩,fun a B b q=>?_⟩;have:=F a B;rcases asv.1 q with e | q
  ·rw [e];exact this
  ·have:=z b q;omega
 ·rcases m y d with e | d
  ·rw [e];exact v
  ·exact k.f y d
abbrev u64(n:Int):V:=.c (.f (.int .u64 n))
theorem je{n:Int}(b:0≤n)(d:n≤18446744073709551615):IntKind.wrap .u64 n=n:=by
 simp only [IntKind.wrap,IntKind.bits,IntKind.signed];simp;omega
theorem acr{a b:Int}(h:0≤a)(d:0<b):dq .rem (u64 a) (u64 b)=aa (u64 (a % b)):=by
 rw [ik (by omega),atp h]
theorem apF{a b:Int}(h:0≤a)(g:0<b)(d:a≤18446744073709551615):dq .quo (u64 a) (u64 b)=aa (u64 (a / b)):=by
 rw [ta (by omega),at3 h,je (atU h (by omega)) (aur (atQ _ h) d)]
theorem pD{a:Int}(h0:0≤a)(d:a≤9223372036854775807):bh tab 319 [vi a]=Eq (u64 a):=bh.eq (by
 refine bV rfl rfl fun Q b=>?_;apply ai;simp;refine ak (ai ?_);simp;refine aD (by simp;omega) (aO ?_);apply ai;simp [je (n:=a) h0 (by omega)];refine aB (b _ _ ?_);simp)
theorem aaz{x y:Nat}(h:0<y):aue y (x % y)=aue x y:=by rw [Nat.gcd_comm x y,Nat.gcd_rec y x,Nat.gcd_comm]
theorem aay{a b:Nat}(v:(a:Int)≤4611686018427387904)(z:(b:Int)≤4611686018427387904):bh tab 257 [vi a,vi b]=Eq (vi (aue a b:Nat)):=bh.eq (by
 have F:=pD (a:=a) (by omega) (by omega);have H:=pD (a:=b) (by omega) (by omega);refine bV rfl rfl fun Q A=>?_;apply ai;simp;apply ai;simp [F,H];refine ak (aG ?_);refine cP (fun m s=>∃(x y:Nat) (t:T),s=⟨t,[],[]⟩∧m=y∧(x:Int)≤4611686018427387904∧(y:Int)≤4611686018427387904∧t.g 5=u64 x∧t.g 6=u64 y∧aue x y=aue a b) b ⟨a,b,_,rfl,rfl,v,z,by simp,by simp,rfl⟩ ?_;rintro m s ⟨x,y,t,rfl,rfl,I,J,d,l,q⟩ E;refine ak (ai ?_);simp [l];by_cases h0:m=0
 ·subst h0;refine aD (by simp) (bR rfl ?_);have j:x=aue a b:=by rw [←q];simp
  have B:¬ ((9223372036854775807:Int)<x):=by omega
  refine ak (ai ?_);simp [d,B];refine bp (by simp) ?_;apply ai;simp [d,aU (n:=(x:Int))];refine aB (A _ _ ?_);simp [j]
 ·have u:=acr (a:=x) (b:=m) (by omega) (by omega);rw [show(x:Int) % (m:Int)=((x % m:Nat):Int) from(Int.natCast_emod x m).symm]at u;have g:x % m<m:=Nat.mod_lt _ (by omega);refine aq (by simp [h0]) (aO ?_);refine aG (al (.inl rfl) ?_);simp [d,l,u];refine aw (E (x % m) _ g ⟨m,x % m,_,rfl,rfl,by omega,by omega,by simp,by simp,by rw [aaz (by omega)];exact q⟩))
theorem ZV{x:Int}(h0:0≤x)(g:x≤4294967295):dq .and (u64 x) (u64 4294967295)=aa (u64 x):=by
 obtain⟨n,rfl⟩:∃ n:Nat,x=n:=⟨x.toNat,by omega⟩
 have e:(BitVec.ofInt 64 (n:Int) &&& BitVec.ofInt 64 4294967295).toNat=n:=by
  rw [BitVec.toNat_and];have b:(BitVec.ofInt 64 (n:Int)).toNat=n:=by simp [BitVec.toNat_ofInt];omega
  have d:(BitVec.ofInt 64 4294967295).toNat=2 ^ 32-1:=by decide
  rw [b,d,Nat.and_two_pow_sub_one_eq_mod,Nat.mod_eq_of_lt (by omega)]
 have key:IntKind.wrap .u64 ((BitVec.ofInt 64 (n:Int) &&& BitVec.ofInt 64 4294967295).toNat:Int)=n:=by rw [e];exact je (by omega) (by omega)
 exact congrArg (fun k:Int=>aa (u64 k)) key
theorem FP{x:Int}(_:0≤x):dq .shr (u64 x) (u64 32)=aa (u64 (x / 4294967296)):=by
 simp only [dq];rw [aX (by decide),show min (Int.toNat 32) IntKind.u64.bits=32 from rfl,Int.fdiv_eq_ediv_of_nonneg _ (by decide)];rfl
theorem vl{x y:Int}(q:0≤x)(K:x≤2147483648)(g:0≤y)(L:y≤2147483648):bh tab 320 [u64 x,u64 y]=Eq (.t [u64 0,u64 (x*y)]):=bh.eq (by
 have d:0≤x*y:=atw q g;have F:x*y≤2147483648*2147483648:=aua K L g (by decide);have j:x*y / 4294967296≤4294967295:=by omega
 have b:0≤x*y / 4294967296:=by omega
 have a1:=ZV q (show x≤4294967295 by omega);have A:=ZV g (show y≤4294967295 by omega);have s:=FP q;have u:=FP g;have I:x / 4294967296=0:=by omega
 have J:y / 4294967296=0:=by omega
 rw [I]at s;rw [J]at u;have H:=FP d;have B:=ZV b j;have l:=FP b;have sz:x*y / 4294967296 / 4294967296=0:=by omega
 rw [sz]at l;have v:IntKind.wrap .u64 (x*y)=x*y:=je d (by omega);have z:IntKind.wrap .u64 (x*y / 4294967296)=x*y / 4294967296:=je b (by omega);have m:IntKind.wrap .u64 0=0:=by decide
 refine bV rfl rfl fun Q E=>?_;apply ai;simp;apply ai;simp [a1];apply ai;simp [s];apply ai;simp [A];apply ai;simp [u];apply ai;simp [v];apply ai;simp [H,m,z];apply ai;simp [B];apply ai;simp [l];apply ai;simp [m,z];apply ai;simp [m,l];apply ai;simp [v];refine aB (E _ _ ?_);simp)
theorem aaj{x n:Int}(j:0≤x)(u:x≤9223372036854775807)(g:0<n)(s:n≤9223372036854775807):bh tab 322 [u64 0,u64 x,u64 n]=Eq (.t [u64 (x / n),u64 (x % n)]):=bh.eq (by
 have b:¬ (n=0):=by omega
 have d:¬ (n≤0):=by omega
 have l:=apF j g (by omega);have m:=acr j g;refine bV rfl rfl fun Q q=>?_;apply ai;simp;refine ak (ai ?_);simp;refine bp (by simp [b]) ?_;refine ak (ai ?_);simp;refine bp (by simp [d]) ?_;refine ak (ai ?_);simp;refine aq (by simp) ?_;apply ai;simp [l,m];refine aB (q _ _ ?_);simp)
theorem mB{a b:Int}(h:0≤a)(g:0<b)(d:a≤9223372036854775807):dq .quo (vi a) (vi b)=aa (vi (a / b)):=by
 rw [ta (by omega),at3 h,wrap64 (aur (by omega) (atU h (by omega))) (aur (atQ _ h) d)]
theorem vM{a b:Int}(h:0≤a)(d:0<b):dq .rem (vi a) (vi b)=aa (vi (a % b)):=by
 rw [ik (by omega),atp h]
theorem amx{a b:Int}(h:a≤0)(m:0<b)(l:-9223372036854775807≤a):dq .quo (vi a) (vi b)=aa (vi (-((-a) / b))):=by
 have g:(-a) / b≤-a:=atQ _ (by omega);have j:0≤(-a) / b:=atU (by omega) (by omega);have d:a.tdiv b = -((-a) / b):=by
  have:a = -(-a):=by omega
  rw [this,Int.neg_tdiv,at3 (by omega)];simp
 rw [ta (by omega),d,aU]
theorem amy{a b:Int}(h:a≤0)(g:0<b):dq .rem (vi a) (vi b)=aa (vi (-((-a) % b))):=by
 have d:a.tmod b = -((-a) % b):=by
  have:a = -(-a):=by omega
  rw [this,Int.neg_tmod,atp (by omega)];simp
 rw [ik (by omega),d]
theorem rr(a b:Int)(B:1≤b)(A:-4611686018427387904≤a)(g:a≤4611686018427387904):bh tab 173 [vi a,vi b]=Eq (.t [vi (a / b),vi 0]):=bh.eq (by
 refine bV rfl rfl fun Q d=>?_;apply ai;simp;apply ak;apply ai;simp;refine aD (by simp;omega) (aO ?_);by_cases h:0≤a
 ·apply ai;simp [mB h (show 0<b by omega) (by omega)];apply ak;apply ai;have:=asV a (show b≠0 by omega);simp [vM h (show 0<b by omega)];refine aD (by simp;omega) (aO ?_);apply ai;simp;refine aB (d _ _ ?_);simp
 ·apply ai;simp [amx (show a≤0 by omega) (show 0<b by omega) (by omega)];apply ak;apply ai;have e:=asV (-a) (show b≠0 by omega);have j:=asO (-a) (show 0<b by omega);have q:0≤(-a) / b:=atU (by omega) (by omega);have m:(-a) / b≤-a:=atQ _ (by omega);have l:=Int.mul_ediv_add_emod (-a) b;simp [amy (show a≤0 by omega) (show 0<b by omega)];by_cases s:(-a) % b=0
  ·refine aD (by simp;omega) (aO ?_);apply ai;simp;refine aB (d _ _ ?_);have:a / b = -(-a / b):=by
    refine Int.ediv_eq_of_eq_mul_right (by omega) ?_;rw [Int.mul_neg];omega
   simp [this]
  ·refine aq (by simp;omega) ?_;refine al (.inl rfl) ?_;simp [aU (n:=-(-a / b)-1)];apply ai;simp;refine aB (d _ _ ?_);have:a / b = -(-a / b)-1:=by
    have u:=asV a (show b≠0 by omega);have v:=asO a (show 0<b by omega);have x:=Int.mul_ediv_add_emod a b;have y:b*(a / b+(-a) / b+1)=b-a % b-(-a) % b:=by rw [Int.mul_add,Int.mul_add];omega
    have z:a / b+(-a) / b+1=0:=by
     rcases Int.lt_trichotomy (a / b+(-a) / b+1) 0 with h | h | h
     ·have:b*(a / b+(-a) / b+1)≤b*(-1):=asx (by omega) (by omega);omega
     ·exact h
     ·have:b*1≤b*(a / b+(-a) / b+1):=asx (by omega) (by omega);omega
    omega
   simp [this])
theorem uB(a:Int)(g:-4611686018427387904≤a)(b:a≤4611686018427387904):bh tab 105 [vi a]=Eq (vi (a / 1440)):=Kf.eq (by
 refine cT rfl rfl fun H Q d=>?_;apply ai;simp;apply ai;simp [rr a 1440 (by omega) g b];apply ai;simp;refine aB (d _ _ ?_);simp)
def fM(len mi d:Int):aM:=⟨d,d*1440+mi,d*1440+mi+len⟩
def lN(n:Int):Prop:=-1000000000000000≤n∧n≤1000000000000000
theorem Ba(b g j:FC)(len mi d:Int)(m:lN len)(q:lN mi)(s:lN d) :
  bh tab 171 [.a [.f b,.f (fi len),.f g],.a [.f j,.f (fi mi)],vi d]=Eq (.a ((fM len mi d).row.map .f)):=bh.eq (Kf.D4 (by
 unfold lN at *;refine cT rfl rfl fun H Q l=>?_;apply ai;simp;apply ai;simp [aU (n:=d*1440),aU (n:=d*1440+mi)];apply ai;simp [aU (n:=d*1440+mi+len)];refine aB (l _ _ ?_);simp [fM,aM.row]))
theorem Cr{u m:Int}(b:0<m):(u.tmod m+m).tmod m=u % m:=by
 have d:=aun u b;have g:=auo u b;rw [atp (by omega),Int.add_emod_right];exact at6.2 (by
  have:=Int.tmod_add_mul_tdiv u m;have e:u.tmod m-u = -(m*u.tdiv m):=by omega
  rw [e];exact Int.emod_eq_zero_of_dvd (Int.dvd_neg.2 (at0 _ _)))
theorem Bh{x y:Int}(l:1<x)(h:atC x y=1):1≤y % x:=by
 have h0:=asV y (show x≠0 by omega);rcases atq 0 (y % x)with d | d
 ·omega
 ·exfalso;have g:y % x=0:=by omega
  have j:x ∣ y:=Int.dvd_of_emod_eq_zero g;have b:x ∣ (atC x y:Int):=Int.dvd_coe_gcd (Int.dvd_refl x) j;rw [h]at b;have:=Int.le_of_dvd (by decide) b;omega
theorem Dv{a m:Int}(a0:0≤a)(a1:a≤1099511627776)(m0:2≤m)(m1:m≤1000000)(hg:atC a m=1) :
  ∃ x,0≤x∧x<m∧m ∣ a*x-1∧bh tab 321 [vi a,vi m]=Eq (vi x):=by
 obtain⟨c,⟨x,p,r,w,rfl⟩,hp⟩:∃ c,(∃ x,0≤x∧x<m∧m ∣ a*x-1∧c=vi x)∧bh tab 321 [vi a,vi m] c:=by
  have hr:=vM (a:=a) (b:=m) a0 (by omega);have a8:=asV a (show m≠0 by omega);have H:=asO a (show 0<m by omega);have l:atC (a % m) m=1:=by
   have e:a % m=a-a / m*m:=by have:=as7 a m;rw [atK (a / m)];omega
   rw [e,Int.gcd_sub_mul_right_left];exact hg
  have Z:1≤a % m:=by
   rcases atq 0 (a % m)with h | h
   ·omega
   ·exfalso;have h0:a % m=0:=by omega
    rw [h0]at l;simp at l;omega
  refine fg rfl rfl fun Q hQ=>?_;apply ai;simp;apply ai;simp [hr];refine ak (aG ?_);refine cP (fun n s=>∃(x y u v U V:Int) (t:T),s=⟨t,[],[]⟩∧(n:Int)=x∧t.g 1=vi m∧t.g 5=vi x∧t.g 6=vi y∧t.g 7=vi u∧t.g 8=vi v∧1≤x∧x<y∧y≤m∧atC x y=1∧m ∣ a*u-x∧m ∣ a*v-y ∧
   0≤U∧0≤V∧(u=U∧v = -V∨u = -U∧v=V)∧U*y+V*x=m) (a % m).toNat
   ⟨a % m,m,1,0,1,0,_,rfl,by omega,by simp,by simp,by simp,by simp,by simp,Z,H,by omega,l,?_,?_,by decide,by decide,.inl ⟨rfl,rfl⟩,by omega⟩ ?_
  ·refine⟨a / m,?_⟩;have:=as7 a m;omega
  ·exact⟨-1,by omega⟩
  rintro n s ⟨x,y,u,v,U,V,t,rfl,hn,i,I,k,o,g8,p,r,w,h4,M,h6,A,h8,h9,J⟩ ih;have b9:U≤U*y:=by have:=asx (show(1:Int)≤y by omega) A;omega
  have c_:0≤V*x:=atw h8 (by omega);have a_:U≤m:=by omega
  have b_:V≤m:=by
   have K:V≤V*x:=by have:=asx (show(1:Int)≤x by omega) h8;omega
   have L:0≤U*y:=atw A (by omega);omega
  refine ak (ai ?_);simp [I];by_cases hx:1<x
  ·
   have B:0≤y / x:=atU (by omega) (by omega);have X:y / x≤y:=atQ _ (by omega);have E:=mB (a:=y) (b:=x) (by omega) (by omega) (by omega);obtain⟨q,hq⟩:=aI (y / x);have j:=as7 y x;have O:=Bh hx h4;have S:=asO y (show 0<x by omega);rw [←hq]at B X E j;obtain⟨g,Y⟩:=aI (y % x);rw [←Y]at j O S;have e_:q*x=y-g:=by rw [atK];omega
   obtain⟨W,hW⟩:=aI (V+q*U);have d_:0≤q*U:=atw B A;have N:W*x+U*g=m:=by
    rw [hW,Int.add_mul,←J,show g=y-q*x by omega,auf,atV q U x,aup q U x];omega
   have d9:W≤m:=by
    have K:W≤W*x:=by have:=asx (show(1:Int)≤x by omega) (show 0≤W by omega);omega
    have L:0≤U*g:=atw A (by omega);omega
   have d:(u=U→q*u=q*U)∧(u = -U→q*u = -(q*U)):=⟨fun e=>by rw [e],fun e=>by rw [e,Int.mul_neg]⟩
   have hb:-m≤q*u∧q*u≤m:=by
    rcases h9 with⟨e,-⟩ | ⟨e,-⟩
    ·rw [d.1 e];omega
    ·rw [d.2 e];omega
   have f8:-m≤v∧v≤m:=by omega
   have f:=aU (n:=q*x);have w2:IntKind.i64.wrap (y-q*x)=g:=by rw [aU];omega
   have w3:=aU (n:=q*u);have w4:=aU (n:=v-q*u);refine aq (by simp [hx]) (aO ?_);refine aG (ai ?_);simp [I,k,E];apply ai;simp [I,k,f,w2];refine al (.inl rfl) ?_;simp [o,g8,w3,w4];refine aw (ih g.toNat _ (by omega) ⟨g,x,v-q*u,u,W,U,_,rfl,by omega,by simp [i],by simp,by simp,by simp,by simp,by omega,by omega,by omega,?_,?_,M,by omega,A,?_,N⟩)
   ·rw [show g=y-q*x by omega,Int.gcd_sub_mul_right_left,Int.gcd_comm];exact h4
   ·have e:a*(v-q*u)-g=(a*v-y)-q*(a*u-x):=by
     rw [auf,auf,aup a q u];omega
    rw [e];exact atA h6 (Int.dvd_mul_of_dvd_right M)
   ·rcases h9 with⟨z,e2⟩ | ⟨z,e2⟩
    ·exact .inr ⟨by rw [d.1 z];omega,z⟩
    ·exact .inl ⟨by rw [d.2 z];omega,z⟩
  ·
   have F:x=1:=by omega
   subst F;have f7:-m≤u∧u≤m:=by omega
   have t1:=aun u (show 0<m by omega);have t2:=auo u (show 0<m by omega);have r1:dq .rem (vi u) (vi m)=aa (vi (u.tmod m)):=ik (by omega);have r2:dq .rem (vi (u.tmod m+m)) (vi m)=aa (vi (u % m)):=by rw [ik (by omega),Cr (by omega)]
   have f:=aU (n:=u.tmod m+m);refine aD (by simp) (bR rfl ?_);apply ai;simp [i,o,r1,f,r2];refine aB (hQ _ _ _ ⟨u % m,asV _ (by omega),asO _ (by omega),?_,rfl⟩ (by simp));have e:a*(u % m)-1=(a*u-1)-a*(u / m)*m:=by
    have:=as7 u m;rw [show u % m=u-m*(u / m) by omega,auf,atV,atK m];omega
   rw [e];exact atA M (aug _ _)
 exact⟨x,p,r,w,hp.eq⟩
theorem ag'{a s r p d:Int}(m:¬ (atC s p:Int) ∣ r-a)(j:s ∣ d-a)(l:p ∣ d-r):False:=by
 apply m;have b:=atD (auh s p) j;have g:=atD (auq s p) l;have:=atA b g;rwa [show d-a-(d-r)=r-a by omega]at this
theorem ag9{a s r p g n t:Int}(q:g=(atC s p:Int))(F:0<p)(H:0<s)(z:p=n*g)(A:g ∣ r-a)(E:n ∣ t*(s / g)-(r-a) / g) :
  (∀ d,s ∣ d-a∧p ∣ d-r↔(s*n) ∣ d-(a+t*s))∧0<g∧0<n:=by
 have l:0<g:=by
  rw [q];have:=at1 p (show s≠0 by omega);omega
 have u:0<n:=by
  rcases Int.lt_trichotomy n 0 with h | h | h
  ·have:=Int.mul_neg_of_neg_of_pos h l;omega
  ·subst h;omega
  ·exact h
 have x:s / g*g=s:=aul (q▸auh s p);have v:(r-a) / g*g=r-a:=aul A;have j:p ∣ a+t*s-r:=by
  obtain⟨k,B⟩:=E;refine⟨k,?_⟩;have:a+t*s-r=(t*(s / g)-(r-a) / g)*g:=by
   rw [Int.sub_mul,v,atV,x];omega
  rw [this,B,z,Int.mul_right_comm]
 have y:(Int.lcm s p:Int)=s*n:=by
  have b:((atC s p*Int.lcm s p:Nat):Int)=s*p:=by
   rw [Int.gcd_mul_lcm,atT,Int.natAbs_of_nonneg (by omega),Int.natAbs_of_nonneg (by omega)]
  rw [atT,←q]at b;have m:g*(Int.lcm s p:Int)=g*(s*n):=by rw [b,z,←atV,atK]
  exact Int.eq_of_mul_eq_mul_left (by omega) m
 refine⟨fun d=>⟨fun⟨b,m⟩=>?_,fun h=>⟨?_,?_⟩⟩,l,u⟩
 ·rw [←y];refine Int.coe_lcm_dvd ?_ ?_
  ·have:d-(a+t*s)=d-a-t*s:=by omega
   rw [this];exact atA b (aug t s)
  ·have:d-(a+t*s)=d-r-(a+t*s-r):=by omega
   rw [this];exact atA m j
 ·have b:=atD (at0 s n) h;have:d-a=d-(a+t*s)+t*s:=by omega
  rw [this];exact Int.dvd_add b (aug t s)
 ·have b:p ∣ d-(a+t*s):=atD (by rw [←y];exact Int.dvd_lcm_right s p) h;have:d-r=d-(a+t*s)+(a+t*s-r):=by omega
  rw [this];exact Int.dvd_add b j
theorem Fy{a b n:Int}:a % n=b % n↔n ∣ a-b:=at6.trans Int.dvd_iff_emod_eq_zero.symm
abbrev clV(at' st:Int):V:=.a [.f (.int .i64 at'),.f (.int .i64 st)]
theorem ahU{a s r p:Int}(a0:0≤a)(a1:a<s)(s1:s≤1000000)(r0:0≤r)(r1:r<p)(p1:p≤1000) :
  (∃ a' s',0≤a'∧a'<s'∧s'≤s*p∧(∀ d,s ∣ d-a∧p ∣ d-r↔s' ∣ d-a')∧bh tab 260 [clV a s,vi r,vi p]=Eq (.t [clV a' s',vb ae])) ∨
  ((∀ d,¬ (s ∣ d-a∧p ∣ d-r))∧bh tab 260 [clV a s,vi r,vi p]=Eq (.t [clV 0 0,vb ag])):=by
 have s0:0<s:=by omega
 have p0:0<p:=by omega
 obtain⟨g,y⟩:=aI ((atC s p:Int):Int);have a_:atC s p=aue s.toNat p.toNat:=by
  show aue s.natAbs p.natAbs=_;rw [show s.natAbs=s.toNat by omega,show p.natAbs=p.toNat by omega]
 have b9:g ∣ s:=y▸auh s p;have M:g ∣ p:=y▸auq s p;have l:0<atC s p:=at1 p (by omega);have g0:0<g:=by rw [y];exact Int.natCast_pos.2 l
 have gp:g≤p:=Int.le_of_dvd p0 M;obtain⟨n,i⟩:=aI (p / g);have X:p=n*g:=by rw [i,aul M]
 have B:0<n:=by
  rcases atq 0 n with h | h
  ·exact h
  ·have:=Int.mul_nonneg_of_nonpos_of_nonpos (a:=n) (b:=-g) h (by omega);rw [Int.mul_neg]at this;omega
 have np:n≤p:=by
  have:=asx (show(1:Int)≤g by omega) (show 0≤n by omega);omega
 have j:bh tab 257 [vi s,vi p]=Eq (vi g):=by
  have h:=aay (a:=s.toNat) (b:=p.toNat) (by omega) (by omega);rw [show((s.toNat:Nat):Int)=s by omega,show((p.toNat:Nat):Int)=p by omega,←a_,←y]at h;exact h
 have b0:∀ {L:aj},aS (.box [.f (fi a),.f (fi s)] 0::L) ab (.c (.ptr 0 0 0))=aa (vi a)∧aS (.box [.f (fi a),.f (fi s)] 0::L) ab (.c (.ptr 0 1 0))=aa (vi s)∧aS (.box [.f (fi a),.f (fi s)] 0::L) (aa 2) (.c (.ptr 0 0 0))=aa (clV a s):=by
  intro L;refine⟨?_,?_,?_⟩<;>simp [aS,aE,aQ]
 have q:=aU (n:=r-a);have F:dq .rem (vi (r-a)) (vi g)=aa (vi ((r-a).tmod g)):=ik (by omega);have A:¬ (s=0):=by omega
 by_cases x:g ∣ r-a
 ·left;have m:(r-a).tmod g=0:=Int.tmod_eq_zero_of_dvd x;by_cases z:n=1
  ·
   have N:p=g:=by rw [X,z,Int.one_mul]
   refine⟨a,s,a0,a1,?_,fun d=>⟨fun h=>h.1,fun h=>⟨h,?_⟩⟩,bh.eq ?_⟩
   ·have:=asx (show(1:Int)≤p by omega) (show 0≤s by omega);omega
   ·rw [N];have:=atA (atD b9 h) x;rwa [show d-a-(r-a)=d-r by omega]at this
   ·have E:dq .quo (vi p) (vi g)=aa (vi n):=by rw [mB (by omega) g0 (by omega),←i]
    refine bV rfl rfl fun Q I=>?_;apply ai;simp;refine ak (ai ?_);simp [b0,-av,A];refine bp (by simp) ?_;apply ai;simp [b0,-av,j];refine ak (ai ?_);simp [b0,-av,q,F,m];refine bp (by simp) ?_;apply ai;simp [E];refine ak (ai ?_);simp [z];refine aq (by simp) ?_;apply ai;simp [b0,-av];refine aB (I _ _ ?_);simp
  ·
   have n2:2≤n:=by omega
   have Z:0≤s / g:=atU (by omega) (by omega);have f_:s / g≤s:=atQ _ (by omega);have J:atC (s / g) n=1:=by rw [i,y];exact Int.gcd_ediv_gcd_ediv_gcd l
   obtain⟨v,o,v1,hv,S⟩:=Dv Z (by omega) n2 (by omega) J;obtain⟨w,hw⟩:=aI (((r-a) / g) % n);have w0:0≤w:=by rw [hw];exact asV _ (by omega)
   have w1:w<n:=by rw [hw];exact asO _ B
   obtain⟨t,ht⟩:=aI ((w*v) % n);have t0:0≤t:=by rw [ht];exact asV _ (by omega)
   have t1:t<n:=by rw [ht];exact asO _ B
   have U:n ∣ t*(s / g)-(r-a) / g:=by
    obtain⟨k,hk⟩:=hv;have e1:t=w*v-n*(w*v / n):=by have:=as7 (w*v) n;omega
    have e2:w=(r-a) / g-n*((r-a) / g / n):=by have:=as7 ((r-a) / g) n;omega
    have e3:t*(s / g)-(r-a) / g=w*(s / g*v-1)-n*(w*v / n)*(s / g)-n*((r-a) / g / n):=by
     rw [e1,Int.sub_mul,auf,atV w v,atK v (s / g)];omega
    rw [e3,hk];refine atA (atA ?_ ?_) (at0 _ _)
    ·exact⟨w*k,by rw [aup]⟩
    ·exact⟨w*v / n*(s / g),by rw [atV]⟩
   obtain⟨O,-,-⟩:=ag9 y p0 s0 X x U;have h_:0≤t*s:=atw t0 (by omega);have i4:t*s≤(n-1)*s:=aui (by omega) (by omega);have i6:(n-1)*s=n*s-s:=by rw [Int.sub_mul,Int.one_mul]
   have f8:n*s≤1000*1000000:=aua (by omega) s1 (by omega) (by decide);have i7:s*n=n*s:=atK _ _;have c:0≤w*v:=atw w0 o;have i5:w*v≤1000*1000:=aua (by omega) (by omega) o (by decide);have g_:0≤n*s:=atw (by omega) (by omega);refine⟨a+t*s,s*n,by omega,by omega,?_,O,bh.eq ?_⟩
   ·exact asx np (by omega)
   ·have E:dq .quo (vi p) (vi g)=aa (vi n):=by rw [mB (by omega) g0 (by omega),←i]
    have a8:dq .quo (vi (r-a)) (vi g)=aa (vi ((r-a) / g)):=by
     rw [ta (by omega),Int.tdiv_eq_ediv_of_dvd x];have hb:-1000000≤(r-a) / g∧(r-a) / g≤1000000:=by
      obtain⟨k,hk⟩:=x;rw [hk,Int.mul_ediv_cancel_left _ (by omega)];constructor
      ·rcases atq k (-1000000)with h | h
       ·have:=asx (show k≤-1000001 by omega) (show 0≤g by omega);omega
       ·omega
      ·rcases atq 1000000 k with h | h
       ·have:=asx (show(1000001:Int)≤k by omega) (show 0≤g by omega);omega
       ·omega
     rw [aU]
    have d_:dq .rem (vi ((r-a) / g)) (vi n)=aa (vi (((r-a) / g).tmod n)):=ik (by omega);have tl:=aun ((r-a) / g) B;have tg:=auo ((r-a) / g) B;have e_:=aU (n:=((r-a) / g).tmod n+n);have W:dq .rem (vi (((r-a) / g).tmod n+n)) (vi n)=aa (vi w):=by rw [ik (by omega),Cr B,←hw]
    have f7:dq .quo (vi s) (vi g)=aa (vi (s / g)):=mB (by omega) g0 (by omega);have uw:IntKind.wrap .u64 w=w:=je w0 (by omega);have uv:IntKind.wrap .u64 v=v:=je o (by omega);have un:IntKind.wrap .u64 n=n:=je (by omega) (by omega);have us:IntKind.wrap .u64 s=s:=je (by omega) (by omega);have b_:=vl w0 (show w≤2147483648 by omega) o (show v≤2147483648 by omega);have Y:=acr (a:=0) (b:=n) (by decide) B;rw [Int.zero_emod]at Y;have K:=aaj c (show w*v≤9223372036854775807 by omega) B (show n≤9223372036854775807 by omega);rw [←ht]at K;have c_:=vl t0 (show t≤2147483648 by omega) (show 0≤s by omega) (show s≤2147483648 by omega);have d9:=vl (show 0≤s by omega) (show s≤2147483648 by omega) (show 0≤n by omega) (show n≤2147483648 by omega);have u:=aU (n:=t*s);have fa:=aU (n:=1152921504606846976-a);have c1:¬ (1152921504606846976<t*s):=by omega
    have c2:¬ (1152921504606846976-a<t*s):=by omega
    have H:=aU (n:=a+t*s);have f:=aU (n:=s*n);have c3:s*n≤1152921504606846976:=by omega
    refine bV rfl rfl fun Q I=>?_;apply ai;simp;refine ak (ai ?_);simp [b0,-av,A];refine bp (by simp) ?_;apply ai;simp [b0,-av,j];refine ak (ai ?_);simp [b0,-av,q,F,m];refine bp (by simp) ?_;apply ai;simp [E];refine ak (ai ?_);simp [z];refine bp (by simp) ?_;apply ai;simp [b0,-av,q,a8,d_,e_,W];apply ai;simp [b0,-av,uw,f7,S,uv,b_];apply ai;simp [un,Y,K];apply ai;simp [b0,-av,us,c_];refine ak (ai ?_);simp [b0,-av,c1,u,fa,c2];refine bp (by simp) ?_;apply ai;simp [b0,-av,u,H];refine ak (ai ?_);simp [b0,-av,us,un,d9];apply ai;simp [c3];refine aq (by simp) (al (.inl rfl) ?_);simp [f];apply ai;simp;refine aB (I _ _ ?_);simp
 ·right;refine⟨fun d h=>ag' (fun e=>x (y▸e)) h.1 h.2,bh.eq ?_⟩;have m:¬ (r-a).tmod g=0:=fun e=>x (Int.dvd_of_tmod_eq_zero e);refine bV rfl rfl fun Q I=>?_;apply ai;simp;refine ak (ai ?_);simp [b0,-av,A];refine bp (by simp) ?_;apply ai;simp [b0,-av,j];refine ak (ai ?_);simp [b0,-av,q,F,m];refine aq (by simp) ?_;apply ai;simp;refine aB (I _ _ ?_);simp
theorem Bu(a b:Int):bh tab 338 [vi a,vi b]=Eq (vb (decide (a<b))):=Kf.eq (by
 refine cT rfl rfl fun H Q d=>?_;apply ai;simp;apply ai;simp [pk];refine aB (d _ _ ?_);simp [pk])
theorem aiH(a:Int):bh tab 339 [vi a]=Eq (vb ag):=Kf.eq (by
 refine cT rfl rfl fun H Q b=>?_;apply ai;simp;apply ai;simp;refine aB (b _ _ ?_);simp)
theorem C6(g:Tg)(l:List Int)(n:Int)(c:l.length≤1000000000)(Y:l.Pairwise (· < ·)) :
  ∃ i:Nat,i≤l.length∧(∀ j (b:j<l.length),j<i→l[j]<n)∧(∀ j (b:j<l.length),i≤j→n≤l[j]) ∧
   bh tab 277 [.c (.f (sl g (ints l))),vi n]=Eq (.t [vi i,vb (decide (n ∈ l))]):=by
 obtain⟨r,⟨i,U,W,J,rfl⟩,h⟩:∃ r,(∃ i:Nat,i≤l.length∧(∀ j (b:j<l.length),j<i→l[j]<n)∧(∀ j (b:j<l.length),i≤j→n≤l[j])∧r=.t [vi i,vb (decide (n ∈ l))]) ∧
   bh tab 277 [.c (.f (sl g (ints l))),vi n] r:=by
  refine fg rfl rfl fun Q K=>?_;have x:∀ i j (hi:i<j) (b:j<l.length),l[i]<l[j]:=fun i j hi b=>as0.1 Y i j (by omega) b hi;apply ai;simp;apply ai;simp;apply ai;simp;apply ak;refine aG ?_;refine cP (fun m s=>∃(lo hi:Nat) (t:T),s=⟨t,[],[]⟩∧m=hi-lo∧lo≤hi∧hi≤l.length∧t.g 0=.c (.f (sl g (ints l)))∧t.g 1=vi n∧t.g 6=vi l.length∧t.g 7=vi lo∧t.g 8=vi hi ∧
   (∀ j (b:j<l.length),j<lo→l[j]<n)∧(∀ j (b:j<l.length),hi≤j→n≤l[j])) l.length
   ⟨0,l.length,_,rfl,by omega,by omega,by omega,by simp,by simp,by simp,by simp,by simp,by simp,by intros;omega⟩ ?_
  rintro m s ⟨lo,hi,t,rfl,rfl,X,y,g0,A,E,B,I,d,u⟩ next
  apply ak;apply ai;simp [B,I];by_cases M:lo<hi
  ·refine aq (by simp [M]) (aO ?_);obtain⟨q,f⟩:=aI ((lo+hi) / 2);have F:q<l.length:=by omega
   have S:dq BinOp.shr (V.c (C.f (FC.int IntKind.u64 (IntKind.u64.wrap ((lo:Int)+hi))))) (V.c (C.f (FC.int IntKind.u64 1)))=aa (.c (.f (.int .u64 (q:Int)))):=by
    have:IntKind.u64.wrap ((lo:Int)+hi)=(lo:Int)+hi:=by
     show((lo:Int)+hi) % 18446744073709551616=_;omega
    rw [this];show aa (V.c (C.f (FC.int IntKind.u64 (Int.fdiv ((lo:Int)+hi) (2 ^ (min (1:Int).toNat IntKind.u64.bits))))))=_;have J:Int.fdiv ((lo:Int)+hi) (2 ^ (min (1:Int).toNat IntKind.u64.bits))=q:=by
     show Int.fdiv ((lo:Int)+hi) 2=q;rw [Int.fdiv_eq_ediv_of_nonneg _ (by omega)];omega
    rw [J]
   have Z:=aU (n:=(lo:Int)+hi);have O:IntKind.i64.wrap (q:Int)=q:=aU;refine aG ?_;apply ai;simp [B,I,Z,S,O];apply ai;simp [g0,A,bC,F,jw,Bu];by_cases L:l[q]<n
   ·refine aq (by simp [L]) ?_;refine al (.inl rfl) ?_;simp [aU (n:=(q:Int)+1)];refine aw (next (hi-(q+1)) _ (by omega) ⟨q+1,hi,_,rfl,rfl,by omega,by omega,by simp [g0],by simp [A],by simp [E],by simp,by simp [I],fun j b h=>?_,u⟩);by_cases e:j=q
    ·subst e;exact L
    ·have:=x j q (by omega) F;omega
   ·refine aD (by simp [L]) ?_;refine al (.inl rfl) ?_;simp;refine aw (next (q-lo) _ (by omega) ⟨lo,q,_,rfl,rfl,by omega,by omega,by simp [g0],by simp [A],by simp [E],by simp [B],by simp,d,fun j b h=>?_⟩);by_cases e:j=q
    ·subst e;omega
    ·have:=x q j (by omega) b;omega
  ·have:lo=hi:=by omega
   subst this;refine aD (by simp) ?_;refine bR rfl ?_;apply ai;by_cases v:lo<l.length
   ·have a:=u lo v (by omega);by_cases H:l[lo]=n
    ·simp [g0,A,E,B,v,bC,jw,H];refine aB (K _ _ _ ⟨lo,y,d,u,rfl⟩ ?_);have:n ∈ l:=H▸anc v;simp [this]
    ·have z:n ∉ l:=fun N=>by
      obtain⟨j,b,rfl⟩:=asZ N;rcases atk j lo with h | h | h
      ·have:=d j b h;omega
      ·subst h;exact H rfl
      ·have:=x lo j h b;omega
     simp [g0,A,E,B,v,bC,jw,H,aiH];refine aB (K _ _ _ ⟨lo,y,d,u,rfl⟩ ?_);simp [z]
   ·have z:n ∉ l:=fun N=>by
     obtain⟨j,b,rfl⟩:=asZ N;have:=d j b (by omega);omega
    simp [g0,A,E,B,v];refine aB (K _ _ _ ⟨lo,y,d,u,rfl⟩ ?_);simp [z]
 exact⟨i,U,W,J,bh.eq h⟩
theorem lu{d:Int}:∀ {l:List Int} {b:Int},eO d b l=ae→l.Pairwise (· < ·)∧∀ c ∈ l,b<c∧c<d
 | [],_,_=>⟨List.Pairwise.nil,by simp⟩
 | a::l,b,h=>by
  simp only [eO,If,decide_eq_true_eq]at h;obtain⟨⟨m,q⟩,s⟩:=h;obtain⟨u,j⟩:=lu s;refine⟨ata.2 ⟨fun c g=>(j c g).1,u⟩,fun c g=>?_⟩;rcases asv.1 g with rfl | g
  ·exact⟨m,q⟩
  ·have:=j c g;omega
theorem fD{p:bT}(h:gv p=ae):0≤p.fr∧p.fr≤1099511627776∧1≤p.fq∧p.fq≤1099511627776∧p.head.length+p.jJ.length≤1048576∧p.head.Pairwise (· < ·)∧(∀ c ∈ p.head,-1<c∧c<p.fr)∧p.jJ.Pairwise (· < ·)∧∀ c ∈ p.jJ,-1<c∧c<p.fq:=by
 unfold gv at h;simp only [If,decide_eq_true_eq]at h;obtain⟨⟨⟨⟨⟨⟨g,j⟩,l⟩,m⟩,u⟩,q⟩,s⟩:=h;obtain⟨a1,b⟩:=lu q;obtain⟨b1,d⟩:=lu s;exact⟨g,j,l,m,by omega,a1,b,b1,d⟩
def wQ(p:bT)(d:Int):Bool:=if p.fr≤d then decide ((d-p.fr) % p.fq ∈ p.jJ)else decide (d ∈ p.head)
def Day(d:Int):Prop:=d≤2305843009213693952
theorem O1(p:bT)(h:gv p=ae)(d:Int)(h0:0≤d)(x:Day d):bh tab 378 [.a (p.row.map .f),vi d]=Eq (vb (wQ p d)):=Kf.eq (by
 obtain⟨A,B,E,F,I,s,K,u,L⟩:=fD h;unfold Day at x;refine cT rfl rfl fun H Q v=>?_;have j:∀(t:T) (J:aj) (g:Tg) (l:List Int) (n:Int),l.length≤1048576→l.Pairwise (· < ·)→t.g 5=.c (.f (sl g (ints l)))→t.g 6=vi n→wQ p d=decide (n ∈ l)→WP tab 378 ab [.code Ab] ⟨t,[],H++J⟩ Q:=by
  intro t J g l n M y m q e;obtain⟨i,-,-,-,z⟩:=C6 g l n (by omega) y;apply ai;simp [m,q,z];apply ai;simp;refine aB (v _ _ ?_);simp [e]
 apply ai;simp [bT.row];apply ai;simp;apply ak;apply ai;simp;by_cases k:p.fr≤d
 ·refine aq (by simp [k]) ?_;refine al (.inl rfl) ?_;simp [aU (n:=d-p.fr),vM (a:=d-p.fr) (b:=p.fq) (by omega) (by omega)];exact j _ _ p.cg p.jJ ((d-p.fr) % p.fq) (by omega) u (by simp) (by simp) (by simp [wQ,k])
 ·refine bp (by simp [k]) ?_;exact j _ _ p.hg p.head d (by omega) s (by simp) (by simp) (by simp [wQ,k]))
def hasB(p:bT)(d:Int):Bool:=decide (0≤d)&&wQ p d
theorem ah4(p:bT)(h:gv p=ae)(d:Int)(l:Day d):Kf tab 314 [.a (p.row.map .f),vi d] (vb (hasB p d)):=by
 refine cT rfl rfl fun H Q g=>?_;have b:=abq p (FD h);rw [h]at b;apply ai;simp [bT.row]at b ⊢;apply ai;by_cases k:0≤d
 ·have j:=O1 p h d k l;simp [bT.row]at j;simp [b,k,j];refine aB (g _ _ ?_);simp [hasB,k]
 ·simp [b,k];refine aB (g _ _ ?_);simp [hasB,k]
theorem O8(p:bT)(h:gv p=ae)(d:Int)(j:Day d):Kf tab 313 [.a (p.row.map .f),.c (.f (.fp [fi d] 0))] (vb (!hasB p d)):=by
 refine cT rfl rfl fun H Q g=>?_;have b:=(ah4 p h d j).eq;simp [bT.row]at b;have l:∀ H:aj,aS H ab (.c (.f (.fp [fi d] 0)))=aa (vi d):=fun H=>by simp [aS,aE]
 apply ai;simp [bT.row];apply ai;simp [l,b];refine aB (g _ _ ?_);simp
def va(l:List bT)(d:Int):Bool:=l.all fun p=>hasB p d
theorem ajq(g:Tg)(l:List bT)(v:l.length≤9223372036854775807)(h:∀ p ∈ l,gv p=ae)(d:Int)(s:Day d):Kf tab 251 [.c (.f (sl g (aY l))),vi d] (vb (va l d)):=by
 refine cT rfl rfl fun H Q m=>?_;have q:=(gi ZI (kr ZJ l bT.row (fun r=>.a (r.row.map .f)) (fun p=>!hasB p d) g 313 [.fp [fi d] 0] v
  (fun j u H=>cf (cu l) (dY u)) (fun p x=>O8 p (h p x) d s))).eq
 have e:(!l.any fun p=>!hasB p d)=va l d:=by
  rw [va,atn];simp [List.any_eq_false,asC]
 apply ai;simp;apply ai;have b:bh tab 166 [.c (.f (sl g (aY l))),.c (.f (.fn 313 [.fp [fi d] 0]))]=Eq (vb (l.any fun p=>!hasB p d)):=q;simp [deep,aba,DN,b,e];refine aB (m _ _ ?_);simp
theorem alZ(t:dP)(l:t.fs.length≤9223372036854775807)(h:∀ p ∈ t.fs,gv p=ae)(d:Int)(j:Day d):Kf tab 250 [.c (.f (sl t.tg (aY t.fs))),.c (.f (.fp [fi d] 0))] (vb (va t.fs d)):=by
 refine cT rfl rfl fun H Q g=>?_;have b:∀ H:aj,aS H ab (.c (.f (.fp [fi d] 0)))=aa (vi d):=fun H=>by simp [aS,aE]
 apply ai;simp;apply ai;simp [b,(ajq t.tg t.fs l h d j).eq];refine aB (g _ _ ?_);simp
def aa9(l:List dP)(d:Int):Bool:=nw l&&l.any fun t=>va t.fs d
theorem lE{t:dP}(h:jQ t=ae):1≤t.fs.length∧t.fs.length≤4∧∀ p ∈ t.fs,gv p=ae:=by
 unfold jQ at h;simp only [If,decide_eq_true_eq,asC]at h;exact⟨by omega,by omega,h.2⟩
theorem O4{l:List dP}(h:nw l=ae):l.length≤64∧∀ t ∈ l,jQ t=ae:=by
 unfold nw at h;simp only [If,decide_eq_true_eq,asC]at h;exact⟨by omega,h.2⟩
theorem ahV(g:Tg)(l:List dP)(h:nw l=ae)(d:Int)(x:Day d):bh tab 170 [.a [.f (sl g (aJ l))],vi d]=Eq (vb (aa9 l d)):=Kf.eq (by
 obtain⟨A,m⟩:=O4 h;have s:=aa' g l (by omega) (fun t b=>⟨by have:=(lE (m t b)).2.1;omega,fun p z=>FD ((lE (m t b)).2.2 p z)⟩);have v:=(gi ak3 (kr ak' l dP.row (fun t=>.c (.f (sl t.tg (aY t.fs)))) (fun t=>va t.fs d) g 250 [.fp [fi d] 0] (by omega)
  (fun j y H=>m6 (iu l) (jR y) rfl) (fun t b=>alZ t (by have:=(lE (m t b)).2.1;omega) (lE (m t b)).2.2 d x))).eq
 have q:bh tab 110 [.c (.f (sl g (aJ l))),.c (.f (.fn 250 [.fp [fi d] 0]))]=Eq (vb (l.any fun t=>va t.fs d)):=v;rw [h]at s;refine cT rfl rfl fun H Q u=>?_;apply ai;simp;apply ai;simp [s,deep,aba,DN,q];refine aB (u _ _ ?_);simp [aa9,h])
structure Mod(p:bT):Prop where
 ok:gv p=ae
 apo:p.fq≤1000
def gK(p:bT)(c:Int):Int:=(p.fr % p.fq+c) % p.fq
theorem ari{x c p:Int}(h0:0≤c)(d:c<p):x % p=c↔p ∣ x-c:=by
 have h:=Fy (a:=x) (b:=c) (n:=p);rw [Int.emod_eq_of_lt h0 d]at h;exact h
theorem pM{p:bT}(h:Mod p){c:Int}(h0:0≤c)(b:c<p.fq):0≤gK p c∧gK p c<p.fq∧∀ d,(d-p.fr) % p.fq=c↔p.fq ∣ d-gK p c:=by
 have g:0<p.fq:=by omega
 refine⟨asV _ (by omega),asO _ g,fun d=>?_⟩;rw [ari h0 b];have e:p.fq ∣ p.fr+c-gK p c:=by
  rw [←Fy];unfold gK;rw [Int.emod_emod_of_dvd _ (Int.dvd_refl _),Int.emod_add_emod]
 constructor
 ·intro k;have:=Int.dvd_add k e;rwa [show d-p.fr-c+(p.fr+c-gK p c)=d-gK p c by omega]at this
 ·intro k;have:=atA k e;rwa [show d-gK p c-(p.fr+c-gK p c)=d-p.fr-c by omega]at this
theorem tq{p:bT}(h:Mod p){c:Int}(d:c ∈ p.jJ):0≤c∧c<p.fq:=by
 obtain⟨-,-,-,-,-,-,-,-,b⟩:=fD h.ok;have:=b c d;omega
def jL(p:bT)(d:Int):Prop:=∃ c ∈ p.jJ,p.fq ∣ d-gK p c
theorem BD{p:bT}(h:Mod p){d:Int}(l:p.fr≤d):wQ p d=ae↔jL p d:=by
 unfold wQ;rw [ba l,decide_eq_true_eq];constructor
 ·intro j;obtain⟨a,b⟩:=tq h j;exact⟨_,j,((pM h a b).2.2 d).1 rfl⟩
 ·rintro⟨c,g,e⟩;obtain⟨a,b⟩:=tq h g;rw [((pM h a b).2.2 d).2 e];exact g
theorem vN(p:bT)(h:Mod p)(c:Int)(h0:0≤c)(l:c<p.fq):bh tab 256 [.a (p.row.map .f),vi c]=Eq (vi (gK p c)):=Kf.eq (by
 obtain⟨d,j,s,u,-⟩:=fD h.ok;have m:=asV p.fr (show p.fq≠0 by omega);have q:=asO p.fr (show 0<p.fq by omega);refine cT rfl rfl fun H Q g=>?_;apply ai;simp [bT.row];apply ai;simp [vM (a:=p.fr) (b:=p.fq) d (by omega),aU (n:=p.fr % p.fq+c),vM (a:=p.fr % p.fq+c) (b:=p.fq) (by omega) (by omega)];refine aB (g _ _ ?_);simp [gK])
def dp:List bT→Int
 | []=>0| p::l=>max p.fr (dp l)
theorem nj:∀ l:List bT,0≤dp l
 | []=>Int.le_refl _| p::l=>by have:=nj l;simp only [dp];omega
theorem ni{p:bT}:∀ {l:List bT},p ∈ l→p.fr≤dp l
 | q::l,h=>by
  simp only [dp];rcases asv.1 h with rfl | h
  ·omega
  ·have:=ni h;omega
theorem Ck(l:List bT)(p:bT):dp (l++[p])=max (dp l) p.fr:=by
 induction l with
 | nil=>simp only [as9,dp];omega| cons q l b=>simp only [ati,dp,b];omega
theorem ace(g:Tg)(l:List bT)(z:l.length≤64):bh tab 258 [.c (.f (sl g (aY l)))]=Eq (vi (dp l)):=Kf.eq (by
 refine cT rfl rfl fun H Q y=>?_;apply ai;simp;apply ai;simp;apply ak;apply ai;simp;refine bW l.length (fun j t H'=>(∃ J,H'=H++J)∧t.g 6=.c (.f (sl g (aY l)))∧t.g 3=vi (dp (l.take j))) (by omega) (by decide) (by decide) (by simp) (by simp) ⟨⟨[],by simp⟩,by simp,by simp [dp]⟩ ?_ ?_
 ·rintro j t _ u ⟨⟨J,rfl⟩,q,m⟩ s x next
  have d:=fun H:aj=>cf (H:=H) (cu l) (dY (l:=l) (j:=j) u);have b:=fun H:aj=>bC (H:=H) (g:=g) (rows:=aY l) (sz:=4) (k:=.i64) (i:=j) (by omega) (by simpa using u);simp [bT.row]at d b;have v:l.take (j+1)=l.take j++[l[j]]:=by rw [asQ,By u];rfl
  have e:dp (l.take (j+1))=max (dp (l.take j)) l[j].fr:=by rw [v,Ck]
  refine aG ?_;apply ai;simp [q,s,b,d];refine al (.inl rfl) ?_;simp [m];refine aw (next _ _ ?_ (by simp [s]) (by simp [x]));exact⟨⟨_,rfl⟩,by simp [q],by simp [e]⟩
 ·rintro t _ ⟨⟨J,rfl⟩,q,m⟩ s x;rw [asK]at m;apply ai;simp [m];refine aB (y _ _ ?_);simp)
def Aa(n a s:Int):Int:=if a<n then a+(n-a+s-1) / s*s else a
theorem F7{n a s:Int}(h0:0≤a)(y:a<s)(z:0≤n):n≤Aa n a s∧s ∣ Aa n a s-a∧Aa n a s≤n+s∧∀ d,n≤d→s ∣ d-a→Aa n a s≤d:=by
 have m:0<s:=by omega
 unfold Aa;split
 ·have u:=as7 (n-a+s-1) s;have v:=asV (n-a+s-1) (show s≠0 by omega);have x:=asO (n-a+s-1) m;have g:(n-a+s-1) / s*s=s*((n-a+s-1) / s):=atK _ _;rw [g];generalize (n-a+s-1) / s=q at *;refine⟨by omega,⟨q,by omega⟩,by omega,?_⟩;rintro d j ⟨k,l⟩;rcases atq k q with h | h
  ·have b:s*k≤s*(q-1):=asx (by omega) (by omega);rw [auf,Int.mul_one]at b;omega
  ·have b:s*q≤s*k:=asx h (by omega);omega
 ·refine⟨by omega,⟨0,by omega⟩,by omega,?_⟩;rintro d j ⟨k,l⟩;rcases atq k 0 with h | h
  ·have b:s*k≤s*(-1):=asx (by omega) (by omega);omega
  ·have b:0≤s*k:=atw (by omega) h;omega
structure fh(S:Int→Prop)(l:Int)(f:Bool)(l':Int)(f':Bool):Prop where
 le:l'≤l
 ti:f=ae→f'=ae
 src:(l'=l∧f'=f)∨(f'=ae∧S l')
 low:∀ d,S d→l'≤d∧(d≤l→f'=ae)
theorem fh.none{S:Int→Prop}{l:Int}{f:Bool}(h:∀ d,¬ S d):fh S l f l f:=⟨Int.le_refl _,id,.inl ⟨rfl,rfl⟩,fun d b=>absurd b (h d)⟩
theorem fh.trans{S S1 q:Int→Prop}{l l1 l2:Int}{f s u:Bool}(h1:fh S1 l f l1 s)(h2:fh q l1 s l2 u)(m:∀ d,S d↔S1 d∨q d):fh S l f l2 u where
 le:=aur h2.le h1.le
 ti h:=h2.ti (h1.ti h)
 src:=by
  rcases h2.src with⟨rfl,rfl⟩ | ⟨h,k⟩
  ·rcases h1.src with h | ⟨h,k⟩
   ·exact .inl h
   ·exact .inr ⟨h,(m _).2 (.inl k)⟩
  ·exact .inr ⟨h,(m _).2 (.inr k)⟩
 low d v:=by
  have b:=h2.le;rcases(m d).1 v with k | k
  ·obtain⟨a1,j⟩:=h1.low d k;exact⟨by omega,fun e=>h2.ti (j e)⟩
  ·obtain⟨a1,j⟩:=h2.low d k;refine⟨a1,fun e=>?_⟩;rcases atq l1 d with g | g
   ·rcases h1.src with⟨rfl,rfl⟩ | ⟨h,-⟩
    ·omega
    ·exact h2.ti h
   ·exact j g
theorem fh.iff{S S':Int→Prop}{l l':Int}{f b:Bool}(h:fh S l f l' b)(g:∀ d,S' d↔S d):fh S' l f l' b:=
 ⟨h.le,h.ti,by rcases h.src with k | ⟨k,k'⟩;exact .inl k;exact .inr ⟨k,(g _).2 k'⟩,fun d j=>h.low d ((g d).1 j)⟩
theorem fh.one{S:Int→Prop}{l x:Int}{f:Bool}(j:S x)(g:∀ d,S d→x≤d):fh S l f (if x≤l then x else l) (f||decide (x≤l)) where
 le:=by split<;>omega
 ti h:=by rw [h];rfl
 src:=by
  by_cases k:x≤l
  ·exact .inr ⟨by simp [k],by simpa [k]using j⟩
  ·exact .inl ⟨by simp [k],by simp [k]⟩
 low d b:=by
  have:=g d b;constructor
  ·split<;>omega
  ·intro e;simp [show x≤l by omega]
def LH(H:aj)(g:Tg)(ps:List bT)(n least:Int)(found:Bool):Prop:=(∃ a,H[0]?=aa (.box [.f (sl g (aY ps))] a))∧H[1]?=aa (.box [.f (fi n)] 0)∧H[2]?=aa (.box [.f (fi least)] 0)∧H[3]?=aa (.box [.f (.bool found)] 0) ∧
 H[4]?=aa (.box [.cl 259 [.ptr 0 0 0,.ptr 4 0 0,.ptr 1 0 0,.ptr 2 0 0,.ptr 3 0 0]] 0)
theorem LH.push{H:aj}{g:Tg}{ps:List bT}{n least:Int}{found:Bool}(h:LH H g ps n least found)(J:aj):LH (H++J) g ps n least found:=by
 obtain⟨⟨a,h0⟩,h1,h2,h3,h4⟩:=h;refine⟨⟨a,?_⟩,?_,?_,?_,?_⟩
 ·rw [AT (an h0)];exact h0
 ·rw [AT (an h1)];exact h1
 ·rw [AT (an h2)];exact h2
 ·rw [AT (an h3)];exact h3
 ·rw [AT (an h4)];exact h4
theorem OU(g:Tg)(ps:List bT)(H:aj)(n least:Int)(found:Bool)(r s:Int)(e:LH H g ps n least found)(h0:0≤r)(A:r<s)(E:s≤1000000)(f:0≤n)(h:n≤1000000000000) :
  ∃ v H',Ev tab (.fn 259) [vi ps.length,clV r s,.c (.ptr 0 0 0),.c (.ptr 4 0 0),.c (.ptr 1 0 0),.c (.ptr 2 0 0),.c (.ptr 3 0 0)] H v H' ∧
   (v=.t []∧LH H' g ps n (if Aa n r s≤least then Aa n r s else least) (found||decide (Aa n r s≤least))∧∀ i:Nat,5≤i→i<H.length→H'[i]?=H[i]?):=by
 obtain⟨⟨B,g0⟩,Y,Z,c,L⟩:=e;obtain⟨u1,-,u3,-⟩:=F7 h0 A f;have l4:=an L;refine cJ rfl rfl fun Q O=>?_;have m:∀(t:T) (q:aj) (y:Int),y=Aa n r s→t.g 8=.c (.ptr H.length 0 0)→t.g 4=.c (.ptr 1 0 0)→t.g 5=.c (.ptr 2 0 0)→t.g 6=.c (.ptr 3 0 0)→LH q g ps n least found→q[H.length]?=aa (.box [.f (fi y),.f (fi s)] 0)→(∀ i:Nat,5≤i→i<H.length→q[i]?=H[i]?) →
   WP tab 259 ab [.code AA] ⟨t,[],q⟩ Q:=by
  rintro t q _ rfl K W J X j U l;have w:=j.2.1;have S:=j.2.2.1;have q3:=j.2.2.2.1;apply ai;simp [K,W,J,U,w,S,u1];by_cases k:Aa n r s≤least
  ·refine aq (by simp [k]) ?_;have F:(q.set 2 (.box [.f (fi (Aa n r s))] 0))[3]?=aa (.box [.f (.bool found)] 0):=by rw [AI (by decide)];exact q3
   refine al (.inl rfl) ?_;simp [K,J,X,U,S,F];refine cL (O _ _ _ rfl rfl ⟨rfl,?_,fun i hi z=>by rw [AI (by omega),AI (by omega)];exact l i hi z⟩);obtain⟨⟨B,h0⟩,A,E,M,N⟩:=j;refine⟨⟨B,?_⟩,?_,?_,?_,?_⟩
   ·rw [AI (by decide),AI (by decide)];exact h0
   ·rw [AI (by decide),AI (by decide)];exact A
   ·rw [AI (by decide),IN (an E)];simp [k]
   ·rw [IN (by rw [List.length_set];exact an M)];simp [k]
   ·rw [AI (by decide),AI (by decide)];exact N
  ·refine bp (by simp [k]) ?_;refine cL (O _ _ _ rfl rfl ⟨rfl,?_,l⟩);simpa [k]using j
 apply ai;simp;have d:=LH.push (H:=H) (g:=g) (ps:=ps) (n:=n) (least:=least) (found:=found) ⟨⟨B,g0⟩,Y,Z,c,L⟩ [.box [.f (fi r),.f (fi s)] 0];have x:(H++[bq.box [.f (fi r),.f (fi s)] 0])[H.length]?=aa (.box [.f (fi r),.f (fi s)] 0):=by simp
 have u:∀ i:Nat,5≤i→i<H.length→(H++[bq.box [.f (fi r),.f (fi s)] 0])[i]?=H[i]?:=fun i _ z=>AT z;generalize H++[bq.box [.f (fi r),.f (fi s)] 0]=q at d x u ⊢;obtain⟨a1,r0⟩:=d.1;have I:=d.2.1;apply ak;apply ai;simp [r0];refine bp (by simp) ?_;apply ak;apply ai;by_cases k:r<n
 ·simp [I,x,k,show 0<s by omega];refine aq (by simp) ?_;have p:Aa n r s=r+(n-r+s-1) / s*s:=by unfold Aa;rw [ba k]
  have o:=mB (a:=n-r+s-1) (b:=s) (by omega) (by omega) (by omega);have b1:(n-r+s-1) / s*s=Aa n r s-r:=by omega
  refine al (.inl rfl) ?_;simp [I,x,aU (n:=n-r),aU (n:=n-r+s),aU (n:=n-r+s-1),o,b1,aU (n:=Aa n r s-r),aU (n:=r+(Aa n r s-r))];refine m _ _ _ (show r+(Aa n r s-r)=_ by omega) (by simp) (by simp) (by simp) (by simp) ?_ (IN (an x)) fun i hi z=>by rw [AI (by omega)];exact u i hi z
  obtain⟨⟨a1,h0⟩,A,E,M,N⟩:=d;refine⟨⟨a1,?_⟩,?_,?_,?_,?_⟩
  all_goals (rw [AI (by omega)];assumption)
 ·simp [I,x,k];refine bp (by simp) ?_;exact m _ _ r (by unfold Aa;rw [aX k]) (by simp) (by simp) (by simp) (by simp) d x u
def fR:List bT→Int
 | []=>1| p::l=>p.fq*fR l
theorem qX{l:List bT}(h:∀ p ∈ l,Mod p):1≤fR l:=by
 induction l with
 | nil=>exact Int.le_refl _
 | cons p l j=>
  have b:=(fD (h p asn).ok).2.2.1;have d:=j fun q g=>h q (asm _ g);have:=aua b d (by decide) (by omega);simp only [fR];omega
def tO(ps:List bT)(n a s d:Int):Prop:=n≤d∧s ∣ d-a∧∀ p ∈ ps,jL p d
theorem ao5(g:Tg)(ps:List bT)(hM:∀ p ∈ ps,Mod p)(j7:ps.length≤64)(n:Int)(hn:0≤n)(h_:n≤1000000000000) :
  ∀(k i:Nat),i+k=ps.length→∀(H:aj) (least:Int) (found:Bool) (a s:Int),LH H g ps n least found→0≤a→a<s→s*fR (ps.drop i)≤1000000 →
  ∃ v H',Ev tab (.fn 259) [vi i,clV a s,.c (.ptr 0 0 0),.c (.ptr 4 0 0),.c (.ptr 1 0 0),.c (.ptr 2 0 0),.c (.ptr 3 0 0)] H v H' ∧
   (v=.t []∧∃ F z,LH H' g ps n F z∧fh (tO (ps.drop i) n a s) least found F z∧∀ i:Nat,5≤i→i<H.length→H'[i]?=H[i]?):=by
 intro k;induction k with
 | zero=>
  intro i hi H least found a s hH a0 a1 hs;have:i=ps.length:=by omega
  subst this;rw [atv]at hs ⊢;simp only [fR,Int.mul_one]at hs;obtain⟨v,H',J,rfl,hL,hk⟩:=OU g ps H n least found a s hH a0 a1 hs hn h_;obtain⟨u1,u2,u3,u4⟩:=F7 (n:=n) a0 a1 hn;exact⟨_,H',J,rfl,_,_,hL,fh.one ⟨u1,u2,fun p hp=>absurd hp (List.not_mem_nil)⟩ (fun d hd=>u4 d hd.1 hd.2.1),hk⟩
 | succ k ih=>
  intro i hi H least found a s hH a0 a1 hs;have u:i<ps.length:=by omega
  obtain⟨p,hp⟩:=aI (ps[i]);have i4:p ∈ ps:=hp▸anc u;have L:=hM p i4;obtain⟨f0,f1,p0,p1,BW,-⟩:=fD L.ok;have b9:ps.drop i=p::ps.drop (i+1):=by rw [hp];exact arM u
  have i5:=qX (l:=ps.drop (i+1)) fun q hq=>hM q (List.mem_of_mem_drop hq);have j9:s*p.fq*fR (ps.drop (i+1))≤1000000:=by
   rw [b9]at hs;simp only [fR,←atV]at hs;exact hs
  have j8:1≤s:=by omega
  have j5:s≤s*p.fq:=by
   have:=asx p0 (show 0≤s by omega);omega
  have j6:s*p.fq≤1000000:=by
   have:=asx i5 (show 0≤s*p.fq by omega);omega
  refine cJ rfl rfl fun Q hQ=>?_;have E:=fun H:aj=>cf (H:=H) (cu ps) (dY (l:=ps) (j:=i) u);have m:=fun H:aj=>ib (H:=H) (k:=3) (cu ps) (dY (l:=ps) (j:=i) u) rfl;have B:=fun H:aj=>ib (H:=H) (k:=2) (cu ps) (dY (l:=ps) (j:=i) u) rfl;have A:=fun H:aj=>bC (H:=H) (g:=g) (rows:=aY ps) (sz:=4) (k:=.i64) (i:=i) (by omega) (by simpa using u);rw [←hp]at E m B;simp [bT.row]at E A m B;have l4:=an hH.2.2.2.2;apply ai;simp;have Z:=hH.push [.box [.f (fi a),.f (fi s)] 0];have K:(H++[bq.box [.f (fi a),.f (fi s)] 0])[H.length]?=aa (.box [.f (fi a),.f (fi s)] 0):=by simp
  have c_:∀ i:Nat,5≤i→i<H.length→(H++[bq.box [.f (fi a),.f (fi s)] 0])[i]?=H[i]?:=fun i _ hl=>AT hl;obtain⟨b8,f_⟩:=aI (H.length);rw [←f_]at K ⊢;generalize H++[bq.box [.f (fi a),.f (fi s)] 0]=HH at Z K c_ ⊢;obtain⟨q,q0⟩:=Z.1;apply ak;apply ai;simp [q0];refine aq (by simp [u]) ?_;apply ak;apply ai;simp [q0,A,m];refine bW p.jJ.length (fun j t H'=>t.g 0=vi i∧t.g 2=.c (.ptr 0 0 0)∧t.g 3=.c (.ptr 4 0 0)∧t.g 8=.c (.ptr b8 0 0)∧t.g 21=.c (.f (sl p.cg (ints p.jJ)))∧H'[b8]?=aa (.box [.f (fi a),.f (fi s)] 0) ∧
   ∃ l' O,LH H' g ps n l' O∧fh (fun d=>tO (ps.drop (i+1)) n a s d∧∃ c ∈ p.jJ.take j,p.fq ∣ d-gK p c) least found l' O∧∀ x:Nat,5≤x→x<H.length→H'[x]?=H[x]?) (by omega) (by decide) (by decide) (by simp) (by simp)
   ⟨by simp,by simp,by simp,by simp,by simp,K,_,_,Z,fh.none (by simp),c_⟩ ?_ ?_
  ·rintro j t H' hj ⟨g0,g2,g3,g8,N,K,l',O,I,hP,b⟩ ha hb next
   have hm:=tq L (anc hj);obtain⟨i9,i_,-⟩:=pM L hm.1 hm.2;have M:=vN p L p.jJ[j] hm.1 hm.2;simp [bT.row]at M;have i8:p.jJ.take (j+1)=p.jJ.take j++[p.jJ[j]]:=by rw [asQ,By hj];rfl
   have d9:∀ d,(tO (ps.drop (i+1)) n a s d∧∃ c ∈ p.jJ.take (j+1),p.fq ∣ d-gK p c)↔(tO (ps.drop (i+1)) n a s d∧∃ c ∈ p.jJ.take j,p.fq ∣ d-gK p c)∨(tO (ps.drop (i+1)) n a s d∧p.fq ∣ d-gK p p.jJ[j]):=by
    intro d;rw [i8];simp only [asw,asj];constructor
    ·rintro⟨h,c,hc | rfl,e⟩
     ·exact .inl ⟨h,c,hc,e⟩
     ·exact .inr ⟨h,e⟩
    ·rintro(⟨h,c,hc,e⟩ | ⟨h,e⟩)
     ·exact⟨h,c,.inl hc,e⟩
     ·exact⟨h,_,.inr rfl,e⟩
   obtain⟨a9,e0⟩:=I.1;have e4:=I.2.2.2.2;have j4:=an K;refine aG ?_;apply ai;simp [ha,N,bC,hj,jw];rcases ahU a0 a1 (by omega) i9 i_ L.apo with⟨a',s',d_,e_,i6,b_,y⟩ | ⟨a_,y⟩
   ·apply ai;simp [g0,g2,g8,K,e0,A,E,B,M,y];have i7:s'*fR (ps.drop (i+1))≤1000000:=by
     have:=aui i6 (show 0≤fR (ps.drop (i+1)) by omega);omega
    obtain⟨v,H2,J,rfl,l2,f2,f7,f8,a8⟩:=ih (i+1) (by omega) (H'++[.box [.f (fi a'),.f (fi s')] 0]) l' O a' s' (I.push _) d_ e_ i7;have J:=J.eq;have k4:(H'++[bq.box [.f (fi a'),.f (fi s')] 0])[4]?=aa (.box [.cl 259 [.ptr 0 0 0,.ptr 4 0 0,.ptr 1 0 0,.ptr 2 0 0,.ptr 3 0 0]] 0):=by rw [AT (an e4)];exact e4
    have kN:(H'++[bq.box [.f (fi a'),.f (fi s')] 0])[H'.length]?=aa (.box [.f (fi a'),.f (fi s')] 0):=by simp
    have kl:(H'++[bq.box [.f (fi a'),.f (fi s')] 0]).length=H'.length+1:=by simp
    have kb:(H'++[bq.box [.f (fi a'),.f (fi s')] 0])[b8]?=aa (.box [.f (fi a),.f (fi s)] 0):=by rw [AT (an K)];exact K
    have kk:∀ x:Nat,5≤x→x<H.length→(H'++[bq.box [.f (fi a'),.f (fi s')] 0])[x]?=H[x]?:=fun x h5 hx=>by
     rw [AT (by omega)];exact b x h5 hx
    apply ak;refine al (.inl rfl) ?_;simp;generalize H'++[bq.box [.f (fi a'),.f (fi s')] 0]=HA at J k4 kN kl kb kk a8 ⊢;refine aq (by simp) ?_;refine al (.inl rfl) ?_;have g_:IntKind.i64.wrap ((i:Int)+1)=((i+1:Nat):Int):=by rw [aU];rfl
    simp [g0,g3,k4,kN,g_,b5];rw [show(↑i+1:Int)=((i+1:Nat):Int) from rfl];simp only [J];simp;refine aw (next _ _ ?_ (by simp [ha]) (by simp [hb]));refine⟨by simp [g0],by simp [g2],by simp [g3],by simp [g8],by simp [N],?_,l2,f2,f7,?_,?_⟩
    ·rw [a8 b8 (by omega) (by omega)];exact kb
    ·refine fh.trans hP (f8.iff (S':=fun d=>tO (ps.drop (i+1)) n a s d∧p.fq ∣ d-gK p p.jJ[j]) fun d=>?_) d9;unfold tO;rw [←b_ d];constructor
     ·rintro⟨⟨U,W,X⟩,Y⟩;exact⟨U,⟨W,Y⟩,X⟩
     ·rintro⟨U,⟨W,Y⟩,X⟩;exact⟨⟨U,W,X⟩,Y⟩
    ·intro x h5 hx;rw [a8 x h5 (by omega)];exact kk x h5 hx
   ·apply ai;simp [g0,g2,g8,K,e0,A,E,B,M,y];apply ak;refine al (.inl rfl) ?_;simp;refine bp (by simp) ?_;refine aw (next _ _ ?_ (by simp [ha]) (by simp [hb]));refine⟨by simp [g0],by simp [g2],by simp [g3],by simp [g8],by simp [N],?_,l',O,I.push _,fh.trans hP (fh.none (S:=fun d=>tO (ps.drop (i+1)) n a s d∧p.fq ∣ d-gK p p.jJ[j]) fun d hd=>a_ d ⟨hd.1.2.1,hd.2⟩) d9,?_⟩
    ·rw [AT (by omega)];exact K
    ·intro x h5 hx;rw [AT (by omega)];exact b x h5 hx
  ·rintro t H' ⟨g0,g2,g3,g8,N,K,l',O,I,hP,b⟩ - -;rw [asK]at hP;refine aB (hQ _ _ _ rfl rfl ⟨rfl,l',O,I,hP.iff fun d=>?_,b⟩);rw [b9];unfold tO;simp only [asv,forall_eq_or_imp];constructor
   ·rintro⟨U,W,X,Y⟩;exact⟨⟨U,W,Y⟩,X⟩
   ·rintro⟨⟨U,W,Y⟩,X⟩;exact⟨U,W,X,Y⟩
theorem yq{p:bT}:∀ {l:List bT},p ∈ l→p.fq ∣ fR l
 | q::l,h=>by
  simp only [fR];rcases asv.1 h with rfl | h
  ·exact at0 _ _
  ·exact atD (yq h) (aug _ _)
theorem OT{p:bT}{d k:Int}(h:jL p d)(g:p.fq ∣ k):jL p (d-k):=by
 obtain⟨c,b,e⟩:=h;refine⟨c,b,?_⟩;have:=atA e g;rwa [show d-gK p c-k=d-k-gK p c by omega]at this
theorem xS{ps:List bT}(j:∀ p ∈ ps,Mod p){m d:Int}(h:∀ p ∈ ps,jL p d)(u:m≤d):∃ g,m≤g∧g<m+fR ps∧∀ p ∈ ps,jL p g:=by
 have v:=qX j;have l:=as7 (d-m) (fR ps);have q:=asV (d-m) (show fR ps≠0 by omega);have s:=asO (d-m) (show 0<fR ps by omega);refine⟨d-fR ps*((d-m) / fR ps),by omega,by omega,fun p b=>OT (h p b) (atD (yq b) (at0 _ _))⟩
def akS(ps:List bT)(m d:Int):Prop:=m≤d∧(∀ p ∈ ps,jL p d)∧d<m+fR ps∧∀ b,m≤b→(∀ p ∈ ps,jL p b)→d≤b
theorem ahJ(g:Tg)(ps:List bT)(y:∀ p ∈ ps,Mod p)(L:ps.length≤64)(W:fR ps≤1000000)(n m:Int)(S:m=max n (dp ps))(I:m≤1000000000000) :
  (∃ d,akS ps m d∧bh tab 178 [.c (.f (sl g (aY ps))),vi n]=Eq (.t [vi d,vb ae])) ∨
  ((∀ d,m≤d→¬ ∀ p ∈ ps,jL p d)∧bh tab 178 [.c (.f (sl g (aY ps))),vi n]=Eq (.t [vi 0,vb ag])):=by
 have u:=ace g ps L;have X:=nj ps;have U:=qX y;obtain⟨v,H',b,rfl,l',O,E,z,-⟩:=ao5 g ps y L m (by omega) I ps.length 0 (by omega) [.box [.f (sl g (aY ps))] 0,.box [.f (fi m)] 0,.box [.f (fi 1152921504606846976)] 0,.box [.f (.bool ag)] 0,.box [.cl 259 [.ptr 0 0 0,.ptr 4 0 0,.ptr 1 0 0,.ptr 2 0 0,.ptr 3 0 0]] 0]
  1152921504606846976 ag 0 1 ⟨⟨0,rfl⟩,rfl,rfl,rfl,rfl⟩ (by decide) (by decide) (by rw [atf];omega)
 rw [atf]at z;have H:∀ d,tO ps m 0 1 d↔m≤d∧∀ p ∈ ps,jL p d:=fun d=>⟨fun h=>⟨h.1,h.2.2⟩,fun h=>⟨h.1,Int.one_dvd _,h.2⟩⟩
 have j:max n (dp ps)=m:=S.symm;have b:=b.eq;simp only [show((0:Nat):Int)=0 from rfl]at b;cases O with
 | true=>
  left;have s:tO ps m 0 1 l':=by
   rcases z.src with⟨_,h⟩ | ⟨_,h⟩
   ·cases h
   ·exact h
  have l:∀ q,m≤q→(∀ p ∈ ps,jL p q)→l'≤q:=fun q A B=>(z.low q ((H q).2 ⟨A,B⟩)).1;obtain⟨M,N⟩:=(H l').1 s;obtain⟨x,J,Y,K⟩:=xS y N M;refine⟨l',⟨M,N,by have:=l x J K;omega,l⟩,bh.eq (bV rfl rfl fun Q F=>?_)⟩;apply ai;simp;apply ai;simp [u,j];apply ai;simp;apply ai;simp;apply ai;simp;apply ai;simp [b5,b];apply ak;apply ai;simp [E.2.2.2.1];refine bp (by simp) ?_;apply ai;simp [E.2.2.1];refine aB (F _ _ ?_);simp
 | false=>
  right;refine⟨fun d A B=>?_,bh.eq (bV rfl rfl fun Q F=>?_)⟩
  ·obtain⟨x,J,Y,K⟩:=xS y B A;have:=(z.low x ((H x).2 ⟨J,K⟩)).2 (by omega);cases this
  ·apply ai;simp;apply ai;simp [u,j];apply ai;simp;apply ai;simp;apply ai;simp;apply ai;simp [b5,b];apply ak;apply ai;simp [E.2.2.2.1];refine aq (by simp) ?_;apply ai;simp;refine aB (F _ _ ?_);simp
def tN:List (Int × Int)→List bT→Prop
 | _,[]=>True| ch,p::l=>∃ c ∈ p.jJ,(∀ x ∈ ch,(atC p.fq x.2:Int) ∣ gK p c-x.1)∧tN (ch++[(gK p c,p.fq)]) l
theorem FH{d:Int}:∀(l:List bT) (g:List (Int × Int)),(∀ x ∈ g,x.2 ∣ d-x.1)→(∀ p ∈ l,jL p d)→tN g l
 | [],_,_,_=>trivial
 | p::l,g,m,u=>by
  obtain⟨c,j,s⟩:=u p asn;refine⟨c,j,fun x b=>?_,FH l _ (fun x b=>?_) fun q z=>u q (asm _ z)⟩
  ·have v:=atD (auq p.fq x.2) (m x b);have y:=atD (auh p.fq x.2) s;have:=atA v y;rwa [show d-x.1-(d-gK p c)=gK p c-x.1 by omega]at this
  ·rcases asw.1 b with b | b
   ·exact m x b
   ·rw [asj.1 b];exact s
def RH(B:aj)(H:aj)(g:Tg)(ps:List bT)(b:List Int):Prop:=(∃ a,H[B.length]?=aa (.box [.f (sl g (aY ps))] a))∧H[B.length+1]?=aa (.box (b.map fun x=>C.f (fi x)) 0)∧H[B.length+2]?=aa (.box [.sl (B.length+1) 0 ps.length ps.length 0 1] 0) ∧
 H[B.length+3]?=aa (.box [.cl 255 [.ptr B.length 0 0,.ptr (B.length+2) 0 0,.ptr (B.length+3) 0 0]] 0)∧∀ i:Nat,i<B.length→H[i]?=B[i]?
def Cho(ps:List bT)(d:List Int)(b:List (Int × Int)):Prop:=∀ j,(h:j<b.length)→d[j]?=aa b[j].1∧(∃ p,ps[j]?=aa p∧p.fq=b[j].2)∧0≤b[j].1∧b[j].1≤1000
theorem aro(B:aj){o:Nat}(ho:o=B.length)(g:Tg)(ps:List bT)(hM:∀ p ∈ ps,Mod p)(v_:ps.length≤64) :
  ∀(k i:Nat),i+k=ps.length→∀(H:aj) (ls:List Int) (m:List (Int × Int)),RH B H g ps ls→ls.length=ps.length→m.length=i→Cho ps ls m →
  ∃ v H',Ev tab (.fn 255) [vi i,.c (.ptr o 0 0),.c (.ptr (o+2) 0 0),.c (.ptr (o+3) 0 0)] H v H' ∧
   ∃ b,v=vb b∧(b=ae↔tN m (ps.drop i))∧∃ d,RH B H' g ps d∧d.length=ps.length∧d.take i=ls.take i:=by
 intro k;induction k with
 | zero=>
  intro i hi H ls m hH i_ i6 F;have:i=ps.length:=by omega
  subst this;obtain⟨q,q0⟩:=hH.1;rw [←ho]at q0;refine cJ rfl rfl fun Q hQ=>?_;apply ai;simp;refine Bs ?_;apply ak;apply ai;simp [q0];refine aq (by simp) ?_;apply ai;simp;exact aB (hQ _ _ _ rfl (jO (by simp)) ⟨ae,rfl,by rw [atv];simp [tN],ls,hH,i_,rfl⟩)
 | succ k ih=>
  intro i hi H ls m hH i_ i6 F;have z:i<ps.length:=by omega
  obtain⟨p,hp⟩:=aI (ps[i]);have u_:p ∈ ps:=hp▸anc z;have O:=hM p u_;obtain⟨f0,f1,p0,p1,BW,-⟩:=fD O.ok;have t8:ps.drop i=p::ps.drop (i+1):=by rw [hp];exact arM z
  have Z:=fun H:aj=>cf (H:=H) (cu ps) (dY (l:=ps) (j:=i) z);have u:=fun H:aj=>ib (H:=H) (k:=3) (cu ps) (dY (l:=ps) (j:=i) z) rfl;have X:=fun H:aj=>ib (H:=H) (k:=2) (cu ps) (dY (l:=ps) (j:=i) z) rfl;have I:=fun H:aj=>bC (H:=H) (g:=g) (rows:=aY ps) (sz:=4) (k:=.i64) (i:=i) (by omega) (by simpa using z);rw [←hp]at Z u X;simp [bT.row]at Z I u X;obtain⟨q,q0⟩:=hH.1;rw [←ho]at q0;refine cJ rfl rfl fun Q hQ=>?_;apply ai;simp;refine Bs ?_;apply ak;apply ai;simp [q0];refine aD (by simp;omega) (aO ?_);refine ak (aaS ?_);apply ak;apply ai;simp [q0,I,u];obtain⟨Ok,j8⟩:∃ Ok:Int→Prop,Ok=fun c=>(∀ x ∈ m,(atC p.fq x.2:Int) ∣ gK p c-x.1)∧tN (m++[(gK p c,p.fq)]) (ps.drop (i+1)):=⟨_,rfl⟩
  have S:∀ c,Ok c↔((∀ x ∈ m,(atC p.fq x.2:Int) ∣ gK p c-x.1)∧tN (m++[(gK p c,p.fq)]) (ps.drop (i+1))):=fun c=>by rw [j8]
  have f7:tN m (ps.drop i)↔∃ c ∈ p.jJ,Ok c:=by rw [t8,j8];rfl
  refine bW p.jJ.length (fun j t H'=>t.g 0=vi i∧t.g 1=.c (.ptr o 0 0)∧t.g 2=.c (.ptr (o+2) 0 0)∧t.g 3=.c (.ptr (o+3) 0 0)∧t.g 18=.c (.f (sl p.cg (ints p.jJ))) ∧
   (∀ c ∈ p.jJ.take j,¬ Ok c)∧∃ d,RH B H' g ps d∧d.length=ps.length∧d.take i=ls.take i) (by omega) (by decide) (by decide) (by simp) (by simp) ⟨by simp,by simp,by simp,by simp,by simp,by simp,ls,hH,i_,rfl⟩ ?_ ?_
  ·rintro j t H' hj ⟨g0,g1,g2,g3,s,d9,d,hR,K,L⟩ ha hb next
   have hm:=tq O (anc hj);obtain⟨r_,v8,-⟩:=pM O hm.1 hm.2;have Y:=vN p O p.jJ[j] hm.1 hm.2;simp [bT.row]at Y;have w_:=O.apo;have o_:p.jJ.take (j+1)=p.jJ.take j++[p.jJ[j]]:=by rw [asQ,By hj];rfl
   have f_:¬ Ok p.jJ[j]→∀ c ∈ p.jJ.take (j+1),¬ Ok c:=by
    intro h c hc;rw [o_,asw,asj]at hc;rcases hc with hc | rfl
    ·exact d9 c hc
    ·exact h
   obtain⟨r,hr⟩:=aI (gK p p.jJ[j]);rw [←hr]at r_ v8 Y;obtain⟨q',d_⟩:=hR.1;have N:=hR.2.1;have e_:=hR.2.2.1;have p_:=hR.2.2.2.1;have q_:=hR.2.2.2.2;rw [←ho]at d_ N e_ p_ q_;have f8:∀ j,(h:j<m.length)→d[j]?=aa m[j].1:=fun j h=>by
    have h1:(d.take i)[j]?=d[j]?:=List.getElem?_take_of_lt (by omega);have h2:(ls.take i)[j]?=ls[j]?:=List.getElem?_take_of_lt (by omega);rw [←h1,L,h2];exact(F j h).1
   refine aG ?_;apply ai;simp [ha,s,bC,hj,jw];apply ai;simp [g0,g1,d_,I,Z,Y];apply ak;apply ai;simp [g0];refine bW i (fun n t H2=>(t.g 0=vi i∧t.g 1=.c (.ptr o 0 0)∧t.g 2=.c (.ptr (o+2) 0 0)∧t.g 3=.c (.ptr (o+3) 0 0)∧t.g 18=.c (.f (sl p.cg (ints p.jJ)))∧t.g 20=vi j∧t.g 19=vi p.jJ.length∧t.g 8=vi r)∧H2=H'∧∀ x ∈ m.take n,(atC p.fq x.2:Int) ∣ r-x.1)
    (by omega) (by decide) (by decide) (by simp) (by simp) ⟨⟨by simp [g0],by simp [g1],by simp [g2],by simp [g3],by simp [s],by simp [ha],by simp [hb],by simp⟩,rfl,by simp⟩ ?_ ?_
   ·rintro n t H2 hn ⟨⟨g0,g1,g2,g3,s,a_,a8,g8⟩,i4,E⟩ j_ t7 nx;rw [i4];have c_:n<ps.length:=by omega
    have b_:n<m.length:=by omega
    obtain⟨-,⟨pn,n9,j4⟩,x0,x1⟩:=F n b_;have i9:=f8 n b_;obtain⟨x,hx⟩:=aI (m[n]);rw [←hx]at i9 j4 x0 x1;have g_:ps[n]=pn:=by rw [By c_]at n9;exact at8 n9
    have s_:=hM pn (g_▸anc c_);obtain⟨-,-,z0,z1,-⟩:=fD s_.ok;rw [j4]at z0 z1;have A:=fun H:aj=>ib (H:=H) (k:=2) (cu ps) (dY (l:=ps) (j:=n) c_) rfl;have U:=fun H:aj=>bC (H:=H) (g:=g) (rows:=aY ps) (sz:=4) (k:=.i64) (i:=n) (by omega) (by simpa using c_);rw [g_]at A;simp [bT.row,j4]at A U;have W:bA H' 1 ab (.c (.sl (o+1) 0 ps.length ps.length 0 1)) (vi n)=aa (.c (.ptr (o+1) n 0)):=by
     simp [bA,hZ,N,K];omega
    have m9:aS H' ab (.c (.ptr (o+1) n 0))=aa (vi x.1):=by
     have hd:(d.map fun y=>C.f (fi y)).drop n=C.f (fi x.1) ::(d.map fun y=>C.f (fi y)).drop (n+1):=by
      rw [arM (by simp;omega),List.getElem_map];rw [By (by omega)]at i9;rw [at8 i9]
     simp only [aS,aE,N,Option.bind_some];rw [hd];rfl
    have u6:aS H' ab (.c (.ptr (o+2) 0 0))=aa (.c (.sl (o+1) 0 ps.length ps.length 0 1)):=by simp [e_]
    have u5:aS H' ab (.c (.ptr o 0 0))=aa (.c (.f (sl g (aY ps)))):=by simp [d_]
    obtain⟨gg,i8⟩:=aI ((atC p.fq x.2:Int):Int);have t9:atC p.fq x.2=aue p.fq.toNat x.2.toNat:=by
     show aue p.fq.natAbs x.2.natAbs=_;rw [show p.fq.natAbs=p.fq.toNat by omega,show x.2.natAbs=x.2.toNat by omega]
    have v9:0<gg:=by
     have:=at1 x.2 (show p.fq≠0 by omega);omega
    have l_:bh tab 257 [vi p.fq,vi x.2]=Eq (vi gg):=by
     have h:=aay (a:=p.fq.toNat) (b:=x.2.toNat) (by omega) (by omega);rw [show((p.fq.toNat:Nat):Int)=p.fq by omega,show((x.2.toNat:Nat):Int)=x.2 by omega,←t9,←i8]at h;exact h
    have s8:=aU (n:=r-x.1);have n_:dq .rem (vi (r-x.1)) (vi gg)=aa (vi ((r-x.1).tmod gg)):=ik (by omega);have J:m.take (n+1)=m.take n++[x]:=by rw [asQ,By b_,hx];rfl
    refine aG ?_;apply ai;simp [j_];apply ai;simp [g0,g1,g2,g8,u5,u6,W,m9,I,X,U,A,l_,s8,n_,-av];by_cases hd:gg ∣ r-x.1
    ·have j5:(r-x.1).tmod gg=0:=Int.tmod_eq_zero_of_dvd hd;refine bp (by simp [j5]) ?_;refine aw (nx _ _ ?_ (by simp [j_]) (by simp [t7]));refine⟨⟨by simp [g0],by simp [g1],by simp [g2],by simp [g3],by simp [s],by simp [a_],by simp [a8],by simp [g8]⟩,rfl,fun y hy=>?_⟩;rw [J,asw,asj]at hy;rcases hy with hy | rfl
     ·exact E y hy
     ·rw [←i8];exact hd
    ·have j5:¬ (r-x.1).tmod gg=0:=fun e=>hd (Int.dvd_of_tmod_eq_zero e);refine aq (by simp [j5]) ?_;refine bR rfl (next _ _ ?_ (by simp [a_]) (by simp [a8]));refine⟨by simp [g0],by simp [g1],by simp [g2],by simp [g3],by simp [s],f_ ?_,d,hR,K,L⟩;rw [S];rintro⟨h,-⟩;have:=h x (hx▸anc b_);rw [←i8,←hr]at this;exact hd this
   ·rintro t H2 ⟨⟨g0,g1,g2,g3,s,a_,a8,g8⟩,i4,E⟩ - -;rw [i4];rw [arf (by omega)]at E;have W:bA H' 1 ab (.c (.sl (o+1) 0 ps.length ps.length 0 1)) (vi i)=aa (.c (.ptr (o+1) i 0)):=by
     simp [bA,hZ,N,K];omega
    have h_:de H' (.ptr (o+1) i 0) [.f (fi r)]=aa (H'.set (o+1) (.box ((d.set i r).map fun y=>C.f (fi y)) 0)):=by
     simp only [de,N];rw [ba (by simp;omega),BN (by simp;omega),List.map_set]
    have n8:(H'.set (o+1) (.box ((d.set i r).map fun y=>C.f (fi y)) 0))[o+3]?=H'[o+3]?:=AI (by omega);have m_:=an N;have i5:RH B (H'.set (o+1) (.box ((d.set i r).map fun y=>C.f (fi y)) 0)) g ps (d.set i r):=by
     unfold RH;rw [←ho];refine⟨⟨q',?_⟩,IN m_,?_,?_,fun i hi=>?_⟩
     ·rw [AI (by omega)];exact d_
     ·rw [AI (by omega)];exact e_
     ·rw [n8];exact p_
     ·rw [AI (by omega)];exact q_ i hi
    have i7:Cho ps (d.set i r) (m++[(r,p.fq)]):=by
     intro y hy;rw [List.length_append,List.length_singleton]at hy;by_cases j6:y<m.length
     ·rw [List.getElem_append_left j6,AI (by omega)];obtain⟨-,h2,h3⟩:=F y j6;exact⟨f8 y j6,h2,h3⟩
     ·have:y=i:=by omega
      subst this;rw [List.getElem_append_right (by omega)];simp only [i6,at2,List.getElem_cons_zero];refine⟨by rw [IN (by omega)],⟨p,by rw [By z,hp],rfl⟩,r_,by omega⟩
    obtain⟨v,H3,b9,b,rfl,k_,M,j9,m4,J⟩:=ih (i+1) (by omega) _ _ (m++[(r,p.fq)]) i5 (by simpa using K) (by simp [i6]) i7;have b9:=b9.eq;have j7:=i5.2.2.2.1;rw [←ho]at j7;generalize H'.set (o+1) (.box ((d.set i r).map fun y=>C.f (fi y)) 0)=HN at h_ b9 j7 n8 i5;have t_:IntKind.i64.wrap ((i:Int)+1)=((i+1:Nat):Int):=by rw [aU];rfl
    apply ai;simp [g0,g2,g8,e_,W,h_,-bf];apply ai;simp [g0,g3,j7,t_,b5];rw [show(↑i+1:Int)=((i+1:Nat):Int) from rfl];simp only [b9];simp;cases b with
    | true=>
     refine aq (by simp) ?_;apply ai;simp;refine aB (hQ _ _ _ rfl (jO (by simp)) ⟨ae,rfl,?_,M,j9,m4,?_⟩)
     ·rw [f7];refine⟨fun _=>⟨_,anc hj,?_⟩,fun _=>rfl⟩;rw [S,←hr];exact⟨E,k_.1 rfl⟩
     ·have h1:(M.take (i+1)).take i=M.take i:=by rw [atF,as8 (by omega)]
      rw [←h1,J,atF,as8 (by omega),List.take_set_of_le (by omega),L]
    | false=>
     refine bp (by simp) ?_;refine aw (next _ _ ?_ (by simp [a_]) (by simp [a8]));refine⟨by simp [g0],by simp [g1],by simp [g2],by simp [g3],by simp [s],f_ ?_,M,j9,m4,?_⟩
     ·rw [S,←hr];rintro⟨-,h⟩;have:=k_.2 h;cases this
     ·have h1:(M.take (i+1)).take i=M.take i:=by rw [atF,as8 (by omega)]
      rw [←h1,J,atF,as8 (by omega),List.take_set_of_le (by omega),L]
  ·rintro t H' ⟨g0,g1,g2,g3,s,d9,d,hR,K,L⟩ - -;rw [asK]at d9;apply ai;simp;refine aB (hQ _ _ _ rfl (jO (by simp)) ⟨ag,rfl,?_,d,hR,K,L⟩);rw [f7];constructor
   ·intro h;cases h
   ·rintro⟨c,hc,h⟩;exact absurd h (d9 c hc)
end Go.Proofs.YtnaofdffomdmhaaGreat
