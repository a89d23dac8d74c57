/-
  ajN the nE iO and the nb answer, for all arguments of their kind, in the small machine: part 3.
-/
import Derived.Test.YtmbjejcfadllnaaGreatS1
import Derived.Test.YtmbjejcfadllnaaGreatK4
import Derived.Test.YtmbjejcfadllnaaGreatS2
import Derived.Test.YtmbjejcfadllnaaGreatProg
import Derived.Test.YtmbjejcfadllnaaGreatTie
import Derived.Test.YtmbjejcfadllnaaGreatEv
import Derived.Test.YtmbjejcfadllnaaGreatK5
open List renaming drop_eq_getElem_cons → avW, getElem_mem → IT, pairwise_iff_getElem → avX, getElem_of_mem → avT, pairwise_cons → aws, mem_cons → awf, all_eq_true → avP, pairwise_singleton → awo, getElem?_set_self → OF, mem_append → av1, pairwise_append → awA, mem_append_left → awY, getElem?_append_left → AT, length_append → avR, length_singleton → awH, length_pos_iff → aww, mem_cons_self → avQ, mem_map → av9, length_map → av7, append_assoc → awh, take_succ_eq_append_getElem → avN, find?_eq_none → aw2, take_length → awc, getElem?_set_ne → By, map_cons → anc, map_nil → avO, append_nil → awE, getElem?_append_right → avM, getElem?_eq_getElem → AI, getElem_map → awI, getElem?_eq_none_iff → awp, mem_cons_of_mem → avZ, take_of_length_le → avS, mem_of_mem_drop → awO, mem_of_mem_take → awJ
open Bool renaming and_eq_true → If
open List.Pairwise renaming imp → axl
open Nat renaming le_refl → aft, le_trans → avV, add_sub_cancel_left → awK, le_of_ble_eq_true → awu, zero_add → awn
open Int renaming toNat_of_nonneg → awL
set_option linter.unusedVariables false
set_option linter.unusedSimpArgs false
set_option linter.unusedSectionVars false
set_option linter.unnecessarySimpa false
set_option maxRecDepth 100000
namespace Go.Proofs.YtmbjejcfadllnaaGreat
open Go Km
section
structure cq where
 hg:Tg
 head:List Int
 fr:Int
 lf:Int
 cg:Tg
 cyc:List Int
def cq.row(p:cq):List FC:=[sl p.hg (ints p.head),fi p.fr,fi p.lf,sl p.cg (ints p.cyc)]
def bW(l:List cq):List (List FC):=l.map cq.row
@[simp] theorem air (l:List cq):(bW l).length=l.length:=by simp [bW]
theorem iE(l:List cq):bC 4 (bW l):=bC.map fun _=>rfl
theorem vm{l:List cq}{j:Nat}(b:j<l.length):(bW l)[j]?=some l[j].row:=by simp [bW,b]
def dI(b d:Int):List Int→Bool
 | []=>true
 | n::r=>decide (d<n)&&decide (n<b)&&dI b n r
theorem AH{b d:Int}{l:List Int}{j:Nat}(g:j<l.length):dI b d (l.drop j)=(decide (d<l[j])&&decide (l[j]<b)&&dI b l[j] (l.drop (j+1))):=by
 rw [avW g];rfl
def fJ(p:cq):Bool:=decide (0≤p.fr)&&decide (p.fr≤1099511627776)&&decide (1≤p.lf)&&decide (p.lf≤1099511627776) &&
 decide ((p.head.length:Int)+p.cyc.length≤1048576)&&dI p.fr (-1) p.head&&dI p.lf (-1) p.cyc
theorem OX(g:Tg)(l:List Int)(b:Int)(F:l.length≤9223372036854775807):Kf tab.get Cb [.c (.f (sl g (ints l))),vi b] (vb (dI b (-1) l)):=by
 refine fg anx rfl fun H Q u=>?_
 refine ae ?_;simp;refine ae ?_;simp;refine ag ?_;refine ae ?_;simp;refine eV l.length (fun j t E=>t.g 1=vi b∧t.g 8=.c (.f (sl g (ints l)))∧H=E∧∃ d,t.g 5=vi d∧dI b (-1) l=dI b d (l.drop j)) F (by decide) (by decide) (by simp) (by simp) (by simp) ?_ ?_
 ·rintro j t _ z ⟨q,s,rfl,d,x,m⟩ v y next;rw [AH z]at m;refine av ?_;refine ae ?_;simp [v,s,cT,z,fQ];refine ag ?_;refine ae ?_;simp [x,q];by_cases A:l[j]≤d
  ·simp [A];refine aj (by simp) ?_
   refine ae ?_;simp;refine aA (u _ _ ?_);simp [m,show¬ d<l[j] by omega]
  simp [A,q];by_cases B:b≤l[j]
  ·simp [B];refine aj (by simp) ?_
   refine ae ?_;simp;refine aA (u _ _ ?_);simp [m,show¬ l[j]<b by omega]
  simp [B];refine ah (by simp) ?_
  refine aB ?_;refine ab (.inl rfl) ?_;simp;refine al (next _ _ ?_ (by simp [v]) (by simp [y]))
  rw [decide_eq_true (by omega),decide_eq_true (by omega)]at m
  exact⟨by simp [q],by simp [s],rfl,l[j],by simp,by simpa using m⟩
 ·rintro t _ ⟨q,s,rfl,d,x,m⟩ v y;refine ae ?_;simp;refine aA (u _ _ ?_);simp [m,dI]
theorem yV(g:Tg)(l:List Int)(b:Int)(d:l.length≤9223372036854775807) :
  Km.Pure tab.get Cb [.c (.f (sl g (ints l))),vi b]=Eq (vb (dI b (-1) l)):=(OX g l b d).eq
theorem al2(p:cq)(s:p.head.length≤9223372036854775807)(u:p.cyc.length≤9223372036854775807)(h:p.head.length+p.cyc.length≤9223372036854775807) :
  Kf tab.get Ca [.a (p.row.map .f)] (vb (fJ p)):=by
 refine fg anv rfl fun H Q b=>?_
 refine ae ?_;simp [cq.row];refine ae ?_;simp;by_cases d:0≤p.fr
 case neg=>
  simp [d];refine aA (b _ _ ?_);simp [fJ,d]
 simp [d];by_cases g:p.fr≤1099511627776
 case neg=>
  simp [g];refine aA (b _ _ ?_);simp [fJ,g]
 simp [g];by_cases j:1≤p.lf
 case neg=>
  simp [j];refine aA (b _ _ ?_);simp [fJ,j]
 simp [j];by_cases l:p.lf≤1099511627776
 case neg=>
  simp [l];refine aA (b _ _ ?_);simp [fJ,l]
 simp [l,wrap64 (n:=(p.head.length:Int)+p.cyc.length) (by omega) (by omega)]
 by_cases m:(p.head.length:Int)+p.cyc.length≤1048576
 case neg=>
  simp [m];refine aA (b _ _ ?_);simp [fJ,m]
 simp [m,yV p.hg p.head p.fr s];cases q:dI p.fr (-1) p.head
 ·simp;refine aA (b _ _ ?_);simp [fJ,q]
 simp [yV p.cg p.cyc p.lf u];refine aA (b _ _ ?_);simp [fJ,d,g,j,l,m,q]
def cq.Sm(p:cq):Prop:=p.head.length+p.cyc.length≤9223372036854775807
theorem abB(p:cq)(h:p.Sm):Km.Pure tab.get Ca [.a (p.row.map .f)]=Eq (vb (fJ p)):=by
 have h:p.head.length+p.cyc.length≤9223372036854775807:=h;exact(al2 p (by omega) (by omega) h).eq
theorem Az{p:cq}(h:fJ p=true):p.Sm:=by
 simp [fJ]at h
 show p.head.length+p.cyc.length≤9223372036854775807
 omega
structure dH where
 tg:Tg
 fs:List cq
def dH.row(t:dH):List FC:=[sl t.tg (bW t.fs)]
def bL(l:List dH):List (List FC):=l.map dH.row
@[simp] theorem ah7 (l:List dH):(bL l).length=l.length:=by simp [bL]
theorem nX(l:List dH):bC 1 (bL l):=bC.map fun _=>rfl
theorem sV{l:List dH}{j:Nat}(b:j<l.length):(bL l)[j]?=some l[j].row:=by simp [bL,b]
def dH.Sm(t:dH):Prop:=t.fs.length≤9223372036854775807∧∀ p ∈ t.fs,p.Sm
def kA(t:dH):Bool:=decide (1≤(t.fs.length:Int))&&decide ((t.fs.length:Int)≤4)&&t.fs.all fJ
def oy(l:List dH):Bool:=decide ((l.length:Int)≤64)&&l.all kA
theorem Z2{b:Type}{l:List b}{p:b→Bool}{j:Nat}(d:j<l.length):(l.drop j).all p=(p l[j]&&(l.drop (j+1)).all p):=by
 rw [avW d,List.all_cons]
theorem ajZ(p:cq)(h:p.Sm):Kf tab.get B' [.a (p.row.map .f)] (vb (!fJ p)):=by
 refine fg anr rfl fun H Q d=>?_
 have b:=abB p h;simp [cq.row]at b;refine ae ?_;simp [cq.row];refine ae ?_;simp [b];refine aA (d _ _ ?_);simp
theorem NC(g:Tg)(l:List cq)(d:l.length≤9223372036854775807)(h:∀ p ∈ l,p.Sm) :
  Km.Pure tab.get tZ [.c (.f (sl g (bW l))),.c (.f (.fn B' []))]=Eq (vb (l.any fun p=>!fJ p)):=
 (jt ZQ (ny ZR l cq.row (fun r=>.a (r.row.map .f)) (fun p=>!fJ p) g B' [] d
  (fun j b H=>fk (iE l) (vm b)) (fun p m=>ajZ p (h p m)))).eq
theorem akQ(g:Tg)(l:List dH)(F:l.length≤9223372036854775807)(h:∀ t ∈ l,t.Sm):Kf tab.get xr [.a [.f (sl g (bL l))]] (vb (oy l)):=by
 refine fg anq rfl fun H Q s=>?_
 refine ae ?_;simp;refine ag ?_;refine ae ?_;simp;by_cases y:(64:Int)<l.length
 ·simp [y];refine aj (by simp) ?_
  refine ae ?_;simp;refine aA (s _ _ ?_);simp [oy,show¬ (l.length:Int)≤64 by omega]
 simp [y];refine ah (by simp) ?_
 refine aB ?_;refine ag ?_;refine ae ?_;simp;refine eV l.length (fun j t B=>t.g 10=.c (.f (sl g (bL l)))∧(∃ J,B=H++J)∧l.all kA=(l.drop j).all kA) F (by decide) (by decide) (by simp) (by simp) (by simp) ?_ ?_
 ·rintro j t _ m ⟨g10,⟨J,rfl⟩,d⟩ u v next;rw [Z2 m]at d;have x:=h l[j] (IT m);have b:=Af (H:=H++J) (k:=0) (nX l) (sV m) rfl;refine av ?_;refine ae ?_;simp at b;simp [u,g10,cT,m,b]
  have bad:kA l[j]=false→∀(t:T) (J:ai) k,WP tab.get xr none (.code (.region [⟨D 2,.bf (.k (.c (.f (.bool false)))),none⟩] [])::.code .ret::k) ⟨t,[],H++J⟩ Q:=by
   intro E t J k;refine ab (.inl rfl) ?_;simp;refine aA (s _ _ ?_);simp [oy,d,E]
  refine ae ?_;simp;by_cases z:(l[j].fs.length:Int)<1
  ·simp [z];exact aj (by simp) (ag (bad (by simp [kA,show¬ 1≤(l[j].fs.length:Int) by omega]) _ _ _))
  simp [z];by_cases A:(4:Int)<l[j].fs.length
  ·simp [A];exact aj (by simp) (ag (bad (by simp [kA,show¬ (l[j].fs.length:Int)≤4 by omega]) _ _ _))
  simp [A,NC l[j].tg l[j].fs x.1 x.2];cases q:l[j].fs.any fun p=>!fJ p
  ·have:kA l[j]=true:=by
    simp [kA]at q ⊢;exact⟨⟨by omega,by omega⟩,q⟩
   refine ah (by simp) ?_
   refine aB (al (next _ _ ?_ (by simp [u]) (by simp [v])))
   rw [this,Bool.true_and]at d;exact⟨by simp [g10],⟨_,rfl⟩,d⟩
  ·exact aj (by simp) (ag (bad (by simp [kA]at q ⊢;intro _ _;exact q) _ _ _))
 ·rintro t _ ⟨g10,⟨J,rfl⟩,d⟩ u v;refine ae ?_;simp;refine aA (s _ _ ?_);simp [oy,d,show(l.length:Int)≤64 by omega]
end
section
theorem sM(a b:Int):Km.Pure tab.get B7 [vi a,vi b]=Eq (vb (decide (a<b))):=Kf.eq (by
 refine fg anj rfl fun H Q d=>?_
 refine ae ?_;simp;refine ae ?_;simp [pM];refine aA (d _ _ ?_)
 simp [pM])
theorem ah2(a:Int):Km.Pure tab.get zp [vi a]=Eq (vb false):=Kf.eq (by
 refine fg ajd rfl fun H Q b=>?_
 refine ae ?_;simp;refine ae ?_;simp;refine aA (b _ _ ?_)
 simp)
theorem FM(g:Tg)(l:List Int)(n:Int)(hl:l.length≤1000000000)(Z:l.Pairwise (· < ·)) :
  ∃ i:Nat,i≤l.length∧(∀ j (b:j<l.length),j<i→l[j]<n)∧(∀ j (b:j<l.length),i≤j→n≤l[j]) ∧
   Km.Pure tab.get zm [.c (.f (sl g (ints l))),vi n]=Eq (.t [vi i,vb (decide (n ∈ l))]):=by
 obtain⟨r,⟨i,W,X,K,rfl⟩,h⟩:∃ r,(∃ i:Nat,i≤l.length∧(∀ j (b:j<l.length),j<i→l[j]<n)∧(∀ j (b:j<l.length),i≤j→n≤l[j])∧r=.t [vi i,vb (decide (n ∈ l))]) ∧
   Km.Pure tab.get zm [.c (.f (sl g (ints l))),vi n] r:=by
  refine ca aiX rfl fun Q L=>?_
  have x:∀ i j (hi:i<j) (b:j<l.length),l[i]<l[j]:=fun i j hi b=>avX.1 Z i j (by omega) b hi
  refine ae ?_;simp;refine ae ?_;simp;refine ae ?_;simp;refine ag ?_;refine av ?_
  refine bw (fun m s=>∃(lo hi:Nat) (t:T),s=⟨t,[],[]⟩∧m=hi-lo∧lo≤hi∧hi≤l.length∧t.g 0=.c (.f (sl g (ints l)))∧t.g 1=vi n∧t.g 6=vi l.length∧t.g 7=vi lo∧t.g 8=vi hi ∧
   (∀ j (b:j<l.length),j<lo→l[j]<n)∧(∀ j (b:j<l.length),hi≤j→n≤l[j])) l.length
   ⟨0,l.length,_,rfl,by omega,by omega,by omega,by simp,by simp,by simp,by simp,by simp,by simp,by intros;omega⟩ ?_
  rintro m s ⟨lo,hi,t,rfl,rfl,Y,y,A,B,F,E,J,d,u⟩ next;refine ag ?_;refine ae ?_;simp [E,J];by_cases N:lo<hi
  ·refine aj (by simp [N]) (aB ?_)
   obtain⟨q,hq⟩:∃ q,q=(lo+hi) / 2:=⟨_,rfl⟩;have H:q<l.length:=by omega
   have U:bJ BinOp.shr (V.c (C.f (FC.int IntKind.u64 (IntKind.u64.wrap ((lo:Int)+hi))))) (V.c (C.f (FC.int IntKind.u64 1)))=some (.c (.f (.int .u64 (q:Int)))):=by
    have:IntKind.u64.wrap ((lo:Int)+hi)=(lo:Int)+hi:=by
     show((lo:Int)+hi) % 18446744073709551616=_
     omega
    rw [this]
    show some (V.c (C.f (FC.int IntKind.u64 (Int.fdiv ((lo:Int)+hi) (2 ^ (min (1:Int).toNat IntKind.u64.bits))))))=_
    have K:Int.fdiv ((lo:Int)+hi) (2 ^ (min (1:Int).toNat IntKind.u64.bits))=q:=by
     show Int.fdiv ((lo:Int)+hi) 2=q
     rw [Int.fdiv_eq_ediv_of_nonneg _ (by omega)];omega
    rw [K]
   have hw:IntKind.i64.wrap ((lo:Int)+hi)=(lo:Int)+hi:=wrap64 (by omega) (by omega)
   have S:IntKind.i64.wrap (q:Int)=q:=wrap64 (by omega) (by omega)
   refine av ?_;refine ae ?_;simp [E,J,hw,U,S];refine ae ?_;simp [A,B,cT,H,fQ,sM];by_cases M:l[q]<n
   ·refine aj (by simp [M]) ?_
    refine ab (.inl rfl) ?_;simp [wrap64 (n:=(q:Int)+1) (by omega) (by omega)]
    refine al (next (hi-(q+1)) _ (by omega) ⟨q+1,hi,_,rfl,rfl,by omega,by omega,by simp [A],by simp [B],by simp [F],by simp,by simp [J],fun j b h=>?_,u⟩)
    by_cases e:j=q
    ·subst e;exact M
    ·have:=x j q (by omega) H;omega
   ·refine ah (by simp [M]) ?_
    refine ab (.inl rfl) ?_;simp;refine al (next (q-lo) _ (by omega) ⟨lo,q,_,rfl,rfl,by omega,by omega,by simp [A],by simp [B],by simp [F],by simp [E],by simp,d,fun j b h=>?_⟩)
    by_cases e:j=q
    ·subst e;omega
    ·have:=x q j (by omega) b;omega
  ·have:lo=hi:=by omega
   subst this;refine ah (by simp) ?_
   refine aT rfl ?_;refine ae ?_;by_cases v:lo<l.length
   ·have h4:=u lo v (by omega)
    by_cases I:l[lo]=n
    ·simp [A,B,F,E,v,cT,fQ,I];refine aA (L _ _ _ ⟨lo,y,d,u,rfl⟩ ?_);have:n ∈ l:=I▸IT v;simp [this]
    ·have z:n ∉ l:=fun O=>by
      obtain⟨j,b,rfl⟩:=avT O;rcases Nat.lt_trichotomy j lo with h | h | h
      ·have:=d j b h;omega
      ·subst h;exact I rfl
      ·have:=x lo j h b;omega
     simp [A,B,F,E,v,cT,fQ,I,ah2];refine aA (L _ _ _ ⟨lo,y,d,u,rfl⟩ ?_);simp [z]
   ·have z:n ∉ l:=fun O=>by
     obtain⟨j,b,rfl⟩:=avT O;have:=d j b (by omega);omega
    simp [A,B,F,E,v];refine aA (L _ _ _ ⟨lo,y,d,u,rfl⟩ ?_);simp [z]
 exact⟨i,W,X,K,Km.Pure.eq h⟩
theorem lC{d:Int}:∀ {l:List Int} {b:Int},dI d b l=true→l.Pairwise (· < ·)∧∀ c ∈ l,b<c∧c<d
 | [],_,_=>⟨List.Pairwise.nil,by simp⟩
 | a::l,b,h=>by
  simp only [dI,If,decide_eq_true_eq]at h;obtain⟨⟨m,q⟩,s⟩:=h;obtain⟨u,j⟩:=lC s;refine⟨aws.2 ⟨fun c g=>(j c g).1,u⟩,fun c g=>?_⟩
  rcases awf.1 g with rfl | g
  ·exact⟨m,q⟩
  ·have:=j c g;omega
theorem ON{p:cq}(h:fJ p=true):0≤p.fr∧p.fr≤1099511627776∧1≤p.lf∧p.lf≤1099511627776∧p.head.length+p.cyc.length≤1048576∧p.head.Pairwise (· < ·)∧(∀ c ∈ p.head,-1<c∧c<p.fr)∧p.cyc.Pairwise (· < ·)∧∀ c ∈ p.cyc,-1<c∧c<p.lf:=by
 unfold fJ at h;simp only [If,decide_eq_true_eq]at h;obtain⟨⟨⟨⟨⟨⟨g,j⟩,l⟩,m⟩,u⟩,q⟩,s⟩:=h;obtain⟨a1,b⟩:=lC q;obtain⟨b1,d⟩:=lC s;exact⟨g,j,l,m,by omega,a1,b,b1,d⟩
def aa5(p:cq)(d:Int):Bool:=if p.fr≤d then decide ((d-p.fr) % p.lf ∈ p.cyc)else decide (d ∈ p.head)
def Day(d:Int):Prop:=d≤2305843009213693952
theorem Om(p:cq)(h:fJ p=true)(d:Int)(z:0≤d)(hd:Day d):Km.Pure tab.get Hf [.a (p.row.map .f),vi d]=Eq (vb (aa5 p d)):=Kf.eq (by
 obtain⟨A,B,E,F,I,s,K,u,L⟩:=ON h;unfold Day at hd;refine fg anw rfl fun H Q v=>?_
 have j:∀(t:T) (J:ai) (g:Tg) (l:List Int) (n:Int),l.length≤1048576→l.Pairwise (· < ·)→t.g 5=.c (.f (sl g (ints l)))→t.g 6=vi n→aa5 p d=decide (n ∈ l)→WP tab.get Hf none [.code Hb] ⟨t,[],H++J⟩ Q:=by
  intro t J g l n M x m q e;obtain⟨i,-,-,-,y⟩:=FM g l n (by omega) x
  refine ae ?_;simp [m,q,y];refine ae ?_;simp;refine aA (v _ _ ?_);simp [e]
 refine ae ?_;simp [cq.row];refine ae ?_;simp;refine ag ?_;refine ae ?_;simp;by_cases k:p.fr≤d
 ·refine aj (by simp [k]) ?_
  refine ab (.inl rfl) ?_;simp [wrap64 (n:=d-p.fr) (by omega) (by omega),jR (a:=d-p.fr) (b:=p.lf) (by omega) (by omega)]
  exact j _ _ p.cg p.cyc ((d-p.fr) % p.lf) (by omega) u (by simp) (by simp) (by simp [aa5,k])
 ·refine aY (by simp [k]) ?_
  exact j _ _ p.hg p.head d (by omega) s (by simp) (by simp) (by simp [aa5,k]))
def hasB(p:cq)(d:Int):Bool:=decide (0≤d)&&aa5 p d
theorem ahq(p:cq)(h:fJ p=true)(d:Int)(hd:Day d):Kf tab.get ZF [.a (p.row.map .f),vi d] (vb (hasB p d)):=by
 refine fg anu rfl fun H Q g=>?_
 have b:=abB p (Az h);rw [h]at b;refine ae ?_;simp [cq.row]at b ⊢;refine ae ?_;by_cases k:0≤d
 ·have j:=Om p h d k hd;simp [cq.row]at j;simp [b,k,j];refine aA (g _ _ ?_);simp [hasB,k]
 ·simp [b,k];refine aA (g _ _ ?_);simp [hasB,k]
theorem Ox(p:cq)(h:fJ p=true)(d:Int)(hd:Day d):Kf tab.get B_ [.a (p.row.map .f),.c (.f (.fp [fi d] 0))] (vb (!hasB p d)):=by
 refine fg ant rfl fun H Q g=>?_
 have b:=(ahq p h d hd).eq;simp [cq.row]at b;have j:∀ H:ai,aQ H none (.c (.f (.fp [fi d] 0)))=some (vi d):=fun H=>by simp [aQ,az]
 refine ae ?_;simp [cq.row];refine ae ?_;simp [j,b];refine aA (g _ _ ?_);simp
def inB(l:List cq)(d:Int):Bool:=l.all fun p=>hasB p d
theorem aph(g:Tg)(l:List cq)(u:l.length≤9223372036854775807)(h:∀ p ∈ l,fJ p=true)(d:Int)(hd:Day d):Kf tab.get ZC [.c (.f (sl g (bW l))),vi d] (vb (inB l d)):=by
 refine fg ans rfl fun H Q m=>?_
 have q:=(jt ZQ (ny ZR l cq.row (fun r=>.a (r.row.map .f)) (fun p=>!hasB p d) g B_ [.fp [fi d] 0] u
  (fun j s H=>fk (iE l) (vm s)) (fun p v=>Ox p (h p v) d hd))).eq
 have e:(!l.any fun p=>!hasB p d)=inB l d:=by
  rw [inB,Bool.eq_iff_iff];simp [List.any_eq_false,avP]
 refine ae ?_;simp;refine ae ?_;have b:Km.Pure tab.get tZ [.c (.f (sl g (bW l))),.c (.f (.fn B_ [.fp [fi d] 0]))]=Eq (vb (l.any fun p=>!hasB p d)):=q
 simp [deep,aim,aa8,b,e];refine aA (m _ _ ?_);simp
theorem akx(t:dH)(j:t.fs.length≤9223372036854775807)(h:∀ p ∈ t.fs,fJ p=true)(d:Int)(hd:Day d):Kf tab.get B9 [.c (.f (sl t.tg (bW t.fs))),.c (.f (.fp [fi d] 0))] (vb (inB t.fs d)):=by
 refine fg anp rfl fun H Q g=>?_
 have b:∀ H:ai,aQ H none (.c (.f (.fp [fi d] 0)))=some (vi d):=fun H=>by simp [aQ,az]
 refine ae ?_;simp;refine ae ?_;simp [b,(aph t.tg t.fs j h d hd).eq];refine aA (g _ _ ?_);simp
def fT(l:List dH)(d:Int):Bool:=oy l&&l.any fun t=>inB t.fs d
theorem gI{t:dH}(h:kA t=true):1≤t.fs.length∧t.fs.length≤4∧∀ p ∈ t.fs,fJ p=true:=by
 unfold kA at h;simp only [If,decide_eq_true_eq,avP]at h;exact⟨by omega,by omega,h.2⟩
theorem yz{l:List dH}(h:oy l=true):l.length≤64∧∀ t ∈ l,kA t=true:=by
 unfold oy at h;simp only [If,decide_eq_true_eq,avP]at h;exact⟨by omega,h.2⟩
theorem aa6(g:Tg)(l:List dH)(b:l.length≤9223372036854775807)(h:∀ t ∈ l,t.Sm):Km.Pure tab.get xr [.a [.f (sl g (bL l))]]=Eq (vb (oy l)):=(akQ g l b h).eq
theorem Ia(g:Tg)(l:List dH)(h:oy l=true)(d:Int)(hd:Day d):Km.Pure tab.get He [.a [.f (sl g (bL l))],vi d]=Eq (vb (fT l d)):=Kf.eq (by
 obtain⟨z,m⟩:=yz h;have s:=aa6 g l (by omega) (fun t b=>⟨by have:=(gI (m t b)).2.1;omega,fun p y=>Az ((gI (m t b)).2.2 p y)⟩)
 have v:=(jt aiZ (ny ai1 l dH.row (fun t=>.c (.f (sl t.tg (bW t.fs)))) (fun t=>inB t.fs d) g B9 [.fp [fi d] 0] (by omega)
  (fun j x H=>gN (nX l) (sV x) rfl) (fun t b=>akx t (by have:=(gI (m t b)).2.1;omega) (gI (m t b)).2.2 d hd))).eq
 have q:Km.Pure tab.get Fo [.c (.f (sl g (bL l))),.c (.f (.fn B9 [.fp [fi d] 0]))]=Eq (vb (l.any fun t=>inB t.fs d)):=v
 rw [h]at s;refine fg ano rfl fun H Q u=>?_
 refine ae ?_;simp;refine ae ?_;simp [s,deep,aim,aa8,q];refine aA (u _ _ ?_)
 simp [fT,h])
end
section
theorem uR{tab:Nat→Option ax}{fn:Nat}{b:Option Nat}{a:aq}{k:List cm}{s:St}{Q:Option aq→St→Prop}(h:WP tab fn b (.code a::.inLoop a::k) s Q):WP tab fn b (.code (.loop a)::k) s Q:=lS h fun _ _ _=>rfl
abbrev cJ(l:List Int):List (List FC):=l.map fun n=>[fi n]
theorem uN(l:List Int):bC 1 (cJ l):=bC.map fun _=>rfl
def gR(H:ai)(c:C)(l:List Int)(d:ai):Prop:=∃ b,b.Perm l∧b.Pairwise (·≤·)∧LR d c 1 (cJ b)∧Kb H d c
theorem ab0{l:List Int}(h:l.length<2):l.Pairwise (·≤·):=by
 match l,h with
 | [],_=>exact List.Pairwise.nil
 | [_],_=>exact awo _ _
theorem aaH{H:ai}{c:C}{l:List Int}(M:LR H c 1 (cJ l))(I:l.length≤2) :
  ∃ q,Ev tab.get (.fn ub) [.c c,vi 0,vi l.length] H (.t []) q∧gR H c l q:=by
 suffices h:∃ r q,Ev tab.get (.fn ub) [.c c,vi 0,vi l.length] H r q∧(r=.t []∧gR H c l q) by
  obtain⟨r,q,Y,rfl,m⟩:=h;exact⟨q,Y,m⟩
 refine da ajc rfl fun Q N=>?_
 have w1:IntKind.i64.wrap 1=1:=by decide
 have w2:IntKind.i64.wrap 2=2:=by decide
 have L:IntKind.i64.wrap 0=0:=by decide
 refine ae ?_;simp [w1];refine av (uR (ag ?_));refine ae ?_;by_cases m:l.length<2
 ·simp [show¬ (1:Int)<(l.length:Int) by omega]
  refine ah (by simp) (aT rfl (iY (N _ _ _ rfl rfl ⟨rfl,l,List.Perm.refl _,ab0 m,M,Kb.refl _ _⟩)))
 obtain⟨x,y,rfl⟩:∃ x y,l=[x,y]:=by
  match l,I,m with
  | [],_,m=>simp at m
  | [_],_,m=>simp at m
  | [x,y],_,_=>exact⟨x,y,rfl⟩
  | _::_::_::_,I,_=>simp at I
 rcases M with⟨h,_⟩ | ⟨_,b,d,rfl,O⟩
 ·simp at h
 have g:H[b]?=some (.bE 1 [.f (fi x),.f (fi y)] 0 d .loc):=O;clear m
 have j:∀(t:T) (J:ai),gR H (.sl b 0 2 0 d 1) [x,y] J→t.g 2=vi 2→t.g 6=vi 1→WP tab.get ub none [.inBlock 1,.code xb,.inLoop A_,.inBlock 0] ⟨t,[],J⟩ Q:=by
  intro t J E W X;refine al (ab (.inl rfl) ?_);simp [X,w2];refine rN (ag (ae ?_));simp [W];exact ah (by simp) (aT rfl (iY (N _ _ _ rfl rfl ⟨rfl,E⟩)))
 simp;refine aj (by simp) (aB (ag ?_))
 refine av (ae ?_);simp;refine av (uR (ag (ae ?_)));have i1:aG H 1 none (.c (.sl b 0 2 0 d 1)) (vi 1)=some (.c (.ptr b 1 d)):=by simp [aG,dk,g]
 have i0:aG H 1 none (.c (.sl b 0 2 0 d 1)) (vi 0)=some (.c (.ptr b 0 d)):=by simp [aG,dk,g]
 have U:aQ H none (.c (.ptr b 1 d))=some (vi y):=by simp [aQ,az,g,aF]
 have S:aQ H none (.c (.ptr b 0 d))=some (vi x):=by simp [aQ,az,g,aF]
 simp [L,i1,i0,U,S,-an,sM];by_cases B:y<x
 ·simp [B];refine aj (by simp) (aB (ag ?_))
  obtain⟨s,u⟩:∃ s:ai,s=H.set b (.bE 1 [.f (fi x),.f (fi x)] 0 d .loc):=⟨_,rfl⟩;have z:s[b]?=some (.bE 1 [.f (fi x),.f (fi x)] 0 d .loc):=by rw [u,OF (ak g)]
  have Z:df H (.ptr b 1 d) [.f (fi x)]=some s:=by simp [df,g,over,u]
  have K:aG s 1 none (.c (.sl b 0 2 0 d 1)) (vi 0)=some (.c (.ptr b 0 d)):=by simp [aG,dk,z]
  obtain⟨A,v⟩:∃ A:ai,A=s.set b (.bE 1 [.f (fi y),.f (fi x)] 0 d .loc):=⟨_,rfl⟩;have s2:df s (.ptr b 0 d) [.f (fi y)]=some A:=by simp [df,z,over,v]
  have F:A[b]?=some (.bE 1 [.f (fi y),.f (fi x)] 0 d .loc):=by rw [v,OF (ak z)]
  have E:gR H (.sl b 0 2 0 d 1) [x,y] A:=by
   refine⟨[y,x],List.Perm.swap _ _ _,by simp;omega,.inr ⟨by simp,b,d,rfl,F⟩,Kb.apP ?_⟩
   rw [v,u];exact(Fm.set _ _).trans (Fm.set _ _)
  refine av (ab (.inl rfl) ?_);simp [L,i1,i0,U,S,Z,K,s2,-an,-ba];refine al (ab (.inl rfl) ?_);simp [L];refine rN (ag (ae ?_));simp;refine ah (by simp) (aT rfl ?_)
  exact j _ _ E (by simp) (by simp)
 ·simp [B];refine ah (by simp) (aT rfl ?_)
  exact j _ _ ⟨_,List.Perm.refl _,by simp;omega,.inr ⟨by simp,b,d,rfl,O⟩,Kb.refl _ _⟩ (by simp) (by simp)
theorem N_:((List.range 3).all fun n=>match (CF tab.get 60 20 (.fn uc) [.c (.f (.int .u64 (n:Nat)))] [])with | some (.c (.f (.int .i64 (.ofNat _))),_)=>true | _=>false)=true:=by kernel_rfl
theorem Ah{n:Nat}(h:n≤2):∃ k:Nat,Km.Pure tab.get uc [.c (.f (.int .u64 (n:Nat)))]=Eq (vi (k:Nat)):=by
 have b:=dh N_ (show n<3 by omega)
 revert b;split
 ·rename_i k d hr;intro _;exact⟨k,(dC (by rw [hr];rfl)).eq⟩
 ·intro h;cases h
theorem abx{H:ai}{c:C}{l:List Int}(j:LR H c 1 (cJ l))(s:l.length≤2)(k:Nat) :
  ∃ b,Ev tab.get (.fn rm) [.c c,vi 0,vi l.length,vi k] H (.t []) b∧gR H c l b:=by
 obtain⟨b,hi,q⟩:=aaH j s
 suffices h:∃ r b,Ev tab.get (.fn rm) [.c c,vi 0,vi l.length,vi k] H r b∧(r=.t []∧gR H c l b) by
  obtain⟨r,b,d,rfl,g⟩:=h;exact⟨b,d,g⟩
 refine da ajs rfl fun Q m=>?_
 have u:IntKind.i64.wrap (l.length:Int)=l.length:=wrap64 (by omega) (by omega)
 have hi:=hi.eq;refine ae ?_;simp;refine ae ?_;simp;refine av (uR (av (ae ?_)));simp [u];refine ag (ae ?_);simp [show(l.length:Int)≤12 by omega]
 refine aj (by simp) (ae ?_)
 simp [hi];exact aA (m _ _ _ rfl rfl ⟨rfl,q⟩)
theorem O3{H:ai}{c:C}{l:List Int}(g:LR H c 1 (cJ l))(j:l.length≤2) :
  ∃ b,Ev tab.get (.fn zn) [.c c] H (.t []) b∧gR H c l b:=by
 obtain⟨k,v⟩:=Ah j;obtain⟨b,hi,u⟩:=abx g j k
 suffices h:∃ r b,Ev tab.get (.fn zn) [.c c] H r b∧(r=.t []∧gR H c l b) by
  obtain⟨r,b,m,rfl,q⟩:=h;exact⟨b,m,q⟩
 refine da ai5 rfl fun Q s=>?_
 have hi:=hi.eq;have d:=g.len
 have x:IntKind.u64.wrap (l.length:Int)=l.length:=by
  have:l.length=0∨l.length=1∨l.length=2:=by omega
  rcases this with e | e | e<;>rw [e]<;>decide
 refine ae ?_;simp [d];refine ab (.inl rfl) ?_;simp [x,v,hi];exact iY (s _ _ _ rfl rfl ⟨rfl,u⟩)
end
section
section
variable{z:ZD}{o:List bD}
def fD(h:ee z o)(b a:Int):Prop:=∃ r,gP h.S a r∧a+offO z r=b
theorem vg(h:ee z o){t:Int}{r q:Option bD}(hr:gP h.S t r)(b:gP h.S t q):r=q:=gP.uniq h.apart hr b
theorem C8(h:ee z o){t l:Int}(hr:gP h.S t none)(b:l-offO z none≤t):fD h l (l-offO z none):=⟨none,hr.yG b,by omega⟩
theorem C9(h:ee z o){t l:Int}{x:bD}(hr:gP h.S t (some x))(b:l-offO z (some x)≤t)(d:x.at_≤l-offO z (some x)):fD h l (l-offO z (some x)):=⟨some x,hr.back d b,by omega⟩
theorem agY(h:ee z o){t:Int}{x:bD}(hr:gP h.S t (some x)):∀ y,h.S y→y.at_≤x.at_-1→y.at_+2160≤x.at_:=by
 intro y d g;rcases h.apart x y hr.1 d with b | b | b
 ·omega
 ·exact b
 ·subst b;omega
end
end
section
def ZN{z:ZD}{o:List bD}(h:ee z o)(lo:Int)(m:Nat)(tm:Int)(n:Nat):Prop:=
 (m=2∧tm=lo+1080∧n=0)∨(m=1∧tm≤lo+1079∧n≤1∧∀ y,h.S y→y.at_≤tm→y.at_≤lo-1080)∨(m=0∧tm=lo-1081∧n≤2∧∀ y,h.S y→y.at_≤tm→y.at_<lo-1080)
structure zz{z:ZD}{o:List bD}(h:ee z o)(lo tm:Int)(l:List Int):Prop where
 at_:∀ a ∈ l,fD h lo a
 low:∀ a ∈ l,tm<a
 pw:l.Pairwise (· > ·)
 all:∀ a,fD h lo a→a ∈ l∨a≤tm
structure zA{z:ZD}{o:List bD}(h:ee z o)(lo:Int)(r:Option bD)(l:List Int):Prop where
 at_:∀ a ∈ l,fD h lo a
 low:∀ a ∈ l,∀ x,r=some x→x.at_≤a
 pw:l.Pairwise (· > ·)
 all:∀ a,fD h lo a→a ∈ l∨∃ x,r=some x∧a<x.at_
section
variable{z:ZD}{o:List bD}{h:ee z o}{lo tm:Int}{l:List Int}{r:Option bD}
theorem rR(h:ee z o){a:Int}(b:fD h lo a):lo-1080≤a∧a≤lo+1080:=by
 obtain⟨r,hr,e⟩:=b;have:=h.offO hr;omega
theorem zz.case(hr:gP h.S tm r){a:Int}(j:fD h lo a)(b:a≤tm):(a=lo-offO z r∧∀ x,r=some x→x.at_≤a)∨∃ x,r=some x∧a<x.at_:=by
 obtain⟨r',d,e⟩:=j
 cases r with
 | none=>
  have:=vg h d (hr.yG b);subst this
  exact .inl ⟨by omega,fun x g=>by cases g⟩
 | some x=>
  by_cases g:x.at_≤a
  ·have:=vg h d (hr.back g b);subst this;exact .inl ⟨by omega,fun y hy=>by cases hy;exact g⟩
  ·exact .inr ⟨x,rfl,by omega⟩
theorem zz.app(k:zz h lo tm l)(hr:gP h.S tm r)(j:fD h lo (lo-offO z r))(v:lo-offO z r≤tm)(q:∀ x,r=some x→x.at_≤lo-offO z r):zA h lo r (l++[lo-offO z r]):=by
 refine⟨fun a d=>?_,fun a d x m=>?_,?_,fun a d=>?_⟩
 ·rcases av1.1 d with d | d
  ·exact k.at_ a d
  ·simp at d;subst d;exact j
 ·rcases av1.1 d with d | d
  ·have:=k.low a d;subst m;have:=hr.2.1;omega
  ·simp at d;subst d;exact q x m
 ·rw [awA];exact⟨k.pw,awo _ _,fun a d b u=>by simp at u;have:=k.low a d;show b<a;omega⟩
 ·rcases k.all a d with g | g
  ·exact .inl (awY _ g)
  ·rcases zz.case hr d g with⟨e,-⟩ | s
   ·exact .inl (List.mem_append_right _ (by simp [e]))
   ·exact .inr s
theorem zz.no(k:zz h lo tm l)(hr:gP h.S tm r)(m:¬ (lo-offO z r≤tm∧∀ x,r=some x→x.at_≤lo-offO z r)):zA h lo r l:=by
 refine⟨k.at_,fun a b x j=>?_,k.pw,fun a b=>?_⟩
 ·have:=k.low a b;subst j;have:=hr.2.1;omega
 ·rcases k.all a b with d | d
  ·exact .inl d
  ·rcases zz.case hr b d with⟨e,g⟩ | g
   ·exact absurd ⟨by omega,fun x j=>by have:=g x j;omega⟩ m
   ·exact .inr g
theorem zA.next{x:bD}(k:zA h lo (some x) l):zz h lo (x.at_-1) l:=by
 refine⟨k.at_,fun a b=>by have:=k.low a b x rfl;omega,k.pw,fun a b=>?_⟩
 rcases k.all a b with d | ⟨y,hy,d⟩
 ·exact .inl d
 ·cases hy;exact .inr (by omega)
theorem zA.done(k:zA h lo r l)(hd:∀ x,r=some x→x.at_<lo-1080):∀ a,fD h lo a→a ∈ l:=by
 intro a d;rcases k.all a d with b | ⟨y,hy,b⟩
 ·exact b
 ·have:=hd y hy;have:=rR h d;omega
theorem aaB{t:Int}{x:bD}{r2:Option bD}(hr:gP h.S t (some x))(d:gP h.S (x.at_-1) r2)(B:x.at_+offO z r2≤lo)(E:lo<x.at_+x.off):∀ a,¬ fD h lo a:=by
 rintro a ⟨r,b,e⟩;have F:=h.offO b;have A:=h.off hr.1;have u:=h.offO d;have j:=h.apart;rcases Int.lt_or_le a x.at_ with v | m
 ·
  cases r with
  | none=>
   cases r2 with
   | none=>omega
   | some y=>
    have s:=b y d.1;have l:=d.2.1;rcases j y x d.1 hr.1 with g | g | g
    ·omega
    ·omega
    ·subst g;omega
  | some w=>
   cases r2 with
   | none=>have:=d w b.1;have:=b.2.1;omega
   | some y=>
    by_cases q:y.at_≤a
    ·have s:=b.2.2 y d.1 q;have l:=d.2.2 w b.1 (by have:=b.2.1;omega)
     rcases j w y b.1 d.1 with g | g | g
     ·omega
     ·omega
     ·subst g;omega
    ·have l:=d.2.1;rcases j y x d.1 hr.1 with g | g | g
     ·omega
     ·omega
     ·subst g;omega
 ·
  cases r with
  | none=>have:=b x hr.1;omega
  | some w=>
   have s:=b.2.2 x hr.1 m;have l:=b.2.1;rcases j x w hr.1 b.1 with g | g | g
   ·omega
   ·omega
   ·subst g;have:offO z (some x)=x.off:=rfl;omega
end
theorem ahU{l b:List Int}(m:b.Perm l)(g:b.Pairwise (·≤·))(hd:l.Pairwise (· > ·)):b.Pairwise (· < ·):=by
 have j:l.Nodup:=axl (fun h=>by omega) hd
 have d:b.Nodup:=m.nodup_iff.2 j;exact axl (fun⟨q,s⟩=>by omega) (g.and d)
theorem CS{z:ZD}{o:List bD}(h:ee z o)(g:Tg){lo:Int}(l0:0≤lo)(l1:lo≤460000) :
  ∃(l:List Int) (tg:Tg) (e b:Int),l.length≤2∧l.Pairwise (· < ·)∧(∀ a,a ∈ l↔fD h lo a)∧(-1000000≤e∧e≤1000000∧-1080≤b∧b≤1080)∧Km.Pure tab.get kF [tc z g o,vi lo]=Eq (.t [.c (.f (sl tg (cJ l))),vi e,vi b]):=by
 obtain⟨rr,⟨l,tg,e,b,hl,l_,M,j_,rfl⟩,hp⟩:∃ rr,(∃(l:List Int) (tg:Tg) (e b:Int),l.length≤2∧l.Pairwise (· < ·)∧(∀ a,a ∈ l↔fD h lo a)∧(-1000000≤e∧e≤1000000∧-1080≤b∧b≤1080)∧rr=.t [.c (.f (sl tg (cJ l))),vi e,vi b])∧Km.Pure tab.get kF [tc z g o,vi lo] rr:=by
  refine ca ajB rfl fun Q hQ=>?_
  refine ae ?_;simp;refine ae ?_;simp [wrap64 (n:=lo+1080) (by omega) (by omega)]
  refine ag (av ?_)
  refine bw (fun m s=>∃(t:T) (J:ai) (l:List Int) (c:C) (tm:Int),s=⟨t,[],J⟩∧LR J c 1 (cJ l)∧zz h lo tm l∧ZN h lo m tm l.length∧-2000≤tm∧t.g 0=tc z g o∧t.g 1=vi lo∧t.g 4=.c c∧t.g 7=vi tm) 2
   ⟨_,_,[],_,lo+1080,rfl,LR.nil _ _,⟨by simp,by simp,List.Pairwise.nil,fun a X=>.inr (by have:=rR h X;omega)⟩,.inl ⟨rfl,rfl,rfl⟩,by omega,by simp,by simp,by simp,by simp⟩ ?_
  rintro m s ⟨t,J,l,c,tm,rfl,hL,M,U,m9,A,q,v,B⟩ ih;have m_:tm≤500000:=by rcases U with⟨-,e,-⟩ | ⟨-,e,-⟩ | ⟨-,e,-⟩<;>omega
  have L:l.length≤2:=by rcases U with⟨-,-,e⟩ | ⟨-,-,e,-⟩ | ⟨-,-,e,-⟩<;>omega
  obtain⟨r,hr,b9⟩:=h.last g (t:=tm) (by omega) (by omega)
  obtain⟨r',m4,g_⟩:=yI h g (t:=tm) (by omega) (by omega)
  obtain rfl:=vg h hr m4;have hb:=h.offO hr
  have a_:∀(t:T) (J:ai) (l:List Int) (c:C) (b8:Nat),LR J c 1 (cJ l)→zA h lo r l→ZN h lo m tm 0→(m=2→l.length≤1)→l.length≤2→t.g 0=tc z g o→t.g 1=vi lo→t.g 4=.c c→t.g 7=vi tm→t.g 8=.c (.ptr b8 0 0)→t.g 9=vb r.isSome →
    J[b8]?=some (.box ((r.getD ⟨0,0⟩).row.map .f) 0) →
    WP tab.get kF none [.code nq,.inBlock 1,.inLoop me,.inBlock 0,.code iI] ⟨t,[],J⟩ Q:=by
   clear hL M L A q v B U;intro t J l c b8 hL M U l7 L A q v B I g9 E
   have d5:∀ t:T,(∀ x,r=some x→x.at_<lo-1080)→t.g 4=.c c→WP tab.get kF none [.code iI] ⟨t,[],J⟩ Q:=by
    intro t hd v;obtain⟨H',c9,l',hp,l9,j8,-⟩:=O3 hL L;have j9:=M.done hd;have c9:=c9.eq;refine ae ?_;simp [v,c9];refine ae ?_;simp [v];obtain⟨tg,k_⟩:=j8.ex (uN _) 63;refine aA (hQ _ _ (.t [.c (.f (sl tg (cJ l'))),vi 0,vi 0]) ⟨l',tg,0,0,by rw [hp.length_eq];exact L,ahU hp l9 M.pw,fun a=>⟨fun X=>M.at_ a (hp.subset X),fun X=>hp.symm.subset (j9 a X)⟩,by decide,rfl⟩ ⟨rfl,.t [.c c,vi 0,vi 0],?_,?_⟩)
    ·simp [Km.results,bG,aU]
    ·simp [iN,bX,aU,deep,k_]
   refine ag (ae ?_)
   cases r with
   | none=>
    simp [g9];refine aj (by simp) (aT rfl ?_)
    exact d5 _ (fun x K=>by cases K) (by simp [v])
   | some x=>
    simp [bD.row]at E;have hw:IntKind.i64.wrap (lo-1080)=lo-1080:=wrap64 (by omega) (by omega)
    by_cases K:x.at_<lo-1080
    ·simp [g9,I,q,E,aF,hw,K];refine aj (by simp) (aT rfl ?_)
     exact d5 _ (fun y hy=>by cases hy;exact K) (by simp [v])
    ·simp [g9,I,q,E,aF,hw,K];refine aY (by simp) ?_
     have i_:=hr.2.1;have w1:IntKind.i64.wrap (x.at_-1)=x.at_-1:=wrap64 (by omega) (by omega)
     obtain⟨r2,h_,b_⟩:=yI h g (t:=x.at_-1) (by omega) (by omega)
     have Y:=h.offO h_;have w2:IntKind.i64.wrap (x.at_+offO z r2)=x.at_+offO z r2:=wrap64 (by omega) (by omega)
     have n4:=h.off hr.1;have w3:IntKind.i64.wrap (x.at_+x.off)=x.at_+x.off:=wrap64 (by omega) (by omega)
     have f_:m≠0:=by
      rintro rfl;rcases U with⟨u,-⟩ | ⟨u,-⟩ | ⟨-,-,-,H⟩
      ·cases u
      ·cases u
      ·exact K (H x hr.1 i_)
     refine ag (ae ?_);simp [A,I,E,aF,w1,b_];refine ae ?_
     have next:∀ t:T,t.g 0=tc z g o→t.g 1=vi lo→t.g 4=.c c→t.g 8=.c (.ptr b8 0 0)→WP tab.get kF none [.code xe,.inBlock 1,.inLoop me,.inBlock 0,.code iI] ⟨t,[],J⟩ Q:=by
      intro t A q v I;refine ab (.inl rfl) ?_;simp [I,E,aF,w1];refine al ?_;have a8:=agY h hr;refine ih (m-1) _ (by omega) ⟨_,J,l,c,x.at_-1,rfl,hL,M.next,?_,by omega,by simp [A],by simp [q],by simp [v],by simp⟩
      rcases U with⟨u,F,-⟩ | ⟨u,F,-,H⟩ | ⟨u,-⟩
      ·exact .inr (.inl ⟨by omega,by omega,l7 u,fun y hy Z=>by have:=a8 y hy Z;omega⟩)
      ·have:=H x hr.1 i_;exact .inr (.inr ⟨by omega,by omega,L,fun y hy Z=>by have:=a8 y hy Z;omega⟩)
      ·omega
     by_cases Z:x.at_+offO z r2≤lo
     ·by_cases h2:lo<x.at_+x.off
      ·simp [q,I,E,aF,w2,w3,Z,h2];refine aj (by simp) (ae ?_)
       simp [I,E,aF];refine aA (hQ _ _ (.t [.c (.f (sl .nil (cJ []))),vi x.at_,vi (offO z r2)]) ⟨[],.nil,_,_,by simp,List.Pairwise.nil,fun a=>⟨fun X=>(by cases X),fun X=>absurd X (aaB hr h_ Z h2 a)⟩,⟨by omega,by omega,Y.1,Y.2⟩,rfl⟩ ⟨rfl,.t [.c (.f .ay),vi x.at_,vi (offO z r2)],?_,?_⟩)
       ·simp [Km.results,bG,aU]
       ·simp [iN,bX,aU,sl,Tg.fc]
      ·simp [q,I,E,aF,w2,w3,Z,h2];refine aY (by simp) ?_
       exact next _ (by simp [A]) (by simp [q]) (by simp [v]) (by simp [I])
     ·simp [q,w2,I,E,aF,Z];refine aY (by simp) ?_
      exact next _ (by simp [A]) (by simp [q]) (by simp [v]) (by simp [I])
  refine av (ae ?_);simp [A,B,b9,bD.row];obtain⟨S,b7⟩:∃ S:ai,S=J++[.box [.f (fi (r.getD ⟨0,0⟩).at_),.f (fi (r.getD ⟨0,0⟩).off)] 0]:=⟨_,rfl⟩;rw [←b7];have E:S[J.length]?=some (.box [.f (fi (r.getD ⟨0,0⟩).at_),.f (fi (r.getD ⟨0,0⟩).off)] 0):=by rw [b7];simp
  have d7:LR S c 1 (cJ l):=by rw [b7];exact hL.push _
  refine ae ?_;simp [A,B,g_];refine ag (ae ?_);simp [q,wrap64 (n:=lo-offO z r) (by omega) (by omega)]
  have d6:ZN h lo m tm 0:=by
   rcases U with⟨u,F,-⟩ | ⟨u,F,-,H⟩ | ⟨u,F,-,H⟩
   ·exact .inl ⟨u,F,rfl⟩
   ·exact .inr (.inl ⟨u,F,by omega,H⟩)
   ·exact .inr (.inr ⟨u,F,by omega,H⟩)
  obtain⟨j,N⟩:∃ a,a=lo-offO z r:=⟨_,rfl⟩;rw [←N]
  have f_:j≤tm→m=2∧l.length=0∨m=1∧l.length≤1:=by
   intro d;rcases U with⟨u,F,H⟩ | ⟨u,F,e4,H⟩ | ⟨u,F,-,H⟩<;>omega
  have c_:∀ t:T,j≤tm→zA h lo r (l++[j])→t.g 0=tc z g o→t.g 1=vi lo→t.g 4=.c c→t.g 7=vi tm→t.g 8=.c (.ptr J.length 0 0)→t.g 9=vb r.isSome→t.g 11=vi j →
    WP tab.get kF none [.code xd,.code nq,.inBlock 1,.inLoop me,.inBlock 0,.code iI] ⟨t,[],S⟩ Q:=by
   intro t d e_ A q v B I g9 j4;obtain⟨J2,W⟩:∃ J2:ai,J2=S++[.box ([fi j].map .f) 0]:=⟨_,rfl⟩;have d8:LR J2 c 1 (cJ l):=by rw [W];exact d7.push _
   have Y:J2[S.length]?=some (.box ([fi j].map .f) 0):=by rw [W];simp
   have j3:J2[J.length]?=some (.box [.f (fi (r.getD ⟨0,0⟩).at_),.f (fi (r.getD ⟨0,0⟩).off)] 0):=by rw [W,AT (ak E)];exact E
   obtain⟨c3,J3,d_,d9,j7,m7⟩:=d8.app (uN l) (by decide) (row:=[fi j]) rfl (bytes:=8) (cd (by simp;omega) (by decide)) Y
   have m5:=j7.2 _ _ j3 (d8.cB j3);have hm:=f_ d;refine ab (.inl rfl) ?_;have F:S++[.box [.f (fi j)] 0]=J2:=W.symm;simp [v,j4];rw [F];simp [d_];have H:cJ l++[[fi j]]=cJ (l++[j]):=by simp
   rw [H]at d9;refine a_ _ J3 (l++[j]) c3 J.length d9 e_ d6 (fun e=>by rw [avR,awH];omega) (by rw [avR,awH];omega) (by simp [A]) (by simp [q]) (by simp) (by simp [B]) (by simp [I]) (by simp [g9]) (by simpa [bD.row]using m5)
  have O:∀ t:T,zA h lo r l→t.g 0=tc z g o→t.g 1=vi lo→t.g 4=.c c→t.g 7=vi tm→t.g 8=.c (.ptr J.length 0 0)→t.g 9=vb r.isSome →
    WP tab.get kF none [.code nq,.inBlock 1,.inLoop me,.inBlock 0,.code iI] ⟨t,[],S⟩ Q:=by
   intro t hR A q v B I g9;exact a_ _ S l c J.length d7 hR d6 (by rcases U with⟨u,F,H⟩ | ⟨u,F,e4,H⟩ | ⟨u,F,-,H⟩<;>omega) L A q v B I g9 (by simpa [bD.row]using E)
  refine ae ?_;by_cases d:j≤tm
  ·cases r with
   | none=>
    simp [B,d];refine aj (by simp) ?_
    exact c_ _ d (by rw [N]at d ⊢;exact M.app hr (C8 h hr (by omega)) d (fun x K=>by cases K)) (by simp [A]) (by simp [q]) (by simp [v]) (by simp [B]) (by simp) (by simp) (by simp)
   | some x=>
    simp at E;by_cases K:x.at_≤j
    ·simp [B,d,E,aF,K];refine aj (by simp) ?_
     exact c_ _ d (by rw [N]at d K ⊢;exact M.app hr (C9 h hr (by omega) (by omega)) d (fun y hy=>by cases hy;exact K)) (by simp [A]) (by simp [q]) (by simp [v]) (by simp [B]) (by simp) (by simp) (by simp)
    ·simp [B,d,E,aF,K];refine aY (by simp) ?_
     exact O _ (M.no hr fun k=>K (by rw [N];exact k.2 x rfl)) (by simp [A]) (by simp [q]) (by simp [v]) (by simp [B]) (by simp) (by simp)
  ·simp [B,d];refine aY (by simp) ?_
   exact O _ (M.no hr fun k=>d (by rw [N];exact k.1)) (by simp [A]) (by simp [q]) (by simp [v]) (by simp [B]) (by simp) (by simp)
 exact⟨l,tg,e,b,hl,l_,M,j_,hp.eq⟩
end
section
theorem mZ:Km.Pure tab.get ZA []=Eq (.a [.f (.fn zw []),.f (.fn zx []),.f (.fn zy [])]):=Km.Pure.eq (aI (m:=40) (d:=10) (by kernel_rfl))
theorem ah0(a b c:V)(H:ai):Ev tab.get (.fn zw) [a,b,c] H (.c (.f .ay)) H:=by
 obtain⟨r,d,j,rfl,rfl⟩:∃ r d,Ev tab.get (.fn zw) [a,b,c] H r d∧r=.c (.f .ay)∧d=H:=by
  refine da ajH rfl fun Q g=>?_
  refine ae ?_;simp;refine ae ?_;simp;exact aA (g _ _ _ rfl (iF (by simp)) ⟨rfl,rfl⟩)
 exact j
theorem abZ{a c:Int}(l:IntKind.i64.wrap (a-c)=a-c)(b:V)(H:ai):Ev tab.get (.fn zx) [vi a,b,vi c] H (.c (.sl H.length 0 1 1 0 1)) (H++[.box [.f (fi (a-c))] 0]):=by
 obtain⟨r,d,j,rfl,rfl⟩:∃ r d,Ev tab.get (.fn zx) [vi a,b,vi c] H r d∧r=.c (.sl H.length 0 1 1 0 1)∧d=H++[.box [.f (fi (a-c))] 0]:=by
  refine da ajI rfl fun Q g=>?_
  refine ae ?_;simp;refine ae ?_;simp [l];exact aA (g _ _ _ rfl (iF (by simp)) ⟨rfl,rfl⟩)
 exact j
theorem af5(a c:V)(b:Int)(H:ai):Ev tab.get (.fn zy) [a,vi b,c] H (.c (.sl H.length 0 1 1 0 1)) (H++[.box [.f (fi b)] 0]):=by
 obtain⟨r,d,j,rfl,rfl⟩:∃ r d,Ev tab.get (.fn zy) [a,vi b,c] H r d∧r=.c (.sl H.length 0 1 1 0 1)∧d=H++[.box [.f (fi b)] 0]:=by
  refine da ajJ rfl fun Q g=>?_
  refine ae ?_;simp;refine ae ?_;simp;exact aA (g _ _ _ rfl (iF (by simp)) ⟨rfl,rfl⟩)
 exact j
theorem iw{z:ZD}{o:List bD}(h:ee z o){lo:Int}(l0:0≤lo)(l1:lo≤460000) :
  ∃(l:List Int) (e b:Int),l.length≤2∧l.Pairwise (· < ·)∧(∀ a,a ∈ l↔fD h lo a)∧(-1000000≤e∧e≤1000000∧-1080≤b∧b≤1080) ∧
   ∀ c5 fold:Int,0≤c5→c5≤2→0≤fold→fold≤2→∃ tg:Tg,Km.Pure tab.get oe [z.v,vi lo,vi c5,vi fold]=Eq (.t [.c (.f (sl tg (cJ (jP c5 fold lo l e b)))),vi 0]):=by
 obtain⟨g,O⟩:=Ii h;obtain⟨l,tg,e,b,N,S,hA,K,M⟩:=CS h g l0 l1;have hc:=h.c;refine⟨l,e,b,N,S,hA,K,fun c5 fold a8 a_ Y Z=>?_⟩
 obtain⟨W,⟨d,rfl⟩,hp⟩:∃ W,(∃ d:Tg,W=.t [.c (.f (sl d (cJ (jP c5 fold lo l e b)))),vi 0])∧Km.Pure tab.get oe [z.v,vi lo,vi c5,vi fold] W:=by
  refine ca ajx rfl fun Q hQ=>?_
  refine ae ?_;simp;obtain⟨H0,v⟩:∃ H0:ai,H0=[.box (z.row.map .f) 0]:=⟨_,rfl⟩;rw [←v];have z0:H0[0]?=some (.box (z.row.map .f) 0):=by rw [v];rfl
  have b7:H0.length=1:=by rw [v];rfl
  clear v;refine ae ?_;simp [eC z0 hc,-an,O];refine ag (ae ?_);simp [zc (n:=lo) (m:=2251799813684168) (by decide) (by decide) (by omega) (by omega),show¬ c5<0 by omega,show¬ 2<c5 by omega,show¬ fold<0 by omega,show¬ 2<fold by omega]
  refine aY (by simp) ?_
  refine ae ?_;simp [M]
  have j:∀(t:T) (J:ai) (c:C) (d:Tg),t.g 12=.c c→cW deep J c=some (sl d (cJ (jP c5 fold lo l e b)))→WP tab.get oe none [.inBlock 0,.code xc] ⟨t,[],J⟩ Q:=by
   intro t J c d I L;refine al (ae ?_);simp [I];refine aA (hQ _ _ _ ⟨d,rfl⟩ ⟨rfl,.t [.c c,vi 0],?_,?_⟩)
   ·simp [Km.results,bG,aU]
   ·simp [iN,bX,aU,L]
  refine ag (av (ae ?_));by_cases u:l=[]
  ·subst u;have s:bA H0 (.f (sl tg (cJ [])))=some 0:=by simpa using rO (H:=H0) tg (cJ [])
   simp at s;simp [s];refine aj (by simp) (ab (.inl rfl) ?_)
   have hg:c5=0∨c5=1∨c5=2:=by omega
   rcases hg with rfl | rfl | rfl
   ·have q:=(ah0 (vi lo) (vi e) (vi b) H0).eq;simp [mZ,lR,dk,aF,bP,q];exact j _ _ (.f .ay) .nil (by simp) (by simp [jP,sl,Tg.fc])
   ·have q:=(abZ (a:=lo) (c:=b) (wrap64 (by omega) (by omega)) (vi e) H0).eq
    simp [mZ,lR,dk,aF,bP,q];exact j _ _ (.sl H0.length 0 1 1 0 1) .fs (by simp) (by simp [jP,sl,deep,iV])
   ·have q:=(af5 (vi lo) (vi b) e H0).eq;simp [mZ,lR,dk,aF,bP,q];exact j _ _ (.sl H0.length 0 1 1 0 1) .fs (by simp) (by simp [jP,sl,deep,iV])
  ·have X:0<l.length:=aww.2 u;have s:bA H0 (.f (sl tg (cJ l)))=some l.length:=by simpa using rO (H:=H0) tg (cJ l)
   have A:sl tg (cJ l)=.fs (cJ l).flatten l.length:=by
    have:¬ (cJ l).isEmpty=true:=by simpa using u
    unfold sl;rw [if_neg this];simp
   simp [s,u];refine ah (by simp) ?_
   refine ae ?_;by_cases E:fold=0
   ·subst E;simp;refine aj (by simp) (ab (.inl rfl) ?_)
    have U:eY H0 1 (.c (.f (.fs (cJ l).flatten l.length))) none (some (vi 1)) none=some (.c (.f (sl .fs (cJ (l.take 1))))):=by
     rcases l with _ | ⟨x,_ | ⟨y,_ | ⟨w,l⟩⟩⟩
     ·exact absurd rfl u
     ·rfl
     ·rfl
     ·simp at N
    simp [A,U];exact j _ _ (.f (sl .fs (cJ (l.take 1)))) .fs (by simp) (by simp [jP,u])
   simp [E];refine ah (by simp) ?_
   refine ae ?_;by_cases F:fold=1
   ·subst F;simp;refine aj (by simp) (ab (.inl rfl) ?_)
    have U:eY H0 1 (.c (.f (.fs (cJ l).flatten l.length))) (some (vi ((l.length:Int)-1))) none none=some (.c (.f (sl .fs (cJ (l.drop (l.length-1)))))):=by
     rcases l with _ | ⟨x,_ | ⟨y,_ | ⟨w,l⟩⟩⟩
     ·exact absurd rfl u
     ·rfl
     ·rfl
     ·simp at N
    have B:bA H0 (.f (.fs (cJ l).flatten l.length))=some l.length:=A▸s;simp [A,B,wrap64 (n:=(l.length:Int)-1) (by omega) (by omega),U]
    exact j _ _ (.f (sl .fs (cJ (l.drop (l.length-1))))) .fs (by simp) (by simp [jP,u])
   simp [F];refine aY (by simp) ?_
   exact j _ _ (.f (sl tg (cJ l))) tg (by simp) (by simp [jP,u,E,F])
 exact⟨d,hp.eq⟩
end
section
section
variable{z:ZD}{o:List bD}
noncomputable def CP (h:ee z o) (lo c5 fold:Int):List Int:=
 if b:0≤lo∧lo≤460000 then
  jP c5 fold lo (Classical.choose (iw h b.1 b.2)) (Classical.choose (Classical.choose_spec (iw h b.1 b.2))) (Classical.choose (Classical.choose_spec (Classical.choose_spec (iw h b.1 b.2))))
 else []
structure asP(h:ee z o)(lo:Int)(l:List Int)(e b:Int):Prop where
 len:l.length≤2
 pw:l.Pairwise (· < ·)
 mem:∀ a,a ∈ l↔fD h lo a
 bd:-1000000≤e∧e≤1000000∧-1080≤b∧b≤1080
 run:∀ c5 fold:Int,0≤c5→c5≤2→0≤fold→fold≤2→∃ tg:Tg,Km.Pure tab.get oe [z.v,vi lo,vi c5,vi fold]=Eq (.t [.c (.f (sl tg (cJ (jP c5 fold lo l e b)))),vi 0])
 ins:∀ c5 fold:Int,CP h lo c5 fold=jP c5 fold lo l e b
theorem agy(h:ee z o){lo:Int}(g:0≤lo)(j:lo≤460000):∃ l e b,asP h lo l e b:=by
 have d:=Classical.choose_spec (Classical.choose_spec (Classical.choose_spec (iw h g j)));exact⟨_,_,_,d.1,d.2.1,d.2.2.1,d.2.2.2.1,d.2.2.2.2,fun c5 fold=>by unfold CP;rw [dif_pos ⟨g,j⟩]⟩
theorem agB(h:ee z o){lo:Int}(q:0≤lo)(s:lo≤460000){c5 fold:Int}(j:0≤c5)(m:c5≤2)(d:0≤fold)(g:fold≤2) :
  ∃ tg:Tg,Km.Pure tab.get oe [z.v,vi lo,vi c5,vi fold]=Eq (.t [.c (.f (sl tg (cJ (CP h lo c5 fold)))),vi 0]):=by
 obtain⟨l,e,b,k⟩:=agy h q s;rw [k.ins];exact k.run c5 fold j m d g
theorem xZ(h:ee z o){lo:Int}(m:0≤lo)(q:lo≤460000){c5 fold:Int}(g:0≤fold)(j:fold≤2):(CP h lo c5 fold).length≤2:=by
 obtain⟨l,e,b,k⟩:=agy h m q;have s:=k.len;rw [k.ins];by_cases d:l=[]
 ·subst d;rw [OS];split<;>decide
 ·rw [abG d ⟨g,j⟩];split<;>omega
theorem agA(h:ee z o){lo:Int}(d:0≤lo)(g:lo≤460000){c5 fold:Int}:(CP h lo c5 fold).Pairwise (· < ·):=by
 obtain⟨l,e,b,k⟩:=agy h d g;rw [k.ins];exact ahP k.pw
theorem agz(h:ee z o){lo:Int}(j:0≤lo)(m:lo≤460000){c5 fold:Int}:∀ a ∈ CP h lo c5 fold,-1000000≤a∧a≤1000000:=by
 intro a d;obtain⟨l,e,b,k⟩:=agy h j m;have q:=k.bd;rw [k.ins]at d;by_cases g:l=[]
 ·subst g;unfold jP at d;rw [if_pos rfl]at d;split at d
  ·cases d
  ·split at d<;>simp at d<;>omega
 ·have:=rR h ((k.mem a).1 (abH g d));omega
end
noncomputable def C' {z:ZD} {o:List bD} (h:ee z o) (s:bH) (d:Int):List fe:=
 if s.dropped d=true then []else(CP h (s.at_ d) s.c5 s.fold).map fun a=>⟨d,a,a+s.CW d⟩
end
section
def fH(a b:fe):Prop:=a.fr<b.fr∨a.fr=b.fr∧(a.day<b.day∨a.day=b.day∧a.to<b.to)
instance(a b:fe):Decidable (fH a b):=by unfold fH;exact inferInstance
def jG(a b:fe):Prop:=¬ fH b a
theorem fH.le{a b:fe}(h:fH a b):jG a b:=by unfold jG fH at *;omega
theorem jG.trans{a b c:fe}(h:jG a b)(k:jG b c):jG a c:=by unfold jG fH at *;omega
theorem jG.ne{a b:fe}(h:jG a b)(k:a≠b):fH a b:=by
 obtain⟨d,f,t⟩:=a;obtain⟨g,q,s⟩:=b;unfold jG fH at *;have:¬ (d=g∧f=q∧t=s):=fun⟨j,l,m⟩=>k (by rw [j,l,m])
 simp only at *;omega
def Nt(t:fe)(l o:List fe):Prop:=∃ A B,l=A++B∧o=A++t::B∧(∀ x ∈ B,fH t x)∧∀ x,A.getLast?=some x→¬ fH t x
theorem Nt.perm{t:fe}{l o:List fe}(h:Nt t l o):o.Perm (l++[t]):=by
 obtain⟨A,B,rfl,rfl,-,-⟩:=h;exact List.perm_middle.trans (List.perm_append_singleton t (A++B)).symm
theorem Nt.sorted{t:fe}{l o:List fe}(h:Nt t l o)(s:l.Pairwise jG):o.Pairwise jG:=by
 obtain⟨A,B,rfl,rfl,E,y⟩:=h;rw [awA]at s ⊢;obtain⟨m,v,x⟩:=s
 have q:∀ a ∈ A,jG a t:=by
  intro a d
  cases j:A.getLast? with
  | none=>simp at j;subst j;cases d
  | some z=>
   have u:=y z j;obtain⟨F,e⟩:=List.getLast?_eq_some_iff.1 j;rw [e,awA]at m;rw [e]at d;rcases av1.1 d with d | d
   ·exact jG.trans (m.2.2 a d z (by simp)) u
   ·have:a=z:=by simpa using d
    rw [this];exact u
 refine⟨m,aws.2 ⟨fun b g=>(E b g).le,v⟩,fun a d b g=>?_⟩
 rcases awf.1 g with rfl | g
 ·exact q a d
 ·exact x a d b g
theorem HW:∀ {a b:List fe},a.Pairwise fH→b.Pairwise jG→b.Perm a→b=a
 | [],b,_,_,h=>h.eq_nil
 | x::a,[],_,_,h=>by cases h.symm.eq_nil
 | x::a,y::b,d,g,h=>by
  rw [aws]at d g
  have l:y=x:=by
   have m:y ∈ x::a:=h.subset (avQ ..);have j:x ∈ y::b:=h.symm.subset (avQ ..);rcases awf.1 m with e | m
   ·exact e
   ·rcases awf.1 j with e | j
    ·exact e.symm
    ·exact absurd (d.1 y m) (g.1 x j)
  subst l;rw [HW d.2 g.2 (h.cons_inv)]
theorem yh:∀ {a:List fe},a.Pairwise jG→a.Nodup→a.Pairwise fH
 | [],_,_=>List.Pairwise.nil
 | x::a,b,d=>by
  rw [aws]at b;rw [List.nodup_cons]at d;exact aws.2 ⟨fun y g=>(b.1 y g).ne fun e=>d.1 (e▸g),yh b.2 d.2⟩
noncomputable def gE {z:ZD} {o:List bD} (h:ee z o) (s:bH) (p:Int→Bool) (fr:Int):Nat→List fe
 | 0=>[]
 | n+1=>gE h s p fr n++if p (fr+n)=true then C' h s (fr+n)else []
theorem Ih{z:ZD}{o:List bD}{h:ee z o}{s:bH}{d:Int}{x:fe}(b:x ∈ C' h s d):x.day=d:=by
 unfold C' at b;split at b
 ·cases b
 ·obtain⟨a,-,rfl⟩:=av9.1 b;rfl
theorem Oz{z:ZD}{o:List bD}{h:ee z o}{s:bH}{d:Int}(g:0≤s.at_ d)(j:s.at_ d≤460000):(C' h s d).Nodup:=by
 unfold C';split
 ·exact List.nodup_nil
 ·have:=agA h g j (c5:=s.c5) (fold:=s.fold);rw [List.Nodup,List.pairwise_map];refine axl (fun {a b} l e=>?_) this
  have:=congrArg fe.fr e;simp only at this;omega
theorem At{z:ZD}{o:List bD}{h:ee z o}{s:bH}{d:Int}(b:0≤s.fold∧s.fold≤2)(g:0≤s.at_ d)(j:s.at_ d≤460000):(C' h s d).length≤2:=by
 unfold C';split
 ·decide
 ·rw [av7];exact xZ h g j b.1 b.2
theorem vt{z:ZD}{o:List bD}{h:ee z o}{s:bH}{p:Int→Bool}{fr:Int}{x:fe}:∀ {n:Nat},x ∈ gE h s p fr n↔∃ k<n,p (fr+k)=true∧x ∈ C' h s (fr+k)
 | 0=>by simp [gE]
 | n+1=>by
  rw [gE,av1,vt (n:=n)];constructor
  ·rintro(⟨k,g,b⟩ | b)
   ·exact⟨k,by omega,b⟩
   ·split at b
    ·exact⟨n,by omega,by assumption,b⟩
    ·cases b
  ·rintro⟨k,g,b⟩;rcases Nat.lt_or_eq_of_le (show k≤n by omega)with d | d
   ·exact .inl ⟨k,d,b⟩
   ·subst d;refine .inr ?_;rw [if_pos b.1];exact b.2
theorem vw{z:ZD}{o:List bD}{h:ee z o}{s:bH}{p:Int→Bool}{fr:Int}:∀ {n:Nat},(∀ k:Nat,k<n→0≤s.at_ (fr+k)∧s.at_ (fr+k)≤460000)→(gE h s p fr n).Nodup
 | 0,_=>List.nodup_nil
 | n+1,b=>by
  rw [gE,List.nodup_append];refine⟨vw fun k j=>b k (by omega),?_,?_⟩
  ·split
   ·exact Oz (b n (by omega)).1 (b n (by omega)).2
   ·exact List.nodup_nil
  ·intro x l y d e;subst e;obtain⟨k,j,-,g⟩:=vt.1 l;split at d
   ·have m:=Ih g;have q:=Ih d;omega
   ·cases d
theorem km{z:ZD}{o:List bD}{h:ee z o}{s:bH}{p:Int→Bool}{fr:Int}(g:0≤s.fold∧s.fold≤2):∀ {n:Nat},(∀ k:Nat,k<n→0≤s.at_ (fr+k)∧s.at_ (fr+k)≤460000)→(gE h s p fr n).length≤2*n
 | 0,_=>by simp [gE]
 | n+1,b=>by
  rw [gE,avR];have:=km (h:=h) (s:=s) (p:=p) (fr:=fr) g (n:=n) fun k j=>b k (by omega)
  split
  ·have:=At (h:=h) (s:=s) (d:=fr+n) g (b n (by omega)).1 (b n (by omega)).2;omega
  ·simp;omega
theorem Dn{z:ZD}{o:List bD}{h:ee z o}{s:bH}{p:Int→Bool}{fr:Int}{n:Nat}:∀ {m:Nat},gE h s p fr (n+m)=gE h s p fr n++gE h s p (fr+n) m
 | 0=>by simp [gE]
 | m+1=>by
  rw [←Nat.add_assoc,gE,Dn (m:=m),gE,awh]
  congr 2
  rw [show fr+((n+m:Nat):Int)=fr+n+m by omega]
end
section
theorem C4{l:List bj}(h:pg l){j:Nat}(b:j<l.length)(d:Int):dO (l.take (j+1)) d=if l[j].day=d then some l[j]else dO (l.take j) d:=by
 unfold dO;rw [avN b,List.find?_append];by_cases hd:l[j].day=d
 ·rw [if_pos hd]
  have:(l.take j).find? (fun x=>decide (x.day=d))=none:=by
   rw [aw2];intro x g;obtain⟨i,hi,rfl⟩:=avT g;simp at hi;rw [List.getElem_take];have:=avX.1 h i j (by omega) b (by omega)
   simp;omega
  rw [this];simp [hd]
 ·rw [if_neg hd];simp [hd]
theorem C3{l:List bj}(h:pg l){j:Nat}(b:j<l.length){d:Int}(hd:l[j].day=d):dO l d=some l[j]:=by
 unfold dO
 have key:∀(i:Nat),i≤l.length→j<i→(l.take i).find? (fun x=>decide (x.day=d))=some l[j]:=by
  intro i
  induction i with
  | zero=>intro _ h;omega
  | succ i q=>
   intro hi g;have:=C4 h (j:=i) (by omega) d
   unfold dO at this;rw [this];by_cases e:j=i
   ·subst e;rw [if_pos hd]
   ·have m:=avX.1 h j i b (by omega) (by omega)
    rw [if_neg (by omega)]
    exact q (by omega) (by omega)
 have:=key l.length (aft _) b
 rwa [awc]at this
theorem C2{l:List bj}{d:Int}(h:∀ j (b:j<l.length),l[j].day≠d):dO l d=none:=by
 unfold dO;rw [aw2];intro x g;obtain⟨j,b,rfl⟩:=avT g;have:=h j b;simp [this]
theorem uY{l:List bj}{d:Int}{m:bj}(h:dO l d=some m):m ∈ l∧m.day=d:=by
 unfold dO at h;exact⟨List.mem_of_find?_eq_some h,by simpa using List.find?_some h⟩
def atO(s:bH)(d:Int):Option bj→Int
 | none=>d*1440+s.mi
 | some m=>m.to*1440+m.mi
def loO(s:bH):Option bj→Int
 | none=>s.le
 | some m=>m.le
def drO:Option bj→Bool
 | none=>false
 | some m=>m.drop
theorem ajX(s:bH)(d:Int):s.at_ d=atO s d (dO s.mv d):=by unfold bH.at_ atO;split<;>rename_i h<;>rw [h]
theorem Gb(s:bH)(d:Int):s.CW d=loO s (dO s.mv d):=by unfold bH.CW loO;split<;>rename_i h<;>rw [h]
theorem zT(s:bH)(d:Int):s.dropped d=drO (dO s.mv d):=by unfold bH.dropped drO;split<;>rename_i h<;>rw [h]
structure bH.oq(s:bH):Prop where
 ok:s.OK
 ml:s.mv.length≤4
 zo:s.zo=⟨#[122]⟩
 rl:s.ru.length≤15
 le:s.le≤2880
 mo:∀ m ∈ s.mv,m.day≤39∧m.to≤39∧m.mi≤1275∧m.le≤256
theorem bH.oq.at_{s:bH}(h:s.oq){d:Int}(q:0≤d)(u:d≤300):0≤s.at_ d∧s.at_ d≤460000:=by
 rw [ajX];have l:=h.ok.mi
 cases j:dO s.mv d with
 | none=>simp only [atO];omega
 | some m=>
  have b:=(uY j).1;have v:=h.mo m b;have g:=h.ok.mo m b;simp only [atO]
  cases hd:m.drop with
  | true=>have:=g.dr hd;omega
  | false=>have:=g.nd hd;omega
theorem bH.oq.CW{s:bH}(h:s.oq)(d:Int)(hd:s.dropped d=false):1≤s.CW d∧s.CW d≤2880:=by
 rw [Gb];rw [zT]at hd
 cases g:dO s.mv d with
 | none=>simp only [loO];have:=h.ok.le;have:=h.le;omega
 | some m=>
  have b:=(uY g).1;have l:=h.mo m b;have j:=h.ok.mo m b;rw [g]at hd;have:=j.nd hd;simp only [loO];omega
end
section
structure M5 where
 a:Nat
 b:Nat
 c:Nat
 d:Nat
 e:Nat
def M5.row(x:M5):List FC:=[u8 x.a,u8 x.b,u8 x.c,u8 x.d,u8 x.e]
structure M5.OK(x:M5):Prop where
 a:x.a<256
 b:x.b<256
 c:x.c<256
 d:x.d<256
 e:x.e<256
theorem On{x:M5}(F:x.OK):∃ m:bj,m.OK∧(m.day≤39∧m.to≤39∧m.mi≤1275∧m.le≤256)∧Km.Pure tab.get Hn [.a (x.row.map .f)]=Eq (.a (m.row.map .f)):=by
 obtain⟨g,⟨m,u,v,rfl⟩,E⟩:∃ g,(∃ m:bj,m.OK∧(m.day≤39∧m.to≤39∧m.mi≤1275∧m.le≤256)∧g=.a (m.row.map .f))∧Km.Pure tab.get Hn [.a (x.row.map .f)] g:=by
  obtain⟨a,b,c,d,e⟩:=x;obtain⟨y,z,A,hd,B⟩:=F;simp only at y z A hd B;obtain⟨p,p1,s⟩:=fv a (m:=40) (by decide)
  obtain⟨q,L,I⟩:=fv b (m:=40) (by decide)
  obtain⟨r,r1,r2⟩:=fv e (m:=4) (by decide)
  have K:IntKind.i64.wrap ((c:Int)*5)=(c:Int)*5:=wrap64 (by omega) (by omega)
  have J:IntKind.i64.wrap (1+(d:Int))=1+d:=wrap64 (by omega) (by omega)
  have i0:∀ H,aG H 1 (some 5) (.c (.ptr 0 0 0)) (vi 0)=some (.c (.ptr 0 0 0)):=fun _=>rfl
  have i1:∀ H,aG H 1 (some 5) (.c (.ptr 0 0 0)) (vi 1)=some (.c (.ptr 0 1 0)):=fun _=>rfl
  have i2:∀ H,aG H 1 (some 5) (.c (.ptr 0 0 0)) (vi 2)=some (.c (.ptr 0 2 0)):=fun _=>rfl
  have i3:∀ H,aG H 1 (some 5) (.c (.ptr 0 0 0)) (vi 3)=some (.c (.ptr 0 3 0)):=fun _=>rfl
  have i4:∀ H,aG H 1 (some 5) (.c (.ptr 0 0 0)) (vi 4)=some (.c (.ptr 0 4 0)):=fun _=>rfl
  refine ca an3 rfl fun Q l=>?_
  refine ae ?_;simp [M5.row];refine ag (ae ?_);simp [i4,r2];by_cases j:r=0
  ·refine aj (by simp [j]) (ae ?_)
   simp [i0,s,lI p (by omega)]
   refine aA (l _ _ _ ⟨⟨p,true,0,0,0⟩,⟨by dsimp only;omega,fun _=>⟨rfl,rfl,rfl⟩,fun h=>by cases h⟩,by dsimp only;omega,rfl⟩ ?_)
   simp [bj.row,iN,bX,aU]
  ·refine ah (by simp [j]) (aB (ae ?_))
   simp [i0,i1,i2,i3,s,I,lI p (by omega),lI q (by omega),lI c (by omega),lI d (by omega),K,J]
   refine aA (l _ _ _ ⟨⟨p,false,q,(c:Int)*5,1+d⟩,⟨(by dsimp only;omega),fun h=>(by cases h),fun _=>(by dsimp only;omega)⟩,by dsimp only;omega,rfl⟩ ?_)
   simp [bj.row,iN,bX,aU]
 exact⟨m,u,v,E.eq⟩
def fS(l:List M5):List (List FC):=l.map M5.row
@[simp] theorem akN (l:List M5):(fS l).length=l.length:=by simp [fS]
theorem CZ(l:List M5):bC 5 (fS l):=bC.map fun _=>rfl
theorem Oe{l:List M5}{j:Nat}(b:j<l.length):(fS l)[j]?=some l[j].row:=by simp [fS,b]
theorem akw{H:ai}{g:Tg}{l:List M5}{j:Nat}(b:j<l.length)(_:l.length≤9223372036854775807):aG H 5 none (.c (.f (sl g (fS l)))) (vi j)=some (.c (.f (.fp (fS l).flatten (j*5)))):=by
 have:=cT (H:=H) (g:=g) (rows:=fS l) (sz:=5) (k:=.i64) (i:=(j:Int)) (by omega) (by simp;omega)
 simpa using this
theorem apr{H:ai}{l:List M5}{j:Nat}(b:j<l.length):aQ H (some 5) (.c (.f (.fp (fS l).flatten (j*5))))=some (.a (l[j].row.map .f)):=by
 have:=fk (H:=H) (rows:=fS l) (j:=j) (sz:=5) (row:=l[j].row) (CZ l) (Oe b);simpa using this
structure rA where
 ng:Tg
 no:List jW
 mi:Nat
 le:Nat
 c5:Nat
 fold:Nat
 mg:Tg
 mv:List M5
abbrev u16(n:Nat):FC:=.int .u16 n
def rA.row(x:rA):List FC:=[sl x.ng (dX x.no),u16 x.mi,u16 x.le,u8 x.c5,u8 x.fold,sl x.mg (fS x.mv)]
structure rA.OK(x:rA):Prop where
 nl:x.no.length≤9223372036854775807
 no:∀ n ∈ x.no,n.OK
 mi:x.mi<65536
 le:x.le<65536
 c5:x.c5<256
 fold:x.fold<256
 ml:x.mv.length≤9223372036854775807
 mv:∀ m ∈ x.mv,m.OK
theorem DN(n:Nat){m:Int}(d:0<m):∃ a:Nat,(a:Int)<m∧bJ .rem (.c (.f (.int .u16 n))) (.c (.f (.int .u16 m)))=some (.c (.f (.int .u16 a))):=by
 have b:=Int.emod_nonneg (n:Int) (show m≠0 by omega)
 have g:=Int.emod_lt_of_pos (n:Int) d;refine⟨((n:Int) % m).toNat,by omega,?_⟩
 rw [ns (by omega),Int.tmod_eq_emod_of_nonneg (by omega),awL b]
theorem bH.Eqv.as3{a b:bH}(h:bH.Eqv a b)(k:b.oq):a.oq:=by
 have d:a.ru.length=b.ru.length:=by have:=congrArg List.length h.ru;simpa using this
 refine⟨⟨by rw [h.ru];exact k.ok.ru,by rw [d];exact k.ok.rl,by rw [h.mi];exact k.ok.mi,by rw [h.le];exact k.ok.le,by rw [h.zo];exact k.ok.zo,by rw [h.c5];exact k.ok.c5,by rw [h.fold];exact k.ok.fold,by rw [h.mv];exact k.ok.ml,by rw [h.mv];exact k.ok.ms,by rw [h.mv];exact k.ok.mo⟩,by rw [h.mv];exact k.ml,by rw [h.zo];exact k.zo,by rw [d];exact k.rl,by rw [h.le];exact k.le,by rw [h.mv];exact k.mo⟩
set_option maxHeartbeats 1000000 in
theorem Oj{cals:Nat}(hc:cals=0∨cals=2){x:rA}(E:x.OK) :
  ∃ s:bH,s.oq∧Km.Pure tab.get Hm [.a (x.row.map .f),vi cals]=Eq s.v:=by
 obtain⟨rr,⟨s,h1,rfl⟩,hp⟩:∃ rr,(∃ s:bH,s.oq∧rr=s.v)∧Km.Pure tab.get Hm [.a (x.row.map .f),vi cals] rr:=by
  obtain⟨r,hr,d7,O⟩:=aa1 hc x.ng x.no E.nl E.no;have j4:=E.mi;have j3:=E.le;have i_:=E.c5;have h_:=E.fold;obtain⟨p,p1,rp⟩:=DN x.mi (m:=1440) (by decide)
  obtain⟨q,q1,rq⟩:=DN x.le (m:=2880) (by decide)
  obtain⟨ga,e_,d9⟩:=fv x.c5 (m:=3) (by decide)
  obtain⟨fo,d_,d8⟩:=fv x.fold (m:=3) (by decide)
  have w1:IntKind.i64.wrap (1+(q:Int))=1+q:=wrap64 (by omega) (by omega)
  refine ca an2 rfl fun Q hQ=>?_
  refine ae ?_;simp [rA.row];refine ae ?_;simp [O,rp,rq,d9,d8,lI p (by omega),lI q (by omega),lI ga (by omega),lI fo (by omega),w1]
  obtain⟨Z,I⟩:∃ Z:ai,Z=[.box (x.row.map .f) 0,.box oF 0,.box ((bH.row ⟨r.tg,r.l,p,1+q,⟨#[122]⟩,ga,fo,.nil,[]⟩).map .f) 0]:=⟨_,rfl⟩
  have d5:bH.oq ⟨r.tg,r.l,p,1+q,⟨#[122]⟩,ga,fo,.nil,[]⟩:=
   ⟨⟨hr,by dsimp only;omega,by dsimp only;omega,by dsimp only;omega,by dsimp only;decide,by dsimp only;omega,by dsimp only;omega,by simp,List.Pairwise.nil,by simp⟩,by simp,rfl,d7,by dsimp only;omega,by simp⟩
  have b_:Z[0]?=some (.box (x.row.map .f) 0)∧Z[1]?=some (.box oF 0):=by rw [I];exact⟨rfl,rfl⟩
  have b:Z[2]?=some (.box ((bH.row ⟨r.tg,r.l,p,1+q,⟨#[122]⟩,ga,fo,.nil,[]⟩).map .f) 0):=by rw [I];rfl
  have eK:Z=[.box [.f (sl x.ng (dX x.no)),.f (u16 x.mi),.f (u16 x.le),.f (u8 x.c5),.f (u8 x.fold),.f (sl x.mg (fS x.mv))] 0,.box [.f .ay,.f (fi 0),.f (fi 0),.f (.str ⟨#[]⟩),.f (fi 0),.f (fi 0),.f .ay] 0,
   .box [.f (sl r.tg (aE r.l)),.f (fi p),.f (fi (1+q)),.f (.str ⟨#[122]⟩),.f (fi ga),.f (fi fo),.f .ay] 0]:=by rw [I];rfl
  rw [←eK];refine ag (ae ?_);simp;obtain⟨N,hN⟩:∃ N,N=min x.mv.length 4:=⟨_,rfl⟩
  refine bZ N (fun i t K=>∃ s:bH,s.oq∧s.mv.length≤i∧(K[0]?=some (.box (x.row.map .f) 0)∧K[1]?=some (.box oF 0))∧K[2]?=some (.box (s.row.map .f) 0)∧t.g 2=.c (.ptr 0 0 0)∧t.g 4=.c (.ptr 1 0 0)∧t.g 5=.c (.ptr 2 0 0)) (by omega) (by decide) (by simp)
   ⟨_,d5,by simp,b_,b,by simp,by simp,by simp⟩ ?_ ?_ ?_
  ·rintro i t K L b9 ⟨s,j,l,B,b,u,H,v⟩ A hn;have h0:=B.1;have l5:aQ K none (.c (.ptr 0 5 0))=some (.c (.f (sl x.mg (fS x.mv)))):=by simp [aQ,h0,az,aF,rA.row]
   by_cases c1:(i:Int)<x.mv.length
   ·simp [A,u,l5,-an,c1];exact hn _ ⟨s,j,l,B,b,by simp [u],by simp [H],by simp [v]⟩ (by simp [A]) (by simp;omega)
   ·simp [A,u,l5,-an,c1];exact hn _ ⟨s,j,l,B,b,by simp [u],by simp [H],by simp [v]⟩ (by simp [A]) (by simp;omega)
  ·rintro i t K b9 ⟨s,j,l,B,b,u,H,v⟩ A nx;have h0:=B.1;have l5:aQ K none (.c (.ptr 0 5 0))=some (.c (.f (sl x.mg (fS x.mv)))):=by simp [aQ,h0,az,aF,rA.row]
   obtain⟨-,-,-,-,-,-,-,e8⟩:=ja b;have J:i<x.mv.length:=by omega
   obtain⟨y,hy⟩:∃ y,y=x.mv[i]:=⟨_,rfl⟩;obtain⟨m,hm,c9,c_⟩:=On (x:=y) (by rw [hy];exact E.mv _ (IT J))
   obtain⟨F,a_,d6⟩:=wH j.ok (by omega) hm
   have g_:=Ik (m:=m) j.ok.ms
   have U:bH.oq ⟨s.rg,s.ru,s.mi,s.le,s.zo,s.c5,s.fold,s.mg,Gu s.mv m⟩:=by
    have k:=j.ok;refine⟨⟨k.ru,k.rl,k.mi,k.le,k.zo,k.c5,k.fold,by dsimp only;omega,Gv k.ms,fun z X=>?_⟩,by dsimp only;omega,j.zo,j.rl,j.le,fun z X=>?_⟩
    ·rcases Il X with rfl | X
     ·exact hm
     ·exact k.mo z X
    ·rcases Il X with rfl | X
     ·exact c9
     ·exact j.mo z X
   have b7:F.mv.length≤i+1:=by rw [a_.mv];dsimp only;omega
   have f_:=ak b;obtain⟨g,d⟩:∃ g:ai,g=K++[.box (F.row.map .f) 0]:=⟨_,rfl⟩;have S:g[K.length]?=some (.box (F.row.map .f) 0):=by rw [d];simp
   have M:(g[0]?=some (.box (x.row.map .f) 0)∧g[1]?=some (.box oF 0))∧g[2]?=some (.box (s.row.map .f) 0):=by
    rw [d,AT (by omega),AT (by omega),AT (by omega)]
    exact⟨B,b⟩
   obtain⟨-,-,-,-,-,-,-,e9⟩:=ja S
   have Y:df g (.ptr 2 0 0) (F.row.map .f)=some (g.set 2 (.box (F.row.map .f) 0)):=by
    have:=M.2;simp [df,this,over,bH.row]
   have W:(F.row.map C.f).length=7:=rfl;have a8:F.row.length=7:=rfl;refine av (ae ?_);simp [u,v,e8,l5,-an,A,akw J E.ml,apr J,←hy,c_,d6,W];rw [←d];refine ae ?_;simp;refine aj (by simp) (ab (.inl rfl) ?_)
   simp [v,e9,-an,a8,Y,-ba];refine al ?_;refine nx _ _ ⟨F,a_.as3 U,b7,?_,?_,by simp [u],by simp [H],by simp [v]⟩ (by simp [A])
   ·rw [By (by decide),By (by decide)];exact M.1
   ·exact OF (ak M.2)
  ·rintro t K ⟨s,j,l,B,b,u,H,v⟩ A;obtain⟨-,-,-,-,-,-,-,e8⟩:=ja b;have h1:=B.2;have Y:df K (.ptr 1 0 0) (s.row.map .f)=some (K.set 1 (.box (s.row.map .f) 0)):=by simp [df,h1,over,bH.row,oF]
   obtain⟨g,d⟩:∃ g:ai,g=K.set 1 (.box (s.row.map .f) 0):=⟨_,rfl⟩;have S:g[1]?=some (.box (s.row.map .f) 0):=by rw [d];exact OF (ak h1)
   obtain⟨-,-,-,-,-,-,-,e9⟩:=ja S;have W:s.row.length=7:=rfl;refine ae ?_;simp [H,v,e8,-an,Y,-ba,W];rw [←d];refine aA (hQ _ _ _ ⟨s,j,rfl⟩ ⟨rfl,s.v,?_,?_⟩)
   ·simp [Km.results,bG,aU,H,e9,-an]
   ·simp [iN,bX]
 exact⟨s,h1,hp.eq⟩
end
section
theorem aag(x:bj)(d:Int):Kf tab.get rj [.a (x.row.map .f),vi d] (vi (fA x.day d)):=by
 refine fg aiQ rfl fun H Q b=>?_
 refine ae ?_;simp [bj.row];refine ae ?_;simp [kK];refine aA (b _ _ ?_);simp
def aii:List FC→Int
 | .int _ n::_=>n
 | _=>0
theorem jY(x:bj):aii x.row=x.day:=rfl
theorem bsM(g:Tg)(l:List bj)(z:pg l)(L:l.length≤1000)(d:Int):∃(i:Nat) (w:Bool),i≤l.length∧(w=true→∃ h:i<l.length,dO l d=some l[i])∧(w=false→dO l d=none) ∧
  Km.Pure tab.get zl [.c (.f (sl g (aV l))),vi d,.c (.f (.fn rj []))]=Eq (.t [vi i,vb w]):=by
 have K:tab.get zl=some (aae 5):=aiV;have b:∀(j:Nat) (m:j<(aV l).length),(aV l)[j]=(l[j]'(by simpa using m)).row:=fun j m=>by simp [aV]
 obtain⟨i,E,F,H,w,B,I⟩:=aaf K g (aV l) (cX l) (.c (.f (.fn rj []))) (fi d) (fun r=>fA (aii r) d) (by simp;omega)
  (fun r hr=>by
   obtain⟨x,-,rfl⟩:=av9.1 hr
   exact⟨rj,_,by simp [bP],aag x d⟩)
  (fun i j hi m h=>by
   have y:j<l.length:=by simpa using m
   have u:i<l.length:=by omega
   simp only [b,jY]at h ⊢;have:=avX.1 z i j u y hi;rw [tt]at h;rw [CC]
   omega)
 refine⟨i,w,by simpa using E,fun A=>?_,fun A=>?_,I⟩
 ·obtain⟨h,e⟩:=B.1 A;rw [b,jY,nu]at e;exact⟨by simpa using h,C3 z (by simpa using h) e⟩
 ·refine C2 fun j m e=>?_
  have q:j<(aV l).length:=by simpa using m
  by_cases v:j<i
  ·have:=F j q v;rw [b,jY,mz]at this;omega
  ·by_cases s:i=j
   ·subst s;have:w=true:=B.2 ⟨q,by rw [b,jY,nu];exact e⟩
    rw [A]at this;cases this
   ·have J:=H i (by omega) (aft _)
    rw [b,jY,tt]at J;have:=avX.1 z i j (by omega) m (by omega)
    omega
theorem CU(l:List fe)(x:fe):aW (l++[x])=aW l++[x.row]:=by simp [aW]
set_option maxHeartbeats 1000000 in
theorem ain{z:ZD}{o:List bD}(h:ee z o){s:bH}(y:s.oq){d:Int}(d0:0≤d)(d1:d≤300) :
  ∃ g,Km.Pure tab.get rk [s.v,z.v,vi d]=Eq (.c (.f (sl g (aW (C' h s d))))):=by
 obtain⟨rr,⟨g,rfl⟩,hp⟩:∃ rr,(∃ g,rr=.c (.f (sl g (aW (C' h s d)))))∧Km.Pure tab.get rk [s.v,z.v,vi d] rr:=by
  have v:=y.at_ d0 d1;have j3:=y.ok.mi;have J:=y.ok.c5;have q:=y.ok.fold;have hc:=h.c;obtain⟨i,w,hi,f_,e_,d5⟩:=bsM s.mg s.mv y.ok.ms (by have:=y.ml;omega) d
  have j4:=y.ml;refine ca aiS rfl fun Q hQ=>?_
  refine ae ?_;simp;obtain⟨K,hK⟩:∃ K:ai,K=[.box (s.row.map .f) 0,.box (z.row.map .f) 0]:=⟨_,rfl⟩;have b0:K[0]?=some (.box (s.row.map .f) 0):=by rw [hK];rfl
  have b1:K[1]?=some (.box (z.row.map .f) 0):=by rw [hK];rfl
  rw [←hK];clear hK;obtain⟨-,e1,e2,-,e4,e5,e6,-⟩:=ja b0;have w1:IntKind.i64.wrap (d*1440)=d*1440:=wrap64 (by omega) (by omega)
  have w2:IntKind.i64.wrap (d*1440+s.mi)=d*1440+s.mi:=wrap64 (by omega) (by omega)
  refine ae ?_;simp [e1,e2,-an,w1,w2];refine ag (ae ?_);simp [e6,-an,d5]
  have M:∀(t:T) (H:ai) (L:Int),s.dropped d=false→s.CW d=L→H[0]?=some (.box (s.row.map .f) 0)→H[1]?=some (.box (z.row.map .f) 0)→t.g 2=vi d→t.g 3=.c (.ptr 0 0 0)→t.g 4=.c (.ptr 1 0 0)→t.g 7=vi (s.at_ d)→t.g 8=vi L →
    WP tab.get rk none [.code wY] ⟨t,[],H⟩ Q:=by
   intro t H L b hL b0 b1 U g3 g4 g7 W;obtain⟨-,e1,e2,-,e4,e5,e6,-⟩:=ja b0;obtain⟨tg,Z⟩:=agB h v.1 v.2 J.1 J.2 q.1 q.2;obtain⟨I,hI⟩:∃ I,I=CP h (s.at_ d) s.c5 s.fold:=⟨_,rfl⟩;have b7:=xZ h v.1 v.2 (c5:=s.c5) q.1 q.2;have X:=agz h v.1 v.2 (c5:=s.c5) (fold:=s.fold);have d7:=y.CW d b;rw [hL]at d7;have d8:C' h s d=I.map fun a=>⟨d,a,a+L⟩:=by unfold C';rw [b,if_neg (by decide),←hI,hL]
   rw [←hI]at Z b7 X;have z8:aQ H (some 8) (.c (.ptr 1 0 0))=some z.v:=eC b1 hc;refine ae ?_;simp [g3,g4,g7,z8,e4,e5,-an,Z];refine ae ?_;simp;have d_:bA H (.f (sl tg (cJ I)))=some I.length:=by simpa using rO (H:=H) tg (cJ I)
   refine ag (ae ?_);simp [d_]
   refine eV I.length (fun j t K=>∃ c,t.g 2=vi d∧t.g 8=vi L∧t.g 57=.c (.f (sl tg (cJ I)))∧t.g 14=.c c∧LR K c 3 (aW ((I.take j).map fun a=>⟨d,a,a+L⟩))) (by omega) (by decide) (by decide) (by simp) (by simp)
    ⟨.f .ay,by simp [U],by simp [W],by simp,by simp,.inl ⟨rfl,.inl rfl⟩⟩ ?_ ?_
   ·rintro j t K hj ⟨c,U,W,O,N,A⟩ ha hb nx;obtain⟨a,S⟩:∃ a,a=I[j]:=⟨_,rfl⟩;have c9:=X _ (IT hj);rw [←S]at c9
    have ix:aG K 1 none (.c (.f (sl tg (cJ I)))) (vi j)=some (.c (.f (.fp (cJ I).flatten j))):=by
     have:=cT (H:=K) (g:=tg) (rows:=cJ I) (sz:=1) (k:=.i64) (i:=(j:Int)) (by omega) (by simp;omega)
     simpa using this
    have lx:aQ K none (.c (.f (.fp (cJ I).flatten j)))=some (vi a):=by rw [S];exact fQ hj
    have wa:IntKind.i64.wrap (a+L)=a+L:=wrap64 (by omega) (by omega)
    obtain⟨u,l⟩:∃ u:ai,u=K++[.box ((fe.row ⟨d,a,a+L⟩).map .f) 0]:=⟨_,rfl⟩;have b_:LR u c 3 (aW ((I.take j).map fun a=>⟨d,a,a+L⟩)):=by rw [l];exact A.push _
    have c_:u[K.length]?=some (.box ((fe.row ⟨d,a,a+L⟩).map .f) 0):=by rw [l];simp
    obtain⟨c',H',Y,b9,g_,h_⟩:=b_.app (cr _) (by decide) (row:=fe.row ⟨d,a,a+L⟩) rfl (bytes:=24) (cd (by simp;omega) (by decide)) c_
    simp only [fe.row,anc,avO]at l;refine av (ae ?_);simp [O,ha,ix,lx];refine ab (.inl rfl) ?_;simp [U,W,N,wa];rw [←l];simp [Y];refine al ?_;refine nx _ _ ⟨c',by simp [U],by simp [W],by simp [O],by simp,?_⟩ (by simp [ha]) (by simp [hb])
    rw [avN hj,←S,List.map_append];simp only [anc,avO];rw [CU];exact b9
   ·rintro t K ⟨c,U,W,O,N,A⟩ ha hb;rw [awc,←d8]at A;obtain⟨g',hx⟩:=tx A (cr _);refine ae ?_;simp [N];refine aA (hQ _ _ _ ⟨g',rfl⟩ ⟨rfl,.c c,?_,?_⟩)
    ·simp [Km.results,bG,aU]
    ·simp [iN,bX,hx]
  cases w
  ·have E:=e_ rfl;have b:s.dropped d=false:=by rw [zT,E];rfl
   refine ae ?_;simp;refine aY (by simp) ?_
   refine M _ _ s.le b (by rw [Gb,E];rfl) b0 b1 (by simp) (by simp) (by simp) ?_ (by simp)
   rw [ajX,E];simp [atO]
  ·obtain⟨B,E⟩:=f_ rfl;obtain⟨m,F⟩:∃ m,m=s.mv[i]:=⟨_,rfl⟩;rw [←F]at E;have a_:=y.ok.mo m (by rw [F];exact IT B)
   have i_:=y.mo m (by rw [F];exact IT B)
   have d6:=Ab (H:=K) (g:=s.mg) B (by omega)
   have a8:=CV (H:=K) B;rw [←F]at a8;refine ae ?_;simp;refine aj (by simp) (ae ?_)
   have d9:m.row.length=5:=rfl;simp [e6,-an,d6,a8,d9];obtain⟨u,l⟩:∃ u:ai,u=K++[.box (m.row.map .f) 0]:=⟨_,rfl⟩;have c0:u[0]?=some (.box (s.row.map .f) 0):=by rw [l,AT (ak b0)];exact b0
   have c1:u[1]?=some (.box (z.row.map .f) 0):=by rw [l,AT (ak b1)];exact b1
   have c2:u[K.length]?=some (.box (m.row.map .f) 0):=by rw [l];simp
   have f1:aQ u none (.c (.ptr K.length 1 0))=some (vb m.drop):=by simp [aQ,c2,az,aF,bj.row]
   have f2:aQ u none (.c (.ptr K.length 2 0))=some (vi m.to):=by simp [aQ,c2,az,aF,bj.row]
   have f3:aQ u none (.c (.ptr K.length 3 0))=some (vi m.mi):=by simp [aQ,c2,az,aF,bj.row]
   have f4:aQ u none (.c (.ptr K.length 4 0))=some (vi m.le):=by simp [aQ,c2,az,aF,bj.row]
   rw [←l];refine ag (ae ?_);simp [f1,-an];cases b:m.drop
   ·have x:s.dropped d=false:=by rw [zT,E];exact b
    have j7:=a_.nd b;have wA:IntKind.i64.wrap (m.to*1440)=m.to*1440:=wrap64 (by omega) (by omega)
    have wB:IntKind.i64.wrap (m.to*1440+m.mi)=m.to*1440+m.mi:=wrap64 (by omega) (by omega)
    refine ah (by simp [b]) (aB (ab (.inl rfl) ?_))
    simp [f2,f3,f4,-an,wA,wB];refine M _ _ m.le x (by rw [Gb,E];rfl) c0 c1 (by simp) (by simp) (by simp) ?_ (by simp)
    rw [ajX,E];simp [atO]
   ·have x:s.dropped d=true:=by rw [zT,E];exact b
    refine aj (by simp [b]) (ae ?_)
    simp;refine aA (hQ _ _ _ ⟨.nil,rfl⟩ ?_);have:C' h s d=[]:=by unfold C';rw [if_pos x]
    rw [this];simp [sl,aW,Tg.fc]
 exact⟨g,hp.eq⟩
theorem anf{z:ZD}{o:List bD}(h:ee z o){s:bH}(j:s.oq){d:Int}(y:0≤d)(A:d≤300) :
  ∃ g,Km.Pure tab.get Fj [s.v,z.v,vi d]=Eq (.t [.c (.f (sl g (aW (C' h s d)))),vi 0]):=by
 obtain⟨g,m⟩:=ain h j y A;refine⟨g,Km.Pure.eq ?_⟩;have b:=DE j.ok.ru j.ok.rl (by have:=j.ml;omega) (by have:=j.ok.zo;omega)
 rw [j.ok.sound]at b;have q:=y7 h;have E:=h.c;have v:=oK d 0 1099511627776;rw [show decide (0≤d∧d≤1099511627776)=true from decide_eq_true (by omega)]at v
 refine bK aiP rfl fun Q B=>?_
 refine ae ?_;simp;obtain⟨K,l⟩:∃ K:ai,K=[.box (s.row.map .f) 0,.box (z.row.map .f) 0]:=⟨_,rfl⟩;have b0:K[0]?=some (.box (s.row.map .f) 0):=by rw [l];rfl
 have b1:K[1]?=some (.box (z.row.map .f) 0):=by rw [l];rfl
 rw [←l];clear l;obtain⟨-,-,-,-,-,-,-,u⟩:=ja b0;have x:aQ K (some 8) (.c (.ptr 1 0 0))=some z.v:=eC b1 E;refine ag (ae ?_);simp [u,x,-an,b,q,v];refine aY (by simp) ?_
 refine ae ?_;simp [u,x,-an,m];refine aA (B _ _ ?_);simp
end
section
theorem ZI.amz{x:gQ}{cs:List C}{c:Nat}{s h:Int}{tr:List bD}{ct:C}{cy:C}{t:T}{J:ai}(k:ZI x cs c s h tr ct [] cy t J)(L:aL cy=none)(Q:tr.length≤2)(q:bD) :
  ∃ m g,bz (J++[.box (q.row.map .f) 0]) 2 16 (.c ct) (.c (.sl J.length 0 1 1 0 2))=some (.c m,g)∧df g (.ptr 3 5 0) [m]=some (g.set 3 (np cs s m h cy)) ∧
   ∀ F,F.g 1=.c (.ptr 0 0 0)→F.g 2=.c (.ptr 1 0 0)→F.g 3=.c (.ptr 3 0 0)→ZI x cs c s h (tr++[q]) m [] cy F (g.set 3 (np cs s m h cy)):=by
 obtain⟨A,b⟩:∃ A:ai,A=J++[.box (q.row.map .f) 0]:=⟨_,rfl⟩;rw [←b];have up:∀ i y,J[i]?=some y→A[i]?=some y:=fun i y hy=>by rw [b,AT (ak hy)];exact hy
 have B:LR A ct 2 (aJ tr):=by rw [b];exact k.lt.push _
 have K:A[J.length]?=some (.box (q.row.map .f) 0):=by rw [b];simp
 obtain⟨m,g,E,u,I,O⟩:=B.app (cw tr) (by decide) (row:=q.row) rfl (bytes:=16) (cd (by simp;omega) (by decide)) K
 have d:∀(i:Nat) (cs:List C) (z:Nat),J[i]?=some (.box cs z)→g[i]?=some (.box cs z):=fun i cs z hy=>I.2 i _ (up _ _ hy) (B.cB (up _ _ hy))
 have j:gO g cs c:=k.dM.yj fun i l z h _=>⟨z,d i l z h⟩
 have v:=d _ _ _ k.zb;have M:aJ tr++[q.row]=aJ (tr++[q]):=by simp [aJ]
 rw [M]at u;refine⟨m,g,E,arL j v,fun F g1 g2 g3=>?_⟩
 refine⟨?_,?_,?_,?_,?_,?_,?_,g1,g2,g3⟩
 ·rw [By (by decide)];exact d _ _ _ k.raw
 ·rw [By (by decide)];exact d _ _ _ k.res
 ·exact j.bN fun i y hy hi=>by rw [By (by omega)];exact hy
 ·exact OF (ak v)
 ·exact u.set (u.cB v) _
 ·rcases k.ly with⟨H,N⟩ | ⟨H,-⟩
  ·exact .inl ⟨H,N⟩
  ·exact absurd rfl H
 ·intro i _;rw [L];exact fun e=>by cases e
theorem apy{x:gQ}(F:x.OK){cs:List C}{c:Nat}{s:Int}{t:T}{J:ai}(k:ZI x cs c s 0 [] (.f .ay) [] (.f .ay) t J){Q:Option aq→St→Prop}
  (next:∀(t:T) (J:ai) (l:List bD) (ct:C) (h:Int),ZI x cs c s h l ct [] (.f .ay) t J→l.length≤3→(∀ y ∈ l,0≤y.at_∧y.at_<h∧-1080≤y.off∧y.off≤1080)→(∀(i:Nat) a b,l[i]?=some a→l[i+1]?=some b→a.at_+2160≤b.at_)→0≤h∧h≤40000 →
   WP tab.get mj none [.code tQ] ⟨t,[],J⟩ Q) :
  WP tab.get mj none [.code zh] ⟨t,[],J⟩ Q:=by
 obtain⟨N,hN⟩:∃ N,N=min (min x.pH.length x.As.length) 3:=⟨_,rfl⟩;refine ae ?_;simp;refine ag (ae ?_);simp
 refine bZ N (fun j t J=>∃ l ct d,l.length=j∧TrP l d∧ZI x cs c s 0 l ct [] (.f .ay) t J∧t.g 4=vi d) (by omega) (by decide) (by simp)
  ⟨[],.f .ay,0,rfl,TrP.nil,⟨k.raw,k.res,k.dM,k.zb,k.lt,k.ly,k.ne,by simp [k.g1],by simp [k.g2],by simp [k.g3]⟩,by simp⟩ ?_ ?_ ?_
 ·rintro j t J L hj ⟨l,ct,d,B,q,k,E⟩ u hn;have a8:=F.gl;have a_:=F.ol;have I:=IL k.raw;have K:=IM k.raw
  have A:∀ v,v.g 1=t.g 1→v.g 2=t.g 2→v.g 3=t.g 3→v.g 4=t.g 4→v.g 5=t.g 5→v.g 43=vb (decide ((j:Int)<(N:Int)))→L ⟨v,[],J⟩:=fun v e1 e2 e3 e4 e5 O=>
   hn v ⟨l,ct,d,B,q,⟨k.raw,k.res,k.dM,k.zb,k.lt,k.ly,k.ne,by rw [e1];exact k.g1,by rw [e2];exact k.g2,by rw [e3];exact k.g3⟩,by rw [e4];exact E⟩ (by rw [e5];exact u) O
  by_cases M:(j:Int)<x.pH.length
  ·by_cases c2:(j:Int)<x.As.length
   ·simp [k.g1,u,I,K,-an,M,c2];exact A _ (by simp [k.g1]) (by simp [k.g2]) (by simp [k.g3]) (by simp) (by simp) (by simp;omega)
   ·simp [k.g1,u,I,K,-an,M,c2];exact A _ (by simp [k.g1]) (by simp [k.g2]) (by simp [k.g3]) (by simp) (by simp) (by simp;omega)
  ·simp [k.g1,u,I,K,-an,M];exact A _ (by simp [k.g1]) (by simp [k.g2]) (by simp [k.g3]) (by simp) (by simp) (by simp;omega)
 ·rintro j t J hj ⟨l,ct,d,B,q,k,E⟩ u nx;have S:j<x.pH.length:=by omega
  have W:j<x.As.length:=by omega
  have bg:=F.ga _ (IT S);have bo:=F.of _ (IT W);have U:=q.lo;have I:=IL k.raw;have K:=IM k.raw;have i1:=ke (g:=x.gg) S (H:=J);have i2:=ke (g:=x.og) W (H:=J);have d1:=iZ S (H:=J);have d2:=iZ W (H:=J);have w1:IntKind.i64.wrap (d+2160)=d+2160:=wrap64 (by omega) (by omega)
  have w2:IntKind.i64.wrap ((x.pH[j]:Nat):Int)=((x.pH[j]:Nat):Int):=wrap64 (by omega) (by omega)
  have w3:IntKind.i64.wrap (20*((x.pH[j]:Nat):Int))=20*((x.pH[j]:Nat):Int):=wrap64 (by omega) (by omega)
  have w4:IntKind.i64.wrap (d+2160+20*((x.pH[j]:Nat):Int))=d+2160+20*((x.pH[j]:Nat):Int):=wrap64 (by omega) (by omega)
  have X:=AN bo;obtain⟨c3,H3,z,Y,hk⟩:=k.amz rfl (by omega) ⟨d+2160+20*((x.pH[j]:Nat):Int),lX x.As[j]⟩
  simp only [bD.row,anc,avO]at z;refine av (ae ?_);simp [k.g1,E,u,I,i1,d1,-an,w1,w2,w3,w4];refine ab (.inl rfl) ?_;simp [k.g1,k.g3,u,K,i2,d2,-an,X,arJ k.dM k.zb,z,Y,-ba];refine al ?_;refine nx _ _ ⟨_,_,_,by simp;omega,q.app (by omega) bg (m:=x.As[j]),hk _ (by simp [k.g1]) (by simp [k.g2]) (by simp [k.g3]),by simp⟩ (by simp [u])
 rintro t J ⟨l,ct,d,B,q,k,E⟩ u;have U:=q.lo;have bb:=F.be;have l3:=arq k.raw;have w1:IntKind.i64.wrap (d+2160)=d+2160:=wrap64 (by omega) (by omega)
 have w2:IntKind.i64.wrap ((x.be:Nat):Int)=((x.be:Nat):Int):=wrap64 (by omega) (by omega)
 have w3:IntKind.i64.wrap (20*((x.be:Nat):Int))=20*((x.be:Nat):Int):=wrap64 (by omega) (by omega)
 have w4:IntKind.i64.wrap (d+2160+20*((x.be:Nat):Int))=d+2160+20*((x.be:Nat):Int):=wrap64 (by omega) (by omega)
 refine ae ?_;simp [k.g1,k.g3,E,l3,-an,w1,w2,w3,w4,arK k.dM k.zb,-ba];refine next _ _ l ct (d+2160+20*((x.be:Nat):Int)) ⟨?_,?_,?_,?_,?_,?_,k.ne,by simp [k.g1],by simp [k.g2],by simp [k.g3]⟩ q.tl (fun y Z=>by have:=q.tb y Z;omega) q.ts (by omega)
 ·rw [By (by decide)];exact k.raw
 ·rw [By (by decide)];exact k.res
 ·exact k.dM.bN fun i y Z hi=>by rw [By (by omega)];exact Z
 ·exact OF (ak k.zb)
 ·exact k.lt.set (k.lt.cB k.zb) _
 ·exact k.ly.set (k.ly.cB k.zb) _
end
section
theorem ZI.amF{x:gQ}{cs:List C}{c:Nat}{s h:Int}{tr:List bD}{ct:C}{yr:List eg}{cy:C}{t:T}{J:ai}(k:ZI x cs c s h tr ct yr cy t J)(W:yr.length≤2)(q:eg) :
  ∃ v j,bz (J++[.box (q.row.map .f) 0]) 5 40 (.c cy) (.c (.sl J.length 0 1 1 0 5))=some (.c v,j)∧df j (.ptr 3 7 0) [v]=some (j.set 3 (np cs s ct h v)) ∧
   (∀(b:Nat) (l:List C) (m:Nat),J[b]?=some (.box l m)→b≠3→(j.set 3 (np cs s ct h v))[b]?=some (.box l m)) ∧
   ∀ K,K.g 1=.c (.ptr 0 0 0)→K.g 2=.c (.ptr 1 0 0)→K.g 3=.c (.ptr 3 0 0)→ZI x cs c s h tr ct (yr++[q]) v K (j.set 3 (np cs s ct h v)):=by
 obtain⟨B,d⟩:∃ B:ai,B=J++[.box (q.row.map .f) 0]:=⟨_,rfl⟩;rw [←d];have up:∀ i y,J[i]?=some y→B[i]?=some y:=fun i y hy=>by rw [d,AT (ak hy)];exact hy
 have F:LR B cy 5 (bO yr):=by rw [d];exact k.ly.push _
 have L:B[J.length]?=some (.box (q.row.map .f) 0):=by rw [d];simp
 obtain⟨v,j,I,A,E,N⟩:=F.app (jE yr) (by decide) (row:=q.row) rfl (bytes:=40) (cd (by simp;omega) (by decide)) L
 have g:∀(i:Nat) (cs:List C) (m:Nat),J[i]?=some (.box cs m)→j[i]?=some (.box cs m):=fun i cs m hy=>E.2 i _ (up _ _ hy) (F.cB (up _ _ hy))
 have z:gO j cs c:=k.dM.yj fun i l m h _=>⟨m,g i l m h⟩
 have u:=g _ _ _ k.zb;have Q:bO yr++[q.row]=bO (yr++[q]):=by simp [bO]
 rw [Q]at A;have H:LR j ct 2 (aJ tr):=k.lt.bN fun i y hy hi=>E.2 i y (up _ _ hy) (k.ne i hi)
 refine⟨v,j,I,aiE z u,fun b l m S M=>by rw [By (Ne.symm M)];exact g _ _ _ S,fun K g1 g2 g3=>?_⟩
 refine⟨?_,?_,?_,?_,?_,?_,?_,g1,g2,g3⟩
 ·rw [By (by decide)];exact g _ _ _ k.raw
 ·rw [By (by decide)];exact g _ _ _ k.res
 ·exact z.bN fun i y hy hi=>by rw [By (by omega)];exact hy
 ·exact OF (ak u)
 ·exact H.set (H.cB u) _
 ·exact A.set (A.cB u) _
 ·intro i hi;rcases N with e | e
  ·rw [e];exact k.ne i hi
  ·rw [e];intro O;cases O;have:=k.lt.lt hi;have U:B.length=J.length+1:=by rw [d];simp
   omega
theorem ZI.amG{x:gQ}{cs:List C}{c:Nat}{s h:Int}{tr:List bD}{ct:C}{yr:List eg}{q:eg}{cy:C}{t:T}{J:ai}(k:ZI x cs c s h tr ct (yr++[q]) cy t J)(z:yr.length≤1) :
  ∃ b j B,aG J 5 none (.c cy) (vi yr.length)=some (.c (.ptr b (yr.length*5) j))∧df J (.ptr b (yr.length*5+1) j) [.f (fi 5)]=some B ∧
   ∀ m,m.g 1=.c (.ptr 0 0 0)→m.g 2=.c (.ptr 1 0 0)→m.g 3=.c (.ptr 3 0 0)→ZI x cs c s h tr ct (yr++[⟨q.mo,5,q.wd,q.mi,q.off⟩]) cy m B:=by
 rcases k.ly with⟨E,_⟩ | ⟨_,b,j,e,d⟩
 ·simp [bO]at E
 subst e;unfold RB at d
 have g:∀(i:Nat) (l:List C) (u:Nat),J[i]?=some (.box l u)→b≠i:=by
  rintro i l u hi rfl;rw [d]at hi;cases hi
 have v:aL ct≠some b:=fun e=>k.ne b e rfl
 have key:∃ cs',df J (.ptr b (yr.length*5+1) j) [.f (fi 5)]=some (J.set b (.bE 5 cs' 0 j .loc))∧cs'=(bO (yr++[⟨q.mo,5,q.wd,q.mi,q.off⟩])).flatten.map .f:=by
  match yr,z,d with
  | [],_,d=>exact⟨_,by simp [df,d,over,bO,eg.row];rfl,by simp [bO,eg.row]⟩
  | [p],_,d=>exact⟨_,by simp [df,d,over,bO,eg.row];rfl,by simp [bO,eg.row]⟩
  | _::_::_,z,_=>simp at z
 obtain⟨cs',A,y⟩:=key;refine⟨b,j,_,?_,A,fun m g1 g2 g3=>?_⟩
 ·simp [aG,dk,d];omega
 refine⟨?_,?_,?_,?_,?_,?_,?_,g1,g2,g3⟩
 ·rw [By (g _ _ _ k.raw)];exact k.raw
 ·rw [By (g _ _ _ k.res)];exact k.res
 ·exact k.dM.yj fun i l u h _=>⟨u,by rw [By (g _ _ _ h)];exact h⟩
 ·rw [By (g _ _ _ k.zb)];exact k.zb
 ·exact k.lt.set v _
 ·refine .inr ⟨by simp [bO],b,j,?_,?_⟩
  ·simp
  ·unfold RB;rw [OF (ak d),y]
 ·exact k.ne
end
section
theorem apA{x:gQ}(L:x.OK){cs:List C}{c:Nat}{s h:Int}{tr:List bD}{ct:C}{yr:List eg}{cy:C}{t:T}{J:ai}(k:ZI x cs c s h tr ct yr cy t J){j:Nat}(E:j<2)(X:yr.length=j)(z:t.g 6=vi j){K:List cm}{Q:Option aq→St→Prop}
  (next:∀(t:T) (J:ai) (q:eg) (cy:C),q.OK→ZI x cs c s h tr ct (yr++[q]) cy t J→t.g 6=vi j→WP tab.get mj none K ⟨t,[],J⟩ Q) :
  WP tab.get mj none (.code BE::K) ⟨t,[],J⟩ Q:=by
 have y0:=L.y j 0 E (by decide)
 have y1:=L.y j 1 E (by decide)
 have y2:=L.y j 2 E (by decide)
 have y3:=L.y j 3 E (by decide)
 have lr:=aui k.raw E;have W:aG J 4 (some 2) (.c (.ptr 0 4 0)) (vi j)=some (.c (.ptr 0 (4+j*4) 0)):=by simp [aG,dk];omega
 refine av (ae ?_);simp [k.g1,z,W,lr,-an];obtain⟨d,g⟩:∃ d:ai,d=J++[.box [.f (u8 (x.y j 0)),.f (u8 (x.y j 1)),.f (u8 (x.y j 2)),.f (u8 (x.y j 3))] 0]:=⟨_,rfl⟩;rw [←g];have N:∀ i y,J[i]?=some y→d[i]?=some y:=fun i y M=>by rw [g,AT (ak M)];exact M
 have I:d[J.length]?=some (.box [.f (u8 (x.y j 0)),.f (u8 (x.y j 1)),.f (u8 (x.y j 2)),.f (u8 (x.y j 3))] 0):=by rw [g];simp
 have k1:∀ F,F.g 1=.c (.ptr 0 0 0)→F.g 2=.c (.ptr 1 0 0)→F.g 3=.c (.ptr 3 0 0)→ZI x cs c s h tr ct yr cy F d:=fun F g1 g2 g3=>
  ⟨N _ _ k.raw,N _ _ k.res,k.dM.bN fun i y M _=>N i y M,N _ _ k.zb,by rw [g];exact k.lt.push _,by rw [g];exact k.ly.push _,k.ne,g1,g2,g3⟩
 have n3:J.length≠3:=by have:=ak k.zb;omega
 have v:=k1 t k.g1 k.g2 k.g3;have l0:aQ d none (.c (.ptr J.length 0 0))=some (.c (.f (u8 (x.y j 0)))):=by simp [aQ,az,I,aF]
 have l1:aQ d none (.c (.ptr J.length 1 0))=some (.c (.f (u8 (x.y j 1)))):=by simp [aQ,az,I,aF]
 have l2:aQ d none (.c (.ptr J.length 2 0))=some (.c (.f (u8 (x.y j 2)))):=by simp [aQ,az,I,aF]
 have i0:aG d 1 (some 4) (.c (.ptr J.length 0 0)) (vi 0)=some (.c (.ptr J.length 0 0)):=by simp [aG,dk]
 have i1:aG d 1 (some 4) (.c (.ptr J.length 0 0)) (vi 1)=some (.c (.ptr J.length 1 0)):=by simp [aG,dk]
 have i2:aG d 1 (some 4) (.c (.ptr J.length 0 0)) (vi 2)=some (.c (.ptr J.length 2 0)):=by simp [aG,dk]
 have r0:bJ .rem (.c (.f (u8 (x.y j 0)))) (.c (.f (.int .u8 3)))=some (.c (.f (u8 (x.y j 0 % 3)))):=vO _ (by decide)
 have r2:bJ .rem (.c (.f (u8 (x.y j 2)))) (.c (.f (.int .u8 5)))=some (.c (.f (u8 (x.y j 2 % 5)))):=vO _ (by decide)
 have r3:bJ .rem (.c (.f (u8 (x.y j 3)))) (.c (.f (.int .u8 2)))=some (.c (.f (u8 (x.y j 3 % 2)))):=vO _ (by decide)
 have b7:=AN (n:=x.y j 2 % 5) (by omega)
 have w0:IntKind.i64.wrap (1+(j:Int))=1+(j:Int):=wrap64 (by omega) (by omega)
 have w1:IntKind.i64.wrap ((x.y j 0:Int) % 3)=(x.y j 0:Int) % 3:=wrap64 (by omega) (by omega)
 have w2:IntKind.i64.wrap ((x.y j 1:Nat):Int)=((x.y j 1:Nat):Int):=wrap64 (by omega) (by omega)
 have w3:IntKind.i64.wrap (((x.y j 1:Nat):Int)*5)=((x.y j 1:Nat):Int)*5:=wrap64 (by omega) (by omega)
 obtain⟨c3,H3,l,b9,A,Y⟩:=v.amF (by omega) ⟨1+(j:Int),1,(x.y j 0:Int) % 3,((x.y j 1:Nat):Int)*5,lX (x.y j 2 % 5)⟩
 have a8:eg.OK ⟨1+(j:Int),1,(x.y j 0:Int) % 3,((x.y j 1:Nat):Int)*5,lX (x.y j 2 % 5)⟩:=
  ⟨by simp only;omega,.inl rfl,by simp only;omega,by simp only;omega,by simp only;omega,by simp only;omega,(kv _).1,(kv _).2⟩
 have a_:eg.OK ⟨1+(j:Int),5,(x.y j 0:Int) % 3,((x.y j 1:Nat):Int)*5,lX (x.y j 2 % 5)⟩:=
  ⟨by simp only;omega,.inr rfl,by simp only;omega,by simp only;omega,by simp only;omega,by simp only;omega,(kv _).1,(kv _).2⟩
 simp only [eg.row,anc,avO]at l;refine ae ?_;simp [k.g3,z,aiD v.dM v.zb,-an,i0,i1,i2,l0,l1,l2,r0,r2,b7,w0,w1,w2,w3,l,b9,-ba];obtain⟨H,U⟩:∃ H:ai,H=H3.set 3 (np cs s ct h c3):=⟨_,rfl⟩;rw [←U]at Y A ⊢;have O:=A _ _ _ I n3;have l3:aQ H none (.c (.ptr J.length 3 0))=some (.c (.f (u8 (x.y j 3)))):=by simp [aQ,az,O,aF]
 have i3:aG H 1 (some 4) (.c (.ptr J.length 0 0)) (vi 3)=some (.c (.ptr J.length 3 0)):=by simp [aG,dk]
 have u:=Y t k.g1 k.g2 k.g3;refine ae ?_;by_cases h3:x.y j 3 % 2=1
 ·simp [i3,l3,r3,-an,h3];refine aj (by simp) (ab (.inl rfl) ?_)
  obtain⟨b,ep,H5,B,m,Z⟩:=u.amG (by omega)
  rw [X]at B m;simp [k.g3,z,aiD u.dM u.zb,-an,B,m,-ba];exact al (next _ _ _ _ a_ (Z _ (by simp [k.g1]) (by simp [k.g2]) (by simp [k.g3])) (by simp [z]))
 ·have S:x.y j 3 % 2=0:=by omega
  simp [i3,l3,r3,-an,S];refine aY (by simp) ?_
  exact al (next _ _ _ _ a8 (Y _ (by simp [k.g1]) (by simp [k.g2]) (by simp [k.g3])) (by simp [z]))
end
section
theorem apz{x:gQ}(hx:x.OK){cs:List C}{c:Nat}{s h:Int}{u:List bD}{ct:C}{t:T}{J:ai}(k:ZI x cs c s h u ct [] (.f .ay) t J)(hs:-1080≤s∧s≤1080)(Z:u.length≤3)(Y:∀ y ∈ u,0≤y.at_∧y.at_<h∧-1080≤y.off∧y.off≤1080)
  (a8:∀(i:Nat) a b,u[i]?=some a→u[i+1]?=some b→a.at_+2160≤b.at_) (hh:0≤h∧h≤40000) {Q:Option aq→St→Prop}
  (hQ:∀ j s z o,ee z o→oh [.cell (P.nat 2) (some 8)] (.a (z.row.map .f)) s→Q j s) :
  WP tab.get mj none [.code tQ] ⟨t,[],J⟩ Q:=by
 have hc:=k.dM.lt;have pre:∀(tg F:Tg) (yr:List eg),afM ⟨c,s,tg,u,h,F,yr⟩:=fun tg F yr=>⟨hc,hs,Z,Y,a8,hh⟩
 refine ag (ae ?_)
 cases hr:x.rules with
 | false=>
  simp [k.g1,Dw k.raw,-an,hr];refine aj (by simp) (ae ?_)
  obtain⟨z,o,J',hz,E,W⟩:=k.e.fin ⟨.nil,.nil,[],(pre .nil .nil []).none rfl⟩ (((t.s 77 (.c (.ptr 0 13 0))).s 78 (vb false)).s 79 (vb true) |>.s 80 (.a (cs++[.f (fi s),ct,.f (fi h),.f .ay]))) (by simp [k.g2])
  have B:cs.length=4:=by obtain⟨a,b,d,e,O⟩:=k.dM.four;rw [O];rfl
  simp [k.g2,k.g3,Ha k.dM k.zb,-an,B,E,-ba]
  exact aA (hQ _ _ z o hz W)
 | true=>
  simp [k.g1,Dw k.raw,-an,hr];refine aY (by simp) ?_
  refine ag (ae ?_);simp
  refine bZ 2 (fun j t J=>∃ yr cy,yr.length=j∧(∀ q ∈ yr,q.OK)∧ZI x cs c s h u ct yr cy t J) (by decide) (by decide) (by simp)
   ⟨[],_,rfl,by simp,⟨k.raw,k.res,k.dM,k.zb,k.lt,k.ly,k.ne,by simp [k.g1],by simp [k.g2],by simp [k.g3]⟩⟩ ?_ ?_ ?_
  ·rintro j t J L hj ⟨yr,cy,m,g,k⟩ K hn;simp [K];exact hn _ ⟨yr,cy,m,g,⟨k.raw,k.res,k.dM,k.zb,k.lt,k.ly,k.ne,by simp [k.g1],by simp [k.g2],by simp [k.g3]⟩⟩ (by simp [K]) (by simp)
  ·rintro j t J hj ⟨yr,cy,m,g,k⟩ K nx;refine apA hx k hj m K fun t J q cy hq k g6=>?_
   refine nx _ _ ⟨yr++[q],cy,by simp;omega,fun p I=>?_,⟨k.raw,k.res,k.dM,k.zb,k.lt,k.ly,k.ne,by simp [k.g1],by simp [k.g2],by simp [k.g3]⟩⟩ g6
   rcases av1.1 I with I | I
   ·exact g p I
   ·simp at I;subst I;exact hq
  rintro t J ⟨yr,cy,m,g,k⟩ K
  obtain⟨r,q,rfl⟩:∃ r q,yr=[r,q]:=by
   match yr,m with
   | [r,q],_=>exact⟨r,q,rfl⟩
  obtain⟨tg,F,U⟩:=k.e.ex;obtain⟨e,hv,he⟩:=G6 (pre tg F [r,q]) (r:=r) (q:=q) rfl (g r (by simp)) (g q (by simp))
  have M:=U J (fun _ _ h _=>h)
  have N:bX deep J (.a (cs++[.f (fi s),ct,.f (fi h),cy]))=some (ZD.v ⟨c,s,tg,u,h,F,[r,q]⟩):=by
   simp only [bX,deep,M];rfl
  have A:∀(t:T) (J:ai) (yr:List eg) (cy:C),ZE cs c s h u ct yr cy J→t.g 2=.c (.ptr 1 0 0)→t.g 3=.c (.ptr 3 0 0)→(∃ tg F o,ee ⟨c,s,tg,u,h,F,yr⟩ o)→WP tab.get mj none [.code BF] ⟨t,[],J⟩ Q:=by
   intro t J yr cy k g2 g3 X;refine ae ?_;obtain⟨z,o,J',hz,E,W⟩:=k.fin X (t.s 122 (.a (cs++[.f (fi s),ct,.f (fi h),cy]))) (by simp [g2])
   have B:cs.length=4:=by obtain⟨a,b,d,e,O⟩:=k.dM.four;rw [O];rfl
   simp [g2,g3,Ha k.dM k.zb,-an,B,E,-ba];exact aA (hQ _ _ z o hz W)
  have v:=k.e.marked;refine ag (ae ?_);simp only [bX]at N;simp [k.g3,Ha k.dM k.zb,-an];simp only [N,Option.bind_some,afK,hv,anb];obtain⟨J5,S⟩:∃ J5,J5=fZ deep cy (fZ deep ct (List.foldl (fun H x=>fZ deep x H) J cs)):=⟨_,rfl⟩
  rw [←S]at v ⊢;simp;by_cases h0:e=0
  ·subst h0;obtain⟨o,X⟩:=he rfl;simp;refine aY (by simp) ?_
   exact A _ _ _ _ v (by simp [k.g2]) (by simp [k.g3]) ⟨_,_,o,X⟩
  ·simp [h0];refine aj (by simp) (ab (.inl rfl) ?_)
   simp [k.g3,aiE v.dM v.zb,-ba];refine A _ _ [] (.f .ay) ⟨?_,?_,?_,?_,.inl ⟨rfl,.inl rfl⟩⟩ (by simp [k.g2]) (by simp [k.g3]) ⟨.nil,.nil,[],(pre .nil .nil []).none rfl⟩
   ·rw [By (by decide)];exact v.res
   ·exact v.dM.bN fun i y hy hi=>by rw [By (by omega)];exact hy
   ·exact OF (ak v.zb)
   ·exact v.lt.bN fun i s l fl ep st h=>⟨fl,by rw [By (by rintro rfl;rw [v.zb]at h;cases h)];exact h⟩
end
section
theorem Oi{x:gQ}(q:x.OK):∃ z o,ee z o∧Km.Pure tab.get mj [.a (x.row.map .f)]=Eq (.a (z.row.map .f)):=by
 obtain⟨E,⟨z,o,O,rfl⟩,M⟩:∃ E,(∃ z o,ee z o∧E=.a (z.row.map .f))∧Km.Pure tab.get mj [.a (x.row.map .f)] E:=by
  refine ca anU rfl fun Q K=>?_
  have u:∀ j s z o,ee z o→oh [.cell (P.nat 2) (some 8)] (.a (z.row.map .f)) s→Q j s:=fun j s z o H I=>K j s _ ⟨z,o,H,rfl⟩ I
  have N:=kv x.st;have v:=AN q.st;have g:=q.dM
  have rest:∀(t:T) (J:ai) (cs:List C) (c:Nat),ZI x cs c (lX x.st) 0 [] (.f .ay) [] (.f .ay) t J→WP tab.get mj none [.code zh] ⟨t,[],J⟩ Q:=fun t J cs c k=>
   apy q k fun t J X ct h k A y B L=>apz q k N A y B L u
  refine ae ?_;simp;obtain⟨m,b⟩:∃ m:cU,m=.box (x.row.map .f) 0:=⟨_,rfl⟩;rw [←b];have S:∀(b1:cU) (J:ai),aQ (m::b1::J) none (.c (.ptr 0 0 0))=some (.c (.f (u8 x.st))):=fun b1 J=>by simp [aQ,az,b,aF,gQ.row]
  have d:∀(b1:cU) (J:ai),aQ (m::b1::J) none (.c (.ptr 0 12 0))=some (.c (.f (u8 x.dM))):=fun b1 J=>by simp [aQ,az,b,aF,gQ.row]
  have r2:bJ .rem (.c (.f (u8 x.dM))) (.c (.f (.int .u8 2)))=some (.c (.f (u8 (x.dM % 2)))):=vO _ (by decide)
  have U:bJ .quo (.c (.f (u8 x.dM))) (.c (.f (.int .u8 2)))=some (.c (.f (u8 (x.dM / 2)))):=amA g (by decide)
  have r4:bJ .rem (.c (.f (u8 (x.dM / 2)))) (.c (.f (.int .u8 2)))=some (.c (.f (u8 (x.dM / 2 % 2)))):=vO _ (by decide)
  have W:IntKind.i64.wrap ((x.dM:Int) / 2 % 2)=(x.dM:Int) / 2 % 2:=wrap64 (by omega) (by omega)
  refine ae ?_;simp [S,-an,v];refine ag (ae ?_);by_cases l:x.dM % 2=1
  ·simp [d,-an,r2,l];refine aj (by simp) (ab (.inl rfl) ?_)
   simp [d,-an,U,r4,W];refine rest _ _ [.f (fi 5),.sl 4 0 2 2 0 1,.f (fi 1),.sl 5 0 1 1 0 3] (x.dM / 2 % 2+1) ⟨by rw [b];rfl,rfl,.inr ⟨x.dM / 2 % 2,by omega,rfl,rfl,⟨0,rfl⟩,0,rfl⟩,rfl,LR.nil _ _,LR.nil _ _,(fun i h=>by cases h),by simp,by simp,by simp⟩
  ·have F:x.dM % 2=0:=by omega
   simp [d,-an,r2,F];refine aY (by simp) ?_
   refine rest _ _ [.f (fi 2),.sl 2 0 2 2 0 1,.f (fi (-1)),.f .ay] 0 ⟨by rw [b];rfl,rfl,.inl ⟨rfl,rfl,0,rfl⟩,rfl,LR.nil _ _,LR.nil _ _,(fun i h=>by cases h),by simp,by simp,by simp⟩
 exact⟨z,o,O,M.eq⟩
end
section
theorem Aa{H:ai}{g:Tg}{l:List fe}{j:Nat}(b:j<l.length)(d:l.length≤100000):aG H 3 none (.c (.f (sl g (aW l)))) (vi j)=some (.c (.f (.fp (aW l).flatten (j*3)))):=by
 have:=cT (H:=H) (g:=g) (rows:=aW l) (sz:=3) (k:=.i64) (i:=(j:Int)) (by omega) (by simp;omega)
 simpa using this
theorem F8{H:ai}{l:List fe}{j:Nat}(b:j<l.length):aQ H (some 3) (.c (.f (.fp (aW l).flatten (j*3))))=some (.a (l[j].row.map .f)):=fk (cr l) (N9 b)
end
section
theorem amp:Km.Pure tab.get B8 [] (vb true):=wL (Dq ev)
theorem gK{x:List FC}(h:∃ m,x=[FC.int .u8 m]∧Lit.wf (.int .u8 m)):∃ m:Nat,x=[u8 m]∧m<256:=by
 obtain⟨m,rfl,b⟩:=h;simp [Lit.wf,IntKind.min,IntKind.max,IntKind.signed,IntKind.bits]at b;refine⟨m.toNat,?_,by omega⟩
 have:((m.toNat:Nat):Int)=m:=awL b.1;simp [this]
theorem I0{x:List FC}(h:∃ m,x=[FC.int .u16 m]∧Lit.wf (.int .u16 m)):∃ m:Nat,x=[u16 m]∧m<65536:=by
 obtain⟨m,rfl,b⟩:=h;simp [Lit.wf,IntKind.min,IntKind.max,IntKind.signed,IntKind.bits]at b;refine⟨m.toNat,?_,by omega⟩
 have:((m.toNat:Nat):Int)=m:=awL b.1;simp [this]
theorem F'{n:Nat}(h:n≤maxLen):n≤9223372036854775807:=avV h (by decide)
theorem pk{n:Nat}{ys:List FC}(h:lO Tryz.prog (n+2) 27 ys):∃ g l,ys=[sl g (bM l)]∧l.length≤9223372036854775807∧∀ m ∈ l,m<256:=by
 obtain⟨g,rows,rfl,_,d,hr⟩:=sk Tryz.underlying27 h;obtain⟨l,rfl,j⟩:=lD (enc:=fun n:Nat=>[u8 n]) (p:=fun n=>n<256) fun r b=>gK (eI Tryz.underlying5 (hr r b))
 exact⟨g,l,rfl,F' (by simpa using d),j⟩
theorem HO{n:Nat}{ys:List FC}(h:lO Tryz.prog (n+2) 28 ys):∃ y:Nat→Nat,ys=[u8 (y 0),u8 (y 1),u8 (y 2),u8 (y 3)]∧∀ i,i<4→y i<256:=by
 obtain⟨rows,rfl,g,_,hr⟩:=tH Tryz.underlying28 h;obtain⟨l,rfl,j⟩:=lD (enc:=fun n:Nat=>[u8 n]) (p:=fun n=>n<256) fun r m=>gK (eI Tryz.underlying5 (hr r m))
 match l,g,j with
 | [a,b,c,d],_,j=>
  refine⟨fun i=>match i with | 0=>a | 1=>b | 2=>c | _=>d,rfl,fun i hi=>?_⟩
  have:i=0∨i=1∨i=2∨i=3:=by omega
  rcases this with rfl | rfl | rfl | rfl
  ·exact j a (by simp)
  ·exact j b (by simp)
  ·exact j c (by simp)
  ·exact j d (by simp)
 | [],g,_=>simp at g
 | [_],g,_=>simp at g
 | [_,_],g,_=>simp at g
 | [_,_,_],g,_=>simp at g
 | _::_::_::_::_::_,g,_=>simp at g
theorem IF{n:Nat}{ys:List FC}(h:lO Tryz.prog (n+4) 31 ys):∃ x:gQ,ys=x.row∧x.OK:=by
 obtain⟨_,Q,rfl,b,A⟩:=c4 (oJ (ts:=[5,27,27,5,29,5,4]) Tryz.underlying31 rfl h);obtain⟨st,rfl,b1⟩:=gK (eI Tryz.underlying5 b);obtain⟨_,S,rfl,b,B⟩:=c4 A;obtain⟨gg,j,rfl,K,u⟩:=pk b;obtain⟨_,U,rfl,b,E⟩:=c4 B;obtain⟨og,l,rfl,lo,v⟩:=pk b;obtain⟨_,W,rfl,b,F⟩:=c4 E;obtain⟨s,rfl,b4⟩:=gK (eI Tryz.underlying5 b);obtain⟨_,X,rfl,b,H⟩:=c4 F;obtain⟨rows,rfl,d,_,hr⟩:=tH Tryz.underlying29 b;obtain⟨_,Y,rfl,b,I⟩:=c4 H;obtain⟨m,rfl,q⟩:=gK (eI Tryz.underlying5 b);obtain⟨_,L,rfl,b,J⟩:=c4 I;obtain⟨g,rfl⟩:=ab1 Tryz.underlying4 b;obtain rfl:L=[]:=J
 match rows,d,hr with
 | [r0,r1],_,hr=>
  obtain⟨M,rfl,y⟩:=HO (hr r0 (by simp))
  obtain⟨N,rfl,z⟩:=HO (hr r1 (by simp))
  refine⟨⟨st,gg,j,og,l,s,fun k=>if k=0 then M else N,m,g⟩,rfl,b1,K,lo,u,v,b4,fun k i O hi=>?_,q⟩
  simp only;split
  ·exact y i hi
  ·exact z i hi
 | [],d,_=>simp at d
 | [_],d,_=>simp at d
 | _::_::_::_,d,_=>simp at d
theorem ape{x:List FC}(h:∃ m,x=[FC.int .i8 m]∧Lit.wf (.int .i8 m)):∃ m:Int,x=[.int .i8 m]∧-128≤m∧m≤127:=by
 obtain⟨m,rfl,b⟩:=h;simp [Lit.wf,IntKind.min,IntKind.max,IntKind.signed,IntKind.bits]at b;exact⟨m,rfl,by omega,by omega⟩
theorem ahS{n:Nat}{ys:List FC}(h:lO Tryz.prog (n+4) 173 ys):∃ x:jW,ys=x.row∧x.OK:=by
 obtain⟨_,z,rfl,b,j⟩:=c4 (oJ (ts:=[5,171,5,27]) Tryz.underlying173 rfl h);obtain⟨k,rfl,b1⟩:=gK (eI Tryz.underlying5 b);obtain⟨_,A,rfl,b,l⟩:=c4 j;obtain⟨m,rfl,d⟩:=ape (eI Tryz.underlying171 b);obtain⟨_,B,rfl,b,q⟩:=c4 l;obtain⟨o,rfl,g⟩:=gK (eI Tryz.underlying5 b);obtain⟨_,y,rfl,b,s⟩:=c4 q;obtain⟨v,li,rfl,u,b4⟩:=pk b;obtain rfl:y=[]:=s;exact⟨⟨k,m,o,v,li⟩,rfl,b1,d,g,u,b4⟩
theorem apv{n:Nat}{ys:List FC}(h:lO Tryz.prog (n+2) 77 ys):∃ x:M5,ys=x.row∧x.OK:=by
 obtain⟨rows,rfl,g,_,hr⟩:=tH Tryz.underlying77 h;obtain⟨l,rfl,j⟩:=lD (enc:=fun n:Nat=>[u8 n]) (p:=fun n=>n<256) fun r m=>gK (eI Tryz.underlying5 (hr r m))
 match l,g,j with
 | [a,b,c,d,e],_,j=>exact⟨⟨a,b,c,d,e⟩,rfl,j a (by simp),j b (by simp),j c (by simp),j d (by simp),j e (by simp)⟩
 | [],g,_=>simp at g
 | [_],g,_=>simp at g
 | [_,_],g,_=>simp at g
 | [_,_,_],g,_=>simp at g
 | [_,_,_,_],g,_=>simp at g
 | _::_::_::_::_::_::_,g,_=>simp at g
theorem IE{n:Nat}{ys:List FC}(h:lO Tryz.prog (n+6) 26 ys):∃ x:rA,ys=x.row∧x.OK:=by
 obtain⟨_,U,rfl,b,B⟩:=c4 (oJ (ts:=[22,23,23,5,5,24]) Tryz.underlying26 rfl h);obtain⟨O,rows,rfl,_,A,hr⟩:=sk Tryz.underlying22 b;obtain⟨Q,rfl,l⟩:=lD (enc:=jW.row) (p:=fun x=>x.OK) fun r d=>ahS (hr r d)
 obtain⟨_,W,rfl,b,E⟩:=c4 B;obtain⟨M,rfl,s⟩:=I0 (eI Tryz.underlying23 b);obtain⟨_,X,rfl,b,F⟩:=c4 E;obtain⟨K,rfl,u⟩:=I0 (eI Tryz.underlying23 b);obtain⟨_,Y,rfl,b,H⟩:=c4 F;obtain⟨z,rfl,b4⟩:=gK (eI Tryz.underlying5 b);obtain⟨_,Z,rfl,b,I⟩:=c4 H;obtain⟨y,rfl,v⟩:=gK (eI Tryz.underlying5 b);obtain⟨_,S,rfl,b,J⟩:=c4 I;obtain⟨L,q,rfl,_,g,m⟩:=sk Tryz.underlying24 b;obtain⟨N,rfl,j⟩:=lD (enc:=M5.row) (p:=fun x=>x.OK) fun r d=>apv (m r d)
 obtain rfl:S=[]:=J;exact⟨⟨O,Q,M,K,z,y,L,N⟩,rfl,F' (by simpa using A),l,s,u,b4,v,F' (by simpa using g),j⟩
theorem abO{a:V}(h:qP Tryz.prog 26 a):∃ x:rA,a=.a (x.row.map .f)∧x.OK:=by
 rcases h with⟨xs,rfl,b,_⟩ | ⟨x,rfl,b⟩
 ·obtain⟨x,rfl,d⟩:=IE (n:=34) b;exact⟨x,rfl,d⟩
 ·exfalso;obtain⟨x,e,_⟩:=IE (n:=34) b;simp [rA.row]at e
theorem abP{a:V}(h:qP Tryz.prog 31 a):∃ x:gQ,a=.a (x.row.map .f)∧x.OK:=by
 rcases h with⟨xs,rfl,b,_⟩ | ⟨x,rfl,b⟩
 ·obtain⟨x,rfl,d⟩:=IF (n:=36) b;exact⟨x,rfl,d⟩
 ·exfalso;obtain⟨x,e,_⟩:=IF (n:=36) b;simp [gQ.row]at e
end
section
theorem agN{H:ai}{c:C}{sz:Nat}{rows:List (List FC)}(h:LR H c sz rows)(F:bC sz rows)(l:sz≠0){ys:List (List FC)}(u:bC sz ys)(g:Tg){bytes:Nat}(d:bI (rows.length+ys.length) bytes=true) :
  ∃ z B,bz H sz bytes (.c c) (.c (.f (sl g ys)))=some (.c z,B)∧LR B z sz (rows++ys)∧Kb H B c∧(aL z=aL c∨aL z=some H.length):=by
 have j:cM H sz (.c (.f (sl g ys)))=some (ys.length,ys.flatten.map .f):=Z1 u;by_cases m:ys=[]
 ·subst m;rcases h with⟨rfl,A⟩ | ⟨s,b,v,rfl,q⟩
  ·refine⟨c,H,?_,.inl ⟨rfl,A⟩,Kb.refl _ _,.inl rfl⟩;rcases A with rfl | rfl<;>simp [bz,j,l]
  ·refine⟨_,H,?_,by rw [awE];exact .inr ⟨s,b,v,rfl,q⟩,Kb.refl _ _,.inl rfl⟩
   unfold RB at q;simp [bz,j,l,q]
 have E:ys.length≠0:=fun e=>m (List.length_eq_zero_iff.1 e)
 rcases h with⟨rfl,A⟩ | ⟨s,b,v,rfl,q⟩
 ·have d:bI ys.length bytes=true:=by simpa using d
  refine⟨.sl H.length 0 ys.length 0 0 sz,H++[.bE sz (ys.flatten.map .f) 0 0 .loc],?_,.inr ⟨by simpa using m,H.length,0,by simp,?_⟩,⟨by simp,fun i y u _=>by rw [AT (ak u)];exact u⟩,.inr rfl⟩
  ·rcases A with rfl | rfl<;>simp [bz,j,d,l,m]
  ·simp [RB]
 ·have x:rows.length*sz=rows.flatten.length:=(en F).symm;unfold RB at q;refine⟨.sl b 0 (rows.length+ys.length) 0 (v+1) sz,H.set b (.bE sz (rows.flatten.map .f++ys.flatten.map .f) 0 (v+1) .loc),?_,.inr ⟨by simp [s],b,v+1,by simp,?_⟩,⟨by simp,fun i y u I=>?_⟩,.inl rfl⟩
  ·simp only [bz,j,l,if_false,q,and_self,if_true,E];rw [if_pos ⟨trivial,by rw [av7];exact x,by simp⟩,d]
   simp
  ·unfold RB;rw [OF (ak q)];simp
  ·have:b≠i:=by rintro rfl;exact I rfl
   rw [By this];exact u
def NM:fe→fe→Int:=fun a b=>if fH a b then -1 else if fH b a then 1 else 0
theorem uE{a b:fe}:NM a b<0↔fH a b:=by
 unfold NM;by_cases h:fH a b
 ·rw [if_pos h];simp [h]
 ·rw [if_neg h];by_cases d:fH b a
  ·rw [if_pos d];simp [h]
  ·rw [if_neg d];simp [h]
theorem ap1(a b c:Int):Km.Pure tab.get Y8 [.c (.f (sl .fs (ints [a,b,c])))]=Eq (vi (if a≠0 then a else if b≠0 then b else c)):=Km.Pure.eq (by
 refine bK ank rfl fun Q A=>?_
 refine ae ?_;simp;refine ae ?_;simp;refine ag (ae ?_)
 have E:∀(H:ai) (j:Nat) (m:j<3),aG H 1 none (.c (.f (sl .fs (ints [a,b,c])))) (vi j)=some (.c (.f (.fp (ints [a,b,c]).flatten j))):=fun H j m=>by
  have:=cT (H:=H) (g:=.fs) (rows:=ints [a,b,c]) (sz:=1) (k:=.i64) (i:=(j:Int)) (by omega) (by simp;omega)
  simpa using this
 simp
 refine eV 3 (fun j t K=>t.g 3=vi 0∧t.g 6=.c (.f (sl .fs (ints [a,b,c])))∧(0<j→a=0)∧(1<j→b=0)∧(2<j→c=0)) (by omega) (by decide) (by decide) (by simp) (by simp)
  ⟨by simp,by simp,fun h=>absurd h (by omega),fun h=>absurd h (by omega),fun h=>absurd h (by omega)⟩ ?_ ?_
 ·rintro j t K m ⟨q,u,s,y,B⟩ x z I;obtain⟨v,d⟩:∃ v:Int,v=[a,b,c][j]'(by simpa using m):=⟨_,rfl⟩
  have F:aQ K none (.c (.f (.fp (ints [a,b,c]).flatten j)))=some (vi v):=by rw [d];exact fQ (by simpa using m)
  refine av (ae ?_);simp [u,x,E K j m,F];refine ae ?_;simp [q];by_cases l:v=0
  ·refine ah (by simp [l]) (aB (al ?_))
   refine I _ _ ⟨by simp [q],by simp [u],?_,?_,?_⟩ (by simp [x]) (by simp [z])
   all_goals rcases(show j=0∨j=1∨j=2 by omega)with rfl | rfl | rfl<;>simp at d ⊢<;>first | omega | (intro;omega) | skip
  ·refine aj (by simp [l]) (ae ?_)
   simp;refine aA (A _ _ ?_);rcases(show j=0∨j=1∨j=2 by omega)with rfl | rfl | rfl
   ·simp at d;subst d;simp [l]
   ·simp at d;subst d;simp [l,s (by decide)]
   ·simp at d;subst d;simp [l,s (by decide),y (by decide)]
 ·rintro t K ⟨q,u,s,y,B⟩ x z;refine ae ?_;simp [q];refine aA (A _ _ ?_)
  simp [s (by decide),y (by decide),B (by decide)])
end
section
theorem af0(a b:fe):(if fA a.fr b.fr≠0 then fA a.fr b.fr else if fA a.day b.day≠0 then fA a.day b.day else fA a.to b.to)=NM a b:=by
 unfold NM fA fH
 repeat' split
 all_goals first | rfl | omega
theorem asS(H:ai)(d g:cU)(a b c:Int):cW deep (H++[d,g,.box [cI a,cI b,cI c] 0]) (.sl (H.length+2) 0 3 3 0 1)=some (sl .fs (ints [a,b,c]))∧∃ J,fZ deep (.sl (H.length+2) 0 3 3 0 1) (H++[d,g,.box [cI a,cI b,cI c] 0])=H++J:=by
 have j:(H++[d,g,.box [cI a,cI b,cI c] 0])[H.length+2]?=some (.box [cI a,cI b,cI c] 0):=by rw [avM (by omega),awK];rfl
 constructor
 ·show cW (63+1) _ _=_
  rw [iV,j];rfl
 ·refine⟨[d,g,.box [cI a,cI b,cI c] 0].set 2 (.box [cI a,cI b,cI c] 3),?_⟩
  have e:fZ deep (.sl (H.length+2) 0 3 3 0 1) (H++[d,g,.box [cI a,cI b,cI c] 0])=(H++[d,g,.box [cI a,cI b,cI c] 0]).set (H.length+2) (.box [cI a,cI b,cI c] 3):=by
   simp only [deep,yA,j];rw [kO]
   ·rfl
   ·intro x l;simp at l;rcases l with rfl | rfl | rfl<;>exact⟨_,rfl⟩
  rw [e,List.set_append_right _ _ (by omega),awK]
theorem Oc(x y:fe):Kf tab.get ri [.a (x.row.map .f),.a (y.row.map .f)] (vi (NM x y)):=by
 refine fg aiO rfl fun H Q g=>?_
 refine ae ?_;simp [fe.row];refine ae ?_;have b:=ap1 (fA x.fr y.fr) (fA x.day y.day) (fA x.to y.to);rw [af0]at b;obtain⟨j,J,d⟩:=asS H (.box [.f (fi x.day),.f (fi x.fr),.f (fi x.to)] 0) (.box [.f (fi y.day),.f (fi y.fr),.f (fi y.to)] 0) (fA x.fr y.fr) (fA x.day y.day) (fA x.to y.to);simp [kK,j,b,d];refine aA (g _ _ ?_);simp
theorem aaS:((List.range 131).all fun n=>match (CF tab.get 20 20 (.fn uc) [.c (.f (.int .u64 n))] [])with | some (.c (.f (.int .i64 (.ofNat k))),_)=>Nat.ble k 62&&(Nat.beq n 0||Nat.ble (2 ^ k) (2*n)) | _=>false)=true:=by kernel_rfl
theorem akL:aiI tab.get a6 130:=fun n h=>by
 have j:=aaS;rw [avP]at j;have b:=j n (by simp;omega)
 split at b
 ·rename_i k l e;rw [If,Bool.or_eq_true]at b;refine⟨k,(dC (m:=20) (d:=20) (by rw [e];rfl)).eq,awu b.1,fun q=>?_⟩
  rcases b.2 with g | g
  ·have:=Nat.eq_of_beq_eq_true g;omega
  ·exact awu g
 ·cases b
theorem ah3:afN tab.get a6 3:=⟨ajq,aja,ai',ajv,ai6,ai8,ajt,
 ajm,ajo,ajk,aje,ajg,aji,ZS,ZT⟩
def uF:List FC→fe
 | [.int _ a,.int _ b,.int _ c]=>⟨a,b,c⟩
 | _=>⟨0,0,0⟩
def IsS(r:List FC):Prop:=r=(uF r).row
theorem agD(x:fe):IsS x.row:=rfl
def abg(r s:List FC):Int:=NM (uF r) (uF s)
theorem akg:tT IsS abg where
 Ct:=fun _ _ h b=>by
  unfold abg at h b;rw [uE]at h b;unfold fH at h b;omega
 trans:=fun _ _ _ h b=>by
  unfold abg at *;rw [uE]at *;unfold fH at *;omega
theorem ao4:Cv tab.get (.c (.f (.fn ri []))) IsS abg:=by
 intro x y b d H;obtain⟨J,h⟩:=Oc (uF x) (uF y) H;rw [←show x=(uF x).row from b,←show y=(uF y).row from d]at h
 exact⟨ri,_,J,by simp [bP],h⟩
theorem NS{rows:List (List FC)}(h:∀ r ∈ rows,IsS r):aW (rows.map uF)=rows:=by
 unfold aW;rw [List.map_map]
 conv=>rhs;rw [←List.map_id rows]
 exact List.map_congr_left fun r hr=>(h r hr).symm
theorem F7(l:List fe):(aW l).map uF=l:=by
 unfold aW;rw [List.map_map]
 conv=>rhs;rw [←List.map_id l]
 exact List.map_congr_left fun r _=>rfl
theorem ab8{H:ai}{v:C}{l:List fe}(hr:LR H v 3 (aW l))(E:l.length≤130) :
  ∃ d,Ev tab.get (.fn Fq) [.c v,.c (.f (.fn ri []))] H (.t []) d∧Kb H d v∧∃ b,LR d v 3 (aW b)∧b.Perm l∧b.Pairwise jG:=by
 have s:∀ r ∈ aW l,IsS r:=fun r hr=>by
  obtain⟨x,-,rfl⟩:=av9.1 hr;exact agD x
 obtain⟨r,d,A,rfl,B,b,y,q,z⟩:=Km.IX (σ:=a6) ai3 ah3 ao4 akg (by omega) akL hr (by simpa using E) (cr l) s
 have g:∀ r ∈ b,IsS r:=fun r hr=>s r (q.mem_iff.1 hr)
 refine⟨d,A,B,b.map uF,by rw [NS g];exact y,?_,?_⟩
 ·have:=q.map uF
  rwa [F7]at this
 ·rw [avX];intro i j hi u m;simp only [av7]at hi u;have:=z i j b[i] b[j] (by omega) m (by omega) (AI hi) (AI u)
  rw [awI,awI];unfold abg at this;unfold jG;rw [←uE];exact this
theorem xH(x y:fe):Km.Pure tab.get Hl [.a (x.row.map .f),.a (y.row.map .f)]=Eq (vb (decide (fH x y))):=Km.Pure.eq (by
 refine bK an0 rfl fun Q g=>?_
 refine ae ?_;simp [fe.row];refine ag (ae ?_);by_cases b:x.fr=y.fr
 ·simp [b];refine ah (by simp) (aB (ag (ae ?_)))
  by_cases d:x.day=y.day
  ·simp [d];refine ah (by simp) (aB (ae ?_))
   simp;refine aA (g _ _ ?_);simp [fH,b,d]
  ·simp [d];refine aj (by simp) (ae ?_)
   simp;refine aA (g _ _ ?_);simp [fH,b,d]
 ·simp [b];refine aj (by simp) (ae ?_)
  simp;refine aA (g _ _ ?_)
  simp [fH,b])
end
section
theorem kS{l:List fe}{j:Nat}{x:fe}(h:l[j]?=some x):(aW l)[j]?=some x.row:=by simp [aW,h]
theorem ow(l:List fe)(j:Nat)(x:fe):(aW l).set j x.row=aW (l.set j x):=by simp [aW,List.map_set]
theorem F5{H:ai}{c:C}{l:List fe}(hL:LR H c 3 (aW l))(hl:l.length≤1000)(x:fe) :
  ∃ o q F,Nt x l o∧Ev tab.get (.fn Ci) [.c c,.a (x.row.map .f)] H (.c q) F∧LR F q 3 (aW o)∧Kb H F c∧(aL q=aL c∨∃ i,aL q=some i∧H.length≤i):=by
 suffices h:∃ r F,Ev tab.get (.fn Ci) [.c c,.a (x.row.map .f)] H r F∧∃ o q,r=.c q∧Nt x l o∧LR F q 3 (aW o)∧Kb H F c∧(aL q=aL c∨∃ i,aL q=some i∧H.length≤i) by
  obtain⟨r,F,h1,o,q,rfl,h2,h3,h4,h5⟩:=h;exact⟨o,q,F,h2,h1,h3,h4,h5⟩
 refine da an1 rfl fun Q hQ=>?_
 refine ae ?_;simp [fe.row];obtain⟨W,u⟩:∃ W:ai,W=H++[.box [.f (fi x.day),.f (fi x.fr),.f (fi x.to)] 0]:=⟨_,rfl⟩;rw [←u];have b1:W[H.length]?=some (.box [.f (fi x.day),.f (fi x.fr),.f (fi x.to)] 0):=by rw [u];simp
 have l1:W.length=H.length+1:=by rw [u];simp
 obtain⟨H2,v⟩:∃ H2:ai,H2=W++[.box (x.row.map .f) 0]:=⟨_,rfl⟩;have g_:LR H2 c 3 (aW l):=by rw [v,u];exact(hL.push _).push _
 have i_:H2[W.length]?=some (.box (x.row.map .f) 0):=by rw [v];simp
 obtain⟨c3,H3,c9,h_,Y,d5⟩:=g_.app (cr _) (by decide) (row:=x.row) rfl (bytes:=24) (cd (by simp;omega) (by decide)) i_
 have l2:H2.length=H.length+2:=by rw [v];simp [l1]
 have hK:Kb H H3 c:=⟨by have:=Y.1;omega,fun i y hy hn=>Y.2 i y (by rw [v,u,awh,AT (ak hy)];exact hy) hn⟩
 have S:aL c3=aL c∨∃ i,aL c3=some i∧H.length≤i:=d5.imp id fun h=>⟨_,h,by omega⟩
 refine ae ?_;have e2:W++[.box [.f (fi x.day),.f (fi x.fr),.f (fi x.to)] 0]=H2:=v.symm;simp [b1,aF];rw [e2];simp [c9];rcases h_ with⟨h,_⟩ | ⟨_,b,g,rfl,hb⟩
 ·simp at h
 have e3:aW l++[x.row]=aW (l++[x]):=by simp [aW]
 rw [e3]at hb;refine ag ?_;refine ae ?_;simp [hb.len];refine av ?_;clear Y d5
 refine bw (fun n s=>∃(A B:List fe) (t:T) (J:ai),s=⟨t,[],J⟩∧n=A.length∧l=A++B∧(∀ z ∈ B,fH x z)∧RB J b 3 g (aW (A++x::B))∧Fm b H3 J∧t.g 5=.c (.sl b 0 (l.length+1) 0 g 3)∧t.g 6=vi A.length) l.length
  ⟨l,[],_,H3,rfl,rfl,by simp,by simp,hb,Fm.refl _,by simp,by simp;exact wrap64 (by omega) (by omega)⟩ ?_
 rintro n s ⟨A,B,t,J,rfl,rfl,X,hB,O,hF,I,g6⟩ ih;have U:l.length=A.length+B.length:=by rw [X];simp
 refine ag ?_
 have b7:(∀ z,A.getLast?=some z→¬ fH x z)→∀ t:T,t.g 5=.c (.sl b 0 (l.length+1) 0 g 3)→WP tab.get Ci none [.code oT] ⟨t,[],J⟩ Q:=by
  intro Z t I;refine ae ?_;simp [I];refine aA (hQ _ _ (.c (.sl b 0 (l.length+1) 0 g 3)) rfl (iF (by simp)) ⟨A++x::B,_,rfl,⟨A,B,X,rfl,hB,Z⟩,.inr ⟨by simp [aW],b,g,?_,O⟩,?_,?_⟩)
  ·simp [U];omega
  ·refine⟨avV hK.1 hF.1,fun i y hy hn=>?_⟩
   have h1:=hK.2 i y hy hn;refine hF.get h1 ?_;rintro rfl;rcases S with e | ⟨k,e,hk⟩
   ·exact hn (by rw [←e];rfl)
   ·cases e;have:=ak hy;omega
  ·exact S
 have E:=cr (A++x::B)
 cases hA:A.getLast? with
 | none=>
  have e_:A=[]:=by simpa using hA
  subst e_;refine ae ?_;simp [g6];refine ah (by simp) ?_
  refine aT (k':=[.code oT]) rfl ?_
  exact b7 (by simp) _ (by simp [I])
 | some z=>
  obtain⟨d,rfl⟩:∃ d,A=d++[z]:=by
   obtain⟨d,e⟩:=List.getLast?_eq_some_iff.1 hA;exact⟨d,e⟩
  have m:(d++[z]).length=d.length+1:=by simp
  rw [m]at U;have gz:(d++[z]++x::B)[d.length]?=some z:=by simp
  have gx:(d++[z]++x::B)[d.length+1]?=some x:=by
   rw [avM (by simp)];simp
  have iz:aG J 3 none (.c (.sl b 0 (l.length+1) 0 g 3)) (vi d.length)=some (.c (.ptr b (d.length*3) g)):=by
   have:=O.idx (n:=l.length+1) (c:=0) (k:=.i64) (o:=0) (i:=(d.length:Int)) (by omega) (by omega)
   simpa using this
  have ix:aG J 3 none (.c (.sl b 0 (l.length+1) 0 g 3)) (vi ((d.length:Int)+1))=some (.c (.ptr b ((d.length+1)*3) g)):=by
   have:=O.idx (n:=l.length+1) (c:=0) (k:=.i64) (o:=0) (i:=(d.length:Int)+1) (by omega) (by omega)
   rw [awn,show((d.length:Int)+1).toNat=d.length+1 by omega]at this
   exact this
  have qz:=O.ldr E (kS gz);have qx:=O.ldr E (kS gx);have c_:=xH x z;have w1:IntKind.i64.wrap (d.length:Int)=d.length:=wrap64 (by omega) (by omega)
  simp only [fe.row,anc,avO]at qz qx c_;refine ae ?_;simp [I,g6,m,show(0:Int)<(d.length:Int)+1 by omega,w1,iz,ix,qz,qx,-an,c_]
  by_cases N:fH x z
  case neg=>
   refine ah (by simp [N]) ?_
   refine aT (k':=[.code oT]) rfl ?_;exact b7 (fun w hw=>by rw [hA]at hw;cases hw;exact N) _ (by simp [I])
  refine aj (by simp [N]) (aB ?_)
  refine ag ?_;refine av ?_;have rx:=O.ldr E (kS gx);refine ae ?_;simp [I,g6,m,ix,rx,-an,fe.row];obtain⟨J1,L⟩:∃ J1:ai,J1=J++[.box [.f (fi x.day),.f (fi x.fr),.f (fi x.to)] 0]:=⟨_,rfl⟩;have M:RB J1 b 3 g (aW (d++[z]++x::B)):=by rw [L];exact O.push _
  have d9:J1[J.length]?=some (.box [.f (fi x.day),.f (fi x.fr),.f (fi x.to)] 0):=by rw [L];simp
  have j4:=O.lt;rw [←L]
  have j3:∀ {K:ai} {rows:List (List FC)} (_:RB K b 3 g rows),aG K 3 none (.c (.sl b 0 (l.length+1) 0 g 3)) (vi ((d.length:Int)+1))=some (.c (.ptr b ((d.length+1)*3) g)):=fun hK=>by
   have:=hK.idx (n:=l.length+1) (c:=0) (k:=.i64) (o:=0) (i:=(d.length:Int)+1) (by omega) (by omega)
   rw [awn,show((d.length:Int)+1).toNat=d.length+1 by omega]at this
   exact this
  have d7:∀ {K:ai} {rows:List (List FC)} (_:RB K b 3 g rows),aG K 3 none (.c (.sl b 0 (l.length+1) 0 g 3)) (vi d.length)=some (.c (.ptr b (d.length*3) g)):=fun hK=>by
   have:=hK.idx (n:=l.length+1) (c:=0) (k:=.i64) (o:=0) (i:=(d.length:Int)) (by omega) (by omega)
   simpa using this
  have rz:=M.ldr E (kS gz);obtain⟨J2,s1,b9,a_,j7⟩:=M.str (j:=d.length+1) (row:=z.row) E (by simp) rfl
  have d6:bC 3 ((aW (d++[z]++x::B)).set (d.length+1) z.row):=by rw [ow];exact cr _
  obtain⟨J3,s2,b_,d_,j8⟩:=b9.str (j:=d.length) (row:=x.row) d6 (by simp) rfl
  have d8:=a_.get d9 (by omega)
  have a8:((aW (d++[z]++x::B)).set (d.length+1) z.row).set d.length x.row=aW (d++x::z::B):=by
   rw [ow,ow]
   congr 1
   rw [awh];simp
  rw [a8]at b_;refine ae ?_;simp only [fe.row,anc,avO]at rz s1 s2;simp [I,g6,m,w1,j3 M,d7 M,rz,s1,-an,-ba];refine ab (.inl rfl) ?_;simp [I,g6,m,w1,d7 b9,d8,aF,s2,-ba];refine al ?_;refine ab (.inl rfl) ?_;simp [g6,m,w1];have f_:Fm b H3 J3:=((hF.trans (by rw [L];exact Fm.push _ _)).trans a_).trans d_
  refine ih d.length _ (by simp) ⟨d,z::B,_,J3,rfl,rfl,by rw [X];simp,?_,b_,f_,by simp [I],by simp⟩
  intro w hw;rcases awf.1 hw with rfl | hw
  ·exact N
  ·exact hB w hw
end
section
theorem akF{x y:fe}:x=y↔x.day=y.day∧x.fr=y.fr∧x.to=y.to:=by
 constructor
 ·rintro rfl;exact⟨rfl,rfl,rfl⟩
 ·obtain⟨a,b,c⟩:=x;obtain⟨d,e,f⟩:=y;rintro⟨g,j,l⟩;simp only at g j l;rw [g,j,l]
theorem aaA(g:Tg)(l:List fe)(E:l.length≤100000){x:fe}(b:x ∈ l):Km.Pure tab.get ZB [.c (.f (sl g (aW l))),.a (x.row.map .f)]=Eq (vb true):=Km.Pure.eq (by
 refine bK ann rfl fun Q B=>?_
 refine ae ?_;simp [fe.row];refine ag (ae ?_);simp
 refine bZ l.length (fun j t K=>K=[.box (x.row.map .f) 0]∧t.g 0=.c (.f (sl g (aW l)))∧t.g 3=.c (.ptr 0 0 0)∧x ∈ l.drop j) (by omega) (by decide) (by simp)
  ⟨rfl,by simp,by simp,by simpa using b⟩ ?_ ?_ ?_
 ·rintro j t K L s ⟨rfl,d,q,b⟩ m F;simp [m,d];exact F _ ⟨rfl,by simp [d],by simp [q],b⟩ (by simp [m]) (by simp)
 ·rintro j t K s ⟨rfl,d,q,b⟩ m I;obtain⟨y,A⟩:∃ y,y=l[j]:=⟨_,rfl⟩;have i1:=Aa (H:=[.box (x.row.map .f) 0]) (g:=g) (l:=l) (j:=j) s E;have z:=F8 (H:=[.box (x.row.map .f) 0]) (l:=l) s;rw [←A]at z;simp only [fe.row,anc,avO]at i1 z;refine av (ae ?_);simp [d,q,m,i1,z,fe.row,zW];by_cases u:y=x
  ·subst u;refine aj (by simp) (ae ?_)
   simp;refine aA (B _ _ ?_);simp
  ·have v:(y.day == x.day&&(y.fr == x.fr&&y.to == x.to))=false:=by
    rw [Bool.eq_false_iff];intro h;simp only [If,beq_iff_eq]at h;exact u (akF.2 h)
   refine ah (by simp [v]) (aB (al ?_))
   refine I _ _ ⟨rfl,by simp [d],by simp [q],?_⟩ (by simp [m])
   rw [avW s,←A]at b;rcases awf.1 b with e | b
   ·exact absurd e.symm u
   ·exact b
 ·rintro t K ⟨rfl,d,q,b⟩ m
  simp at b)
theorem abX(g g':Tg)(l:List fe)(s:l.length≤100000):Km.Pure tab.get ZJ [.c (.f (sl g (aW l))),.c (.f (sl g' (aW l)))]=Eq (vb true):=Km.Pure.eq (by
 refine bK an5 rfl fun Q v=>?_
 refine ae ?_;simp;refine ag (ae ?_);simp;refine aY (by simp) ?_
 refine ag (ae ?_);simp
 refine bZ l.length (fun j t K=>K=[]∧t.g 0=.c (.f (sl g (aW l)))∧t.g 1=.c (.f (sl g' (aW l)))) (by omega) (by decide) (by simp)
  ⟨rfl,by simp,by simp⟩ ?_ ?_ ?_
 ·rintro j t K L q ⟨rfl,b,m⟩ d x;simp [d,b];exact x _ ⟨rfl,by simp [b],by simp [m]⟩ (by simp [d]) (by simp)
 ·rintro j t K q ⟨rfl,b,m⟩ d y;have i1:=Aa (H:=[]) (g:=g) (l:=l) (j:=j) q s;have i2:=Aa (H:=[]) (g:=g') (l:=l) (j:=j) q s;have u:=F8 (H:=[]) (l:=l) q;simp only [fe.row,anc,avO]at u;refine av (ae ?_);simp [b,m,d,i1,i2,u,zW];refine ah (by simp) (aB (al ?_))
  exact y _ _ ⟨rfl,by simp [b],by simp [m]⟩ (by simp [d])
 ·rintro t K ⟨rfl,b,m⟩ d;refine ae ?_;simp;refine aA (v _ _ ?_)
  simp)
set_option maxHeartbeats 1000000 in
theorem Ai{z:ZD}{o:List bD}(h:ee z o){s:bH}(M:s.oq)(g:Tg){ts:List dH}(hm:oy ts=true){fr:Int}{n:Nat}(f0:0≤fr)(f1:fr+n≤300)(hn:n≤65)(H:ai) :
  ∃ c l E,Ev tab.get (.fn rf) [s.v,.a [.f (sl g (bL ts))],z.v,.a [cI fr,cI (fr+n)]] H (.t [.c c,vi 0]) E∧LR E c 3 (aW l)∧l.Perm (gE h s (fT ts) fr n)∧l.Pairwise jG ∧
   (∀(i:Nat) (y:cU),H[i]?=some y→E[i]?=some y)∧(∀ b,aL c=some b→H.length≤b):=by
 suffices hh:∃ r E,Ev tab.get (.fn rf) [s.v,.a [.f (sl g (bL ts))],z.v,.a [cI fr,cI (fr+n)]] H r E∧∃ c l,r=.t [.c c,vi 0]∧LR E c 3 (aW l)∧l.Perm (gE h s (fT ts) fr n)∧l.Pairwise jG ∧
   (∀(i:Nat) (y:cU),H[i]?=some y→E[i]?=some y)∧(∀ b,aL c=some b→H.length≤b) by
  obtain⟨r,E,h1,c,l,rfl,h2⟩:=hh;exact⟨c,l,E,h1,h2⟩
 have N:=DE M.ok.ru M.ok.rl (by have:=M.ml;omega) (by have:=M.ok.zo;omega)
 rw [M.ok.sound]at N;have d_:=y7 h;have hc:=h.c;obtain⟨i_,b_⟩:=yz hm;have b7:=aa6 g ts (by omega) (fun t ht=>⟨by have:=(gI (b_ t ht)).2.1;omega,fun p hp=>Az ((gI (b_ t ht)).2.2 p hp)⟩)
 rw [hm]at b7;have hw:=oK fr 0 (fr+n);rw [show decide (0≤fr∧fr≤fr+n)=true from decide_eq_true (by omega)]at hw
 have A:∀ k:Nat,k<n→0≤s.at_ (fr+k)∧s.at_ (fr+k)≤460000:=fun k hk=>M.at_ (by omega) (by omega)
 refine da aiN rfl fun Q hQ=>?_
 refine ae ?_;simp;obtain⟨K,L⟩:∃ K:ai,K=H++[.box (s.row.map .f) 0,.box [.f (sl g (bL ts))] 0,.box (z.row.map .f) 0,.box [cI fr,cI (fr+n)] 0]:=⟨_,rfl⟩;have b0:K[H.length]?=some (.box (s.row.map .f) 0):=by rw [L,avM (by omega),Nat.sub_self];rfl
 have b1:K[H.length+1]?=some (.box [.f (sl g (bL ts))] 0):=by rw [L,avM (by omega),awK];rfl
 have b2:K[H.length+2]?=some (.box (z.row.map .f) 0):=by rw [L,avM (by omega),awK];rfl
 have S:K[H.length+3]?=some (.box [cI fr,cI (fr+n)] 0):=by rw [L,avM (by omega),awK];rfl
 have c_:∀(i:Nat) (y:cU),H[i]?=some y→K[i]?=some y:=fun i y O=>by rw [L,AT (ak O)];exact O
 have e_:K.length=H.length+4:=by rw [L];simp
 rw [←L];clear L;have e7:∀ {J:ai},J[H.length]?=some (.box (s.row.map .f) 0)→aQ J (some 7) (.c (.ptr H.length 0 0))=some s.v:=fun B=>by obtain⟨-,-,-,-,-,-,-,e⟩:=ja B;exact e
 have e1:∀ {J:ai},J[H.length+1]?=some (.box [.f (sl g (bL ts))] 0)→aQ J (some 1) (.c (.ptr (H.length+1) 0 0))=some (.a [.f (sl g (bL ts))]):=fun B=>by simp [aQ,B,az,aF]
 have e8:∀ {J:ai},J[H.length+2]?=some (.box (z.row.map .f) 0)→aQ J (some 8) (.c (.ptr (H.length+2) 0 0))=some z.v:=fun B=>eC B hc
 have w0:∀ {J:ai},J[H.length+3]?=some (.box [cI fr,cI (fr+n)] 0)→aQ J none (.c (.ptr (H.length+3) 0 0))=some (vi fr):=fun B=>by simp [aQ,B,az,aF]
 have w1:∀ {J:ai},J[H.length+3]?=some (.box [cI fr,cI (fr+n)] 0)→aQ J none (.c (.ptr (H.length+3) 1 0))=some (vi (fr+n)):=fun B=>by simp [aQ,B,az,aF]
 have wn:IntKind.i64.wrap (fr+n-fr)=n:=by rw [wrap64 (by omega) (by omega)];omega
 refine ag (av (ae ?_));simp [e7 b0,e1 b1,e8 b2,w0 S,w1 S,-an,N,d_,b7,hw,show¬ (1099511627776:Int)<fr+n by omega]
 refine ah (by simp) (ae ?_)
 simp [w0 S,w1 S,-an,wn,show¬ (4000:Int)<n by omega]
 refine ah (by simp) (aB (al ?_))
 refine ae ?_;simp;refine ag (ae ?_);simp [w0 S,-an];have x:=M.ok.fold
 refine av (bw (fun m st=>∃(j:Nat) (c:C) (t:T) (J:ai),st=⟨t,[],J⟩∧j≤n∧m=n-j∧t.g 4=.c (.ptr H.length 0 0)∧t.g 5=.c (.ptr (H.length+1) 0 0)∧t.g 6=.c (.ptr (H.length+2) 0 0)∧t.g 7=.c (.ptr (H.length+3) 0 0)∧t.g 10=.c c∧t.g 11=vi (fr+j) ∧
   LR J c 3 (aW (gE h s (fT ts) fr j))∧(∀(i:Nat) (y:cU),K[i]?=some y→J[i]?=some y)∧(∀ b,aL c=some b→H.length+4≤b)) n
  ⟨0,.f .ay,_,K,rfl,by omega,rfl,by simp,by simp,by simp,by simp,by simp,by simp,.inl ⟨rfl,.inl rfl⟩,fun _ _ h=>h,fun b A=>by simp [aL]at A⟩ ?_)
 rintro m st ⟨j,c,t,J,rfl,B,rfl,g4,g5,g6,g7,g10,u,F,q,v⟩ ih;have h_:=km (h:=h) (s:=s) (p:=fT ts) (fr:=fr) x (n:=j) fun k hk=>A k (by omega)
 refine ag (ae ?_);simp [g7,u,w1 (q _ _ S),-an];by_cases I:j<n
 ·refine aj (by simp [I]) (aB ?_)
  have f_:fr+(j:Int)<fr+n:=by omega
  have Z:=Ia g ts hm (fr+j) (show fr+(j:Int)≤2305843009213693952 by omega)
  obtain⟨tg,d6⟩:=ain h M (d:=fr+j) (by omega) (by omega)
  have wj:IntKind.i64.wrap (fr+(j:Int)+1)=fr+((j+1:Nat):Int):=by rw [wrap64 (by omega) (by omega)];omega
  refine ag (av (ae ?_));simp [g5,u,e1 (q _ _ b1),-an,Z];cases hp:fT ts (fr+j)
  ·refine ah (by simp) (aB (al (ab (.inl rfl) ?_)))
   simp [u,wj];refine ih (n-(j+1)) _ (by omega) ⟨j+1,c,_,J,rfl,by omega,rfl,by simp [g4],by simp [g5],by simp [g6],by simp [g7],by simp [g10],by simp,?_,q,v⟩
   rw [gE,hp,if_neg (by decide),awE]
   exact F
  ·have g_:=At (h:=h) (s:=s) (d:=fr+j) x (A j I).1 (A j I).2;obtain⟨c',J',Y,W,U,d5⟩:=agN F (cr _) (by decide) (cr (C' h s (fr+j))) tg (bytes:=24) (cd (by simp;omega) (by decide))
   refine aj (by simp) (ab (.inl rfl) ?_)
   simp [g4,g6,g10,u,e7 (q _ _ b0),e8 (q _ _ b2),-an,d6,Y];refine al (ab (.inl rfl) ?_);simp [u,wj];have X:∀(i:Nat) (y:cU),K[i]?=some y→J'[i]?=some y:=fun i y O=>U.2 i y (q i y O) (fun e=>by have:=v i e;have:=ak O;omega)
   have c9:H.length+4≤J.length:=by
    have:=ak (q _ _ S);omega
   refine ih (n-(j+1)) _ (by omega) ⟨j+1,c',_,J',rfl,by omega,rfl,by simp [g4],by simp [g5],by simp [g6],by simp [g7],by simp,by simp,?_,X,fun b A=>?_⟩
   ·rw [gE,hp,if_pos rfl];simpa [aW]using W
   ·rcases d5 with e | e
    ·exact v b (by rw [←e];exact A)
    ·rw [A]at e;cases e;exact c9
 ·have a8:j=n:=by omega
  subst a8;have a_:=F.len;rw [kT]at a_;obtain⟨J',d9,U,l',W,d7,d8⟩:=ab8 F (by omega)
  refine ah (by simp [I]) (aT rfl ?_)
  refine ag (ae ?_);simp [g10,a_,show¬ (4096:Int)<(gE h s (fT ts) fr j).length by omega]
  refine aY (by simp) ?_
  have b9:=d9.eq;refine ae ?_;simp [g10,b9];refine ae ?_;simp [g10];refine aA (hQ _ _ _ rfl (by simp [Km.results,bG,aU]) ⟨c,l',rfl,W,d7,d8,fun i y O=>?_,fun b A=>?_⟩)
  ·refine U.2 i y (q i y (c_ i y O)) fun e=>?_
   have:=v i e;have:=ak O;omega
  ·have:=v b A;omega
end
section
def uq(b:List Nat)(i:Nat):Nat:=b[i]?.getD 0
theorem zH{b:List Nat}(h:∀ n ∈ b,n<256)(i:Nat):uq b i<256:=by
 unfold uq;by_cases hi:i<b.length
 ·rw [AI hi];exact h _ (IT hi)
 ·rw [awp.2 (by omega)];decide
theorem xG(g:Tg)(b:List Nat)(m:∀ n ∈ b,n<256)(s:b.length≤9223372036854775807)(i:Nat)(hi:i≤1000):Km.Pure tab.get jo [.c (.f (sl g (bM b))),vi i]=Eq (vi (uq b i:Nat)):=Km.Pure.eq (by
 refine bK anB rfl fun Q d=>?_
 refine ae ?_;simp;refine ag (ae ?_);simp;by_cases h:i<b.length
 ·have j:=ke (g:=g) h (H:=[]);have l:=iZ h (H:=[]);have q:=m _ (IT h);have w:IntKind.i64.wrap ((b[i]:Nat):Int)=((b[i]:Nat):Int):=wrap64 (by omega) (by omega)
  refine aj (by simp [h]) (ae ?_)
  simp [j,l,w];refine aA (d _ _ ?_);simp [uq,AI h]
 ·refine aY (by simp [h]) ?_
  refine ae ?_;simp;refine aA (d _ _ ?_)
  simp [uq,awp.2 (show b.length≤i by omega)])
theorem yU{d:Int}:∀ {l:List Int} {b:Int},(∀ x ∈ l,b<x∧x<d)→l.Pairwise (· < ·)→dI d b l=true
 | [],_,_,_=>rfl
 | n::r,b,h,g=>by
  have j:=h n avQ;rw [aws]at g;simp only [dI,decide_eq_true j.1,decide_eq_true j.2,Bool.true_and];exact yU (fun x m=>⟨g.1 x m,(h x (avZ _ m)).2⟩) g.2
def Up(l:List Int)(n:Nat):Prop:=(∀ x ∈ l,0≤x∧x<n)∧l.Pairwise (· < ·)∧l.length≤n
theorem Up.nil:Up [] 0:=⟨by simp,List.Pairwise.nil,by simp⟩
theorem Up.skip{l:List Int}{n:Nat}(h:Up l n):Up l (n+1):=⟨fun x b=>by have:=h.1 x b;omega,h.2.1,by have:=h.2.2;omega⟩
theorem Up.app{l:List Int}{n:Nat}(h:Up l n):Up (l++[(n:Int)]) (n+1):=by
 refine⟨fun x d=>?_,?_,by simp;exact h.2.2⟩
 ·rcases av1.1 d with d | d
  ·have:=h.1 x d;omega
  ·simp at d;subst d;omega
 ·rw [awA];exact⟨h.2.1,awo _ _,fun a j b g=>by simp at g;subst g;have:=h.1 a j;omega⟩
theorem Up.rising{l:List Int}{n:Nat}(h:Up l n):dI n (-1) l=true:=yU (fun x b=>by have:=h.1 x b;omega) h.2.1
theorem kR(l:List Int):bC 1 (ints l):=bC.map fun _=>rfl
structure FI(b:V)(fr lf:Nat)(hd cy:List Int)(ch cc:C)(t:T)(J:ai):Prop where
 res:J[0]?=some (.box [.f .ay,.f (fi 0),.f (fi 0),.f .ay] 0)
 pb:J[1]?=some (.box [ch,.f (fi fr),.f (fi lf),cc] 0)
 lh:LR J ch 1 (ints hd)
 lc:LR J cc 1 (ints cy)
 ne:∀ i,aL ch=some i→aL cc≠some i
 g0:t.g 0=b
 g2:t.g 2=.c (.ptr 0 0 0)
 g3:t.g 3=.c (.ptr 1 0 0)
section
variable{b:V}{fr lf:Nat}{hd cy:List Int}{ch cc:C}{t:T}{J:ai}
theorem FI.to(k:FI b fr lf hd cy ch cc t J){d:T}(g0:d.g 0=b)(g2:d.g 2=.c (.ptr 0 0 0))(g3:d.g 3=.c (.ptr 1 0 0)):FI b fr lf hd cy ch cc d J:=⟨k.res,k.pb,k.lh,k.lc,k.ne,g0,g2,g3⟩
theorem FI.af2(k:FI b fr lf hd cy ch cc t J)(L:cy.length≤1000)(n:Int) :
  ∃ m j,bz (J++[.box [.f (fi n)] 0]) 1 8 (.c cc) (.c (.sl J.length 0 1 1 0 1))=some (.c m,j)∧df j (.ptr 1 3 0) [m]=some (j.set 1 (.box [ch,.f (fi fr),.f (fi lf),m] 0)) ∧
   ∀ z:T,z.g 0=b→z.g 2=.c (.ptr 0 0 0)→z.g 3=.c (.ptr 1 0 0)→FI b fr lf hd (cy++[n]) ch m z (j.set 1 (.box [ch,.f (fi fr),.f (fi lf),m] 0)):=by
 obtain⟨s,d⟩:∃ s:ai,s=J++[.box ([fi n].map .f) 0]:=⟨_,rfl⟩;have up:∀ i y,J[i]?=some y→s[i]?=some y:=fun i y hy=>by rw [d,AT (ak hy)];exact hy
 have v:LR s cc 1 (ints cy):=by rw [d];exact k.lc.push _
 have E:s[J.length]?=some (.box ([fi n].map .f) 0):=by rw [d];simp
 obtain⟨m,j,l,q,u,F⟩:=v.app (kR cy) (by decide) (row:=[fi n]) rfl (bytes:=8) (cd (by simp [ints];omega) (by decide)) E
 have A:∀(i:Nat) (cs:List C) (B:Nat),J[i]?=some (.box cs B)→j[i]?=some (.box cs B):=fun i cs B hy=>u.2 i _ (up _ _ hy) (v.cB (up _ _ hy))
 have g:=A _ _ _ k.pb;have I:ints cy++[[fi n]]=ints (cy++[n]):=by simp [ints]
 rw [I]at q;have x:LR j ch 1 (ints hd):=k.lh.bN fun i y hy hi=>u.2 i y (up _ _ hy) (k.ne i hi)
 refine⟨m,j,by rw [d]at l;exact l,by simp [df,g,over],fun z g0 g2 g3=>⟨?_,OF (ak g),x.set (x.cB g) _,q.set (q.cB g) _,?_,g0,g2,g3⟩⟩
 ·rw [By (by decide)];exact A _ _ _ k.res
 ·intro i hi;rcases F with e | e
  ·rw [e];exact k.ne i hi
  ·rw [e];intro H;cases H;have:=k.lh.lt hi;have K:s.length=J.length+1:=by rw [d];simp
   omega
theorem FI.aaD(k:FI b fr lf hd cy ch cc t J)(L:hd.length≤1000)(n:Int) :
  ∃ m j,bz (J++[.box [.f (fi n)] 0]) 1 8 (.c ch) (.c (.sl J.length 0 1 1 0 1))=some (.c m,j)∧df j (.ptr 1 0 0) [m]=some (j.set 1 (.box [m,.f (fi fr),.f (fi lf),cc] 0)) ∧
   ∀ A:T,A.g 0=b→A.g 2=.c (.ptr 0 0 0)→A.g 3=.c (.ptr 1 0 0)→FI b fr lf (hd++[n]) cy m cc A (j.set 1 (.box [m,.f (fi fr),.f (fi lf),cc] 0)):=by
 obtain⟨s,d⟩:∃ s:ai,s=J++[.box ([fi n].map .f) 0]:=⟨_,rfl⟩;have up:∀ i y,J[i]?=some y→s[i]?=some y:=fun i y hy=>by rw [d,AT (ak hy)];exact hy
 have v:LR s ch 1 (ints hd):=by rw [d];exact k.lh.push _
 have F:s[J.length]?=some (.box ([fi n].map .f) 0):=by rw [d];simp
 obtain⟨m,j,l,q,u,H⟩:=v.app (kR hd) (by decide) (row:=[fi n]) rfl (bytes:=8) (cd (by simp [ints];omega) (by decide)) F
 have B:∀(i:Nat) (cs:List C) (E:Nat),J[i]?=some (.box cs E)→j[i]?=some (.box cs E):=fun i cs E hy=>u.2 i _ (up _ _ hy) (v.cB (up _ _ hy))
 have g:=B _ _ _ k.pb;have I:ints hd++[[fi n]]=ints (hd++[n]):=by simp [ints]
 rw [I]at q;have x:LR j cc 1 (ints cy):=k.lc.bN fun i y hy hi=>u.2 i y (up _ _ hy) (fun e=>k.ne i e hi)
 refine⟨m,j,by rw [d]at l;exact l,by simp [df,g,over],fun A g0 g2 g3=>⟨?_,OF (ak g),q.set (q.cB g) _,x.set (x.cB g) _,?_,g0,g2,g3⟩⟩
 ·rw [By (by decide)];exact B _ _ _ k.res
 ·intro i hi z;rcases H with e | e
  ·rw [e]at hi;exact k.ne i hi z
  ·rw [e]at hi;cases hi;have:=k.lc.lt z;have K:s.length=J.length+1:=by rw [d];simp
   omega
end
end
section
theorem ab2(a:Int)(j:Nat):bJ .shr (vi a) (vi j)=some (vi (a.fdiv (2 ^ (min j 64)))):=by
 have:¬ ((j:Int)<0):=by omega
 simp only [bJ,this,if_false];rw [Int.toNat_natCast];rfl
theorem IQ(a:Int)(j:Nat):bJ .rem (vi (a.fdiv (2 ^ (min j 64)))) (vi 2)=some (vi ((a.fdiv (2 ^ (min j 64))).tmod 2)):=by
 simp [bJ,jJ,V.int]
theorem wu(g:Tg){b:List Nat}(s:∀ n ∈ b,n<256)(m:b.length≤9223372036854775807) :
  ∃ p:cq,fJ p=true∧Km.Pure tab.get Hg [.c (.f (sl g (bM b)))]=Eq (.a (p.row.map .f)):=by
 obtain⟨U,⟨p,hp,rfl⟩,S⟩:∃ U,(∃ p:cq,fJ p=true∧U=.a (p.row.map .f))∧Km.Pure tab.get Hg [.c (.f (sl g (bM b)))] U:=by
  refine ca anA rfl fun Q hQ=>?_
  have X:Km.Pure tab.get jo [.c (.f (sl g (bM b))),vi 0]=Eq (vi (uq b 0:Nat)):=xG g b s m 0 (by decide)
  have a1:Km.Pure tab.get jo [.c (.f (sl g (bM b))),vi 1]=Eq (vi (uq b 1:Nat)):=xG g b s m 1 (by decide)
  have Y:Km.Pure tab.get jo [.c (.f (sl g (bM b))),vi 2]=Eq (vi (uq b 2:Nat)):=xG g b s m 2 (by decide)
  have Z:Km.Pure tab.get jo [.c (.f (sl g (bM b))),vi 3]=Eq (vi (uq b 3:Nat)):=xG g b s m 3 (by decide)
  have a4:Km.Pure tab.get jo [.c (.f (sl g (bM b))),vi 4]=Eq (vi (uq b 4:Nat)):=xG g b s m 4 (by decide)
  have b0:=zH s 0;have b1:=zH s 1;have b2:=zH s 2;have b3:=zH s 3;obtain⟨fr,I⟩:∃ fr:Nat,fr=uq b 1 % 9:=⟨_,rfl⟩;obtain⟨lf,E⟩:∃ lf:Nat,lf=1+uq b 0 % 12:=⟨_,rfl⟩;have r1:bJ .rem (vi (uq b 1:Nat)) (vi 9)=some (vi fr):=by rw [jR (by omega) (by decide),I];simp
  have r0:bJ .rem (vi (uq b 0:Nat)) (vi 12)=some (vi (uq b 0 % 12:Nat)):=by rw [jR (by omega) (by decide)];simp
  have w0:IntKind.i64.wrap (1+(uq b 0:Int) % 12)=lf:=by rw [wrap64 (by omega) (by omega),E];simp
  have w3:IntKind.i64.wrap (256*(uq b 3:Int))=256*(uq b 3:Int):=wrap64 (by omega) (by omega)
  obtain⟨bits,z⟩:∃ x,x=IntKind.i64.wrap ((uq b 2:Int)+256*(uq b 3:Int)):=⟨_,rfl⟩;refine ae ?_;simp;refine ae ?_;simp [X,a1,r0,r1,w0];refine ae ?_;simp [Y,Z,w3,←z];refine ag (ae ?_);simp
  refine bZ lf (fun j t J=>∃ cy cc,Up cy j∧FI (.c (.f (sl g (bM b)))) fr lf [] cy (.f .ay) cc t J∧t.g 4=vi bits) (by omega) (by decide) (by simp)
   ⟨[],.f .ay,Up.nil,⟨rfl,rfl,LR.nil _ _,LR.nil _ _,(fun i h=>by cases h),by simp,by simp,by simp⟩,by simp⟩ ?_ ?_ ?_
  ·rintro j t J L K ⟨cy,cc,u,k,q⟩ d O;simp [d,k.g3,k.pb,aF];exact O _ ⟨cy,cc,u,k.to (by simp [k.g0]) (by simp [k.g2]) (by simp [k.g3]),by simp [q]⟩ (by simp [d]) (by simp)
  ·rintro j t J K ⟨cy,cc,u,k,q⟩ d F;refine av (ae ?_);simp [d,q,ab2,IQ];by_cases B:(bits.fdiv (2 ^ (min j 64))).tmod 2=1
   ·simp [B];refine aj (by simp) (ab (.inl rfl) ?_)
    obtain⟨c3,W,l,A,M⟩:=k.af2 (by have:=u.2.2;omega) j
    simp [d,k.g3,k.pb,aF,l,A,-ba];refine al (F _ _ ⟨_,_,u.app,M _ (by simp [k.g0]) (by simp [k.g2]) (by simp [k.g3]),by simp [q]⟩ (by simp [d]))
   ·simp [B];refine aY (by simp) ?_
    refine al (F _ _ ⟨_,_,u.skip,k.to (by simp [k.g0]) (by simp [k.g2]) (by simp [k.g3]),by simp [q]⟩ (by simp [d]))
  rintro t J ⟨cy,cc,u,k,q⟩ d;refine ag (ae ?_);simp
  refine bZ fr (fun j t J=>∃ hd ch,Up hd j∧FI (.c (.f (sl g (bM b)))) fr lf hd cy ch cc t J) (by omega) (by decide) (by simp)
   ⟨[],.f .ay,Up.nil,k.to (by simp [k.g0]) (by simp [k.g2]) (by simp [k.g3])⟩ ?_ ?_ ?_
  ·clear k q d;rintro j t J L K ⟨hd,ch,v,k⟩ d O;simp [d,k.g3,k.pb,aF];exact O _ ⟨hd,ch,v,k.to (by simp [k.g0]) (by simp [k.g2]) (by simp [k.g3])⟩ (by simp [d]) (by simp)
  ·clear k q d;rintro j t J K ⟨hd,ch,v,k⟩ d F;refine av (ae ?_);simp [d,k.g0,a4,ab2,IQ];by_cases B:((uq b 4:Int).fdiv (2 ^ (min j 64))).tmod 2=1
   ·simp [B];refine aj (by simp) (ab (.inl rfl) ?_)
    obtain⟨c3,W,l,A,M⟩:=k.aaD (by have:=v.2.2;omega) j
    simp [d,k.g3,k.pb,aF,l,A,-ba];refine al (F _ _ ⟨_,_,v.app,M _ (by simp [k.g0]) (by simp [k.g2]) (by simp [k.g3])⟩ (by simp [d]))
   ·simp [B];refine aY (by simp) ?_
    refine al (F _ _ ⟨_,_,v.skip,k.to (by simp [k.g0]) (by simp [k.g2]) (by simp [k.g3])⟩ (by simp [d]))
  clear k q d;rintro t J ⟨hd,ch,v,k⟩ d;refine ae ?_;simp [k.g2,k.g3,k.pb,k.res,aF];obtain⟨hg,hh⟩:=k.lh.exU (kR _);obtain⟨cg,hc⟩:=k.lc.exU (kR _);have N:=ak k.res
  have e1:=hh (J.set 0 (.box [ch,.f (fi fr),.f (fi lf),cc] 0)) 63 fun i y hi H=>by
   rw [By (by rintro rfl;exact k.lh.cB k.res H)];exact hi
  have e2:=hc (J.set 0 (.box [ch,.f (fi fr),.f (fi lf),cc] 0)) 63 fun i y hi H=>by
   rw [By (by rintro rfl;exact k.lc.cB k.res H)];exact hi
  refine aA (hQ _ _ _ ⟨⟨hg,hd,fr,lf,cg,cy⟩,?_,rfl⟩ ⟨rfl,.a [ch,.f (fi fr),.f (fi lf),cc],?_,?_⟩)
  ·have B:=u.2.2;have h2:=v.2.2;have h3:=u.rising;have h4:=v.rising;simp [fJ,h3,h4];omega
  ·simp [Km.results,bG,aU,k.g2,N,aF]
  ·simp [iN,bX,aU,deep,e1,e2,cq.row]
 exact⟨p,hp,S.eq⟩
end
section
def gi(J:ai)(c:C)(fs:List cq):Prop:=
 (∃ p m,fs=[p]∧c=.sl m 0 1 1 0 4∧J[m]?=some (.box (p.row.map .f) 0))∨(fs≠[]∧LR J c 4 (bW fs))
theorem AA(fs:List cq)(q:cq):bW fs++[q.row]=bW (fs++[q]):=by simp [bW]
section
variable{J J':ai}{c:C}{fs:List cq}
theorem gi.bN(h:gi J c fs)(b:∀ i y,J[i]?=some y→aL c=some i→J'[i]?=some y):gi J' c fs:=by
 rcases h with⟨p,m,rfl,rfl,h⟩ | ⟨h,d⟩
 ·exact .inl ⟨p,m,rfl,rfl,b m _ h rfl⟩
 ·exact .inr ⟨h,d.bN b⟩
theorem gi.push(h:gi J c fs)(L:ai):gi (J++L) c fs:=h.bN fun i y hy _=>by rw [AT (ak hy)];exact hy
theorem gi.len(h:gi J c fs):bA J c=some fs.length:=by
 rcases h with⟨p,m,rfl,rfl,h⟩ | ⟨h,b⟩
 ·simp [bA,h]
 ·simpa using b.len
theorem gi.aX(h:gi J c fs):∃ m,aL c=some m∧m<J.length∧∀ cs g d st,J[m]?≠some (.bE 1 cs g d st):=by
 rcases h with⟨p,m,rfl,rfl,h⟩ | ⟨h,⟨l,_⟩ | ⟨_,b,d,rfl,j⟩⟩
 ·exact⟨m,rfl,ak h,fun cs g d st e=>by rw [h]at e;cases e⟩
 ·exact absurd (by simpa [bW]using l) h
 ·unfold RB at j;exact⟨b,rfl,ak j,fun cs g d st e=>by rw [j]at e;cases e⟩
theorem gi.app(h:gi J c fs)(B:fs.length≤10)(q:cq){b1:Nat}(j:J[b1]?=some (.box (q.row.map .f) 0)) :
  ∃ l s,bz J 4 64 (.c c) (.c (.sl b1 0 1 1 0 4))=some (.c l,s)∧gi s l (fs++[q])∧Kb J s c∧(aL l=aL c∨aL l=some J.length):=by
 rcases h with⟨p,m,rfl,rfl,h⟩ | ⟨h,A⟩
 ·have d:cM J 4 (.c (.sl b1 0 1 1 0 4))=some (1,q.row.map .f):=jX j rfl;have b:bI 2 64=true:=cd (by decide) (by decide)
  refine⟨.sl J.length 0 2 0 0 4,J++[.bE 4 (p.row.map .f++q.row.map .f) 0 0 .loc],?_,.inr ⟨by simp,.inr ⟨by simp [bW],J.length,0,rfl,?_⟩⟩,Kb.push _ _ _,.inr rfl⟩
  ·simp [bz,d,h,b,cq.row]
  ·unfold RB;simp [bW]
 ·obtain⟨z,y,g,v,u,x⟩:=A.app (iE fs) (by decide) (row:=q.row) rfl (bytes:=64) (cd (by simp;omega) (by decide)) j
  exact⟨z,y,g,.inr ⟨by simp,AA fs q▸v⟩,u,x⟩
theorem gi.ex(h:gi J c fs)(n:Nat):cW (n+1) J c=some (sl .fs (bW fs)):=by
 rcases h with⟨p,m,rfl,rfl,h⟩ | ⟨h,b⟩
 ·simp [iV,h,bW,sl,cq.row,aU]
 ·obtain⟨g,e⟩:=b.ex (iE fs) n;rw [e,ab5 (g':=.fs) (by simpa [bW]using h)]
end
inductive Hv{α β:Type}(R:α→β→Prop):List α→List β→Prop
 | nil:Hv R [] []
 | cons {a b l m}:R a b→Hv R l m→Hv R (a::l) (b::m)
def TL(J:ai)(ct:C)(ts:List (List cq)):Prop:=(ts=[]∧ct=.f .ay) ∨
 (ts≠[]∧∃ b d cs,ct=.sl b 0 ts.length 0 d 1∧J[b]?=some (.bE 1 cs 0 d .loc)∧Hv (gi J) cs ts∧cs.Pairwise (fun a b=>aL a≠aL b))
theorem gU{d g:Type}{R S:d→g→Prop}:∀ {l:List d} {m:List g},Hv R l m→(∀ a b,a ∈ l→R a b→S a b)→Hv S l m
 | [],[],_,_=>.nil
 | a::l,b::m,.cons h t,hi=>.cons (hi a b avQ h) (gU t fun x y j=>hi x y (avZ _ j))
theorem ju{b d:Type}{R:b→d→Prop}:∀ {l:List b} {m:List d},Hv R l m→l.length=m.length
 | [],[],_=>rfl
 | _::_,_::_,.cons _ t=>by simp [ju t]
theorem kP{d g:Type}{R:d→g→Prop}:∀ {l:List d} {m:List g},Hv R l m→∀ {a b},R a b→Hv R (l++[a]) (m++[b])
 | [],[],_,a,b,h=>.cons h .nil
 | _::_,_::_,.cons h t,a,b,j=>.cons h (kP t j)
theorem mG{j g:Type}{R:j→g→Prop}:∀ {l:List j} {m:List g} {b:g},Hv R l (m++[b])→∃ d a,l=d++[a]∧Hv R d m∧R a b
 | _,[],b,h=>by
  cases h with
  | cons h t=>cases t;exact⟨[],_,rfl,.nil,h⟩
 | _,y::m,b,h=>by
  cases h with
  | cons h t=>
   obtain⟨d,a,rfl,q,s⟩:=mG t;exact⟨_::d,a,rfl,.cons h q,s⟩
theorem mF{g j:Type}{R:g→j→Prop}:∀ {l:List g} {m:List j},Hv R l m→∀ a ∈ l,∃ b,R a b
 | [],[],_,a,h=>by cases h
 | x::_,y::_,.cons h t,a,d=>by
  rcases awf.1 d with rfl | d
  ·exact⟨y,h⟩
  ·exact mF t a d
section
variable{J J':ai}{ct:C}{ts:List (List cq)}
theorem TL.bN(h:TL J ct ts)(v:∀ i y,J[i]?=some y→i≠0→i≠1→J'[i]?=some y)(g:∃ x s,J[0]?=some (.box [x] s))(j:∃ x s,J[1]?=some (.box [x] s)):TL J' ct ts:=by
 obtain⟨I,F,g⟩:=g;obtain⟨K,H,j⟩:=j;rcases h with h | ⟨h,b,z,cs,rfl,l,B,E⟩
 ·exact .inl h
 ·refine .inr ⟨h,b,z,cs,rfl,v _ _ l (by rintro rfl;rw [g]at l;cases l) (by rintro rfl;rw [j]at l;cases l),gU B fun c fs _ hi=>hi.bN fun i y hy q=>v i y hy ?_ ?_,E⟩
  all_goals
   rintro rfl;rcases hi with⟨p,m,rfl,rfl,d⟩ | ⟨u,⟨e,_⟩ | ⟨_,m,A,rfl,d⟩⟩
   ·cases q
    first | (rw [g]at d;simp [cq.row]at d) | (rw [j]at d;simp [cq.row]at d)
   ·exact u (by simpa [bW]using e)
   ·cases q;unfold RB at d
    first | (rw [g]at d;cases d) | (rw [j]at d;cases d)
theorem TL.push(h:TL J ct ts)(L:ai):TL (J++L) ct ts:=by
 rcases h with h | ⟨h,b,g,cs,rfl,d,j,l⟩
 ·exact .inl h
 ·exact .inr ⟨h,b,g,cs,rfl,by rw [AT (ak d)];exact d,gU j fun c fs _ hi=>hi.push L,l⟩
theorem TL.len(h:TL J ct ts):bA J ct=some ts.length:=by
 rcases h with⟨rfl,rfl⟩ | ⟨h,b,g,cs,rfl,d,j,l⟩
 ·rfl
 ·simp [bA,d]
theorem pS{d j s:Type}{R:d→j→Prop}{g:d→Option s}{k:j→s}(q:∀ a b,R a b→g a=some (k b)):∀ {l:List d} {m:List j},Hv R l m→aU g l=some (m.map k)
 | [],[],_=>rfl
 | _::_,_::_,.cons h t=>by simp only [aU,q _ _ h,pS q t,anc]
theorem lQ:∀ {l:List (List cq)},(l.map fun fs=>[sl .fs (bW fs)]).flatten=l.map fun fs=>sl .fs (bW fs)
 | []=>rfl
 | x::l=>by simp [lQ (l:=l)]
theorem TL.ex(h:TL J ct ts)(n:Nat):∃ g,cW (n+2) J ct=some (sl g (bL (ts.map fun fs=>⟨.fs,fs⟩))):=by
 rcases h with⟨rfl,rfl⟩ | ⟨h,b,s,cs,rfl,m,j,v⟩
 ·exact⟨.nil,rfl⟩
 ·refine⟨.fs,?_⟩;have u:=ju j;have q:=pS (g:=cW (n+1) J) (k:=fun fs=>sl .fs (bW fs)) (fun c fs hi=>hi.ex n) j
  simp only [iV,m];rw [if_pos ⟨trivial,trivial,by omega⟩,List.drop_zero,avS (by omega),q]
  have d:¬ (bL (ts.map fun fs=>(⟨.fs,fs⟩:dH))).isEmpty=true:=by simpa [bL]using h
  have e:(bL (ts.map fun fs=>(⟨.fs,fs⟩:dH))).flatten=ts.map fun fs=>sl .fs (bW fs):=by
   simp only [bL,List.map_map];exact lQ
  have l:(bL (ts.map fun fs=>(⟨.fs,fs⟩:dH))).length=ts.length:=by simp
  have es:sl .fs (bL (ts.map fun fs=>(⟨.fs,fs⟩:dH)))=.fs (ts.map fun fs=>sl .fs (bW fs)) ts.length:=by
   rw [←e,←l];unfold sl;rw [if_neg d]
  rw [es];rfl
end
end
section
structure SI(J:ai)(ct:C)(ts:List (List cq)):Prop where
 res:J[0]?=some (.box [.f .ay] 0)
 out:J[1]?=some (.box [ct] 0)
 tl:TL J ct ts
theorem SI.push{J:ai}{ct:C}{ts:List (List cq)}(h:SI J ct ts)(L:ai):SI (J++L) ct ts:=
 ⟨by rw [AT (ak h.res)];exact h.res,by rw [AT (ak h.out)];exact h.out,h.tl.push L⟩
theorem IB{R:C→C→Prop}{l:List C}{a:C}(h:l.Pairwise R)(d:∀ x ∈ l,R x a):(l++[a]).Pairwise R:=by
 rw [awA];exact⟨h,awo _ _,fun x g y b=>by simp at b;subst b;exact d x g⟩
theorem SI.new{J:ai}{ct:C}{ts:List (List cq)}(h:SI J ct ts)(hl:ts.length≤10)(q:cq) :
  ∃ E u,bz (J++[.box (q.row.map .f) 0]++[.box [.sl J.length 0 1 1 0 4] 0]) 1 24 (.c ct) (.c (.sl (J.length+1) 0 1 1 0 1))=some (.c E,u)∧df u (.ptr 1 0 0) [E]=some (u.set 1 (.box [E] 0))∧SI (u.set 1 (.box [E] 0)) E (ts++[[q]]):=by
 obtain⟨L,s⟩:∃ L:ai,L=J++[.box (q.row.map .f) 0]:=⟨_,rfl⟩;obtain⟨j,l⟩:∃ j:ai,j=L++[.box [.sl J.length 0 1 1 0 4] 0]:=⟨_,rfl⟩;rw [←s,←l];have l1:L.length=J.length+1:=by rw [s];simp
 have l2:j.length=J.length+2:=by rw [l];simp [l1]
 have x:SI j ct ts:=by rw [l,s];exact(h.push _).push _
 have M:j[J.length]?=some (.box (q.row.map .f) 0):=by rw [l,AT (by omega),s];simp
 have bx:j[J.length+1]?=some (.box [.sl J.length 0 1 1 0 4] 0):=by rw [l,←l1];simp
 have z:cM j 1 (.c (.sl (J.length+1) 0 1 1 0 1))=some (1,[.sl J.length 0 1 1 0 4]):=by simp [cM,bA,cH,bx]
 have g:bI (ts.length+1) 24=true:=cd (by omega) (by decide)
 have h0:=ak h.res;have h1:=ak h.out;rcases x.tl with⟨X,Y⟩ | ⟨A,b,H,cs,rfl,v,U,hp⟩
 ·subst X Y;have g:bI 1 24=true:=cd (by decide) (by decide)
  refine⟨.sl j.length 0 1 0 0 1,j++[.bE 1 [.sl J.length 0 1 1 0 4] 0 0 .loc],?_,?_,?_,?_,?_⟩
  ·simp [bz,z,g]
  ·have:(j++[.bE 1 [.sl J.length 0 1 1 0 4] 0 0 .loc])[1]?=some (.box [.f .ay] 0):=by rw [AT (by omega)];exact x.out
   simp [df,this,over]
  ·rw [By (by decide),AT (by omega)];exact x.res
  ·rw [OF (by simp;omega)]
  ·refine .inr ⟨by simp,j.length,0,[.sl J.length 0 1 1 0 4],rfl,?_,.cons (.inl ⟨q,J.length,rfl,rfl,?_⟩) .nil,awo _ _⟩
   ·rw [By (by omega)];simp
   ·rw [By (by omega),AT (by omega)];exact M
 ·have Q:=ju U;have b1:b≠1:=by rintro rfl;rw [x.out]at v;cases v
  have b0:b≠0:=by rintro rfl;rw [x.res]at v;cases v
  have W:=ak v;obtain⟨u,d⟩:∃ u:ai,u=j.set b (.bE 1 (cs++[.sl J.length 0 1 1 0 4]) 0 (H+1) .loc):=⟨_,rfl⟩;have O:u[1]?=some (.box [.sl b 0 ts.length 0 H 1] 0):=by rw [d,By b1];exact x.out
  have lH:u.length=j.length:=by rw [d];simp
  refine⟨.sl b 0 (ts.length+1) 0 (H+1) 1,u,?_,?_,?_,?_,?_⟩
  ·simp [bz,z,g,v,Q,d]
  ·simp [df,O,over]
  ·rw [By (by decide),d,By b0];exact x.res
  ·rw [OF (by omega)]
  ·refine .inr ⟨by simp,b,H+1,cs++[.sl J.length 0 1 1 0 4],by simp,?_,kP (gU U fun c fs hc hi=>?_) (.inl ⟨q,J.length,rfl,rfl,?_⟩),IB hp fun c hc=>?_⟩
   ·rw [By (Ne.symm b1),d,OF W]
   ·obtain⟨m,F,lm,om⟩:=hi.aX;refine hi.bN fun i y hy K=>?_
    rw [F]at K;cases K
    have m1:1≠m:=by
     rintro rfl;rcases hi with⟨p,m,rfl,rfl,B⟩ | ⟨A,⟨e,_⟩ | ⟨_,m,N,rfl,B⟩⟩
     ·cases F;rw [x.out]at B;simp [cq.row]at B
     ·exact A (by simpa [bW]using e)
     ·cases F;unfold RB at B;rw [x.out]at B;cases B
    have mb:b≠m:=by rintro rfl;exact om _ _ _ _ v
    rw [By m1,d,By mb];exact hy
   ·rw [By (by omega),d,By (by rintro rfl;rw [M]at v;cases v)];exact M
   ·have Z:Hv (gi J) cs ts:=by
     rcases h.tl with⟨e,_⟩ | ⟨_,b',N,cs',e,I,S,_⟩
     ·exact absurd e A
     ·cases e;have:j[b]?=some (.bE 1 cs' 0 H .loc):=by rw [l,s,awh,AT (ak I)];exact I
      rw [v]at this;cases this;exact S
    obtain⟨fs,hi⟩:=mF Z c hc;obtain⟨m,F,lm,om⟩:=hi.aX;rw [F];intro e;cases e;omega
theorem SI.more{J:ai}{ct:C}{ts:List (List cq)}{fs:List cq}(h:SI J ct (ts++[fs]))(hl:fs.length≤10)(q:cq) :
  ∃ b l c,aG J 1 none (.c ct) (vi ts.length)=some (.c (.ptr b ts.length l))∧aQ J none (.c (.ptr b ts.length l))=some (.c c)∧bA J c=some fs.length ∧
   ∃ H z,bz (J++[.box (q.row.map .f) 0]) 4 64 (.c c) (.c (.sl J.length 0 1 1 0 4))=some (.c H,z)∧aG z 1 none (.c ct) (vi ts.length)=some (.c (.ptr b ts.length l))∧z[1]?=some (.box [ct] 0) ∧
    ∃ H2,df z (.ptr b ts.length l) [H]=some H2∧SI H2 ct (ts++[fs++[q]]):=by
 rcases h.tl with⟨e,_⟩ | ⟨_,b,l,cs,rfl,s,hf,hp⟩
 ·simp at e
 obtain⟨cs',c,rfl,E,hi⟩:=mG hf;have I:=ju E;obtain⟨B,d⟩:∃ B:ai,B=J++[.box (q.row.map .f) 0]:=⟨_,rfl⟩;have l1:B.length=J.length+1:=by rw [d];simp
 have k1:SI B (.sl b 0 (ts++[fs]).length 0 l 1) (ts++[fs]):=by rw [d];exact h.push _
 have bq:B[J.length]?=some (.box (q.row.map .f) 0):=by rw [d];simp
 have U:gi B c fs:=by rw [d];exact hi.push _
 obtain⟨m,N,lm,om⟩:=hi.aX;obtain⟨H,z,A,K,hK,S⟩:=U.app hl q bq;have up:∀ i y,J[i]?=some y→B[i]?=some y:=fun i y hy=>by rw [d,AT (ak hy)];exact hy
 have x:∀ i y,J[i]?=some y→i≠m→z[i]?=some y:=fun i y hy F=>hK.2 i y (up i y hy) (by rw [N];intro e;cases e;exact F rfl)
 have mb:b≠m:=by rintro rfl;exact om _ _ _ _ s
 have u:=x _ _ s mb
 have L:m≠0∧m≠1:=by
  rcases hi with⟨p,X,rfl,rfl,j⟩ | ⟨F,⟨e,_⟩ | ⟨_,X,a8,rfl,j⟩⟩
  ·cases N;exact⟨by rintro rfl;rw [h.res]at j;simp [cq.row]at j,by rintro rfl;rw [h.out]at j;simp [cq.row]at j⟩
  ·exact absurd (by simpa [bW]using e) F
  ·cases N;unfold RB at j;exact⟨(by rintro rfl;rw [h.res]at j;cases j),(by rintro rfl;rw [h.out]at j;cases j)⟩
 have r0:=x _ _ h.res (Ne.symm L.1);have r1:=x _ _ h.out (Ne.symm L.2);have b0:b≠0:=by rintro rfl;rw [h.res]at s;cases s
 have b1:b≠1:=by rintro rfl;rw [h.out]at s;cases s
 obtain⟨X,Q,a_,Z⟩:=K.aX;have Y:b≠X:=by rintro rfl;exact Z _ _ _ _ u
 rw [awA]at hp;obtain⟨p1,-,p3⟩:=hp;refine⟨b,l,c,?_,?_,hi.len,H,z,by rw [d]at A;exact A,?_,r1,z.set b (.bE 1 (cs'++[H]) 0 l .loc),?_,?_,?_,?_⟩
 ·simp [aG,dk,s];omega
 ·simp [aQ,az,s,←I,aF]
 ·simp [aG,dk,u];omega
 ·simp [df,u,over,←I]
 ·rw [By b0];exact r0
 ·rw [By b1];simpa using r1
 ·refine .inr ⟨by simp,b,l,cs'++[H],by simp,OF (ak u),kP (gU E fun a f O v=>?_) (K.bN fun i y hy g=>?_),IB p1 fun a O=>?_⟩
  ·obtain⟨k,M,lk,ok⟩:=v.aX;refine v.bN fun i y hy g=>?_
   rw [M]at g;cases g
   have W:k≠m:=by
    have:=p3 a O c (by simp)
    rw [M,N]at this;exact fun e=>this (by rw [e])
   rw [By (by rintro rfl;exact ok _ _ _ _ s)]
   exact x _ _ hy W
  ·rw [Q]at g;cases g;rw [By Y];exact hy
  ·rcases S with e | e
   ·rw [e];exact p3 a O c (by simp)
   ·obtain⟨f,v⟩:=mF E a O;obtain⟨k,M,lk,ok⟩:=v.aX;rw [e,M];intro e2;cases e2;omega
end
section
abbrev I5:=Tg × List Nat
def oa(b:I5):Prop:=b.2.length≤9223372036854775807∧∀ n ∈ b.2,n<256
def eU(l:List I5):List (List FC):=l.map fun b=>[sl b.1 (bM b.2)]
@[simp] theorem aj_ (l:List I5):(eU l).length=l.length:=by simp [eU]
theorem Cu(l:List I5):bC 1 (eU l):=bC.map fun _=>rfl
theorem apq{j:Nat}{l:List I5}(b:j<l.length){H:ai}:aQ H none (.c (.f (.fp (eU l).flatten j)))=some (.c (.f (sl l[j].1 (bM l[j].2)))):=by
 have:=gN (H:=H) (rows:=eU l) (j:=j) (sz:=1) (row:=[sl l[j].1 (bM l[j].2)]) (x:=sl l[j].1 (bM l[j].2)) (Cu l) (by simp [eU,b]) rfl
 simpa using this
theorem aku{j:Nat}{l:List I5}{g:Tg}(b:j<l.length){H:ai}:aG H 1 none (.c (.f (sl g (eU l)))) (vi j)=some (.c (.f (.fp (eU l).flatten j))):=by
 have:=cT (H:=H) (g:=g) (rows:=eU l) (sz:=1) (k:=.i64) (i:=(j:Int)) (by omega) (by simp;omega)
 simpa using this
def zC(ts:List (List cq)):Prop:=ts.length≤3∧∀ fs ∈ ts,fs≠[]∧fs.length≤3∧∀ p ∈ fs,fJ p=true
theorem zC.new{ts:List (List cq)}(h:zC ts)(j:ts.length<3){p:cq}(g:fJ p=true):zC (ts++[[p]]):=by
 refine⟨by simp;omega,fun fs b=>?_⟩
 rcases av1.1 b with b | b
 ·exact h.2 fs b
 ·simp at b;subst b;exact⟨by simp,by simp,fun q d=>by simp at d;subst d;exact g⟩
theorem zC.more{ts:List (List cq)}{fs:List cq}(h:zC (ts++[fs]))(l:fs.length<3){p:cq}(j:fJ p=true):zC (ts++[fs++[p]]):=by
 refine⟨by have:=h.1;simpa using this,fun d hg=>?_⟩
 rcases av1.1 hg with hg | hg
 ·exact h.2 d (awY _ hg)
 ·simp at hg;subst hg;have g:=(h.2 fs (by simp)).2.2
  refine⟨by simp,by simp;omega,fun q b=>?_⟩
  rcases av1.1 b with b | b
  ·exact g q b
  ·simp at b;subst b;exact j
theorem zC.mix{ts:List (List cq)}(h:zC ts):oy (ts.map fun fs=>⟨.fs,fs⟩)=true:=by
 have j:=h.1;simp only [oy,If,decide_eq_true_eq,avP,av7];refine⟨by omega,fun t g=>?_⟩
 obtain⟨fs,d,rfl⟩:=av9.1 g;obtain⟨a,b,c⟩:=h.2 fs d;have:=aww.2 a;simp only [kA,If,decide_eq_true_eq,avP];exact⟨⟨by omega,by omega⟩,c⟩
theorem aa0(g:Tg){l:List I5}(hl:l.length≤9223372036854775807)(hb:∀ b ∈ l,oa b) :
  ∃ tg ts,oy ts=true∧Km.Pure tab.get ud [.c (.f (sl g (eU l)))]=Eq (.a [.f (sl tg (bL ts))]):=by
 obtain⟨rr,⟨tg,ts,hm,rfl⟩,hp⟩:∃ rr,(∃ tg ts,oy ts=true∧rr=.a [.f (sl tg (bL ts))])∧Km.Pure tab.get ud [.c (.f (sl g (eU l)))] rr:=by
  refine ca anz rfl fun Q hQ=>?_
  obtain⟨N,hN⟩:∃ N,N=min l.length 9:=⟨_,rfl⟩;refine ae ?_;simp;refine ae ?_;simp;refine ag (ae ?_);simp
  refine bZ N (fun j t J=>∃ ct ts,zC ts∧SI J ct ts∧t.g 0=.c (.f (sl g (eU l)))∧t.g 2=.c (.ptr 0 0 0)∧t.g 3=.c (.ptr 1 0 0)) (by omega) (by decide) (by simp)
   ⟨.f .ay,[],⟨by simp,by simp⟩,⟨rfl,rfl,.inl ⟨rfl,rfl⟩⟩,by simp,by simp,by simp⟩ ?_ ?_ ?_
  ·rintro j t J L hj ⟨ct,ts,M,k,m,v,d⟩ z hn;by_cases c1:(j:Int)<l.length
   ·simp [z,m,c1];exact hn _ ⟨ct,ts,M,k,by simp [m],by simp [v],by simp [d]⟩ (by simp [z]) (by simp;omega)
   ·simp [z,m,c1];exact hn _ ⟨ct,ts,M,k,by simp [m],by simp [v],by simp [d]⟩ (by simp [z]) (by simp;omega)
  ·rintro j t J hj ⟨ct,ts,M,k,m,v,d⟩ z nx;have Z:j<l.length:=by omega
   obtain⟨bl,bb⟩:=hb _ (IT Z);obtain⟨p,c9,f_⟩:=wu l[j].1 bb bl;have E:Km.Pure tab.get jo [.c (.f (sl l[j].1 (bM l[j].2))),vi 0]=Eq (vi (uq l[j].2 0:Nat)):=xG l[j].1 l[j].2 bb bl 0 (by decide)
   obtain⟨a,d8⟩:∃ a,a=(uq l[j].2 0:Int):=⟨_,rfl⟩;rw [←d8]at E;have ii:=fun H=>aku (g:=g) Z (H:=H)
   have dd:=fun H=>apq Z (H:=H)
   have d6:=k.tl.len;have a_:aQ J none (.c (.ptr 1 0 0))=some (.c ct):=by simp [aQ,az,k.out,aF]
   refine av (ae ?_);simp [d,a_,-an,d6];refine ae ?_;simp [m,z,ii,dd,f_,cq.row,-an];obtain⟨B,F⟩:∃ B:ai,B=J++[.box (p.row.map .f) 0]:=⟨_,rfl⟩;have k1:SI B ct ts:=by rw [F];exact k.push _
   have l1:B.length=J.length+1:=by rw [F];simp
   have bx:B[J.length]?=some (.box (p.row.map .f) 0):=by rw [F];simp
   have b7:aQ B (some 4) (.c (.ptr J.length 0 0))=some (.a [.f (sl p.hg (ints p.head)),.f (fi p.fr),.f (fi p.lf),.f (sl p.cg (ints p.cyc))]):=by simp [aQ,az,bx,aF,cq.row]
   have x:aQ B none (.c (.ptr 1 0 0))=some (.c ct):=by simp [aQ,az,k1.out,aF]
   simp only [cq.row,anc,avO]at F;rw [←F]
   have d5:∀ t:T,t.g 0=.c (.f (sl g (eU l)))→t.g 2=.c (.ptr 0 0 0)→t.g 3=.c (.ptr 1 0 0)→t.g 4=vi j→t.g 5=vi ts.length→t.g 6=.c (.ptr J.length 0 0) →
     WP tab.get ud none [.code tJ,.inBlock 1,.code (xW 4 16 17),.inLoop tn,.inBlock 0,.code oQ] ⟨t,[],B⟩ Q:=by
    intro t m v d g4 W g6;refine ae ?_;by_cases h3:ts.length<3
    ·simp [W,show(ts.length:Int)<3 by omega]
     refine aj (by simp) (ab (.inl rfl) ?_)
     obtain⟨c',H',s,a8,hk⟩:=k1.new (by omega) p
     simp only [cq.row,anc,avO]at s
     have Y:bz (B++[.box [.f (sl p.hg (ints p.head)),.f (fi p.fr),.f (fi p.lf),.f (sl p.cg (ints p.cyc))] 0,.box [.sl B.length 0 1 1 0 4] 0]) 1 24 (.c ct) (.c (.sl (B.length+1) 0 1 1 0 1))=some (.c c',H'):=by
      rw [←s,awh];rfl
     simp [d,g6,x,b7,-an,Y,a8,-ba];refine al (nx _ _ ⟨c',_,M.new h3 c9,hk,by simp [m],by simp [v],by simp [d]⟩ (by simp [g4]))
    ·simp [W,show¬ (ts.length:Int)<3 by omega]
     refine aY (by simp) ?_
     refine al (nx _ _ ⟨ct,ts,M,k1,by simp [m],by simp [v],by simp [d]⟩ (by simp [g4]))
   have w0:IntKind.i64.wrap 0=0:=by decide
   refine ae ?_;rcases List.eq_nil_or_concat ts with rfl | ⟨q,fs,rfl⟩
   ·simp;refine ah (by simp) ?_
    exact d5 _ (by simp [m]) (by simp [v]) (by simp [d]) (by simp [z]) (by simp) (by simp)
   rw [List.concat_eq_append]at *;have d7:=M.1;simp at d7;have h3:=(M.2 fs (by simp)).2.1
   obtain⟨b,ep,c,O,A,u,c',H',s,c_,b_,H2,a8,k2⟩:=k1.more (by omega) p
   simp only [cq.row,anc,avO]at s;have U:IntKind.i64.wrap (q.length:Int)=q.length:=wrap64 (by omega) (by omega)
   have g_:aQ H' none (.c (.ptr 1 0 0))=some (.c ct):=by simp [aQ,az,b_,aF]
   have b9:(V.c ct).beq (.c ct)=true:=by
    rcases k1.tl with⟨e,_⟩ | ⟨_,b,ep,cs,rfl,_⟩
    ·simp at e
    ·simp [V.beq,C.beq]
   have S:∀ t:T,fs.length<3→t.g 0=.c (.f (sl g (eU l)))→t.g 2=.c (.ptr 0 0 0)→t.g 3=.c (.ptr 1 0 0)→t.g 4=vi j→t.g 5=vi ((q.length:Int)+1)→t.g 6=.c (.ptr J.length 0 0) →
     WP tab.get ud none [.code Bc,.inBlock 1,.code (xW 4 16 17),.inLoop tn,.inBlock 0,.code oQ] ⟨t,[],B⟩ Q:=by
    intro t h3 m v d g4 W g6;refine kU (.inl rfl) ?_ ?_
    case refine_2=>
     intro c d_;have d9:c=(1,14):=by simpa using d_
     subst d9;refine⟨by decide,_,rfl,.inl ⟨by decide,?_⟩⟩
     simp [d,W,g6,x,b7,O,A,U,s,c_,g_,nT,-an];exact b9
    simp [d,W,g6,x,b7,O,A,U,s,c_,a8,-an,-ba];refine al (nx _ _ ⟨ct,_,M.more h3 c9,k2,by simp [m],by simp [v],by simp [d]⟩ (by simp [g4]))
   have K:∀ t:T,t.g 0=.c (.f (sl g (eU l)))→t.g 2=.c (.ptr 0 0 0)→t.g 3=.c (.ptr 1 0 0)→t.g 4=vi j→t.g 5=vi ((q.length:Int)+1)→t.g 6=.c (.ptr J.length 0 0) →
     WP tab.get ud none [.code tJ,.inBlock 1,.code (xW 4 16 17),.inLoop tn,.inBlock 0,.code oQ] ⟨t,[],B⟩ Q:=fun t m v d g4 W g6=>d5 t m v d g4 (by rw [W];simp) g6
   by_cases I:a<128
   ·by_cases X:fs.length<3
    ·simp [m,d,z,ii,dd,E,I,x,-an,U,O,A,u,show(fs.length:Int)<3 by omega,show(0:Int)<(q.length:Int)+1 by omega]
     refine aj (by simp) ?_
     exact S _ X (by simp [m]) (by simp [v]) (by simp [d]) (by simp [z]) (by simp) (by simp)
    ·simp [m,d,z,ii,dd,E,I,x,-an,U,O,A,u,show¬ (fs.length:Int)<3 by omega,show(0:Int)<(q.length:Int)+1 by omega]
     refine ah (by simp) ?_
     exact K _ (by simp [m]) (by simp [v]) (by simp [d]) (by simp [z]) (by simp) (by simp)
   ·by_cases h4:(q.length:Int)+1=3
    ·by_cases X:fs.length<3
     ·simp [m,d,z,ii,dd,E,I,x,-an,U,O,A,u,show(fs.length:Int)<3 by omega,show(0:Int)<(q.length:Int)+1 by omega]
      rw [decide_eq_true h4];simp [d,x,-an,U,O,A,u,show(fs.length:Int)<3 by omega]
      refine aj (by simp) ?_
      exact S _ X (by simp [m]) (by simp [v]) (by simp [d]) (by simp [z]) (by simp) (by simp)
     ·simp [m,d,z,ii,dd,E,I,x,-an,U,O,A,u,show¬ (fs.length:Int)<3 by omega,show(0:Int)<(q.length:Int)+1 by omega]
      rw [decide_eq_true h4];simp [d,x,-an,U,O,A,u,show¬ (fs.length:Int)<3 by omega]
      refine ah (by simp) ?_
      exact K _ (by simp [m]) (by simp [v]) (by simp [d]) (by simp [z]) (by simp) (by simp)
    ·simp [m,d,z,ii,dd,E,I,h4,show(0:Int)<(q.length:Int)+1 by omega]
     refine ah (by simp) ?_
     exact K _ (by simp [m]) (by simp [v]) (by simp [d]) (by simp [z]) (by simp) (by simp)
  rintro t J ⟨ct,ts,M,k,m,v,d⟩ z;have h0:=ak k.res;have a_:aQ J (some 1) (.c (.ptr 1 0 0))=some (.a [ct]):=by simp [aQ,az,k.out,aF]
  have h_:df J (.ptr 0 0 0) [ct]=some (J.set 0 (.box [ct] 0)):=by simp [df,k.res,over]
  refine ae ?_;simp [v,d,a_,h_,-an,-ba];have kl:TL (J.set 0 (.box [ct] 0)) ct ts:=k.tl.bN (fun i y hy hi _=>by rw [By (Ne.symm hi)];exact hy) ⟨_,_,k.res⟩ ⟨_,_,k.out⟩
  obtain⟨tg,e_⟩:=kl.ex 62;refine aA (hQ _ _ _ ⟨tg,_,M.mix,rfl⟩ ⟨rfl,.a [ct],?_,?_⟩)
  ·simp [Km.results,bG,aU,v,h0,aF]
  ·simp [iN,bX,aU,deep,e_]
 exact⟨tg,ts,hm,hp.eq⟩
end
section
section
variable{H:ai}{c:C}{sz:Nat}{rows:List (List FC)}
theorem akM(h:rv H c sz rows):rv (fZ deep c H) c sz rows∧(∀ i,aL c≠some i→(fZ deep c H)[i]?=H[i]?)∧(fZ deep c H).length=H.length:=by
 rcases h with⟨l,rfl | rfl⟩ | ⟨g,b,d,s,rfl,q⟩
 ·exact⟨by simpa using .inl ⟨l,.inl rfl⟩,fun i _=>by simp,by simp⟩
 ·exact⟨by simpa using .inl ⟨l,.inr rfl⟩,fun i _=>by simp,by simp⟩
 ·have e:fZ deep (.sl b 0 rows.length 0 d sz) H=H.set b (.bE sz (rows.flatten.map .f) (Nat.max s (0+rows.length*sz)) d .loc):=by
   simp only [deep,yA,q];rw [kO];intro x j;have j:=awO (awJ j);obtain⟨m,_,rfl⟩:=av9.1 j;exact⟨_,rfl⟩
  rw [e];refine⟨.inr ⟨g,b,d,_,rfl,OF (ak q)⟩,fun i hi=>By fun e=>hi (by rw [e];rfl),by simp⟩
theorem aaX{g:ai}(h:rv H c sz rows)(q:∀ i,aL c=some i→g[i]?=H[i]?):rv g c sz rows:=by
 rcases h with h | ⟨d,b,j,l,rfl,m⟩
 ·exact .inl h
 ·exact .inr ⟨d,b,j,l,rfl,by rw [q b rfl];exact m⟩
theorem HZ(h:rv H c sz rows):bA H c=some rows.length:=by
 rcases h with⟨rfl,rfl | rfl⟩ | ⟨g,b,j,l,rfl,d⟩
 ·rfl
 ·rfl
 ·simp [bA,d]
theorem aaW(h:rv H c sz rows)(b:bC sz rows):∃ g,cW deep H c=some (sl g rows):=by
 obtain⟨g,d⟩:=h.exU b;exact⟨g,d H 63 h⟩
theorem aaV(h:rv H c sz rows)(u:bC sz rows){j:Nat}(l:j<rows.length):∃ b g,aG H sz none (.c c) (vi j)=some (.c (.ptr b (j*sz) g))∧aQ H (some sz) (.c (.ptr b (j*sz) g))=some (.a (rows[j].map .f)):=by
 rcases h with⟨rfl,_⟩ | ⟨x,b,g,y,rfl,s⟩
 ·simp at l
 ·have m:=AI l;have d:rows[j].length=sz:=u _ (IT l);refine⟨b,g,?_,?_⟩
  ·have v:(0:Int)≤(j:Int):=by omega
   have q:(j:Int)<(rows.length:Int):=by omega
   simp [aG,dk,s,v,q]
  ·have:=pC (k:=0) u m (by omega)
   simp only [an,s,if_true];rw [←List.map_drop];rw [Nat.add_zero]at this;rw [this]
   have q:(rows[j].map C.f++((rows.drop (j+1)).flatten.map C.f)).take sz=rows[j].map C.f:=by
    rw [List.take_append_of_le_length (by simp [d]),avS (by simp [d])]
   simp [d]
end
end
section
def b4(a b c d:I5):List FC:=[sl a.1 (bM a.2),sl b.1 (bM b.2),sl c.1 (bM c.2),sl d.1 (bM d.2)]
structure Cl(K:ai)(s:bH)(z:ZD)(tg:Tg)(ts:List dH)(fr to:Int):Prop where
 s:K[3]?=some (.box (s.row.map .f) 0)
 z:K[4]?=some (.box (z.row.map .f) 0)
 d:K[5]?=some (.box [.f (sl tg (bL ts))] 0)
 w:K[6]?=some (.box [cI fr,cI to] 0)
theorem Cl.bN{K J:ai}{s:bH}{z:ZD}{tg:Tg}{ts:List dH}{fr to:Int}(h:Cl K s z tg ts fr to)(b:∀ i,i<7→J[i]?=K[i]?):Cl J s z tg ts fr to:=
 ⟨by rw [b 3 (by decide)];exact h.s,by rw [b 4 (by decide)];exact h.z,by rw [b 5 (by decide)];exact h.d,by rw [b 6 (by decide)];exact h.w⟩
section
variable{K:ai}{s:bH}{z:ZD}{tg:Tg}{ts:List dH}{fr to:Int}
theorem Cl.ls(h:Cl K s z tg ts fr to):aQ K (some 7) (.c (.ptr 3 0 0))=some s.v:=by obtain⟨-,-,-,-,-,-,-,e⟩:=ja h.s;exact e
theorem Cl.lz(h:Cl K s z tg ts fr to)(hc:z.c<3):aQ K (some 8) (.c (.ptr 4 0 0))=some z.v:=eC h.z hc
theorem Cl.ld(h:Cl K s z tg ts fr to):aQ K (some 1) (.c (.ptr 5 0 0))=some (.a [.f (sl tg (bL ts))]):=by have:=h.d;simp [aQ,this,az,aF]
theorem Cl.lw(h:Cl K s z tg ts fr to):aQ K (some 2) (.c (.ptr 6 0 0))=some (.a [cI fr,cI to])∧aQ K none (.c (.ptr 6 0 0))=some (vi fr)∧aQ K none (.c (.ptr 6 1 0))=some (vi to):=by have:=h.w;refine⟨?_,?_,?_⟩<;>simp [aQ,this,az,aF]
end
set_option maxHeartbeats 2000000 in
theorem uT{z:ZD}{o:List bD}(hz:ee z o){s:bH}(hs:s.oq){tg:Tg}{ts:List dH}(hm:oy ts=true){fr n1 n2:Nat}(hfr:fr≤59)(hn1:n1≤19)(hn2:n2≤20)
  {Q:Option aq→St→Prop} (hQ:∀ j st,oh [.tmp (Km.P.nat 6)] (vb true) st→Q j st) (t:T) (K:ai) (hK:Cl K s z tg ts fr ((fr:Int)+n1+n2)) (hKl:7≤K.length)
  (X:t.g 7=vb true) (g8:t.g 8=.c (.ptr 3 0 0)) (g9:t.g 9=.c (.ptr 4 0 0)) (g10:t.g 10=.c (.ptr 5 0 0)) (F:t.g 11=.c (.ptr 6 0 0)) (m7:t.g 12=vi ((fr:Int)+n1)) :
  WP tab.get xq none [.code Ba] ⟨t,[],K⟩ Q:=by
 have hc:=hz.c;obtain⟨c1,E,K1,q9,l9,d8,hw1,j3,v8⟩:=Ai hz hs tg hm (fr:=(fr:Int)) (n:=n1+n2) (by omega) (by omega) (by omega) K
 rw [show(fr:Int)+((n1+n2:Nat):Int)=(fr:Int)+n1+n2 by omega]at q9
 have a_:Cl K1 s z tg ts fr ((fr:Int)+n1+n2):=⟨j3 _ _ hK.s,j3 _ _ hK.z,j3 _ _ hK.d,j3 _ _ hK.w⟩;obtain⟨c2,l2,K2,x9,n5,s_,hw2,d6,v9⟩:=Ai hz hs tg hm (fr:=(fr:Int)) (n:=n1) (by omega) (by omega) (by omega) K1
 have b7:Cl K2 s z tg ts fr ((fr:Int)+n1+n2):=⟨d6 _ _ a_.s,d6 _ _ a_.z,d6 _ _ a_.d,d6 _ _ a_.w⟩;obtain⟨c3,l3,K3,x_,Z,t_,hw3,d7,o4⟩:=Ai hz hs tg hm (fr:=(fr:Int)+n1) (n:=n2) (by omega) (by omega) (by omega) K2
 have j4:Cl K3 s z tg ts fr ((fr:Int)+n1+n2):=⟨d7 _ _ b7.s,d7 _ _ b7.z,d7 _ _ b7.d,d7 _ _ b7.w⟩;have q_:=q9.eq;have r_:=x9.eq;have s7:=x_.eq;obtain⟨w1,w2,w3⟩:=hK.lw;obtain⟨-,w4,-⟩:=a_.lw;obtain⟨-,-,w5⟩:=b7.lw;refine ae ?_;simp [g8,g9,g10,F,hK.ls,hK.lz hc,hK.ld,w1,-an,q_];refine ae ?_;simp [g8,g9,g10,F,m7,a_.ls,a_.lz hc,a_.ld,w4,-an,r_];refine ae ?_;simp [g8,g9,g10,F,m7,b7.ls,b7.lz hc,b7.ld,w5,-an,s7];refine ag (ae ?_);simp;refine aY (by simp) ?_
 refine ae ?_;simp;have U:=hs.ok.fold;have O:∀ k:Nat,k<n1+n2→0≤s.at_ ((fr:Int)+k)∧s.at_ ((fr:Int)+k)≤460000:=fun k hk=>hs.at_ (by omega) (by omega)
 obtain⟨N,hN⟩:∃ N,N=n1+n2:=⟨_,rfl⟩;have hto:(fr:Int)+n1+n2=(fr:Int)+N:=by omega
 rw [hto]at j4;rw [←hN]at d8 O;have hNl:N≤39:=by omega
 have avo:E.length≤2*N:=by
  rw [d8.length_eq];exact km U O
 have e_:∀ i,i<7→aL c1≠some i:=fun i hi e=>by have:=v8 i e;omega
 have n4:rv K3 c1 3 (aW E):=rv.of (l9.bN fun i y hy _=>d7 i y (d6 i y hy))
 have rest:∀(t:T) (J:ai),rv J c1 3 (aW E)→(∀ i,aL c1≠some i→J[i]?=K3[i]?)→J.length=K3.length→t.g 7=vb true→t.g 13=.c c1→t.g 15=.c c2→t.g 17=.c c3→t.g 19=vi E.length →
   WP tab.get xq none [.code Bb] ⟨t,[],J⟩ Q:=by
  intro t J q hJ Y X u I B v;have hnd:(gE hz s (fT ts) fr N).Nodup:=vw O;have k_:E.Pairwise fH:=yh hw1 (d8.symm.nodup hnd);have W:=HZ q;rw [kT]at W;refine ag (ae ?_);simp
  refine av (bw (fun m st=>∃(i:Nat) (t:T),st=⟨t,[],J⟩∧1≤i∧m=E.length+1-i∧t.g 7=vb true∧t.g 13=.c c1∧t.g 15=.c c2∧t.g 17=.c c3∧t.g 19=vi E.length∧t.g 24=vi i) E.length
   ⟨1,_,rfl,by omega,by omega,by simp [X],by simp [u],by simp [I],by simp [B],by simp [v],by simp⟩ ?_)
  rintro m st ⟨i,t,rfl,hi1,rfl,X,u,I,B,v,l7⟩ ih;refine ag (ae ?_);simp [u,l7,W];by_cases a8:i<E.length
  ·refine aj (by simp [a8]) (aB ?_)
   have hlt:fH E[i-1] E[i]:=avX.1 k_ (i-1) i (by omega) a8 (by omega)
   obtain⟨b,ep,i1,b9⟩:=aaV q (cr E) (j:=i) (by simpa using a8)
   obtain⟨b',ep',i2,u4⟩:=aaV q (cr E) (j:=i-1) (by simp;omega)
   rw [show(aW E)[i]'(by simpa using a8)=E[i].row by simp [aW]]at b9
   rw [show(aW E)[i-1]'(by simp;omega)=E[i-1].row by simp [aW]]at u4
   have o7:=xH E[i-1] E[i];rw [decide_eq_true hlt]at o7;have wi:IntKind.i64.wrap ((i:Int)-1)=((i-1:Nat):Int):=by rw [wrap64 (by omega) (by omega)];omega
   have wi2:IntKind.i64.wrap ((i:Int)+1)=((i+1:Nat):Int):=by rw [wrap64 (by omega) (by omega)];omega
   refine ag (av (ae ?_));simp [u,l7,wi,i1,i2,b9,u4,-an,o7];refine ah (by simp) (aB (al (ab (.inl rfl) ?_)))
   simp [l7,wi2];exact ih (E.length+1-(i+1)) _ (by omega) ⟨i+1,_,rfl,by omega,rfl,by simp [X],by simp [u],by simp [I],by simp [B],by simp [v],by simp⟩
  refine ah (by simp [a8]) (aT rfl ?_)
  refine ae ?_;simp [I];refine ag (ae ?_);simp;have j7:∀ b,aL c2=some b→aL c1≠some b:=fun b hb e=>by have:=v9 b hb;have:=l9.lt e;omega
  have o5:∀ b,aL c2=some b→aL c3≠some b:=fun b hb e=>by have:=o4 b e;have:=n5.lt hb;omega
  have n_:∀ b,aL c3=some b→aL c1≠some b:=fun b hb e=>by
   have h5:=o4 b hb;have h6:=l9.lt e
   have h7:K1.length≤K2.length:=by
    rcases Nat.lt_or_ge K2.length K1.length with h | h
    ·have h8:=d6 (K1.length-1) (K1[K1.length-1]'(by omega)) (AI _)
     have:=ak h8;omega
    ·exact h
   omega
  have n6:LR J c2 3 (aW l2):=n5.bN fun i y hy hi=>by rw [hJ i (j7 i hi)];exact d7 i y hy
  have n7:LR J c3 3 (aW l3):=Z.bN fun i y hy hi=>by rw [hJ i (n_ i hi)];exact hy
  have avp:l2.length≤2*n1:=by
   rw [s_.length_eq];exact km U fun k hk=>O k (by omega)
  have l_:∀ k:Nat,k<n2→0≤s.at_ ((fr:Int)+n1+k)∧s.at_ ((fr:Int)+n1+k)≤460000:=fun k hk=>by
   have:=O (n1+k) (by omega)
   rwa [show(fr:Int)+((n1+k:Nat):Int)=(fr:Int)+n1+k by omega]at this
  have avq:l3.length≤2*n2:=by
   rw [t_.length_eq];exact km U l_
  refine bZ l3.length (fun i t J=>∃ cj lj,t.g 7=vb true∧t.g 13=.c c1∧t.g 17=.c c3∧t.g 19=vi E.length∧t.g 25=.c cj∧LR J cj 3 (aW lj)∧lj.Perm (l2++l3.take i)∧lj.Pairwise jG∧rv J c1 3 (aW E)∧LR J c3 3 (aW l3)∧(∀ b,aL cj=some b→aL c1≠some b∧aL c3≠some b)) (by omega) (by decide) (by simp)
   ⟨c2,l2,by simp [X],by simp [u],by simp [B],by simp [v],by simp,n6,by simp,hw2,q,n7,fun b hb=>⟨j7 b hb,o5 b hb⟩⟩ ?_ ?_ ?_
  ·rintro i t J A hi ⟨cj,lj,X,u,B,v,d9,d_,c9,h_,q,Z,d5⟩ ha hn;have j_:=Z.len;rw [kT]at j_;simp [ha,B,j_];exact hn _ ⟨cj,lj,by simp [X],by simp [u],by simp [B],by simp [v],by simp [d9],d_,c9,h_,q,Z,d5⟩ (by simp [ha]) (by simp)
  ·rintro i t J hi ⟨cj,lj,X,u,B,v,d9,d_,c9,h_,q,Z,d5⟩ ha nx;obtain⟨x,hx⟩:∃ x,x=l3[i]:=⟨_,rfl⟩;obtain⟨b,ep,i1,b9⟩:=Z.at (cr l3) (j:=i) (by simpa using hi)
   rw [show(aW l3)[i]'(by simpa using hi)=x.row by rw [hx];simp [aW]]at b9
   have s8:lj.length≤1000:=by
    have:=c9.length_eq;simp at this;omega
   obtain⟨oo,c',H',j9,w9,v7,m_,v_⟩:=F5 d_ s8 x;have x6:=w9.eq;refine av (ab (.inl rfl) ?_);simp [B,d9,ha,i1,b9,-an,x6];refine al ?_;refine nx _ _ ⟨c',oo,by simp [X],by simp [u],by simp [B],by simp [v],by simp,v7,?_,j9.sorted h_,?_,?_,?_⟩ (by simp [ha])
   ·refine j9.perm.trans ?_;rw [avN hi,←hx,←awh];exact c9.append_right [x]
   ·refine aaX q fun k hk=>?_
    have q8:k<J.length:=by
     rcases q with⟨_,rfl | rfl⟩ | ⟨_,bb,epp,fll,rfl,h2⟩
     ·simp [aL]at hk
     ·simp [aL]at hk
     ·simp [aL]at hk;subst hk;exact ak h2
    rw [AI q8];exact m_.2 k _ (AI q8) fun e=>(d5 k e).1 hk
   ·exact Z.bN fun k y hy hk=>m_.2 k y hy fun e=>(d5 k e).2 hk
   ·intro bb o6;rcases v_ with e | ⟨k,e,hk⟩
    ·exact d5 bb (by rw [←e];exact o6)
    ·rw [o6]at e;cases e;refine⟨fun e=>?_,fun e=>?_⟩
     ·rcases q with⟨_,rfl | rfl⟩ | ⟨_,b2,ep2,fl2,rfl,h2⟩
      ·simp [aL]at e
      ·simp [aL]at e
      ·simp [aL]at e;subst e;have:=ak h2;omega
     ·have:=Z.lt e;omega
  ·rintro t J ⟨cj,lj,X,u,B,v,d9,d_,c9,h_,q,Z,d5⟩ ha;rw [awc]at c9
   have hpl:lj.Perm E:=by
    refine c9.trans ((s_.append t_).trans ?_);rw [←Dn,←hN];exact d8.symm
   have y4:lj=E:=HW k_ h_ hpl;subst y4;obtain⟨gj,o9⟩:=tx d_ (cr lj);obtain⟨g1,o8⟩:=aaW q (cr lj);have hsm:=abX gj g1 lj (by omega)
   have W:=HZ q;rw [kT]at W;refine ae ?_;simp [X,u,v,d9,W,o9,o8,hsm];refine aA (hQ _ _ ?_);simp
 refine ag (ae ?_);simp [F,j4.lw.2.1,-an]
 refine av (bw (fun m st=>∃(j:Nat) (t:T) (J:ai),st=⟨t,[],J⟩∧j≤N∧m=N-j∧rv J c1 3 (aW E)∧(∀ i,aL c1≠some i→J[i]?=K3[i]?)∧J.length=K3.length ∧
   t.g 7=vb true∧t.g 8=.c (.ptr 3 0 0)∧t.g 9=.c (.ptr 4 0 0)∧t.g 10=.c (.ptr 5 0 0)∧t.g 11=.c (.ptr 6 0 0)∧t.g 13=.c c1∧t.g 15=.c c2∧t.g 17=.c c3∧t.g 19=vi (gE hz s (fT ts) fr j).length∧t.g 20=vi ((fr:Int)+j)) N
  ⟨0,_,K3,rfl,by omega,rfl,n4,fun _ _=>rfl,rfl,by simp [X],by simp [g8],by simp [g9],by simp [g10],by simp [F],by simp,by simp,by simp,by simp [gE],by simp⟩ ?_)
 rintro m st ⟨j,t,J,rfl,hj,rfl,q,hJ,Y,X,g8,g9,g10,F,u,I,B,v,S⟩ ih;have i_:Cl J s z tg ts fr ((fr:Int)+N):=j4.bN fun i hi=>hJ i (e_ i hi)
 refine ag (ae ?_);simp [F,S,i_.lw.2.2,-an];by_cases f_:j<N
 ·refine aj (by simp [f_]) (aB ?_)
  obtain⟨m9,s9⟩:=anf hz hs (d:=(fr:Int)+j) (by omega) (by omega)
  have o_:=Ia tg ts hm ((fr:Int)+j) (show(fr:Int)+(j:Int)≤2305843009213693952 by omega)
  obtain⟨L,hL⟩:∃ L,L=C' hz s ((fr:Int)+j):=⟨_,rfl⟩;have hLl:L.length≤2:=by rw [hL];exact At U (O j f_).1 (O j f_).2
  rw [←hL]at s9;have w7:=km (h:=hz) (s:=s) (p:=fT ts) (fr:=(fr:Int)) U (n:=j) fun k hk=>O k (by omega)
  obtain⟨c_,j8⟩:∃ c_,c_=(gE hz s (fT ts) fr j).length:=⟨_,rfl⟩
  have g_:(gE hz s (fT ts) fr (j+1)).length=c_+if fT ts ((fr:Int)+j)=true then L.length else 0:=by
   rw [gE,avR,←j8];split<;>simp [hL]
  have x7:fT ts ((fr:Int)+j)=true→∀ x ∈ L,x ∈ E:=fun hp x hx=>by
   refine d8.symm.subset ?_;rw [vt];exact⟨j,f_,hp,by rw [←hL];exact hx⟩
  rw [←j8]at v w7;have wj:IntKind.i64.wrap ((fr:Int)+j+1)=(fr:Int)+((j+1:Nat):Int):=by rw [wrap64 (by omega) (by omega)];omega
  refine ag (av (ae ?_));simp [g8,g9,S,i_.ls,i_.lz hc,-an,s9];refine ag (ae ?_);simp;refine aY (by simp) ?_
  refine ae ?_;simp;obtain⟨M,hM⟩:∃ M,M=if fT ts ((fr:Int)+j)=true then L.length else 0:=⟨_,rfl⟩
  rw [←hM]at g_;have hMl:M≤2:=by rw [hM];split<;>omega
  refine bZ M (fun i t J=>rv J c1 3 (aW E)∧(∀ i,aL c1≠some i→J[i]?=K3[i]?)∧J.length=K3.length ∧
    t.g 7=vb true∧t.g 8=.c (.ptr 3 0 0)∧t.g 9=.c (.ptr 4 0 0)∧t.g 10=.c (.ptr 5 0 0)∧t.g 11=.c (.ptr 6 0 0)∧t.g 13=.c c1∧t.g 15=.c c2∧t.g 17=.c c3∧t.g 19=vi ((c_+i:Nat):Int)∧t.g 20=vi ((fr:Int)+j)∧t.g 21=.c (.f (sl m9 (aW L)))) (by omega) (by decide) (by simp)
   ⟨q,hJ,Y,by simp [X],by simp [g8],by simp [g9],by simp [g10],by simp [F],by simp [u],by simp [I],by simp [B],by simp [v],by simp [S],by simp⟩ ?_ ?_ ?_
  ·rintro i t J A hi ⟨q,hJ,Y,X,g8,g9,g10,F,u,I,B,v,S,b_⟩ ha hn;have i_:Cl J s z tg ts fr ((fr:Int)+N):=j4.bN fun i hi=>hJ i (e_ i hi)
   have u5:∀(t':T),t'.g 7=t.g 7→t'.g 8=t.g 8→t'.g 9=t.g 9→t'.g 10=t.g 10→t'.g 11=t.g 11→t'.g 13=t.g 13→t'.g 15=t.g 15→t'.g 17=t.g 17→t'.g 19=t.g 19→t'.g 20=t.g 20→t'.g 21=t.g 21→t'.g 23=vi i→t'.g 129=vb (decide ((i:Int)<(M:Int)))→A ⟨t',[],J⟩:=by
    intro t' e7 e8 e9 u6 u7 u9 u_ v0 v3 v4 v5 v6 m5;exact hn _ ⟨q,hJ,Y,by rw [e7];exact X,by rw [e8];exact g8,by rw [e9];exact g9,by rw [u6];exact g10,by rw [u7];exact F,by rw [u9];exact u,by rw [u_];exact I,by rw [v0];exact B,by rw [v3];exact v,by rw [v4];exact S,by rw [v5];exact b_⟩ v6 m5
   by_cases a8:i<L.length
   ·simp [ha,g10,S,b_,i_.ld,-an,o_,a8];refine u5 _ (by simp) (by simp) (by simp) (by simp) (by simp) (by simp) (by simp) (by simp) (by simp) (by simp) (by simp) (by simp [ha]) ?_
    simp;rw [hM];cases hp:fT ts ((fr:Int)+j)<;>simp [hp,a8]
   ·simp [ha,g10,S,b_,a8];refine u5 _ (by simp) (by simp) (by simp) (by simp) (by simp) (by simp) (by simp) (by simp) (by simp) (by simp) (by simp) (by simp [ha]) ?_
    simp;rw [hM];split<;>omega
  ·rintro i t J hi ⟨q,hJ,Y,X,g8,g9,g10,F,u,I,B,v,S,b_⟩ ha nx
   have hp:fT ts ((fr:Int)+j)=true:=by
    cases hp:fT ts ((fr:Int)+j)
    ·rw [hp,if_neg (by decide)]at hM;omega
    ·rfl
   have m4:i<L.length:=by rw [hp,if_pos rfl]at hM;omega
   obtain⟨x,hx⟩:∃ x,x=L[i]:=⟨_,rfl⟩;have hxl:x ∈ E:=x7 hp x (by rw [hx];exact IT m4)
   have i1:=Aa (H:=J) (g:=m9) (l:=L) (j:=i) m4 (by omega)
   have b9:=F8 (H:=J) (l:=L) m4;rw [←hx]at b9;obtain⟨gx,w_⟩:=aaW q (cr E);have x4:=aaA gx E (by omega) hxl
   obtain⟨n9,hmk,hml⟩:=akM q;have wc:IntKind.i64.wrap (((c_+i:Nat):Int)+1)=((c_+(i+1):Nat):Int):=by rw [wrap64 (by omega) (by omega)];omega
   refine av (ae ?_);simp only [Int.natCast_add]at wc v;simp [v,wc];refine ae ?_;simp [u,b_,ha,i1,b9,w_,x4];refine ah (by simp) (aB (al ?_))
   refine nx _ _ ⟨n9,fun k hk=>by rw [hmk k hk];exact hJ k hk,by rw [hml];exact Y,by simp [X],by simp [g8],by simp [g9],by simp [g10],by simp [F],by simp [u],by simp [I],by simp [B],by simp,by simp [S],by simp [b_]⟩ (by simp [ha])
  ·rintro t J ⟨q,hJ,Y,X,g8,g9,g10,F,u,I,B,v,S,b_⟩ ha;refine al (ab (.inl rfl) ?_);simp [S,wj];refine ih (N-(j+1)) _ (by omega) ⟨j+1,_,J,rfl,by omega,rfl,q,hJ,Y,by simp [X],by simp [g8],by simp [g9],by simp [g10],by simp [F],by simp [u],by simp [I],by simp [B],by simp [g_,v],by simp⟩
 ·have p_:j=N:=by omega
  subst p_;refine ah (by simp [f_]) (aT rfl ?_)
  exact rest _ _ q hJ Y (by simp [X]) (by simp [u]) (by simp [I]) (by simp [B]) (by simp [v,d8.length_eq])
end
section
set_option maxHeartbeats 1000000 in
theorem aaU(amp:Km.Pure tab.get B8 [] (vb true)){x:rA}(hx:x.OK){y:gQ}(hy:y.OK){I J nc d:I5}(ha:oa I)(hb:oa J)(d9:oa nc)(hd:oa d) :
  Km.Pure tab.get xq [.a (x.row.map .f),.a (y.row.map .f),.a ((b4 I J nc d).map .f)] (vb true):=by
 obtain⟨s,hs,Z⟩:=Oj (cals:=2) (.inr rfl) hx;rw [show((2:Nat):Int)=2 from rfl]at Z
 obtain⟨z,o,hz,d6⟩:=Oi hy
 obtain⟨tg,ts,hm,b9⟩:=aa0 .fs (l:=[I,J,nc]) (by simp) (by
  intro b Y;simp at Y
  rcases Y with rfl | rfl | rfl<;>assumption)
 have c_:=amp.eq;have hc:=hz.c;have d5:=ZD.tF hc;refine bK anm rfl fun Q hQ=>?_
 refine ae ?_;simp;refine ae ?_;simp [c_];obtain⟨N,v⟩:∃ N:ai,N=[.box (x.row.map .f) 0,.box (y.row.map .f) 0,.box ((b4 I J nc d).map .f) 0]:=⟨_,rfl⟩;have a0:N[0]?=some (.box (x.row.map .f) 0):=by rw [v];rfl
 have a1:N[1]?=some (.box (y.row.map .f) 0):=by rw [v];rfl
 have a2:N[2]?=some (.box ((b4 I J nc d).map .f) 0):=by rw [v];rfl
 have W:N.length=3:=by rw [v];rfl
 rw [←v];have lx:aQ N (some 6) (.c (.ptr 0 0 0))=some (.a (x.row.map .f)):=by simp [aQ,a0,az,aF,rA.row]
 have c9:s.row.length=7:=rfl;refine ae ?_;simp [lx,-an,Z,c9,W];obtain⟨O,A⟩:∃ O:ai,O=N++[.box (s.row.map .f) 0]:=⟨_,rfl⟩;have c1:O[1]?=some (.box (y.row.map .f) 0):=by rw [A,AT (ak a1)];exact a1
 have c2:O[2]?=some (.box ((b4 I J nc d).map .f) 0):=by rw [A,AT (ak a2)];exact a2
 have c3:O[3]?=some (.box (s.row.map .f) 0):=by rw [A,←W];simp
 have X:O.length=4:=by rw [A];simp [W]
 rw [←A];have ly:aQ O (some 14) (.c (.ptr 1 0 0))=some (.a (y.row.map .f)):=by simp [aQ,c1,az,aF,gQ.row]
 refine ae ?_;simp [ly,-an,d6,d5,X];obtain⟨L,B⟩:∃ L:ai,L=O++[.box (z.row.map .f) 0]:=⟨_,rfl⟩;have d2:L[2]?=some (.box ((b4 I J nc d).map .f) 0):=by rw [B,AT (ak c2)];exact c2
 have d3:L[3]?=some (.box (s.row.map .f) 0):=by rw [B,AT (ak c3)];exact c3
 have d4:L[4]?=some (.box (z.row.map .f) 0):=by rw [B,←X];simp
 have a_:L.length=5:=by rw [B];simp [X]
 rw [←B];clear B A v;refine ae ?_;have d7:ig L 4 1 (.c (.ptr 2 0 0)) none (some (vi 3)) none=some (.c (.sl 2 0 3 4 0 1)):=by simp [ig,d2];rfl
 have a8:cW deep L (.sl 2 0 3 4 0 1)=some (sl .fs (eU [I,J,nc])):=by
  show cW (63+1) L _=_
  rw [iV,d2];rfl
 obtain⟨S,E⟩:∃ S:ai,S=L.set 2 (.box ((b4 I J nc d).map .f) 3):=⟨_,rfl⟩
 have b_:fZ deep (.sl 2 0 3 4 0 1) L=S:=by
  rw [E];simp only [deep,yA,d2];rw [kO]
  ·rfl
  ·intro x hx;have hx:=awO (awJ hx);obtain⟨m,_,rfl⟩:=av9.1 hx;exact⟨_,rfl⟩
 have e2:S[2]?=some (.box ((b4 I J nc d).map .f) 3):=by rw [E];exact OF (ak d2)
 have e3:S[3]?=some (.box (s.row.map .f) 0):=by rw [E,By (by decide)];exact d3
 have e4:S[4]?=some (.box (z.row.map .f) 0):=by rw [E,By (by decide)];exact d4
 have M:S.length=5:=by rw [E];simp [a_]
 clear E;simp [d7,a8,b_,b9,M];refine ae ?_;simp [M];obtain⟨F,g⟩:∃ F:ai,F=S++[.box [.f (sl tg (bL ts))] 0,.box [cI 3,cI 30] 0]:=⟨_,rfl⟩;have f2:F[2]?=some (.box ((b4 I J nc d).map .f) 3):=by rw [g,AT (ak e2)];exact e2
 have f3:F[3]?=some (.box (s.row.map .f) 0):=by rw [g,AT (ak e3)];exact e3
 have f4:F[4]?=some (.box (z.row.map .f) 0):=by rw [g,AT (ak e4)];exact e4
 have f5:F[5]?=some (.box [.f (sl tg (bL ts))] 0):=by rw [g,avM (by omega),M];rfl
 have f6:F[6]?=some (.box [cI 3,cI 30] 0):=by rw [g,avM (by omega),M];rfl
 have b7:F.length=7:=by rw [g];simp [M]
 rw [←g];clear g;refine ae ?_;simp;refine ag (ae ?_);have i3:∀ K,aG K 1 (some 4) (.c (.ptr 2 0 0)) (vi 3)=some (.c (.ptr 2 3 0)):=fun _=>rfl
 have l3:aQ F none (.c (.ptr 2 3 0))=some (.c (.f (sl d.1 (bM d.2)))):=by simp [aQ,f2,az,aF,b4]
 simp [i3,l3,-an];by_cases h3:2<d.2.length
 ·have d8:=hd.2 _ (IT (show 0<d.2.length by omega))
  have ix:∀(K:ai) (j:Nat) (hj:j<d.2.length),aG K 1 none (.c (.f (sl d.1 (bM d.2)))) (vi j)=some (.c (.f (.fp (bM d.2).flatten j))):=fun K j hj=>ke hj
  have i0:=fun K=>ix K 0 (by omega)
  have i1:=fun K=>ix K 1 (by omega)
  have i2:=fun K=>ix K 2 (by omega)
  have b0:=fun K:ai=>iZ (H:=K) (l:=d.2) (j:=0) (by omega)
  have b1:=fun K:ai=>iZ (H:=K) (l:=d.2) (j:=1) (by omega)
  have b2:=fun K:ai=>iZ (H:=K) (l:=d.2) (j:=2) (by omega)
  simp only [Int.natCast_zero,Int.natCast_one]at i0 i1;rw [show((2:Nat):Int)=2 from rfl]at i2
  obtain⟨p,p1,rp⟩:=fv (d.2[0]'(by omega)) (m:=60) (by decide)
  obtain⟨q,q1,rq⟩:=fv (d.2[1]'(by omega)) (m:=20) (by decide)
  obtain⟨r,r1,rr⟩:=fv (d.2[2]'(by omega)) (m:=20) (by decide)
  have w1:IntKind.i64.wrap ((p:Int)+q)=(p:Int)+q:=wrap64 (by omega) (by omega)
  have w2:IntKind.i64.wrap ((p:Int)+q+r)=(p:Int)+q+r:=wrap64 (by omega) (by omega)
  have s1:df F (.ptr 6 0 0) [.f (fi (p:Int))]=some (F.set 6 (.box [cI p,cI 30] 0)):=by simp [df,f6,over]
  obtain⟨U,u⟩:∃ U:ai,U=F.set 6 (.box [cI p,cI 30] 0):=⟨_,rfl⟩;have g2:U[2]?=some (.box ((b4 I J nc d).map .f) 3):=by rw [u,By (by decide)];exact f2
  have g6:U[6]?=some (.box [cI p,cI 30] 0):=by rw [u];exact OF (ak f6)
  have m3:aQ U none (.c (.ptr 2 3 0))=some (.c (.f (sl d.1 (bM d.2)))):=by simp [aQ,g2,az,aF,b4]
  have m6:aQ U none (.c (.ptr 6 0 0))=some (vi p):=by simp [aQ,g6,az,aF]
  have s2:df U (.ptr 6 1 0) [.f (fi ((p:Int)+q+r))]=some (U.set 6 (.box [cI p,cI ((p:Int)+q+r)] 0)):=by simp [df,g6,over]
  refine aj (by simp;omega) (ae ?_)
  simp [i3,l3,-an,i0,b0,rp,lI p (by omega),s1,-ba]
  rw [←u];refine ae ?_;simp [i3,m3,m6,-an,i1,b1,rq,lI q (by omega),w1]
  refine ab (.inl rfl) ?_;simp [i3,m3,m6,-an,i2,b2,rr,lI r (by omega),w2,s2,-ba]
  refine uT hz hs (tg:=tg) hm (fr:=p) (n1:=q) (n2:=r) (by omega) (by omega) (by omega) hQ _ _ ⟨?_,?_,?_,?_⟩ (by simp [u,b7]) (by simp) (by simp) (by simp) (by simp) (by simp) (by simp)
  ·rw [By (by decide),u,By (by decide)];exact f3
  ·rw [By (by decide),u,By (by decide)];exact f4
  ·rw [By (by decide),u,By (by decide)];exact f5
  ·exact OF (ak g6)
 ·refine ah (by simp;omega) (aB ?_)
  exact uT hz hs (tg:=tg) hm (fr:=3) (n1:=7) (n2:=20) (by omega) (by omega) (by omega) hQ _ _ ⟨f3,f4,f5,f6⟩ (by omega) (by simp) (by simp) (by simp) (by simp) (by simp) (by simp)
end
end Go.Proofs.YtmbjejcfadllnaaGreat
