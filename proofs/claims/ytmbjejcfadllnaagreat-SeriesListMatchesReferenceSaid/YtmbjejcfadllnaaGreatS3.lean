/-
  ajK the oI jQ and the nV answer, for all arguments of their kind, in the small machine: part 3.
-/
import Derived.Test.YtmbjejcfadllnaaGreatS1
import Derived.Test.YtmbjejcfadllnaaGreatK4
import Derived.Test.YtmbjejcfadllnaaGreatS2
import Derived.Test.YtmbjejcfadllnaaGreatProg
import Derived.Test.YtmbjejcfadllnaaGreatTie
import Derived.Test.YtmbjejcfadllnaaGreatEv
import Derived.Test.YtmbjejcfadllnaaGreatK5
open Option renaming some → ab,none → ae
open Bool renaming true → ag,false → ah
open Go.IntKind renaming wrap → ai
open List renaming drop_eq_getElem_cons → at5, getElem_mem → IS, pairwise_iff_getElem → auc, getElem_of_mem → at3, pairwise_cons → auw, mem_cons → aui, all_eq_true → at4, pairwise_singleton → auA, getElem?_set_self → OF, mem_append → at9, pairwise_append → auB, mem_append_left → avd, getElem?_append_left → AI, length_append → at7, length_singleton → auX, length_pos_iff → auF, mem_cons_self → at2, mem_cons_of_mem → aub, getLast?_eq_some_iff → avc, mem_map → auy, length_map → aur, take_succ_eq_append_getElem → at0, find?_eq_none → avi, take_length → aul, getElem?_set_ne → By, map_cons → anc, map_nil → atN, append_nil → auQ, getElem?_append_right → at1, getElem?_eq_getElem → AT, getElem_map → auT, append_assoc → auC, getElem?_eq_none_iff → auG
open Nat renaming lt_trichotomy → auj, lt_or_eq_of_le → auk, le_refl → aft, le_trans → aua, add_sub_cancel_left → auZ, le_of_ble_eq_true → auL, zero_add → auJ, lt_or_ge → aut
open Bool renaming and_eq_true → If
open List.Pairwise renaming imp → avB
open Int renaming emod_nonneg → aum, emod_lt_of_pos → auq, toNat_of_nonneg → auU, le_refl → au0, mul_ediv_add_emod → auE, mul_comm → auY, mul_nonneg → avl
set_option linter.unusedVariables false
set_option linter.constructorNameAsVariable false
set_option linter.unusedSimpArgs false
set_option linter.unusedSectionVars false
set_option linter.unnecessarySimpa false
set_option maxRecDepth 100000
set_option maxHeartbeats 2000000
namespace Go.Proofs.YtmbjejcfadllnaaGreat
open Go Km
structure cr where
 hg:Tg
 head:List Int
 fr:Int
 kV:Int
 cg:Tg
 cyc:List Int
def cr.row(p:cr):List FC:=[sl p.hg (ints p.head),fi p.fr,fi p.kV,sl p.cg (ints p.cyc)]
def bL(l:List cr):List (List FC):=l.map cr.row
@[simp] theorem aiT (l:List cr):(bL l).length=l.length:=by simp [bL]
theorem fj(l:List cr):bO 4 (bL l):=bO.map fun _=>rfl
theorem mq{l:List cr}{j:Nat}(b:j<l.length):(bL l)[j]?=ab l[j].row:=by simp [bL,b]
def eb(b d:Int):List Int→Bool
 | []=>ag| n::r=>decide (d<n)&&decide (n<b)&&eb b n r
theorem zF{b d:Int}{l:List Int}{j:Nat}(g:j<l.length):eb b d (l.drop j)=(decide (d<l[j])&&decide (l[j]<b)&&eb b l[j] (l.drop (j+1))):=by
 rw [at5 g];rfl
def fG(p:cr):Bool:=decide (0≤p.fr)&&decide (p.fr≤1099511627776)&&decide (1≤p.kV)&&decide (p.kV≤1099511627776) &&
 decide ((p.head.length:Int)+p.cyc.length≤1048576)&&eb p.fr (-1) p.head&&eb p.kV (-1) p.cyc
theorem Om(g:Tg)(l:List Int)(b:Int)(F:l.length≤9223372036854775807):Kf tab.get 132 [.c (.f (sl g (ints l))),vi b] (vb (eb b (-1) l)):=by
 refine fL rfl rfl fun H Q u=>?_;apply aj;simp;apply aj;simp;apply aq;apply aj;simp;refine fE l.length (fun j t E=>t.g 1=vi b∧t.g 8=.c (.f (sl g (ints l)))∧H=E∧∃ d,t.g 5=vi d∧eb b (-1) l=eb b d (l.drop j)) F (by decide) (by decide) (by simp) (by simp) (by simp) ?_ ?_
 ·rintro j t _ z ⟨q,s,rfl,d,x,m⟩ v y next
  rw [zF z]at m;refine az ?_;apply aj;simp [v,s,cE,z,ej];apply aq;apply aj;simp [x,q];by_cases A:l[j]≤d
  ·simp [A];refine ak (by simp) ?_;apply aj;simp;refine aE (u _ _ ?_);simp [m,show¬ d<l[j] by omega]
  simp [A,q];by_cases B:b≤l[j]
  ·simp [B];refine ak (by simp) ?_;apply aj;simp;refine aE (u _ _ ?_);simp [m,show¬ l[j]<b by omega]
  simp [B];refine al (by simp) ?_;refine aH ?_;refine au (.inl rfl) ?_;simp;refine aw (next _ _ ?_ (by simp [v]) (by simp [y]));rw [decide_eq_true (by omega),decide_eq_true (by omega)]at m;exact⟨by simp [q],by simp [s],rfl,l[j],by simp,by simpa using m⟩
 ·rintro t _ ⟨q,s,rfl,d,x,m⟩ v y;apply aj;simp;refine aE (u _ _ ?_);simp [m,eb]
theorem x4(g:Tg)(l:List Int)(b:Int)(d:l.length≤9223372036854775807) :
  bB tab.get 132 [.c (.f (sl g (ints l))),vi b]=Eq (vb (eb b (-1) l)):=(Om g l b d).eq
theorem alZ(p:cr)(s:p.head.length≤9223372036854775807)(u:p.cyc.length≤9223372036854775807)(h:p.head.length+p.cyc.length≤9223372036854775807) :
  Kf tab.get 90 [.a (p.row.map .f)] (vb (fG p)):=by
 refine fL rfl rfl fun H Q b=>?_;apply aj;simp [cr.row];apply aj;simp;by_cases d:0≤p.fr
 case neg=>
  simp [d];refine aE (b _ _ ?_);simp [fG,d]
 simp [d];by_cases g:p.fr≤1099511627776
 case neg=>
  simp [g];refine aE (b _ _ ?_);simp [fG,g]
 simp [g];by_cases j:1≤p.kV
 case neg=>
  simp [j];refine aE (b _ _ ?_);simp [fG,j]
 simp [j];by_cases l:p.kV≤1099511627776
 case neg=>
  simp [l];refine aE (b _ _ ?_);simp [fG,l]
 simp [l,aN (n:=(p.head.length:Int)+p.cyc.length)];by_cases m:(p.head.length:Int)+p.cyc.length≤1048576
 case neg=>
  simp [m];refine aE (b _ _ ?_);simp [fG,m]
 simp [m,x4 p.hg p.head p.fr s];cases q:eb p.fr (-1) p.head
 ·simp;refine aE (b _ _ ?_);simp [fG,q]
 simp [x4 p.cg p.cyc p.kV u];refine aE (b _ _ ?_);simp [fG,d,g,j,l,m,q]
def cr.Sm(p:cr):Prop:=p.head.length+p.cyc.length≤9223372036854775807
theorem aaU(p:cr)(h:p.Sm):bB tab.get 90 [.a (p.row.map .f)]=Eq (vb (fG p)):=by
 have h:p.head.length+p.cyc.length≤9223372036854775807:=h;exact(alZ p (by omega) (by omega) h).eq
theorem zy{p:cr}(h:fG p=ag):p.Sm:=by
 simp [fG]at h;show p.head.length+p.cyc.length≤9223372036854775807;omega
structure dQ where
 tg:Tg
 fs:List cr
def dQ.row(t:dQ):List FC:=[sl t.tg (bL t.fs)]
def bj(l:List dQ):List (List FC):=l.map dQ.row
@[simp] theorem ahE (l:List dQ):(bj l).length=l.length:=by simp [bj]
theorem kT(l:List dQ):bO 1 (bj l):=bO.map fun _=>rfl
theorem od{l:List dQ}{j:Nat}(b:j<l.length):(bj l)[j]?=ab l[j].row:=by simp [bj,b]
def dQ.Sm(t:dQ):Prop:=t.fs.length≤9223372036854775807∧∀ p ∈ t.fs,p.Sm
def lP(t:dQ):Bool:=decide (1≤(t.fs.length:Int))&&decide ((t.fs.length:Int)≤4)&&t.fs.all fG
def mY(l:List dQ):Bool:=decide ((l.length:Int)≤64)&&l.all lP
theorem Zm{b:Type}{l:List b}{p:b→Bool}{j:Nat}(d:j<l.length):(l.drop j).all p=(p l[j]&&(l.drop (j+1)).all p):=by
 rw [at5 d,List.all_cons]
theorem ajX(p:cr)(h:p.Sm):Kf tab.get 89 [.a (p.row.map .f)] (vb (!fG p)):=by
 refine fL rfl rfl fun H Q d=>?_;have b:=aaU p h;simp [cr.row]at b;apply aj;simp [cr.row];apply aj;simp [b];refine aE (d _ _ ?_);simp
theorem M1(g:Tg)(l:List cr)(d:l.length≤9223372036854775807)(h:∀ p ∈ l,p.Sm) :
  bB tab.get 88 [.c (.f (sl g (bL l))),.c (.f (.fn 89 []))]=Eq (vb (l.any fun p=>!fG p)):=
 (ky Zc (oB Zd l cr.row (fun r=>.a (r.row.map .f)) (fun p=>!fG p) g 89 [] d
  (fun j b H=>ez (fj l) (mq b)) (fun p m=>ajX p (h p m)))).eq
theorem akN(g:Tg)(l:List dQ)(F:l.length≤9223372036854775807)(h:∀ t ∈ l,t.Sm):Kf tab.get 50 [.a [.f (sl g (bj l))]] (vb (mY l)):=by
 refine fL rfl rfl fun H Q s=>?_;apply aj;simp;apply aq;apply aj;simp;by_cases y:(64:Int)<l.length
 ·simp [y];refine ak (by simp) ?_;apply aj;simp;refine aE (s _ _ ?_);simp [mY,show¬ (l.length:Int)≤64 by omega]
 simp [y];refine al (by simp) ?_;refine aH ?_;apply aq;apply aj;simp;refine fE l.length (fun j t B=>t.g 10=.c (.f (sl g (bj l)))∧(∃ J,B=H++J)∧l.all lP=(l.drop j).all lP) F (by decide) (by decide) (by simp) (by simp) (by simp) ?_ ?_
 ·rintro j t _ m ⟨g10,⟨J,rfl⟩,d⟩ u v next
  rw [Zm m]at d;have x:=h l[j] (IS m);have b:=uC (H:=H++J) (k:=0) (kT l) (od m) rfl;refine az ?_;apply aj;simp at b;simp [u,g10,cE,m,b];have bad:lP l[j]=ah→∀(t:T) (J:an) k,WP tab.get 50 ae (.code (.region [⟨D 2,.bN (.k (.c (.f (.bool ah)))),ae⟩] [])::.code .ret::k) ⟨t,[],H++J⟩ Q:=by
   intro E t J k;refine au (.inl rfl) ?_;simp;refine aE (s _ _ ?_);simp [mY,d,E]
  apply aj;simp;by_cases z:(l[j].fs.length:Int)<1
  ·simp [z];exact ak (by simp) (aq (bad (by simp [lP,show¬ 1≤(l[j].fs.length:Int) by omega]) _ _ _))
  simp [z];by_cases A:(4:Int)<l[j].fs.length
  ·simp [A];exact ak (by simp) (aq (bad (by simp [lP,show¬ (l[j].fs.length:Int)≤4 by omega]) _ _ _))
  simp [A,M1 l[j].tg l[j].fs x.1 x.2];cases q:l[j].fs.any fun p=>!fG p
  ·have:lP l[j]=ag:=by
    simp [lP]at q ⊢;exact⟨⟨by omega,by omega⟩,q⟩
   refine al (by simp) ?_;refine aH (aw (next _ _ ?_ (by simp [u]) (by simp [v])));rw [this,Bool.true_and]at d;exact⟨by simp [g10],⟨_,rfl⟩,d⟩
  ·exact ak (by simp) (aq (bad (by simp [lP]at q ⊢;intro _ _;exact q) _ _ _))
 ·rintro t _ ⟨g10,⟨J,rfl⟩,d⟩ u v;apply aj;simp;refine aE (s _ _ ?_);simp [mY,d,show(l.length:Int)≤64 by omega]
theorem sA(a b:Int):bB tab.get 186 [vi a,vi b]=Eq (vb (decide (a<b))):=Kf.eq (by
 refine fL rfl rfl fun H Q d=>?_;apply aj;simp;apply aj;simp [qm];refine aE (d _ _ ?_);simp [qm])
theorem ahz(a:Int):bB tab.get 194 [vi a]=Eq (vb ah):=Kf.eq (by
 refine fL rfl rfl fun H Q b=>?_;apply aj;simp;apply aj;simp;refine aE (b _ _ ?_);simp)
theorem DC(g:Tg)(l:List Int)(n:Int)(f:l.length≤1000000000)(Z:l.Pairwise (· < ·)) :
  ∃ i:Nat,i≤l.length∧(∀ j (b:j<l.length),j<i→l[j]<n)∧(∀ j (b:j<l.length),i≤j→n≤l[j]) ∧
   bB tab.get 177 [.c (.f (sl g (ints l))),vi n]=Eq (.t [vi i,vb (decide (n ∈ l))]):=by
 obtain⟨r,⟨i,W,X,K,rfl⟩,h⟩:∃ r,(∃ i:Nat,i≤l.length∧(∀ j (b:j<l.length),j<i→l[j]<n)∧(∀ j (b:j<l.length),i≤j→n≤l[j])∧r=.t [vi i,vb (decide (n ∈ l))]) ∧
   bB tab.get 177 [.c (.f (sl g (ints l))),vi n] r:=by
  refine bY rfl rfl fun Q L=>?_;have x:∀ i j (hi:i<j) (b:j<l.length),l[i]<l[j]:=fun i j hi b=>auc.1 Z i j (by omega) b hi;apply aj;simp;apply aj;simp;apply aj;simp;apply aq;refine az ?_;refine bG (fun m s=>∃(lo hi:Nat) (t:T),s=⟨t,[],[]⟩∧m=hi-lo∧lo≤hi∧hi≤l.length∧t.g 0=.c (.f (sl g (ints l)))∧t.g 1=vi n∧t.g 6=vi l.length∧t.g 7=vi lo∧t.g 8=vi hi ∧
   (∀ j (b:j<l.length),j<lo→l[j]<n)∧(∀ j (b:j<l.length),hi≤j→n≤l[j])) l.length
   ⟨0,l.length,_,rfl,by omega,by omega,by omega,by simp,by simp,by simp,by simp,by simp,by simp,by intros;omega⟩ ?_
  rintro m s ⟨lo,hi,t,rfl,rfl,Y,y,A,B,F,E,J,d,u⟩ next
  apply aq;apply aj;simp [E,J];by_cases N:lo<hi
  ·refine ak (by simp [N]) (aH ?_);obtain⟨q,k⟩:=aP ((lo+hi) / 2);have H:q<l.length:=by omega
   have U:bV BinOp.shr (V.c (C.f (FC.int IntKind.u64 (IntKind.u64.wrap ((lo:Int)+hi))))) (V.c (C.f (FC.int IntKind.u64 1)))=ab (.c (.f (.int .u64 (q:Int)))):=by
    have:IntKind.u64.wrap ((lo:Int)+hi)=(lo:Int)+hi:=by
     show((lo:Int)+hi) % 18446744073709551616=_;omega
    rw [this];show ab (V.c (C.f (FC.int IntKind.u64 (Int.fdiv ((lo:Int)+hi) (2 ^ (min (1:Int).toNat IntKind.u64.bits))))))=_;have K:Int.fdiv ((lo:Int)+hi) (2 ^ (min (1:Int).toNat IntKind.u64.bits))=q:=by
     show Int.fdiv ((lo:Int)+hi) 2=q;rw [Int.fdiv_eq_ediv_of_nonneg _ (by omega)];omega
    rw [K]
   have a:=aN (n:=(lo:Int)+hi);have S:ai .i64 (q:Int)=q:=aN;refine az ?_;apply aj;simp [E,J,a,U,S];apply aj;simp [A,B,cE,H,ej,sA];by_cases M:l[q]<n
   ·refine ak (by simp [M]) ?_;refine au (.inl rfl) ?_;simp [aN (n:=(q:Int)+1)];refine aw (next (hi-(q+1)) _ (by omega) ⟨q+1,hi,_,rfl,rfl,by omega,by omega,by simp [A],by simp [B],by simp [F],by simp,by simp [J],fun j b h=>?_,u⟩);by_cases e:j=q
    ·subst e;exact M
    ·have:=x j q (by omega) H;omega
   ·refine al (by simp [M]) ?_;refine au (.inl rfl) ?_;simp;refine aw (next (q-lo) _ (by omega) ⟨lo,q,_,rfl,rfl,by omega,by omega,by simp [A],by simp [B],by simp [F],by simp [E],by simp,d,fun j b h=>?_⟩);by_cases e:j=q
    ·subst e;omega
    ·have:=x q j (by omega) b;omega
  ·have:lo=hi:=by omega
   subst this;refine al (by simp) ?_;refine bf rfl ?_;apply aj;by_cases v:lo<l.length
   ·have c:=u lo v (by omega);by_cases I:l[lo]=n
    ·simp [A,B,F,E,v,cE,ej,I];refine aE (L _ _ _ ⟨lo,y,d,u,rfl⟩ ?_);have:n ∈ l:=I▸IS v;simp [this]
    ·have z:n ∉ l:=fun O=>by
      obtain⟨j,b,rfl⟩:=at3 O;rcases auj j lo with h | h | h
      ·have:=d j b h;omega
      ·subst h;exact I rfl
      ·have:=x lo j h b;omega
     simp [A,B,F,E,v,cE,ej,I,ahz];refine aE (L _ _ _ ⟨lo,y,d,u,rfl⟩ ?_);simp [z]
   ·have z:n ∉ l:=fun O=>by
     obtain⟨j,b,rfl⟩:=at3 O;have:=d j b (by omega);omega
    simp [A,B,F,E,v];refine aE (L _ _ _ ⟨lo,y,d,u,rfl⟩ ?_);simp [z]
 exact⟨i,W,X,K,bB.eq h⟩
theorem mz{d:Int}:∀ {l:List Int} {b:Int},eb d b l=ag→l.Pairwise (· < ·)∧∀ c ∈ l,b<c∧c<d
 | [],_,_=>⟨List.Pairwise.nil,by simp⟩
 | a::l,b,h=>by
  simp only [eb,If,decide_eq_true_eq]at h;obtain⟨⟨m,q⟩,s⟩:=h;obtain⟨u,j⟩:=mz s;refine⟨auw.2 ⟨fun c g=>(j c g).1,u⟩,fun c g=>?_⟩;rcases aui.1 g with rfl | g
  ·exact⟨m,q⟩
  ·have:=j c g;omega
theorem rW{p:cr}(h:fG p=ag):0≤p.fr∧p.fr≤1099511627776∧1≤p.kV∧p.kV≤1099511627776∧p.head.length+p.cyc.length≤1048576∧p.head.Pairwise (· < ·)∧(∀ c ∈ p.head,-1<c∧c<p.fr)∧p.cyc.Pairwise (· < ·)∧∀ c ∈ p.cyc,-1<c∧c<p.kV:=by
 unfold fG at h;simp only [If,decide_eq_true_eq]at h;obtain⟨⟨⟨⟨⟨⟨g,j⟩,l⟩,m⟩,u⟩,q⟩,s⟩:=h;obtain⟨a1,b⟩:=mz q;obtain⟨b1,d⟩:=mz s;exact⟨g,j,l,m,by omega,a1,b,b1,d⟩
def D_(p:cr)(d:Int):Bool:=if p.fr≤d then decide ((d-p.fr) % p.kV ∈ p.cyc)else decide (d ∈ p.head)
def Day(d:Int):Prop:=d≤2305843009213693952
theorem NT(p:cr)(h:fG p=ag)(d:Int)(z:0≤d)(hd:Day d):bB tab.get 144 [.a (p.row.map .f),vi d]=Eq (vb (D_ p d)):=Kf.eq (by
 obtain⟨A,B,E,F,I,s,K,u,L⟩:=rW h;unfold Day at hd;refine fL rfl rfl fun H Q v=>?_;have j:∀(t:T) (J:an) (g:Tg) (l:List Int) (n:Int),l.length≤1048576→l.Pairwise (· < ·)→t.g 5=.c (.f (sl g (ints l)))→t.g 6=vi n→D_ p d=decide (n ∈ l)→WP tab.get 144 ae [.code E8] ⟨t,[],H++J⟩ Q:=by
  intro t J g l n M x m q e;obtain⟨i,-,-,-,y⟩:=DC g l n (by omega) x;apply aj;simp [m,q,y];apply aj;simp;refine aE (v _ _ ?_);simp [e]
 apply aj;simp [cr.row];apply aj;simp;apply aq;apply aj;simp;by_cases k:p.fr≤d
 ·refine ak (by simp [k]) ?_;refine au (.inl rfl) ?_;simp [aN (n:=d-p.fr),ke (a:=d-p.fr) (b:=p.kV) (by omega) (by omega)];exact j _ _ p.cg p.cyc ((d-p.fr) % p.kV) (by omega) u (by simp) (by simp) (by simp [D_,k])
 ·refine aW (by simp [k]) ?_;exact j _ _ p.hg p.head d (by omega) s (by simp) (by simp) (by simp [D_,k]))
def hasB(p:cr)(d:Int):Bool:=decide (0≤d)&&D_ p d
theorem agX(p:cr)(h:fG p=ag)(d:Int)(hd:Day d):Kf tab.get 98 [.a (p.row.map .f),vi d] (vb (hasB p d)):=by
 refine fL rfl rfl fun H Q g=>?_;have b:=aaU p (zy h);rw [h]at b;apply aj;simp [cr.row]at b ⊢;apply aj;by_cases k:0≤d
 ·have j:=NT p h d k hd;simp [cr.row]at j;simp [b,k,j];refine aE (g _ _ ?_);simp [hasB,k]
 ·simp [b,k];refine aE (g _ _ ?_);simp [hasB,k]
theorem N2(p:cr)(h:fG p=ag)(d:Int)(hd:Day d):Kf tab.get 97 [.a (p.row.map .f),.c (.f (.fp [fi d] 0))] (vb (!hasB p d)):=by
 refine fL rfl rfl fun H Q g=>?_;have b:=(agX p h d hd).eq;simp [cr.row]at b;have j:∀ H:an,aV H ae (.c (.f (.fp [fi d] 0)))=ab (vi d):=fun H=>by simp [aV,aF]
 apply aj;simp [cr.row];apply aj;simp [j,b];refine aE (g _ _ ?_);simp
def Bw(l:List cr)(d:Int):Bool:=l.all fun p=>hasB p d
theorem aoo(g:Tg)(l:List cr)(u:l.length≤9223372036854775807)(h:∀ p ∈ l,fG p=ag)(d:Int)(hd:Day d):Kf tab.get 59 [.c (.f (sl g (bL l))),vi d] (vb (Bw l d)):=by
 refine fL rfl rfl fun H Q m=>?_;have q:=(ky Zc (oB Zd l cr.row (fun r=>.a (r.row.map .f)) (fun p=>!hasB p d) g 97 [.fp [fi d] 0] u
  (fun j s H=>ez (fj l) (mq s)) (fun p v=>N2 p (h p v) d hd))).eq
 have e:(!l.any fun p=>!hasB p d)=Bw l d:=by
  rw [Bw,Bool.eq_iff_iff];simp [List.any_eq_false,at4]
 apply aj;simp;apply aj;have b:bB tab.get 88 [.c (.f (sl g (bL l))),.c (.f (.fn 97 [.fp [fi d] 0]))]=Eq (vb (l.any fun p=>!hasB p d)):=q;simp [deep,aiP,aaq,b,e];refine aE (m _ _ ?_);simp
theorem akw(t:dQ)(j:t.fs.length≤9223372036854775807)(h:∀ p ∈ t.fs,fG p=ag)(d:Int)(hd:Day d):Kf tab.get 58 [.c (.f (sl t.tg (bL t.fs))),.c (.f (.fp [fi d] 0))] (vb (Bw t.fs d)):=by
 refine fL rfl rfl fun H Q g=>?_;have b:∀ H:an,aV H ae (.c (.f (.fp [fi d] 0)))=ab (vi d):=fun H=>by simp [aV,aF]
 apply aj;simp;apply aj;simp [b,(aoo t.tg t.fs j h d hd).eq];refine aE (g _ _ ?_);simp
def ji(l:List dQ)(d:Int):Bool:=mY l&&l.any fun t=>Bw t.fs d
theorem eV{t:dQ}(h:lP t=ag):1≤t.fs.length∧t.fs.length≤4∧∀ p ∈ t.fs,fG p=ag:=by
 unfold lP at h;simp only [If,decide_eq_true_eq,at4]at h;exact⟨by omega,by omega,h.2⟩
theorem oE{l:List dQ}(h:mY l=ag):l.length≤64∧∀ t ∈ l,lP t=ag:=by
 unfold mY at h;simp only [If,decide_eq_true_eq,at4]at h;exact⟨by omega,h.2⟩
theorem aao(g:Tg)(l:List dQ)(b:l.length≤9223372036854775807)(h:∀ t ∈ l,t.Sm):bB tab.get 50 [.a [.f (sl g (bj l))]]=Eq (vb (mY l)):=(akN g l b h).eq
theorem agk(g:Tg)(l:List dQ)(h:mY l=ag)(d:Int)(hd:Day d):bB tab.get 14 [.a [.f (sl g (bj l))],vi d]=Eq (vb (ji l d)):=Kf.eq (by
 obtain⟨z,m⟩:=oE h;have s:=aao g l (by omega) (fun t b=>⟨by have:=(eV (m t b)).2.1;omega,fun p y=>zy ((eV (m t b)).2.2 p y)⟩);have v:=(ky ajd (oB ajf l dQ.row (fun t=>.c (.f (sl t.tg (bL t.fs)))) (fun t=>Bw t.fs d) g 58 [.fp [fi d] 0] (by omega)
  (fun j x H=>gu (kT l) (od x) rfl) (fun t b=>akw t (by have:=(eV (m t b)).2.1;omega) (eV (m t b)).2.2 d hd))).eq
 have q:bB tab.get 57 [.c (.f (sl g (bj l))),.c (.f (.fn 58 [.fp [fi d] 0]))]=Eq (vb (l.any fun t=>Bw t.fs d)):=v;rw [h]at s;refine fL rfl rfl fun H Q u=>?_;apply aj;simp;apply aj;simp [s,deep,aiP,aaq,q];refine aE (u _ _ ?_);simp [ji,h])
theorem qo{tab:Nat→Option aB}{fn:Nat}{b:Option Nat}{a:ay}{k:List cG}{s:St}{Q:Option ay→St→Prop}(h:WP tab fn b (.code a::.inLoop a::k) s Q):WP tab fn b (.code (.loop a)::k) s Q:=mN h fun _ _ _=>rfl
abbrev cT(l:List Int):List (List FC):=l.map fun n=>[fi n]
theorem ur(l:List Int):bO 1 (cT l):=bO.map fun _=>rfl
def jb(H:an)(c:C)(l:List Int)(d:an):Prop:=∃ b,b.Perm l∧b.Pairwise (·≤·)∧LR d c 1 (cT b)∧Kb H d c
theorem abl{l:List Int}(h:l.length<2):l.Pairwise (·≤·):=by
 match l,h with
 | [],_=>exact List.Pairwise.nil| [_],_=>exact auA _ _
theorem Z7{H:an}{c:C}{l:List Int}(M:LR H c 1 (cT l))(I:l.length≤2) :
  ∃ q,Ev tab.get (.fn 185) [.c c,vi 0,vi l.length] H (.t []) q∧jb H c l q:=by
 suffices h:∃ r q,Ev tab.get (.fn 185) [.c c,vi 0,vi l.length] H r q∧(r=.t []∧jb H c l q) by
  obtain⟨r,q,Y,rfl,m⟩:=h;exact⟨q,Y,m⟩
 refine dt rfl rfl fun Q N=>?_;have w1:ai .i64 1=1:=by decide
 have w2:ai .i64 2=2:=by decide
 have L:ai .i64 0=0:=by decide
 apply aj;simp [w1];refine az (qo (aq ?_));apply aj;by_cases m:l.length<2
 ·simp [show¬ (1:Int)<(l.length:Int) by omega];refine al (by simp) (bf rfl (jX (N _ _ _ rfl rfl ⟨rfl,l,List.Perm.refl _,abl m,M,Kb.refl _ _⟩)))
 obtain⟨x,y,rfl⟩:∃ x y,l=[x,y]:=by
  match l,I,m with
  | [],_,m=>simp at m| [_],_,m=>simp at m| [x,y],_,_=>exact⟨x,y,rfl⟩| _::_::_::_,I,_=>simp at I
 rcases M with⟨h,_⟩ | ⟨_,b,d,rfl,O⟩
 ·simp at h
 have g:H[b]?=ab (.bR 1 [.f (fi x),.f (fi y)] 0 d .loc):=O;clear m;have j:∀(t:T) (J:an),jb H (.sl b 0 2 0 d 1) [x,y] J→t.g 2=vi 2→t.g 6=vi 1→WP tab.get 185 ae [.inBlock 1,.code wI,.inLoop Ag,.inBlock 0] ⟨t,[],J⟩ Q:=by
  intro t J E W X;refine aw (au (.inl rfl) ?_);simp [X,w2];refine rO (aq (aj ?_));simp [W];exact al (by simp) (bf rfl (jX (N _ _ _ rfl rfl ⟨rfl,E⟩)))
 simp;refine ak (by simp) (aH (aq ?_));refine az (aj ?_);simp;refine az (qo (aq (aj ?_)));have i1:aL H 1 ae (.c (.sl b 0 2 0 d 1)) (vi 1)=ab (.c (.ptr b 1 d)):=by simp [aL,dD,g]
 have i0:aL H 1 ae (.c (.sl b 0 2 0 d 1)) (vi 0)=ab (.c (.ptr b 0 d)):=by simp [aL,dD,g]
 have U:aV H ae (.c (.ptr b 1 d))=ab (vi y):=by simp [aV,aF,g,aK]
 have S:aV H ae (.c (.ptr b 0 d))=ab (vi x):=by simp [aV,aF,g,aK]
 simp [L,i1,i0,U,S,-av,sA];by_cases A:y<x
 ·simp [A];refine ak (by simp) (aH (aq ?_));obtain⟨z,s⟩:=aP (H.set b (.bR 1 [.f (fi x),.f (fi x)] 0 d .loc):an);have v:z[b]?=ab (.bR 1 [.f (fi x),.f (fi x)] 0 d .loc):=by rw [s,OF (ax g)]
  have Z:dn H (.ptr b 1 d) [.f (fi x)]=ab z:=by simp [dn,g,over,s]
  have K:aL z 1 ae (.c (.sl b 0 2 0 d 1)) (vi 0)=ab (.c (.ptr b 0 d)):=by simp [aL,dD,v]
  obtain⟨B,u⟩:=aP (z.set b (.bR 1 [.f (fi y),.f (fi x)] 0 d .loc):an);have s2:dn z (.ptr b 0 d) [.f (fi y)]=ab B:=by simp [dn,v,over,u]
  have F:B[b]?=ab (.bR 1 [.f (fi y),.f (fi x)] 0 d .loc):=by rw [u,OF (ax v)]
  have E:jb H (.sl b 0 2 0 d 1) [x,y] B:=by
   refine⟨[y,x],List.Perm.swap _ _ _,by simp;omega,.inr ⟨by simp,b,d,rfl,F⟩,Kb.aoV ?_⟩;rw [u,s];exact(Fm.set _ _).trans (Fm.set _ _)
  refine az (au (.inl rfl) ?_);simp [L,i1,i0,U,S,Z,K,s2,-av,-bs];refine aw (au (.inl rfl) ?_);simp [L];refine rO (aq (aj ?_));simp;refine al (by simp) (bf rfl ?_);exact j _ _ E (by simp) (by simp)
 ·simp [A];refine al (by simp) (bf rfl ?_);exact j _ _ ⟨_,List.Perm.refl _,by simp;omega,.inr ⟨by simp,b,d,rfl,O⟩,Kb.refl _ _⟩ (by simp) (by simp)
theorem ND:((List.range 3).all fun n=>match (CF tab.get 60 20 (.fn 92) [.c (.f (.int .u64 (n:Nat)))] [])with | some (.c (.f (.int .i64 (.ofNat _))),_)=>ag | _=>ah)=ag:=by kernel_rfl
theorem zc{n:Nat}(h:n≤2):∃ k:Nat,bB tab.get 92 [.c (.f (.int .u64 (n:Nat)))]=Eq (vi (k:Nat)):=by
 have b:=dy ND (show n<3 by omega);revert b;split
 ·rename_i k d hr;intro _;exact⟨k,(dU (by rw [hr];rfl)).eq⟩
 ·intro h;cases h
theorem aaQ{H:an}{c:C}{l:List Int}(j:LR H c 1 (cT l))(s:l.length≤2)(k:Nat) :
  ∃ b,Ev tab.get (.fn 156) [.c c,vi 0,vi l.length,vi k] H (.t []) b∧jb H c l b:=by
 obtain⟨b,hi,q⟩:=Z7 j s
 suffices h:∃ r b,Ev tab.get (.fn 156) [.c c,vi 0,vi l.length,vi k] H r b∧(r=.t []∧jb H c l b) by
  obtain⟨r,b,d,rfl,g⟩:=h;exact⟨b,d,g⟩
 refine dt rfl rfl fun Q m=>?_;have u:ai .i64 (l.length:Int)=l.length:=aN;have hi:=hi.eq;apply aj;simp;apply aj;simp;refine az (qo (az (aj ?_)));simp [u];refine aq (aj ?_);simp [show(l.length:Int)≤12 by omega];refine ak (by simp) (aj ?_);simp [hi];exact aE (m _ _ _ rfl rfl ⟨rfl,q⟩)
theorem Ov{H:an}{c:C}{l:List Int}(g:LR H c 1 (cT l))(j:l.length≤2) :
  ∃ b,Ev tab.get (.fn 104) [.c c] H (.t []) b∧jb H c l b:=by
 obtain⟨k,v⟩:=zc j;obtain⟨b,hi,u⟩:=aaQ g j k
 suffices h:∃ r b,Ev tab.get (.fn 104) [.c c] H r b∧(r=.t []∧jb H c l b) by
  obtain⟨r,b,m,rfl,q⟩:=h;exact⟨b,m,q⟩
 refine dt rfl rfl fun Q s=>?_;have hi:=hi.eq;have d:=g.len;have x:IntKind.u64.wrap (l.length:Int)=l.length:=by
  have:l.length=0∨l.length=1∨l.length=2:=by omega
  rcases this with e | e | e<;>rw [e]<;>decide
 apply aj;simp [d];refine au (.inl rfl) ?_;simp [x,v,hi];exact jX (s _ _ _ rfl rfl ⟨rfl,u⟩)
section
variable{z:ZD}{o:List bA}
def dm(h:dB z o)(b a:Int):Prop:=∃ r,dX h.S a r∧a+offO z r=b
theorem dT(h:dB z o){t:Int}{r q:Option bA}(hr:dX h.S t r)(b:dX h.S t q):r=q:=dX.uniq h.apart hr b
theorem nP(h:dB z o){t l:Int}(hr:dX h.S t ae)(b:l-offO z ae≤t):dm h l (l-offO z ae):=⟨ae,hr.rS b,by omega⟩
theorem nQ(h:dB z o){t l:Int}{x:bA}(hr:dX h.S t (ab x))(b:l-offO z (ab x)≤t)(d:x.at_≤l-offO z (ab x)):dm h l (l-offO z (ab x)):=⟨ab x,hr.back d b,by omega⟩
theorem zp(h:dB z o){t:Int}{x:bA}(hr:dX h.S t (ab x)):∀ y,h.S y→y.at_≤x.at_-1→y.at_+2160≤x.at_:=by
 intro y d g;rcases h.apart x y hr.1 d with b | b | b
 ·omega
 ·exact b
 ·subst b;omega
end
def Y'{z:ZD}{o:List bA}(h:dB z o)(lo:Int)(m:Nat)(tm:Int)(n:Nat):Prop:=
 (m=2∧tm=lo+1080∧n=0)∨(m=1∧tm≤lo+1079∧n≤1∧∀ y,h.S y→y.at_≤tm→y.at_≤lo-1080)∨(m=0∧tm=lo-1081∧n≤2∧∀ y,h.S y→y.at_≤tm→y.at_<lo-1080)
structure yz{z:ZD}{o:List bA}(h:dB z o)(lo tm:Int)(l:List Int):Prop where
 at_:∀ a ∈ l,dm h lo a
 low:∀ a ∈ l,tm<a
 pw:l.Pairwise (· > ·)
 all:∀ a,dm h lo a→a ∈ l∨a≤tm
structure yA{z:ZD}{o:List bA}(h:dB z o)(lo:Int)(r:Option bA)(l:List Int):Prop where
 at_:∀ a ∈ l,dm h lo a
 low:∀ a ∈ l,∀ x,r=ab x→x.at_≤a
 pw:l.Pairwise (· > ·)
 all:∀ a,dm h lo a→a ∈ l∨∃ x,r=ab x∧a<x.at_
section
variable{z:ZD}{o:List bA}{h:dB z o}{lo tm:Int}{l:List Int}{r:Option bA}
theorem rT(h:dB z o){a:Int}(b:dm h lo a):lo-1080≤a∧a≤lo+1080:=by
 obtain⟨r,hr,e⟩:=b;have:=h.offO hr;omega
theorem yz.case(hr:dX h.S tm r){a:Int}(j:dm h lo a)(b:a≤tm):(a=lo-offO z r∧∀ x,r=ab x→x.at_≤a)∨∃ x,r=ab x∧a<x.at_:=by
 obtain⟨r',d,e⟩:=j;cases r with
 | none=>
  have:=dT h d (hr.rS b);subst this;exact .inl ⟨by omega,fun x g=>by cases g⟩
 | some x=>
  by_cases g:x.at_≤a
  ·have:=dT h d (hr.back g b);subst this;exact .inl ⟨by omega,fun y hy=>by cases hy;exact g⟩
  ·exact .inr ⟨x,rfl,by omega⟩
theorem yz.app(k:yz h lo tm l)(hr:dX h.S tm r)(j:dm h lo (lo-offO z r))(v:lo-offO z r≤tm)(q:∀ x,r=ab x→x.at_≤lo-offO z r):yA h lo r (l++[lo-offO z r]):=by
 refine⟨fun a d=>?_,fun a d x m=>?_,?_,fun a d=>?_⟩
 ·rcases at9.1 d with d | d
  ·exact k.at_ a d
  ·simp at d;subst d;exact j
 ·rcases at9.1 d with d | d
  ·have:=k.low a d;subst m;have:=hr.2.1;omega
  ·simp at d;subst d;exact q x m
 ·rw [auB];exact⟨k.pw,auA _ _,fun a d b u=>by simp at u;have:=k.low a d;show b<a;omega⟩
 ·rcases k.all a d with g | g
  ·exact .inl (avd _ g)
  ·rcases yz.case hr d g with⟨e,-⟩ | s
   ·exact .inl (List.mem_append_right _ (by simp [e]))
   ·exact .inr s
theorem yz.no(k:yz h lo tm l)(hr:dX h.S tm r)(m:¬ (lo-offO z r≤tm∧∀ x,r=ab x→x.at_≤lo-offO z r)):yA h lo r l:=by
 refine⟨k.at_,fun a b x j=>?_,k.pw,fun a b=>?_⟩
 ·have:=k.low a b;subst j;have:=hr.2.1;omega
 ·rcases k.all a b with d | d
  ·exact .inl d
  ·rcases yz.case hr b d with⟨e,g⟩ | g
   ·exact absurd ⟨by omega,fun x j=>by have:=g x j;omega⟩ m
   ·exact .inr g
theorem yA.next{x:bA}(k:yA h lo (ab x) l):yz h lo (x.at_-1) l:=by
 refine⟨k.at_,fun a b=>by have:=k.low a b x rfl;omega,k.pw,fun a b=>?_⟩;rcases k.all a b with d | ⟨y,hy,d⟩
 ·exact .inl d
 ·cases hy;exact .inr (by omega)
theorem yA.done(k:yA h lo r l)(hd:∀ x,r=ab x→x.at_<lo-1080):∀ a,dm h lo a→a ∈ l:=by
 intro a d;rcases k.all a d with b | ⟨y,hy,b⟩
 ·exact b
 ·have:=hd y hy;have:=rT h d;omega
theorem Z0{t:Int}{x:bA}{r2:Option bA}(hr:dX h.S t (ab x))(d:dX h.S (x.at_-1) r2)(B:x.at_+offO z r2≤lo)(E:lo<x.at_+x.off):∀ a,¬ dm h lo a:=by
 rintro a ⟨r,b,e⟩;have F:=h.offO b;have A:=h.off hr.1;have u:=h.offO d;have j:=h.apart;rcases Int.lt_or_le a x.at_ with v | m
 ·
  cases r with
  | none=>
   cases r2 with
   | none=>omega
   | some y=>
    have s:=b y d.1;have l:=d.2.1;rcases j y x d.1 hr.1 with g | g | g
    ·omega
    ·omega
    ·subst g;omega
  | some w=>
   cases r2 with
   | none=>have:=d w b.1;have:=b.2.1;omega
   | some y=>
    by_cases q:y.at_≤a
    ·have s:=b.2.2 y d.1 q;have l:=d.2.2 w b.1 (by have:=b.2.1;omega);rcases j w y b.1 d.1 with g | g | g
     ·omega
     ·omega
     ·subst g;omega
    ·have l:=d.2.1;rcases j y x d.1 hr.1 with g | g | g
     ·omega
     ·omega
     ·subst g;omega
 ·
  cases r with
  | none=>have:=b x hr.1;omega
  | some w=>
   have s:=b.2.2 x hr.1 m;have l:=b.2.1;rcases j x w hr.1 b.1 with g | g | g
   ·omega
   ·omega
   ·subst g;have:offO z (ab x)=x.off:=rfl;omega
end
theorem ahr{l b:List Int}(m:b.Perm l)(g:b.Pairwise (·≤·))(hd:l.Pairwise (· > ·)):b.Pairwise (· < ·):=by
 have j:l.Nodup:=avB (fun h=>by omega) hd;have d:b.Nodup:=m.nodup_iff.2 j;exact avB (fun⟨q,s⟩=>by omega) (g.and d)
def afd{z:ZD}{o:List bA}(h:dB z o)(lo e b:Int):Prop:=∀ x r2,dX h.S (lo+1080) (ab x)→dX h.S (x.at_-1) r2→x.at_+offO z r2≤lo→lo<x.at_+x.off→e=x.at_∧b=offO z r2
def Za{z:ZD}{o:List bA}(h:dB z o)(lo:Int):Prop:=∀ x r2,dX h.S (lo+1080) (ab x)→dX h.S (x.at_-1) r2→x.at_+offO z r2≤lo→lo<x.at_+x.off→False
theorem BB{z:ZD}{o:List bA}(h:dB z o)(g:Tg){lo:Int}(l0:0≤lo)(l1:lo≤460000) :
  ∃(l:List Int) (tg:Tg) (e b:Int),l.length≤2∧l.Pairwise (· < ·)∧(∀ a,a ∈ l↔dm h lo a)∧(-1000000≤e∧e≤1000000∧-1080≤b∧b≤1080)∧(l=[]→afd h lo e b)∧bB tab.get 62 [sR z g o,vi lo]=Eq (.t [.c (.f (sl tg (cT l))),vi e,vi b]):=by
 obtain⟨rr,⟨l,tg,e,b,hl,m9,U,l9,m4,rfl⟩,hp⟩:∃ rr,(∃(l:List Int) (tg:Tg) (e b:Int),l.length≤2∧l.Pairwise (· < ·)∧(∀ a,a ∈ l↔dm h lo a)∧(-1000000≤e∧e≤1000000∧-1080≤b∧b≤1080)∧(l=[]→afd h lo e b)∧rr=.t [.c (.f (sl tg (cT l))),vi e,vi b])∧bB tab.get 62 [sR z g o,vi lo] rr:=by
  refine bY rfl rfl fun Q hQ=>?_;apply aj;simp;apply aj;simp [aN (n:=lo+1080)];refine aq (az ?_);refine bG (fun m s=>∃(t:T) (J:an) (l:List Int) (c:C) (tm:Int),s=⟨t,[],J⟩∧LR J c 1 (cT l)∧yz h lo tm l∧Y' h lo m tm l.length∧(m≠2→Za h lo)∧-2000≤tm∧t.g 0=sR z g o∧t.g 1=vi lo∧t.g 4=.c c∧t.g 7=vi tm) 2
   ⟨_,_,[],_,lo+1080,rfl,LR.nil _ _,⟨by simp,by simp,List.Pairwise.nil,fun a ha=>.inr (by have:=rT h ha;omega)⟩,.inl ⟨rfl,rfl,rfl⟩,fun k=>absurd rfl k,by omega,by simp,by simp,by simp,by simp⟩ ?_
  rintro m s ⟨t,J,l,c,tm,rfl,hL,U,Z,c9,n6,F,A,B,H⟩ ih;have n7:tm≤500000:=by rcases Z with⟨-,e,-⟩ | ⟨-,e,-⟩ | ⟨-,e,-⟩<;>omega
  have N:l.length≤2:=by rcases Z with⟨-,-,e⟩ | ⟨-,-,e,-⟩ | ⟨-,-,e,-⟩<;>omega
  obtain⟨r,hr,c_⟩:=h.last g (t:=tm) (by omega) (by omega);obtain⟨r',m_,j3⟩:=xN h g (t:=tm) (by omega) (by omega);obtain rfl:=dT h hr m_;have hb:=h.offO hr;have b7:∀(t:T) (J:an) (l:List Int) (c:C) (b8:Nat),LR J c 1 (cT l)→yA h lo r l→Y' h lo m tm 0→(m=2→l.length≤1)→l.length≤2→t.g 0=sR z g o→t.g 1=vi lo→t.g 4=.c c→t.g 7=vi tm→t.g 8=.c (.ptr b8 0 0)→t.g 9=vb r.isSome →
    J[b8]?=ab (.box ((r.getD ⟨0,0⟩).row.map .f) 0) →
    WP tab.get 62 ae [.code ot,.inBlock 1,.inLoop nk,.inBlock 0,.code jM] ⟨t,[],J⟩ Q:=by
   clear hL U N F A B H Z;intro t J l c b8 hL U Z m5 N F A B H L g9 I;have b9:m=2→tm=lo+1080:=by
    intro e;rcases Z with⟨u,v,-⟩ | ⟨u,-⟩ | ⟨u,-⟩<;>omega
   have d9:∀ t:T,(∀ x,r=ab x→x.at_<lo-1080)→t.g 4=.c c→WP tab.get 62 ae [.code jM] ⟨t,[],J⟩ Q:=by
    intro t hd B;obtain⟨H',d7,l',hp,m7,k_,-⟩:=Ov hL N;have l7:=U.done hd;have d5:Za h lo:=by
     by_cases hm:m=2
     ·intro x r2 E X S h2;rw [←b9 hm]at E;have h3:=hd x (dT h hr E);have h4:=h.off E.1;omega
     ·exact c9 hm
    have d7:=d7.eq;apply aj;simp [B,d7];apply aj;simp [B];obtain⟨tg,l_⟩:=k_.ex (ur _) 63;refine aE (hQ _ _ (.t [.c (.f (sl tg (cT l'))),vi 0,vi 0]) ⟨l',tg,0,0,by rw [hp.length_eq];exact N,ahr hp m7 U.pw,fun a=>⟨fun ha=>U.at_ a (hp.subset ha),fun ha=>hp.symm.subset (l7 a ha)⟩,by decide,fun _ x r2 a b c d=>(d5 x r2 a b c d).elim,rfl⟩ ⟨rfl,.t [.c c,vi 0,vi 0],?_,?_⟩)
    ·simp [Km.results,bw,aZ]
    ·simp [fZ,bX,aZ,deep,l_]
   refine aq (aj ?_);cases r with
   | none=>
    simp [g9];refine ak (by simp) (bf rfl ?_);exact d9 _ (fun x E=>by cases E) (by simp [B])
   | some x=>
    simp [bA.row]at I;have hw:=aN (n:=lo-1080);by_cases E:x.at_<lo-1080
    ·simp [g9,L,A,I,aK,hw,E];refine ak (by simp) (bf rfl ?_);exact d9 _ (fun y hy=>by cases hy;exact E) (by simp [B])
    ·simp [g9,L,A,I,aK,hw,E];refine aW (by simp) ?_;have j4:=hr.2.1;have w1:=aN (n:=x.at_-1);obtain⟨r2,X,d6⟩:=xN h g (t:=x.at_-1) (by omega) (by omega);have a9:=h.offO X;have w2:=aN (n:=x.at_+offO z r2);have n9:=h.off hr.1;have w3:=aN (n:=x.at_+x.off);have i_:m≠0:=by
      rintro rfl;rcases Z with⟨u,-⟩ | ⟨u,-⟩ | ⟨-,-,-,K⟩
      ·cases u
      ·cases u
      ·exact E (K x hr.1 j4)
     refine aq (aj ?_);simp [F,L,I,aK,w1,d6];apply aj;have next:¬ (x.at_+offO z r2≤lo∧lo<x.at_+x.off)→∀ t:T,t.g 0=sR z g o→t.g 1=vi lo→t.g 4=.c c→t.g 8=.c (.ptr b8 0 0)→WP tab.get 62 ae [.code wO,.inBlock 1,.inLoop nk,.inBlock 0,.code jM] ⟨t,[],J⟩ Q:=by
      intro m6 t F A B L;have d5:Za h lo:=by
       by_cases hm:m=2
       ·intro x' j7 O M S h2;rw [←b9 hm]at O;have u:=dT h hr O;cases u;have v:=dT h X M;subst v;exact m6 ⟨S,h2⟩
       ·exact c9 hm
      refine au (.inl rfl) ?_;simp [L,I,aK,w1];refine aw ?_;have a_:=zp h hr;refine ih (m-1) _ (by omega) ⟨_,J,l,c,x.at_-1,rfl,hL,U.next,?_,fun _=>d5,by omega,by simp [F],by simp [A],by simp [B],by simp⟩;rcases Z with⟨u,v,-⟩ | ⟨u,v,-,K⟩ | ⟨u,-⟩
      ·exact .inr (.inl ⟨by omega,by omega,m5 u,fun y hy S=>by have:=a_ y hy S;omega⟩)
      ·have:=K x hr.1 j4;exact .inr (.inr ⟨by omega,by omega,N,fun y hy S=>by have:=a_ y hy S;omega⟩)
      ·omega
     by_cases S:x.at_+offO z r2≤lo
     ·by_cases h2:lo<x.at_+x.off
      ·simp [A,L,I,aK,w2,w3,S,h2];refine ak (by simp) (aj ?_);simp [L,I,aK];refine aE (hQ _ _ (.t [.c (.f (sl .nil (cT []))),vi x.at_,vi (offO z r2)]) ⟨[],.nil,_,_,by simp,List.Pairwise.nil,fun a=>⟨fun ha=>(by cases ha),fun ha=>absurd ha (Z0 hr X S h2 a)⟩,⟨by omega,by omega,a9.1,a9.2⟩,fun _ x' j7 O M k1 k2=>(by
        by_cases hm:m=2
        ·rw [←b9 hm]at O;have u:=dT h hr O;cases u;have v:=dT h X M;subst v;exact⟨rfl,rfl⟩
        ·exact(c9 hm x' j7 O M k1 k2).elim),rfl⟩ ⟨rfl,.t [.c (.f .aG),vi x.at_,vi (offO z r2)],?_,?_⟩)
       ·simp [Km.results,bw,aZ]
       ·simp [fZ,bX,aZ,sl,Tg.fc]
      ·simp [A,L,I,aK,w2,w3,S,h2];refine aW (by simp) ?_;exact next (fun k=>h2 k.2) _ (by simp [F]) (by simp [A]) (by simp [B]) (by simp [L])
     ·simp [A,w2,L,I,aK,S];refine aW (by simp) ?_;exact next (fun k=>S k.1) _ (by simp [F]) (by simp [A]) (by simp [B]) (by simp [L])
  refine az (aj ?_);simp [F,H,c_,bA.row];obtain⟨J1,b_⟩:=aP (J++[.box [.f (fi (r.getD ⟨0,0⟩).at_),.f (fi (r.getD ⟨0,0⟩).off)] 0]:an);rw [←b_];have I:J1[J.length]?=ab (.box [.f (fi (r.getD ⟨0,0⟩).at_),.f (fi (r.getD ⟨0,0⟩).off)] 0):=by rw [b_];simp
  have e_:LR J1 c 1 (cT l):=by rw [b_];exact hL.push _
  apply aj;simp [F,H,j3];refine aq (aj ?_);simp [A,aN (n:=lo-offO z r)];have d_:Y' h lo m tm 0:=by
   rcases Z with⟨u,v,-⟩ | ⟨u,v,-,K⟩ | ⟨u,v,-,K⟩
   ·exact .inl ⟨u,v,rfl⟩
   ·exact .inr (.inl ⟨u,v,by omega,K⟩)
   ·exact .inr (.inr ⟨u,v,by omega,K⟩)
  obtain⟨q,W⟩:=aP (lo-offO z r);rw [←W];have i_:q≤tm→m=2∧l.length=0∨m=1∧l.length≤1:=by
   intro j;rcases Z with⟨u,v,K⟩ | ⟨u,v,e4,K⟩ | ⟨u,v,-,K⟩<;>omega
  have d8:∀ t:T,q≤tm→yA h lo r (l++[q])→t.g 0=sR z g o→t.g 1=vi lo→t.g 4=.c c→t.g 7=vi tm→t.g 8=.c (.ptr J.length 0 0)→t.g 9=vb r.isSome→t.g 11=vi q →
    WP tab.get 62 ae [.code wN,.code ot,.inBlock 1,.inLoop nk,.inBlock 0,.code jM] ⟨t,[],J1⟩ Q:=by
   intro t j h_ F A B H L g9 j9;obtain⟨J2,a7⟩:=aP (J1++[.box ([fi q].map .f) 0]:an);have f9:LR J2 c 1 (cT l):=by rw [a7];exact e_.push _
   have a9:J2[J1.length]?=ab (.box ([fi q].map .f) 0):=by rw [a7];simp
   have j8:J2[J.length]?=ab (.box [.f (fi (r.getD ⟨0,0⟩).at_),.f (fi (r.getD ⟨0,0⟩).off)] 0):=by rw [a7,AI (ax I)];exact I
   obtain⟨c3,J3,g_,f_,j_,n5⟩:=f9.app (ur l) (by decide) (row:=[fi q]) rfl (bytes:=8) (cB (by simp;omega) (by decide)) a9;have n4:=j_.2 _ _ j8 (f9.cw j8);have hm:=i_ j;refine au (.inl rfl) ?_;have v:J1++[.box [.f (fi q)] 0]=J2:=a7.symm;simp [B,j9];rw [v];simp [g_];have K:cT l++[[fi q]]=cT (l++[q]):=by simp
   rw [K]at f_;refine b7 _ J3 (l++[q]) c3 J.length f_ h_ d_ (fun e=>by rw [at7,auX];omega) (by rw [at7,auX];omega) (by simp [F]) (by simp [A]) (by simp) (by simp [H]) (by simp [L]) (by simp [g9]) (by simpa [bA.row]using n4)
  have Y:∀ t:T,yA h lo r l→t.g 0=sR z g o→t.g 1=vi lo→t.g 4=.c c→t.g 7=vi tm→t.g 8=.c (.ptr J.length 0 0)→t.g 9=vb r.isSome →
    WP tab.get 62 ae [.code ot,.inBlock 1,.inLoop nk,.inBlock 0,.code jM] ⟨t,[],J1⟩ Q:=by
   intro t hR F A B H L g9;exact b7 _ J1 l c J.length e_ hR d_ (by rcases Z with⟨u,v,K⟩ | ⟨u,v,e4,K⟩ | ⟨u,v,-,K⟩<;>omega) N F A B H L g9 (by simpa [bA.row]using I)
  apply aj;by_cases j:q≤tm
  ·cases r with
   | none=>
    simp [H,j];refine ak (by simp) ?_;exact d8 _ j (by rw [W]at j ⊢;exact U.app hr (nP h hr (by omega)) j (fun x E=>by cases E)) (by simp [F]) (by simp [A]) (by simp [B]) (by simp [H]) (by simp) (by simp) (by simp)
   | some x=>
    simp at I;by_cases E:x.at_≤q
    ·simp [H,j,I,aK,E];refine ak (by simp) ?_;exact d8 _ j (by rw [W]at j E ⊢;exact U.app hr (nQ h hr (by omega) (by omega)) j (fun y hy=>by cases hy;exact E)) (by simp [F]) (by simp [A]) (by simp [B]) (by simp [H]) (by simp) (by simp) (by simp)
    ·simp [H,j,I,aK,E];refine aW (by simp) ?_;exact Y _ (U.no hr fun k=>E (by rw [W];exact k.2 x rfl)) (by simp [F]) (by simp [A]) (by simp [B]) (by simp [H]) (by simp) (by simp)
  ·simp [H,j];refine aW (by simp) ?_;exact Y _ (U.no hr fun k=>j (by rw [W];exact k.1)) (by simp [F]) (by simp [A]) (by simp [B]) (by simp [H]) (by simp) (by simp)
 exact⟨l,tg,e,b,hl,m9,U,l9,m4,hp.eq⟩
theorem nU:bB tab.get 63 []=Eq (.a [.f (.fn 105 []),.f (.fn 106 []),.f (.fn 107 [])]):=bB.eq (fo (m:=40) (d:=10) (by kernel_rfl))
theorem ahx(a b c:V)(H:an):Ev tab.get (.fn 105) [a,b,c] H (.c (.f .aG)) H:=by
 obtain⟨r,d,j,rfl,rfl⟩:∃ r d,Ev tab.get (.fn 105) [a,b,c] H r d∧r=.c (.f .aG)∧d=H:=by
  refine dt rfl rfl fun Q g=>?_;apply aj;simp;apply aj;simp;exact aE (g _ _ _ rfl (jJ (by simp)) ⟨rfl,rfl⟩)
 exact j
theorem abk{a c:Int}(l:ai .i64 (a-c)=a-c)(b:V)(H:an):Ev tab.get (.fn 106) [vi a,b,vi c] H (.c (.sl H.length 0 1 1 0 1)) (H++[.box [.f (fi (a-c))] 0]):=by
 obtain⟨r,d,j,rfl,rfl⟩:∃ r d,Ev tab.get (.fn 106) [vi a,b,vi c] H r d∧r=.c (.sl H.length 0 1 1 0 1)∧d=H++[.box [.f (fi (a-c))] 0]:=by
  refine dt rfl rfl fun Q g=>?_;apply aj;simp;apply aj;simp [l];exact aE (g _ _ _ rfl (jJ (by simp)) ⟨rfl,rfl⟩)
 exact j
theorem afy(a c:V)(b:Int)(H:an):Ev tab.get (.fn 107) [a,vi b,c] H (.c (.sl H.length 0 1 1 0 1)) (H++[.box [.f (fi b)] 0]):=by
 obtain⟨r,d,j,rfl,rfl⟩:∃ r d,Ev tab.get (.fn 107) [a,vi b,c] H r d∧r=.c (.sl H.length 0 1 1 0 1)∧d=H++[.box [.f (fi b)] 0]:=by
  refine dt rfl rfl fun Q g=>?_;apply aj;simp;apply aj;simp;exact aE (g _ _ _ rfl (jJ (by simp)) ⟨rfl,rfl⟩)
 exact j
theorem jC{z:ZD}{o:List bA}(h:dB z o){lo:Int}(l0:0≤lo)(l1:lo≤460000) :
  ∃(l:List Int) (e b:Int),l.length≤2∧l.Pairwise (· < ·)∧(∀ a,a ∈ l↔dm h lo a)∧(-1000000≤e∧e≤1000000∧-1080≤b∧b≤1080)∧(l=[]→afd h lo e b) ∧
   ∀ cR fold:Int,0≤cR→cR≤2→0≤fold→fold≤2→∃ tg:Tg,bB tab.get 18 [z.v,vi lo,vi cR,vi fold]=Eq (.t [.c (.f (sl tg (cT (fk cR fold lo l e b)))),vi 0]):=by
 obtain⟨g,S⟩:=F0 h;obtain⟨l,tg,e,b,O,U,p,K,M,N⟩:=BB h g l0 l1;have hc:=h.c;refine⟨l,e,b,O,U,p,K,M,fun cR fold i k Z f=>?_⟩;obtain⟨X,⟨d,rfl⟩,hp⟩:∃ X,(∃ d:Tg,X=.t [.c (.f (sl d (cT (fk cR fold lo l e b)))),vi 0])∧bB tab.get 18 [z.v,vi lo,vi cR,vi fold] X:=by
  refine bY rfl rfl fun Q r=>?_;apply aj;simp;obtain⟨H0,v⟩:=aP ([.box (z.row.map .f) 0]:an);rw [←v];have z0:H0[0]?=ab (.box (z.row.map .f) 0):=by rw [v];rfl
  have a7:H0.length=1:=by rw [v];rfl
  clear v;apply aj;simp [cA z0 hc,-av,S];refine aq (aj ?_);simp [yk (n:=lo) (m:=2251799813684168) (by decide) (by decide) (by omega) (by omega),show¬ cR<0 by omega,show¬ 2<cR by omega,show¬ fold<0 by omega,show¬ 2<fold by omega];refine aW (by simp) ?_;apply aj;simp [N];have j:∀(t:T) (J:an) (c:C) (d:Tg),t.g 12=.c c→db deep J c=ab (sl d (cT (fk cR fold lo l e b)))→WP tab.get 18 ae [.inBlock 0,.code wL] ⟨t,[],J⟩ Q:=by
   intro t J c d I L;refine aw (aj ?_);simp [I];refine aE (r _ _ _ ⟨d,rfl⟩ ⟨rfl,.t [.c c,vi 0],?_,?_⟩)
   ·simp [Km.results,bw,aZ]
   ·simp [fZ,bX,aZ,L]
  refine aq (az (aj ?_));by_cases u:l=[]
  ·subst u;have s:bJ H0 (.f (sl tg (cT [])))=ab 0:=by simpa using pg (H:=H0) tg (cT [])
   simp at s;simp [s];refine ak (by simp) (au (.inl rfl) ?_);have hg:cR=0∨cR=1∨cR=2:=by omega
   rcases hg with rfl | rfl | rfl
   ·have q:=(ahx (vi lo) (vi e) (vi b) H0).eq;simp [nU,mM,dD,aK,ca,q];exact j _ _ (.f .aG) .nil (by simp) (by simp [fk,sl,Tg.fc])
   ·have q:=(abk (a:=lo) (c:=b) (aN) (vi e) H0).eq;simp [nU,mM,dD,aK,ca,q];exact j _ _ (.sl H0.length 0 1 1 0 1) .fs (by simp) (by simp [fk,sl,deep,jf])
   ·have q:=(afy (vi lo) (vi b) e H0).eq;simp [nU,mM,dD,aK,ca,q];exact j _ _ (.sl H0.length 0 1 1 0 1) .fs (by simp) (by simp [fk,sl,deep,jf])
  ·have Y:0<l.length:=auF.2 u;have s:bJ H0 (.f (sl tg (cT l)))=ab l.length:=by simpa using pg (H:=H0) tg (cT l)
   have A:sl tg (cT l)=.fs (cT l).flatten l.length:=by
    have:¬ (cT l).isEmpty=ag:=by simpa using u
    unfold sl;rw [aY this];simp
   simp [s,u];refine al (by simp) ?_;apply aj;by_cases E:fold=0
   ·subst E;simp;refine ak (by simp) (au (.inl rfl) ?_);have W:fH H0 1 (.c (.f (.fs (cT l).flatten l.length))) ae (ab (vi 1)) ae=ab (.c (.f (sl .fs (cT (l.take 1))))):=by
     rcases l with _ | ⟨x,_ | ⟨y,_ | ⟨w,l⟩⟩⟩
     ·exact absurd rfl u
     ·rfl
     ·rfl
     ·simp at O
    simp [A,W];exact j _ _ (.f (sl .fs (cT (l.take 1)))) .fs (by simp) (by simp [fk,u])
   simp [E];refine al (by simp) ?_;apply aj;by_cases F:fold=1
   ·subst F;simp;refine ak (by simp) (au (.inl rfl) ?_);have W:fH H0 1 (.c (.f (.fs (cT l).flatten l.length))) (ab (vi ((l.length:Int)-1))) ae ae=ab (.c (.f (sl .fs (cT (l.drop (l.length-1)))))):=by
     rcases l with _ | ⟨x,_ | ⟨y,_ | ⟨w,l⟩⟩⟩
     ·exact absurd rfl u
     ·rfl
     ·rfl
     ·simp at O
    have B:bJ H0 (.f (.fs (cT l).flatten l.length))=ab l.length:=A▸s;simp [A,B,aN (n:=(l.length:Int)-1),W];exact j _ _ (.f (sl .fs (cT (l.drop (l.length-1))))) .fs (by simp) (by simp [fk,u])
   simp [F];refine aW (by simp) ?_;exact j _ _ (.f (sl tg (cT l))) tg (by simp) (by simp [fk,u,E,F])
 exact⟨d,hp.eq⟩
section
variable{z:ZD}{o:List bA}
noncomputable def sV (h:dB z o) (lo cR fold:Int):List Int:=
 if b:0≤lo∧lo≤460000 then
  fk cR fold lo (Classical.choose (jC h b.1 b.2)) (Classical.choose (Classical.choose_spec (jC h b.1 b.2))) (Classical.choose (Classical.choose_spec (Classical.choose_spec (jC h b.1 b.2))))
 else []
structure am'(h:dB z o)(lo:Int)(l:List Int)(e b:Int):Prop where
 len:l.length≤2
 pw:l.Pairwise (· < ·)
 mem:∀ a,a ∈ l↔dm h lo a
 bd:-1000000≤e∧e≤1000000∧-1080≤b∧b≤1080
 cR:l=[]→afd h lo e b
 run:∀ cR fold:Int,0≤cR→cR≤2→0≤fold→fold≤2→∃ tg:Tg,bB tab.get 18 [z.v,vi lo,vi cR,vi fold]=Eq (.t [.c (.f (sl tg (cT (fk cR fold lo l e b)))),vi 0])
 ins:∀ cR fold:Int,sV h lo cR fold=fk cR fold lo l e b
theorem DW(h:dB z o){lo:Int}(g:0≤lo)(j:lo≤460000):∃ l e b,am' h lo l e b:=by
 have d:=Classical.choose_spec (Classical.choose_spec (Classical.choose_spec (jC h g j)));exact⟨_,_,_,d.1,d.2.1,d.2.2.1,d.2.2.2.1,d.2.2.2.2.1,d.2.2.2.2.2,fun cR fold=>by unfold sV;rw [dif_pos ⟨g,j⟩]⟩
theorem af5(h:dB z o){lo:Int}(q:0≤lo)(s:lo≤460000){cR fold:Int}(j:0≤cR)(m:cR≤2)(d:0≤fold)(g:fold≤2) :
  ∃ tg:Tg,bB tab.get 18 [z.v,vi lo,vi cR,vi fold]=Eq (.t [.c (.f (sl tg (cT (sV h lo cR fold)))),vi 0]):=by
 obtain⟨l,e,b,k⟩:=DW h q s;rw [k.ins];exact k.run cR fold j m d g
noncomputable def vK (h:dB z o) (lo:Int):List Int:=sV h lo 0 2
theorem aaZ(lo:Int)(l:List Int)(e b:Int):fk 0 2 lo l e b=l:=by
 unfold fk;split
 ·rename_i h;rw [h];rfl
 ·rfl
theorem y6{h:dB z o}{lo:Int}{l:List Int}{e b:Int}(k:am' h lo l e b):vK h lo=l:=by unfold vK;rw [k.ins,aaZ]
theorem af3(h:dB z o){lo:Int}(d:0≤lo)(g:lo≤460000):(vK h lo).Pairwise (· < ·):=by
 obtain⟨l,e,b,k⟩:=DW h d g;rw [y6 k];exact k.pw
theorem Z6(h:dB z o){lo:Int}(d:0≤lo)(g:lo≤460000)(a:Int):a ∈ vK h lo↔dm h lo a:=by
 obtain⟨l,e,b,k⟩:=DW h d g;rw [y6 k];exact k.mem a
theorem rL(h:dB z o){lo:Int}(m:0≤lo)(q:lo≤460000){cR fold:Int}(g:0≤fold)(j:fold≤2):(sV h lo cR fold).length≤2:=by
 obtain⟨l,e,b,k⟩:=DW h m q;have s:=k.len;rw [k.ins];by_cases d:l=[]
 ·subst d;rw [Oh];split<;>decide
 ·rw [aa0 d ⟨g,j⟩];split<;>omega
theorem af4(h:dB z o){lo:Int}(d:0≤lo)(g:lo≤460000){cR fold:Int}:(sV h lo cR fold).Pairwise (· < ·):=by
 obtain⟨l,e,b,k⟩:=DW h d g;rw [k.ins];exact ahk k.pw
theorem FG(h:dB z o){lo:Int}(j:0≤lo)(m:lo≤460000){cR fold:Int}:∀ a ∈ sV h lo cR fold,-1000000≤a∧a≤1000000:=by
 intro a d;obtain⟨l,e,b,k⟩:=DW h j m;have q:=k.bd;rw [k.ins]at d;by_cases g:l=[]
 ·subst g;unfold fk at d;rw [bg rfl]at d;split at d
  ·cases d
  ·split at d<;>simp at d<;>omega
 ·have:=rT h ((k.mem a).1 (aa1 g d));omega
theorem ahm:∀ {l m:List Int},l.Pairwise (· < ·)→m.Pairwise (· < ·)→(∀ a,a ∈ l↔a ∈ m)→l=m:=by
 intro l;induction l with
 | nil=>
  intro m _ _ h;cases m with
  | nil=>rfl| cons x m=>exact absurd ((h x).2 at2) (by simp)
 | cons x l u=>
  intro m q s h;cases m with
  | nil=>exact absurd ((h x).1 at2) (by simp)
  | cons y m=>
   have b:=auw.1 q;have d:=auw.1 s;have e:x=y:=by
    rcases aui.1 ((h x).1 at2)with e | e
    ·exact e
    ·rcases aui.1 ((h y).2 at2)with j | j
     ·exact j.symm
     ·have:=b.1 _ j;have:=d.1 _ e;omega
   subst e;rw [u b.2 d.2];intro a;constructor
   ·intro g;rcases aui.1 ((h a).1 (aub _ g))with e | e
    ·have:=b.1 _ g;omega
    ·exact e
   ·intro g;rcases aui.1 ((h a).2 (aub _ g))with e | e
    ·have:=d.1 _ g;omega
    ·exact e
end
noncomputable def vz {z:ZD} {o:List bA} (h:dB z o) (s:bW) (d:Int):List fB:=
 if s.dropped d=ag then []else(sV h (s.at_ d) s.cR s.fold).map fun a=>⟨d,a,a+s.uF d⟩
def gk(a b:fB):Prop:=a.fr<b.fr∨a.fr=b.fr∧(a.day<b.day∨a.day=b.day∧a.to<b.to)
instance(a b:fB):Decidable (gk a b):=by unfold gk;exact inferInstance
def jw(a b:fB):Prop:=¬ gk b a
theorem gk.le{a b:fB}(h:gk a b):jw a b:=by unfold jw gk at *;omega
theorem jw.trans{a b c:fB}(h:jw a b)(k:jw b c):jw a c:=by unfold jw gk at *;omega
theorem jw.ne{a b:fB}(h:jw a b)(k:a≠b):gk a b:=by
 obtain⟨d,f,t⟩:=a;obtain⟨g,q,s⟩:=b;unfold jw gk at *;have:¬ (d=g∧f=q∧t=s):=fun⟨j,l,m⟩=>k (by rw [j,l,m]);simp only at *;omega
def MS(t:fB)(l o:List fB):Prop:=∃ A B,l=A++B∧o=A++t::B∧(∀ x ∈ B,gk t x)∧∀ x,A.getLast?=ab x→¬ gk t x
theorem MS.perm{t:fB}{l o:List fB}(h:MS t l o):o.Perm (l++[t]):=by
 obtain⟨A,B,rfl,rfl,-,-⟩:=h;exact List.perm_middle.trans (List.perm_append_singleton t (A++B)).symm
theorem MS.sorted{t:fB}{l o:List fB}(h:MS t l o)(s:l.Pairwise jw):o.Pairwise jw:=by
 obtain⟨A,B,rfl,rfl,E,y⟩:=h;rw [auB]at s ⊢;obtain⟨m,v,x⟩:=s;have q:∀ a ∈ A,jw a t:=by
  intro a d;cases j:A.getLast? with
  | none=>simp at j;subst j;cases d
  | some z=>
   have u:=y z j;obtain⟨F,e⟩:=avc.1 j;rw [e,auB]at m;rw [e]at d;rcases at9.1 d with d | d
   ·exact jw.trans (m.2.2 a d z (by simp)) u
   ·have:a=z:=by simpa using d
    rw [this];exact u
 refine⟨m,auw.2 ⟨fun b g=>(E b g).le,v⟩,fun a d b g=>?_⟩;rcases aui.1 g with rfl | g
 ·exact q a d
 ·exact x a d b g
theorem FK:∀ {a b:List fB},a.Pairwise gk→b.Pairwise jw→b.Perm a→b=a
 | [],b,_,_,h=>h.eq_nil| x::a,[],_,_,h=>by cases h.symm.eq_nil
 | x::a,y::b,d,g,h=>by
  rw [auw]at d g;have l:y=x:=by
   have m:y ∈ x::a:=h.subset (at2 ..);have j:x ∈ y::b:=h.symm.subset (at2 ..);rcases aui.1 m with e | m
   ·exact e
   ·rcases aui.1 j with e | j
    ·exact e.symm
    ·exact absurd (d.1 y m) (g.1 x j)
  subst l;rw [FK d.2 g.2 (h.cons_inv)]
theorem xw:∀ {a:List fB},a.Pairwise jw→a.Nodup→a.Pairwise gk
 | [],_,_=>List.Pairwise.nil
 | x::a,b,d=>by
  rw [auw]at b;rw [List.nodup_cons]at d;exact auw.2 ⟨fun y g=>(b.1 y g).ne fun e=>d.1 (e▸g),xw b.2 d.2⟩
noncomputable def kS {z:ZD} {o:List bA} (h:dB z o) (s:bW) (p:Int→Bool) (fr:Int):Nat→List fB
 | 0=>[]| n+1=>kS h s p fr n++if p (fr+n)=ag then vz h s (fr+n)else []
theorem FZ{z:ZD}{o:List bA}{h:dB z o}{s:bW}{d:Int}{x:fB}(b:x ∈ vz h s d):x.day=d:=by
 unfold vz at b;split at b
 ·cases b
 ·obtain⟨a,-,rfl⟩:=auy.1 b;rfl
theorem N4{z:ZD}{o:List bA}{h:dB z o}{s:bW}{d:Int}(g:0≤s.at_ d)(j:s.at_ d≤460000):(vz h s d).Nodup:=by
 unfold vz;split
 ·exact List.nodup_nil
 ·have:=af4 h g j (cR:=s.cR) (fold:=s.fold);rw [List.Nodup,List.pairwise_map];refine avB (fun {a b} l e=>?_) this;have:=congrArg fB.fr e;simp only at this;omega
theorem zq{z:ZD}{o:List bA}{h:dB z o}{s:bW}{d:Int}(b:0≤s.fold∧s.fold≤2)(g:0≤s.at_ d)(j:s.at_ d≤460000):(vz h s d).length≤2:=by
 unfold vz;split
 ·decide
 ·rw [aur];exact rL h g j b.1 b.2
theorem B6{z:ZD}{o:List bA}{h:dB z o}{s:bW}{p:Int→Bool}{fr:Int}{x:fB}:∀ {n:Nat},x ∈ kS h s p fr n↔∃ k<n,p (fr+k)=ag∧x ∈ vz h s (fr+k)
 | 0=>by simp [kS]
 | n+1=>by
  rw [kS,at9,B6 (n:=n)];constructor
  ·rintro(⟨k,g,b⟩ | b)
   ·exact⟨k,by omega,b⟩
   ·split at b
    ·exact⟨n,by omega,by assumption,b⟩
    ·cases b
  ·rintro⟨k,g,b⟩;rcases auk (show k≤n by omega)with d | d
   ·exact .inl ⟨k,d,b⟩
   ·subst d;refine .inr ?_;rw [bg b.1];exact b.2
theorem u5{z:ZD}{o:List bA}{h:dB z o}{s:bW}{p:Int→Bool}{fr:Int}:∀ {n:Nat},(∀ k:Nat,k<n→0≤s.at_ (fr+k)∧s.at_ (fr+k)≤460000)→(kS h s p fr n).Nodup
 | 0,_=>List.nodup_nil
 | n+1,b=>by
  rw [kS,List.nodup_append];refine⟨u5 fun k j=>b k (by omega),?_,?_⟩
  ·split
   ·exact N4 (b n (by omega)).1 (b n (by omega)).2
   ·exact List.nodup_nil
  ·intro x l y d e;subst e;obtain⟨k,j,-,g⟩:=B6.1 l;split at d
   ·have m:=FZ g;have q:=FZ d;omega
   ·cases d
theorem qG{z:ZD}{o:List bA}{h:dB z o}{s:bW}{p:Int→Bool}{fr:Int}(g:0≤s.fold∧s.fold≤2):∀ {n:Nat},(∀ k:Nat,k<n→0≤s.at_ (fr+k)∧s.at_ (fr+k)≤460000)→(kS h s p fr n).length≤2*n
 | 0,_=>by simp [kS]
 | n+1,b=>by
  rw [kS,at7];have:=qG (h:=h) (s:=s) (p:=p) (fr:=fr) g (n:=n) fun k j=>b k (by omega);split
  ·have:=zq (h:=h) (s:=s) (d:=fr+n) g (b n (by omega)).1 (b n (by omega)).2;omega
  ·simp;omega
theorem sG{l:List bz}(h:pV l){j:Nat}(b:j<l.length)(d:Int):dL (l.take (j+1)) d=if l[j].day=d then ab l[j]else dL (l.take j) d:=by
 unfold dL;rw [at0 b,List.find?_append];by_cases hd:l[j].day=d
 ·rw [bg hd];have:(l.take j).find? (fun x=>decide (x.day=d))=ae:=by
   rw [avi];intro x g;obtain⟨i,hi,rfl⟩:=at3 g;simp at hi;rw [List.getElem_take];have:=auc.1 h i j (by omega) b (by omega);simp;omega
  rw [this];simp [hd]
 ·rw [aY hd];simp [hd]
theorem sF{l:List bz}(h:pV l){j:Nat}(b:j<l.length){d:Int}(hd:l[j].day=d):dL l d=ab l[j]:=by
 unfold dL;have key:∀(i:Nat),i≤l.length→j<i→(l.take i).find? (fun x=>decide (x.day=d))=ab l[j]:=by
  intro i;induction i with
  | zero=>intro _ h;omega
  | succ i q=>
   intro hi g;have:=sG h (j:=i) (by omega) d;unfold dL at this;rw [this];by_cases e:j=i
   ·subst e;rw [bg hd]
   ·have m:=auc.1 h j i b (by omega) (by omega);rw [aY (by omega)];exact q (by omega) (by omega)
 have:=key l.length (aft _) b;rwa [aul]at this
theorem BJ{l:List bz}{d:Int}(h:∀ j (b:j<l.length),l[j].day≠d):dL l d=ae:=by
 unfold dL;rw [avi];intro x g;obtain⟨j,b,rfl⟩:=at3 g;have:=h j b;simp [this]
theorem uL{l:List bz}{d:Int}{m:bz}(h:dL l d=ab m):m ∈ l∧m.day=d:=by
 unfold dL at h;exact⟨List.mem_of_find?_eq_some h,by simpa using List.find?_some h⟩
def atO(s:bW)(d:Int):Option bz→Int
 | none=>d*1440+s.mi| some m=>m.to*1440+m.mi
def loO(s:bW):Option bz→Int
 | none=>s.le| some m=>m.le
def drO:Option bz→Bool
 | none=>ah| some m=>m.drop
theorem Zs(s:bW)(d:Int):s.at_ d=atO s d (dL s.mv d):=by unfold bW.at_ atO;split<;>rename_i h<;>rw [h]
theorem uG(s:bW)(d:Int):s.uF d=loO s (dL s.mv d):=by unfold bW.uF loO;split<;>rename_i h<;>rw [h]
theorem rB(s:bW)(d:Int):s.dropped d=drO (dL s.mv d):=by unfold bW.dropped drO;split<;>rename_i h<;>rw [h]
structure bW.np(s:bW):Prop where
 ok:s.OK
 ml:s.mv.length≤4
 zo:s.zo=⟨#[122]⟩
 rl:s.ru.length≤15
 le:s.le≤2880
 mo:∀ m ∈ s.mv,m.day≤39∧m.to≤39∧m.mi≤1275∧m.le≤256
theorem bW.np.at_{s:bW}(h:s.np){d:Int}(q:0≤d)(u:d≤300):0≤s.at_ d∧s.at_ d≤460000:=by
 rw [Zs];have l:=h.ok.mi;cases j:dL s.mv d with
 | none=>simp only [atO];omega
 | some m=>
  have b:=(uL j).1;have v:=h.mo m b;have g:=h.ok.mo m b;simp only [atO];cases hd:m.drop with
  | true=>have:=g.dr hd;omega| false=>have:=g.nd hd;omega
theorem bW.np.uF{s:bW}(h:s.np)(d:Int)(hd:s.dropped d=ah):1≤s.uF d∧s.uF d≤2880:=by
 rw [uG];rw [rB]at hd;cases g:dL s.mv d with
 | none=>simp only [loO];have:=h.ok.le;have:=h.le;omega
 | some m=>
  have b:=(uL g).1;have l:=h.mo m b;have j:=h.ok.mo m b;rw [g]at hd;have:=j.nd hd;simp only [loO];omega
structure M5 where
 a:Nat
 b:Nat
 c:Nat
 d:Nat
 e:Nat
def M5.row(x:M5):List FC:=[u8 x.a,u8 x.b,u8 x.c,u8 x.d,u8 x.e]
structure M5.OK(x:M5):Prop where
 a:x.a<256
 b:x.b<256
 c:x.c<256
 d:x.d<256
 e:x.e<256
theorem NV{x:M5}(F:x.OK):∃ m:bz,m.OK∧(m.day≤39∧m.to≤39∧m.mi≤1275∧m.le≤256)∧bB tab.get 17 [.a (x.row.map .f)]=Eq (.a (m.row.map .f)):=by
 obtain⟨g,⟨m,u,v,rfl⟩,E⟩:∃ g,(∃ m:bz,m.OK∧(m.day≤39∧m.to≤39∧m.mi≤1275∧m.le≤256)∧g=.a (m.row.map .f))∧bB tab.get 17 [.a (x.row.map .f)] g:=by
  obtain⟨a,b,c,d,e⟩:=x;obtain⟨y,z,A,hd,B⟩:=F;simp only at y z A hd B;obtain⟨p,p1,s⟩:=hZ a (m:=40) (by decide);obtain⟨q,L,I⟩:=hZ b (m:=40) (by decide);obtain⟨r,r1,r2⟩:=hZ e (m:=4) (by decide);have K:=aN (n:=(c:Int)*5);have J:ai .i64 (1+(d:Int))=1+d:=aN;have i0:∀ H,aL H 1 (ab 5) (.c (.ptr 0 0 0)) (vi 0)=ab (.c (.ptr 0 0 0)):=fun _=>rfl;have i1:∀ H,aL H 1 (ab 5) (.c (.ptr 0 0 0)) (vi 1)=ab (.c (.ptr 0 1 0)):=fun _=>rfl;have i2:∀ H,aL H 1 (ab 5) (.c (.ptr 0 0 0)) (vi 2)=ab (.c (.ptr 0 2 0)):=fun _=>rfl;have i3:∀ H,aL H 1 (ab 5) (.c (.ptr 0 0 0)) (vi 3)=ab (.c (.ptr 0 3 0)):=fun _=>rfl;have i4:∀ H,aL H 1 (ab 5) (.c (.ptr 0 0 0)) (vi 4)=ab (.c (.ptr 0 4 0)):=fun _=>rfl;refine bY rfl rfl fun Q l=>?_;apply aj;simp [M5.row];refine aq (aj ?_);simp [i4,r2];by_cases j:r=0
  ·refine ak (by simp [j]) (aj ?_);simp [i0,s,na p (by omega)];refine aE (l _ _ _ ⟨⟨p,ag,0,0,0⟩,⟨by dsimp only;omega,fun _=>⟨rfl,rfl,rfl⟩,fun h=>by cases h⟩,by dsimp only;omega,rfl⟩ ?_);simp [bz.row,fZ,bX,aZ]
  ·refine al (by simp [j]) (aH (aj ?_));simp [i0,i1,i2,i3,s,I,na p (by omega),na q (by omega),na c (by omega),na d (by omega),K,J];refine aE (l _ _ _ ⟨⟨p,ah,q,(c:Int)*5,1+d⟩,⟨(by dsimp only;omega),fun h=>(by cases h),fun _=>(by dsimp only;omega)⟩,by dsimp only;omega,rfl⟩ ?_);simp [bz.row,fZ,bX,aZ]
 exact⟨m,u,v,E.eq⟩
def gC(l:List M5):List (List FC):=l.map M5.row
@[simp] theorem akK (l:List M5):(gC l).length=l.length:=by simp [gC]
theorem BF(l:List M5):bO 5 (gC l):=bO.map fun _=>rfl
theorem NK{l:List M5}{j:Nat}(b:j<l.length):(gC l)[j]?=ab l[j].row:=by simp [gC,b]
theorem akv{H:an}{g:Tg}{l:List M5}{j:Nat}(b:j<l.length)(_:l.length≤9223372036854775807):aL H 5 ae (.c (.f (sl g (gC l)))) (vi j)=ab (.c (.f (.fp (gC l).flatten (j*5)))):=by
 have:=cE (H:=H) (g:=g) (rows:=gC l) (sz:=5) (k:=.i64) (i:=(j:Int)) (by omega) (by simp;omega);simpa using this
theorem aox{H:an}{l:List M5}{j:Nat}(b:j<l.length):aV H (ab 5) (.c (.f (.fp (gC l).flatten (j*5))))=ab (.a (l[j].row.map .f)):=by
 have:=ez (H:=H) (rows:=gC l) (j:=j) (sz:=5) (row:=l[j].row) (BF l) (NK b);simpa using this
structure rm where
 ng:Tg
 no:List kX
 mi:Nat
 le:Nat
 cR:Nat
 fold:Nat
 mg:Tg
 mv:List M5
abbrev u16(n:Nat):FC:=.int .u16 n
def rm.row(x:rm):List FC:=[sl x.ng (eB x.no),u16 x.mi,u16 x.le,u8 x.cR,u8 x.fold,sl x.mg (gC x.mv)]
structure rm.OK(x:rm):Prop where
 nl:x.no.length≤9223372036854775807
 no:∀ n ∈ x.no,n.OK
 mi:x.mi<65536
 le:x.le<65536
 cR:x.cR<256
 fold:x.fold<256
 ml:x.mv.length≤9223372036854775807
 mv:∀ m ∈ x.mv,m.OK
theorem Cs(n:Nat){m:Int}(d:0<m):∃ a:Nat,(a:Int)<m∧bV .rem (.c (.f (.int .u16 n))) (.c (.f (.int .u16 m)))=ab (.c (.f (.int .u16 a))):=by
 have b:=aum (n:Int) (show m≠0 by omega);have g:=auq (n:Int) d;refine⟨((n:Int) % m).toNat,by omega,?_⟩;rw [ov (by omega),Int.tmod_eq_emod_of_nonneg (by omega),auU b]
theorem bW.Eqv.arK{a b:bW}(h:bW.Eqv a b)(k:b.np):a.np:=by
 have d:a.ru.length=b.ru.length:=by have:=congrArg List.length h.ru;simpa using this
 refine⟨⟨by rw [h.ru];exact k.ok.ru,by rw [d];exact k.ok.rl,by rw [h.mi];exact k.ok.mi,by rw [h.le];exact k.ok.le,by rw [h.zo];exact k.ok.zo,by rw [h.cR];exact k.ok.cR,by rw [h.fold];exact k.ok.fold,by rw [h.mv];exact k.ok.ml,by rw [h.mv];exact k.ok.ms,by rw [h.mv];exact k.ok.mo⟩,by rw [h.mv];exact k.ml,by rw [h.zo];exact k.zo,by rw [d];exact k.rl,by rw [h.le];exact k.le,by rw [h.mv];exact k.mo⟩
theorem NQ{cals:Nat}(hc:cals=0∨cals=2){x:rm}(E:x.OK) :
  ∃ s:bW,s.np∧bB tab.get 2 [.a (x.row.map .f),vi cals]=Eq s.v:=by
 obtain⟨rr,⟨s,n,rfl⟩,hp⟩:∃ rr,(∃ s:bW,s.np∧rr=s.v)∧bB tab.get 2 [.a (x.row.map .f),vi cals] rr:=by
  obtain⟨r,hr,c9,O⟩:=aak hc x.ng x.no E.nl E.no;have f_:=E.mi;have f9:=E.le;have e_:=E.cR;have d_:=E.fold;obtain⟨p,p1,rp⟩:=Cs x.mi (m:=1440) (by decide);obtain⟨q,q1,rq⟩:=Cs x.le (m:=2880) (by decide);obtain⟨a,d7,d5⟩:=hZ x.cR (m:=3) (by decide);obtain⟨Z,d6,c_⟩:=hZ x.fold (m:=3) (by decide);have w1:ai .i64 (1+(q:Int))=1+q:=aN;refine bY rfl rfl fun Q hQ=>?_;apply aj;simp [rm.row];apply aj;simp [O,rp,rq,d5,c_,na p (by omega),na q (by omega),na a (by omega),na Z (by omega),w1];obtain⟨h,I⟩:=aP ([.box (x.row.map .f) 0,.box py 0,.box ((bW.row ⟨r.tg,r.l,p,1+q,⟨#[122]⟩,a,Z,.nil,[]⟩).map .f) 0]:an);have b9:bW.np ⟨r.tg,r.l,p,1+q,⟨#[122]⟩,a,Z,.nil,[]⟩:=
   ⟨⟨hr,by dsimp only;omega,by dsimp only;omega,by dsimp only;omega,by dsimp only;decide,by dsimp only;omega,by dsimp only;omega,by simp,List.Pairwise.nil,by simp⟩,by simp,rfl,c9,by dsimp only;omega,by simp⟩
  have a9:h[0]?=ab (.box (x.row.map .f) 0)∧h[1]?=ab (.box py 0):=by rw [I];exact⟨rfl,rfl⟩
  have b:h[2]?=ab (.box ((bW.row ⟨r.tg,r.l,p,1+q,⟨#[122]⟩,a,Z,.nil,[]⟩).map .f) 0):=by rw [I];rfl
  have eK:h=[.box [.f (sl x.ng (eB x.no)),.f (u16 x.mi),.f (u16 x.le),.f (u8 x.cR),.f (u8 x.fold),.f (sl x.mg (gC x.mv))] 0,.box [.f .aG,.f (fi 0),.f (fi 0),.f (.str ⟨#[]⟩),.f (fi 0),.f (fi 0),.f .aG] 0,
   .box [.f (sl r.tg (aM r.l)),.f (fi p),.f (fi (1+q)),.f (.str ⟨#[122]⟩),.f (fi a),.f (fi Z),.f .aG] 0]:=by rw [I];rfl
  rw [←eK];refine aq (aj ?_);simp;obtain⟨N,hN⟩:=aP (min x.mv.length 4);refine bQ N (fun i t K=>∃ s:bW,s.np∧s.mv.length≤i∧(K[0]?=ab (.box (x.row.map .f) 0)∧K[1]?=ab (.box py 0))∧K[2]?=ab (.box (s.row.map .f) 0)∧t.g 2=.c (.ptr 0 0 0)∧t.g 4=.c (.ptr 1 0 0)∧t.g 5=.c (.ptr 2 0 0)) (by omega) (by decide) (by simp)
   ⟨_,b9,by simp,a9,b,by simp,by simp,by simp⟩ ?_ ?_ ?_
  ·rintro i t K L a7 ⟨s,g,j,B,b,u,H,v⟩ A hn;have h0:=B.1;have o:aV K ae (.c (.ptr 0 5 0))=ab (.c (.f (sl x.mg (gC x.mv)))):=by simp [aV,h0,aF,aK,rm.row]
   by_cases c1:(i:Int)<x.mv.length
   ·simp [A,u,o,-av,c1];exact hn _ ⟨s,g,j,B,b,by simp [u],by simp [H],by simp [v]⟩ (by simp [A]) (by simp;omega)
   ·simp [A,u,o,-av,c1];exact hn _ ⟨s,g,j,B,b,by simp [u],by simp [H],by simp [v]⟩ (by simp [A]) (by simp;omega)
  ·rintro i t K a7 ⟨s,g,j,B,b,u,H,v⟩ A nx;have h0:=B.1;have o:aV K ae (.c (.ptr 0 5 0))=ab (.c (.f (sl x.mg (gC x.mv)))):=by simp [aV,h0,aF,aK,rm.row]
   obtain⟨-,-,-,-,-,-,-,w⟩:=gv b;have J:i<x.mv.length:=by omega
   obtain⟨y,hy⟩:=aP (x.mv[i]);obtain⟨m,hm,a_,b7⟩:=NV (x:=y) (by rw [hy];exact E.mv _ (IS J));obtain⟨F,e,b_⟩:=vS g.ok (by omega) hm;have d9:=F3 (m:=m) g.ok.ms;have U:bW.np ⟨s.rg,s.ru,s.mi,s.le,s.zo,s.cR,s.fold,s.mg,Em s.mv m⟩:=by
    have k:=g.ok;refine⟨⟨k.ru,k.rl,k.mi,k.le,k.zo,k.cR,k.fold,by dsimp only;omega,En k.ms,fun z X=>?_⟩,by dsimp only;omega,g.zo,g.rl,g.le,fun z X=>?_⟩
    ·rcases F4 X with rfl | X
     ·exact hm
     ·exact k.mo z X
    ·rcases F4 X with rfl | X
     ·exact a_
     ·exact g.mo z X
   have f:F.mv.length≤i+1:=by rw [e.mv];dsimp only;omega
   have d8:=ax b;obtain⟨l,d⟩:=aP (K++[.box (F.row.map .f) 0]:an);have S:l[K.length]?=ab (.box (F.row.map .f) 0):=by rw [d];simp
   have M:(l[0]?=ab (.box (x.row.map .f) 0)∧l[1]?=ab (.box py 0))∧l[2]?=ab (.box (s.row.map .f) 0):=by
    rw [d,AI (by omega),AI (by omega),AI (by omega)];exact⟨B,b⟩
   obtain⟨-,-,-,-,-,-,-,e9⟩:=gv S;have Y:dn l (.ptr 2 0 0) (F.row.map .f)=ab (l.set 2 (.box (F.row.map .f) 0)):=by
    have:=M.2;simp [dn,this,over,bW.row]
   have W:(F.row.map C.f).length=7:=rfl;have c:F.row.length=7:=rfl;refine az (aj ?_);simp [u,v,w,o,-av,A,akv J E.ml,aox J,←hy,b7,b_,W];rw [←d];apply aj;simp;refine ak (by simp) (au (.inl rfl) ?_);simp [v,e9,-av,c,Y,-bs];refine aw ?_;refine nx _ _ ⟨F,e.arK U,f,?_,?_,by simp [u],by simp [H],by simp [v]⟩ (by simp [A])
   ·rw [By (by decide),By (by decide)];exact M.1
   ·exact OF (ax M.2)
  ·rintro t K ⟨s,g,j,B,b,u,H,v⟩ A;obtain⟨-,-,-,-,-,-,-,w⟩:=gv b;have n:=B.2;have Y:dn K (.ptr 1 0 0) (s.row.map .f)=ab (K.set 1 (.box (s.row.map .f) 0)):=by simp [dn,n,over,bW.row,py]
   obtain⟨l,d⟩:=aP (K.set 1 (.box (s.row.map .f) 0):an);have S:l[1]?=ab (.box (s.row.map .f) 0):=by rw [d];exact OF (ax n)
   obtain⟨-,-,-,-,-,-,-,e9⟩:=gv S;have W:s.row.length=7:=rfl;apply aj;simp [H,v,w,-av,Y,-bs,W];rw [←d];refine aE (hQ _ _ _ ⟨s,g,rfl⟩ ⟨rfl,s.v,?_,?_⟩)
   ·simp [Km.results,bw,aZ,H,e9,-av]
   ·simp [fZ,bX]
 exact⟨s,n,hp.eq⟩
theorem ZF(x:bz)(d:Int):Kf tab.get 39 [.a (x.row.map .f),vi d] (vi (fS x.day d)):=by
 refine fL rfl rfl fun H Q b=>?_;apply aj;simp [bz.row];apply aj;simp [lV];refine aE (b _ _ ?_);simp
def aiK:List FC→Int
 | .int _ n::_=>n| _=>0
theorem kZ(x:bz):aiK x.row=x.day:=rfl
theorem bsM(g:Tg)(l:List bz)(z:pV l)(L:l.length≤1000)(d:Int):∃(i:Nat) (w:Bool),i≤l.length∧(w=ag→∃ h:i<l.length,dL l d=ab l[i])∧(w=ah→dL l d=ae) ∧
  bB tab.get 38 [.c (.f (sl g (bh l))),vi d,.c (.f (.fn 39 []))]=Eq (.t [vi i,vb w]):=by
 have K:tab.get 38=ab (ZB 5):=aja;have b:∀(j:Nat) (m:j<(bh l).length),(bh l)[j]=(l[j]'(by simpa using m)).row:=fun j m=>by simp [bh]
 obtain⟨i,E,F,H,w,B,I⟩:=ZC K g (bh l) (df l) (.c (.f (.fn 39 []))) (fi d) (fun r=>fS (aiK r) d) (by simp;omega)
  (fun r hr=>by
   obtain⟨x,-,rfl⟩:=auy.1 hr;exact⟨39,_,by simp [ca],ZF x d⟩)
  (fun i j hi m h=>by
   have y:j<l.length:=by simpa using m
   have u:i<l.length:=by omega
   simp only [b,kZ]at h ⊢;have:=auc.1 z i j u y hi;rw [ta]at h;rw [Bn];omega)
 refine⟨i,w,by simpa using E,fun A=>?_,fun A=>?_,I⟩
 ·obtain⟨h,e⟩:=B.1 A;rw [b,kZ,ow]at e;exact⟨by simpa using h,sF z (by simpa using h) e⟩
 ·refine BJ fun j m e=>?_;have q:j<(bh l).length:=by simpa using m
  by_cases v:j<i
  ·have:=F j q v;rw [b,kZ,nw]at this;omega
  ·by_cases s:i=j
   ·subst s;have:w=ag:=B.2 ⟨q,by rw [b,kZ,ow];exact e⟩;rw [A]at this;cases this
   ·have J:=H i (by omega) (aft _);rw [b,kZ,ta]at J;have:=auc.1 z i j (by omega) m (by omega);omega
theorem sx(l:List fB)(x:fB):bD (l++[x])=bD l++[x.row]:=by simp [bD]
theorem aoY{z:ZD}{o:List bA}(h:dB z o){s:bW}(y:s.np){d:Int}(d0:0≤d)(d1:d≤300) :
  ∃ g,bB tab.get 32 [s.v,z.v,vi d]=Eq (.c (.f (sl g (bD (vz h s d))))):=by
 obtain⟨rr,⟨g,rfl⟩,hp⟩:∃ rr,(∃ g,rr=.c (.f (sl g (bD (vz h s d)))))∧bB tab.get 32 [s.v,z.v,vi d] rr:=by
  have u:=y.at_ d0 d1;have f_:=y.ok.mi;have J:=y.ok.cR;have q:=y.ok.fold;have hc:=h.c;obtain⟨i,w,hi,d9,d8,b_⟩:=bsM s.mg s.mv y.ok.ms (by have:=y.ml;omega) d;have g_:=y.ml;refine bY rfl rfl fun Q hQ=>?_;apply aj;simp;obtain⟨K,r⟩:=aP ([.box (s.row.map .f) 0,.box (z.row.map .f) 0]:an);have b0:K[0]?=ab (.box (s.row.map .f) 0):=by rw [r];rfl
  have b1:K[1]?=ab (.box (z.row.map .f) 0):=by rw [r];rfl
  rw [←r];clear r;obtain⟨-,e1,e2,-,e4,e5,e6,-⟩:=gv b0;have w1:=aN (n:=d*1440);have w2:=aN (n:=d*1440+s.mi);apply aj;simp [e1,e2,-av,w1,w2];refine aq (aj ?_);simp [e6,-av,b_];have M:∀(t:T) (H:an) (L:Int),s.dropped d=ah→s.uF d=L→H[0]?=ab (.box (s.row.map .f) 0)→H[1]?=ab (.box (z.row.map .f) 0)→t.g 2=vi d→t.g 3=.c (.ptr 0 0 0)→t.g 4=.c (.ptr 1 0 0)→t.g 7=vi (s.at_ d)→t.g 8=vi L →
    WP tab.get 32 ae [.code wF] ⟨t,[],H⟩ Q:=by
   intro t H L b hL b0 b1 U g3 g4 g7 W;obtain⟨-,e1,e2,-,e4,e5,e6,-⟩:=gv b0;obtain⟨tg,Z⟩:=af5 h u.1 u.2 J.1 J.2 q.1 q.2;obtain⟨I,hI⟩:=aP (sV h (s.at_ d) s.cR s.fold);have a7:=rL h u.1 u.2 (cR:=s.cR) q.1 q.2;have X:=FG h u.1 u.2 (cR:=s.cR) (fold:=s.fold);have c_:=y.uF d b;rw [hL]at c_;have d5:vz h s d=I.map fun a=>⟨d,a,a+L⟩:=by unfold vz;rw [b,aY (by decide),←hI,hL]
   rw [←hI]at Z a7 X;have z8:aV H (ab 8) (.c (.ptr 1 0 0))=ab z.v:=cA b1 hc;apply aj;simp [g3,g4,g7,z8,e4,e5,-av,Z];apply aj;simp;have d7:bJ H (.f (sl tg (cT I)))=ab I.length:=by simpa using pg (H:=H) tg (cT I)
   refine aq (aj ?_);simp [d7];refine fE I.length (fun j t K=>∃ c,t.g 2=vi d∧t.g 8=vi L∧t.g 57=.c (.f (sl tg (cT I)))∧t.g 14=.c c∧LR K c 3 (bD ((I.take j).map fun a=>⟨d,a,a+L⟩))) (by omega) (by decide) (by decide) (by simp) (by simp)
    ⟨.f .aG,by simp [U],by simp [W],by simp,by simp,.inl ⟨rfl,.inl rfl⟩⟩ ?_ ?_
   ·rintro j t K hj ⟨c,U,W,O,N,A⟩ ha hb nx;obtain⟨a,S⟩:=aP (I[j]);have b7:=X _ (IS hj);rw [←S]at b7;have ix:aL K 1 ae (.c (.f (sl tg (cT I)))) (vi j)=ab (.c (.f (.fp (cT I).flatten j))):=by
     have:=cE (H:=K) (g:=tg) (rows:=cT I) (sz:=1) (k:=.i64) (i:=(j:Int)) (by omega) (by simp;omega);simpa using this
    have lx:aV K ae (.c (.f (.fp (cT I).flatten j)))=ab (vi a):=by rw [S];exact ej hj
    have wa:=aN (n:=a+L);obtain⟨x,l⟩:=aP (K++[.box ((fB.row ⟨d,a,a+L⟩).map .f) 0]:an);have a_:LR x c 3 (bD ((I.take j).map fun a=>⟨d,a,a+L⟩)):=by rw [l];exact A.push _
    have b9:x[K.length]?=ab (.box ((fB.row ⟨d,a,a+L⟩).map .f) 0):=by rw [l];simp
    obtain⟨c',H',Y,a9,d_,e_⟩:=a_.app (cU _) (by decide) (row:=fB.row ⟨d,a,a+L⟩) rfl (bytes:=24) (cB (by simp;omega) (by decide)) b9;simp only [fB.row,anc,atN]at l;refine az (aj ?_);simp [O,ha,ix,lx];refine au (.inl rfl) ?_;simp [U,W,N,wa];rw [←l];simp [Y];refine aw ?_;refine nx _ _ ⟨c',by simp [U],by simp [W],by simp [O],by simp,?_⟩ (by simp [ha]) (by simp [hb]);rw [at0 hj,←S,List.map_append];simp only [anc,atN];rw [sx];exact a9
   ·rintro t K ⟨c,U,W,O,N,A⟩ ha hb;rw [aul,←d5]at A;obtain⟨g',hx⟩:=mf A (cU _);apply aj;simp [N];refine aE (hQ _ _ _ ⟨g',rfl⟩ ⟨rfl,.c c,?_,?_⟩)
    ·simp [Km.results,bw,aZ]
    ·simp [fZ,bX,hx]
  cases w
  ·have E:=d8 rfl;have b:s.dropped d=ah:=by rw [rB,E];rfl
   apply aj;simp;refine aW (by simp) ?_;refine M _ _ s.le b (by rw [uG,E];rfl) b0 b1 (by simp) (by simp) (by simp) ?_ (by simp);rw [Zs,E];simp [atO]
  ·obtain⟨B,E⟩:=d9 rfl;obtain⟨m,F⟩:=aP (s.mv[i]);rw [←F]at E;have f:=y.ok.mo m (by rw [F];exact IS B);have f9:=y.mo m (by rw [F];exact IS B);have c9:=uu (H:=K) (g:=s.mg) B (by omega);have e:=xz (H:=K) B;rw [←F]at e;apply aj;simp;refine ak (by simp) (aj ?_);have d6:m.row.length=5:=rfl;simp [e6,-av,c9,e,d6];obtain⟨x,l⟩:=aP (K++[.box (m.row.map .f) 0]:an);have c0:x[0]?=ab (.box (s.row.map .f) 0):=by rw [l,AI (ax b0)];exact b0
   have c1:x[1]?=ab (.box (z.row.map .f) 0):=by rw [l,AI (ax b1)];exact b1
   have p:x[K.length]?=ab (.box (m.row.map .f) 0):=by rw [l];simp
   have f1:aV x ae (.c (.ptr K.length 1 0))=ab (vb m.drop):=by simp [aV,p,aF,aK,bz.row]
   have f2:aV x ae (.c (.ptr K.length 2 0))=ab (vi m.to):=by simp [aV,p,aF,aK,bz.row]
   have f3:aV x ae (.c (.ptr K.length 3 0))=ab (vi m.mi):=by simp [aV,p,aF,aK,bz.row]
   have f4:aV x ae (.c (.ptr K.length 4 0))=ab (vi m.le):=by simp [aV,p,aF,aK,bz.row]
   rw [←l];refine aq (aj ?_);simp [f1,-av];cases b:m.drop
   ·have v:s.dropped d=ah:=by rw [rB,E];exact b
    have h_:=f.nd b;have wA:=aN (n:=m.to*1440);have wB:=aN (n:=m.to*1440+m.mi);refine al (by simp [b]) (aH (au (.inl rfl) ?_));simp [f2,f3,f4,-av,wA,wB];refine M _ _ m.le v (by rw [uG,E];rfl) c0 c1 (by simp) (by simp) (by simp) ?_ (by simp);rw [Zs,E];simp [atO]
   ·have v:s.dropped d=ag:=by rw [rB,E];exact b
    refine ak (by simp [b]) (aj ?_);simp;refine aE (hQ _ _ _ ⟨.nil,rfl⟩ ?_);have:vz h s d=[]:=by unfold vz;rw [bg v]
    rw [this];simp [sl,bD,Tg.fc]
 exact⟨g,hp.eq⟩
theorem rK{z:ZD}{o:List bA}(h:dB z o){lo:Int}(b:0≤lo)(d:lo≤460000){l:List Int}(j:l.Pairwise (· < ·))(g:∀ a,a ∈ l↔dm h lo a):l=vK h lo:=
 ahm j (af3 h b d) fun a=>by rw [g,Z6 h b d]
theorem ZI.amx{x:ja}{cs:List C}{c:Nat}{s h:Int}{tr:List bA}{ct:C}{cy:C}{t:T}{J:an}(k:ZI x cs c s h tr ct [] cy t J)(L:aX cy=ae)(Q:tr.length≤2)(q:bA) :
  ∃ m g,bK (J++[.box (q.row.map .f) 0]) 2 16 (.c ct) (.c (.sl J.length 0 1 1 0 2))=ab (.c m,g)∧dn g (.ptr 3 5 0) [m]=ab (g.set 3 (oq cs s m h cy)) ∧
   ∀ E,E.g 1=.c (.ptr 0 0 0)→E.g 2=.c (.ptr 1 0 0)→E.g 3=.c (.ptr 3 0 0)→ZI x cs c s h (tr++[q]) m [] cy E (g.set 3 (oq cs s m h cy)):=by
 obtain⟨F,b⟩:=aP (J++[.box (q.row.map .f) 0]:an);rw [←b];have up:∀ i y,J[i]?=ab y→F[i]?=ab y:=fun i y hy=>by rw [b,AI (ax hy)];exact hy
 have A:LR F ct 2 (aQ tr):=by rw [b];exact k.lt.push _
 have K:F[J.length]?=ab (.box (q.row.map .f) 0):=by rw [b];simp
 obtain⟨m,g,B,u,I,O⟩:=A.app (cD tr) (by decide) (row:=q.row) rfl (bytes:=16) (cB (by simp;omega) (by decide)) K;have d:∀(i:Nat) (cs:List C) (z:Nat),J[i]?=ab (.box cs z)→g[i]?=ab (.box cs z):=fun i cs z hy=>I.2 i _ (up _ _ hy) (A.cw (up _ _ hy));have j:iZ g cs c:=k.eo.xx fun i l z h _=>⟨z,d i l z h⟩
 have v:=d _ _ _ k.zb;have M:aQ tr++[q.row]=aQ (tr++[q]):=by simp [aQ]
 rw [M]at u;refine⟨m,g,B,aqQ j v,fun E g1 g2 g3=>?_⟩;refine⟨?_,?_,?_,?_,?_,?_,?_,g1,g2,g3⟩
 ·rw [By (by decide)];exact d _ _ _ k.raw
 ·rw [By (by decide)];exact d _ _ _ k.res
 ·exact j.cu fun i y hy hi=>by rw [By (by omega)];exact hy
 ·exact OF (ax v)
 ·exact u.set (u.cw v) _
 ·rcases k.ly with⟨H,N⟩ | ⟨H,-⟩
  ·exact .inl ⟨H,N⟩
  ·exact absurd rfl H
 ·intro i _;rw [L];exact fun e=>by cases e
theorem aoE{x:ja}(F:x.OK){cs:List C}{c:Nat}{s:Int}{t:T}{J:an}(k:ZI x cs c s 0 [] (.f .aG) [] (.f .aG) t J){Q:Option ay→St→Prop}
  (next:∀(t:T) (J:an) (l:List bA) (ct:C) (h:Int),ZI x cs c s h l ct [] (.f .aG) t J→l.length≤3→(∀ y ∈ l,0≤y.at_∧y.at_<h∧-1080≤y.off∧y.off≤1080)→(∀(i:Nat) a b,l[i]?=ab a→l[i+1]?=ab b→a.at_+2160≤b.at_)→0≤h∧h≤40000 →
   WP tab.get 3 ae [.code tF] ⟨t,[],J⟩ Q) :
  WP tab.get 3 ae [.code yw] ⟨t,[],J⟩ Q:=by
 obtain⟨N,hN⟩:=aP (min (min x.sT.length x.zn.length) 3);apply aj;simp;refine aq (aj ?_);simp;refine bQ N (fun j t J=>∃ l ct d,l.length=j∧TrP l d∧ZI x cs c s 0 l ct [] (.f .aG) t J∧t.g 4=vi d) (by omega) (by decide) (by simp)
  ⟨[],.f .aG,0,rfl,TrP.nil,⟨k.raw,k.res,k.eo,k.zb,k.lt,k.ly,k.ne,by simp [k.g1],by simp [k.g2],by simp [k.g3]⟩,by simp⟩ ?_ ?_ ?_
 ·rintro j t J L hj ⟨l,ct,d,B,q,k,E⟩ u hn;have a7:=F.gl;have a9:=F.ol;have I:=Gr k.raw;have K:=Gs k.raw;have A:∀ v,v.g 1=t.g 1→v.g 2=t.g 2→v.g 3=t.g 3→v.g 4=t.g 4→v.g 5=t.g 5→v.g 43=vb (decide ((j:Int)<(N:Int)))→L ⟨v,[],J⟩:=fun v e1 e2 e3 e4 e5 O=>
   hn v ⟨l,ct,d,B,q,⟨k.raw,k.res,k.eo,k.zb,k.lt,k.ly,k.ne,by rw [e1];exact k.g1,by rw [e2];exact k.g2,by rw [e3];exact k.g3⟩,by rw [e4];exact E⟩ (by rw [e5];exact u) O
  by_cases M:(j:Int)<x.sT.length
  ·by_cases r:(j:Int)<x.zn.length
   ·simp [k.g1,u,I,K,-av,M,r];exact A _ (by simp [k.g1]) (by simp [k.g2]) (by simp [k.g3]) (by simp) (by simp) (by simp;omega)
   ·simp [k.g1,u,I,K,-av,M,r];exact A _ (by simp [k.g1]) (by simp [k.g2]) (by simp [k.g3]) (by simp) (by simp) (by simp;omega)
  ·simp [k.g1,u,I,K,-av,M];exact A _ (by simp [k.g1]) (by simp [k.g2]) (by simp [k.g3]) (by simp) (by simp) (by simp;omega)
 ·rintro j t J hj ⟨l,ct,d,B,q,k,E⟩ u nx;have S:j<x.sT.length:=by omega
  have W:j<x.zn.length:=by omega
  have w:=F.ga _ (IS S);have bo:=F.of _ (IS W);have U:=q.lo;have I:=Gr k.raw;have K:=Gs k.raw;have i1:=lq (g:=x.gg) S (H:=J);have i2:=lq (g:=x.og) W (H:=J);have d1:=lu S (H:=J);have d2:=lu W (H:=J);have e:=aN (n:=d+2160);have f:ai .i64 ((x.sT[j]:Nat):Int)=((x.sT[j]:Nat):Int):=aN;have o:=aN (n:=20*((x.sT[j]:Nat):Int));have p:=aN (n:=d+2160+20*((x.sT[j]:Nat):Int));have X:=zL bo;obtain⟨c3,H3,z,Y,hk⟩:=k.amx rfl (by omega) ⟨d+2160+20*((x.sT[j]:Nat):Int),mT x.zn[j]⟩;simp only [bA.row,anc,atN]at z;refine az (aj ?_);simp [k.g1,E,u,I,i1,d1,-av,e,f,o,p];refine au (.inl rfl) ?_;simp [k.g1,k.g3,u,K,i2,d2,-av,X,aqO k.eo k.zb,z,Y,-bs];refine aw ?_;refine nx _ _ ⟨_,_,_,by simp;omega,q.app (by omega) w (m:=x.zn[j]),hk _ (by simp [k.g1]) (by simp [k.g2]) (by simp [k.g3]),by simp⟩ (by simp [u])
 rintro t J ⟨l,ct,d,B,q,k,E⟩ u;have U:=q.lo;have bb:=F.be;have l3:=aqw k.raw;have e:=aN (n:=d+2160);have f:ai .i64 ((x.be:Nat):Int)=((x.be:Nat):Int):=aN;have o:=aN (n:=20*((x.be:Nat):Int));have p:=aN (n:=d+2160+20*((x.be:Nat):Int));apply aj;simp [k.g1,k.g3,E,l3,-av,e,f,o,p,aqP k.eo k.zb,-bs];refine next _ _ l ct (d+2160+20*((x.be:Nat):Int)) ⟨?_,?_,?_,?_,?_,?_,k.ne,by simp [k.g1],by simp [k.g2],by simp [k.g3]⟩ q.tl (fun y Z=>by have:=q.tb y Z;omega) q.ts (by omega)
 ·rw [By (by decide)];exact k.raw
 ·rw [By (by decide)];exact k.res
 ·exact k.eo.cu fun i y Z hi=>by rw [By (by omega)];exact Z
 ·exact OF (ax k.zb)
 ·exact k.lt.set (k.lt.cw k.zb) _
 ·exact k.ly.set (k.ly.cw k.zb) _
theorem ZI.amD{x:ja}{cs:List C}{c:Nat}{s h:Int}{tr:List bA}{ct:C}{yr:List ew}{cy:C}{t:T}{J:an}(k:ZI x cs c s h tr ct yr cy t J)(W:yr.length≤2)(q:ew) :
  ∃ v j,bK (J++[.box (q.row.map .f) 0]) 5 40 (.c cy) (.c (.sl J.length 0 1 1 0 5))=ab (.c v,j)∧dn j (.ptr 3 7 0) [v]=ab (j.set 3 (oq cs s ct h v)) ∧
   (∀(b:Nat) (l:List C) (m:Nat),J[b]?=ab (.box l m)→b≠3→(j.set 3 (oq cs s ct h v))[b]?=ab (.box l m)) ∧
   ∀ I,I.g 1=.c (.ptr 0 0 0)→I.g 2=.c (.ptr 1 0 0)→I.g 3=.c (.ptr 3 0 0)→ZI x cs c s h tr ct (yr++[q]) v I (j.set 3 (oq cs s ct h v)):=by
 obtain⟨K,d⟩:=aP (J++[.box (q.row.map .f) 0]:an);rw [←d];have up:∀ i y,J[i]?=ab y→K[i]?=ab y:=fun i y hy=>by rw [d,AI (ax hy)];exact hy
 have E:LR K cy 5 (bT yr):=by rw [d];exact k.ly.push _
 have L:K[J.length]?=ab (.box (q.row.map .f) 0):=by rw [d];simp
 obtain⟨v,j,H,A,B,N⟩:=E.app (jo yr) (by decide) (row:=q.row) rfl (bytes:=40) (cB (by simp;omega) (by decide)) L;have g:∀(i:Nat) (cs:List C) (m:Nat),J[i]?=ab (.box cs m)→j[i]?=ab (.box cs m):=fun i cs m hy=>B.2 i _ (up _ _ hy) (E.cw (up _ _ hy));have z:iZ j cs c:=k.eo.xx fun i l m h _=>⟨m,g i l m h⟩
 have u:=g _ _ _ k.zb;have Q:bT yr++[q.row]=bT (yr++[q]):=by simp [bT]
 rw [Q]at A;have F:LR j ct 2 (aQ tr):=k.lt.cu fun i y hy hi=>B.2 i y (up _ _ hy) (k.ne i hi);refine⟨v,j,H,ai6 z u,fun b l m S M=>by rw [By (Ne.symm M)];exact g _ _ _ S,fun I g1 g2 g3=>?_⟩;refine⟨?_,?_,?_,?_,?_,?_,?_,g1,g2,g3⟩
 ·rw [By (by decide)];exact g _ _ _ k.raw
 ·rw [By (by decide)];exact g _ _ _ k.res
 ·exact z.cu fun i y hy hi=>by rw [By (by omega)];exact hy
 ·exact OF (ax u)
 ·exact F.set (F.cw u) _
 ·exact A.set (A.cw u) _
 ·intro i hi;rcases N with e | e
  ·rw [e];exact k.ne i hi
  ·rw [e];intro O;cases O;have:=k.lt.lt hi;have U:K.length=J.length+1:=by rw [d];simp
   omega
theorem ZI.amE{x:ja}{cs:List C}{c:Nat}{s h:Int}{tr:List bA}{ct:C}{yr:List ew}{q:ew}{cy:C}{t:T}{J:an}(k:ZI x cs c s h tr ct (yr++[q]) cy t J)(z:yr.length≤1) :
  ∃ b j B,aL J 5 ae (.c cy) (vi yr.length)=ab (.c (.ptr b (yr.length*5) j))∧dn J (.ptr b (yr.length*5+1) j) [.f (fi 5)]=ab B ∧
   ∀ m,m.g 1=.c (.ptr 0 0 0)→m.g 2=.c (.ptr 1 0 0)→m.g 3=.c (.ptr 3 0 0)→ZI x cs c s h tr ct (yr++[⟨q.mo,5,q.wd,q.mi,q.off⟩]) cy m B:=by
 rcases k.ly with⟨E,_⟩ | ⟨_,b,j,e,d⟩
 ·simp [bT]at E
 subst e;unfold RB at d;have g:∀(i:Nat) (l:List C) (u:Nat),J[i]?=ab (.box l u)→b≠i:=by
  rintro i l u hi rfl;rw [d]at hi;cases hi
 have v:aX ct≠ab b:=fun e=>k.ne b e rfl;have key:∃ cs',dn J (.ptr b (yr.length*5+1) j) [.f (fi 5)]=ab (J.set b (.bR 5 cs' 0 j .loc))∧cs'=(bT (yr++[⟨q.mo,5,q.wd,q.mi,q.off⟩])).flatten.map .f:=by
  match yr,z,d with
  | [],_,d=>exact⟨_,by simp [dn,d,over,bT,ew.row];rfl,by simp [bT,ew.row]⟩
  | [p],_,d=>exact⟨_,by simp [dn,d,over,bT,ew.row];rfl,by simp [bT,ew.row]⟩
  | _::_::_,z,_=>simp at z
 obtain⟨cs',A,y⟩:=key;refine⟨b,j,_,?_,A,fun m g1 g2 g3=>?_⟩
 ·simp [aL,dD,d];omega
 refine⟨?_,?_,?_,?_,?_,?_,?_,g1,g2,g3⟩
 ·rw [By (g _ _ _ k.raw)];exact k.raw
 ·rw [By (g _ _ _ k.res)];exact k.res
 ·exact k.eo.xx fun i l u h _=>⟨u,by rw [By (g _ _ _ h)];exact h⟩
 ·rw [By (g _ _ _ k.zb)];exact k.zb
 ·exact k.lt.set v _
 ·refine .inr ⟨by simp [bT],b,j,?_,?_⟩
  ·simp
  ·unfold RB;rw [OF (ax d),y]
 ·exact k.ne
theorem aoG{x:ja}(I:x.OK){cs:List C}{c:Nat}{s h:Int}{o:List bA}{ct:C}{yr:List ew}{cy:C}{t:T}{J:an}(k:ZI x cs c s h o ct yr cy t J){j:Nat}(E:j<2)(W:yr.length=j)(z:t.g 6=vi j){K:List cG}{Q:Option ay→St→Prop}
  (next:∀(t:T) (J:an) (q:ew) (cy:C),q.OK→ZI x cs c s h o ct (yr++[q]) cy t J→t.g 6=vi j→WP tab.get 3 ae K ⟨t,[],J⟩ Q) :
  WP tab.get 3 ae (.code AK::K) ⟨t,[],J⟩ Q:=by
 have y0:=I.y j 0 E (by decide);have y1:=I.y j 1 E (by decide);have y2:=I.y j 2 E (by decide);have y3:=I.y j 3 E (by decide);have lr:=asX k.raw E;have U:aL J 4 (ab 2) (.c (.ptr 0 4 0)) (vi j)=ab (.c (.ptr 0 (4+j*4) 0)):=by simp [aL,dD];omega
 refine az (aj ?_);simp [k.g1,z,U,lr,-av];obtain⟨g,d⟩:=aP (J++[.box [.f (u8 (x.y j 0)),.f (u8 (x.y j 1)),.f (u8 (x.y j 2)),.f (u8 (x.y j 3))] 0]:an);rw [←d];have M:∀ i y,J[i]?=ab y→g[i]?=ab y:=fun i y L=>by rw [d,AI (ax L)];exact L
 have H:g[J.length]?=ab (.box [.f (u8 (x.y j 0)),.f (u8 (x.y j 1)),.f (u8 (x.y j 2)),.f (u8 (x.y j 3))] 0):=by rw [d];simp
 have k1:∀ F,F.g 1=.c (.ptr 0 0 0)→F.g 2=.c (.ptr 1 0 0)→F.g 3=.c (.ptr 3 0 0)→ZI x cs c s h o ct yr cy F g:=fun F g1 g2 g3=>
  ⟨M _ _ k.raw,M _ _ k.res,k.eo.cu fun i y L _=>M i y L,M _ _ k.zb,by rw [d];exact k.lt.push _,by rw [d];exact k.ly.push _,k.ne,g1,g2,g3⟩
 have n3:J.length≠3:=by have:=ax k.zb;omega
 have v:=k1 t k.g1 k.g2 k.g3;have l0:aV g ae (.c (.ptr J.length 0 0))=ab (.c (.f (u8 (x.y j 0)))):=by simp [aV,aF,H,aK]
 have l1:aV g ae (.c (.ptr J.length 1 0))=ab (.c (.f (u8 (x.y j 1)))):=by simp [aV,aF,H,aK]
 have l2:aV g ae (.c (.ptr J.length 2 0))=ab (.c (.f (u8 (x.y j 2)))):=by simp [aV,aF,H,aK]
 have i0:aL g 1 (ab 4) (.c (.ptr J.length 0 0)) (vi 0)=ab (.c (.ptr J.length 0 0)):=by simp [aL,dD]
 have i1:aL g 1 (ab 4) (.c (.ptr J.length 0 0)) (vi 1)=ab (.c (.ptr J.length 1 0)):=by simp [aL,dD]
 have i2:aL g 1 (ab 4) (.c (.ptr J.length 0 0)) (vi 2)=ab (.c (.ptr J.length 2 0)):=by simp [aL,dD]
 have r0:bV .rem (.c (.f (u8 (x.y j 0)))) (.c (.f (.int .u8 3)))=ab (.c (.f (u8 (x.y j 0 % 3)))):=vn _ (by decide);have r2:bV .rem (.c (.f (u8 (x.y j 2)))) (.c (.f (.int .u8 5)))=ab (.c (.f (u8 (x.y j 2 % 5)))):=vn _ (by decide);have r3:bV .rem (.c (.f (u8 (x.y j 3)))) (.c (.f (.int .u8 2)))=ab (.c (.f (u8 (x.y j 3 % 2)))):=vn _ (by decide);have e:=zL (n:=x.y j 2 % 5) (by omega);have w0:=aN (n:=1+(j:Int));have w1:=aN (n:=(x.y j 0:Int) % 3);have w2:ai .i64 ((x.y j 1:Nat):Int)=((x.y j 1:Nat):Int):=aN;have w3:=aN (n:=((x.y j 1:Nat):Int)*5);obtain⟨c3,w,l,f,A,X⟩:=v.amD (by omega) ⟨1+(j:Int),1,(x.y j 0:Int) % 3,((x.y j 1:Nat):Int)*5,mT (x.y j 2 % 5)⟩;have Z:ew.OK ⟨1+(j:Int),1,(x.y j 0:Int) % 3,((x.y j 1:Nat):Int)*5,mT (x.y j 2 % 5)⟩:=
  ⟨by simp only;omega,.inl rfl,by simp only;omega,by simp only;omega,by simp only;omega,by simp only;omega,(lL _).1,(lL _).2⟩
 have a:ew.OK ⟨1+(j:Int),5,(x.y j 0:Int) % 3,((x.y j 1:Nat):Int)*5,mT (x.y j 2 % 5)⟩:=
  ⟨by simp only;omega,.inr rfl,by simp only;omega,by simp only;omega,by simp only;omega,by simp only;omega,(lL _).1,(lL _).2⟩
 simp only [ew.row,anc,atN]at l;apply aj;simp [k.g3,z,ai5 v.eo v.zb,-av,i0,i1,i2,l0,l1,l2,r0,r2,e,w0,w1,w2,w3,l,f,-bs];obtain⟨p,S⟩:=aP (w.set 3 (oq cs s ct h c3):an);rw [←S]at X A ⊢;have N:=A _ _ _ H n3;have r:aV p ae (.c (.ptr J.length 3 0))=ab (.c (.f (u8 (x.y j 3)))):=by simp [aV,aF,N,aK]
 have i3:aL p 1 (ab 4) (.c (.ptr J.length 0 0)) (vi 3)=ab (.c (.ptr J.length 3 0)):=by simp [aL,dD]
 have u:=X t k.g1 k.g2 k.g3;apply aj;by_cases h3:x.y j 3 % 2=1
 ·simp [i3,r,r3,-av,h3];refine ak (by simp) (au (.inl rfl) ?_);obtain⟨b,ep,H5,B,m,Y⟩:=u.amE (by omega);rw [W]at B m;simp [k.g3,z,ai5 u.eo u.zb,-av,B,m,-bs];exact aw (next _ _ _ _ a (Y _ (by simp [k.g1]) (by simp [k.g2]) (by simp [k.g3])) (by simp [z]))
 ·have O:x.y j 3 % 2=0:=by omega
  simp [i3,r,r3,-av,O];refine aW (by simp) ?_;exact aw (next _ _ _ _ Z (X _ (by simp [k.g1]) (by simp [k.g2]) (by simp [k.g3])) (by simp [z]))
theorem aoF{x:ja}(hx:x.OK){cs:List C}{c:Nat}{s h:Int}{u:List bA}{ct:C}{t:T}{J:an}(k:ZI x cs c s h u ct [] (.f .aG) t J)(hs:-1080≤s∧s≤1080)(Z:u.length≤3)(Y:∀ y ∈ u,0≤y.at_∧y.at_<h∧-1080≤y.off∧y.off≤1080)
  (a7:∀(i:Nat) a b,u[i]?=ab a→u[i+1]?=ab b→a.at_+2160≤b.at_) (hh:0≤h∧h≤40000) {Q:Option ay→St→Prop}
  (hQ:∀ j s z o,dB z o→mW [.cell (P.nat 2) (ab 8)] (.a (z.row.map .f)) s→Q j s) :
  WP tab.get 3 ae [.code tF] ⟨t,[],J⟩ Q:=by
 have hc:=k.eo.lt;have pre:∀(tg F:Tg) (yr:List ew),afg ⟨c,s,tg,u,h,F,yr⟩:=fun tg F yr=>⟨hc,hs,Z,Y,a7,hh⟩
 refine aq (aj ?_);cases hr:x.rules with
 | false=>
  simp [k.g1,Cc k.raw,-av,hr];refine ak (by simp) (aj ?_);obtain⟨z,o,J',hz,E,W⟩:=k.e.fin ⟨.nil,.nil,[],(pre .nil .nil []).none rfl⟩ (((t.s 77 (.c (.ptr 0 13 0))).s 78 (vb ah)).s 79 (vb ag) |>.s 80 (.a (cs++[.f (fi s),ct,.f (fi h),.f .aG]))) (by simp [k.g2]);have B:cs.length=4:=by obtain⟨a,b,d,e,O⟩:=k.eo.four;rw [O];rfl
  simp [k.g2,k.g3,E6 k.eo k.zb,-av,B,E,-bs];exact aE (hQ _ _ z o hz W)
 | true=>
  simp [k.g1,Cc k.raw,-av,hr];refine aW (by simp) ?_;refine aq (aj ?_);simp;refine bQ 2 (fun j t J=>∃ yr cy,yr.length=j∧(∀ q ∈ yr,q.OK)∧ZI x cs c s h u ct yr cy t J) (by decide) (by decide) (by simp)
   ⟨[],_,rfl,by simp,⟨k.raw,k.res,k.eo,k.zb,k.lt,k.ly,k.ne,by simp [k.g1],by simp [k.g2],by simp [k.g3]⟩⟩ ?_ ?_ ?_
  ·rintro j t J L hj ⟨yr,cy,m,g,k⟩ K hn;simp [K];exact hn _ ⟨yr,cy,m,g,⟨k.raw,k.res,k.eo,k.zb,k.lt,k.ly,k.ne,by simp [k.g1],by simp [k.g2],by simp [k.g3]⟩⟩ (by simp [K]) (by simp)
  ·rintro j t J hj ⟨yr,cy,m,g,k⟩ K nx;refine aoG hx k hj m K fun t J q cy hq k g6=>?_;refine nx _ _ ⟨yr++[q],cy,by simp;omega,fun p I=>?_,⟨k.raw,k.res,k.eo,k.zb,k.lt,k.ly,k.ne,by simp [k.g1],by simp [k.g2],by simp [k.g3]⟩⟩ g6;rcases at9.1 I with I | I
   ·exact g p I
   ·simp at I;subst I;exact hq
  rintro t J ⟨yr,cy,m,g,k⟩ K;obtain⟨r,q,rfl⟩:∃ r q,yr=[r,q]:=by
   match yr,m with
   | [r,q],_=>exact⟨r,q,rfl⟩
  obtain⟨tg,F,U⟩:=k.e.ex;obtain⟨e,hv,he⟩:=EX (pre tg F [r,q]) (r:=r) (q:=q) rfl (g r (by simp)) (g q (by simp));have M:=U J (fun _ _ h _=>h);have N:bX deep J (.a (cs++[.f (fi s),ct,.f (fi h),cy]))=ab (ZD.v ⟨c,s,tg,u,h,F,[r,q]⟩):=by
   simp only [bX,deep,M];rfl
  have A:∀(t:T) (J:an) (yr:List ew) (cy:C),ZE cs c s h u ct yr cy J→t.g 2=.c (.ptr 1 0 0)→t.g 3=.c (.ptr 3 0 0)→(∃ tg F o,dB ⟨c,s,tg,u,h,F,yr⟩ o)→WP tab.get 3 ae [.code AL] ⟨t,[],J⟩ Q:=by
   intro t J yr cy k g2 g3 X;apply aj;obtain⟨z,o,J',hz,E,W⟩:=k.fin X (t.s 122 (.a (cs++[.f (fi s),ct,.f (fi h),cy]))) (by simp [g2]);have B:cs.length=4:=by obtain⟨a,b,d,e,O⟩:=k.eo.four;rw [O];rfl
   simp [g2,g3,E6 k.eo k.zb,-av,B,E,-bs];exact aE (hQ _ _ z o hz W)
  have v:=k.e.marked;refine aq (aj ?_);simp only [bX]at N;simp [k.g3,E6 k.eo k.zb,-av];simp only [N,Option.bind_some,afe,hv,am_];obtain⟨J5,S⟩:=aP (iG deep cy (iG deep ct (List.foldl (fun H x=>iG deep x H) J cs)));rw [←S]at v ⊢;simp;by_cases h0:e=0
  ·subst h0;obtain⟨o,X⟩:=he rfl;simp;refine aW (by simp) ?_;exact A _ _ _ _ v (by simp [k.g2]) (by simp [k.g3]) ⟨_,_,o,X⟩
  ·simp [h0];refine ak (by simp) (au (.inl rfl) ?_);simp [k.g3,ai6 v.eo v.zb,-bs];refine A _ _ [] (.f .aG) ⟨?_,?_,?_,?_,.inl ⟨rfl,.inl rfl⟩⟩ (by simp [k.g2]) (by simp [k.g3]) ⟨.nil,.nil,[],(pre .nil .nil []).none rfl⟩
   ·rw [By (by decide)];exact v.res
   ·exact v.eo.cu fun i y hy hi=>by rw [By (by omega)];exact hy
   ·exact OF (ax v.zb)
   ·exact v.lt.cu fun i s l fl ep st h=>⟨fl,by rw [By (by rintro rfl;rw [v.zb]at h;cases h)];exact h⟩
theorem NP{x:ja}(m:x.OK):∃ z o,dB z o∧bB tab.get 3 [.a (x.row.map .f)]=Eq (.a (z.row.map .f)):=by
 obtain⟨B,⟨z,o,O,rfl⟩,M⟩:∃ B,(∃ z o,dB z o∧B=.a (z.row.map .f))∧bB tab.get 3 [.a (x.row.map .f)] B:=by
  refine bY rfl rfl fun Q K=>?_;have q:∀ j s z o,dB z o→mW [.cell (P.nat 2) (ab 8)] (.a (z.row.map .f)) s→Q j s:=fun j s z o H I=>K j s _ ⟨z,o,H,rfl⟩ I;have N:=lL x.st;have u:=zL m.st;have g:=m.eo;have rest:∀(t:T) (J:an) (cs:List C) (c:Nat),ZI x cs c (mT x.st) 0 [] (.f .aG) [] (.f .aG) t J→WP tab.get 3 ae [.code yw] ⟨t,[],J⟩ Q:=fun t J cs c k=>
   aoE m k fun t J X ct h k y v A L=>aoF m k N y v A L q
  apply aj;simp;obtain⟨E,b⟩:=aP (.box (x.row.map .f) 0:c6);rw [←b];have S:∀(b1:c6) (J:an),aV (E::b1::J) ae (.c (.ptr 0 0 0))=ab (.c (.f (u8 x.st))):=fun b1 J=>by simp [aV,aF,b,aK,ja.row]
  have d:∀(b1:c6) (J:an),aV (E::b1::J) ae (.c (.ptr 0 12 0))=ab (.c (.f (u8 x.eo))):=fun b1 J=>by simp [aV,aF,b,aK,ja.row]
  have r2:bV .rem (.c (.f (u8 x.eo))) (.c (.f (.int .u8 2)))=ab (.c (.f (u8 (x.eo % 2)))):=vn _ (by decide);have U:bV .quo (.c (.f (u8 x.eo))) (.c (.f (.int .u8 2)))=ab (.c (.f (u8 (x.eo / 2)))):=amy g (by decide);have r4:bV .rem (.c (.f (u8 (x.eo / 2)))) (.c (.f (.int .u8 2)))=ab (.c (.f (u8 (x.eo / 2 % 2)))):=vn _ (by decide);have W:=aN (n:=(x.eo:Int) / 2 % 2);apply aj;simp [S,-av,u];refine aq (aj ?_);by_cases l:x.eo % 2=1
  ·simp [d,-av,r2,l];refine ak (by simp) (au (.inl rfl) ?_);simp [d,-av,U,r4,W];refine rest _ _ [.f (fi 5),.sl 4 0 2 2 0 1,.f (fi 1),.sl 5 0 1 1 0 3] (x.eo / 2 % 2+1) ⟨by rw [b];rfl,rfl,.inr ⟨x.eo / 2 % 2,by omega,rfl,rfl,⟨0,rfl⟩,0,rfl⟩,rfl,LR.nil _ _,LR.nil _ _,(fun i h=>by cases h),by simp,by simp,by simp⟩
  ·have F:x.eo % 2=0:=by omega
   simp [d,-av,r2,F];refine aW (by simp) ?_;refine rest _ _ [.f (fi 2),.sl 2 0 2 2 0 1,.f (fi (-1)),.f .aG] 0 ⟨by rw [b];rfl,rfl,.inl ⟨rfl,rfl,0,rfl⟩,rfl,LR.nil _ _,LR.nil _ _,(fun i h=>by cases h),by simp,by simp,by simp⟩
 exact⟨z,o,O,M.eq⟩
theorem DT{H:an}{g:Tg}{l:List fB}{j:Nat}(b:j<l.length)(d:l.length≤100000):aL H 3 ae (.c (.f (sl g (bD l)))) (vi j)=ab (.c (.f (.fp (bD l).flatten (j*3)))):=by
 have:=cE (H:=H) (g:=g) (rows:=bD l) (sz:=3) (k:=.i64) (i:=(j:Int)) (by omega) (by simp;omega);simpa using this
theorem aac{H:an}{l:List fB}{j:Nat}(b:j<l.length):aV H (ab 3) (.c (.f (.fp (bD l).flatten (j*3))))=ab (.a (l[j].row.map .f)):=ez (cU l) (NA b)
theorem amn:bB tab.get 1 [] (vb ag):=vW (B8 ev)
theorem iS{x:List FC}(h:∃ m,x=[FC.int .u8 m]∧Lit.wf (.int .u8 m)):∃ m:Nat,x=[u8 m]∧m<256:=by
 obtain⟨m,rfl,b⟩:=h;simp [Lit.wf,IntKind.min,IntKind.max,IntKind.signed,IntKind.bits]at b;refine⟨m.toNat,?_,by omega⟩;have:((m.toNat:Nat):Int)=m:=auU b.1;simp [this]
theorem GC{x:List FC}(h:∃ m,x=[FC.int .u16 m]∧Lit.wf (.int .u16 m)):∃ m:Nat,x=[u16 m]∧m<65536:=by
 obtain⟨m,rfl,b⟩:=h;simp [Lit.wf,IntKind.min,IntKind.max,IntKind.signed,IntKind.bits]at b;refine⟨m.toNat,?_,by omega⟩;have:((m.toNat:Nat):Int)=m:=auU b.1;simp [this]
theorem D2{n:Nat}(h:n≤maxLen):n≤9223372036854775807:=aua h (by decide)
theorem pY{n:Nat}{ys:List FC}(h:mH Tryz.prog (n+2) 27 ys):∃ g l,ys=[sl g (bZ l)]∧l.length≤9223372036854775807∧∀ m ∈ l,m<256:=by
 obtain⟨g,rows,rfl,_,d,hr⟩:=r_ Tryz.underlying27 h;obtain⟨l,rfl,j⟩:=mB (enc:=fun n:Nat=>[u8 n]) (p:=fun n=>n<256) fun r b=>iS (fq Tryz.underlying5 (hr r b));exact⟨g,l,rfl,D2 (by simpa using d),j⟩
theorem FA{n:Nat}{ys:List FC}(h:mH Tryz.prog (n+2) 28 ys):∃ y:Nat→Nat,ys=[u8 (y 0),u8 (y 1),u8 (y 2),u8 (y 3)]∧∀ i,i<4→y i<256:=by
 obtain⟨rows,rfl,g,_,hr⟩:=tu Tryz.underlying28 h;obtain⟨l,rfl,j⟩:=mB (enc:=fun n:Nat=>[u8 n]) (p:=fun n=>n<256) fun r m=>iS (fq Tryz.underlying5 (hr r m))
 match l,g,j with
 | [a,b,c,d],_,j=>
  refine⟨fun i=>match i with | 0=>a | 1=>b | 2=>c | _=>d,rfl,fun i hi=>?_⟩;have:i=0∨i=1∨i=2∨i=3:=by omega
  rcases this with rfl | rfl | rfl | rfl
  ·exact j a (by simp)
  ·exact j b (by simp)
  ·exact j c (by simp)
  ·exact j d (by simp)
 | [],g,_=>simp at g| [_],g,_=>simp at g| [_,_],g,_=>simp at g| [_,_,_],g,_=>simp at g| _::_::_::_::_::_,g,_=>simp at g
theorem Gl{n:Nat}{ys:List FC}(h:mH Tryz.prog (n+4) 31 ys):∃ x:ja,ys=x.row∧x.OK:=by
 obtain⟨_,Q,rfl,b,A⟩:=di (pC (ts:=[5,27,27,5,29,5,4]) Tryz.underlying31 rfl h);obtain⟨st,rfl,b1⟩:=iS (fq Tryz.underlying5 b);obtain⟨_,S,rfl,b,B⟩:=di A;obtain⟨gg,j,rfl,K,u⟩:=pY b;obtain⟨_,U,rfl,b,E⟩:=di B;obtain⟨og,l,rfl,lo,v⟩:=pY b;obtain⟨_,W,rfl,b,F⟩:=di E;obtain⟨s,rfl,b4⟩:=iS (fq Tryz.underlying5 b);obtain⟨_,X,rfl,b,H⟩:=di F;obtain⟨rows,rfl,d,_,hr⟩:=tu Tryz.underlying29 b;obtain⟨_,Y,rfl,b,I⟩:=di H;obtain⟨m,rfl,q⟩:=iS (fq Tryz.underlying5 b);obtain⟨_,L,rfl,b,J⟩:=di I;obtain⟨g,rfl⟩:=abm Tryz.underlying4 b;obtain rfl:L=[]:=J
 match rows,d,hr with
 | [r0,r1],_,hr=>
  obtain⟨M,rfl,y⟩:=FA (hr r0 (by simp));obtain⟨N,rfl,z⟩:=FA (hr r1 (by simp));refine⟨⟨st,gg,j,og,l,s,fun k=>if k=0 then M else N,m,g⟩,rfl,b1,K,lo,u,v,b4,fun k i O hi=>?_,q⟩;simp only;split
  ·exact y i hi
  ·exact z i hi
 | [],d,_=>simp at d| [_],d,_=>simp at d| _::_::_::_,d,_=>simp at d
theorem aol{x:List FC}(h:∃ m,x=[FC.int .i8 m]∧Lit.wf (.int .i8 m)):∃ m:Int,x=[.int .i8 m]∧-128≤m∧m≤127:=by
 obtain⟨m,rfl,b⟩:=h;simp [Lit.wf,IntKind.min,IntKind.max,IntKind.signed,IntKind.bits]at b;exact⟨m,rfl,by omega,by omega⟩
theorem aho{n:Nat}{ys:List FC}(h:mH Tryz.prog (n+4) 173 ys):∃ x:kX,ys=x.row∧x.OK:=by
 obtain⟨_,z,rfl,b,j⟩:=di (pC (ts:=[5,171,5,27]) Tryz.underlying173 rfl h);obtain⟨k,rfl,b1⟩:=iS (fq Tryz.underlying5 b);obtain⟨_,A,rfl,b,l⟩:=di j;obtain⟨m,rfl,d⟩:=aol (fq Tryz.underlying171 b);obtain⟨_,B,rfl,b,q⟩:=di l;obtain⟨o,rfl,g⟩:=iS (fq Tryz.underlying5 b);obtain⟨_,y,rfl,b,s⟩:=di q;obtain⟨v,li,rfl,u,b4⟩:=pY b;obtain rfl:y=[]:=s;exact⟨⟨k,m,o,v,li⟩,rfl,b1,d,g,u,b4⟩
theorem aoB{n:Nat}{ys:List FC}(h:mH Tryz.prog (n+2) 77 ys):∃ x:M5,ys=x.row∧x.OK:=by
 obtain⟨rows,rfl,g,_,hr⟩:=tu Tryz.underlying77 h;obtain⟨l,rfl,j⟩:=mB (enc:=fun n:Nat=>[u8 n]) (p:=fun n=>n<256) fun r m=>iS (fq Tryz.underlying5 (hr r m))
 match l,g,j with
 | [a,b,c,d,e],_,j=>exact⟨⟨a,b,c,d,e⟩,rfl,j a (by simp),j b (by simp),j c (by simp),j d (by simp),j e (by simp)⟩
 | [],g,_=>simp at g| [_],g,_=>simp at g| [_,_],g,_=>simp at g| [_,_,_],g,_=>simp at g| [_,_,_,_],g,_=>simp at g| _::_::_::_::_::_::_,g,_=>simp at g
theorem Gk{n:Nat}{ys:List FC}(h:mH Tryz.prog (n+6) 26 ys):∃ x:rm,ys=x.row∧x.OK:=by
 obtain⟨_,U,rfl,b,B⟩:=di (pC (ts:=[22,23,23,5,5,24]) Tryz.underlying26 rfl h);obtain⟨O,rows,rfl,_,A,hr⟩:=r_ Tryz.underlying22 b;obtain⟨Q,rfl,l⟩:=mB (enc:=kX.row) (p:=fun x=>x.OK) fun r d=>aho (hr r d);obtain⟨_,W,rfl,b,E⟩:=di B;obtain⟨M,rfl,s⟩:=GC (fq Tryz.underlying23 b);obtain⟨_,X,rfl,b,F⟩:=di E;obtain⟨K,rfl,u⟩:=GC (fq Tryz.underlying23 b);obtain⟨_,Y,rfl,b,H⟩:=di F;obtain⟨z,rfl,b4⟩:=iS (fq Tryz.underlying5 b);obtain⟨_,Z,rfl,b,I⟩:=di H;obtain⟨y,rfl,v⟩:=iS (fq Tryz.underlying5 b);obtain⟨_,S,rfl,b,J⟩:=di I;obtain⟨L,q,rfl,_,g,m⟩:=r_ Tryz.underlying24 b;obtain⟨N,rfl,j⟩:=mB (enc:=M5.row) (p:=fun x=>x.OK) fun r d=>aoB (m r d);obtain rfl:S=[]:=J;exact⟨⟨O,Q,M,K,z,y,L,N⟩,rfl,D2 (by simpa using A),l,s,u,b4,v,D2 (by simpa using g),j⟩
theorem aa8{a:V}(h:qV Tryz.prog 26 a):∃ x:rm,a=.a (x.row.map .f)∧x.OK:=by
 rcases h with⟨xs,rfl,b,_⟩ | ⟨x,rfl,b⟩
 ·obtain⟨x,rfl,d⟩:=Gk (n:=34) b;exact⟨x,rfl,d⟩
 ·exfalso;obtain⟨x,e,_⟩:=Gk (n:=34) b;simp [rm.row]at e
theorem aa9{a:V}(h:qV Tryz.prog 31 a):∃ x:ja,a=.a (x.row.map .f)∧x.OK:=by
 rcases h with⟨xs,rfl,b,_⟩ | ⟨x,rfl,b⟩
 ·obtain⟨x,rfl,d⟩:=Gl (n:=36) b;exact⟨x,rfl,d⟩
 ·exfalso;obtain⟨x,e,_⟩:=Gl (n:=36) b;simp [ja.row]at e
theorem agh{H:an}{c:C}{sz:Nat}{rows:List (List FC)}(h:LR H c sz rows)(F:bO sz rows)(l:sz≠0){ys:List (List FC)}(u:bO sz ys)(g:Tg){bytes:Nat}(d:bU (rows.length+ys.length) bytes=ag) :
  ∃ z B,bK H sz bytes (.c c) (.c (.f (sl g ys)))=ab (.c z,B)∧LR B z sz (rows++ys)∧Kb H B c∧(aX z=aX c∨aX z=ab H.length):=by
 have j:cX H sz (.c (.f (sl g ys)))=ab (ys.length,ys.flatten.map .f):=Zl u;by_cases m:ys=[]
 ·subst m;rcases h with⟨rfl,A⟩ | ⟨s,b,v,rfl,q⟩
  ·refine⟨c,H,?_,.inl ⟨rfl,A⟩,Kb.refl _ _,.inl rfl⟩;rcases A with rfl | rfl<;>simp [bK,j,l]
  ·refine⟨_,H,?_,by rw [auQ];exact .inr ⟨s,b,v,rfl,q⟩,Kb.refl _ _,.inl rfl⟩;unfold RB at q;simp [bK,j,l,q]
 have E:ys.length≠0:=fun e=>m (List.length_eq_zero_iff.1 e);rcases h with⟨rfl,A⟩ | ⟨s,b,v,rfl,q⟩
 ·have d:bU ys.length bytes=ag:=by simpa using d
  refine⟨.sl H.length 0 ys.length 0 0 sz,H++[.bR sz (ys.flatten.map .f) 0 0 .loc],?_,.inr ⟨by simpa using m,H.length,0,by simp,?_⟩,⟨by simp,fun i y u _=>by rw [AI (ax u)];exact u⟩,.inr rfl⟩
  ·rcases A with rfl | rfl<;>simp [bK,j,d,l,m]
  ·simp [RB]
 ·have x:rows.length*sz=rows.flatten.length:=(eS F).symm;unfold RB at q;refine⟨.sl b 0 (rows.length+ys.length) 0 (v+1) sz,H.set b (.bR sz (rows.flatten.map .f++ys.flatten.map .f) 0 (v+1) .loc),?_,.inr ⟨by simp [s],b,v+1,by simp,?_⟩,⟨by simp,fun i y u I=>?_⟩,.inl rfl⟩
  ·simp only [bK,j,l,if_false,q,and_self,if_true,E];rw [bg ⟨trivial,by rw [aur];exact x,by simp⟩,d];simp
  ·unfold RB;rw [OF (ax q)];simp
  ·have:b≠i:=by rintro rfl;exact I rfl
   rw [By this];exact u
def Na:fB→fB→Int:=fun a b=>if gk a b then -1 else if gk b a then 1 else 0
theorem uc{a b:fB}:Na a b<0↔gk a b:=by
 unfold Na;by_cases h:gk a b
 ·rw [bg h];simp [h]
 ·rw [aY h];by_cases d:gk b a
  ·rw [bg d];simp [h]
  ·rw [aY d];simp [h]
theorem ao8(a b c:Int):bB tab.get 53 [.c (.f (sl .fs (ints [a,b,c])))]=Eq (vi (if a≠0 then a else if b≠0 then b else c)):=bB.eq (by
 refine bI rfl rfl fun Q A=>?_;apply aj;simp;apply aj;simp;refine aq (aj ?_);have E:∀(H:an) (j:Nat) (m:j<3),aL H 1 ae (.c (.f (sl .fs (ints [a,b,c])))) (vi j)=ab (.c (.f (.fp (ints [a,b,c]).flatten j))):=fun H j m=>by
  have:=cE (H:=H) (g:=.fs) (rows:=ints [a,b,c]) (sz:=1) (k:=.i64) (i:=(j:Int)) (by omega) (by simp;omega);simpa using this
 simp;refine fE 3 (fun j t K=>t.g 3=vi 0∧t.g 6=.c (.f (sl .fs (ints [a,b,c])))∧(0<j→a=0)∧(1<j→b=0)∧(2<j→c=0)) (by omega) (by decide) (by decide) (by simp) (by simp)
  ⟨by simp,by simp,fun h=>absurd h (by omega),fun h=>absurd h (by omega),fun h=>absurd h (by omega)⟩ ?_ ?_
 ·rintro j t K m ⟨q,u,s,y,B⟩ x z I;obtain⟨v,d⟩:=aP ([a,b,c][j]'(by simpa using m):Int);have F:aV K ae (.c (.f (.fp (ints [a,b,c]).flatten j)))=ab (vi v):=by rw [d];exact ej (by simpa using m)
  refine az (aj ?_);simp [u,x,E K j m,F];apply aj;simp [q];by_cases l:v=0
  ·refine al (by simp [l]) (aH (aw ?_));refine I _ _ ⟨by simp [q],by simp [u],?_,?_,?_⟩ (by simp [x]) (by simp [z])
   all_goals rcases(show j=0∨j=1∨j=2 by omega)with rfl | rfl | rfl<;>simp at d ⊢<;>first | omega | (intro;omega) | skip
  ·refine ak (by simp [l]) (aj ?_);simp;refine aE (A _ _ ?_);rcases(show j=0∨j=1∨j=2 by omega)with rfl | rfl | rfl
   ·simp at d;subst d;simp [l]
   ·simp at d;subst d;simp [l,s (by decide)]
   ·simp at d;subst d;simp [l,s (by decide),y (by decide)]
 ·rintro t K ⟨q,u,s,y,B⟩ x z;apply aj;simp [q];refine aE (A _ _ ?_);simp [s (by decide),y (by decide),B (by decide)])
theorem afu(a b:fB):(if fS a.fr b.fr≠0 then fS a.fr b.fr else if fS a.day b.day≠0 then fS a.day b.day else fS a.to b.to)=Na a b:=by
 unfold Na fS gk
 repeat' split
 all_goals first | rfl | omega
theorem arz(H:an)(d g:c6)(a b c:Int):db deep (H++[d,g,.box [cI a,cI b,cI c] 0]) (.sl (H.length+2) 0 3 3 0 1)=ab (sl .fs (ints [a,b,c]))∧∃ J,iG deep (.sl (H.length+2) 0 3 3 0 1) (H++[d,g,.box [cI a,cI b,cI c] 0])=H++J:=by
 have j:(H++[d,g,.box [cI a,cI b,cI c] 0])[H.length+2]?=ab (.box [cI a,cI b,cI c] 0):=by rw [at1 (by omega),auZ];rfl
 constructor
 ·show db (63+1) _ _=_;rw [jf,j];rfl
 ·refine⟨[d,g,.box [cI a,cI b,cI c] 0].set 2 (.box [cI a,cI b,cI c] 3),?_⟩;have e:iG deep (.sl (H.length+2) 0 3 3 0 1) (H++[d,g,.box [cI a,cI b,cI c] 0])=(H++[d,g,.box [cI a,cI b,cI c] 0]).set (H.length+2) (.box [cI a,cI b,cI c] 3):=by
   simp only [deep,BI,j];rw [oz]
   ·rfl
   ·intro x l;simp at l;rcases l with rfl | rfl | rfl<;>exact⟨_,rfl⟩
  rw [e,List.set_append_right _ _ (by omega),auZ]
theorem NI(x y:fB):Kf tab.get 52 [.a (x.row.map .f),.a (y.row.map .f)] (vi (Na x y)):=by
 refine fL rfl rfl fun H Q g=>?_;apply aj;simp [fB.row];apply aj;have b:=ao8 (fS x.fr y.fr) (fS x.day y.day) (fS x.to y.to);rw [afu]at b;obtain⟨j,J,d⟩:=arz H (.box [.f (fi x.day),.f (fi x.fr),.f (fi x.to)] 0) (.box [.f (fi y.day),.f (fi y.fr),.f (fi y.to)] 0) (fS x.fr y.fr) (fS x.day y.day) (fS x.to y.to);simp [lV,j,b,d];refine aE (g _ _ ?_);simp
theorem aaf:((List.range 131).all fun n=>match (CF tab.get 20 20 (.fn 92) [.c (.f (.int .u64 n))] [])with | some (.c (.f (.int .i64 (.ofNat k))),_)=>Nat.ble k 62&&(Nat.beq n 0||Nat.ble (2 ^ k) (2*n)) | _=>ah)=ag:=by kernel_rfl
theorem akJ:ai9 tab.get bC 130:=fun n h=>by
 have j:=aaf;rw [at4]at j;have b:=j n (by simp;omega);split at b
 ·rename_i k l e;rw [If,Bool.or_eq_true]at b;refine⟨k,(dU (m:=20) (d:=20) (by rw [e];rfl)).eq,auL b.1,fun q=>?_⟩;rcases b.2 with g | g
  ·have:=Nat.eq_of_beq_eq_true g;omega
  ·exact auL g
 ·cases b
theorem ahA:afh tab.get bC 3:=⟨ajD,ajp,ajn,ajH,ajj,ajl,ajF,
 ajz,ajB,ajx,ajr,ajt,ajv,Ze,Zf⟩
def ud:List FC→fB
 | [.int _ a,.int _ b,.int _ c]=>⟨a,b,c⟩| _=>⟨0,0,0⟩
def IsS(r:List FC):Prop:=r=(ud r).row
theorem af7(x:fB):IsS x.row:=rfl
def aaA(r s:List FC):Int:=Na (ud r) (ud s)
theorem ake:tJ IsS aaA where
 Be:=fun _ _ h b=>by
  unfold aaA at h b;rw [uc]at h b;unfold gk at h b;omega
 trans:=fun _ _ _ h b=>by
  unfold aaA at *;rw [uc]at *;unfold gk at *;omega
theorem an_:Cv tab.get (.c (.f (.fn 52 []))) IsS aaA:=by
 intro x y b d H;obtain⟨J,h⟩:=NI (ud x) (ud y) H;rw [←show x=(ud x).row from b,←show y=(ud y).row from d]at h;exact⟨52,_,J,by simp [ca],h⟩
theorem Ni{rows:List (List FC)}(h:∀ r ∈ rows,IsS r):bD (rows.map ud)=rows:=by
 unfold bD;rw [List.map_map]
 conv=>rhs;rw [←List.map_id rows]
 exact List.map_congr_left fun r hr=>(h r hr).symm
theorem DZ(l:List fB):(bD l).map ud=l:=by
 unfold bD;rw [List.map_map]
 conv=>rhs;rw [←List.map_id l]
 exact List.map_congr_left fun r _=>rfl
theorem abu{H:an}{v:C}{l:List fB}(hr:LR H v 3 (bD l))(E:l.length≤130) :
  ∃ d,Ev tab.get (.fn 51) [.c v,.c (.f (.fn 52 []))] H (.t []) d∧Kb H d v∧∃ b,LR d v 3 (bD b)∧b.Perm l∧b.Pairwise jw:=by
 have s:∀ r ∈ bD l,IsS r:=fun r hr=>by
  obtain⟨x,-,rfl⟩:=auy.1 hr;exact af7 x
 obtain⟨r,d,A,rfl,B,b,y,q,z⟩:=Km.Gy (σ:=bC) ajh ahA an_ ake (by omega) akJ hr (by simpa using E) (cU l) s;have g:∀ r ∈ b,IsS r:=fun r hr=>s r (q.mem_iff.1 hr);refine⟨d,A,B,b.map ud,by rw [Ni g];exact y,?_,?_⟩
 ·have:=q.map ud;rwa [DZ]at this
 ·rw [auc];intro i j hi u m;simp only [aur]at hi u;have:=z i j b[i] b[j] (by omega) m (by omega) (AT hi) (AT u);rw [auT,auT];unfold aaA at this;unfold jw;rw [←uc];exact this
theorem M6(x y:fB):bB tab.get 15 [.a (x.row.map .f),.a (y.row.map .f)]=Eq (vb (decide (gk x y))):=bB.eq (by
 refine bI rfl rfl fun Q g=>?_;apply aj;simp [fB.row];refine aq (aj ?_);by_cases b:x.fr=y.fr
 ·simp [b];refine al (by simp) (aH (aq (aj ?_)));by_cases d:x.day=y.day
  ·simp [d];refine al (by simp) (aH (aj ?_));simp;refine aE (g _ _ ?_);simp [gk,b,d]
  ·simp [d];refine ak (by simp) (aj ?_);simp;refine aE (g _ _ ?_);simp [gk,b,d]
 ·simp [b];refine ak (by simp) (aj ?_);simp;refine aE (g _ _ ?_);simp [gk,b])
theorem mc{l:List fB}{j:Nat}{x:fB}(h:l[j]?=ab x):(bD l)[j]?=ab x.row:=by simp [bD,h]
theorem pe(l:List fB)(j:Nat)(x:fB):(bD l).set j x.row=bD (l.set j x):=by simp [bD,List.map_set]
theorem DX{H:an}{c:C}{l:List fB}(hL:LR H c 3 (bD l))(hl:l.length≤1000)(x:fB) :
  ∃ o q F,MS x l o∧Ev tab.get (.fn 16) [.c c,.a (x.row.map .f)] H (.c q) F∧LR F q 3 (bD o)∧Kb H F c∧(aX q=aX c∨∃ i,aX q=ab i∧H.length≤i):=by
 suffices h:∃ r F,Ev tab.get (.fn 16) [.c c,.a (x.row.map .f)] H r F∧∃ o q,r=.c q∧MS x l o∧LR F q 3 (bD o)∧Kb H F c∧(aX q=aX c∨∃ i,aX q=ab i∧H.length≤i) by
  obtain⟨r,F,h1,o,q,rfl,h2,h3,h4,h5⟩:=h;exact⟨o,q,F,h2,h1,h3,h4,h5⟩
 refine dt rfl rfl fun Q hQ=>?_;apply aj;simp [fB.row];obtain⟨H1,u⟩:=aP (H++[.box [.f (fi x.day),.f (fi x.fr),.f (fi x.to)] 0]:an);rw [←u];have b1:H1[H.length]?=ab (.box [.f (fi x.day),.f (fi x.fr),.f (fi x.to)] 0):=by rw [u];simp
 have l1:H1.length=H.length+1:=by rw [u];simp
 obtain⟨H2,v⟩:=aP (H1++[.box (x.row.map .f) 0]:an);have e_:LR H2 c 3 (bD l):=by rw [v,u];exact(hL.push _).push _
 have f_:H2[H1.length]?=ab (.box (x.row.map .f) 0):=by rw [v];simp
 obtain⟨c3,H3,b9,f9,X,c9⟩:=e_.app (cU _) (by decide) (row:=x.row) rfl (bytes:=24) (cB (by simp;omega) (by decide)) f_;have l2:H2.length=H.length+2:=by rw [v];simp [l1]
 have hK:Kb H H3 c:=⟨by have:=X.1;omega,fun i y hy hn=>X.2 i y (by rw [v,u,auC,AI (ax hy)];exact hy) hn⟩
 have S:aX c3=aX c∨∃ i,aX c3=ab i∧H.length≤i:=c9.imp id fun h=>⟨_,h,by omega⟩
 apply aj;have e2:H1++[.box [.f (fi x.day),.f (fi x.fr),.f (fi x.to)] 0]=H2:=v.symm;simp [b1,aK];rw [e2];simp [b9];rcases f9 with⟨h,_⟩ | ⟨_,b,g,rfl,hb⟩
 ·simp at h
 have e3:bD l++[x.row]=bD (l++[x]):=by simp [bD]
 rw [e3]at hb;apply aq;apply aj;simp [hb.len];refine az ?_;clear X c9;refine bG (fun n s=>∃(A B:List fB) (t:T) (J:an),s=⟨t,[],J⟩∧n=A.length∧l=A++B∧(∀ z ∈ B,gk x z)∧RB J b 3 g (bD (A++x::B))∧Fm b H3 J∧t.g 5=.c (.sl b 0 (l.length+1) 0 g 3)∧t.g 6=vi A.length) l.length
  ⟨l,[],_,H3,rfl,rfl,by simp,by simp,hb,Fm.refl _,by simp,by simp;exact aN⟩ ?_
 rintro n s ⟨A,B,t,J,rfl,rfl,W,hB,O,hF,I,g6⟩ ih;have U:l.length=A.length+B.length:=by rw [W];simp
 apply aq;have a9:(∀ z,A.getLast?=ab z→¬ gk x z)→∀ t:T,t.g 5=.c (.sl b 0 (l.length+1) 0 g 3)→WP tab.get 16 ae [.code pQ] ⟨t,[],J⟩ Q:=by
  intro Y t I;apply aj;simp [I];refine aE (hQ _ _ (.c (.sl b 0 (l.length+1) 0 g 3)) rfl (jJ (by simp)) ⟨A++x::B,_,rfl,⟨A,B,W,rfl,hB,Y⟩,.inr ⟨by simp [bD],b,g,?_,O⟩,?_,?_⟩)
  ·simp [U];omega
  ·refine⟨aua hK.1 hF.1,fun i y hy hn=>?_⟩;have h1:=hK.2 i y hy hn;refine hF.get h1 ?_;rintro rfl;rcases S with e | ⟨k,e,hk⟩
   ·exact hn (by rw [←e];rfl)
   ·cases e;have:=ax hy;omega
  ·exact S
 have E:=cU (A++x::B);cases hA:A.getLast? with
 | none=>
  have d9:A=[]:=by simpa using hA
  subst d9;apply aj;simp [g6];refine al (by simp) ?_;refine bf (k':=[.code pQ]) rfl ?_;exact a9 (by simp) _ (by simp [I])
 | some z=>
  obtain⟨d,rfl⟩:∃ d,A=d++[z]:=by
   obtain⟨d,e⟩:=avc.1 hA;exact⟨d,e⟩
  have m:(d++[z]).length=d.length+1:=by simp
  rw [m]at U;have gz:(d++[z]++x::B)[d.length]?=ab z:=by simp
  have gx:(d++[z]++x::B)[d.length+1]?=ab x:=by
   rw [at1 (by simp)];simp
  have iz:aL J 3 ae (.c (.sl b 0 (l.length+1) 0 g 3)) (vi d.length)=ab (.c (.ptr b (d.length*3) g)):=by
   have:=O.idx (n:=l.length+1) (c:=0) (k:=.i64) (o:=0) (i:=(d.length:Int)) (by omega) (by omega);simpa using this
  have ix:aL J 3 ae (.c (.sl b 0 (l.length+1) 0 g 3)) (vi ((d.length:Int)+1))=ab (.c (.ptr b ((d.length+1)*3) g)):=by
   have:=O.idx (n:=l.length+1) (c:=0) (k:=.i64) (o:=0) (i:=(d.length:Int)+1) (by omega) (by omega);rw [auJ,show((d.length:Int)+1).toNat=d.length+1 by omega]at this;exact this
  have qz:=O.ldr E (mc gz);have qx:=O.ldr E (mc gx);have b_:=M6 x z;have w1:ai .i64 (d.length:Int)=d.length:=aN;simp only [fB.row,anc,atN]at qz qx b_;apply aj;simp [I,g6,m,show(0:Int)<(d.length:Int)+1 by omega,w1,iz,ix,qz,qx,-av,b_];by_cases N:gk x z
  case neg=>
   refine al (by simp [N]) ?_;refine bf (k':=[.code pQ]) rfl ?_;exact a9 (fun w hw=>by rw [hA]at hw;cases hw;exact N) _ (by simp [I])
  refine ak (by simp [N]) (aH ?_);apply aq;refine az ?_;have rx:=O.ldr E (mc gx);apply aj;simp [I,g6,m,ix,rx,-av,fB.row];obtain⟨J1,L⟩:=aP (J++[.box [.f (fi x.day),.f (fi x.fr),.f (fi x.to)] 0]:an);have M:RB J1 b 3 g (bD (d++[z]++x::B)):=by rw [L];exact O.push _
  have d7:J1[J.length]?=ab (.box [.f (fi x.day),.f (fi x.fr),.f (fi x.to)] 0):=by rw [L];simp
  have h_:=O.lt;rw [←L];have g_:∀ {K:an} {rows:List (List FC)} (_:RB K b 3 g rows),aL K 3 ae (.c (.sl b 0 (l.length+1) 0 g 3)) (vi ((d.length:Int)+1))=ab (.c (.ptr b ((d.length+1)*3) g)):=fun hK=>by
   have:=hK.idx (n:=l.length+1) (c:=0) (k:=.i64) (o:=0) (i:=(d.length:Int)+1) (by omega) (by omega);rw [auJ,show((d.length:Int)+1).toNat=d.length+1 by omega]at this;exact this
  have d5:∀ {K:an} {rows:List (List FC)} (_:RB K b 3 g rows),aL K 3 ae (.c (.sl b 0 (l.length+1) 0 g 3)) (vi d.length)=ab (.c (.ptr b (d.length*3) g)):=fun hK=>by
   have:=hK.idx (n:=l.length+1) (c:=0) (k:=.i64) (o:=0) (i:=(d.length:Int)) (by omega) (by omega);simpa using this
  have rz:=M.ldr E (mc gz);obtain⟨J2,s1,a_,a7,i_⟩:=M.str (j:=d.length+1) (row:=z.row) E (by simp) rfl;have c_:bO 3 ((bD (d++[z]++x::B)).set (d.length+1) z.row):=by rw [pe];exact cU _
  obtain⟨J3,s2,b7,d8,j3⟩:=a_.str (j:=d.length) (row:=x.row) c_ (by simp) rfl;have d6:=a7.get d7 (by omega);have Z:((bD (d++[z]++x::B)).set (d.length+1) z.row).set d.length x.row=bD (d++x::z::B):=by
   rw [pe,pe]
   congr 1
   rw [auC];simp
  rw [Z]at b7;apply aj;simp only [fB.row,anc,atN]at rz s1 s2;simp [I,g6,m,w1,g_ M,d5 M,rz,s1,-av,-bs];refine au (.inl rfl) ?_;simp [I,g6,m,w1,d5 a_,d6,aK,s2,-bs];refine aw ?_;refine au (.inl rfl) ?_;simp [g6,m,w1];have d_:Fm b H3 J3:=((hF.trans (by rw [L];exact Fm.push _ _)).trans a7).trans d8;refine ih d.length _ (by simp) ⟨d,z::B,_,J3,rfl,rfl,by rw [W];simp,?_,b7,d_,by simp [I],by simp⟩;intro w hw;rcases aui.1 hw with rfl | hw
  ·exact N
  ·exact hB w hw
theorem abi(g g':Tg)(l:List fB)(s:l.length≤100000):bB tab.get 9 [.c (.f (sl g (bD l))),.c (.f (sl g' (bD l)))]=Eq (vb ag):=bB.eq (by
 refine bI rfl rfl fun Q v=>?_;apply aj;simp;refine aq (aj ?_);simp;refine aW (by simp) ?_;refine aq (aj ?_);simp;refine bQ l.length (fun j t K=>K=[]∧t.g 0=.c (.f (sl g (bD l)))∧t.g 1=.c (.f (sl g' (bD l)))) (by omega) (by decide) (by simp)
  ⟨rfl,by simp,by simp⟩ ?_ ?_ ?_
 ·rintro j t K L q ⟨rfl,b,m⟩ d x;simp [d,b];exact x _ ⟨rfl,by simp [b],by simp [m]⟩ (by simp [d]) (by simp)
 ·rintro j t K q ⟨rfl,b,m⟩ d y;have i1:=DT (H:=[]) (g:=g) (l:=l) (j:=j) q s;have i2:=DT (H:=[]) (g:=g') (l:=l) (j:=j) q s;have u:=aac (H:=[]) (l:=l) q;simp only [fB.row,anc,atN]at u;refine az (aj ?_);simp [b,m,d,i1,i2,u,z6];refine al (by simp) (aH (aw ?_));exact y _ _ ⟨rfl,by simp [b],by simp [m]⟩ (by simp [d])
 ·rintro t K ⟨rfl,b,m⟩ d;apply aj;simp;refine aE (v _ _ ?_);simp)
theorem agf{z:ZD}{o:List bA}(h:dB z o){s:bW}(M:s.np)(g:Tg){ts:List dQ}(hm:mY ts=ag){fr:Int}{n:Nat}(f0:0≤fr)(f1:fr+n≤300)(hn:n≤65)(H:an) :
  ∃ c l E,Ev tab.get (.fn 12) [s.v,.a [.f (sl g (bj ts))],z.v,.a [cI fr,cI (fr+n)]] H (.t [.c c,vi 0]) E∧LR E c 3 (bD l)∧l.Perm (kS h s (ji ts) fr n)∧l.Pairwise jw ∧
   (∀(i:Nat) (y:c6),H[i]?=ab y→E[i]?=ab y)∧(∀ b,aX c=ab b→H.length≤b):=by
 suffices hh:∃ r E,Ev tab.get (.fn 12) [s.v,.a [.f (sl g (bj ts))],z.v,.a [cI fr,cI (fr+n)]] H r E∧∃ c l,r=.t [.c c,vi 0]∧LR E c 3 (bD l)∧l.Perm (kS h s (ji ts) fr n)∧l.Pairwise jw ∧
   (∀(i:Nat) (y:c6),H[i]?=ab y→E[i]?=ab y)∧(∀ b,aX c=ab b→H.length≤b) by
  obtain⟨r,E,h1,c,l,rfl,h2⟩:=hh;exact⟨c,l,E,h1,h2⟩
 have N:=abw M.ok.ru M.ok.rl (by have:=M.ml;omega) (by have:=M.ok.zo;omega);rw [M.ok.sound]at N;have d6:=Oy h;have hc:=h.c;obtain⟨e_,a9⟩:=oE hm;have w:=aao g ts (by omega) (fun t ht=>⟨by have:=(eV (a9 t ht)).2.1;omega,fun p hp=>zy ((eV (a9 t ht)).2.2 p hp)⟩);rw [hm]at w;have hw:=vk fr 0 (fr+n);rw [show decide (0≤fr∧fr≤fr+n)=ag from decide_eq_true (by omega)]at hw;have A:∀ k:Nat,k<n→0≤s.at_ (fr+k)∧s.at_ (fr+k)≤460000:=fun k hk=>M.at_ (by omega) (by omega);refine dt rfl rfl fun Q hQ=>?_;apply aj;simp;obtain⟨K,L⟩:=aP (H++[.box (s.row.map .f) 0,.box [.f (sl g (bj ts))] 0,.box (z.row.map .f) 0,.box [cI fr,cI (fr+n)] 0]:an);have b0:K[H.length]?=ab (.box (s.row.map .f) 0):=by rw [L,at1 (by omega),Nat.sub_self];rfl
 have b1:K[H.length+1]?=ab (.box [.f (sl g (bj ts))] 0):=by rw [L,at1 (by omega),auZ];rfl
 have b2:K[H.length+2]?=ab (.box (z.row.map .f) 0):=by rw [L,at1 (by omega),auZ];rfl
 have S:K[H.length+3]?=ab (.box [cI fr,cI (fr+n)] 0):=by rw [L,at1 (by omega),auZ];rfl
 have b7:∀(i:Nat) (y:c6),H[i]?=ab y→K[i]?=ab y:=fun i y O=>by rw [L,AI (ax O)];exact O
 have d7:K.length=H.length+4:=by rw [L];simp
 rw [←L];clear L;have e7:∀ {J:an},J[H.length]?=ab (.box (s.row.map .f) 0)→aV J (ab 7) (.c (.ptr H.length 0 0))=ab s.v:=fun B=>by obtain⟨-,-,-,-,-,-,-,e⟩:=gv B;exact e
 have e1:∀ {J:an},J[H.length+1]?=ab (.box [.f (sl g (bj ts))] 0)→aV J (ab 1) (.c (.ptr (H.length+1) 0 0))=ab (.a [.f (sl g (bj ts))]):=fun B=>by simp [aV,B,aF,aK]
 have e8:∀ {J:an},J[H.length+2]?=ab (.box (z.row.map .f) 0)→aV J (ab 8) (.c (.ptr (H.length+2) 0 0))=ab z.v:=fun B=>cA B hc;have w0:∀ {J:an},J[H.length+3]?=ab (.box [cI fr,cI (fr+n)] 0)→aV J ae (.c (.ptr (H.length+3) 0 0))=ab (vi fr):=fun B=>by simp [aV,B,aF,aK]
 have w1:∀ {J:an},J[H.length+3]?=ab (.box [cI fr,cI (fr+n)] 0)→aV J ae (.c (.ptr (H.length+3) 1 0))=ab (vi (fr+n)):=fun B=>by simp [aV,B,aF,aK]
 have wn:ai .i64 (fr+n-fr)=n:=by rw [aN];omega
 refine aq (az (aj ?_));simp [e7 b0,e1 b1,e8 b2,w0 S,w1 S,-av,N,d6,w,hw,show¬ (1099511627776:Int)<fr+n by omega];refine al (by simp) (aj ?_);simp [w0 S,w1 S,-av,wn,show¬ (4000:Int)<n by omega];refine al (by simp) (aH (aw ?_));apply aj;simp;refine aq (aj ?_);simp [w0 S,-av];have x:=M.ok.fold;refine az (bG (fun m st=>∃(j:Nat) (c:C) (t:T) (J:an),st=⟨t,[],J⟩∧j≤n∧m=n-j∧t.g 4=.c (.ptr H.length 0 0)∧t.g 5=.c (.ptr (H.length+1) 0 0)∧t.g 6=.c (.ptr (H.length+2) 0 0)∧t.g 7=.c (.ptr (H.length+3) 0 0)∧t.g 10=.c c∧t.g 11=vi (fr+j) ∧
   LR J c 3 (bD (kS h s (ji ts) fr j))∧(∀(i:Nat) (y:c6),K[i]?=ab y→J[i]?=ab y)∧(∀ b,aX c=ab b→H.length+4≤b)) n
  ⟨0,.f .aG,_,K,rfl,by omega,rfl,by simp,by simp,by simp,by simp,by simp,by simp,.inl ⟨rfl,.inl rfl⟩,fun _ _ h=>h,fun b A=>by simp [aX]at A⟩ ?_)
 rintro m st ⟨j,c,t,J,rfl,B,rfl,g4,g5,g6,g7,g10,u,F,q,v⟩ ih;have d_:=qG (h:=h) (s:=s) (p:=ji ts) (fr:=fr) x (n:=j) fun k hk=>A k (by omega);refine aq (aj ?_);simp [g7,u,w1 (q _ _ S),-av];by_cases I:j<n
 ·refine ak (by simp [I]) (aH ?_);have d8:fr+(j:Int)<fr+n:=by omega
  have Z:=agk g ts hm (fr+j) (show fr+(j:Int)≤2305843009213693952 by omega);obtain⟨tg,b_⟩:=aoY h M (d:=fr+j) (by omega) (by omega);have wj:ai .i64 (fr+(j:Int)+1)=fr+((j+1:Nat):Int):=by rw [aN];omega
  refine aq (az (aj ?_));simp [g5,u,e1 (q _ _ b1),-av,Z];cases hp:ji ts (fr+j)
  ·refine al (by simp) (aH (aw (au (.inl rfl) ?_)));simp [u,wj];refine ih (n-(j+1)) _ (by omega) ⟨j+1,c,_,J,rfl,by omega,rfl,by simp [g4],by simp [g5],by simp [g6],by simp [g7],by simp [g10],by simp,?_,q,v⟩;rw [kS,hp,aY (by decide),auQ];exact F
  ·have d9:=zq (h:=h) (s:=s) (d:=fr+j) x (A j I).1 (A j I).2;obtain⟨c',J',Y,W,U,b9⟩:=agh F (cU _) (by decide) (cU (vz h s (fr+j))) tg (bytes:=24) (cB (by simp;omega) (by decide));refine ak (by simp) (au (.inl rfl) ?_);simp [g4,g6,g10,u,e7 (q _ _ b0),e8 (q _ _ b2),-av,b_,Y];refine aw (au (.inl rfl) ?_);simp [u,wj];have X:∀(i:Nat) (y:c6),K[i]?=ab y→J'[i]?=ab y:=fun i y O=>U.2 i y (q i y O) (fun e=>by have:=v i e;have:=ax O;omega);have a_:H.length+4≤J.length:=by
    have:=ax (q _ _ S);omega
   refine ih (n-(j+1)) _ (by omega) ⟨j+1,c',_,J',rfl,by omega,rfl,by simp [g4],by simp [g5],by simp [g6],by simp [g7],by simp,by simp,?_,X,fun b A=>?_⟩
   ·rw [kS,hp,bg rfl];simpa [bD]using W
   ·rcases b9 with e | e
    ·exact v b (by rw [←e];exact A)
    ·rw [A]at e;cases e;exact a_
 ·have a:j=n:=by omega
  subst a;have f:=F.len;rw [uB]at f;obtain⟨J',d5,U,l',W,c9,c_⟩:=abu F (by omega);refine al (by simp [I]) (bf rfl ?_);refine aq (aj ?_);simp [g10,f,show¬ (4096:Int)<(kS h s (ji ts) fr j).length by omega];refine aW (by simp) ?_;have a7:=d5.eq;apply aj;simp [g10,a7];apply aj;simp [g10];refine aE (hQ _ _ _ rfl (by simp [Km.results,bw,aZ]) ⟨c,l',rfl,W,c9,c_,fun i y O=>?_,fun b A=>?_⟩)
  ·refine U.2 i y (q i y (b7 i y O)) fun e=>?_;have:=v i e;have:=ax O;omega
  ·have:=v b A;omega
def vt(b:List Nat)(i:Nat):Nat:=b[i]?.getD 0
theorem yH{b:List Nat}(h:∀ n ∈ b,n<256)(i:Nat):vt b i<256:=by
 unfold vt;by_cases hi:i<b.length
 ·rw [AT hi];exact h _ (IS hi)
 ·rw [auG.2 (by omega)];decide
theorem xb(g:Tg)(b:List Nat)(m:∀ n ∈ b,n<256)(s:b.length≤9223372036854775807)(i:Nat)(hi:i≤1000):bB tab.get 49 [.c (.f (sl g (bZ b))),vi i]=Eq (vi (vt b i:Nat)):=bB.eq (by
 refine bI rfl rfl fun Q d=>?_;apply aj;simp;refine aq (aj ?_);simp;by_cases h:i<b.length
 ·have j:=lq (g:=g) h (H:=[]);have l:=lu h (H:=[]);have q:=m _ (IS h);have w:ai .i64 ((b[i]:Nat):Int)=((b[i]:Nat):Int):=aN;refine ak (by simp [h]) (aj ?_);simp [j,l,w];refine aE (d _ _ ?_);simp [vt,AT h]
 ·refine aW (by simp [h]) ?_;apply aj;simp;refine aE (d _ _ ?_);simp [vt,auG.2 (show b.length≤i by omega)])
theorem xZ{d:Int}:∀ {l:List Int} {b:Int},(∀ x ∈ l,b<x∧x<d)→l.Pairwise (· < ·)→eb d b l=ag
 | [],_,_,_=>rfl
 | n::r,b,h,g=>by
  have j:=h n at2;rw [auw]at g;simp only [eb,decide_eq_true j.1,decide_eq_true j.2,Bool.true_and];exact xZ (fun x m=>⟨g.1 x m,(h x (aub _ m)).2⟩) g.2
def Up(l:List Int)(n:Nat):Prop:=(∀ x ∈ l,0≤x∧x<n)∧l.Pairwise (· < ·)∧l.length≤n
theorem Up.nil:Up [] 0:=⟨by simp,List.Pairwise.nil,by simp⟩
theorem Up.skip{l:List Int}{n:Nat}(h:Up l n):Up l (n+1):=⟨fun x b=>by have:=h.1 x b;omega,h.2.1,by have:=h.2.2;omega⟩
theorem Up.app{l:List Int}{n:Nat}(h:Up l n):Up (l++[(n:Int)]) (n+1):=by
 refine⟨fun x d=>?_,?_,by simp;exact h.2.2⟩
 ·rcases at9.1 d with d | d
  ·have:=h.1 x d;omega
  ·simp at d;subst d;omega
 ·rw [auB];exact⟨h.2.1,auA _ _,fun a j b g=>by simp at g;subst g;have:=h.1 a j;omega⟩
theorem Up.rising{l:List Int}{n:Nat}(h:Up l n):eb n (-1) l=ag:=xZ (fun x b=>by have:=h.1 x b;omega) h.2.1
theorem ma(l:List Int):bO 1 (ints l):=bO.map fun _=>rfl
structure FI(b:V)(fr kV:Nat)(hd cy:List Int)(ch cc:C)(t:T)(J:an):Prop where
 res:J[0]?=ab (.box [.f .aG,.f (fi 0),.f (fi 0),.f .aG] 0)
 pb:J[1]?=ab (.box [ch,.f (fi fr),.f (fi kV),cc] 0)
 lh:LR J ch 1 (ints hd)
 lc:LR J cc 1 (ints cy)
 ne:∀ i,aX ch=ab i→aX cc≠ab i
 g0:t.g 0=b
 g2:t.g 2=.c (.ptr 0 0 0)
 g3:t.g 3=.c (.ptr 1 0 0)
section
variable{b:V}{fr kV:Nat}{hd cy:List Int}{ch cc:C}{t:T}{J:an}
theorem FI.to(k:FI b fr kV hd cy ch cc t J){d:T}(g0:d.g 0=b)(g2:d.g 2=.c (.ptr 0 0 0))(g3:d.g 3=.c (.ptr 1 0 0)):FI b fr kV hd cy ch cc d J:=⟨k.res,k.pb,k.lh,k.lc,k.ne,g0,g2,g3⟩
theorem FI.afv(k:FI b fr kV hd cy ch cc t J)(L:cy.length≤1000)(n:Int) :
  ∃ m j,bK (J++[.box [.f (fi n)] 0]) 1 8 (.c cc) (.c (.sl J.length 0 1 1 0 1))=ab (.c m,j)∧dn j (.ptr 1 3 0) [m]=ab (j.set 1 (.box [ch,.f (fi fr),.f (fi kV),m] 0)) ∧
   ∀ x:T,x.g 0=b→x.g 2=.c (.ptr 0 0 0)→x.g 3=.c (.ptr 1 0 0)→FI b fr kV hd (cy++[n]) ch m x (j.set 1 (.box [ch,.f (fi fr),.f (fi kV),m] 0)):=by
 obtain⟨A,d⟩:=aP (J++[.box ([fi n].map .f) 0]:an);have up:∀ i y,J[i]?=ab y→A[i]?=ab y:=fun i y hy=>by rw [d,AI (ax hy)];exact hy
 have u:LR A cc 1 (ints cy):=by rw [d];exact k.lc.push _
 have E:A[J.length]?=ab (.box ([fi n].map .f) 0):=by rw [d];simp
 obtain⟨m,j,l,q,s,F⟩:=u.app (ma cy) (by decide) (row:=[fi n]) rfl (bytes:=8) (cB (by simp [ints];omega) (by decide)) E;have z:∀(i:Nat) (cs:List C) (B:Nat),J[i]?=ab (.box cs B)→j[i]?=ab (.box cs B):=fun i cs B hy=>s.2 i _ (up _ _ hy) (u.cw (up _ _ hy));have g:=z _ _ _ k.pb;have I:ints cy++[[fi n]]=ints (cy++[n]):=by simp [ints]
 rw [I]at q;have v:LR j ch 1 (ints hd):=k.lh.cu fun i y hy hi=>s.2 i y (up _ _ hy) (k.ne i hi);refine⟨m,j,by rw [d]at l;exact l,by simp [dn,g,over],fun x g0 g2 g3=>⟨?_,OF (ax g),v.set (v.cw g) _,q.set (q.cw g) _,?_,g0,g2,g3⟩⟩
 ·rw [By (by decide)];exact z _ _ _ k.res
 ·intro i hi;rcases F with e | e
  ·rw [e];exact k.ne i hi
  ·rw [e];intro H;cases H;have:=k.lh.lt hi;have K:A.length=J.length+1:=by rw [d];simp
   omega
theorem FI.Z2(k:FI b fr kV hd cy ch cc t J)(L:hd.length≤1000)(n:Int) :
  ∃ m j,bK (J++[.box [.f (fi n)] 0]) 1 8 (.c ch) (.c (.sl J.length 0 1 1 0 1))=ab (.c m,j)∧dn j (.ptr 1 0 0) [m]=ab (j.set 1 (.box [m,.f (fi fr),.f (fi kV),cc] 0)) ∧
   ∀ z:T,z.g 0=b→z.g 2=.c (.ptr 0 0 0)→z.g 3=.c (.ptr 1 0 0)→FI b fr kV (hd++[n]) cy m cc z (j.set 1 (.box [m,.f (fi fr),.f (fi kV),cc] 0)):=by
 obtain⟨B,d⟩:=aP (J++[.box ([fi n].map .f) 0]:an);have up:∀ i y,J[i]?=ab y→B[i]?=ab y:=fun i y hy=>by rw [d,AI (ax hy)];exact hy
 have u:LR B ch 1 (ints hd):=by rw [d];exact k.lh.push _
 have F:B[J.length]?=ab (.box ([fi n].map .f) 0):=by rw [d];simp
 obtain⟨m,j,l,q,s,H⟩:=u.app (ma hd) (by decide) (row:=[fi n]) rfl (bytes:=8) (cB (by simp [ints];omega) (by decide)) F;have A:∀(i:Nat) (cs:List C) (E:Nat),J[i]?=ab (.box cs E)→j[i]?=ab (.box cs E):=fun i cs E hy=>s.2 i _ (up _ _ hy) (u.cw (up _ _ hy));have g:=A _ _ _ k.pb;have I:ints hd++[[fi n]]=ints (hd++[n]):=by simp [ints]
 rw [I]at q;have v:LR j cc 1 (ints cy):=k.lc.cu fun i y hy hi=>s.2 i y (up _ _ hy) (fun e=>k.ne i e hi);refine⟨m,j,by rw [d]at l;exact l,by simp [dn,g,over],fun z g0 g2 g3=>⟨?_,OF (ax g),q.set (q.cw g) _,v.set (v.cw g) _,?_,g0,g2,g3⟩⟩
 ·rw [By (by decide)];exact A _ _ _ k.res
 ·intro i hi x;rcases H with e | e
  ·rw [e]at hi;exact k.ne i hi x
  ·rw [e]at hi;cases hi;have:=k.lc.lt x;have K:B.length=J.length+1:=by rw [d];simp
   omega
end
theorem abn(a:Int)(j:Nat):bV .shr (vi a) (vi j)=ab (vi (a.fdiv (2 ^ (min j 64)))):=by
 have:¬ ((j:Int)<0):=by omega
 simp only [bV,this,if_false];rw [Int.toNat_natCast];rfl
theorem Gu(a:Int)(j:Nat):bV .rem (vi (a.fdiv (2 ^ (min j 64)))) (vi 2)=ab (vi ((a.fdiv (2 ^ (min j 64))).tmod 2)):=by
 simp [bV,kJ,V.int]
theorem vM(g:Tg){b:List Nat}(s:∀ n ∈ b,n<256)(m:b.length≤9223372036854775807) :
  ∃ p:cr,fG p=ag∧bB tab.get 48 [.c (.f (sl g (bZ b)))]=Eq (.a (p.row.map .f)):=by
 obtain⟨S,⟨p,hp,rfl⟩,O⟩:∃ S,(∃ p:cr,fG p=ag∧S=.a (p.row.map .f))∧bB tab.get 48 [.c (.f (sl g (bZ b)))] S:=by
  refine bY rfl rfl fun Q r=>?_;have W:bB tab.get 49 [.c (.f (sl g (bZ b))),vi 0]=Eq (vi (vt b 0:Nat)):=xb g b s m 0 (by decide);have a1:bB tab.get 49 [.c (.f (sl g (bZ b))),vi 1]=Eq (vi (vt b 1:Nat)):=xb g b s m 1 (by decide);have X:bB tab.get 49 [.c (.f (sl g (bZ b))),vi 2]=Eq (vi (vt b 2:Nat)):=xb g b s m 2 (by decide);have Y:bB tab.get 49 [.c (.f (sl g (bZ b))),vi 3]=Eq (vi (vt b 3:Nat)):=xb g b s m 3 (by decide);have a4:bB tab.get 49 [.c (.f (sl g (bZ b))),vi 4]=Eq (vi (vt b 4:Nat)):=xb g b s m 4 (by decide);have b0:=yH s 0;have b1:=yH s 1;have b2:=yH s 2;have b3:=yH s 3;obtain⟨fr,H⟩:=aP (vt b 1 % 9:Nat);obtain⟨kV,B⟩:=aP (1+vt b 0 % 12:Nat);have r1:bV .rem (vi (vt b 1:Nat)) (vi 9)=ab (vi fr):=by rw [ke (by omega) (by decide),H];simp
  have r0:bV .rem (vi (vt b 0:Nat)) (vi 12)=ab (vi (vt b 0 % 12:Nat)):=by rw [ke (by omega) (by decide)];simp
  have w0:ai .i64 (1+(vt b 0:Int) % 12)=kV:=by rw [aN,B];simp
  have w3:=aN (n:=256*(vt b 3:Int));obtain⟨bits,x⟩:=aP (ai .i64 ((vt b 2:Int)+256*(vt b 3:Int)));apply aj;simp;apply aj;simp [W,a1,r0,r1,w0];apply aj;simp [X,Y,w3,←x];refine aq (aj ?_);simp;refine bQ kV (fun j t J=>∃ cy cc,Up cy j∧FI (.c (.f (sl g (bZ b)))) fr kV [] cy (.f .aG) cc t J∧t.g 4=vi bits) (by omega) (by decide) (by simp)
   ⟨[],.f .aG,Up.nil,⟨rfl,rfl,LR.nil _ _,LR.nil _ _,(fun i h=>by cases h),by simp,by simp,by simp⟩,by simp⟩ ?_ ?_ ?_
  ·rintro j t J L I ⟨cy,cc,u,k,q⟩ d N;simp [d,k.g3,k.pb,aK];exact N _ ⟨cy,cc,u,k.to (by simp [k.g0]) (by simp [k.g2]) (by simp [k.g3]),by simp [q]⟩ (by simp [d]) (by simp)
  ·rintro j t J I ⟨cy,cc,u,k,q⟩ d E;refine az (aj ?_);simp [d,q,abn,Gu];by_cases A:(bits.fdiv (2 ^ (min j 64))).tmod 2=1
   ·simp [A];refine ak (by simp) (au (.inl rfl) ?_);obtain⟨Z,U,l,z,K⟩:=k.afv (by have:=u.2.2;omega) j;simp [d,k.g3,k.pb,aK,l,z,-bs];refine aw (E _ _ ⟨_,_,u.app,K _ (by simp [k.g0]) (by simp [k.g2]) (by simp [k.g3]),by simp [q]⟩ (by simp [d]))
   ·simp [A];refine aW (by simp) ?_;refine aw (E _ _ ⟨_,_,u.skip,k.to (by simp [k.g0]) (by simp [k.g2]) (by simp [k.g3]),by simp [q]⟩ (by simp [d]))
  rintro t J ⟨cy,cc,u,k,q⟩ d;refine aq (aj ?_);simp;refine bQ fr (fun j t J=>∃ hd ch,Up hd j∧FI (.c (.f (sl g (bZ b)))) fr kV hd cy ch cc t J) (by omega) (by decide) (by simp)
   ⟨[],.f .aG,Up.nil,k.to (by simp [k.g0]) (by simp [k.g2]) (by simp [k.g3])⟩ ?_ ?_ ?_
  ·clear k q d;rintro j t J L I ⟨hd,ch,v,k⟩ d N;simp [d,k.g3,k.pb,aK];exact N _ ⟨hd,ch,v,k.to (by simp [k.g0]) (by simp [k.g2]) (by simp [k.g3])⟩ (by simp [d]) (by simp)
  ·clear k q d;rintro j t J I ⟨hd,ch,v,k⟩ d E;refine az (aj ?_);simp [d,k.g0,a4,abn,Gu];by_cases A:((vt b 4:Int).fdiv (2 ^ (min j 64))).tmod 2=1
   ·simp [A];refine ak (by simp) (au (.inl rfl) ?_);obtain⟨Z,U,l,z,K⟩:=k.Z2 (by have:=v.2.2;omega) j;simp [d,k.g3,k.pb,aK,l,z,-bs];refine aw (E _ _ ⟨_,_,v.app,K _ (by simp [k.g0]) (by simp [k.g2]) (by simp [k.g3])⟩ (by simp [d]))
   ·simp [A];refine aW (by simp) ?_;refine aw (E _ _ ⟨_,_,v.skip,k.to (by simp [k.g0]) (by simp [k.g2]) (by simp [k.g3])⟩ (by simp [d]))
  clear k q d;rintro t J ⟨hd,ch,v,k⟩ d;apply aj;simp [k.g2,k.g3,k.pb,k.res,aK];obtain⟨hg,hh⟩:=k.lh.exU (ma _);obtain⟨a,w⟩:=k.lc.exU (ma _);have M:=ax k.res;have c:=hh (J.set 0 (.box [ch,.f (fi fr),.f (fi kV),cc] 0)) 63 fun i y hi F=>by
   rw [By (by rintro rfl;exact k.lh.cw k.res F)];exact hi
  have e:=w (J.set 0 (.box [ch,.f (fi fr),.f (fi kV),cc] 0)) 63 fun i y hi F=>by
   rw [By (by rintro rfl;exact k.lc.cw k.res F)];exact hi
  refine aE (r _ _ _ ⟨⟨hg,hd,fr,kV,a,cy⟩,?_,rfl⟩ ⟨rfl,.a [ch,.f (fi fr),.f (fi kV),cc],?_,?_⟩)
  ·have A:=u.2.2;have h2:=v.2.2;have f:=u.rising;have o:=v.rising;simp [fG,f,o];omega
  ·simp [Km.results,bw,aZ,k.g2,M,aK]
  ·simp [fZ,bX,aZ,deep,c,e,cr.row]
 exact⟨p,hp,O.eq⟩
def iD(J:an)(c:C)(fs:List cr):Prop:=
 (∃ p m,fs=[p]∧c=.sl m 0 1 1 0 4∧J[m]?=ab (.box (p.row.map .f) 0))∨(fs≠[]∧LR J c 4 (bL fs))
theorem zz(fs:List cr)(q:cr):bL fs++[q.row]=bL (fs++[q]):=by simp [bL]
section
variable{J J':an}{c:C}{fs:List cr}
theorem iD.cu(h:iD J c fs)(b:∀ i y,J[i]?=ab y→aX c=ab i→J'[i]?=ab y):iD J' c fs:=by
 rcases h with⟨p,m,rfl,rfl,h⟩ | ⟨h,d⟩
 ·exact .inl ⟨p,m,rfl,rfl,b m _ h rfl⟩
 ·exact .inr ⟨h,d.cu b⟩
theorem iD.push(h:iD J c fs)(L:an):iD (J++L) c fs:=h.cu fun i y hy _=>by rw [AI (ax hy)];exact hy
theorem iD.len(h:iD J c fs):bJ J c=ab fs.length:=by
 rcases h with⟨p,m,rfl,rfl,h⟩ | ⟨h,b⟩
 ·simp [bJ,h]
 ·simpa using b.len
theorem iD.bp(h:iD J c fs):∃ m,aX c=ab m∧m<J.length∧∀ cs g d st,J[m]?≠ab (.bR 1 cs g d st):=by
 rcases h with⟨p,m,rfl,rfl,h⟩ | ⟨h,⟨l,_⟩ | ⟨_,b,d,rfl,j⟩⟩
 ·exact⟨m,rfl,ax h,fun cs g d st e=>by rw [h]at e;cases e⟩
 ·exact absurd (by simpa [bL]using l) h
 ·unfold RB at j;exact⟨b,rfl,ax j,fun cs g d st e=>by rw [j]at e;cases e⟩
theorem iD.app(h:iD J c fs)(B:fs.length≤10)(q:cr){b1:Nat}(j:J[b1]?=ab (.box (q.row.map .f) 0)) :
  ∃ l s,bK J 4 64 (.c c) (.c (.sl b1 0 1 1 0 4))=ab (.c l,s)∧iD s l (fs++[q])∧Kb J s c∧(aX l=aX c∨aX l=ab J.length):=by
 rcases h with⟨p,m,rfl,rfl,h⟩ | ⟨h,A⟩
 ·have d:cX J 4 (.c (.sl b1 0 1 1 0 4))=ab (1,q.row.map .f):=kY j rfl;have b:bU 2 64=ag:=cB (by decide) (by decide);refine⟨.sl J.length 0 2 0 0 4,J++[.bR 4 (p.row.map .f++q.row.map .f) 0 0 .loc],?_,.inr ⟨by simp,.inr ⟨by simp [bL],J.length,0,rfl,?_⟩⟩,Kb.push _ _ _,.inr rfl⟩
  ·simp [bK,d,h,b,cr.row]
  ·unfold RB;simp [bL]
 ·obtain⟨z,y,g,v,u,x⟩:=A.app (fj fs) (by decide) (row:=q.row) rfl (bytes:=64) (cB (by simp;omega) (by decide)) j;exact⟨z,y,g,.inr ⟨by simp,zz fs q▸v⟩,u,x⟩
theorem iD.ex(h:iD J c fs)(n:Nat):db (n+1) J c=ab (sl .fs (bL fs)):=by
 rcases h with⟨p,m,rfl,rfl,h⟩ | ⟨h,b⟩
 ·simp [jf,h,bL,sl,cr.row,aZ]
 ·obtain⟨g,e⟩:=b.ex (fj fs) n;rw [e,abq (g':=.fs) (by simpa [bL]using h)]
end
inductive Fc{α β:Type}(R:α→β→Prop):List α→List β→Prop
 | nil:Fc R [] []
 | cons {a b l m}:R a b→Fc R l m→Fc R (a::l) (b::m)
def TL(J:an)(ct:C)(ts:List (List cr)):Prop:=(ts=[]∧ct=.f .aG) ∨
 (ts≠[]∧∃ b d cs,ct=.sl b 0 ts.length 0 d 1∧J[b]?=ab (.bR 1 cs 0 d .loc)∧Fc (iD J) cs ts∧cs.Pairwise (fun a b=>aX a≠aX b))
theorem jg{d g:Type}{R S:d→g→Prop}:∀ {l:List d} {m:List g},Fc R l m→(∀ a b,a ∈ l→R a b→S a b)→Fc S l m
 | [],[],_,_=>.nil| a::l,b::m,.cons h t,hi=>.cons (hi a b at2 h) (jg t fun x y j=>hi x y (aub _ j))
theorem kA{b d:Type}{R:b→d→Prop}:∀ {l:List b} {m:List d},Fc R l m→l.length=m.length
 | [],[],_=>rfl| _::_,_::_,.cons _ t=>by simp [kA t]
theorem lY{d g:Type}{R:d→g→Prop}:∀ {l:List d} {m:List g},Fc R l m→∀ {a b},R a b→Fc R (l++[a]) (m++[b])
 | [],[],_,a,b,h=>.cons h .nil| _::_,_::_,.cons h t,a,b,j=>.cons h (lY t j)
theorem nD{j g:Type}{R:j→g→Prop}:∀ {l:List j} {m:List g} {b:g},Fc R l (m++[b])→∃ d a,l=d++[a]∧Fc R d m∧R a b
 | _,[],b,h=>by
  cases h with
  | cons h t=>cases t;exact⟨[],_,rfl,.nil,h⟩
 | _,y::m,b,h=>by
  cases h with
  | cons h t=>
   obtain⟨d,a,rfl,q,s⟩:=nD t;exact⟨_::d,a,rfl,.cons h q,s⟩
theorem nC{g j:Type}{R:g→j→Prop}:∀ {l:List g} {m:List j},Fc R l m→∀ a ∈ l,∃ b,R a b
 | [],[],_,a,h=>by cases h
 | x::_,y::_,.cons h t,a,d=>by
  rcases aui.1 d with rfl | d
  ·exact⟨y,h⟩
  ·exact nC t a d
section
variable{J J':an}{ct:C}{ts:List (List cr)}
theorem TL.cu(h:TL J ct ts)(v:∀ i y,J[i]?=ab y→i≠0→i≠1→J'[i]?=ab y)(g:∃ x s,J[0]?=ab (.box [x] s))(j:∃ x s,J[1]?=ab (.box [x] s)):TL J' ct ts:=by
 obtain⟨I,F,g⟩:=g;obtain⟨K,H,j⟩:=j;rcases h with h | ⟨h,b,z,cs,rfl,l,B,E⟩
 ·exact .inl h
 ·refine .inr ⟨h,b,z,cs,rfl,v _ _ l (by rintro rfl;rw [g]at l;cases l) (by rintro rfl;rw [j]at l;cases l),jg B fun c fs _ hi=>hi.cu fun i y hy q=>v i y hy ?_ ?_,E⟩
  all_goals
   rintro rfl;rcases hi with⟨p,m,rfl,rfl,d⟩ | ⟨u,⟨e,_⟩ | ⟨_,m,A,rfl,d⟩⟩
   ·cases q
    first | (rw [g]at d;simp [cr.row]at d) | (rw [j]at d;simp [cr.row]at d)
   ·exact u (by simpa [bL]using e)
   ·cases q;unfold RB at d
    first | (rw [g]at d;cases d) | (rw [j]at d;cases d)
theorem TL.push(h:TL J ct ts)(L:an):TL (J++L) ct ts:=by
 rcases h with h | ⟨h,b,g,cs,rfl,d,j,l⟩
 ·exact .inl h
 ·exact .inr ⟨h,b,g,cs,rfl,by rw [AI (ax d)];exact d,jg j fun c fs _ hi=>hi.push L,l⟩
theorem TL.len(h:TL J ct ts):bJ J ct=ab ts.length:=by
 rcases h with⟨rfl,rfl⟩ | ⟨h,b,g,cs,rfl,d,j,l⟩
 ·rfl
 ·simp [bJ,d]
theorem qv{d j s:Type}{R:d→j→Prop}{g:d→Option s}{k:j→s}(q:∀ a b,R a b→g a=ab (k b)):∀ {l:List d} {m:List j},Fc R l m→aZ g l=ab (m.map k)
 | [],[],_=>rfl| _::_,_::_,.cons h t=>by simp only [aZ,q _ _ h,qv q t,anc]
theorem mJ:∀ {l:List (List cr)},(l.map fun fs=>[sl .fs (bL fs)]).flatten=l.map fun fs=>sl .fs (bL fs)
 | []=>rfl| x::l=>by simp [mJ (l:=l)]
theorem TL.ex(h:TL J ct ts)(n:Nat):∃ g,db (n+2) J ct=ab (sl g (bj (ts.map fun fs=>⟨.fs,fs⟩))):=by
 rcases h with⟨rfl,rfl⟩ | ⟨h,b,s,cs,rfl,m,j,v⟩
 ·exact⟨.nil,rfl⟩
 ·refine⟨.fs,?_⟩;have u:=kA j;have q:=qv (g:=db (n+1) J) (k:=fun fs=>sl .fs (bL fs)) (fun c fs hi=>hi.ex n) j;simp only [jf,m];rw [bg ⟨trivial,trivial,by omega⟩,List.drop_zero,List.take_of_length_le (by omega),q];have d:¬ (bj (ts.map fun fs=>(⟨.fs,fs⟩:dQ))).isEmpty=ag:=by simpa [bj]using h
  have e:(bj (ts.map fun fs=>(⟨.fs,fs⟩:dQ))).flatten=ts.map fun fs=>sl .fs (bL fs):=by
   simp only [bj,List.map_map];exact mJ
  have l:(bj (ts.map fun fs=>(⟨.fs,fs⟩:dQ))).length=ts.length:=by simp
  have es:sl .fs (bj (ts.map fun fs=>(⟨.fs,fs⟩:dQ)))=.fs (ts.map fun fs=>sl .fs (bL fs)) ts.length:=by
   rw [←e,←l];unfold sl;rw [aY d]
  rw [es];rfl
end
structure SI(J:an)(ct:C)(ts:List (List cr)):Prop where
 res:J[0]?=ab (.box [.f .aG] 0)
 out:J[1]?=ab (.box [ct] 0)
 tl:TL J ct ts
theorem SI.push{J:an}{ct:C}{ts:List (List cr)}(h:SI J ct ts)(L:an):SI (J++L) ct ts:=
 ⟨by rw [AI (ax h.res)];exact h.res,by rw [AI (ax h.out)];exact h.out,h.tl.push L⟩
theorem Gh{R:C→C→Prop}{l:List C}{a:C}(h:l.Pairwise R)(d:∀ x ∈ l,R x a):(l++[a]).Pairwise R:=by
 rw [auB];exact⟨h,auA _ _,fun x g y b=>by simp at b;subst b;exact d x g⟩
theorem SI.new{J:an}{ct:C}{ts:List (List cr)}(h:SI J ct ts)(hl:ts.length≤10)(q:cr) :
  ∃ E x,bK (J++[.box (q.row.map .f) 0]++[.box [.sl J.length 0 1 1 0 4] 0]) 1 24 (.c ct) (.c (.sl (J.length+1) 0 1 1 0 1))=ab (.c E,x)∧dn x (.ptr 1 0 0) [E]=ab (x.set 1 (.box [E] 0))∧SI (x.set 1 (.box [E] 0)) E (ts++[[q]]):=by
 obtain⟨S,s⟩:=aP (J++[.box (q.row.map .f) 0]:an);obtain⟨l,j⟩:=aP (S++[.box [.sl J.length 0 1 1 0 4] 0]:an);rw [←s,←j];have l1:S.length=J.length+1:=by rw [s];simp
 have l2:l.length=J.length+2:=by rw [j];simp [l1]
 have v:SI l ct ts:=by rw [j,s];exact(h.push _).push _
 have L:l[J.length]?=ab (.box (q.row.map .f) 0):=by rw [j,AI (by omega),s];simp
 have bx:l[J.length+1]?=ab (.box [.sl J.length 0 1 1 0 4] 0):=by rw [j,←l1];simp
 have z:cX l 1 (.c (.sl (J.length+1) 0 1 1 0 1))=ab (1,[.sl J.length 0 1 1 0 4]):=by simp [cX,bJ,cS,bx]
 have g:bU (ts.length+1) 24=ag:=cB (by omega) (by decide);have h0:=ax h.res;have h1:=ax h.out;rcases v.tl with⟨X,Y⟩ | ⟨A,b,H,cs,rfl,u,U,hp⟩
 ·subst X Y;have g:bU 1 24=ag:=cB (by decide) (by decide);refine⟨.sl l.length 0 1 0 0 1,l++[.bR 1 [.sl J.length 0 1 1 0 4] 0 0 .loc],?_,?_,?_,?_,?_⟩
  ·simp [bK,z,g]
  ·have:(l++[.bR 1 [.sl J.length 0 1 1 0 4] 0 0 .loc])[1]?=ab (.box [.f .aG] 0):=by rw [AI (by omega)];exact v.out
   simp [dn,this,over]
  ·rw [By (by decide),AI (by omega)];exact v.res
  ·rw [OF (by simp;omega)]
  ·refine .inr ⟨by simp,l.length,0,[.sl J.length 0 1 1 0 4],rfl,?_,.cons (.inl ⟨q,J.length,rfl,rfl,?_⟩) .nil,auA _ _⟩
   ·rw [By (by omega)];simp
   ·rw [By (by omega),AI (by omega)];exact L
 ·have O:=kA U;have b1:b≠1:=by rintro rfl;rw [v.out]at u;cases u
  have b0:b≠0:=by rintro rfl;rw [v.res]at u;cases u
  have W:=ax u;obtain⟨x,d⟩:=aP (l.set b (.bR 1 (cs++[.sl J.length 0 1 1 0 4]) 0 (H+1) .loc):an);have N:x[1]?=ab (.box [.sl b 0 ts.length 0 H 1] 0):=by rw [d,By b1];exact v.out
  have lH:x.length=l.length:=by rw [d];simp
  refine⟨.sl b 0 (ts.length+1) 0 (H+1) 1,x,?_,?_,?_,?_,?_⟩
  ·simp [bK,z,g,u,O,d]
  ·simp [dn,N,over]
  ·rw [By (by decide),d,By b0];exact v.res
  ·rw [OF (by omega)]
  ·refine .inr ⟨by simp,b,H+1,cs++[.sl J.length 0 1 1 0 4],by simp,?_,lY (jg U fun c fs hc hi=>?_) (.inl ⟨q,J.length,rfl,rfl,?_⟩),Gh hp fun c hc=>?_⟩
   ·rw [By (Ne.symm b1),d,OF W]
   ·obtain⟨m,F,lm,om⟩:=hi.bp;refine hi.cu fun i y hy K=>?_;rw [F]at K;cases K;have m1:1≠m:=by
     rintro rfl;rcases hi with⟨p,m,rfl,rfl,B⟩ | ⟨A,⟨e,_⟩ | ⟨_,m,M,rfl,B⟩⟩
     ·cases F;rw [v.out]at B;simp [cr.row]at B
     ·exact A (by simpa [bL]using e)
     ·cases F;unfold RB at B;rw [v.out]at B;cases B
    have mb:b≠m:=by rintro rfl;exact om _ _ _ _ u
    rw [By m1,d,By mb];exact hy
   ·rw [By (by omega),d,By (by rintro rfl;rw [L]at u;cases u)];exact L
   ·have Z:Fc (iD J) cs ts:=by
     rcases h.tl with⟨e,_⟩ | ⟨_,b',M,cs',e,I,Q,_⟩
     ·exact absurd e A
     ·cases e;have:l[b]?=ab (.bR 1 cs' 0 H .loc):=by rw [j,s,auC,AI (ax I)];exact I
      rw [u]at this;cases this;exact Q
    obtain⟨fs,hi⟩:=nC Z c hc;obtain⟨m,F,lm,om⟩:=hi.bp;rw [F];intro e;cases e;omega
theorem SI.more{J:an}{ct:C}{ts:List (List cr)}{fs:List cr}(h:SI J ct (ts++[fs]))(hl:fs.length≤10)(q:cr) :
  ∃ b l c,aL J 1 ae (.c ct) (vi ts.length)=ab (.c (.ptr b ts.length l))∧aV J ae (.c (.ptr b ts.length l))=ab (.c c)∧bJ J c=ab fs.length ∧
   ∃ F z,bK (J++[.box (q.row.map .f) 0]) 4 64 (.c c) (.c (.sl J.length 0 1 1 0 4))=ab (.c F,z)∧aL z 1 ae (.c ct) (vi ts.length)=ab (.c (.ptr b ts.length l))∧z[1]?=ab (.box [ct] 0) ∧
    ∃ H2,dn z (.ptr b ts.length l) [F]=ab H2∧SI H2 ct (ts++[fs++[q]]):=by
 rcases h.tl with⟨e,_⟩ | ⟨_,b,l,cs,rfl,s,hf,hp⟩
 ·simp at e
 obtain⟨cs',c,rfl,B,hi⟩:=nD hf;have I:=kA B;obtain⟨H,d⟩:=aP (J++[.box (q.row.map .f) 0]:an);have l1:H.length=J.length+1:=by rw [d];simp
 have k1:SI H (.sl b 0 (ts++[fs]).length 0 l 1) (ts++[fs]):=by rw [d];exact h.push _
 have bq:H[J.length]?=ab (.box (q.row.map .f) 0):=by rw [d];simp
 have U:iD H c fs:=by rw [d];exact hi.push _
 obtain⟨m,N,lm,om⟩:=hi.bp;obtain⟨F,z,A,K,hK,S⟩:=U.app hl q bq;have up:∀ i y,J[i]?=ab y→H[i]?=ab y:=fun i y hy=>by rw [d,AI (ax hy)];exact hy
 have x:∀ i y,J[i]?=ab y→i≠m→z[i]?=ab y:=fun i y hy E=>hK.2 i y (up i y hy) (by rw [N];intro e;cases e;exact E rfl);have mb:b≠m:=by rintro rfl;exact om _ _ _ _ s
 have u:=x _ _ s mb;have L:m≠0∧m≠1:=by
  rcases hi with⟨p,X,rfl,rfl,j⟩ | ⟨E,⟨e,_⟩ | ⟨_,X,a7,rfl,j⟩⟩
  ·cases N;exact⟨by rintro rfl;rw [h.res]at j;simp [cr.row]at j,by rintro rfl;rw [h.out]at j;simp [cr.row]at j⟩
  ·exact absurd (by simpa [bL]using e) E
  ·cases N;unfold RB at j;exact⟨(by rintro rfl;rw [h.res]at j;cases j),(by rintro rfl;rw [h.out]at j;cases j)⟩
 have r0:=x _ _ h.res (Ne.symm L.1);have r1:=x _ _ h.out (Ne.symm L.2);have b0:b≠0:=by rintro rfl;rw [h.res]at s;cases s
 have b1:b≠1:=by rintro rfl;rw [h.out]at s;cases s
 obtain⟨X,Q,a9,Z⟩:=K.bp;have Y:b≠X:=by rintro rfl;exact Z _ _ _ _ u
 rw [auB]at hp;obtain⟨p1,-,p3⟩:=hp;refine⟨b,l,c,?_,?_,hi.len,F,z,by rw [d]at A;exact A,?_,r1,z.set b (.bR 1 (cs'++[F]) 0 l .loc),?_,?_,?_,?_⟩
 ·simp [aL,dD,s];omega
 ·simp [aV,aF,s,←I,aK]
 ·simp [aL,dD,u];omega
 ·simp [dn,u,over,←I]
 ·rw [By b0];exact r0
 ·rw [By b1];simpa using r1
 ·refine .inr ⟨by simp,b,l,cs'++[F],by simp,OF (ax u),lY (jg B fun a f O v=>?_) (K.cu fun i y hy g=>?_),Gh p1 fun a O=>?_⟩
  ·obtain⟨k,M,lk,ok⟩:=v.bp;refine v.cu fun i y hy g=>?_;rw [M]at g;cases g;have W:k≠m:=by
    have:=p3 a O c (by simp);rw [M,N]at this;exact fun e=>this (by rw [e])
   rw [By (by rintro rfl;exact ok _ _ _ _ s)];exact x _ _ hy W
  ·rw [Q]at g;cases g;rw [By Y];exact hy
  ·rcases S with e | e
   ·rw [e];exact p3 a O c (by simp)
   ·obtain⟨f,v⟩:=nC B a O;obtain⟨k,M,lk,ok⟩:=v.bp;rw [e,M];intro e2;cases e2;omega
abbrev GI:=Tg × List Nat
def o7(b:GI):Prop:=b.2.length≤9223372036854775807∧∀ n ∈ b.2,n<256
def fD(l:List GI):List (List FC):=l.map fun b=>[sl b.1 (bZ b.2)]
@[simp] theorem aj9 (l:List GI):(fD l).length=l.length:=by simp [fD]
theorem Bg(l:List GI):bO 1 (fD l):=bO.map fun _=>rfl
theorem aow{j:Nat}{l:List GI}(b:j<l.length){H:an}:aV H ae (.c (.f (.fp (fD l).flatten j)))=ab (.c (.f (sl l[j].1 (bZ l[j].2)))):=by
 have:=gu (H:=H) (rows:=fD l) (j:=j) (sz:=1) (row:=[sl l[j].1 (bZ l[j].2)]) (x:=sl l[j].1 (bZ l[j].2)) (Bg l) (by simp [fD,b]) rfl;simpa using this
theorem akt{j:Nat}{l:List GI}{g:Tg}(b:j<l.length){H:an}:aL H 1 ae (.c (.f (sl g (fD l)))) (vi j)=ab (.c (.f (.fp (fD l).flatten j))):=by
 have:=cE (H:=H) (g:=g) (rows:=fD l) (sz:=1) (k:=.i64) (i:=(j:Int)) (by omega) (by simp;omega);simpa using this
def yC(ts:List (List cr)):Prop:=ts.length≤3∧∀ fs ∈ ts,fs≠[]∧fs.length≤3∧∀ p ∈ fs,fG p=ag
theorem yC.new{ts:List (List cr)}(h:yC ts)(j:ts.length<3){p:cr}(g:fG p=ag):yC (ts++[[p]]):=by
 refine⟨by simp;omega,fun fs b=>?_⟩;rcases at9.1 b with b | b
 ·exact h.2 fs b
 ·simp at b;subst b;exact⟨by simp,by simp,fun q d=>by simp at d;subst d;exact g⟩
theorem yC.more{ts:List (List cr)}{fs:List cr}(h:yC (ts++[fs]))(l:fs.length<3){p:cr}(j:fG p=ag):yC (ts++[fs++[p]]):=by
 refine⟨by have:=h.1;simpa using this,fun d hg=>?_⟩;rcases at9.1 hg with hg | hg
 ·exact h.2 d (avd _ hg)
 ·simp at hg;subst hg;have g:=(h.2 fs (by simp)).2.2;refine⟨by simp,by simp;omega,fun q b=>?_⟩;rcases at9.1 b with b | b
  ·exact g q b
  ·simp at b;subst b;exact j
theorem yC.mix{ts:List (List cr)}(h:yC ts):mY (ts.map fun fs=>⟨.fs,fs⟩)=ag:=by
 have j:=h.1;simp only [mY,If,decide_eq_true_eq,at4,aur];refine⟨by omega,fun t g=>?_⟩;obtain⟨fs,d,rfl⟩:=auy.1 g;obtain⟨a,b,c⟩:=h.2 fs d;have:=auF.2 a;simp only [lP,If,decide_eq_true_eq,at4];exact⟨⟨by omega,by omega⟩,c⟩
theorem aaj(g:Tg){l:List GI}(hl:l.length≤9223372036854775807)(hb:∀ b ∈ l,o7 b) :
  ∃ tg ts,mY ts=ag∧bB tab.get 11 [.c (.f (sl g (fD l)))]=Eq (.a [.f (sl tg (bj ts))]):=by
 obtain⟨rr,⟨tg,ts,hm,rfl⟩,hp⟩:∃ rr,(∃ tg ts,mY ts=ag∧rr=.a [.f (sl tg (bj ts))])∧bB tab.get 11 [.c (.f (sl g (fD l)))] rr:=by
  refine bY rfl rfl fun Q hQ=>?_;obtain⟨N,hN⟩:=aP (min l.length 9);apply aj;simp;apply aj;simp;refine aq (aj ?_);simp;refine bQ N (fun j t J=>∃ ct ts,yC ts∧SI J ct ts∧t.g 0=.c (.f (sl g (fD l)))∧t.g 2=.c (.ptr 0 0 0)∧t.g 3=.c (.ptr 1 0 0)) (by omega) (by decide) (by simp)
   ⟨.f .aG,[],⟨by simp,by simp⟩,⟨rfl,rfl,.inl ⟨rfl,rfl⟩⟩,by simp,by simp,by simp⟩ ?_ ?_ ?_
  ·rintro j t J L hj ⟨ct,ts,M,k,m,v,d⟩ z hn;by_cases c1:(j:Int)<l.length
   ·simp [z,m,c1];exact hn _ ⟨ct,ts,M,k,by simp [m],by simp [v],by simp [d]⟩ (by simp [z]) (by simp;omega)
   ·simp [z,m,c1];exact hn _ ⟨ct,ts,M,k,by simp [m],by simp [v],by simp [d]⟩ (by simp [z]) (by simp;omega)
  ·rintro j t J hj ⟨ct,ts,M,k,m,v,d⟩ z nx;have Z:j<l.length:=by omega
   obtain⟨bl,bb⟩:=hb _ (IS Z);obtain⟨p,b_,e_⟩:=vM l[j].1 bb bl;have B:bB tab.get 49 [.c (.f (sl l[j].1 (bZ l[j].2))),vi 0]=Eq (vi (vt l[j].2 0:Nat)):=xb l[j].1 l[j].2 bb bl 0 (by decide);obtain⟨a,d7⟩:=aP ((vt l[j].2 0:Int));rw [←d7]at B;have ii:=fun H=>akt (g:=g) Z (H:=H);have dd:=fun H=>aow Z (H:=H);have d5:=k.tl.len;have a9:aV J ae (.c (.ptr 1 0 0))=ab (.c ct):=by simp [aV,aF,k.out,aK]
   refine az (aj ?_);simp [d,a9,-av,d5];apply aj;simp [m,z,ii,dd,e_,cr.row,-av];obtain⟨E,F⟩:=aP (J++[.box (p.row.map .f) 0]:an);have k1:SI E ct ts:=by rw [F];exact k.push _
   have l1:E.length=J.length+1:=by rw [F];simp
   have bx:E[J.length]?=ab (.box (p.row.map .f) 0):=by rw [F];simp
   have a_:aV E (ab 4) (.c (.ptr J.length 0 0))=ab (.a [.f (sl p.hg (ints p.head)),.f (fi p.fr),.f (fi p.kV),.f (sl p.cg (ints p.cyc))]):=by simp [aV,aF,bx,aK,cr.row]
   have x:aV E ae (.c (.ptr 1 0 0))=ab (.c ct):=by simp [aV,aF,k1.out,aK]
   simp only [cr.row,anc,atN]at F;rw [←F];have c_:∀ t:T,t.g 0=.c (.f (sl g (fD l)))→t.g 2=.c (.ptr 0 0 0)→t.g 3=.c (.ptr 1 0 0)→t.g 4=vi j→t.g 5=vi ts.length→t.g 6=.c (.ptr J.length 0 0) →
     WP tab.get 11 ae [.code tx,.inBlock 1,.code (uv 4 16 17),.inLoop s4,.inBlock 0,.code pN] ⟨t,[],E⟩ Q:=by
    intro t m v d g4 W g6;apply aj;by_cases h3:ts.length<3
    ·simp [W,show(ts.length:Int)<3 by omega];refine ak (by simp) (au (.inl rfl) ?_);obtain⟨c',H',s,a7,hk⟩:=k1.new (by omega) p;simp only [cr.row,anc,atN]at s;have Y:bK (E++[.box [.f (sl p.hg (ints p.head)),.f (fi p.fr),.f (fi p.kV),.f (sl p.cg (ints p.cyc))] 0,.box [.sl E.length 0 1 1 0 4] 0]) 1 24 (.c ct) (.c (.sl (E.length+1) 0 1 1 0 1))=ab (.c c',H'):=by
      rw [←s,auC];rfl
     simp [d,g6,x,a_,-av,Y,a7,-bs];refine aw (nx _ _ ⟨c',_,M.new h3 b_,hk,by simp [m],by simp [v],by simp [d]⟩ (by simp [g4]))
    ·simp [W,show¬ (ts.length:Int)<3 by omega];refine aW (by simp) ?_;refine aw (nx _ _ ⟨ct,ts,M,k1,by simp [m],by simp [v],by simp [d]⟩ (by simp [g4]))
   have w0:ai .i64 0=0:=by decide
   apply aj;rcases List.eq_nil_or_concat ts with rfl | ⟨q,fs,rfl⟩
   ·simp;refine al (by simp) ?_;exact c_ _ (by simp [m]) (by simp [v]) (by simp [d]) (by simp [z]) (by simp) (by simp)
   rw [List.concat_eq_append]at *;have d6:=M.1;simp at d6;have h3:=(M.2 fs (by simp)).2.1;obtain⟨b,ep,c,O,A,u,c',H',s,c9,b9,H2,a7,k2⟩:=k1.more (by omega) p;simp only [cr.row,anc,atN]at s;have U:ai .i64 (q.length:Int)=q.length:=aN;have f9:aV H' ae (.c (.ptr 1 0 0))=ab (.c ct):=by simp [aV,aF,b9,aK]
   have b7:(V.c ct).beq (.c ct)=ag:=by
    rcases k1.tl with⟨e,_⟩ | ⟨_,b,ep,cs,rfl,_⟩
    ·simp at e
    ·simp [V.beq,C.beq]
   have S:∀ t:T,fs.length<3→t.g 0=.c (.f (sl g (fD l)))→t.g 2=.c (.ptr 0 0 0)→t.g 3=.c (.ptr 1 0 0)→t.g 4=vi j→t.g 5=vi ((q.length:Int)+1)→t.g 6=.c (.ptr J.length 0 0) →
     WP tab.get 11 ae [.code Ah,.inBlock 1,.code (uv 4 16 17),.inLoop s4,.inBlock 0,.code pN] ⟨t,[],E⟩ Q:=by
    intro t h3 m v d g4 W g6;refine md (.inl rfl) ?_ ?_
    case refine_2=>
     intro c d9;have d8:c=(1,14):=by simpa using d9
     subst d8;refine⟨by decide,_,rfl,.inl ⟨by decide,?_⟩⟩;simp [d,W,g6,x,a_,O,A,U,s,c9,f9,oW,-av];exact b7
    simp [d,W,g6,x,a_,O,A,U,s,c9,a7,-av,-bs];refine aw (nx _ _ ⟨ct,_,M.more h3 b_,k2,by simp [m],by simp [v],by simp [d]⟩ (by simp [g4]))
   have K:∀ t:T,t.g 0=.c (.f (sl g (fD l)))→t.g 2=.c (.ptr 0 0 0)→t.g 3=.c (.ptr 1 0 0)→t.g 4=vi j→t.g 5=vi ((q.length:Int)+1)→t.g 6=.c (.ptr J.length 0 0) →
     WP tab.get 11 ae [.code tx,.inBlock 1,.code (uv 4 16 17),.inLoop s4,.inBlock 0,.code pN] ⟨t,[],E⟩ Q:=fun t m v d g4 W g6=>c_ t m v d g4 (by rw [W];simp) g6
   by_cases I:a<128
   ·by_cases X:fs.length<3
    ·simp [m,d,z,ii,dd,B,I,x,-av,U,O,A,u,show(fs.length:Int)<3 by omega,show(0:Int)<(q.length:Int)+1 by omega];refine ak (by simp) ?_;exact S _ X (by simp [m]) (by simp [v]) (by simp [d]) (by simp [z]) (by simp) (by simp)
    ·simp [m,d,z,ii,dd,B,I,x,-av,U,O,A,u,show¬ (fs.length:Int)<3 by omega,show(0:Int)<(q.length:Int)+1 by omega];refine al (by simp) ?_;exact K _ (by simp [m]) (by simp [v]) (by simp [d]) (by simp [z]) (by simp) (by simp)
   ·by_cases h4:(q.length:Int)+1=3
    ·by_cases X:fs.length<3
     ·simp [m,d,z,ii,dd,B,I,x,-av,U,O,A,u,show(fs.length:Int)<3 by omega,show(0:Int)<(q.length:Int)+1 by omega];rw [decide_eq_true h4];simp [d,x,-av,U,O,A,u,show(fs.length:Int)<3 by omega];refine ak (by simp) ?_;exact S _ X (by simp [m]) (by simp [v]) (by simp [d]) (by simp [z]) (by simp) (by simp)
     ·simp [m,d,z,ii,dd,B,I,x,-av,U,O,A,u,show¬ (fs.length:Int)<3 by omega,show(0:Int)<(q.length:Int)+1 by omega];rw [decide_eq_true h4];simp [d,x,-av,U,O,A,u,show¬ (fs.length:Int)<3 by omega];refine al (by simp) ?_;exact K _ (by simp [m]) (by simp [v]) (by simp [d]) (by simp [z]) (by simp) (by simp)
    ·simp [m,d,z,ii,dd,B,I,h4,show(0:Int)<(q.length:Int)+1 by omega];refine al (by simp) ?_;exact K _ (by simp [m]) (by simp [v]) (by simp [d]) (by simp [z]) (by simp) (by simp)
  rintro t J ⟨ct,ts,M,k,m,v,d⟩ z;have h0:=ax k.res;have a9:aV J (ab 1) (.c (.ptr 1 0 0))=ab (.a [ct]):=by simp [aV,aF,k.out,aK]
  have f_:dn J (.ptr 0 0 0) [ct]=ab (J.set 0 (.box [ct] 0)):=by simp [dn,k.res,over]
  apply aj;simp [v,d,a9,f_,-av,-bs];have kl:TL (J.set 0 (.box [ct] 0)) ct ts:=k.tl.cu (fun i y hy hi _=>by rw [By (Ne.symm hi)];exact hy) ⟨_,_,k.res⟩ ⟨_,_,k.out⟩;obtain⟨tg,d_⟩:=kl.ex 62;refine aE (hQ _ _ _ ⟨tg,_,M.mix,rfl⟩ ⟨rfl,.a [ct],?_,?_⟩)
  ·simp [Km.results,bw,aZ,v,h0,aK]
  ·simp [fZ,bX,aZ,deep,d_]
 exact⟨tg,ts,hm,hp.eq⟩
def b4(a b c d:GI):List FC:=[sl a.1 (bZ a.2),sl b.1 (bZ b.2),sl c.1 (bZ c.2),sl d.1 (bZ d.2)]
theorem an7{n:Nat}{ys:List FC}(h:mH Tryz.prog (n+2) 27 ys):∃ b:GI,ys=[sl b.1 (bZ b.2)]∧o7 b:=by
 obtain⟨g,l,rfl,a,b⟩:=pY h;exact⟨(g,l),rfl,a,b⟩
theorem aiJ{n:Nat}{ys:List FC}(h:mH Tryz.prog (n+3) 61 ys):∃ a b c d:GI,ys=b4 a b c d∧o7 a∧o7 b∧o7 c∧o7 d:=by
 obtain⟨rows,rfl,g,_,hr⟩:=tu Tryz.underlying61 h;obtain⟨l,rfl,j⟩:=mB (enc:=fun b:GI=>[sl b.1 (bZ b.2)]) (p:=o7) fun r m=>an7 (hr r m)
 match l,g,j with
 | [a,b,c,d],_,j=>exact⟨a,b,c,d,rfl,j a (by simp),j b (by simp),j c (by simp),j d (by simp)⟩
 | [],g,_=>simp at g| [_],g,_=>simp at g| [_,_],g,_=>simp at g| [_,_,_],g,_=>simp at g| _::_::_::_::_::_,g,_=>simp at g
theorem ajW{a:V}(h:qV Tryz.prog 61 a):∃ j l nc m:GI,a=.a ((b4 j l nc m).map .f)∧o7 j∧o7 l∧o7 nc∧o7 m:=by
 rcases h with⟨xs,rfl,g,_⟩ | ⟨x,rfl,g⟩
 ·obtain⟨a,b,c,d,rfl,q⟩:=aiJ (n:=37) g;exact⟨a,b,c,d,rfl,q⟩
 ·exfalso;obtain⟨a,b,c,d,e,_⟩:=aiJ (n:=37) g;simp [b4]at e
theorem dB.abN{z:ZD}{o:List bA}(h:dB z o):∃ g,bB tab.get 78 [z.v]=Eq (.t [.c (.f (sl g (aQ o))),vb ag]):=by
 rcases h.y with⟨e,rfl⟩ | ⟨r,q,e,hr,m,hi,l,-⟩
 ·exact⟨.es,E4 z h.c e⟩
 ·obtain⟨g,o',b,j⟩:=sM z h.c e hr m;have d:o'=o:=nX (iX l) b.sorted (b.perm.trans hi.perm.symm);subst d;rw [l]at j;exact⟨g,j⟩
def Py(o:List bA)(size b t:Int):Option bA→Prop
 | some x=>Mem o size x∧b≤x.at_∧x.at_≤t∧∀ y,Mem o size y→y.at_≤t→y.at_≤x.at_| none=>∀ y,Mem o size y→b≤y.at_→t<y.at_
structure tw(o:List bA)(size dI t:Int)(k0 k i:Nat)(r:Option bA):Prop where
 mem:∀ x,r=ab x→dI≤x.at_∧x.at_≤t∧∃(k' i':Nat) (hi:i'<o.length),k0≤k'∧(k'<k∨k'=k∧i'<i)∧x=⟨o[i'].at_+k'*size,o[i'].off⟩
 all:∀(k' i':Nat) (hi:i'<o.length),k0≤k'→(k'<k∨k'=k∧i'<i)→dI≤o[i'].at_+k'*size→o[i'].at_+k'*size≤t→∃ x,r=ab x∧o[i'].at_+k'*size≤x.at_
theorem zI{o:List bA}{size:Int}(b:da o size=ag)(j:0≤size){k k' i g:Nat}(hi:i<o.length)(d:g<o.length)(h:k'<k∨k'=k∧g<i):o[g].at_+k'*size≤o[i].at_+k*size:=by
 rcases h with h | ⟨rfl,h⟩
 ·obtain⟨_,a1,l⟩:=eg b (IS d);obtain⟨_,b1,m⟩:=eg b (IS hi);have:=gD (size:=size) j h;omega
 ·have:=eE b h hi;omega
theorem tw.step{o:List bA}{size dI t:Int}(q:da o size=ag)(z:0≤size){k0 k i:Nat}{r:Option bA}(h:tw o size dI t k0 k i r)(y:k0≤k)(hi:i<o.length) :
  (dI≤o[i].at_+k*size∧o[i].at_+k*size≤t→tw o size dI t k0 k (i+1) (ab ⟨o[i].at_+k*size,o[i].off⟩))∧(¬ (dI≤o[i].at_+k*size∧o[i].at_+k*size≤t)→tw o size dI t k0 k (i+1) r):=by
 refine⟨fun hc=>⟨fun x s=>?_,fun k' i' g u v j l=>?_⟩,fun hc=>⟨fun x s=>?_,fun k' i' g u v j l=>?_⟩⟩
 ·cases s;exact⟨hc.1,hc.2,k,i,hi,y,.inr ⟨rfl,by omega⟩,rfl⟩
 ·refine⟨_,rfl,?_⟩;by_cases m:k'=k∧i'=i
  ·obtain⟨rfl,rfl⟩:=m;exact au0 _
  ·exact zI q z hi g (by omega)
 ·obtain⟨a,b,k',i',g,c,d,e⟩:=h.mem x s;exact⟨a,b,k',i',g,c,by omega,e⟩
 ·by_cases m:k'=k∧i'=i
  ·obtain⟨rfl,rfl⟩:=m;exact absurd ⟨j,l⟩ hc
  ·exact h.all k' i' g u (by omega) j l
theorem tw.turn{o:List bA}{size dI t:Int}{k0 k:Nat}{r:Option bA}(h:tw o size dI t k0 k o.length r):tw o size dI t k0 (k+1) 0 r:=by
 refine⟨fun x q=>?_,fun k' i' g j s l m=>h.all k' i' g j (by omega) l m⟩;obtain⟨a,b,k',i',g,c,d,e⟩:=h.mem x q;exact⟨a,b,k',i',g,c,by omega,e⟩
theorem tw.done{o:List bA}{size dI t:Int}(l:da o size=ag)(I:0<size)(A:0<o.length)(M:o[0].at_≤t){K:Nat}(F:(K:Int)=(t-o[0].at_) / size){r:Option bA}(h:tw o size dI t (K-1) (K+1) 0 r):Py o size dI t r:=by
 have J:=auE (t-o[0].at_) size;have N:=aum (t-o[0].at_) (show size≠0 by omega);have O:=auq (t-o[0].at_) I;rw [←F,auY]at J;have u:∀(m i:Nat) (hi:i<o.length),o[i].at_+m*size≤t→m≤K:=by
  intro m i hi hy;obtain⟨_,b1,b2⟩:=eg l (IS hi);rcases aut K m with e | e
  ·have:=gD (size:=size) (by omega) e;omega
  ·exact e
 cases r with
 | some x=>
  obtain⟨a,b,k',i',s,c,d,e⟩:=h.mem x rfl;refine⟨⟨k',o[i'],IS s,e⟩,a,b,?_⟩;rintro y ⟨m,E,j,rfl⟩ hy;obtain⟨i,hi,rfl⟩:=at3 j;simp only at hy ⊢;have H:=u m i hi hy;by_cases z:dI≤o[i].at_+m*size
  ·rcases aut m (K-1)with q | q
   ·rw [e];exact zI l (by omega) s hi (.inl (by omega))
   ·obtain⟨B,g,v⟩:=h.all m i hi q (by omega) z hy;cases g;exact v
  ·omega
 | none=>
  rintro y ⟨m,E,j,rfl⟩ z;obtain⟨i,hi,rfl⟩:=at3 j;simp only at z ⊢;rcases Int.lt_or_le t (o[i].at_+m*size)with hy | hy
  ·exact hy
  exfalso;have H:=u m i hi hy;rcases aut m (K-1)with q | q
  ·have L:=zI l (by omega) A hi (k:=K) (k':=m) (.inl (by omega));obtain⟨B,g,_⟩:=h.all K 0 A (by omega) (by omega) (by omega) (by omega);cases g
  ·obtain⟨B,g,_⟩:=h.all m i hi q (by omega) z hy;cases g
theorem Bf(g:Tg)(o:List bA){n:Int}(n0:1≤n)(n1:n≤217)(U:da o (n*1440)=ag)(hb:∀ x ∈ o,pM x)(hl:o.length≤100)(l:Int){t:Int}(t0:-10000000≤t)(t1:t≤10000000) :
  ∃ r:Option bA,Py o (n*1440) l t r∧bB tab.get 170 [.c (.f (sl g (aQ o))),vi n,vi l,vi t]=Eq (.t [.a ((r.getD ⟨0,0⟩).row.map .f),vb r.isSome]):=by
 obtain⟨rr,⟨r,hr,rfl⟩,hp⟩:∃ rr,(∃ r:Option bA,Py o (n*1440) l t r∧rr=.t [.a ((r.getD ⟨0,0⟩).row.map .f),vb r.isSome])∧bB tab.get 170 [.c (.f (sl g (aQ o))),vi n,vi l,vi t] rr:=by
  refine bY rfl rfl fun Q hQ=>?_;apply aj;simp;obtain⟨H0,N⟩:=aP ([.box [.f (fi 0),.f (fi 0)] 0]:an);have z0:H0[0]?=ab (.box [.f (fi 0),.f (fi 0)] 0):=by rw [N];rfl
  have b_:H0.length=1:=by rw [N];rfl
  rw [←N];clear N;have k_:dn H0 (.ptr 0 0 0) [.f (fi 0),.f (fi 0)]=ab (H0.set 0 (.box [.f (fi 0),.f (fi 0)] 0)):=by simp [dn,z0,over]
  have no:∀ d:T,Py o (n*1440) l t ae→d.g 8=.c (.ptr 0 0 0) →
    WP tab.get 170 ae [.code Fa,.code Fb] ⟨d,[],H0⟩ Q:=by
   intro d hP A;apply aj;simp [A,k_,-bs];have hl:=ax z0;have l0:aV (H0.set 0 (.box [.f (fi 0),.f (fi 0)] 0)) (ab 2) (.c (.ptr 0 0 0))=ab (.a [.f (fi 0),.f (fi 0)]):=by simp [aV,aF,OF hl,aK]
   refine aE (hQ _ _ _ ⟨ae,hP,rfl⟩ ⟨rfl,.t [.a [.f (fi 0),.f (fi 0)],vb ah],?_,?_⟩)
   ·simp [Km.results,bw,aZ,A,l0,-av]
   ·simp [fZ,bX,aZ,bA.row]
  refine aq (aj ?_);by_cases X:0<o.length
  case neg=>
   have:o=[]:=List.eq_nil_of_length_eq_zero (by omega);subst this;have j_:∀ H:an,bJ H (.f (sl g (aQ [])))=ab 0:=by intro H;cases g<;>rfl
   simp [j_];refine ak (by simp) (no _ (fun y hy=>by obtain⟨k,b,Y,_⟩:=hy;cases Y) (by simp))
  have g_:=hb _ (IS X);unfold pM at g_;have i0:=fun H=>eC (g:=g) H X;have l0:=fun H=>mS H X;simp only [Nat.zero_mul,Int.natCast_zero]at i0 l0;have c9:=fun H=>zJ (g:=g) H X;simp [c9,i0,l0,show¬ (o.length:Int)=0 by omega,show¬ o=[] by intro e;rw [e]at X;simp at X];by_cases i_:o[0].at_≤t
  case neg=>
   refine ak (by simp;omega) (no _ (fun y hy _=>?_) (by simp));obtain⟨k,b,Y,rfl⟩:=hy;obtain⟨_,b1,b2⟩:=eg U Y;have:0≤(k:Int)*(n*1440):=avl (by omega) (by omega);simp only;omega
  refine al (by simp;omega) (aH ?_);obtain⟨size,Z⟩:=aP (n*1440);rw [←Z]at U;have m7:1440≤size∧size≤400000:=by omega
  have f_:0≤(t-o[0].at_) / size:=Int.ediv_nonneg (by omega) (by omega);obtain⟨K,hK⟩:∃ K:Nat,(K:Int)=(t-o[0].at_) / size:=⟨((t-o[0].at_) / size).toNat,auU f_⟩
  have l9:(K:Int)≤20000:=by
   rw [hK];have:=Int.ediv_le_ediv (a:=t-o[0].at_) (b:=20000*size) (c:=size) (by omega) (by omega);rw [Int.mul_ediv_cancel _ (by omega)]at this;exact this
  have l_:(K:Int)*size≤t-o[0].at_:=by
   have q0:=auE (t-o[0].at_) size;have q1:=aum (t-o[0].at_) (show size≠0 by omega);rw [←hK,auY]at q0;omega
  have wS:ai .i64 (n*1440)=size:=by rw [Z];exact aN
  have wD:=aN (n:=t-o[0].at_);have qD:bV .quo (vi (t-o[0].at_)) (vi size)=ab (vi K):=by
   rw [s_ (by omega),Int.tdiv_eq_ediv_of_nonneg (by omega),←hK,aN]
  have wK:=aN (n:=(K:Int)-1);apply aj;simp [wS];apply aj;simp [b_];apply aj;simp;refine aq (aj ?_);simp [i0,l0,wD,qD,wK];obtain⟨k0,j7⟩:=aP (K-1);have j8:max ((K:Int)-1) 0=(k0:Int):=by omega
  rw [j8];obtain⟨H1,O⟩:=aP (H0++[.box [.f (fi 0),.f (fi 0)] 0]:an);have F:H1[0]?=ab (.box [.f (fi 0),.f (fi 0)] 0):=by rw [O,AI (ax z0)];exact z0
  have I:H1[1]?=ab (.box ((bA.row ⟨0,0⟩).map .f) 0):=by rw [O,←b_];simp [bA.row]
  rw [←O];clear O;refine az (bG (fun m st=>∃(j:Nat) (r:Option bA) (d:T) (J:an),st=⟨d,[],J⟩∧k0≤j∧j≤K+1∧m=K+1-j∧tw o size l t k0 j 0 r∧J[0]?=ab (.box [.f (fi 0),.f (fi 0)] 0)∧J[1]?=ab (.box ((r.getD ⟨0,0⟩).row.map .f) 0) ∧
    d.g 0=.c (.f (sl g (aQ o)))∧d.g 2=vi l∧d.g 3=vi t∧d.g 8=.c (.ptr 0 0 0)∧d.g 10=vi size∧d.g 11=.c (.ptr 1 0 0)∧d.g 12=vb r.isSome∧d.g 13=vi j) (K+1-k0)
   ⟨k0,ae,_,H1,rfl,by omega,by omega,rfl,⟨fun x hx=>(by cases hx),fun k' i' m4 h1 h2=>absurd h2 (by omega)⟩,F,I,by simp,by simp,by simp,by simp,by simp,by simp,by simp,by simp⟩ ?_)
  rintro m st ⟨j,r,d,J,rfl,j3,m5,rfl,S,F,I,B,M,E,A,g10,s,z,u⟩ ih;refine aq (aj ?_);simp [B,E,g10,u,i0,l0,wD,qD];by_cases j4:j≤K
  ·refine ak (by simp [j4]) (aH ?_);have m6:(j:Int)*size≤(K:Int)*size:=Int.mul_le_mul_of_nonneg_right (by omega) (by omega);have l7:0≤(j:Int)*size:=avl (by omega) (by omega);have wM:=aN (n:=(j:Int)*size);have wJ:ai .i64 ((j:Int)+1)=((j+1:Nat):Int):=by rw [aN];omega
   refine aq (az (aj ?_));simp;refine bQ o.length (fun i d J=>∃ r,tw o size l t k0 j i r∧J[0]?=ab (.box [.f (fi 0),.f (fi 0)] 0)∧J[1]?=ab (.box ((r.getD ⟨0,0⟩).row.map .f) 0) ∧
     d.g 0=.c (.f (sl g (aQ o)))∧d.g 2=vi l∧d.g 3=vi t∧d.g 8=.c (.ptr 0 0 0)∧d.g 10=vi size∧d.g 11=.c (.ptr 1 0 0)∧d.g 12=vb r.isSome∧d.g 13=vi j) (by omega) (by decide) (by simp)
    ⟨r,S,F,I,by simp [B],by simp [M],by simp [E],by simp [A],by simp [g10],by simp [s],by simp [z],by simp [u]⟩ ?_ ?_ ?_
   ·rintro i d J L hi ⟨r,S,F,I,B,M,E,A,g10,s,z,u⟩ W hn;simp [W,B,c9];exact hn _ ⟨r,S,F,I,by simp [B],by simp [M],by simp [E],by simp [A],by simp [g10],by simp [s],by simp [z],by simp [u]⟩ (by simp [W]) (by simp)
   ·rintro i d J hi ⟨r,S,F,I,B,M,E,A,g10,s,z,u⟩ W nx;have ii:=eC (g:=g) J hi;have la:=mS J hi;have lo:=(fun(H:an)=>uC (H:=H) (k:=1) (cD o) (dp (AT hi)) (x:=fi o[i].off) rfl) J;have h_:=hb _ (IS hi);unfold pM at h_;obtain⟨c_,d5⟩:=S.step U (by omega) j3 hi;obtain⟨v,a_⟩:=aP (o[i].at_+(j:Int)*size);have wA:ai .i64 (o[i].at_+(j:Int)*size)=v:=by rw [a_];exact aN
    rw [←a_]at c_ d5;refine az (aj ?_);simp [B,g10,u,W,ii,la,wM,wA];apply aj;by_cases hc:l≤v∧v≤t
    ·have a7:dn J (.ptr 1 0 0) [.f (fi v),.f (fi o[i].off)]=ab (J.set 1 (.box ((bA.row ⟨v,o[i].off⟩).map .f) 0)):=by simp [dn,I,over,bA.row]
     simp [M,E,hc.1,hc.2];refine ak (by simp) (aj ?_);simp [B,s,W,ii,lo,a7,-bs];refine au (.inl rfl) ?_;simp;refine aw ?_;refine nx _ _ ⟨ab ⟨v,o[i].off⟩,c_ hc,by rw [By (by decide)];exact F,OF (ax I),by simp [B],by simp [M],by simp [E],by simp [A],by simp [g10],by simp [s],by simp,by simp [u]⟩ (by simp [W])
    ·have f9:=d5 hc;have a9:∀ q:T,q.g 75=vb ah→q.g 0=d.g 0→q.g 2=d.g 2→q.g 3=d.g 3→q.g 8=d.g 8→q.g 10=d.g 10→q.g 11=d.g 11→q.g 12=d.g 12→q.g 13=d.g 13→q.g 14=d.g 14 →
       WP tab.get 170 ae [.code AZ,.inBlock 3,.code (uv 14 57 58),.inLoop (tp 2 14 56 57 58 [⟨D 53,.bN (R 14),ae⟩,⟨D 54,.bN (R 0),ae⟩,⟨D 55,.len (R 54),ae⟩,⟨D 56,.bin .lss (R 53) (R 55),ae⟩] AY),.inBlock 2,.inBlock 1,.code A0,.inLoop AX,.inBlock 0,.code A1] ⟨q,[],J⟩ Q:=by
      intro q e_ e0 e2 e3 e8 d6 d7 d8 d9 d_;refine al e_ (aH (aw ?_));refine nx _ _ ⟨r,f9,F,I,by simp [e0,B],by simp [e2,M],by simp [e3,E],by simp [e8,A],by simp [d6,g10],by simp [d7,s],by simp [d8,z],by simp [d9,u]⟩ (by rw [d_];exact W)
     by_cases b7:v≤t
     ·simp [M,E,b7,show¬ l≤v by omega];exact a9 _ (by simp) (by simp) (by simp) (by simp) (by simp) (by simp) (by simp) (by simp) (by simp) (by simp)
     ·simp [E,b7];exact a9 _ (by simp) (by simp) (by simp) (by simp) (by simp) (by simp) (by simp) (by simp) (by simp) (by simp)
   ·rintro d J ⟨r,S,F,I,B,M,E,A,g10,s,z,u⟩ W;refine aw (au (.inl rfl) ?_);simp [u,wJ];exact ih (K+1-(j+1)) _ (by omega) ⟨j+1,r,_,J,rfl,by omega,by omega,rfl,S.turn,F,I,by simp [B],by simp [M],by simp [E],by simp [A],by simp [g10],by simp [s],by simp [z],by simp⟩
  ·have b9:j=K+1:=by omega
   subst b9;have hP:Py o (n*1440) l t r:=by
    rw [←Z];rw [j7]at S;exact S.done U (by omega) X i_ hK
   refine al (by simp) (bf rfl ?_);have e1:aV J (ab 2) (.c (.ptr 1 0 0))=ab (.a ((r.getD ⟨0,0⟩).row.map .f)):=by simp [aV,I,aF,aK,bA.row]
   have a7:dn J (.ptr 0 0 0) ((r.getD ⟨0,0⟩).row.map .f)=ab (J.set 0 (.box ((r.getD ⟨0,0⟩).row.map .f) 0)):=by simp [dn,F,over,bA.row]
   have j9:((r.getD ⟨0,0⟩).row).length=2:=rfl;have e0:aV (J.set 0 (.box ((r.getD ⟨0,0⟩).row.map .f) 0)) (ab 2) (.c (.ptr 0 0 0))=ab (.a ((r.getD ⟨0,0⟩).row.map .f)):=by simp [aV,aF,OF (ax F),aK,bA.row]
   apply aj;simp [A,s,z,e1,-av,a7,-bs,j9];refine aE (hQ _ _ _ ⟨r,hP,rfl⟩ ⟨rfl,.t [.a ((r.getD ⟨0,0⟩).row.map .f),vb r.isSome],?_,?_⟩)
   ·simp [Km.results,bw,aZ,A,e0,-av]
   ·simp [fZ,bX,aZ]
 exact⟨r,hr,hp.eq⟩
theorem oD{z:ZD}{o:List bA}(h:dB z o){t:Int}(t0:-10000000≤t)(t1:t≤10000000) :
  ∃ r:Option bA,dX h.S t r∧bB tab.get 130 [z.v,vi t]=Eq (.t [.a ((r.getD ⟨0,0⟩).row.map .f),vb r.isSome]):=by
 obtain⟨rr,⟨r,hr,rfl⟩,hp⟩:∃ rr,(∃ r:Option bA,dX h.S t r∧rr=.t [.a ((r.getD ⟨0,0⟩).row.map .f),vb r.isSome])∧bB tab.get 130 [z.v,vi t] rr:=by
  have E:=h.c;have L:=h.Ng;have b9:=h.tl;obtain⟨gy,b7⟩:=h.abN;have M:=kz z E;obtain⟨r,X,K⟩:=Bf gy o L.1 L.2 h.sp (fun x hx=>(h.bd x hx).1) (by have:=h.len;omega) z.dI t0 t1;refine bY rfl rfl fun Q Y=>?_;apply aj;simp;obtain⟨H0,s⟩:=aP ([.box (z.row.map .f) 0,.box [.f (fi 0),.f (fi 0)] 0]:an);have z0:H0[0]?=ab (.box (z.row.map .f) 0):=by rw [s];rfl
  have z1:H0[1]?=ab (.box [.f (fi 0),.f (fi 0)] 0):=by rw [s];rfl
  have N:H0.length=2:=by rw [s];rfl
  rw [←s];clear s;apply aj;simp [cA z0 E,-av,b7];have a_:((r.getD ⟨0,0⟩).row).length=2:=rfl;apply aj;simp [cA z0 E,fF z0 E,-av,M,K,a_,N];obtain⟨l,u⟩:=aP (H0++[.box ((r.getD ⟨0,0⟩).row.map .f) 0]:an);have y0:l[0]?=ab (.box (z.row.map .f) 0):=by rw [u,AI (ax z0)];exact z0
  have y1:l[1]?=ab (.box [.f (fi 0),.f (fi 0)] 0):=by rw [u,AI (ax z1)];exact z1
  have y2:l[2]?=ab (.box ((r.getD ⟨0,0⟩).row.map .f) 0):=by rw [u,←N];simp
  rw [←u];clear u;have J:∀ x:bA,dn l (.ptr 1 0 0) [.f (fi x.at_),.f (fi x.off)]=ab (l.set 1 (.box (x.row.map .f) 0)):=fun x=>by simp [dn,y1,over,bA.row]
  have I:∀(v:T) (q:Option bA),dX h.S t q→v.g 4=.c (.ptr 1 0 0)→v.g 5=vb q.isSome→mW [.cell (Km.P.nat 4) (ab 2),.tmp (Km.P.nat 5)] (.t [.a ((q.getD ⟨0,0⟩).row.map .f),vb q.isSome]) ⟨v,[],l.set 1 (.box ((q.getD ⟨0,0⟩).row.map .f) 0)⟩:=by
   intro v q _ B g5;have l0:aV (l.set 1 (.box ((q.getD ⟨0,0⟩).row.map .f) 0)) (ab 2) (.c (.ptr 1 0 0))=ab (.a ((q.getD ⟨0,0⟩).row.map .f)):=by simp [aV,aF,OF (ax y1),aK,bA.row]
   refine⟨rfl,.t [.a ((q.getD ⟨0,0⟩).row.map .f),vb q.isSome],?_,?_⟩
   ·simp [Km.results,bw,aZ,B,g5,l0,-av]
   ·simp [fZ,bX,aZ]
  refine aq (aj ?_);simp;cases O:r with
  | some x=>
   subst O;obtain⟨b1,b2,b3,b4⟩:=X;have e2:aV l (ab 2) (.c (.ptr 2 0 0))=ab (.a [.f (fi x.at_),.f (fi x.off)]):=by simp [aV,y2,aF,aK,bA.row]
   refine ak (by simp) (aj ?_);simp [e2,-av,J,-bs];have A:dX h.S t (ab x):=⟨.inr ⟨b1,b2⟩,b3,fun y b S=>by
    rcases b with b | ⟨b,-⟩
    ·have:=(h.tb y b).2.1;omega
    ·exact b4 y b S⟩
   exact aE (Y _ _ _ ⟨ab x,A,rfl⟩ (I _ (ab x) A (by simp) (by simp)))
  | none=>
   subst O;refine aW (by simp) ?_;refine aq (aj ?_);simp [dv y0 E,-av];have wl:=aN (n:=(z.tr.length:Int)-1);refine az (bG (fun m st=>∃(j:Nat) (v:T),st=⟨v,[],l⟩∧j≤z.tr.length∧m=j∧(∀ i (hi:i<z.tr.length),j≤i→t<z.tr[i].at_)∧v.g 1=vi t∧v.g 2=.c (.ptr 0 0 0)∧v.g 4=.c (.ptr 1 0 0)∧v.g 10=vi ((j:Int)-1)) z.tr.length
    ⟨z.tr.length,_,rfl,aft _,rfl,fun i hi a9=>absurd a9 (by omega),by simp,by simp,by simp,by simp [wl]⟩ ?_)
   rintro m st ⟨j,v,rfl,hj,rfl,d,g1,W,B,g10⟩ ih;refine aq (aj ?_);simp [g10];by_cases a7:m=0
   ·subst a7;refine al (by simp) (bf rfl ?_);apply aj;have U:=J ⟨0,0⟩;simp only at U;simp [B,U,-bs];have A:dX h.S t ae:=fun y b=>by
     rcases b with b | ⟨b,H⟩
     ·obtain⟨i,hi,rfl⟩:=at3 b;exact d i hi (by omega)
     ·exact X y b H
    exact aE (Y _ _ _ ⟨ae,A,rfl⟩ (I _ ae A (by simp [B]) (by simp)))
   ·obtain⟨i,rfl⟩:∃ i,m=i+1:=⟨m-1,by omega⟩
    have e1:((i+1:Nat):Int)-1=(i:Int):=by omega
    rw [e1]at g10;have hi:i<z.tr.length:=by omega
    have ii:=eC (g:=z.tg) l hi;have la:=mS l hi;have lr:=nW l hi;have wi:=aN (n:=(i:Int)-1);refine ak (by simp;omega) (aH ?_);refine aq (az (aj ?_));simp [g1,W,g10,dv y0 E,-av,ii,la];by_cases F:z.tr[i].at_≤t
    ·simp only [bA.row,anc,atN]at lr;refine ak (by simp [F]) (aj ?_);simp [W,B,g10,dv y0 E,-av,ii,lr,J,-bs];have A:dX h.S t (ab z.tr[i]):=⟨.inl (IS hi),F,fun y b S=>by
      rcases b with b | ⟨b,H⟩
      ·obtain⟨k,hk,rfl⟩:=at3 b;rcases auj i k with e | e | e
       ·have:=d k hk (by omega);omega
       ·subst e;exact au0 _
       ·have:=pG h.ts k i e hi;omega
      ·have:=X y b H;omega⟩
     exact aE (Y _ _ _ ⟨ab z.tr[i],A,rfl⟩ (I _ (ab z.tr[i]) A (by simp [B]) (by simp)))
    ·refine al (by simp [F]) (aH (aw (au (.inl rfl) ?_)));simp [g10,wi];refine ih i _ (by omega) ⟨i,_,rfl,by omega,rfl,fun k hk Z=>?_,by simp [g1],by simp [W],by simp [B],by simp⟩;rcases auk Z with e | e
     ·exact d k hk e
     ·subst e;omega
 exact⟨r,hr,hp.eq⟩
theorem nO{z:ZD}{o:List bA}(h:dB z o){t:Int}(t0:-10000000≤t)(t1:t≤10000000) :
  ∃ r:Option bA,dX h.S t r∧bB tab.get 128 [z.v,vi t]=Eq (vi (offO z r)):=by
 obtain⟨r,hr,g⟩:=oD h t0 t1;refine⟨r,hr,bB.eq ?_⟩;have s:=h.c;refine bI rfl rfl fun Q q=>?_;apply aj;simp;obtain⟨H0,b⟩:=aP ([.box (z.row.map .f) 0]:an);have z0:H0[0]?=ab (.box (z.row.map .f) 0):=by rw [b];rfl
 have j:H0.length=1:=by rw [b];rfl
 rw [←b];clear b;have m:((r.getD ⟨0,0⟩).row).length=2:=rfl;apply aj;simp [cA z0 s,-av,g,m,j];obtain⟨l,d⟩:=aP (H0++[.box ((r.getD ⟨0,0⟩).row.map .f) 0]:an);have v:l[0]?=ab (.box (z.row.map .f) 0):=by rw [d,AI (ax z0)];exact z0
 have y:l[1]?=ab (.box ((r.getD ⟨0,0⟩).row.map .f) 0):=by rw [d,←j];simp
 rw [←d];refine aq (aj ?_);simp;cases r with
 | some x=>
  have u:aV l ae (.c (.ptr 1 1 0))=ab (vi x.off):=by simp [aV,y,aF,aK,bA.row]
  refine ak (by simp) (aj ?_);simp [u,-av];refine aE (q _ _ ?_);simp [offO]
 | none=>
  refine al (by simp) (aH (aj ?_));simp [rP v s,-av];refine aE (q _ _ ?_);simp [offO]
end Go.Proofs.YtmbjejcfadllnaaGreat
