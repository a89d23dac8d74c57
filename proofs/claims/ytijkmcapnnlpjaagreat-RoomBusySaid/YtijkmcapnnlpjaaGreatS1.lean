/-
  What the program's functions and the reference's answer, for all arguments of their kind, in the small machine: part 1.
-/
import Derived.Test.YtijkmcapnnlpjaaGreatTabB
import Derived.Test.YtijkmcapnnlpjaaGreatK4
import Derived.KernelRfl
import Derived.Test.YtijkmcapnnlpjaaGreatK5
set_option linter.unusedVariables false
set_option linter.unusedSimpArgs false
set_option linter.unusedSectionVars false
section
namespace Go.Proofs.YtijkmcapnnlpjaaGreat
open Go Km
def aY(n lo hi:Int):Bool:=decide (lo≤n)&&decide (n≤hi)
theorem oG{n lo hi:Int}(h:aY n lo hi=true):lo≤n∧n≤hi:=by simpa [aY]using h
theorem SG(n lo hi:Int):Kf tab.get nN [vi n,vi lo,vi hi] (vb (aY n lo hi)):=by
 refine eG aTk rfl fun H Q hQ=>?_
 refine ak ?_
 refine aj (.inl rfl) ?_
 simp
 refine ak ?_
 refine aj (.inl rfl) ?_
 by_cases h:lo≤n
 ·simp [h]
  refine aO (hQ _ _ ?_)
  simp [aY,h]
 ·simp [h]
  refine aO (hQ _ _ ?_)
  simp [aY,h]
@[simp] theorem SE (n lo hi:Int):Km.Pure tab.get nN [vi n,vi lo,vi hi]=Eq (vb (aY n lo hi)):=(SG n lo hi).eq
theorem y7(g:Tg)(l:List Int)(v:Int)(hl:l.length≤9223372036854775807) :
  Kf tab.get FK [.c (.f (sl g (ints l))),vi v] (vb (l.any (· == v))):=
 jY aTe (G8 aTa g l v hl)
structure bH where
 cap:Int
 bef:Int
 aft:Int
 (o0 o1 o2 o3 o4 o5 o6 o7 o8 o9:FC)
 qg:Tg
 q:List (Int × Int)
 pg:Tg
 p:List Int
def pairs(l:List (Int × Int)):List (List FC):=l.map fun x=>[fi x.1,fi x.2]
@[simp] theorem aNy (l:List (Int × Int)):(pairs l).length=l.length:=by simp [pairs]
theorem Nr(l:List (Int × Int)):Grid 2 (pairs l):=Grid.map fun _=>rfl
theorem XL{l:List (Int × Int)}{j:Nat}(hj:j<l.length):(pairs l)[j]?=some [fi l[j].1,fi l[j].2]:=by simp [pairs,hj]
def bH.op(r:bH):List C:=[.f r.o0,.f r.o1,.f r.o2,.f r.o3,.f r.o4,.f r.o5,.f r.o6,.f r.o7,.f r.o8,.f r.o9]
def bH.row(r:bH):List FC:=[fi r.cap,fi r.bef,fi r.aft,r.o0,r.o1,r.o2,r.o3,r.o4,r.o5,r.o6,r.o7,r.o8,r.o9,sl r.qg (pairs r.q),sl r.pg (ints r.p)]
def rows(l:List bH):List (List FC):=l.map bH.row
@[simp] theorem aN4 (l:List bH):(rows l).length=l.length:=by simp [rows]
theorem iq(l:List bH):Grid 15 (rows l):=Grid.map fun _=>rfl
theorem pR{l:List bH}{j:Nat}(hj:j<l.length):(rows l)[j]?=some l[j].row:=by simp [rows,hj]
def l7(r:bH):Prop:=Km.Pure tab.get RS [.a r.op] (vi 0)
def oZ(r:bH):Bool:=decide (64<(r.q.length:Int))||decide (64<(r.p.length:Int))
def TB(l:List bH)(p:Int):Nat:=((l[p.toNat]?).map (·.p.length)).getD 0
theorem aqj{l:List bH}{p:Int}(h0:0≤p)(h1:p.toNat<l.length):TB l p=(l[p.toNat]).p.length:=by simp [TB,h1]
def lC(last:Int):List (Int × Int)→Bool
 | []=>true
 | x::r=>aY x.1 (last+1) 63&&aY x.2 0 10080&&lC x.1 r
def oh(l:List bH)(i last:Int):List Int→Bool
 | []=>true
 | p::r=>aY p (last+1) ((l.length:Int)-1)&&!decide (p=i)&&decide (TB l p=0)&&oh l i p r
def gZ(l:List bH)(i:Nat)(r:bH):Bool:=
 aY r.cap 1 512&&aY r.bef 0 1440&&aY r.aft 0 1440&&lC (-1) r.q&&oh l i (-1) r.p
def iH(l:List bH):Nat→List bH→Bool
 | _,[]=>true
 | i,r::rs=>gZ l i r&&iH l (i+1) rs
def kF(l:List bH):Int:=if l.any oZ then 2 else if iH l 0 l then 0 else 1
theorem aLy(r:bH)(ho:l7 r):Kf tab.get FP [.a (r.row.map .f)] (vb (oZ r)):=by
 refine eG aTv rfl fun H Q hQ=>?_
 have hv:=Km.Pure.eq ho
 simp only [bH.op]at hv
 refine ak ?_
 refine aj (.inl rfl) ?_
 simp [bH.row]
 refine ak ?_
 refine aj (.inl rfl) ?_
 simp
 refine QX (fun h=>?_) (fun h=>?_)
 ·simp [h]
  refine QX (fun h'=>?_) (fun h'=>?_)
  ·simp [h',hv]
   refine aO (hQ _ _ ?_)
   simp [oZ,h,h']
  ·simp [h']
   refine aO (hQ _ _ ?_)
   simp [oZ,h,h']
 ·simp [h]
  refine aO (hQ _ _ ?_)
  simp [oZ,h]
theorem UU(g:Tg)(l:List bH)(hl:l.length≤6)(ho:∀ r ∈ l,l7 r) :
  Kf tab.get Rx [.c (.f (sl g (rows l))),.c (.f (.fn FP []))] (vb (l.any oZ)):=
 jY aTg (oO aTc l bH.row (fun r=>.a (r.row.map .f)) oZ g FP [] (by omega)
  (fun j hj H=>dI (iq l) (pR hj)) (fun r hr=>aLy r (ho r hr)))
end Go.Proofs.YtijkmcapnnlpjaaGreat
end
section
namespace Go.Proofs.YtijkmcapnnlpjaaGreat
open Go Km
theorem Gx{last:Int}{q:List (Int × Int)}{j:Nat}(hj:j<q.length):lC last (q.drop j)=(aY q[j].1 (last+1) 63&&aY q[j].2 0 10080&&lC q[j].1 (q.drop (j+1))):=by
 rw [List.drop_eq_getElem_cons hj];rfl
theorem Jh{l:List bH}{i last:Int}{p:List Int}{j:Nat}(hj:j<p.length) :
  oh l i last (p.drop j)=(aY p[j] (last+1) ((l.length:Int)-1)&&!decide (p[j]=i)&&decide (TB l p[j]=0)&&oh l i p[j] (p.drop (j+1))):=by
 rw [List.drop_eq_getElem_cons hj];rfl
theorem TA(g:Tg)(l:List bH)(i:Nat)(hi:i<l.length)(hl:l.length≤6)(ho:∀ r ∈ l,l7 r)(hq:l[i].q.length≤64)(hp:l[i].p.length≤64) :
  Kf tab.get RG [.c (.f (sl g (rows l))),vi i] (vb (gZ l i l[i])):=by
 refine eG aTq rfl fun H Q hQ=>?_
 obtain⟨r,hr⟩:∃ r,r=l[i]:=⟨_,rfl⟩
 have hv:=Km.Pure.eq (ho _ (List.getElem_mem hi))
 rw [←hr]at hv hq hp hQ
 simp only [bH.op]at hv
 have hld:=dI (H:=H) (iq l) (pR hi)
 rw [←hr]at hld
 refine ak ?_
 refine aj (.inl rfl) ?_
 simp
 refine ak ?_
 refine aj (.inl rfl) ?_
 simp [bQ,hi,hld,bH.row]
 refine ak ?_
 refine ak ?_
 refine aj (.inl rfl) ?_
 simp
 cases h1:aY r.cap 1 512
 case false=>
  simp
  refine aC (by simp) ?_
  refine ak (aj (.inl rfl) ?_)
  simp
  refine aO (hQ _ _ ?_)
  simp [gZ,h1]
 simp
 cases h2:aY r.bef 0 1440
 case false=>
  simp
  refine aC (by simp) ?_
  refine ak (aj (.inl rfl) ?_)
  simp
  refine aO (hQ _ _ ?_)
  simp [gZ,h2]
 simp
 cases h3:aY r.aft 0 1440
 case false=>
  simp
  refine aC (by simp) ?_
  refine ak (aj (.inl rfl) ?_)
  simp
  refine aO (hQ _ _ ?_)
  simp [gZ,h3]
 simp [hv]
 refine aA (by simp) ?_
 refine aK ?_
 refine ak (aj (.inl rfl) ?_)
 simp
 refine ak ?_
 refine ak ?_
 refine aj (.inl rfl) ?_
 simp
 obtain⟨ROW,hROW⟩:∃ x,x=[C.f (fi r.cap),C.f (fi r.bef),C.f (fi r.aft),C.f r.o0,C.f r.o1,C.f r.o2,C.f r.o3,C.f r.o4,C.f r.o5,C.f r.o6,C.f r.o7,C.f r.o8,C.f r.o9,C.f (sl r.qg (pairs r.q)),C.f (sl r.pg (ints r.p))]:=⟨_,rfl⟩
 rw [←hROW]
 have aYm:ROW.drop 14=[C.f (sl r.pg (ints r.p))]:=by rw [hROW];rfl
 refine fA r.q.length (fun j t H'=>t.g 0=.c (.f (sl g (rows l)))∧t.g 1=vi i∧t.g 5=.c (.ptr H.length 0 0)∧t.g 38=.c (.f (sl r.qg (pairs r.q)))∧(∃ J,H'=H++(.box ROW 0::J)) ∧
  ∃ last,t.g 6=vi last∧-1≤last∧last≤63∧lC (-1) r.q=lC last (r.q.drop j)) (by omega) (by decide) (by decide) (by simp) (by simp) (by simp) ?_ ?_
 ·rintro j t _ hj ⟨h0,g1,g5,g38,⟨J,rfl⟩,last,g6,l1,l2,hB⟩ ha hb next
  rw [Gx hj]at hB
  refine aP ?_
  refine ak (aj (.inl rfl) ?_)
  simp [ha,g38,bQ,hj,dI (Nr r.q) (XL hj)]
  refine ak ?_
  refine ak (aj (.inl rfl) ?_)
  simp [g6,wrap64 (n:=last+1) (by omega) (by omega)]
  cases h4:aY r.q[j].1 (last+1) 63
  case false=>
   simp
   refine aC (by simp) ?_
   refine ak (aj (.inl rfl) ?_)
   simp
   refine aO (hQ _ _ ?_)
   simp [gZ,hB,h4]
  simp
  cases h5:aY r.q[j].2 0 10080
  case false=>
   simp
   refine aC (by simp) ?_
   refine ak (aj (.inl rfl) ?_)
   simp
   refine aO (hQ _ _ ?_)
   simp [gZ,hB,h5]
  simp
  refine aA (by simp) ?_
  refine aK ?_
  refine aj (.inl rfl) ?_
  simp [g6]
  refine aN (next _ _ ?_ (by simp [ha]) (by simp [hb]))
  have hw:=oG h4
  simp [h4,h5]at hB
  exact⟨by simp [h0],by simp [g1],by simp [g5],by simp [g38],⟨_,rfl⟩,r.q[j].1,by simp,by omega,by omega,hB⟩
 ·rintro t _ ⟨h0,g1,g5,g38,⟨J,rfl⟩,last,g6,l1,l2,hB⟩ ha hb
  have hQ':lC (-1) r.q=true:=by rw [hB];simp [lC]
  refine ak (aj (.inl rfl) ?_)
  simp
  refine ak ?_
  refine ak ?_
  refine aj (.inl rfl) ?_
  simp [g5,aYm]
  refine fA r.p.length (fun j t H'=>t.g 0=.c (.f (sl g (rows l)))∧t.g 1=vi i∧t.g 60=.c (.f (sl r.pg (ints r.p)))∧(∃ J,H'=H++J) ∧
   ∃ last,t.g 6=vi last∧-1≤last∧last≤6∧oh l i (-1) r.p=oh l i last (r.p.drop j)) (by omega) (by decide) (by decide) (by simp) (by simp) (by simp [h0,g1]) ?_ ?_
  ·rintro j t _ hj ⟨h0,g1,g60,⟨J,rfl⟩,last,g6,l1,l2,hB⟩ ha hb next
   rw [Jh hj]at hB
   refine aP ?_
   refine ak (aj (.inl rfl) ?_)
   simp [ha,g60,bQ,hj,ou]
   refine ak ?_
   refine ak (aj (.inl rfl) ?_)
   simp [g6,h0,wrap64 (n:=last+1) (by omega) (by omega),wrap64 (n:=(l.length:Int)-1) (by omega) (by omega)]
   cases h4:aY r.p[j] (last+1) ((l.length:Int)-1)
   case false=>
    simp
    refine aC (by simp) ?_
    refine ak (aj (.inl rfl) ?_)
    simp
    refine aO (hQ _ _ ?_)
    simp [gZ,hB,h4]
   have hw:=oG h4
   simp [g1]
   by_cases h5:r.p[j]=i
   ·simp [h5]
    refine aC (by simp) ?_
    refine ak (aj (.inl rfl) ?_)
    simp
    refine aO (hQ _ _ ?_)
    simp [gZ,hB,h5]
   have hk:r.p[j].toNat<l.length:=by omega
   have hrow:=kY (H:=H++J) (k:=14) (iq l) (pR hk) rfl
   simp [h5,h0,bQ (g:=g) (rows:=rows l) (sz:=15) (k:=.i64) (i:=r.p[j]) (by omega) (by simp;omega),hrow]
   have hpl:=aqj (l:=l) (p:=r.p[j]) (by omega) hk
   by_cases h6:TB l r.p[j]=0
   ·have h6':l[r.p[j].toNat].p=[]:=List.eq_nil_of_length_eq_zero (by rw [←hpl];exact h6)
    simp [h6']
    refine aA (by simp) ?_
    refine aK ?_
    refine aj (.inl rfl) ?_
    simp
    refine aN (next _ _ ?_ (by simp [ha]) (by simp [hb]))
    simp [h4,h5,h6]at hB
    exact⟨by simp [h0],by simp [g1],by simp [g60],⟨_,rfl⟩,r.p[j],by simp,by omega,by omega,hB⟩
   ·have h6':0<l[r.p[j].toNat].p.length:=by rw [←hpl];omega
    simp [h6']
    refine aC (by simp) ?_
    refine ak (aj (.inl rfl) ?_)
    simp
    refine aO (hQ _ _ ?_)
    simp [gZ,hB,h6]
  ·rintro t _ ⟨h0,g1,g60,⟨J,rfl⟩,last,g6,l1,l2,hB⟩ ha hb
   have hP':oh l i (-1) r.p=true:=by rw [hB];simp [oh]
   refine ak (aj (.inl rfl) ?_)
   simp
   refine aO (hQ _ _ ?_)
   simp [gZ,h1,h2,h3,hQ',hP']
end Go.Proofs.YtijkmcapnnlpjaaGreat
end
section
namespace Go.Proofs.YtijkmcapnnlpjaaGreat
open Go Km
theorem Tz(g:Tg)(l:List bH)(i:Nat)(hi:i<l.length)(hl:l.length≤6)(ho:∀ r ∈ l,l7 r)(hq:l[i].q.length≤64)(hp:l[i].p.length≤64) :
  Km.Pure tab.get RG [.c (.f (sl g (rows l))),vi i]=Eq (vb (gZ l i l[i])):=(TA g l i hi hl ho hq hp).eq
theorem UR(g:Tg)(l:List bH)(hl:l.length≤6)(ho:∀ r ∈ l,l7 r) :
  Km.Pure tab.get Rx [.c (.f (sl g (rows l))),.c (.f (.fn FP []))]=Eq (vb (l.any oZ)):=(UU g l hl ho).eq
theorem Df{l:List bH}{j:Nat}(hj:j<l.length):iH l j (l.drop j)=(gZ l j l[j]&&iH l (j+1) (l.drop (j+1))):=by
 rw [List.drop_eq_getElem_cons hj];rfl
theorem WR(g:Tg)(l:List bH)(hl:l.length≤6)(ho:∀ r ∈ l,l7 r):Kf tab.get KL [.c (.f (sl g (rows l)))] (vi (kF l)):=by
 refine eG aTw rfl fun H Q hQ=>?_
 refine ak (aj (.inl rfl) ?_)
 simp
 refine ak (aj (.inl rfl) ?_)
 simp
 refine ak ?_
 refine ak (aj (.inl rfl) ?_)
 have h256:¬ (256:Int)<l.length:=by omega
 simp [h256,UR g l hl ho]
 cases hb:l.any oZ
 case true=>
  refine aC (by simp) ?_
  refine ak (aj (.inl rfl) ?_)
  simp
  refine aO (hQ _ _ ?_)
  simp [kF,hb]
 refine aA (by simp) ?_
 refine aK ?_
 refine ak ?_
 refine ak (aj (.inl rfl) ?_)
 simp
 refine fA l.length (fun j t H'=>t.g 0=.c (.f (sl g (rows l)))∧(∃ J,H'=H++J)∧iH l 0 l=iH l j (l.drop j)) (by omega) (by decide) (by decide) (by simp) (by simp) (by simp) ?_ ?_
 ·rintro j t _ hj ⟨h0,⟨J,rfl⟩,hB⟩ ha hb' next
  rw [Df hj]at hB
  have hnb:oZ l[j]=false:=by
   have:=List.any_eq_false.1 hb l[j] (List.getElem_mem hj)
   simpa using this
  simp only [oZ,Bool.or_eq_false_iff,decide_eq_false_iff_not]at hnb
  refine aP ?_
  refine ak (aj (.inl rfl) ?_)
  simp [ha]
  refine ak (aj (.inl rfl) ?_)
  simp [h0,Tz g l j hj hl ho (by omega) (by omega)]
  cases hp:gZ l j l[j]
  ·refine aC (by simp) ?_
   refine ak (aj (.inl rfl) ?_)
   simp
   refine aO (hQ _ _ ?_)
   simp [kF,hb,hB,hp]
  ·refine aA (by simp) ?_
   refine aK (aN (next _ _ ?_ (by simp [ha]) (by simp [hb'])))
   simp [hp]at hB
   exact⟨by simp [h0],⟨_,rfl⟩,hB⟩
 ·rintro t _ ⟨h0,⟨J,rfl⟩,hB⟩ ha hb'
  refine ak (aj (.inl rfl) ?_)
  simp
  refine aO (hQ _ _ ?_)
  simp [kF,hb,hB,iH]
theorem Iz(g:Tg)(l:List bH)(hl:l.length≤6)(ho:∀ r ∈ l,l7 r):Km.Pure tab.get KL [.c (.f (sl g (rows l)))]=Eq (vi (kF l)):=(WR g l hl ho).eq
end Go.Proofs.YtijkmcapnnlpjaaGreat
end
section
namespace Go.Proofs.YtijkmcapnnlpjaaGreat
open Go Km
theorem lY(g:Tg)(l:List Int)(v:Int)(hl:l.length≤9223372036854775807) :
  Km.Pure tab.get FK [.c (.f (sl g (ints l))),vi v]=Eq (vb (l.any (· == v))):=(y7 g l v hl).eq
theorem UG(g:Tg)(q:List Int)(x:Int)(hq:q.length≤9223372036854775807):Kf tab.get KI [vi x,.c (.f (.fp [sl g (ints q)] 0))] (vb (q.any (· == x))):=by
 refine eG aTo rfl fun H Q hQ=>?_
 refine ak (aj (.inl rfl) ?_)
 simp
 refine ak (aj (.inl rfl) ?_)
 simp [qZ,lY g q x hq]
 refine aO (hQ _ _ ?_)
 simp
theorem Ig(g g':Tg)(p q:List Int)(hp:p.length≤9223372036854775807)(hq:q.length≤9223372036854775807) :
  Km.Pure tab.get Z5 [.c (.f (sl g (ints p))),.c (.f (.fn KI [.fp [sl g' (ints q)] 0]))]=Eq (vb (p.any fun x=>q.any (· == x))):=
 (jY aTf (oO aTb p (fun n=>[fi n]) vi (fun x=>q.any (· == x)) g KI [.fp [sl g' (ints q)] 0] hp
  (fun j hj H=>by have:=ou (H:=H) hj;simpa [ints]using this) (fun x _=>by have:=UG g' q x hq;simpa using this))).eq
def dM(a b:Nat)(ra rb:bH):Bool:=decide (a=b)||ra.p.any (· ==(b:Int))||rb.p.any (· ==(a:Int))||ra.p.any fun x=>rb.p.any (· == x)
theorem Td(g:Tg)(l:List bH)(a b:Nat)(ha:a<l.length)(hb:b<l.length)(hp:l[a].p.length≤64)(hq:l[b].p.length≤64) :
  Kf tab.get FN [.c (.f (sl g (rows l))),vi a,vi b] (vb (dM a b l[a] l[b])):=by
 refine eG aTp rfl fun H Q hQ=>?_
 have h1:=kY (H:=H) (k:=14) (iq l) (pR ha) rfl
 have h2:=kY (H:=H) (k:=14) (iq l) (pR hb) rfl
 refine ak (aj (.inl rfl) ?_)
 simp
 refine ak (aj (.inl rfl) ?_)
 simp [bQ,ha,hb,h1,h2]
 refine ak (aj (.inl rfl) ?_)
 simp
 by_cases e1:a=b
 ·simp [e1]
  refine aO (hQ _ _ ?_)
  simp [dM,e1]
 simp [e1,lY _ l[a].p _ (by omega)]
 cases e2:l[a].p.any (· ==(b:Int))
 case true=>
  simp
  refine aO (hQ _ _ ?_)
  simp [dM,e2]
 simp [lY _ l[b].p _ (by omega)]
 cases e3:l[b].p.any (· ==(a:Int))
 case true=>
  simp
  refine aO (hQ _ _ ?_)
  simp [dM,e3]
 simp [deep,aQt,aKh,Ig l[a].pg l[b].pg l[a].p l[b].p (by omega) (by omega)]
 refine aO (hQ _ _ ?_)
 simp [dM,e1,e2,e3]
end Go.Proofs.YtijkmcapnnlpjaaGreat
end
section
namespace Go.Proofs.YtijkmcapnnlpjaaGreat
open Go Km
def l9(l:List bH)(a b:Int):Bool:=
 decide (kF l=0)&&aY a 0 ((l.length:Int)-1)&&aY b 0 ((l.length:Int)-1) &&
  match l[a.toNat]?,l[b.toNat]? with
  | some ra,some rb=>dM a.toNat b.toNat ra rb
  | _,_=>false
theorem pI{l:List bH}(h:kF l=0){i:Nat}(hi:i<l.length):l[i].q.length≤64∧l[i].p.length≤64:=by
 have hb:l.any oZ=false:=by
  cases hb:l.any oZ
  ·rfl
  ·simp [kF,hb]at h
 have:=List.any_eq_false.1 hb l[i] (List.getElem_mem hi)
 simp [oZ]at this
 omega
theorem EL(g:Tg)(l:List bH)(a b:Nat)(ha:a<l.length)(hb:b<l.length)(hp:l[a].p.length≤64)(hq:l[b].p.length≤64) :
  Km.Pure tab.get FN [.c (.f (sl g (rows l))),vi a,vi b]=Eq (vb (dM a b l[a] l[b])):=(Td g l a b ha hb hp hq).eq
theorem U1(g:Tg)(l:List bH)(a b:Int)(hl:l.length≤6)(ho:∀ r ∈ l,l7 r) :
  Kf tab.get RJ [.c (.f (sl g (rows l))),vi a,vi b] (vb (l9 l a b)):=by
 refine eG aTx rfl fun H Q hQ=>?_
 refine ak (aj (.inl rfl) ?_)
 simp
 refine ak (aj (.inl rfl) ?_)
 simp [Iz g l hl ho]
 by_cases hv:kF l=0
 case neg=>
  simp [hv]
  refine aO (hQ _ _ ?_)
  simp [l9,hv]
 simp [hv,wrap64 (n:=(l.length:Int)-1) (by omega) (by omega)]
 cases h1:aY a 0 ((l.length:Int)-1)
 case false=>
  simp
  refine aO (hQ _ _ ?_)
  simp [l9,h1]
 simp [wrap64 (n:=(l.length:Int)-1) (by omega) (by omega)]
 cases h2:aY b 0 ((l.length:Int)-1)
 case false=>
  simp
  refine aO (hQ _ _ ?_)
  simp [l9,h2]
 have w1:=oG h1
 have w2:=oG h2
 obtain⟨i,rfl⟩:∃ i:Nat,a=i:=⟨a.toNat,by omega⟩
 obtain⟨k,rfl⟩:∃ k:Nat,b=k:=⟨b.toNat,by omega⟩
 have hi:i<l.length:=by omega
 have hk:k<l.length:=by omega
 simp [EL g l i k hi hk (pI hv hi).2 (pI hv hk).2]
 refine aO (hQ _ _ ?_)
 simp [l9,hv,h1,h2,hi,hk]
end Go.Proofs.YtijkmcapnnlpjaaGreat
end
section
namespace Go.Proofs.YtijkmcapnnlpjaaGreat
open Go Km
theorem fQ{n lo hi:Int}(h:lo≤n)(h':n≤hi):aY n lo hi=true:=by
 simp [aY];omega
def Q7:List C:=[.f (fi 0),.f (.fs [fi 7] 1),.f (fi (-1)),.f .ay,.f (fi 0),.f .ay,.f (fi 0),.f .ay]
theorem Y8:((CF tab.get 300 60 (.fn Z9) [] []).bind fun p=>exV deep p.2 p.1)=some (.a Q7):=by kernel_rfl
theorem atM:Km.Pure tab.get Z9 []=Eq (.a Q7):=(uZ Y8).eq
end Go.Proofs.YtijkmcapnnlpjaaGreat
end
section
namespace Go.Proofs.YtijkmcapnnlpjaaGreat
open Go Km
def xq(a b:Nat):FC:=.fs [.fs [.fs [.ay,fi 0,fi 1,.fs [fi 0] 1] 1] 1,fi (60*(a:Int)),fi (1440-60*(b:Int))] 1
def sK(c:Nat):FC:=if c<20 then .fs [fi (c:Int)] 1 else .ay
def okI:Option (V × Heap)→Bool
 | some (.c (.f (.int .i64 0)),_)=>true
 | _=>false
theorem Yk{f:Nat}{args:List V}{m d:Nat}(h:okI (CF tab.get m d (.fn f) args [])=true):Km.Pure tab.get f args (vi 0):=by
 refine yc (m:=m) (d:=d) ?_
 unfold okI at h
 split at h
 ·rename_i h';rw [h'];rfl
 ·cases h
theorem Yi:((List.range 3).all fun a=>(List.range 3).all fun b=>(List.range 21).all fun c=>okI (CF tab.get 300 60 (.fn RS) [.a (Q7++[.f (xq a b),.f (sK c)])] []))=true:=by kernel_rfl
theorem aur:((CF tab.get 300 60 (.fn aac) [] []).bind fun p=>exV deep p.2 p.1)=some (.a [.f (.fs [.fs [.ay,fi 0,fi 1,.fs [fi 0] 1] 1] 1)]):=by kernel_rfl
theorem aLA:Km.Pure tab.get aac []=Eq (.a [.f (.fs [.fs [.ay,fi 0,fi 1,.fs [fi 0] 1] 1] 1)]):=(uZ aur).eq
def yj(a b c:Nat)(cap bef aft:Int)(qg:Tg)(q:List (Int × Int)):bH:=⟨cap,bef,aft,fi 0,.fs [fi 7] 1,fi (-1),.ay,fi 0,.ay,fi 0,.ay,xq a b,sK c,qg,q,.nil,[]⟩
def Good(r:bH):Prop:=∃ a b c cap bef aft qg q,r=yj a b c cap bef aft qg q∧a<3∧b<3∧c<21∧6≤cap∧cap≤11∧0≤bef∧bef≤20∧0≤aft∧aft≤20 ∧
 (q=[]∨∃ t m,q=[(t,m),(2,600)]∧0≤t∧t≤1∧0≤m∧m≤900)
theorem sG{r:bH}(h:Good r):l7 r:=by
 obtain⟨a,b,c,cap,bef,aft,qg,q,rfl,ha,hb,hc,_⟩:=h
 have h1:=Yi
 simp only [List.all_eq_true,List.mem_range]at h1
 exact Yk (h1 a ha b hb c hc)
def jU(B:List (List Int)):List (List FC):=B.map fun r=>r.map fun n=>.int .u8 n
end Go.Proofs.YtijkmcapnnlpjaaGreat
end
section
namespace Go.Proofs.YtijkmcapnnlpjaaGreat
open Go Km
def Rt(r:V):Prop:=∃ a b c:bH,Good a∧Good b∧Good c∧(r=.c (.f (sl .es (rows [a,b,c])))∨r=.c (.f (sl .es (rows [a,b,{ c with pg:=.fs,p:=[0,1] }]))))
def csD(x0 x1 x2:Int)(o8 o9 q:C):List C:=[.f (fi x0),.f (fi x1),.f (fi x2),.f (fi 0),.f (.fs [fi 7] 1),.f (fi (-1)),.f .ay,.f (fi 0),.f .ay,.f (fi 0),.f .ay,o8,o9,q,.f .ay]
theorem Xm(B:List (List Int))(hB:B.length=3)(hr:∀ r ∈ B,r.length=5∧∀ n ∈ r,0≤n∧n≤255) :
  ∃ r,Rt r∧Km.Pure tab.get RQ [.a ((jU B).flatten.map .f)] r:=by
 refine lD aTB rfl fun Q hQ=>?_
 obtain⟨xs,hxs⟩:∃ xs,xs=(jU B).flatten:=⟨_,rfl⟩
 rw [←hxs]
 refine ak (aj (.inl rfl) ?_)
 simp
 refine ak (aj (.inl rfl) ?_)
 simp
 refine ak ?_
 refine ak (aj (.inl rfl) ?_)
 simp
 refine lF 3 (fun j t H=>t.g 1=.c (.ptr 0 0 0)∧H[0]?=some (.box (xs.map .f) 0)∧∃ l,LB true H 15 (t.g 3) .es (rows l)∧l.length=j∧∀ r ∈ l,Good r) (by decide) rfl (by simp)
  ⟨by simp,by simp,[],by simpa [rows]using LB.es0,rfl,by simp⟩ ?_ ?_ ?_
 ·rintro j t H L hj ⟨g1,hx,l,hl,hlen,hG⟩ ha hL
  simp [ha]
  exact hL _ ⟨by simp [g1],hx,l,by simpa using hl,hlen,hG⟩ (by simp [ha]) (by simp)
 ·rintro j t H hj ⟨g1,hx,l,hl,hlen,hG⟩ ha next
  have hjB:j<B.length:=by omega
  obtain⟨h5,hbyte⟩:=hr B[j] (List.getElem_mem hjB)
  obtain⟨n0,n1,n2,n3,n4,hBj⟩:∃ n0 n1 n2 n3 n4,B[j]=[n0,n1,n2,n3,n4]:=by
   match hm:B[j],h5 with
   | [a,b,c,d,e],_=>exact⟨a,b,c,d,e,rfl⟩
  rw [hBj]at hbyte
  simp only [List.mem_cons,List.not_mem_nil,or_false,forall_eq_or_imp,forall_eq]at hbyte
  obtain⟨b0,b1,b2,b3,b4⟩:=hbyte
  have hrow:((xs.map C.f).drop (j*5)).take 5=[.f (.int .u8 n0),.f (.int .u8 n1),.f (.int .u8 n2),.f (.int .u8 n3),.f (.int .u8 n4)]:=by
   have hg:Grid 5 (jU B):=fun r hm=>by
    obtain⟨r',hm',rfl⟩:=List.mem_map.1 hm
    rw [List.length_map];exact(hr r' hm').1
   have hat:(jU B)[j]?=some [.int .u8 n0,.int .u8 n1,.int .u8 n2,.int .u8 n3,.int .u8 n4]:=by simp [jU,hjB,hBj]
   have:=nM (sz:=5) (k:=0) hg hat (by omega)
   rw [hxs,←List.map_drop,show j*5=j*5+0 from rfl,this]
   rfl
  have hlen5:5≤xs.length-j*5:=by
   have:=congrArg List.length hrow
   simp only [List.length_take,List.length_drop,List.length_map,List.length_cons,List.length_nil]at this
   omega
  have fin:∀(t:T) (H1:Heap) (cs:List C) (r:bH) (k fl:Nat),Good r→t.g 1=.c (.ptr 0 0 0)→H1[0]?=some (.box (xs.map .f) 0)→LB true H1 15 (t.g 3) .es (rows l)→t.g 4=vi j →
    t.g 6=.c (.ptr k 0 0)→H1[k]?=some (.box cs fl)→cs.length=15→bD (exB 60 H1) cs=some r.row →
    WP tab.get RQ none [.code Lj,.inBlock 1,.code (E5 4 11 12),.inLoop (su 0 4 10 11 12 [⟨D 9,.mov (R 4),none⟩,⟨D 10,.bin .lss (R 9) (.k (.c (.f (.int .i64 3)))),none⟩] Ll),.inBlock 0,.code Lh] ⟨t,[],H1⟩ Q:=by
   intro t H1 cs r k fl hg g1 hx hl ha g6 hk hcs hfz
   obtain⟨v',H',e1,e2,-,e4⟩:=LB.app (H:=H1++[.box cs 0]) (row:=r.row) (bytes:=248) (y:=.c (.sl H1.length 0 1 1 0 15)) (hl.push _) (iq _) rfl (by decide)
    (lq (fl:=0) (cs:=cs) (by simp) hcs) (gQ (fun x y _=>Cm _) hfz) (by simp [bP];omega)
   have htk:cs.take 15=cs:=List.take_of_length_le (by omega)
   refine aj (.inl rfl) ?_
   simp [g6,hk,hcs,htk,e1]
   refine aN (next _ _ ?_ (by simp [ha]))
   refine⟨by simp [g1],e4 0 _ _ (by rw [List.getElem?_append_left (aJ hx)];exact hx),l++[r],by simpa [rows]using e2,by simp [hlen],?_⟩
   intro r' hr'
   rcases List.mem_append.1 hr' with h | h
   ·exact hG r' h
   ·simp at h;subst h;exact hg
  refine aP ?_
  refine ak (aj (.inl rfl) ?_)
  simp [ha,g1,kP (i:=(j:Int)) (n:=3) (by omega) (by omega),hx,hrow,hlen5]
  refine ak (aj (.inl rfl) ?_)
  simp (disch:=omega) [wrap64,Int.tmod_eq_emod_of_nonneg,fC,kP,List.getElem?_cons_zero,List.getElem?_cons_succ]
  refine ak (aj (.inl rfl) ?_)
  simp (disch:=omega) [wrap64,wrapu8,Int.tmod_eq_emod_of_nonneg,Int.tdiv_eq_ediv_of_nonneg,fC,jA,kP,List.getElem?_cons_zero,List.getElem?_cons_succ,aLA]
  refine ak (aj (.inl rfl) ?_)
  simp (disch:=omega) [kP,List.getElem?_cons_zero,List.getElem?_cons_succ,atM,Q7]
  refine ak ?_
  refine ak (aj (.inl rfl) ?_)
  simp (disch:=omega) [wrap64,wrapu8,Int.tmod_eq_emod_of_nonneg,Int.tdiv_eq_ediv_of_nonneg,fC,jA,kP,List.getElem?_cons_zero,List.getElem?_cons_succ]
  obtain⟨a,ea⟩:∃ a:Nat,n3 % 3=(a:Int):=⟨(n3 % 3).toNat,by omega⟩
  obtain⟨b,eb⟩:∃ b:Nat,n3 / 4 % 3=(b:Int):=⟨(n3 / 4 % 3).toNat,by omega⟩
  obtain⟨c,ec⟩:∃ c:Nat,n4 % 20=(c:Int):=⟨(n4 % 20).toNat,by omega⟩
  simp only [ea,eb]
  have good:∀ c qg q,c<21→(q=[]∨∃ t m,q=[(t,m),((2:Int),(600:Int))]∧0≤t∧t≤1∧0≤m∧m≤900)→Good (yj a b c (6+n0 % 6) (5*(n1 % 5)) (5*(n2 % 5)) qg q):=
   fun c qg q hc hq=>⟨a,b,c,_,_,_,_,_,rfl,by omega,by omega,hc,by omega,by omega,by omega,by omega,by omega,by omega,hq⟩
  have hq0:([]:List (Int × Int))=[]∨∃ t m,([]:List (Int × Int))=[(t,m),((2:Int),(600:Int))]∧0≤t∧t≤1∧0≤m∧m≤900:=.inl rfl
  have hq1:[(n4 % 2,60*(n4 / 16)),((2:Int),(600:Int))]=[]∨∃ t m,[(n4 % 2,60*(n4 / 16)),((2:Int),(600:Int))]=[(t,m),((2:Int),(600:Int))]∧0≤t∧t≤1∧0≤m∧m≤900:=
   .inr ⟨_,_,rfl,by omega,by omega,by omega,by omega⟩
  have hp:=fun L=>hl.push L
  by_cases c1:n3 / 16 % 4=0
  ·refine aC (by simp [c1]) ?_
   have Y2:c<20:=by omega
   refine aj (.inl rfl) ?_
   simp (disch:=omega) [wrap64,wrapu8,Int.tmod_eq_emod_of_nonneg,Int.tdiv_eq_ediv_of_nonneg,fC,jA,kP,List.getElem?_cons_zero,List.getElem?_cons_succ]
   simp only [ec]
   refine ak ?_
   refine ak (aj (.inl rfl) ?_)
   simp (disch:=omega) [wrap64,wrapu8,Int.tmod_eq_emod_of_nonneg,Int.tdiv_eq_ediv_of_nonneg,fC,jA,kP,List.getElem?_cons_zero,List.getElem?_cons_succ]
   by_cases c2:n0 / 8 % 2=1
   ·refine aC (by simp [c2]) ?_
    refine aj (.inl rfl) ?_
    simp (disch:=omega) [wrap64,wrapu8,Int.tmod_eq_emod_of_nonneg,Int.tdiv_eq_ediv_of_nonneg,fC,jA,kP,List.getElem?_cons_zero,List.getElem?_cons_succ]
    exact fin _ _ (csD (6+n0 % 6) (5*(n1 % 5)) (5*(n2 % 5)) (.sl (H.length+3) 0 1 1 0 3) (.sl (H.length+4) 0 1 1 0 1) (.sl (H.length+5) 0 2 2 0 2)) _ (H.length+1) 0 (good c .fs _ (by omega) hq1) (by simp [g1]) (by rw [List.getElem?_append_left (aJ hx)];exact hx) (by simpa using hp _) (by simp [ha]) (by simp) (by simp;rfl) rfl
     (by simp [csD,Cj,J3,yj,bH.row,xq,sK,Y2,sl,Tg.fc,pairs,ints])
   ·refine aA (by simp [c2]) ?_
    refine aK ?_
    exact fin _ _ (csD (6+n0 % 6) (5*(n1 % 5)) (5*(n2 % 5)) (.sl (H.length+3) 0 1 1 0 3) (.sl (H.length+4) 0 1 1 0 1) (.f .ay)) _ (H.length+1) 0 (good c .nil _ (by omega) hq0) (by simp [g1]) (by rw [List.getElem?_append_left (aJ hx)];exact hx) (by simpa using hp _) (by simp [ha]) (by simp) (by simp;rfl) rfl
     (by simp [csD,Cj,J3,yj,bH.row,xq,sK,Y2,sl,Tg.fc,pairs,ints])
  ·refine aA (by simp [c1]) ?_
   have Y2:¬ 20<20:=by omega
   refine aK ?_
   refine ak ?_
   refine ak (aj (.inl rfl) ?_)
   simp (disch:=omega) [wrap64,wrapu8,Int.tmod_eq_emod_of_nonneg,Int.tdiv_eq_ediv_of_nonneg,fC,jA,kP,List.getElem?_cons_zero,List.getElem?_cons_succ]
   by_cases c2:n0 / 8 % 2=1
   ·refine aC (by simp [c2]) ?_
    refine aj (.inl rfl) ?_
    simp (disch:=omega) [wrap64,wrapu8,Int.tmod_eq_emod_of_nonneg,Int.tdiv_eq_ediv_of_nonneg,fC,jA,kP,List.getElem?_cons_zero,List.getElem?_cons_succ]
    exact fin _ _ (csD (6+n0 % 6) (5*(n1 % 5)) (5*(n2 % 5)) (.sl (H.length+3) 0 1 1 0 3) (.f .ay) (.sl (H.length+4) 0 2 2 0 2)) _ (H.length+1) 0 (good 20 .fs _ (by omega) hq1) (by simp [g1]) (by rw [List.getElem?_append_left (aJ hx)];exact hx) (by simpa using hp _) (by simp [ha]) (by simp) (by simp;rfl) rfl
     (by simp [csD,Cj,J3,yj,bH.row,xq,sK,Y2,sl,Tg.fc,pairs,ints])
   ·refine aA (by simp [c2]) ?_
    refine aK ?_
    exact fin _ _ (csD (6+n0 % 6) (5*(n1 % 5)) (5*(n2 % 5)) (.sl (H.length+3) 0 1 1 0 3) (.f .ay) (.f .ay)) _ (H.length+1) 0 (good 20 .nil _ (by omega) hq0) (by simp [g1]) (by rw [List.getElem?_append_left (aJ hx)];exact hx) (by simpa using hp _) (by simp [ha]) (by simp) (by simp;rfl) rfl
     (by simp [csD,Cj,J3,yj,bH.row,xq,sK,Y2,sl,Tg.fc,pairs,ints])
 ·rintro t H ⟨g1,hx,l,hl,hlen,hG⟩ ha
  obtain⟨a,b,c,rfl⟩:∃ a b c,l=[a,b,c]:=by
   match l,hlen with
   | [a,b,c],_=>exact⟨a,b,c,rfl⟩
  have ga:=hG a (by simp)
  have gb:=hG b (by simp)
  have gc:=hG c (by simp)
  have h2B:2<B.length:=by omega
  obtain⟨h5,hbyte⟩:=hr B[2] (List.getElem_mem h2B)
  obtain⟨n0,n1,n2,n3,n4,hBj⟩:∃ n0 n1 n2 n3 n4,B[2]=[n0,n1,n2,n3,n4]:=by
   match hm:B[2],h5 with
   | [a,b,c,d,e],_=>exact⟨a,b,c,d,e,rfl⟩
  rw [hBj]at hbyte
  have b1:=hbyte n1 (by simp)
  have hd:(xs.map C.f).drop 11=.f (.int .u8 n1) ::([.f (.int .u8 n2),.f (.int .u8 n3),.f (.int .u8 n4)]++((jU B).drop 3).flatten.map C.f):=by
   have hg:Grid 5 (jU B):=fun r hm=>by
    obtain⟨r',hm',rfl⟩:=List.mem_map.1 hm
    rw [List.length_map];exact(hr r' hm').1
   have hat:(jU B)[2]?=some [.int .u8 n0,.int .u8 n1,.int .u8 n2,.int .u8 n3,.int .u8 n4]:=by simp [jU,h2B,hBj]
   have:=nM (sz:=5) (k:=1) hg hat (by omega)
   rw [hxs,←List.map_drop,show 11=2*5+1 from rfl,this]
   simp
  refine ak ?_
  refine ak (aj (.inl rfl) ?_)
  simp (disch:=omega) [g1,hx,hd,wrapu8,Int.tmod_eq_emod_of_nonneg,Int.tdiv_eq_ediv_of_nonneg,fC,jA,kP]
  by_cases c1:0<n1 / 8 % 4
  ·refine aC (by simp [c1]) ?_
   refine aj (.inl rfl) ?_
   obtain⟨bb,ep,H',e1,e2,e3,-⟩:=LB.st1 (H:=H++[.box [.f (fi 0),.f (fi 1)] 0]) (row:=c.row) (j:=2) (k:=14) (c:=.sl H.length 0 2 2 0 1) (x:=.fs [fi 0,fi 1] 2) (hl.push _) (iq _) (by simp [rows]) (by decide) (by simp [Cj])
   simp at e1 e2
   simp [e1,e2]
   refine ak (aj (.inl rfl) ?_)
   simp
   refine aO (hQ _ _ (.c (.f (sl .es (rows [a,b,{ c with pg:=.fs,p:=[0,1] }])))) ⟨a,b,c,ga,gb,gc,.inr rfl⟩ ?_)
   have hpc:c.p=[]:=by obtain⟨_,_,_,_,_,_,_,_,rfl,_⟩:=gc;rfl
   have hrows:(rows [a,b,c]).set 2 (c.row.set 14 (.fs [fi 0,fi 1] 2))=rows [a,b,{ c with pg:=.fs,p:=[0,1] }]:=rfl
   rw [hrows]at e3
   obtain⟨cv,hcv,_⟩:=e3.len
   have:=e3.fzV (iq _)
   simp [hcv]
   rw [hcv]at this
   simpa using this
  ·refine aA (by simp [c1]) ?_
   refine aK ?_
   refine ak (aj (.inl rfl) ?_)
   simp
   refine aO (hQ _ _ (.c (.f (sl .es (rows [a,b,c])))) ⟨a,b,c,ga,gb,gc,.inl rfl⟩ ?_)
   obtain⟨cv,hcv,_⟩:=hl.len
   have:=hl.fzV (iq _)
   simp [hcv]
   rw [hcv]at this
   simpa using this
end Go.Proofs.YtijkmcapnnlpjaaGreat
end
section
namespace Go.Proofs.YtijkmcapnnlpjaaGreat
open Go Km
def xP(l:List bH)(h:Bool):Prop:=∃ a b c:bH,Good a∧Good b∧Good c∧l=[a,b,if h then { c with pg:=.fs,p:=[0,1] }else c]
theorem apH{r:V}(h:Rt r):∃ l h,xP l h∧r=.c (.f (sl .es (rows l))):=by
 obtain⟨a,b,c,ga,gb,gc,rfl | rfl⟩:=h
 ·exact⟨_,false,⟨a,b,c,ga,gb,gc,rfl⟩,rfl⟩
 ·exact⟨_,true,⟨a,b,c,ga,gb,gc,rfl⟩,rfl⟩
theorem iL{r:bH}(h:Good r):oZ r=false∧r.p=[]∧(aY r.cap 1 512&&aY r.bef 0 1440&&aY r.aft 0 1440&&lC (-1) r.q)=true:=by
 obtain⟨a,b,c,cap,bef,aft,qg,q,rfl,_,_,_,h1,h2,h3,h4,h5,h6,hq⟩:=h
 refine⟨?_,rfl,?_⟩
 ·rcases hq with rfl | ⟨t,m,rfl,_⟩<;>simp [oZ,yj]
 ·simp only [yj]
  rw [fQ (by omega) (by omega),fQ (by omega) (by omega),fQ (by omega) (by omega)]
  rcases hq with rfl | ⟨t,m,rfl,t1,t2,m1,m2⟩
  ·rfl
  ·simp only [lC]
   rw [fQ (by omega) (by omega),fQ (by omega) (by omega),fQ (by omega) (by omega),fQ (by omega) (by omega)]
   rfl
theorem EF{l:List bH}{h:Bool}(ht:xP l h):∀ r ∈ l,l7 r:=by
 obtain⟨a,b,c,ga,gb,gc,rfl⟩:=ht
 intro r hr
 simp only [List.mem_cons,List.not_mem_nil,or_false]at hr
 rcases hr with rfl | rfl | rfl
 ·exact sG ga
 ·exact sG gb
 ·cases h
  ·have q:=sG gc;exact q
  ·have q:=sG gc;exact q
theorem tV{l:List bH}{h:Bool}(ht:xP l h):kF l=0:=by
 obtain⟨a,b,c,ga,gb,gc,rfl⟩:=ht
 obtain⟨a1,a2,a3⟩:=iL ga
 obtain⟨b1,b2,b3⟩:=iL gb
 obtain⟨c1,c2,c3⟩:=iL gc
 cases h
 ·have hb:[a,b,c].any oZ=false:=by simp [a1,b1,c1]
  have hp:iH [a,b,c] 0 [a,b,c]=true:=by simp [iH,gZ,a2,b2,c2,oh,a3,b3,c3]
  simp [kF,hb,hp]
 ·have c1':oZ { c with pg:=.fs,p:=[0,1] }=false:=by
   simp [oZ]at c1 ⊢
   exact c1.1
  have hb:[a,b,{ c with pg:=.fs,p:=[0,1] }].any oZ=false:=by simp [a1,b1,c1']
  have hp:iH [a,b,{ c with pg:=.fs,p:=[0,1] }] 0 [a,b,{ c with pg:=.fs,p:=[0,1] }]=true:=by
   simp [aY]at a3 b3 c3
   simp [iH,gZ,a2,b2,oh,a3,b3,c3,TB,aY]
  simp [kF,hb,hp]
def eF(h:Bool)(i k:Nat):Bool:=decide (i=k)||h&&(decide (i=2)||decide (k=2))
theorem LZ(h:Bool)(i k:Nat):eF h k i=eF h i k:=by
 have e:decide (k=i)=decide (i=k):=by rw [Bool.eq_iff_iff];simp;exact eq_comm
 simp only [eF,e,Bool.or_comm (decide (k=2))]
theorem IB{l:List bH}{h:Bool}(ht:xP l h){i k:Nat}(hi:i<3)(hk:k<3):l9 l i k=eF h i k:=by
 have hv:=tV ht
 obtain⟨a,b,c,ga,gb,gc,rfl⟩:=ht
 obtain⟨a1,a2,a3⟩:=iL ga
 obtain⟨b1,b2,b3⟩:=iL gb
 obtain⟨c1,c2,c3⟩:=iL gc
 simp only [l9,hv,List.length_cons,List.length_nil]
 rw [fQ (by omega) (by omega),fQ (by omega) (by omega)]
 match i,hi,k,hk with
 | 0,_,0,_=>cases h<;>simp [dM,eF]
 | 0,_,1,_=>cases h<;>simp [dM,eF,a2,b2]
 | 0,_,2,_=>cases h<;>simp [dM,eF,a2,c2]
 | 1,_,0,_=>cases h<;>simp [dM,eF,a2,b2]
 | 1,_,1,_=>cases h<;>simp [dM,eF]
 | 1,_,2,_=>cases h<;>simp [dM,eF,b2,c2]
 | 2,_,0,_=>cases h<;>simp [dM,eF,a2,c2]
 | 2,_,1,_=>cases h<;>simp [dM,eF,b2,c2]
 | 2,_,2,_=>cases h<;>simp [dM,eF]
end Go.Proofs.YtijkmcapnnlpjaaGreat
end
section
namespace Go.Proofs.YtijkmcapnnlpjaaGreat
open Go Km
structure dZ where
 hg:Tg
 head:List Int
 fr:Int
 per:Int
 cg:Tg
 cyc:List Int
def dZ.row(p:dZ):List FC:=[sl p.hg (ints p.head),fi p.fr,fi p.per,sl p.cg (ints p.cyc)]
def dw(l:List dZ):List (List FC):=l.map dZ.row
@[simp] theorem aFJ (l:List dZ):(dw l).length=l.length:=by simp [dw]
theorem gK(l:List dZ):Grid 4 (dw l):=Grid.map fun _=>rfl
theorem jd{l:List dZ}{j:Nat}(hj:j<l.length):(dw l)[j]?=some l[j].row:=by simp [dw,hj]
def dF(limit last:Int):List Int→Bool
 | []=>true
 | n::r=>decide (last<n)&&decide (n<limit)&&dF limit n r
theorem uX{limit last:Int}{l:List Int}{j:Nat}(hj:j<l.length):dF limit last (l.drop j)=(decide (last<l[j])&&decide (l[j]<limit)&&dF limit l[j] (l.drop (j+1))):=by
 rw [List.drop_eq_getElem_cons hj];rfl
def jf(p:dZ):Bool:=decide (0≤p.fr)&&decide (p.fr≤1099511627776)&&decide (1≤p.per)&&decide (p.per≤1099511627776) &&
 decide ((p.head.length:Int)+p.cyc.length≤1048576)&&dF p.fr (-1) p.head&&dF p.per (-1) p.cyc
theorem Tf(g:Tg)(l:List Int)(limit:Int)(hl:l.length≤9223372036854775807):Kf tab.get KU [.c (.f (sl g (ints l))),vi limit] (vb (dF limit (-1) l)):=by
 refine eG aTJ rfl fun H Q hQ=>?_
 refine ak (aj (.inl rfl) ?_)
 simp
 refine ak (aj (.inl rfl) ?_)
 simp
 refine ak ?_
 refine ak (aj (.inl rfl) ?_)
 simp
 refine fA l.length (fun j t H'=>t.g 1=vi limit∧t.g 8=.c (.f (sl g (ints l)))∧H=H'∧∃ last,t.g 5=vi last∧dF limit (-1) l=dF limit last (l.drop j)) hl (by decide) (by decide) (by simp) (by simp) (by simp) ?_ ?_
 ·rintro j t _ hj ⟨g1,g8,rfl,last,g5,hB⟩ ha hb next
  rw [uX hj]at hB
  refine aP ?_
  refine ak (aj (.inl rfl) ?_)
  simp [ha,g8,bQ,hj,ou]
  refine ak ?_
  refine ak (aj (.inl rfl) ?_)
  simp [g5,g1]
  by_cases k1:l[j]≤last
  ·simp [k1]
   refine aC (by simp) ?_
   refine ak (aj (.inl rfl) ?_)
   simp
   refine aO (hQ _ _ ?_)
   simp [hB,show¬ last<l[j] by omega]
  simp [k1,g1]
  by_cases k2:limit≤l[j]
  ·simp [k2]
   refine aC (by simp) ?_
   refine ak (aj (.inl rfl) ?_)
   simp
   refine aO (hQ _ _ ?_)
   simp [hB,show¬ l[j]<limit by omega]
  simp [k2]
  refine aA (by simp) ?_
  refine aK ?_
  refine aj (.inl rfl) ?_
  simp
  refine aN (next _ _ ?_ (by simp [ha]) (by simp [hb]))
  rw [decide_eq_true (by omega),decide_eq_true (by omega)]at hB
  exact⟨by simp [g1],by simp [g8],rfl,l[j],by simp,by simpa using hB⟩
 ·rintro t _ ⟨g1,g8,rfl,last,g5,hB⟩ ha hb
  refine ak (aj (.inl rfl) ?_)
  simp
  refine aO (hQ _ _ ?_)
  simp [hB,dF]
theorem EM(g:Tg)(l:List Int)(limit:Int)(hl:l.length≤9223372036854775807) :
  Km.Pure tab.get KU [.c (.f (sl g (ints l))),vi limit]=Eq (vb (dF limit (-1) l)):=(Tf g l limit hl).eq
theorem aH8(p:dZ)(h1:p.head.length≤9223372036854775807)(h2:p.cyc.length≤9223372036854775807)(h:p.head.length+p.cyc.length≤9223372036854775807) :
  Kf tab.get KW [.a (p.row.map .f)] (vb (jf p)):=by
 refine eG aTK rfl fun H Q hQ=>?_
 refine ak (aj (.inl rfl) ?_)
 simp [dZ.row]
 refine ak (aj (.inl rfl) ?_)
 simp
 by_cases k1:0≤p.fr
 case neg=>
  simp [k1]
  refine aO (hQ _ _ ?_)
  simp [jf,k1]
 simp [k1]
 by_cases k2:p.fr≤1099511627776
 case neg=>
  simp [k2]
  refine aO (hQ _ _ ?_)
  simp [jf,k2]
 simp [k2]
 by_cases k3:1≤p.per
 case neg=>
  simp [k3]
  refine aO (hQ _ _ ?_)
  simp [jf,k3]
 simp [k3]
 by_cases k4:p.per≤1099511627776
 case neg=>
  simp [k4]
  refine aO (hQ _ _ ?_)
  simp [jf,k4]
 simp [k4,wrap64 (n:=(p.head.length:Int)+p.cyc.length) (by omega) (by omega)]
 by_cases k5:(p.head.length:Int)+p.cyc.length≤1048576
 case neg=>
  simp [k5]
  refine aO (hQ _ _ ?_)
  simp [jf,k5]
 simp [k5,EM p.hg p.head p.fr h1]
 cases k6:dF p.fr (-1) p.head
 ·simp
  refine aO (hQ _ _ ?_)
  simp [jf,k6]
 simp [EM p.cg p.cyc p.per h2]
 refine aO (hQ _ _ ?_)
 simp [jf,k1,k2,k3,k4,k5,k6]
end Go.Proofs.YtijkmcapnnlpjaaGreat
end
section
namespace Go.Proofs.YtijkmcapnnlpjaaGreat
open Go Km
def dZ.Sm(p:dZ):Prop:=p.head.length+p.cyc.length≤9223372036854775807
theorem aH7(p:dZ)(h:p.Sm):Km.Pure tab.get KW [.a (p.row.map .f)]=Eq (vb (jf p)):=by
 have h:p.head.length+p.cyc.length≤9223372036854775807:=h
 exact(aH8 p (by omega) (by omega) h).eq
theorem Qu{p:dZ}(h:jf p=true):p.Sm:=by
 simp [jf]at h
 show p.head.length+p.cyc.length≤9223372036854775807
 omega
structure kD where
 tg:Tg
 fs:List dZ
def kD.row(t:kD):List FC:=[sl t.tg (dw t.fs)]
def bW(l:List kD):List (List FC):=l.map kD.row
@[simp] theorem apI (l:List kD):(bW l).length=l.length:=by simp [bW]
theorem sZ(l:List kD):Grid 1 (bW l):=Grid.map fun _=>rfl
theorem xX{l:List kD}{j:Nat}(hj:j<l.length):(bW l)[j]?=some l[j].row:=by simp [bW,hj]
def kD.Sm(t:kD):Prop:=t.fs.length≤9223372036854775807∧∀ p ∈ t.fs,p.Sm
def qJ(t:kD):Bool:=decide (1≤(t.fs.length:Int))&&decide ((t.fs.length:Int)≤4)&&t.fs.all jf
def BI(l:List kD):Bool:=decide ((l.length:Int)≤64)&&l.all qJ
theorem ZM{α:Type}{l:List α}{p:α→Bool}{j:Nat}(hj:j<l.length):(l.drop j).all p=(p l[j]&&(l.drop (j+1)).all p):=by
 rw [List.drop_eq_getElem_cons hj,List.all_cons]
theorem aLz(p:dZ)(h:p.Sm):Kf tab.get KX [.a (p.row.map .f)] (vb (!jf p)):=by
 refine eG aTS rfl fun H Q hQ=>?_
 have hv:=aH7 p h
 simp [dZ.row]at hv
 refine ak (aj (.inl rfl) ?_)
 simp [dZ.row]
 refine ak (aj (.inl rfl) ?_)
 simp [hv]
 refine aO (hQ _ _ ?_)
 simp
theorem UW(g:Tg)(l:List dZ)(hl:l.length≤9223372036854775807)(h:∀ p ∈ l,p.Sm) :
  Km.Pure tab.get Ry [.c (.f (sl g (dw l))),.c (.f (.fn KX []))]=Eq (vb (l.any fun p=>!jf p)):=
 (jY aTh (oO aTd l dZ.row (fun r=>.a (r.row.map .f)) (fun p=>!jf p) g KX [] hl
  (fun j hj H=>dI (gK l) (jd hj)) (fun p hp=>aLz p (h p hp)))).eq
theorem aKj(g:Tg)(l:List kD)(hl:l.length≤9223372036854775807)(h:∀ t ∈ l,t.Sm):Kf tab.get yJ [.a [.f (sl g (bW l))]] (vb (BI l)):=by
 refine eG aTT rfl fun H Q hQ=>?_
 refine ak (aj (.inl rfl) ?_)
 simp
 refine ak ?_
 refine ak (aj (.inl rfl) ?_)
 simp
 by_cases k1:(64:Int)<l.length
 ·simp [k1]
  refine aC (by simp) ?_
  refine ak (aj (.inl rfl) ?_)
  simp
  refine aO (hQ _ _ ?_)
  simp [BI,show¬ (l.length:Int)≤64 by omega]
 simp [k1]
 refine aA (by simp) ?_
 refine aK ?_
 refine ak ?_
 refine ak (aj (.inl rfl) ?_)
 simp
 refine fA l.length (fun j t H'=>t.g 10=.c (.f (sl g (bW l)))∧(∃ J,H'=H++J)∧l.all qJ=(l.drop j).all qJ) hl (by decide) (by decide) (by simp) (by simp) (by simp) ?_ ?_
 ·rintro j t _ hj ⟨g10,⟨J,rfl⟩,hB⟩ ha hb next
  rw [ZM hj]at hB
  have hs:=h l[j] (List.getElem_mem hj)
  have hrow:=kY (H:=H++J) (k:=0) (sZ l) (xX hj) rfl
  refine aP ?_
  refine ak (aj (.inl rfl) ?_)
  simp at hrow
  simp [ha,g10,bQ,hj,hrow]
  have bad:qJ l[j]=false→∀(t:T) (J:Heap) k,WP tab.get yJ none (.code (.region [⟨D 2,.mov (.k (.c (.f (.bool false)))),none⟩] [])::.code .ret::k) ⟨t,[],H++J⟩ Q:=by
   intro hf t J k
   refine aj (.inl rfl) ?_
   simp
   refine aO (hQ _ _ ?_)
   simp [BI,hB,hf]
  refine ak (aj (.inl rfl) ?_)
  simp
  by_cases k2:(l[j].fs.length:Int)<1
  ·simp [k2]
   exact aC (by simp) (ak (bad (by simp [qJ,show¬ 1≤(l[j].fs.length:Int) by omega]) _ _ _))
  simp [k2]
  by_cases k3:(4:Int)<l[j].fs.length
  ·simp [k3]
   exact aC (by simp) (ak (bad (by simp [qJ,show¬ (l[j].fs.length:Int)≤4 by omega]) _ _ _))
  simp [k3,UW l[j].tg l[j].fs hs.1 hs.2]
  cases k4:l[j].fs.any fun p=>!jf p
  ·have:qJ l[j]=true:=by
    simp [qJ]at k4 ⊢
    exact⟨⟨by omega,by omega⟩,k4⟩
   refine aA (by simp) ?_
   refine aK (aN (next _ _ ?_ (by simp [ha]) (by simp [hb])))
   rw [this,Bool.true_and]at hB
   exact⟨by simp [g10],⟨_,rfl⟩,hB⟩
  ·exact aC (by simp) (ak (bad (by simp [qJ]at k4 ⊢;intro _ _;exact k4) _ _ _))
 ·rintro t _ ⟨g10,⟨J,rfl⟩,hB⟩ ha hb
  refine ak (aj (.inl rfl) ?_)
  simp
  refine aO (hQ _ _ ?_)
  simp [BI,hB,show(l.length:Int)≤64 by omega]
end Go.Proofs.YtijkmcapnnlpjaaGreat
end
section
namespace Go.Proofs.YtijkmcapnnlpjaaGreat
open Go Km
theorem JI(a:Int):Km.Pure tab.get O4 [vi a]=Eq (vb false):=(show Kf tab.get O4 [vi a] (vb false) by
 refine eG aY3 rfl fun H Q hQ=>?_
 refine ak (aj (.inl rfl) ?_)
 simp
 refine ak (aj (.inl rfl) ?_)
 simp
 refine aO (hQ _ _ ?_)
 simp).eq
def oC(a b:Int):Int:=if a<b then -1 else if b<a then 1 else 0
theorem OC(a b:Int):Kf tab.get Ir [vi a,vi b] (vi (oC a b)):=by
 refine eG aY5 rfl fun H Q hQ=>?_
 refine ak (aj (.inl rfl) ?_)
 simp
 refine ak (aj (.inl rfl) ?_)
 simp [JI]
 refine ak (aj (.inl rfl) ?_)
 simp [JI]
 refine ak ?_
 refine ak (aj (.inl rfl) ?_)
 simp
 refine aA (by simp) (aK ?_)
 refine ak ?_
 refine ak (aj (.inl rfl) ?_)
 simp
 refine aA (by simp) (aK ?_)
 refine ak ?_
 refine ak (aj (.inl rfl) ?_)
 simp
 by_cases h:a<b
 ·refine aC (by simp [h]) ?_
  refine ak (aj (.inl rfl) ?_)
  simp
  refine aO (hQ _ _ ?_)
  simp [oC,h]
 refine aA (by simp [h]) (aK ?_)
 refine ak ?_
 refine ak (aj (.inl rfl) ?_)
 simp
 by_cases h':b<a
 ·refine aC (by simp [h']) ?_
  refine ak (aj (.inl rfl) ?_)
  simp
  refine aO (hQ _ _ ?_)
  simp [oC,h,h']
 refine aA (by simp [h']) (aK ?_)
 refine ak (aj (.inl rfl) ?_)
 simp
 refine aO (hQ _ _ ?_)
 simp [oC,h,h']
theorem uH(a b:Int):Km.Pure tab.get Ir [vi a,vi b]=Eq (vi (oC a b)):=(OC a b).eq
def orI:List Int→Int
 | []=>0
 | a::r=>if a=0 then orI r else a
theorem Yh{l:List Int}{j:Nat}(hj:j<l.length):orI (l.drop j)=if l[j]=0 then orI (l.drop (j+1))else l[j]:=by
 rw [List.drop_eq_getElem_cons hj];rfl
theorem aP5(g:Tg)(l:List Int)(hl:l.length≤9223372036854775807):Kf tab.get aaj [.c (.f (sl g (ints l)))] (vi (orI l)):=by
 refine eG aY4 rfl fun H Q hQ=>?_
 refine ak (aj (.inl rfl) ?_)
 simp
 refine ak (aj (.inl rfl) ?_)
 simp
 refine ak ?_
 refine ak (aj (.inl rfl) ?_)
 simp
 refine fA l.length (fun j t H'=>t.g 3=vi 0∧t.g 6=.c (.f (sl g (ints l)))∧H=H'∧orI l=orI (l.drop j)) hl (by decide) (by decide) (by simp) (by simp) (by simp) ?_ ?_
 ·rintro j t _ hj ⟨g3,g6,rfl,hB⟩ ha hb next
  rw [Yh hj]at hB
  refine aP ?_
  refine ak (aj (.inl rfl) ?_)
  simp [ha,g6,bQ,hj,ou]
  refine ak (aj (.inl rfl) ?_)
  simp [g3]
  by_cases h:l[j]=0
  ·refine aA (by simp [h]) ?_
   refine aK (aN (next _ _ ?_ (by simp [ha]) (by simp [hb])))
   rw [if_pos h]at hB
   exact⟨by simp [g3],by simp [g6],rfl,hB⟩
  ·refine aC (by simp [h]) ?_
   refine ak (aj (.inl rfl) ?_)
   simp
   refine aO (hQ _ _ ?_)
   simp [hB,h]
 ·rintro t _ ⟨g3,g6,rfl,hB⟩ ha hb
  refine ak (aj (.inl rfl) ?_)
  simp [g3]
  refine aO (hQ _ _ ?_)
  simp [hB,orI]
theorem aFL(g:Tg)(l:List Int)(hl:l.length≤9223372036854775807):Km.Pure tab.get aaj [.c (.f (sl g (ints l)))]=Eq (vi (orI l)):=(aP5 g l hl).eq
theorem aK6(n lo hi:Int):Kf tab.get yK [vi n,vi lo,vi hi] (vb (aY n lo hi)):=by
 refine eG aTZ rfl fun H Q hQ=>?_
 refine ak (aj (.inl rfl) ?_)
 simp
 refine ak (aj (.inl rfl) ?_)
 by_cases h:lo≤n
 ·simp [h]
  refine aO (hQ _ _ ?_)
  simp [aY,h]
 ·simp [h]
  refine aO (hQ _ _ ?_)
  simp [aY,h]
@[simp] theorem aYN (n lo hi:Int):Km.Pure tab.get yK [vi n,vi lo,vi hi]=Eq (vb (aY n lo hi)):=(aK6 n lo hi).eq
structure aS where
 day:Int
 fr:Int
 to:Int
deriving DecidableEq
def aS.row(x:aS):List FC:=[fi x.day,fi x.fr,fi x.to]
def aH(l:List aS):List (List FC):=l.map aS.row
@[simp] theorem kM (l:List aS):(aH l).length=l.length:=by simp [aH]
theorem bI(l:List aS):Grid 3 (aH l):=Grid.map fun _=>rfl
theorem jg{l:List aS}{j:Nat}(hj:j<l.length):(aH l)[j]?=some l[j].row:=by simp [aH,hj]
def uj(x y:aS):Int:=orI [oC x.fr y.fr,oC x.day y.day,oC x.to y.to]
theorem Jt(x y:aS):Kf tab.get Dx [.a (x.row.map .f),.a (y.row.map .f)] (vi (uj x y)):=by
 refine eG aTX rfl fun H Q hQ=>?_
 have ho:=aFL .fs [oC x.fr y.fr,oC x.day y.day,oC x.to y.to] (by simp)
 simp [ints,sl,Tg.fc]at ho
 refine ak (aj (.inl rfl) ?_)
 simp [aS.row]
 refine ak (aj (.inl rfl) ?_)
 simp [uH,deep,oV,Jy,ho]
 refine aO (hQ _ _ ?_)
 simp [uj]
end Go.Proofs.YtijkmcapnnlpjaaGreat
end
section
namespace Go.Proofs.YtijkmcapnnlpjaaGreat
open Go Km
theorem Yd(x y:aS):Km.Pure tab.get Dx [.a (x.row.map .f),.a (y.row.map .f)]=Eq (vi (uj x y)):=(Jt x y).eq
theorem Yv(g:Tg)(l:List kD)(hl:l.length≤9223372036854775807)(h:∀ t ∈ l,t.Sm):Km.Pure tab.get yJ [.a [.f (sl g (bW l))]]=Eq (vb (BI l)):=(aKj g l hl h).eq
structure eP where
 mg:Tg
 ts:List kD
 min:Int
def eP.row(c:eP):List FC:=[sl c.mg (bW c.ts),fi c.min]
def aQ(l:List eP):List (List FC):=l.map eP.row
@[simp] theorem En (l:List eP):(aQ l).length=l.length:=by simp [aQ]
theorem jh(l:List eP):Grid 2 (aQ l):=Grid.map fun _=>rfl
theorem qo{l:List eP}{j:Nat}(hj:j<l.length):(aQ l)[j]?=some l[j].row:=by simp [aQ,hj]
structure dD where
 cg:Tg
 cs:List eP
 len:Int
 xg:Tg
 xs:List aS
def dD.row(s:dD):List FC:=[sl s.cg (aQ s.cs),fi s.len,sl s.xg (aH s.xs)]
def dD.Sm(s:dD):Prop:=s.cs.length≤9223372036854775807∧s.xs.length≤9223372036854775807∧∀ c ∈ s.cs,c.ts.length≤9223372036854775807∧∀ t ∈ c.ts,t.Sm
def iC:Option Int→List eP→Bool
 | _,[]=>true
 | prev,c::r=>BI c.ts&&aY c.min (-4320) 4320&&(prev.all fun m=>decide (m<c.min))&&iC (some c.min) r
def rC(x:aS):Bool:=aY x.day 0 1099511627776&&aY x.fr (-2251799813685248) 1583296743997439&&aY x.to (x.fr+1) (x.fr+10080)
def lg:Option aS→List aS→Bool
 | _,[]=>true
 | prev,x::r=>rC x&&(prev.all fun m=>decide (uj m x<0))&&lg (some x) r
def kG(s:dD):Bool:=decide ((s.cs.length:Int)≤64)&&aY s.len 1 10080&&decide ((s.xs.length:Int)≤4096)&&iC none s.cs&&lg none s.xs
theorem Em{p:Option Int}{l:List eP}{j:Nat}(hj:j<l.length):iC p (l.drop j)=(BI l[j].ts&&aY l[j].min (-4320) 4320&&(p.all fun m=>decide (m<l[j].min))&&iC (some l[j].min) (l.drop (j+1))):=by
 rw [List.drop_eq_getElem_cons hj];rfl
theorem JZ{p:Option aS}{l:List aS}{j:Nat}(hj:j<l.length):lg p (l.drop j)=(rC l[j]&&(p.all fun m=>decide (uj m l[j]<0))&&lg (some l[j]) (l.drop (j+1))):=by
 rw [List.drop_eq_getElem_cons hj];rfl
theorem SL(s:dD)(h:s.Sm):Kf tab.get KN [.a (s.row.map .f)] (vb (kG s)):=by
 obtain⟨hc,hx,hts⟩:=h
 refine eG aY1 rfl fun H Q hQ=>?_
 have bad:kG s=false→∀(t:T) (J:Heap) k,WP tab.get KN none (.code (.region [⟨D 2,.mov (.k (.c (.f (.bool false)))),none⟩] [])::.code .ret::k) ⟨t,[],H++J⟩ Q:=by
  intro hf t J k
  refine aj (.inl rfl) ?_
  simp
  refine aO (hQ _ _ ?_)
  simp [hf]
 refine ak (aj (.inl rfl) ?_)
 simp [dD.row]
 refine ak ?_
 refine ak (aj (.inl rfl) ?_)
 simp
 by_cases k1:(64:Int)<s.cs.length
 ·simp [k1]
  exact aC (by simp) (ak (bad (by simp [kG,show¬ (s.cs.length:Int)≤64 by omega]) _ _ _))
 simp [k1]
 cases k2:aY s.len 1 10080
 ·simp
  exact aC (by simp) (ak (bad (by simp [kG,k2]) _ _ _))
 simp
 by_cases k3:(4096:Int)<s.xs.length
 ·simp [k3]
  exact aC (by simp) (ak (bad (by simp [kG,show¬ (s.xs.length:Int)≤4096 by omega]) _ _ _))
 simp [k3]
 have hS:kG s=(iC none s.cs&&lg none s.xs):=by simp [kG,k2,show(s.cs.length:Int)≤64 by omega,show(s.xs.length:Int)≤4096 by omega]
 rw [hS]at bad
 refine aA (by simp) ?_
 refine aK ?_
 refine ak ?_
 refine ak (aj (.inl rfl) ?_)
 simp
 obtain⟨ROW,hROW⟩:∃ x,x=[C.f (sl s.cg (aQ s.cs)),C.f (fi s.len),C.f (sl s.xg (aH s.xs))]:=⟨_,rfl⟩
 rw [←hROW]
 have hr0:ROW.drop 0=[C.f (sl s.cg (aQ s.cs)),C.f (fi s.len),C.f (sl s.xg (aH s.xs))]:=by rw [hROW];rfl
 have hr2:ROW.drop 2=[C.f (sl s.xg (aH s.xs))]:=by rw [hROW];rfl
 have hr3:ROW=C.f (sl s.cg (aQ s.cs))::[C.f (fi s.len),C.f (sl s.xg (aH s.xs))]:=hROW
 refine fA s.cs.length (fun j t H'=>t.g 1=.c (.ptr H.length 0 0)∧t.g 25=.c (.f (sl s.cg (aQ s.cs)))∧(∃ J,H'=H++(.box ROW 0::J)) ∧
  ∃ prev,(∀ m,j=m+1→∀ h:m<s.cs.length,prev=some (s.cs[m]'h).min)∧(j=0→prev=none)∧iC none s.cs=iC prev (s.cs.drop j)) hc (by decide) (by decide) (by simp) (by simp)
   ⟨by simp,by simp,⟨[],by simp⟩,none,by omega,by simp,by simp⟩ ?_ ?_
 ·rintro j t _ hj ⟨g1,g25,⟨J,rfl⟩,prev,l1,l2,hB⟩ ha hb next
  rw [Em hj]at hB
  have hld:=dI (H:=H++(.box ROW 0::J)) (jh s.cs) (qo hj)
  have hm:=Yv s.cs[j].mg s.cs[j].ts (hts _ (List.getElem_mem hj)).1 (hts _ (List.getElem_mem hj)).2
  refine aP ?_
  refine ak (aj (.inl rfl) ?_)
  simp [ha,g25,bQ,hj,hld,eP.row]
  refine ak (aj (.inl rfl) ?_)
  simp [hm]
  cases k4:BI s.cs[j].ts
  ·simp
   exact aC (by simp) (ak (bad (by simp [hB,k4]) _ _ _))
  simp
  cases k5:aY s.cs[j].min (-4320) 4320
  ·simp
   exact aC (by simp) (ak (bad (by simp [hB,k5]) _ _ _))
  simp
  have go:(prev.all fun m=>decide (m<s.cs[j].min))=true→∃ prev',(∀ m,j+1=m+1→∀ h:m<s.cs.length,prev'=some (s.cs[m]'h).min)∧(j+1=0→prev'=none)∧iC none s.cs=iC prev' (s.cs.drop (j+1)):=by
   intro hp
   rw [k4,k5,hp,Bool.true_and,Bool.true_and,Bool.true_and]at hB
   refine⟨some s.cs[j].min,fun m hm h=>?_,by omega,hB⟩
   have:m=j:=by omega
   subst this;rfl
  cases j with
  | zero=>
   simp
   refine aA (by simp) ?_
   refine aK (aN (next _ _ ?_ (by simp [ha]) (by simp [hb])))
   exact⟨by simp [g1],by simp [g25],⟨_,rfl⟩,go (by rw [l2 rfl];rfl)⟩
  | succ m=>
   have hm:m<s.cs.length:=by omega
   have hl1:=l1 m rfl hm
   have e1:((m+1:Nat):Int)-1=m:=by omega
   have hrow:=kY (H:=H++(Blk.box ROW 0 ::(J++[Blk.box [C.f (sl s.cs[m+1].mg (bW s.cs[m+1].ts)),C.f (fi s.cs[m+1].min)] 0]))) (k:=1) (jh s.cs) (qo hm) rfl
   rw [hr3]at hrow
   simp [show 0<m+1 by omega,g1,hr3,wrap64 (n:=(m:Int)) (by omega) (by omega),bQ,hm,hrow]
   by_cases k6:s.cs[m+1].min≤s.cs[m].min
   ·simp [k6]
    have b:=bad (by simp [hB,hl1,show¬ s.cs[m].min<s.cs[m+1].min by omega])
    refine aC (by simp) ?_
    exact ak (b _ _ _)
   ·simp [k6]
    refine aA (by simp) ?_
    refine aK (aN (next _ _ ?_ (by simp [ha]) (by simp [hb])))
    exact⟨by simp [g1],by simp [g25],⟨_,by rw [hr3]⟩,go (by rw [hl1];simp;omega)⟩
 ·rintro t _ ⟨g1,g25,⟨J,rfl⟩,prev,l1,l2,hB⟩ ha hb
  have hC:iC none s.cs=true:=by rw [hB];simp [iC]
  rw [hC,Bool.true_and]at bad hS
  refine ak ?_
  refine ak (aj (.inl rfl) ?_)
  simp [g1,hr2]
  refine fA s.xs.length (fun j t H'=>t.g 1=.c (.ptr H.length 0 0)∧t.g 60=.c (.f (sl s.xg (aH s.xs)))∧(∃ J,H'=H++(.box ROW 0::J)) ∧
   ∃ prev,(∀ m,j=m+1→∀ h:m<s.xs.length,prev=some (s.xs[m]'h))∧(j=0→prev=none)∧lg none s.xs=lg prev (s.xs.drop j)) hx (by decide) (by decide) (by simp) (by simp)
    ⟨by simp [g1],by simp,⟨J,by simp⟩,none,by omega,by simp,by simp⟩ ?_ ?_
  ·rintro j t _ hj ⟨g1,g60,⟨J,rfl⟩,prev,l1,l2,hB⟩ ha hb next
   rw [JZ hj]at hB
   have hld:=dI (H:=H++(.box ROW 0::J)) (bI s.xs) (jg hj)
   refine aP ?_
   refine ak (aj (.inl rfl) ?_)
   simp [ha,g60,bQ,hj,hld,aS.row]
   have off:rC s.xs[j]=false→∀(t:T) (J:Heap) k,t.g 7=vb false→WP tab.get KN none (.code Si::k) ⟨t,[],H++J⟩ Q:=by
    intro hf t J k g7
    refine ak (aj (.inl rfl) ?_)
    simp [g7]
    exact aC (by simp) (ak (bad (by simp [hB,hf]) _ _ _))
   have go:rC s.xs[j]=true→(prev.all fun m=>decide (uj m s.xs[j]<0))=true→∃ prev',(∀ m,j+1=m+1→∀ h:m<s.xs.length,prev'=some (s.xs[m]'h))∧(j+1=0→prev'=none)∧lg none s.xs=lg prev' (s.xs.drop (j+1)):=by
    intro hg hp
    rw [hg,hp,Bool.true_and,Bool.true_and]at hB
    refine⟨some s.xs[j],fun m hm h=>?_,by omega,hB⟩
    have:m=j:=by omega
    subst this;rfl
   refine ak (aj (.inl rfl) ?_)
   simp
   cases k4:aY s.xs[j].day 0 1099511627776
   ·simp
    exact off (by simp [rC,k4]) _ _ _ (by simp)
   simp
   cases k5:aY s.xs[j].fr (-2251799813685248) 1583296743997439
   ·simp
    exact off (by simp [rC,k5]) _ _ _ (by simp)
   have w5:=oG k5
   simp [wrap64 (n:=s.xs[j].fr+1) (by omega) (by omega),wrap64 (n:=s.xs[j].fr+10080) (by omega) (by omega)]
   cases k6:aY s.xs[j].to (s.xs[j].fr+1) (s.xs[j].fr+10080)
   ·exact off (by simp [rC,k6]) _ _ _ (by simp)
   have hg:rC s.xs[j]=true:=by simp [rC,k4,k5,k6]
   refine ak (aj (.inl rfl) ?_)
   simp
   cases j with
   | zero=>
    simp
    refine aA (by simp) ?_
    refine aK (aN (next _ _ ?_ (by simp [ha]) (by simp [hb])))
    exact⟨by simp [g1],by simp [g60],⟨_,rfl⟩,go hg (by rw [l2 rfl];rfl)⟩
   | succ m=>
    have hm:m<s.xs.length:=by omega
    have hl1:=l1 m rfl hm
    have e1:((m+1:Nat):Int)-1=m:=by omega
    have hrow:=dI (H:=H++(.box ROW 0 ::(J++[Blk.box [C.f (fi s.xs[m+1].day),C.f (fi s.xs[m+1].fr),C.f (fi s.xs[m+1].to)] 0]))) (bI s.xs) (jg hm)
    have hord:=Yd s.xs[m] s.xs[m+1]
    simp [aS.row]at hord hrow
    simp [show 0<m+1 by omega,g1,hr2,wrap64 (n:=(m:Int)) (by omega) (by omega),bQ,hm,hrow,hord]
    by_cases k7:0≤uj s.xs[m] s.xs[m+1]
    ·simp [k7]
     have b:=bad (by simp [hB,hl1,show¬ uj s.xs[m] s.xs[m+1]<0 by omega])
     refine aC (by simp) ?_
     exact ak (b _ _ _)
    ·simp [k7]
     refine aA (by simp) ?_
     refine aK (aN (next _ _ ?_ (by simp [ha]) (by simp [hb])))
     exact⟨by simp [g1],by simp [g60],⟨_,rfl⟩,go hg (by rw [hl1];simp;omega)⟩
  ·rintro t _ ⟨g1,g60,⟨J,rfl⟩,prev,l1,l2,hB⟩ ha hb
   have hX:lg none s.xs=true:=by rw [hB];simp [lg]
   refine ak (aj (.inl rfl) ?_)
   simp
   refine aO (hQ _ _ ?_)
   simp [hS,hX]
end Go.Proofs.YtijkmcapnnlpjaaGreat
end
section
namespace Go.Proofs.YtijkmcapnnlpjaaGreat
open Go Km
theorem wM(s:dD)(h:s.Sm):Km.Pure tab.get KN [.a (s.row.map .f)]=Eq (vb (kG s)):=(SL s h).eq
structure aT where
 meet:Int
 room:Int
 kV:Int
 size:Int
 st:dD
def aT.row(s:aT):List FC:=[fi s.meet,fi s.room,fi s.kV,fi s.size,sl s.st.cg (aQ s.st.cs),fi s.st.len,sl s.st.xg (aH s.st.xs)]
def bg(l:List aT):List (List FC):=l.map aT.row
@[simp] theorem nY (l:List aT):(bg l).length=l.length:=by simp [bg]
theorem dH(l:List aT):Grid 7 (bg l):=Grid.map fun _=>rfl
theorem gG{l:List aT}{j:Nat}(hj:j<l.length):(bg l)[j]?=some l[j].row:=by simp [bg,hj]
def Ej(x y:aT):Int:=orI [oC x.meet y.meet,oC x.room y.room]
def lQ(n:Nat)(s:aT):Bool:=decide (1≤s.meet)&&aY s.room 0 ((n:Int)-1)&&aY s.kV 0 63&&aY s.size 1 512&&kG s.st
def jm(n:Nat):Option aT→List aT→Bool
 | _,[]=>true
 | prev,s::r=>lQ n s&&(prev.all fun m=>decide (Ej m s<0))&&jm n (some s) r
theorem Gg{n:Nat}{p:Option aT}{l:List aT}{j:Nat}(hj:j<l.length):jm n p (l.drop j)=(lQ n l[j]&&(p.all fun m=>decide (Ej m l[j]<0))&&jm n (some l[j]) (l.drop (j+1))):=by
 rw [List.drop_eq_getElem_cons hj];rfl
def yw(rs:List bH)(l:List aT):Bool:=decide (kF rs=0)&&decide ((l.length:Int)≤4096)&&jm rs.length none l
theorem auf(x y:aT):Kf tab.get RI [.a (x.row.map .f),.a (y.row.map .f)] (vi (Ej x y)):=by
 refine eG aTu rfl fun H Q hQ=>?_
 have ho:=aFL .fs [oC x.meet y.meet,oC x.room y.room] (by simp)
 simp [ints,sl,Tg.fc]at ho
 refine ak (aj (.inl rfl) ?_)
 simp [aT.row]
 refine ak (aj (.inl rfl) ?_)
 simp [uH,deep,oV,Jy,ho]
 refine aO (hQ _ _ ?_)
 simp [Ej]
theorem aud(x y:aT):Km.Pure tab.get RI [.a (x.row.map .f),.a (y.row.map .f)]=Eq (vi (Ej x y)):=(auf x y).eq
theorem Xb(g:Tg)(rs:List bH)(s:aT)(hr:rs.length≤6)(h:s.st.Sm):Kf tab.get RF [.c (.f (sl g (rows rs))),.a (s.row.map .f)] (vb (lQ rs.length s)):=by
 refine eG aTl rfl fun H Q hQ=>?_
 have hv:=wM s.st h
 simp [dD.row]at hv
 refine ak (aj (.inl rfl) ?_)
 simp [aT.row]
 refine ak (aj (.inl rfl) ?_)
 simp
 by_cases k1:1≤s.meet
 case neg=>
  simp [k1]
  refine aO (hQ _ _ ?_)
  simp [lQ,k1]
 simp [k1,wrap64 (n:=(rs.length:Int)-1) (by omega) (by omega)]
 cases k2:aY s.room 0 ((rs.length:Int)-1)
 ·simp
  refine aO (hQ _ _ ?_)
  simp [lQ,k2]
 simp
 cases k3:aY s.kV 0 63
 ·simp
  refine aO (hQ _ _ ?_)
  simp [lQ,k3]
 simp
 cases k4:aY s.size 1 512
 ·simp
  refine aO (hQ _ _ ?_)
  simp [lQ,k4]
 simp [hv]
 refine aO (hQ _ _ ?_)
 simp [lQ,k1,k2,k3,k4]
theorem Xa(g:Tg)(rs:List bH)(s:aT)(hr:rs.length≤6)(h:s.st.Sm):Km.Pure tab.get RF [.c (.f (sl g (rows rs))),.a (s.row.map .f)]=Eq (vb (lQ rs.length s)):=(Xb g rs s hr h).eq
theorem as4(g g':Tg)(rs:List bH)(l:List aT)(hr:rs.length≤6)(ho:∀ r ∈ rs,l7 r)(hl:l.length≤9223372036854775807)(h:∀ s ∈ l,s.st.Sm) :
  Kf tab.get RH [.c (.f (sl g (rows rs))),.c (.f (sl g' (bg l)))] (vb (yw rs l)):=by
 refine eG aTs rfl fun H Q hQ=>?_
 have bad:yw rs l=false→∀(t:T) (J:Heap) k,WP tab.get RH none (.code (.region [⟨D 4,.mov (.k (.c (.f (.bool false)))),none⟩] [])::.code .ret::k) ⟨t,[],H++J⟩ Q:=by
  intro hf t J k
  refine aj (.inl rfl) ?_
  simp
  refine aO (hQ _ _ ?_)
  simp [hf]
 refine ak (aj (.inl rfl) ?_)
 simp
 refine ak ?_
 refine ak (aj (.inl rfl) ?_)
 simp [Iz g rs hr ho]
 by_cases k1:kF rs=0
 case neg=>
  simp [k1]
  have b:=fun t k=>bad (by simp [yw,k1]) t [] k
  simp only [List.append_nil]at b
  refine aC (by simp) ?_
  exact ak (b _ _)
 simp [k1]
 by_cases k2:(4096:Int)<l.length
 ·simp [k2]
  have b:=fun t k=>bad (by simp [yw,show¬ (l.length:Int)≤4096 by omega]) t [] k
  simp only [List.append_nil]at b
  refine aC (by simp) ?_
  exact ak (b _ _)
 simp [k2]
 have hS:yw rs l=jm rs.length none l:=by simp [yw,k1,show(l.length:Int)≤4096 by omega]
 rw [hS]at bad
 refine aA (by simp) ?_
 refine aK ?_
 refine ak ?_
 refine ak (aj (.inl rfl) ?_)
 simp
 refine fA l.length (fun j t H'=>t.g 0=.c (.f (sl g (rows rs)))∧t.g 1=.c (.f (sl g' (bg l)))∧t.g 15=.c (.f (sl g' (bg l)))∧(∃ J,H'=H++J) ∧
  ∃ prev,(∀ m,j=m+1→∀ h:m<l.length,prev=some (l[m]'h))∧(j=0→prev=none)∧jm rs.length none l=jm rs.length prev (l.drop j)) hl (by decide) (by decide) (by simp) (by simp)
   ⟨by simp,by simp,by simp,⟨[],by simp⟩,none,by omega,by simp,by simp⟩ ?_ ?_
 ·rintro j t _ hj ⟨g0,g1,g15,⟨J,rfl⟩,prev,l1,l2,hB⟩ ha hb next
  rw [Gg hj]at hB
  have hld:=dI (H:=H++J) (dH l) (gG hj)
  have hst:=Xa g rs l[j] hr (h _ (List.getElem_mem hj))
  simp [aT.row]at hst
  refine aP ?_
  refine ak (aj (.inl rfl) ?_)
  simp [ha,g15,bQ,hj,hld,aT.row]
  refine ak (aj (.inl rfl) ?_)
  simp [g0,hst]
  cases k4:lQ rs.length l[j]
  ·simp
   exact aC (by simp) (ak (bad (by simp [hB,k4]) _ _ _))
  simp
  have go:(prev.all fun m=>decide (Ej m l[j]<0))=true→∃ prev',(∀ m,j+1=m+1→∀ h:m<l.length,prev'=some (l[m]'h))∧(j+1=0→prev'=none)∧jm rs.length none l=jm rs.length prev' (l.drop (j+1)):=by
   intro hp
   rw [k4,hp,Bool.true_and,Bool.true_and]at hB
   refine⟨some l[j],fun m hm h=>?_,by omega,hB⟩
   have:m=j:=by omega
   subst this;rfl
  cases j with
  | zero=>
   simp
   refine aA (by simp) ?_
   refine aK (aN (next _ _ ?_ (by simp [ha]) (by simp [hb])))
   exact⟨by simp [g0],by simp [g1],by simp [g15],⟨_,rfl⟩,go (by rw [l2 rfl];rfl)⟩
  | succ m=>
   have hm:m<l.length:=by omega
   have hl1:=l1 m rfl hm
   have e1:((m+1:Nat):Int)-1=m:=by omega
   have hrow:=fun H:Heap=>dI (H:=H) (dH l) (gG hm)
   have hord:=aud l[m] l[m+1]
   simp [aT.row]at hord hrow
   simp [show 0<m+1 by omega,g1,wrap64 (n:=(m:Int)) (by omega) (by omega),bQ,hm,hrow,hord]
   by_cases k7:0≤Ej l[m] l[m+1]
   ·simp [k7]
    have b:=bad (by simp [hB,hl1,show¬ Ej l[m] l[m+1]<0 by omega])
    refine aC (by simp) ?_
    exact ak (b _ _ _)
   ·simp [k7]
    refine aA (by simp) ?_
    refine aK (aN (next _ _ ?_ (by simp [ha]) (by simp [hb])))
    exact⟨by simp [g0],by simp [g1],by simp [g15],⟨_,rfl⟩,go (by rw [hl1];simp;omega)⟩
 ·rintro t _ ⟨g0,g1,g15,⟨J,rfl⟩,prev,l1,l2,hB⟩ ha hb
  have hX:jm rs.length none l=true:=by rw [hB];simp [jm]
  refine ak (aj (.inl rfl) ?_)
  simp
  refine aO (hQ _ _ ?_)
  simp [hS,hX]
end Go.Proofs.YtijkmcapnnlpjaaGreat
end
section
namespace Go.Proofs.YtijkmcapnnlpjaaGreat
open Go Km
theorem MK(g:Tg)(l:List Int)(limit:Int)(hl:l.length≤9223372036854775807):Kf tab.get FQ [.c (.f (sl g (ints l))),vi limit] (vb (dF limit (-1) l)):=by
 refine eG aTG rfl fun H Q hQ=>?_
 have bad:dF limit (-1) l=false→∀(t:T) k,WP tab.get FQ none (.code (.region [⟨D 4,.mov (.k (.c (.f (.bool false)))),none⟩] [])::.code .ret::k) ⟨t,[],H⟩ Q:=by
  intro hf t k
  refine aj (.inl rfl) ?_
  simp
  refine aO (hQ _ _ ?_)
  simp [hf]
 refine ak (aj (.inl rfl) ?_)
 simp
 refine ak ?_
 refine ak (aj (.inl rfl) ?_)
 simp
 refine lF l.length (fun j t H'=>t.g 0=.c (.f (sl g (ints l)))∧t.g 1=vi limit∧H=H'∧∃ last,-1≤last∧(∀ m,j=m+1→∀ h:m<l.length,last=(l[m]'h))∧(j=0→last = -1)∧dF limit (-1) l=dF limit last (l.drop j)) hl rfl (by simp)
  ⟨by simp,by simp,rfl,-1,by omega,by omega,by simp,by simp⟩ ?_ ?_ ?_
 ·rintro j t _ L hj ⟨g0,g1,rfl,h⟩ ha hL
  simp [ha,g0]
  exact hL _ ⟨by simp [g0],by simp [g1],rfl,h⟩ (by simp [ha]) (by simp)
 ·rintro j t _ hj ⟨g0,g1,rfl,last,l0,l1,l2,hB⟩ ha next
  rw [uX hj]at hB
  refine aP ?_
  refine ak (aj (.inl rfl) ?_)
  simp [g0,g1,ha,bQ,hj,ou]
  by_cases k1:l[j]<0
  ·simp [k1]
   refine aC (by simp) (ak (bad ?_ _ _))
   rw [hB,decide_eq_false (show¬ last<l[j] by omega)];rfl
  simp [k1,g0,g1,ha,bQ,hj,ou]
  by_cases k2:limit≤l[j]
  ·simp [k2]
   refine aC (by simp) (ak (bad ?_ _ _))
   rw [hB,decide_eq_false (show¬ l[j]<limit by omega)];simp
  simp [k2,ha]
  have go:last<l[j]→∃ last',-1≤last'∧(∀ m,j+1=m+1→∀ h:m<l.length,last'=(l[m]'h))∧(j+1=0→last' = -1)∧dF limit (-1) l=dF limit last' (l.drop (j+1)):=by
   intro h
   rw [decide_eq_true h,decide_eq_true (show l[j]<limit by omega),Bool.true_and,Bool.true_and]at hB
   refine⟨l[j],by omega,fun m hm h=>?_,by omega,hB⟩
   have:m=j:=by omega
   subst this;rfl
  cases j with
  | zero=>
   simp
   refine aA (by simp) ?_
   refine aK (aN (next _ _ ?_ (by simp [ha])))
   exact⟨by simp [g0],by simp [g1],rfl,go (by have:=l2 rfl;omega)⟩
  | succ m=>
   have hm:m<l.length:=by omega
   have hl1:=l1 m rfl hm
   have e1:((m+1:Nat):Int)-1=m:=by omega
   have hidx:∀ H:Heap,bC H 1 none (.c (.f (sl g (ints l)))) (vi ((m:Int)+1))=some (.c (.f (.fp (ints l).flatten (m+1)))):=fun H=>by
    have:=bQ (H:=H) (g:=g) (rows:=ints l) (sz:=1) (k:=.i64) (i:=(m:Int)+1) (by omega) (by simp;omega)
    rwa [show((m:Int)+1).toNat=m+1 by omega,Nat.mul_one]at this
   simp [show 0<m+1 by omega,hidx,g0,ha,e1,wrap64 (n:=(m:Int)) (by omega) (by omega),bQ,hj,hm,ou]
   by_cases k3:l[m+1]≤l[m]
   ·simp [k3]
    refine aC (by simp) (ak (bad ?_ _ _))
    rw [hB,decide_eq_false (show¬ last<l[m+1] by omega)];rfl
   ·simp [k3]
    refine aA (by simp) ?_
    refine aK (aN (next _ _ ?_ (by simp [ha])))
    exact⟨by simp [g0],by simp [g1],rfl,go (by omega)⟩
 ·rintro t _ ⟨g0,g1,rfl,last,l0,l1,l2,hB⟩ ha
  refine ak (aj (.inl rfl) ?_)
  simp
  refine aO (hQ _ _ ?_)
  simp [hB,dF]
theorem zY(g:Tg)(l:List Int)(limit:Int)(hl:l.length≤9223372036854775807) :
  Km.Pure tab.get FQ [.c (.f (sl g (ints l))),vi limit]=Eq (vb (dF limit (-1) l)):=(MK g l limit hl).eq
theorem apX(p:dZ)(h:p.Sm):Kf tab.get KT [.a (p.row.map .f)] (vb (jf p)):=by
 have h:p.head.length+p.cyc.length≤9223372036854775807:=h
 refine eG aTH rfl fun H Q hQ=>?_
 have bad:jf p=false→∀(t:T) (J:Heap) k,WP tab.get KT none (.code (.region [⟨D 2,.mov (.k (.c (.f (.bool false)))),none⟩] [])::.code .ret::k) ⟨t,[],H++J⟩ Q:=by
  intro hf t J k
  refine aj (.inl rfl) ?_
  simp
  refine aO (hQ _ _ ?_)
  simp [hf]
 refine ak (aj (.inl rfl) ?_)
 simp [dZ.row]
 refine ak ?_
 refine ak (aj (.inl rfl) ?_)
 simp
 by_cases k1:p.fr<0
 ·simp [k1]
  exact aC (by simp) (ak (bad (by simp [jf,show¬ 0≤p.fr by omega]) _ _ _))
 simp [k1]
 by_cases k2:1099511627776<p.fr
 ·simp [k2]
  exact aC (by simp) (ak (bad (by simp [jf,show¬ p.fr≤1099511627776 by omega]) _ _ _))
 simp [k2]
 by_cases k3:p.per<1
 ·simp [k3]
  exact aC (by simp) (ak (bad (by simp [jf,show¬ 1≤p.per by omega]) _ _ _))
 simp [k3]
 by_cases k4:1099511627776<p.per
 ·simp [k4]
  exact aC (by simp) (ak (bad (by simp [jf,show¬ p.per≤1099511627776 by omega]) _ _ _))
 simp [k4]
 refine aA (by simp) (aK ?_)
 refine ak ?_
 refine ak (aj (.inl rfl) ?_)
 simp
 by_cases k5:(1048576:Int)<p.head.length
 ·simp [k5]
  exact aC (by simp) (ak (bad (by simp [jf,show¬ (p.head.length:Int)+p.cyc.length≤1048576 by omega]) _ _ _))
 simp [k5]
 by_cases k6:(1048576:Int)<p.cyc.length
 ·simp [k6]
  exact aC (by simp) (ak (bad (by simp [jf,show¬ (p.head.length:Int)+p.cyc.length≤1048576 by omega]) _ _ _))
 simp [k6,wrap64 (n:=(p.head.length:Int)+p.cyc.length) (by omega) (by omega)]
 by_cases k7:(1048576:Int)<p.head.length+p.cyc.length
 ·simp [k7]
  exact aC (by simp) (ak (bad (by simp [jf,show¬ (p.head.length:Int)+p.cyc.length≤1048576 by omega]) _ _ _))
 simp [k7]
 refine aA (by simp) (aK ?_)
 refine ak (aj (.inl rfl) ?_)
 simp [zY p.hg p.head p.fr (by omega)]
 have hp:jf p=(dF p.fr (-1) p.head&&dF p.per (-1) p.cyc):=by
  simp [jf,show 0≤p.fr by omega,show p.fr≤1099511627776 by omega,show 1≤p.per by omega,show p.per≤1099511627776 by omega,show(p.head.length:Int)+p.cyc.length≤1048576 by omega]
 cases k8:dF p.fr (-1) p.head
 ·simp
  refine aO (hQ _ _ ?_)
  simp [hp,k8]
 simp [zY p.cg p.cyc p.per (by omega)]
 refine aO (hQ _ _ ?_)
 simp [hp,k8]
theorem apW(p:dZ)(h:p.Sm):Km.Pure tab.get KT [.a (p.row.map .f)]=Eq (vb (jf p)):=(apX p h).eq
theorem Zg(p:dZ)(h:p.Sm):Km.Pure tab.get aae [.a (p.row.map .f)]=Eq (vb (jf p&&decide ((p.head.length:Int)+p.cyc.length=0))):=by
 have h':p.head.length+p.cyc.length≤9223372036854775807:=h
 refine Kf.eq (eG aTI rfl fun H Q hQ=>?_)
 have hv:=apW p h
 simp [dZ.row]at hv
 refine ak (aj (.inl rfl) ?_)
 simp [dZ.row]
 refine ak (aj (.inl rfl) ?_)
 simp [hv]
 cases k:jf p
 ·simp
  refine aO (hQ _ _ ?_)
  simp [k]
 simp [wrap64 (n:=(p.head.length:Int)+p.cyc.length) (by omega) (by omega)]
 refine aO (hQ _ _ ?_)
 simp [k]
end Go.Proofs.YtijkmcapnnlpjaaGreat
end
section
namespace Go.Proofs.YtijkmcapnnlpjaaGreat
open Go Km
def BO(x y:aS):Bool:=if x.fr=y.fr then(if x.day=y.day then decide (x.to<y.to)else decide (x.day<y.day))else decide (x.fr<y.fr)
theorem as5(x y:aS):Km.Pure tab.get aad [.a (x.row.map .f),.a (y.row.map .f)]=Eq (vb (BO x y)):=by
 refine Kf.eq (eG aTE rfl fun H Q hQ=>?_)
 refine ak (aj (.inl rfl) ?_)
 simp [aS.row]
 refine ak ?_
 refine ak (aj (.inl rfl) ?_)
 simp
 by_cases k1:x.fr=y.fr
 ·refine aA (by simp [k1]) (aK ?_)
  refine ak ?_
  refine ak (aj (.inl rfl) ?_)
  simp
  by_cases k2:x.day=y.day
  ·refine aA (by simp [k2]) (aK ?_)
   refine ak (aj (.inl rfl) ?_)
   simp
   refine aO (hQ _ _ ?_)
   simp [BO,k1,k2]
  ·refine aC (by simp [k2]) ?_
   refine ak (aj (.inl rfl) ?_)
   simp
   refine aO (hQ _ _ ?_)
   simp [BO,k1,k2]
 ·refine aC (by simp [k1]) ?_
  refine ak (aj (.inl rfl) ?_)
  simp
  refine aO (hQ _ _ ?_)
  simp [BO,k1]
def aS.lt(x y:aS):Prop:=x.fr<y.fr∨x.fr=y.fr∧(x.day<y.day∨x.day=y.day∧x.to<y.to)
theorem EY(x y:aS):BO x y=true↔x.lt y:=by
 unfold BO aS.lt
 by_cases k1:x.fr=y.fr
 ·by_cases k2:x.day=y.day
  ·simp [k1,k2]
  ·simp [k1,k2]
 ·simp [k1]
theorem vk(x y:aS):uj x y<0↔x.lt y:=by
 unfold uj aS.lt
 simp only [orI,oC]
 repeat' split
 all_goals omega
theorem aS.lt_trans{x y z:aS}(h:x.lt y)(h':y.lt z):x.lt z:=by unfold aS.lt at *;omega
theorem aS.YD{x y:aS}(h:¬ x.lt y)(h':x≠y):y.lt x:=by
 obtain⟨a,b,c⟩:=x
 obtain⟨a',b',c'⟩:=y
 unfold aS.lt at *
 simp only [ne_eq,aS.mk.injEq]at h'
 simp only at h ⊢
 omega
theorem Ul(g:Tg)(l:List aS)(x:aS)(hl:l.length≤10)(hs:l.Pairwise aS.lt):∃ g' l',l'.length≤l.length+1∧(l'.Pairwise aS.lt∧∀ y,y ∈ l'↔y=x∨y ∈ l)∧Km.Pure tab.get KR [.c (.f (sl g (aH l))),.a (x.row.map .f)]=Eq (.c (.f (sl g' (aH l')))):=by
 obtain⟨r,⟨g',l',hl',hS,rfl⟩,h⟩:∃ r,(∃ g' l',l'.length≤l.length+1∧(l'.Pairwise aS.lt∧∀ y,y ∈ l'↔y=x∨y ∈ l)∧r=.c (.f (sl g' (aH l'))))∧Km.Pure tab.get KR [.c (.f (sl g (aH l))),.a (x.row.map .f)] r:=by
  refine lD aTF rfl fun Q hQ=>?_
  refine ak (aj (.inl rfl) ?_)
  simp [aS.row]
  refine ak (aj (.inl rfl) ?_)
  simp
  refine ak (aj (.inl rfl) ?_)
  simp
  refine ak ?_
  refine ak (aj (.inl rfl) ?_)
  simp
  have app:∀(H:Heap) (v:V) (o:List aS) (y:aS),o.length≤30→LB true H 3 v .es (aH o)→∃ v' H',dh (H++[.box [.f (fi y.day),.f (fi y.fr),.f (fi y.to)] 0]) 3 24 v (.c (.sl H.length 0 1 1 0 3))=some (v',H')∧LB true H' 3 v' .es (aH (o++[y]))∧(∀(b:Nat) cs fl,H[b]?=some (.box cs fl)→H'[b]?=some (.box cs fl)):=by
   intro H v o y ho hB
   obtain⟨v',H',e1,e2,-,e4⟩:=LB.app (H:=H++[.box [.f (fi y.day),.f (fi y.fr),.f (fi y.to)] 0]) (row:=y.row) (bytes:=24) (y:=.c (.sl H.length 0 1 1 0 3)) (hB.push _) (bI _) rfl (by decide)
    (lq (fl:=0) (cs:=y.row.map .f) (by simp [aS.row]) rfl) (BK _) (by simp [bP];omega)
   refine⟨v',H',e1,by simpa [aH]using e2,fun b cs fl hb=>e4 _ _ _ ?_⟩
   rw [List.getElem?_append_left (aJ hb)];exact hb
  refine lF l.length (fun j t H=>t.g 0=.c (.f (sl g (aH l)))∧t.g 3=.c (.ptr 0 0 0)∧H[0]?=some (.box [.f (fi x.day),.f (fi x.fr),.f (fi x.to)] 0)∧∃ d o,t.g 6=vb d∧LB true H 3 (t.g 5) .es (aH o)∧o.length≤j+1∧(d=false→o=l.take j∧∀ y ∈ o,y.lt x)∧(d=true→(o++l.drop j).Pairwise aS.lt∧∀ y,y ∈ o↔y=x∨y ∈ l.take j)) (by omega) rfl (by simp)
   ⟨by simp,by simp,by simp,false,[],by simp,by simpa [aH]using LB.es0,by simp,by simp,by simp⟩ ?_ ?_ ?_
  ·rintro j t H L hj ⟨g0,g3,h3,d,o,g6,hB,ho,hd,hd'⟩ ha hL
   simp [ha,g0]
   exact hL _ ⟨by simp [g0],by simp [g3],h3,d,o,by simp [g6],by simpa using hB,ho,hd,hd'⟩ (by simp [ha]) (by simp)
  ·rintro j t H hj ⟨g0,g3,h3,d,o,g6,hB,ho,hd,hd'⟩ ha next
   have hrow:=fun H:Heap=>dI (H:=H) (bI l) (jg hj)
   have hless:=as5 x l[j]
   simp [aS.row]at hrow hless
   refine aP ?_
   refine ak ?_
   refine ak (aj (.inl rfl) ?_)
   simp [g0,g3,ha,bQ,hj,hrow,h3]
   have tail:∀(t:T) (H:Heap) (o:List aS) (d:Bool),t.g 0=.c (.f (sl g (aH l)))→t.g 3=.c (.ptr 0 0 0)→t.g 7=vi j→t.g 6=vb d→H[0]?=some (.box [.f (fi x.day),.f (fi x.fr),.f (fi x.to)] 0)→LB true H 3 (t.g 5) .es (aH o) →
     o.length≤j+1→(d=false→o=l.take j∧(∀ y ∈ o,y.lt x)∧l[j].lt x)→(d=true→(o++l.drop j).Pairwise aS.lt∧∀ y,y ∈ o↔y=x∨y ∈ l.take j) →
     WP tab.get KR none [.code LJ,.inBlock 1,.code (E5 7 13 14),.inLoop (su 0 7 12 13 14 [⟨D 9,.mov (R 7),none⟩,⟨D 10,.mov (R 0),none⟩,⟨D 11,.len (R 10),none⟩,⟨D 12,.bin .lss (R 9) (R 11),none⟩] LK),.inBlock 0,.code LG] ⟨t,[],H⟩ Q:=by
    intro t H o d g0 g3 g7 g6 h3 hB ho hd hd'
    have htk:l.take (j+1)=l.take j++[l[j]]:=by rw [List.take_add_one,List.getElem?_eq_getElem hj];rfl
    have hdr:l.drop j=l[j]::l.drop (j+1):=List.drop_eq_getElem_cons hj
    have hlen:(l.take j).length=j:=by simp;omega
    have ho':(o++[l[j]]).length≤j+1+1:=by simp;omega
    obtain⟨v',H',e1,e2,e4⟩:=app H (t.g 5) o l[j] (by omega) hB
    refine aj (.inl rfl) ?_
    simp [g0,g7,bQ,hj,hrow,e1]
    refine aN (next _ _ ?_ (by simp [g7]))
    exact⟨by simp [g0],by simp [g3],e4 _ _ _ h3,d,o++[l[j]],by simp [g6],by simpa using e2,ho',fun h=>by
     obtain⟨a1,a2,a3⟩:=hd h
     subst a1
     refine⟨htk.symm,fun y hy=>?_⟩
     rcases List.mem_append.1 hy with hy | hy
     ·exact a2 y hy
     ·obtain rfl:=List.mem_singleton.1 hy;exact a3,fun h=>by
     obtain⟨a1,a2⟩:=hd' h
     rw [hdr]at a1
     refine⟨by simpa using a1,fun y=>?_⟩
     rw [htk,List.mem_append,List.mem_append,a2,or_assoc]⟩
   cases hc:(l[j].day == x.day&&(l[j].fr == x.fr&&l[j].to == x.to))
   ·refine aA (by simp) (aK ?_)
    refine ak ?_
    refine ak (aj (.inl rfl) ?_)
    simp [g6]
    cases d
    ·simp [g3,h3,g0,ha,bQ,hj,hrow,hless]
     cases hlx:BO x l[j]
     ·refine aA (by simp) (aK ?_)
      exact tail _ _ o false (by simp [g0]) (by simp [g3]) (by simp [ha]) (by simp [g6]) h3 (by simpa using hB) (by omega) (fun _=>by
       obtain⟨a1,a2⟩:=hd rfl
       refine⟨a1,a2,aS.YD (x:=x) ?_ ?_⟩
       ·rw [←EY,hlx];simp
       ·rintro rfl;simp at hc) (by simp)
     ·refine aC (by simp) ?_
      obtain⟨v',H',e1,e2,e4⟩:=app H (t.g 5) o x (by omega) hB
      obtain⟨a1,a2⟩:=hd rfl
      have hlt:=(EY _ _).1 hlx
      have hol:o.length≤j:=by rw [a1];simp;omega
      refine ak (aj (.inl rfl) ?_)
      simp [g3,h3,e1]
      refine aj (.inl rfl) ?_
      simp
      refine tail _ _ (o++[x]) true (by simp [g0]) (by simp [g3]) (by simp [ha]) (by simp) (e4 _ _ _ h3) (by simpa using e2) (by simp;omega) (by simp) fun _=>⟨?_,fun y=>?_⟩
      ·have hsj:(l.take j++l.drop j).Pairwise aS.lt:=by rw [List.take_append_drop];exact hs
       rw [List.pairwise_append]at hsj
       obtain⟨b1,b2,b3⟩:=hsj
       rw [List.append_assoc,List.pairwise_append,a1]
       refine⟨b1,?_,?_⟩
       ·rw [List.singleton_append,List.pairwise_cons]
        refine⟨fun y hy=>?_,b2⟩
        rw [List.drop_eq_getElem_cons hj]at hy b2
        rcases List.mem_cons.1 hy with rfl | hy
        ·exact hlt
        ·exact aS.lt_trans hlt ((List.pairwise_cons.1 b2).1 y hy)
       ·intro y hy z hz
        rcases List.mem_append.1 hz with hz | hz
        ·obtain rfl:=List.mem_singleton.1 hz
         exact a2 y (a1▸hy)
        ·exact b3 y hy z hz
      ·rw [List.mem_append,a1,List.mem_singleton,or_comm]
    ·simp
     refine aA (by simp) (aK ?_)
     exact tail _ _ o true (by simp [g0]) (by simp [g3]) (by simp [ha]) (by simp [g6]) h3 (by simpa using hB) ho (by simp) fun _=>hd' rfl
   ·refine aC (by simp) ?_
    refine ak (aj (.inl rfl) ?_)
    simp [g0]
    refine aO (hQ _ _ _ ⟨g,l,by omega,⟨hs,fun y=>⟨.inr,?_⟩⟩,rfl⟩ ?_)
    ·rintro(rfl | hy)
     ·have:y=l[j]:=by
       obtain⟨a,b,c⟩:=y
       simp only [Bool.and_eq_true,beq_iff_eq]at hc
       cases hlj:l[j]with
       | mk a' b' c'=>
        rw [hlj]at hc
        simp at hc
        obtain⟨rfl,rfl,rfl⟩:=hc
        rfl
      rw [this];exact List.getElem_mem hj
     ·exact hy
    simp
  ·rintro t H ⟨g0,g3,h3,d,o,g6,hB,ho,hd,hd'⟩ ha
   refine ak ?_
   refine ak (aj (.inl rfl) ?_)
   simp [g6]
   cases d
   ·refine aC (by simp) ?_
    obtain⟨v',H',e1,e2,e4⟩:=app H (t.g 5) o x (by omega) hB
    refine aj (.inl rfl) ?_
    simp [g3,h3,e1]
    refine ak (aj (.inl rfl) ?_)
    simp
    obtain⟨cv,hcv,_⟩:=e2.len
    have:=e2.fzV (bI _)
    obtain⟨a1,a2⟩:=hd rfl
    rw [List.take_length]at a1
    subst a1
    refine aO (hQ _ _ _ ⟨.es,o++[x],by simp,⟨?_,fun y=>by rw [List.mem_append,List.mem_singleton,or_comm]⟩,rfl⟩ ?_)
    ·rw [List.pairwise_append]
     exact⟨hs,List.pairwise_singleton _ _,fun y hy z hz=>by obtain rfl:=List.mem_singleton.1 hz;exact a2 y hy⟩
    rw [hcv]at this
    simp [hcv]
    simpa using this
   ·refine aA (by simp) (aK ?_)
    refine ak (aj (.inl rfl) ?_)
    simp
    obtain⟨cv,hcv,_⟩:=hB.len
    have:=hB.fzV (bI _)
    obtain⟨a1,a2⟩:=hd' rfl
    rw [List.take_length]at a2
    rw [List.drop_length,List.append_nil]at a1
    refine aO (hQ _ _ _ ⟨.es,o,ho,⟨a1,a2⟩,rfl⟩ ?_)
    rw [hcv]at this
    simp [hcv]
    simpa using this
 exact⟨g',l',hl',hS,Km.Pure.eq h⟩
end Go.Proofs.YtijkmcapnnlpjaaGreat
end
section
namespace Go.Proofs.YtijkmcapnnlpjaaGreat
open Go Km
structure sU where
 (m r t z f p c mi le:Int)
 eg:Tg
 ex:List Int
def iF(l:List Int):List (List FC):=l.map fun n=>[.int .u8 n]
@[simp] theorem aui (l:List Int):(iF l).length=l.length:=by simp [iF]
theorem Eo(l:List Int):Grid 1 (iF l):=Grid.map fun _=>rfl
theorem as9{j:Nat}{l:List Int}(hj:j<l.length){H:Heap}:ldV H none (.c (.f (.fp (iF l).flatten j)))=some (.c (.f (.int .u8 l[j]))):=by
 have:=zq (H:=H) (rows:=iF l) (j:=j) (sz:=1) (row:=[.int .u8 l[j]]) (x:=.int .u8 l[j]) (Eo l) (by simp [iF,hj]) rfl
 simpa using this
def B8(n:Int):Prop:=0≤n∧n≤255
def sU.row(x:sU):List FC:=[.int .u8 x.m,.int .u8 x.r,.int .u8 x.t,.int .u8 x.z,.int .u8 x.f,.int .u8 x.p,.int .u8 x.c,.int .u8 x.mi,.int .u8 x.le,sl x.eg (iF x.ex)]
def sU.OK(x:sU):Prop:=B8 x.m∧B8 x.r∧B8 x.t∧B8 x.z∧B8 x.f∧B8 x.p∧B8 x.c∧B8 x.mi∧B8 x.le∧x.ex.length≤9223372036854775807∧∀ n ∈ x.ex,B8 n
def iW(f p:Int)(l:List Int):dZ:=⟨.nil,[],f,p,.nil,l⟩
def Dl(p:Int)(l:List Int):Prop:=l.Pairwise (· < ·)∧(∀ c ∈ l,0≤c∧c<p)∧l.length≤7
def aUg(cs:List eP):Prop:=cs=[]∨∃ f p l mi,cs=[⟨.fs,[⟨.fs,[iW f p l]⟩],mi⟩]∧0≤f∧f≤8∧1≤p∧p≤7∧l≠[]∧Dl p l∧60≤mi∧mi≤1245
def OZ(len:Int)(x:aS):Prop:=x.to=x.fr+len∧0≤x.day∧x.day≤13∧90≤x.fr∧x.fr≤20000
def pF(s:dD):Prop:=aUg s.cs∧15≤s.len∧s.len≤180∧s.xs.length≤3∧s.xs.Pairwise aS.lt∧∀ x ∈ s.xs,OZ s.len x
def aT.Fine(s:aT):Prop:=1≤s.meet∧s.meet≤6∧0≤s.room∧s.room≤2∧0≤s.kV∧s.kV≤2∧1≤s.size∧s.size≤12∧pF s.st
theorem eight(i:Nat)(h:i<8):∃(per:Nat) (rest:List C),[C.f (fi 7),C.f (fi 7),C.f (fi 2),C.f (fi 3),C.f (fi 4),C.f (fi 6),C.f (fi 1),C.f (fi 7)].drop i=C.f (fi per)::rest∧1≤per∧per≤7:=by
 match i,h with
 | 0,_=>exact⟨7,_,rfl,by omega,by omega⟩
 | 1,_=>exact⟨7,_,rfl,by omega,by omega⟩
 | 2,_=>exact⟨2,_,rfl,by omega,by omega⟩
 | 3,_=>exact⟨3,_,rfl,by omega,by omega⟩
 | 4,_=>exact⟨4,_,rfl,by omega,by omega⟩
 | 5,_=>exact⟨6,_,rfl,by omega,by omega⟩
 | 6,_=>exact⟨1,_,rfl,by omega,by omega⟩
 | 7,_=>exact⟨7,_,rfl,by omega,by omega⟩
def Cls(H:Heap)(X:C)(f p mi:Int)(l:List Int):Prop:=X=.f .ay∨∃ N c a0 a1 a2,5≤N∧X=.sl (N+2) 0 1 1 0 2∧H[N]?=some (.box [.f .ay,.f (fi f),.f (fi p),c] a0)∧H[N+1]?=some (.box [.sl N 0 1 1 0 4] a1) ∧
 H[N+2]?=some (.box [.sl (N+1) 0 1 1 0 1,.f (fi mi)] a2)∧LBj false H c l
theorem Cls.set{H:Heap}{X:C}{f p mi:Int}{l:List Int}(h:Cls H X f p mi l){b:Nat}{cs cs':List C}{fl fl':Nat}(hb:b<5)(hbx:H[b]?=some (.box cs fl)):Cls (H.set b (.box cs' fl')) X f p mi l:=by
 rcases h with h | ⟨N,c,a0,a1,a2,h5,e,h1,h2,h3,h4⟩
 ·exact .inl h
 ·exact .inr ⟨N,c,a0,a1,a2,h5,e,by rw [List.getElem?_set_ne (by omega)];exact h1,by rw [List.getElem?_set_ne (by omega)];exact h2,by rw [List.getElem?_set_ne (by omega)];exact h3,h4.set hbx⟩
theorem Cls.ex{H:Heap}{X:C}{f p mi:Int}{l:List Int}(h:Cls H X f p mi l)(hl:l.length≤7):∃ cg cs,exC deep H X=some (sl cg (aQ cs))∧(cs=[]∨X≠.f .ay∧cs=[⟨.fs,[⟨.fs,[iW f p l]⟩],mi⟩]):=by
 rcases h with rfl | ⟨N,c,a0,a1,a2,h5,rfl,h1,h2,h3,h4⟩
 ·exact⟨.nil,[],rfl,.inl rfl⟩
 ·refine⟨.fs,[⟨.fs,[⟨.fs,[iW f p l]⟩],mi⟩],?_,.inr ⟨by simp,rfl⟩⟩
  have:=h4.ex (n:=60)
  simp [deep,oV,h1,h2,h3,this]
  rfl
set_option maxHeartbeats 4000000 in
theorem as3(x:sU)(hx:x.OK):∃ s:aT,s.Fine∧Km.Pure tab.get Dt [.a (x.row.map .f)] (.a (s.row.map .f)):=by
 obtain⟨⟨m1,m2⟩,⟨r1,r2⟩,⟨t1,t2⟩,⟨z1,z2⟩,⟨f1,f2⟩,⟨p1,p2⟩,⟨c1,c2⟩,⟨i1,i2⟩,⟨l1,l2⟩,he,hb⟩:=hx
 obtain⟨r,⟨s,hs,rfl⟩,h⟩:∃ r,(∃ s:aT,s.Fine∧r=.a (s.row.map .f))∧Km.Pure tab.get Dt [.a (x.row.map .f)] r:=by
  refine lD aTD rfl fun Q hQ=>?_
  obtain⟨i,hi⟩:∃ i:Nat,x.p % 8=i:=⟨(x.p % 8).toNat,by omega⟩
  obtain⟨per,rest,ath,TI,aZC⟩:=eight i (by omega)
  have hix:∀(b0 b1 b2:Blk) (cs:List C) (fl:Nat),bC [b0,b1,b2,.box cs fl] 1 none (.c (.sl 3 0 8 8 0 1)) (.c (.f (.int .u8 (i:Int))))=some (.c (.ptr 3 i 0)):=by
   intro b0 b1 b2 cs fl
   simp [bC,jG]
   omega
  have hld:∀(b0 b1 b2:Blk) (fl:Nat),ldV [b0,b1,b2,.box [.f (fi 7),.f (fi 7),.f (fi 2),.f (fi 3),.f (fi 4),.f (fi 6),.f (fi 1),.f (fi 7)] fl] none (.c (.ptr 3 i 0))=some (vi per):=by
   intro b0 b1 b2 fl
   simp only [bT,List.getElem?_cons_succ,List.getElem?_cons_zero,ath]
   rfl
  have cont:∀ t:T,t.g 1=.c (.ptr 0 0 0)→t.g 2=.c (.ptr 1 0 0)→t.g 3=.c (.ptr 2 0 0)→t.g 4=.c (.ptr 4 0 0)→WP tab.get Dt none [.code SA] ⟨t,[],
    [.box [.f (.int .u8 x.m),.f (.int .u8 x.r),.f (.int .u8 x.t),.f (.int .u8 x.z),.f (.int .u8 x.f),.f (.int .u8 x.p),.f (.int .u8 x.c),.f (.int .u8 x.mi),.f (.int .u8 x.le),.f (sl x.eg (iF x.ex))] 0,
     .box [.f (fi 0),.f (fi 0),.f (fi 0),.f (fi 0),.f .ay,.f (fi 0),.f .ay] 0,
     .box [.f (fi (1+x.m % 6)),.f (fi (x.r % 3)),.f (fi (x.t % 3)),.f (fi (1+x.z % 12)),.f .ay,.f (fi 0),.f .ay] 0,
     .box [.f (fi 7),.f (fi 7),.f (fi 2),.f (fi 3),.f (fi 4),.f (fi 6),.f (fi 1),.f (fi 7)] 0,
     .box [.f .ay,.f (fi (x.f % 9)),.f (fi per),.f .ay] 0]⟩ Q:=by
   intro t g1 g2 g3 g4
   obtain⟨RAW,Y4⟩:∃ y,y=[C.f (.int .u8 x.m),.f (.int .u8 x.r),.f (.int .u8 x.t),.f (.int .u8 x.z),.f (.int .u8 x.f),.f (.int .u8 x.p),.f (.int .u8 x.c),.f (.int .u8 x.mi),.f (.int .u8 x.le),.f (sl x.eg (iF x.ex))]:=⟨_,rfl⟩
   rw [←Y4]
   have q6:RAW.drop 6=[.f (.int .u8 x.c),.f (.int .u8 x.mi),.f (.int .u8 x.le),.f (sl x.eg (iF x.ex))]:=by rw [Y4];rfl
   have q7:RAW.drop 7=[.f (.int .u8 x.mi),.f (.int .u8 x.le),.f (sl x.eg (iF x.ex))]:=by rw [Y4];rfl
   have q8:RAW.drop 8=[.f (.int .u8 x.le),.f (sl x.eg (iF x.ex))]:=by rw [Y4];rfl
   have q9:RAW.drop 9=[.f (sl x.eg (iF x.ex))]:=by rw [Y4];rfl
   have stage2:∀(t:T) (H:Heap) (X:C) (l:List Int),t.g 1=.c (.ptr 0 0 0)→t.g 2=.c (.ptr 1 0 0)→t.g 3=.c (.ptr 2 0 0)→H[0]?=some (.box RAW 0) →
     H[1]?=some (.box [.f (fi 0),.f (fi 0),.f (fi 0),.f (fi 0),.f .ay,.f (fi 0),.f .ay] 0) →
     H[2]?=some (.box [.f (fi (1+x.m % 6)),.f (fi (x.r % 3)),.f (fi (x.t % 3)),.f (fi (1+x.z % 12)),X,.f (fi (15*(1+x.le % 12))),.f .ay] 0) →
     Cls H X (x.f % 9) per (60+15*(x.mi % 80)) l→Dl per l→(X≠.f .ay→l≠[])→WP tab.get Dt none [.code Lu] ⟨t,[],H⟩ Q:=by
    intro t H X l g1 g2 g3 h0 h1 h2 hX hl hne
    obtain⟨LEN,aYH⟩:∃ y,y=15*(1+x.le % 12):=⟨_,rfl⟩
    have aZo:0≤LEN:=by omega
    have aZn:LEN≤1000:=by omega
    rw [←aYH]at h2
    have aZL:0≤x.ex.length:=Nat.zero_le _
    refine ak ?_
    refine ak (aj (.inl rfl) ?_)
    simp
    refine lF (min x.ex.length 3) (fun j t H=>t.g 1=.c (.ptr 0 0 0)∧t.g 2=.c (.ptr 1 0 0)∧t.g 3=.c (.ptr 2 0 0)∧H[0]?=some (.box RAW 0)∧H[1]?=some (.box [.f (fi 0),.f (fi 0),.f (fi 0),.f (fi 0),.f .ay,.f (fi 0),.f .ay] 0) ∧
     Cls H X (x.f % 9) per (60+15*(x.mi % 80)) l∧∃ eg xs,H[2]?=some (.box [.f (fi (1+x.m % 6)),.f (fi (x.r % 3)),.f (fi (x.t % 3)),.f (fi (1+x.z % 12)),X,.f (fi LEN),.f (sl eg (aH xs))] 0)∧xs.length≤j∧xs.Pairwise aS.lt∧∀ y ∈ xs,OZ LEN y) (by omega) rfl (by simp)
     ⟨by simp [g1],by simp [g2],by simp [g3],h0,h1,hX,.nil,[],h2,by simp,by simp,by simp⟩ ?_ ?_ ?_
    ·rintro j t H L hj ⟨g1,g2,g3,h0,h1,hX,eg,xs,h2,hxs,hso,hok⟩ ha hL
     simp [ha,g1,h0,q9]
     by_cases k1:j<x.ex.length
     ·simp [k1,ha]
      refine hL _ ⟨by simp [g1],by simp [g2],by simp [g3],h0,h1,hX,eg,xs,h2,hxs,hso,hok⟩ (by simp [ha]) ?_
      simp
      omega
     ·simp [k1]
      refine hL _ ⟨by simp [g1],by simp [g2],by simp [g3],h0,h1,hX,eg,xs,h2,hxs,hso,hok⟩ (by simp [ha]) ?_
      simp
      omega
    ·rintro j t H hj ⟨g1,g2,g3,h0,h1,hX,eg,xs,h2,hxs,hso,hok⟩ ha next
     have hj':j<x.ex.length:=by omega
     obtain⟨e1,e2⟩:=hb x.ex[j] (List.getElem_mem hj')
     have hlb:=fun H:Heap=>as9 (H:=H) hj'
     generalize x.ex[j]=e at e1 e2 hlb
     have aOj:dN .rem (.c (.f (.int .u8 e))) (.c (.f (.int .u8 14)))=some (.c (.f (.int .u8 (e % 14)))):=by simp (disch:=omega) [fC,Int.tmod_eq_emod_of_nonneg]
     have aYd:dN .quo (.c (.f (.int .u8 e))) (.c (.f (.int .u8 4)))=some (.c (.f (.int .u8 (e / 4)))):=by simp (disch:=omega) [jA,Int.tdiv_eq_ediv_of_nonneg,wrapu8]
     refine aP ?_
     refine ak (aj (.inl rfl) ?_)
     simp [g1,h0,q9,ha,bQ,hj',hlb,aOj,wrap64 (n:=e % 14) (by omega) (by omega)]
     refine ak (aj (.inl rfl) ?_)
     simp [g1,h0,q9,ha,bQ,hj',hlb,aYd,wrap64 (n:=e / 4) (by omega) (by omega),wrap64 (n:=15*(e / 4)) (by omega) (by omega),wrap64 (n:=e % 14*1440) (by omega) (by omega),wrap64 (n:=e % 14*1440+90) (by omega) (by omega),wrap64 (n:=e % 14*1440+90+15*(e / 4)) (by omega) (by omega)]
     obtain⟨eg',xs',hx',⟨aYk,hmem⟩,hins⟩:=Ul eg xs ⟨e % 14,e % 14*1440+90+15*(e / 4),e % 14*1440+90+15*(e / 4)+LEN⟩ (by omega) hso
     have hok':∀ y ∈ xs',OZ LEN y:=fun y hy=>by
      rcases(hmem y).1 hy with rfl | hy
      ·exact⟨rfl,by show 0≤e % 14;omega,by show e % 14≤13;omega,by show 90≤e % 14*1440+90+15*(e / 4);omega,by show e % 14*1440+90+15*(e / 4)≤20000;omega⟩
      ·exact hok y hy
     simp [aS.row]at hins
     refine aj (.inl rfl) ?_
     simp [g3,h2,wrap64 (n:=e % 14*1440+90+15*(e / 4)+LEN) (by omega) (by omega),hins]
     refine aN (next _ _ ?_ (by simp [ha]))
     exact⟨by simp [g1],by simp [g2],by simp [g3],by rw [List.getElem?_set_ne (by decide)];exact h0,by rw [List.getElem?_set_ne (by decide)];exact h1,hX.set (by decide) h2,eg',xs',by rw [List.getElem?_set_self (aJ h2)],by omega,aYk,hok'⟩
    ·rintro t H ⟨g1,g2,g3,h0,h1,hX,eg,xs,h2,hxs,hso,hok⟩ ha
     refine ak (aj (.inl rfl) ?_)
     simp [g2,g3,h1,h2]
     have hX':=hX.set (cs':=[.f (fi (1+x.m % 6)),.f (fi (x.r % 3)),.f (fi (x.t % 3)),.f (fi (1+x.z % 12)),X,.f (fi LEN),.f (sl eg (aH xs))]) (fl':=0) (by decide) h1
     obtain⟨cg,cs,ex1,ex2⟩:=hX'.ex hl.2.2
     refine aO (hQ _ _ _ ⟨⟨1+x.m % 6,x.r % 3,x.t % 3,1+x.z % 12,⟨cg,cs,LEN,eg,xs⟩⟩,⟨by simp;omega,by simp;omega,by simp;omega,by simp;omega,by simp;omega,by simp;omega,by simp;omega,by simp;omega,?_⟩,rfl⟩ ?_)
     ·refine⟨?_,by simp;omega,by simp;omega,by simp;omega,by simpa using hso,by simpa using hok⟩
      rcases ex2 with rfl | ⟨e,rfl⟩
      ·exact .inl rfl
      ·exact .inr ⟨_,_,_,_,rfl,by omega,by omega,by omega,by omega,hne e,hl,by omega,by omega⟩
     ·simp [g2,aJ h1,aT.row]
      simp [exV,bD,ex1]
   have stage1:∀(t:T) (H:Heap) (c:C) (l:List Int),t.g 1=.c (.ptr 0 0 0)→t.g 2=.c (.ptr 1 0 0)→t.g 3=.c (.ptr 2 0 0)→t.g 4=.c (.ptr 4 0 0)→H[0]?=some (.box RAW 0) →
     H[1]?=some (.box [.f (fi 0),.f (fi 0),.f (fi 0),.f (fi 0),.f .ay,.f (fi 0),.f .ay] 0) →
     H[2]?=some (.box [.f (fi (1+x.m % 6)),.f (fi (x.r % 3)),.f (fi (x.t % 3)),.f (fi (1+x.z % 12)),.f .ay,.f (fi 0),.f .ay] 0) →
     H[4]?=some (.box [.f .ay,.f (fi (x.f % 9)),.f (fi per),c] 0)→5≤H.length→LBj true H c l→Dl per l→WP tab.get Dt none [.code LC] ⟨t,[],H⟩ Q:=by
    intro t H c l g1 g2 g3 g4 h0 h1 h2 h4 h5 hB hl
    have aOk:dN .rem (.c (.f (.int .u8 x.le))) (.c (.f (.int .u8 12)))=some (.c (.f (.int .u8 (x.le % 12)))):=by simp (disch:=omega) [fC,Int.tmod_eq_emod_of_nonneg]
    have aOi:dN .rem (.c (.f (.int .u8 x.mi))) (.c (.f (.int .u8 80)))=some (.c (.f (.int .u8 (x.mi % 80)))):=by simp (disch:=omega) [fC,Int.tmod_eq_emod_of_nonneg]
    refine ak (aj (.inl rfl) ?_)
    simp [g1,g3,h0,h2,q8,aOk,wrap64 (n:=x.le % 12) (by omega) (by omega),wrap64 (n:=1+x.le % 12) (by omega) (by omega),wrap64 (n:=15*(1+x.le % 12)) (by omega) (by omega)]
    obtain⟨H1,hH1⟩:∃ H1,H1=H.set 2 (.box [.f (fi (1+x.m % 6)),.f (fi (x.r % 3)),.f (fi (x.t % 3)),.f (fi (1+x.z % 12)),.f .ay,.f (fi (15*(1+x.le % 12))),.f .ay] 0):=⟨_,rfl⟩
    rw [←hH1]
    have a0:H1[0]?=some (.box RAW 0):=by rw [hH1,List.getElem?_set_ne (by decide)];exact h0
    have a1:H1[1]?=some (.box [.f (fi 0),.f (fi 0),.f (fi 0),.f (fi 0),.f .ay,.f (fi 0),.f .ay] 0):=by rw [hH1,List.getElem?_set_ne (by decide)];exact h1
    have a4:H1[4]?=some (.box [.f .ay,.f (fi (x.f % 9)),.f (fi per),c] 0):=by rw [hH1,List.getElem?_set_ne (by decide)];exact h4
    have a2:H1[2]?=some (.box [.f (fi (1+x.m % 6)),.f (fi (x.r % 3)),.f (fi (x.t % 3)),.f (fi (1+x.z % 12)),.f .ay,.f (fi (15*(1+x.le % 12))),.f .ay] 0):=by rw [hH1,List.getElem?_set_self (aJ h2)]
    have aB:LBj true H1 c l:=by rw [hH1];exact hB.set h2
    have aL:5≤H1.length:=by rw [hH1,List.length_set];exact h5
    clear hH1
    refine ak (aj (.inl rfl) ?_)
    simp [g1,a0,q7,aOi,wrap64 (n:=x.mi % 80) (by omega) (by omega),wrap64 (n:=15*(x.mi % 80)) (by omega) (by omega),wrap64 (n:=60+15*(x.mi % 80)) (by omega) (by omega)]
    refine ak (aj (.inl rfl) ?_)
    have a2g:∀(L:Heap) (h:2<(H1++L).length),(H1++L)[2]=.box [.f (fi (1+x.m % 6)),.f (fi (x.r % 3)),.f (fi (x.t % 3)),.f (fi (1+x.z % 12)),.f .ay,.f (fi (15*(1+x.le % 12))),.f .ay] 0:=fun L h=>by
     have:=List.getElem?_append_left (l₂:=L) (aJ a2)
     rw [a2,List.getElem?_eq_getElem h]at this
     exact Option.some.inj this
    simp [g3,g4,a4,a2g]
    obtain⟨MI,hMI⟩:∃ y,y=60+15*(x.mi % 80):=⟨_,rfl⟩
    rw [←hMI]at stage2 ⊢
    obtain⟨H2,hH2⟩:∃ H2,H2=(H1++[Blk.box [.f .ay,.f (fi (x.f % 9)),.f (fi per),c] 0,.box [.sl H1.length 0 1 1 0 4] 0,.box [.sl (H1.length+1) 0 1 1 0 1,.f (fi MI)] 0]).set 2
     (.box [.f (fi (1+x.m % 6)),.f (fi (x.r % 3)),.f (fi (x.t % 3)),.f (fi (1+x.z % 12)),.sl (H1.length+2) 0 1 1 0 2,.f (fi (15*(1+x.le % 12))),.f .ay] 0):=⟨_,rfl⟩
    rw [←hH2]
    have up:∀(b:Nat) cs fl,b≠2→H1[b]?=some (.box cs fl)→H2[b]?=some (.box cs fl):=fun b cs fl hb h=>by
     rw [hH2,List.getElem?_set_ne (Ne.symm hb),List.getElem?_append_left (aJ h)];exact h
    have b0:=up _ _ _ (by decide) a0
    have b1:=up _ _ _ (by decide) a1
    have b4:=up _ _ _ (by decide) a4
    have b2:H2[2]?=some (.box [.f (fi (1+x.m % 6)),.f (fi (x.r % 3)),.f (fi (x.t % 3)),.f (fi (1+x.z % 12)),.sl (H1.length+2) 0 1 1 0 2,.f (fi (15*(1+x.le % 12))),.f .ay] 0):=by
     rw [hH2,List.getElem?_set_self (by simp)]
    have bN0:H2[H1.length]?=some (.box [.f .ay,.f (fi (x.f % 9)),.f (fi per),c] 0):=by rw [hH2,List.getElem?_set_ne (by omega)];simp
    have bN1:H2[H1.length+1]?=some (.box [.sl H1.length 0 1 1 0 4] 0):=by rw [hH2,List.getElem?_set_ne (by omega)];simp
    have bN2:H2[H1.length+2]?=some (.box [.sl (H1.length+1) 0 1 1 0 1,.f (fi MI)] 0):=by rw [hH2,List.getElem?_set_ne (by omega)];simp
    have bB:LBj true H2 c l:=by
     rw [hH2]
     refine(aB.push _).set (cs:=[.f (fi (1+x.m % 6)),.f (fi (x.r % 3)),.f (fi (x.t % 3)),.f (fi (1+x.z % 12)),.f .ay,.f (fi (15*(1+x.le % 12))),.f .ay]) (fl:=0) ?_
     rw [List.getElem?_append_left (by omega)];exact a2
    clear hH2
    have hempty:=Zg ⟨.nil,[],x.f % 9,per,.nil,l⟩ (by have:=hl.2.2;simp [dZ.Sm];omega)
    obtain⟨be,hbe⟩:∃ be,be=(jf ⟨.nil,[],x.f % 9,per,.nil,l⟩&&decide ((([]:List Int).length:Int)+l.length=0)):=⟨_,rfl⟩
    simp only [←hbe]at hempty
    have hex:exC deep H2 c=some (sl .nil (ints l)):=bB.ex 63
    obtain⟨mB,mK⟩:=bB.mk 63
    have Y1:mkC (63+1) c H2=mkC deep c H2:=rfl
    rw [Y1]at mB mK
    have hsl0:sl .nil (ints [])=.ay:=rfl
    simp [dZ.row,hsl0]at hempty
    refine ak ?_
    refine ak (aj (.inl rfl) ?_)
    simp [g4,b4,hex,hempty]
    have m0:=mK _ _ _ b0
    have m1:=mK _ _ _ b1
    have m2:=mK _ _ _ b2
    have mC:Cls (mkC deep c H2) (.sl (H1.length+2) 0 1 1 0 2) (x.f % 9) per MI l:=.inr ⟨H1.length,c,0,0,0,aL,rfl,mK _ _ _ bN0,mK _ _ _ bN1,mK _ _ _ bN2,mB⟩
    have aQ2:jf ⟨.nil,[],x.f % 9,per,.nil,l⟩=true:=by
     have hr:∀(l:List Int) (last:Int),l.Pairwise (· < ·)→(∀ c ∈ l,last<c∧c<(per:Int))→dF per last l=true:=by
      intro l
      induction l with
      | nil=>intros;rfl
      | cons a l ih=>
       intro last hp hc
       have h1:=hc a List.mem_cons_self
       have h2:=List.pairwise_cons.1 hp
       simp only [dF,decide_eq_true h1.1,decide_eq_true h1.2,Bool.true_and]
       exact ih a h2.2 fun c hc'=>⟨h2.1 c hc',(hc c (List.mem_cons_of_mem _ hc')).2⟩
     have h3:=hl.2.2
     have h4:=hr l (-1) hl.1 fun c hc=>⟨by have:=(hl.2.1 c hc).1;omega,(hl.2.1 c hc).2⟩
     unfold jf
     simp only [h4]
     simp [dF]
     omega
    rw [aQ2]at hbe
    cases be
    ·have aYt:l≠[]:=by rintro rfl;simp at hbe
     refine aA (by simp) (aK ?_)
     exact stage2 _ _ _ l (by simp [g1]) (by simp [g2]) (by simp [g3]) m0 m1 m2 mC hl fun _=>aYt
    ·refine aC (by simp) ?_
     refine aj (.inl rfl) ?_
     simp [g3,m2]
     refine stage2 _ _ (.f .ay) l (by simp [g1]) (by simp [g2]) (by simp [g3]) ?_ ?_ ?_ (.inl rfl) hl (by simp)
     ·rw [List.getElem?_set_ne (by decide)];exact m0
     ·rw [List.getElem?_set_ne (by decide)];exact m1
     ·rw [List.getElem?_set_self (aJ m2)]
   refine ak ?_
   refine ak (aj (.inl rfl) ?_)
   simp
   refine lF per (fun j t H=>t.g 1=.c (.ptr 0 0 0)∧t.g 2=.c (.ptr 1 0 0)∧t.g 3=.c (.ptr 2 0 0)∧t.g 4=.c (.ptr 4 0 0)∧H[0]?=some (.box RAW 0) ∧
    H[1]?=some (.box [.f (fi 0),.f (fi 0),.f (fi 0),.f (fi 0),.f .ay,.f (fi 0),.f .ay] 0) ∧
    H[2]?=some (.box [.f (fi (1+x.m % 6)),.f (fi (x.r % 3)),.f (fi (x.t % 3)),.f (fi (1+x.z % 12)),.f .ay,.f (fi 0),.f .ay] 0)∧5≤H.length ∧
    ∃ c l,H[4]?=some (.box [.f .ay,.f (fi (x.f % 9)),.f (fi per),c] 0)∧LBj true H c l∧l.length≤j∧l.Pairwise (· < ·)∧∀ c ∈ l,0≤c∧c<(j:Int)) (by omega) rfl (by simp)
    ⟨by simp [g1],by simp [g2],by simp [g3],by simp [g4],rfl,rfl,rfl,by simp,.f .ay,[],rfl,.inl ⟨rfl,rfl⟩,by simp,by simp,by simp⟩ ?_ ?_ ?_
   ·rintro j t H L hj ⟨g1,g2,g3,g4,h0,h1,h2,h5,c,l,h4,hB,hl,hp,hc⟩ ha hL
    simp [ha,g4,h4]
    exact hL _ ⟨by simp [g1],by simp [g2],by simp [g3],by simp [g4],h0,h1,h2,h5,c,l,h4,hB,hl,hp,hc⟩ (by simp [ha]) (by simp)
   ·rintro j t H hj ⟨g1,g2,g3,g4,h0,h1,h2,h5,c,l,h4,hB,hl,hp,hc⟩ ha next
    obtain⟨u,hu⟩:∃ u,dN .shr (.c (.f (.int .u8 x.c))) (vi (j:Int))=some (.c (.f (.int .u8 u))):=⟨_,by simp [dN];rfl⟩
    obtain⟨w,hw⟩:∃ w,dN .rem (.c (.f (.int .u8 u))) (.c (.f (.int .u8 2)))=some (.c (.f (.int .u8 w))):=⟨_,by simp [fC];rfl⟩
    refine aP ?_
    refine ak (aj (.inl rfl) ?_)
    simp [g1,h0,q6,ha,hu,hw]
    by_cases hw1:w=1
    ·refine aC (by simp [hw1]) ?_
     obtain⟨v',H',e1,e2,e3,e4⟩:=LB.app (H:=H++[.box [.f (fi j)] 0]) (row:=[fi j]) (bytes:=8) (y:=.c (.sl H.length 0 1 1 0 1)) ((hB.i).push _) (Uk _) rfl (by decide)
      (lq (fl:=0) (cs:=[.f (fi j)]) (by simp) rfl) (by simp [bD]) (by simp [bP];omega)
     obtain⟨c',rfl,_⟩:=e2.len
     have e2:LBi true H' c' (l++[(j:Int)]):=by
      have:ints (l++[(j:Int)])=ints l++[[fi j]]:=by simp [ints]
      show LB true H' 1 (.c c') .nil (ints (l++[(j:Int)]))
      rw [this];exact e2
     have up:∀(b:Nat) cs fl,H[b]?=some (.box cs fl)→H'[b]?=some (.box cs fl):=fun b cs fl hb=>e4 _ _ _ (by rw [List.getElem?_append_left (aJ hb)];exact hb)
     have h4':=up _ _ _ h4
     refine aj (.inl rfl) ?_
     simp [g4,h4,ha,e1,h4']
     refine aN (next _ _ ?_ (by simp [ha]))
     refine⟨by simp [g1],by simp [g2],by simp [g3],by simp [g4],by rw [List.getElem?_set_ne (by decide)];exact up _ _ _ h0,by rw [List.getElem?_set_ne (by decide)];exact up _ _ _ h1,by rw [List.getElem?_set_ne (by decide)];exact up _ _ _ h2,by simp at e3 ⊢;omega,
      c',l++[(j:Int)],List.getElem?_set_self (aJ h4'),e2.j.set h4',by simp;omega,by
       rw [List.pairwise_append]
       exact⟨hp,List.pairwise_singleton _ _,fun y hy z hz=>by obtain rfl:=List.mem_singleton.1 hz;exact(hc y hy).2⟩,fun y hy=>by
       rcases List.mem_append.1 hy with hy | hy
       ·have:=hc y hy;omega
       ·obtain rfl:=List.mem_singleton.1 hy;omega⟩
    ·refine aA (by simp [hw1]) ?_
     refine aK (aN (next _ _ ?_ (by simp [ha])))
     exact⟨by simp [g1],by simp [g2],by simp [g3],by simp [g4],h0,h1,h2,h5,c,l,h4,hB,by omega,hp,fun y hy=>by have:=hc y hy;omega⟩
   ·rintro t H ⟨g1,g2,g3,g4,h0,h1,h2,h5,c,l,h4,hB,hl,hp,hc⟩ ha
    exact stage1 t H c l g1 g2 g3 g4 h0 h1 h2 h4 h5 hB ⟨hp,fun y hy=>by have:=hc y hy;omega,by omega⟩
  refine ak (aj (.inl rfl) ?_)
  simp [sU.row]
  refine ak (aj (.inl rfl) ?_)
  simp (disch:=omega) [wrap64,wrapu8,Int.tmod_eq_emod_of_nonneg,Int.tdiv_eq_ediv_of_nonneg,fC,jA,List.getElem?_cons_zero,List.getElem?_cons_succ]
  refine ak (aj (.inl rfl) ?_)
  have aW4:dN .rem (.c (.f (.int .u8 x.f))) (.c (.f (.int .u8 9)))=some (.c (.f (.int .u8 (x.f % 9)))):=by simp (disch:=omega) [fC,Int.tmod_eq_emod_of_nonneg]
  have aW5:dN .rem (.c (.f (.int .u8 x.p))) (.c (.f (.int .u8 8)))=some (.c (.f (.int .u8 (i:Int)))):=by simp (disch:=omega) [fC,Int.tmod_eq_emod_of_nonneg,hi]
  simp [aW4,aW5,hix,hld,wrap64 (n:=x.f % 9) (by omega) (by omega)]
  exact cont _ (by simp) (by simp) (by simp) (by simp)
 exact⟨s,hs,h⟩
end Go.Proofs.YtijkmcapnnlpjaaGreat
end
section
namespace Go.Proofs.YtijkmcapnnlpjaaGreat
open Go Km
def aS.le(x y:aS):Prop:=¬ y.lt x
@[simp] theorem aS.aUu (x:aS):x.row.length=3:=rfl
theorem set_mid{α:Type}(A:List α)(x y:α)(B:List α):(A++x::B).set A.length y=A++y::B:=by simp
theorem G5(l:List aS)(j:Nat)(x:aS):(aH l).set j x.row=aH (l.set j x):=by simp [aH,List.map_set]
theorem vM{l:List aS}{j:Nat}{x:aS}(h:l[j]?=some x):(aH l)[j]?=some x.row:=by simp [aH,h]
theorem as6:((List.range 65).all fun n=>match (CF tab.get 20 20 (.fn aal) [.c (.f (.int .u64 n))] [])with | some (.c (.f (.int .i64 (.ofNat k))),_)=>Nat.ble k 62&&(Nat.beq n 0||Nat.ble (2 ^ k) (2*n)) | _=>false)=true:=by kernel_rfl
theorem QL:aT2 tab.get bJ 64:=fun n h=>by
 have h1:=as6
 rw [List.all_eq_true]at h1
 have h2:=h1 n (by simp;omega)
 split at h2
 ·rename_i k H' e
  rw [Bool.and_eq_true,Bool.or_eq_true]at h2
  refine⟨k,(yc (m:=20) (d:=20) (by rw [e];rfl)).eq,Nat.le_of_ble_eq_true h2.1,fun h0=>?_⟩
  rcases h2.2 with h3 | h3
  ·have:=Nat.eq_of_beq_eq_true h3;omega
  ·exact Nat.le_of_ble_eq_true h3
 ·cases h2
theorem SS:aus tab.get bf 3:=⟨ZU,aFY,aS2,aLV,aS6,aS4,aLX,
 aL2,aL0,aL4,aSZ,aSX,aL6,ZV,ZT⟩
theorem L6:aus tab.get bJ 3:=⟨aLY,aS0,aS1,aLU,aS5,aS3,aLW,
 aL1,aLZ,aL3,aSY,aSW,aL5,ZV,ZT⟩
def CP:List FC→aS
 | [.int _ a,.int _ b,.int _ c]=>⟨a,b,c⟩
 | _=>⟨0,0,0⟩
def xQ(r:List FC):Prop:=r=(CP r).row
theorem N9(x:aS):xQ x.row:=rfl
def Ye(r s:List FC):Int:=uj (CP r) (CP s)
theorem Zp:Cmp xQ Ye where
 asym:=fun _ _ h h'=>by
  unfold Ye at h h'
  rw [vk]at h h'
  unfold aS.lt at h h';omega
 trans:=fun _ _ _ h h'=>by
  unfold Ye at *
  rw [vk]at *
  unfold aS.lt at *;omega
theorem aub{F:Nat}(hF:∀ x y:aS,Kf tab.get F [.a (x.row.map .f),.a (y.row.map .f)] (vi (uj x y))):Cv tab.get (.c (.f (.fn F []))) xQ Ye:=by
 intro x y hx hy H
 obtain⟨J,h⟩:=hF (CP x) (CP y) H
 rw [←show x=(CP x).row from hx,←show y=(CP y).row from hy]at h
 exact⟨F,_,J,by simp [dB],h⟩
theorem Uz{rows:List (List FC)}(h:∀ r ∈ rows,xQ r):aH (rows.map CP)=rows:=by
 unfold aH
 rw [List.map_map]
 conv=>rhs;rw [←List.map_id rows]
 exact List.map_congr_left fun r hr=>(h r hr).symm
theorem G6(l:List aS):(aH l).map CP=l:=by
 unfold aH
 rw [List.map_map]
 conv=>rhs;rw [←List.map_id l]
 exact List.map_congr_left fun r _=>rfl
theorem Gj{H:Heap}{b ep F:Nat}{l:List aS}(hF:∀ x y:aS,Kf tab.get F [.a (x.row.map .f),.a (y.row.map .f)] (vi (uj x y)))(hl:l.length≤12)(hb:RB H b 3 ep (aH l)) :
  ∃ r H',Ev tab.get (.fn Rw) [.c (.sl b 0 l.length 0 ep 3),.c (.f (.fn F []))] H r H' ∧
   (r=.t []∧Fm b H H'∧∃ l':List aS,RB H' b 3 ep (aH l')∧l'.Perm l∧l'.Pairwise aS.le):=by
 have hW:∀ r ∈ aH l,xQ r:=fun r hr=>by
  obtain⟨x,-,rfl⟩:=List.mem_map.1 hr
  exact N9 x
 obtain⟨k,hk,-,-⟩:=QL l.length (by omega)
 have hn:(aH l).length=l.length:=kM l
 obtain⟨r,H',he,rfl,f,l',r',s',u'⟩:=XB (n:=l.length) SS (aub hF) Zp (by omega) (fun L hL=>QL L (by omega)) _ 0 l.length H (aH l) k rfl (by omega) (Nat.le_refl _) hn hb (bI l) hW (fun k h=>absurd h (by omega))
 have hW':∀ r ∈ l',xQ r:=fun r hr=>hW r (s'.1.mem_iff.1 hr)
 have he:=he.eq
 have hwu:IntKind.wrap .u64 (l.length:Int)=l.length:=by rw [zG];omega
 refine gW aFZ rfl fun Q hQ=>?_
 refine ak (aj (.inl rfl) ?_)
 simp [hb.len]
 refine aj (.inl rfl) ?_
 simp at hk he
 simp [hwu,hk,he]
 refine jF (hQ _ _ (.t []) rfl rfl ⟨rfl,f,l'.map CP,?_,?_,?_⟩)
 ·rw [Uz hW'];exact r'
 ·have:=s'.1.map CP
  rwa [G6]at this
 ·rw [List.pairwise_iff_getElem]
  intro i j hi hj hij
  simp only [List.length_map]at hi hj
  have hlen:l'.length=l.length:=by rw [s'.len,hn]
  have:=u' i j l'[i] l'[j] (by omega) hij (by omega) (List.getElem?_eq_getElem hi) (List.getElem?_eq_getElem hj)
  rw [List.getElem_map,List.getElem_map]
  unfold Ye at this
  rw [vk]at this
  exact this
theorem Xe{H:Heap}{F:Nat}:∃ r H',Ev tab.get (.fn Rw) [.c (.f .ay),.c (.f (.fn F []))] H r H'∧(r=.t []∧H'=H):=by
 obtain⟨k,hk,-,-⟩:=QL 0 (by omega)
 have he:=(Qw (σ:=bf) (sz:=3) ZU aFY (H:=H) (v:=.c (.f .ay)) (cv:=.c (.f (.fn F []))) (lim:=k)).eq
 refine gW aFZ rfl fun Q hQ=>?_
 refine ak (aj (.inl rfl) ?_)
 simp [cO]
 refine aj (.inl rfl) ?_
 have hw:IntKind.wrap .u64 0=0:=rfl
 simp at hk he
 simp [hw,hk,he]
 exact jF (hQ _ _ _ rfl rfl ⟨rfl,rfl⟩)
end Go.Proofs.YtijkmcapnnlpjaaGreat
end
section
namespace Go.Proofs.YtijkmcapnnlpjaaGreat
open Go Km
theorem YH{x y:aS}(h:x.le y)(h':x≠y):x.lt y:=aS.YD h (Ne.symm h')
def eqB(x y:aS):Bool:=x.day == y.day&&(x.fr == y.fr&&x.to == y.to)
theorem zB{x y:aS}:eqB x y=true↔x=y:=by
 obtain⟨a,b,c⟩:=x
 obtain⟨a',b',c'⟩:=y
 simp [eqB]
theorem QM{l:List aS}(hs:l.Pairwise aS.le){i j:Nat}(hij:i<j)(hj:j<l.length):(l[i]'(by omega)).le l[j]:=List.pairwise_iff_getElem.1 hs i j (by omega) hj hij
theorem OD{H:Heap}{b ep:Nat}{l:List aS}(hl:l.length≤1000000)(hs:l.Pairwise aS.le)(hb:RB H b 3 ep (aH l)) :
  ∃ r H',Ev tab.get (.fn KH) [.c (.sl b 0 l.length 0 ep 3)] H r H' ∧
   (∃ l' R:List aS,r=.c (.sl b 0 l'.length 0 ep 3)∧Fm b H H'∧RB H' b 3 ep (aH (l'++R))∧l'.length≤l.length∧l'.Pairwise aS.lt∧∀ x,x ∈ l'↔x ∈ l):=by
 refine gW aF2 rfl fun Q hQ=>?_
 refine ak (aj (.inl rfl) ?_)
 simp
 refine ak ?_
 refine ak (aj (.inl rfl) ?_)
 simp [hb.len]
 by_cases h2:l.length<2
 ·refine aC (by simp;omega) ?_
  refine ak (aj (.inl rfl) ?_)
  simp
  refine aO (hQ _ _ _ rfl (res_one (by simp)) ⟨l,[],rfl,Fm.refl _,by simpa using hb,Nat.le_refl _,?_,fun _=>Iff.rfl⟩)
  match l,h2 with
  | [],_=>exact List.Pairwise.nil
  | [x],_=>exact List.pairwise_singleton _ _
  | x::y::r,h=>simp at h;omega
 refine aA (by simp;omega) (aK ?_)
 refine ak ?_
 refine ak (aj (.inl rfl) ?_)
 simp
 refine aP ?_
 refine dA (fun n s=>∃(k:Nat) (t:T),s=⟨t,[],H⟩∧n=l.length-k∧1≤k∧k≤l.length∧t.g 0=.c (.sl b 0 l.length 0 ep 3)∧t.g 3=vi k∧(l.take k).Pairwise aS.lt) (l.length-1)
  ⟨1,_,rfl,rfl,by omega,by omega,by simp,by simp,?_⟩ ?_
 ·cases l with
  | nil=>simp
  | cons x r=>simp
 rintro n s ⟨k,t,rfl,rfl,hk1,hkl,g0,g3,hp⟩ ih
 refine ak ?_
 refine ak (aj (.inl rfl) ?_)
 simp [g0,g3,hb.len]
 by_cases hlt:k<l.length
 case neg=>
  refine aA (by simp [hlt]) ?_
  refine bM (k':=[.code wI]) rfl ?_
  refine ak (aj (.inl rfl) ?_)
  simp [g0]
  refine aO (hQ _ _ _ rfl (res_one (by simp)) ⟨l,[],rfl,Fm.refl _,by simpa using hb,Nat.le_refl _,?_,fun _=>Iff.rfl⟩)
  rwa [List.take_of_length_le (by omega)]at hp
 refine aC (by simp [hlt]) (aK ?_)
 obtain⟨m,rfl⟩:∃ m,k=m+1:=⟨k-1,by omega⟩
 have ix:∀ {H:Heap} {rows:List (List FC)} (hb:RB H b 3 ep rows) (o n i:Nat) (hi:i<n),bC H 3 none (.c (.sl b o n 0 ep 3)) (vi i)=some (.c (.ptr b (o+i*3) ep)):=by
  intro H rows hb o n i hi
  have:=hb.idx (n:=n) (c:=0) (k:=.i64) (o:=o) (i:=(i:Int)) (by omega) (by omega)
  rwa [Int.toNat_natCast]at this
 have i1:=ix hb 0 l.length (m+1) hlt
 have i0:=ix hb 0 l.length m (by omega)
 have l1:=hb.ldr (bI _) (jg (l:=l) (j:=m+1) hlt)
 have l0:=hb.ldr (bI _) (jg (l:=l) (j:=m) (by omega))
 rw [Nat.zero_add]at i1 i0
 have c1:((m+1:Nat):Int)-1=m:=by omega
 rw [show((m+1:Nat):Int)=(m:Int)+1 by omega]at i1
 have htk:l.take (m+1+1)=l.take (m+1)++[l[m+1]]:=by rw [List.take_add_one,List.getElem?_eq_getElem hlt];rfl
 refine ak ?_
 refine aP ?_
 refine ak (aj (.inl rfl) ?_)
 simp [g0,g3,i1,i0,l1,l0,-bT,wrap64 (n:=(m:Int)) (by omega) (by omega),aS.row]
 cases hc:(l[m+1].day == l[m].day&&(l[m+1].fr == l[m].fr&&l[m+1].to == l[m].to))
 ·
  refine aA (by simp) (aK (aN ?_))
  refine aj (.inl rfl) ?_
  simp [g3,wrap64 (n:=(m:Int)+1+1) (by omega) (by omega)]
  refine ih (l.length-(m+2)) _ (by omega) ⟨m+2,_,rfl,rfl,by omega,by omega,by simp [g0],by simp;omega,?_⟩
  show(l.take (m+1+1)).Pairwise aS.lt
  have hne:l[m]≠l[m+1]:=fun e=>by
   have:eqB l[m+1] l[m]=true:=zB.2 e.symm
   rw [eqB,hc]at this;cases this
  rw [htk,List.pairwise_append]
  refine⟨hp,List.pairwise_singleton _ _,fun y hy z hz=>?_⟩
  obtain rfl:=List.mem_singleton.1 hz
  obtain⟨i,hi,rfl⟩:=List.getElem_of_mem hy
  have hi':i<m+1:=by simp at hi;omega
  rw [List.getElem_take]
  by_cases e:i=m
  ·subst e;exact YH (QM hs (by omega) hlt) hne
  ·exact aS.lt_trans (y:=l[m]) (by
    have h1:=List.pairwise_iff_getElem.1 hp i m (by simp;omega) (by simp;omega) (by omega)
    simpa using h1) (YH (QM hs (by omega) hlt) hne)
 ·
  have heq:l[m+1]=l[m]:=zB.1 hc
  have c2:((m+1:Nat):Int)=(m:Int)+1:=by omega
  have hsf:=hb.zS (k:=m+1) hlt
  rw [c2]at hsf
  refine aC (by simp) ?_
  refine ak (aj (.inl rfl) ?_)
  simp [g0,g3,hsf]
  refine ak ?_
  refine ak (aj (.inl rfl) ?_)
  simp
  refine aP ?_
  refine dA (fun n s=>∃(i:Nat) (t:T) (H2:Heap) (P R:List aS),s=⟨t,[],H2⟩∧n=l.length-(m+2+i)∧m+2+i≤l.length∧t.g 0=.c (.sl b 0 l.length 0 ep 3)∧t.g 3=vi P.length∧t.g 4=.c (.sl b ((m+1)*3) (l.length-(m+1)) 0 ep 3)∧t.g 5=vi ((i:Int)+1) ∧
   Fm b H H2∧RB H2 b 3 ep (aH (P++R))∧(P++R).length=l.length∧1≤P.length∧P.length≤m+1+i∧(∀ q,m+1+i≤q→(P++R)[q]?=l[q]?)∧P.Pairwise aS.lt∧∀ x,x ∈ P↔x ∈ l.take (m+2+i)) (l.length-(m+2))
   ⟨0,_,H,l.take (m+1),l.drop (m+1),rfl,rfl,by omega,by simp [g0],by simp [g3];omega,by simp,by simp,Fm.refl _,by simpa using hb,by simp,by simp;omega,by simp;omega,by simp,hp,fun x=>?_⟩ ?_
  ·show x ∈ l.take (m+1)↔x ∈ l.take (m+1+1)
   rw [htk,List.mem_append,List.mem_singleton]
   refine⟨.inl,fun h=>h.elim id fun e=>?_⟩
   rw [e,heq]
   exact List.mem_take_iff_getElem.2 ⟨m,by omega,rfl⟩
  rintro n s ⟨i,t,H2,P,R,rfl,rfl,hi,g0,g3,g4,g5,hfr,hrb,hPR,hP1,hP2,hq,hpp,hmem⟩ ih2
  have aQ7:=hrb.len (o:=(m+1)*3) (l:=l.length-(m+1)) (c:=0)
  refine ak ?_
  refine ak (aj (.inl rfl) ?_)
  simp [g4,g5,aQ7]
  by_cases hlt2:m+2+i<l.length
  case neg=>
   have hend:m+2+i=l.length:=by omega
   refine aA (by simp;omega) ?_
   refine bM (k':=[.code DI,.inBlock 1,.code DF,.inLoop DJ,.inBlock 0,.code wI]) rfl ?_
   have hPl:P.length<l.length:=by omega
   obtain⟨H3,hc3,hr3,hf3⟩:=hrb.clr (bI _) (zs:=[fi 0,fi 0,fi 0]) (by simpa using hPR) hPl rfl
   have hsf:=hrb.zS hPl
   refine ak (aj (.inl rfl) ?_)
   simp [g0,g3,hsf,hc3]
   have hst:=hr3.Xf (n:=l.length) (k:=P.length) (by omega) (by omega)
   refine ak (aj (.inl rfl) ?_)
   simp [g0,g3,hst]
   have e3:(aH (P++R)).take P.length++List.replicate (l.length-P.length) [fi 0,fi 0,fi 0]=aH (P++List.replicate (l.length-P.length) ⟨0,0,0⟩):=by
    simp [aH,aS.row]
   rw [e3]at hr3
   refine aO (hQ _ _ _ rfl (res_one (by simp)) ⟨P,_,rfl,hfr.trans hf3,hr3,by omega,hpp,fun x=>?_⟩)
   rw [hmem,hend,List.take_length]
  have ha:(P++R)[m+2+i]?=some l[m+2+i]:=by rw [hq _ (by omega),List.getElem?_eq_getElem hlt2]
  have hb':(P++R)[m+1+i]?=some (l[m+1+i]'(by omega)):=by rw [hq _ (by omega),List.getElem?_eq_getElem]
  have j1:=ix hrb ((m+1)*3) (l.length-(m+1)) (i+1) (by omega)
  have j0:=ix hrb ((m+1)*3) (l.length-(m+1)) i (by omega)
  rw [show(m+1)*3+(i+1)*3=(m+2+i)*3 by omega,show((i+1:Nat):Int)=(i:Int)+1 by omega]at j1
  rw [show(m+1)*3+i*3=(m+1+i)*3 by omega]at j0
  have d1:=hrb.ldr (bI _) (vM ha)
  have d0:=hrb.ldr (bI _) (vM hb')
  refine aC (by simp;omega) (aK ?_)
  refine ak ?_
  refine aP ?_
  refine ak (aj (.inl rfl) ?_)
  simp [g4,g5,j1,j0,d1,d0,-bT,wrap64 (n:=(i:Int)) (by omega) (by omega),aS.row]
  have aQW:l.take (m+2+(i+1))=l.take (m+2+i)++[l[m+2+i]]:=by
   rw [show m+2+(i+1)=m+2+i+1 by omega,List.take_add_one,List.getElem?_eq_getElem hlt2];rfl
  have next:∀(t:T) (H2:Heap) (P R:List aS),t.g 0=.c (.sl b 0 l.length 0 ep 3)→t.g 3=vi P.length→t.g 4=.c (.sl b ((m+1)*3) (l.length-(m+1)) 0 ep 3)→t.g 5=vi ((i:Int)+1) →
    Fm b H H2→RB H2 b 3 ep (aH (P++R))→(P++R).length=l.length→1≤P.length→P.length≤m+2+i→(∀ q,m+2+i≤q→(P++R)[q]?=l[q]?)→P.Pairwise aS.lt→(∀ x,x ∈ P↔x ∈ l.take (m+2+(i+1))) →
    WP tab.get KH none [.inBlock 3,.code KZ,.inLoop La,.inBlock 2,.code DI,.inBlock 1,.code DF,.inLoop DJ,.inBlock 0,.code wI] ⟨t,[],H2⟩ Q:=by
   intro t H2 P R g0 g3 g4 g5 hfr hrb hPR hP1 hP2 hq hpp hmem
   refine aN (aj (.inl rfl) ?_)
   simp [g5,wrap64 (n:=(i:Int)+1+1) (by omega) (by omega)]
   exact ih2 (l.length-(m+2+(i+1))) _ (by omega) ⟨i+1,_,H2,P,R,rfl,rfl,by omega,by simp [g0],by simp [g3],by simp [g4],by simp,hfr,hrb,hPR,hP1,by omega,fun q h=>hq q (by omega),hpp,hmem⟩
  have hle:(l[m+1+i]'(by omega)).le l[m+2+i]:=QM hs (by omega) hlt2
  cases hc2:(l[m+2+i].day == l[m+1+i].day&&(l[m+2+i].fr == l[m+1+i].fr&&l[m+2+i].to == l[m+1+i].to))
  ·have hne:l[m+1+i]≠l[m+2+i]:=fun e=>by
    have:eqB l[m+2+i] l[m+1+i]=true:=zB.2 e.symm
    rw [eqB,hc2]at this;cases this
   have hlt3:=YH hle hne
   have kx:=ix hrb 0 l.length P.length (by omega)
   rw [Nat.zero_add]at kx
   obtain⟨H3,s3,r3,f3,-⟩:=hrb.str (bI _) (j:=P.length) (by rw [kM,hPR];omega) (row:=(l[m+2+i]).row) rfl
   rw [G5]at r3
   obtain⟨x0,R',rfl⟩:∃ x0 R',R=x0::R':=by
    cases R with
    | nil=>simp at hPR;omega
    | cons x0 R'=>exact⟨_,_,rfl⟩
   rw [set_mid]at r3
   have hn3:¬l[m+2+i].day=l[m+1+i].day∨¬l[m+2+i].fr=l[m+1+i].fr∨¬l[m+2+i].to=l[m+1+i].to:=by
    simp at hc2
    omega
   refine aC (by simpa using hn3) ?_
   refine ak (aj (.inl rfl) ?_)
   simp only [aS.row,List.map_cons,List.map_nil]at s3
   simp [g0,g3,g4,g5,j1,d1,kx,s3,-bT,-fG,aS.row]
   refine aj (.inl rfl) ?_
   simp [g3,wrap64 (n:=(P.length:Int)+1) (by omega) (by omega)]
   have e5:P++l[m+2+i]::R'=(P++[l[m+2+i]])++R':=by simp
   rw [e5]at r3
   refine next _ H3 (P++[l[m+2+i]]) R' (by simp [g0]) (by simp) (by simp [g4]) (by simp [g5]) (hfr.trans f3) r3 (by simpa using hPR) (by simp) (by simp;omega) (fun q h=>?_) ?_ fun x=>?_
   ·rw [←e5,←set_mid P x0,List.getElem?_set_ne (by omega)]
    exact hq q (by omega)
   ·rw [List.pairwise_append]
    refine⟨hpp,List.pairwise_singleton _ _,fun y hy z hz=>?_⟩
    obtain rfl:=List.mem_singleton.1 hz
    obtain⟨q,hq1,rfl⟩:=List.getElem_of_mem ((hmem y).1 hy)
    have hq2:q<m+2+i:=by simp at hq1;omega
    rw [List.getElem_take]
    by_cases e:q=m+1+i
    ·subst e;exact hlt3
    ·have h1:=QM hs (i:=q) (j:=m+1+i) (by omega) (by omega)
     unfold aS.le aS.lt at *
     omega
   ·rw [aQW,List.mem_append,List.mem_append,hmem]
  ·have heq2:l[m+2+i]=l[m+1+i]:=zB.1 hc2
   have hn3:l[m+2+i].day=l[m+1+i].day∧l[m+2+i].fr=l[m+1+i].fr∧l[m+2+i].to=l[m+1+i].to:=by simpa using hc2
   refine aA (by simpa using hn3) (aK ?_)
   refine next _ H2 P R (by simp [g0]) (by simp [g3]) (by simp [g4]) (by simp [g5]) hfr hrb hPR hP1 (by omega) (fun q h=>hq q (by omega)) hpp fun x=>?_
   rw [aQW,List.mem_append,List.mem_singleton,hmem]
   refine⟨.inl,fun h=>h.elim id fun e=>?_⟩
   rw [e,heq2]
   exact List.mem_take_iff_getElem.2 ⟨m+1+i,by omega,rfl⟩
end Go.Proofs.YtijkmcapnnlpjaaGreat
end
section
namespace Go.Proofs.YtijkmcapnnlpjaaGreat
open Go Km
theorem Nh{a b:Int}(h:0≤a)(hb:0<b)(ha:a≤9223372036854775807):dN .quo (vi a) (vi b)=some (vi (a / b)):=by
 rw [jA (by omega),Int.tdiv_eq_ediv_of_nonneg h,wrap64 (Int.le_trans (by omega) (Int.ediv_nonneg h (by omega))) (Int.le_trans (Int.ediv_le_self _ h) ha)]
theorem MP{a b:Int}(h:0≤a)(hb:0<b):dN .rem (vi a) (vi b)=some (vi (a % b)):=by
 rw [fC (by omega),Int.tmod_eq_emod_of_nonneg h]
theorem aHq{a b:Int}(h:a≤0)(hb:0<b)(ha:-9223372036854775807≤a):dN .quo (vi a) (vi b)=some (vi (-((-a) / b))):=by
 have h1:(-a) / b≤-a:=Int.ediv_le_self _ (by omega)
 have h2:0≤(-a) / b:=Int.ediv_nonneg (by omega) (by omega)
 have h3:a.tdiv b = -((-a) / b):=by
  have:a = -(-a):=by omega
  rw [this,Int.neg_tdiv,Int.tdiv_eq_ediv_of_nonneg (by omega)]
  simp
 rw [jA (by omega),h3,wrap64 (by omega) (by omega)]
theorem aG8{a b:Int}(h:a≤0)(hb:0<b):dN .rem (vi a) (vi b)=some (vi (-((-a) % b))):=by
 have h3:a.tmod b = -((-a) % b):=by
  have:a = -(-a):=by omega
  rw [this,Int.neg_tmod,Int.tmod_eq_emod_of_nonneg (by omega)]
  simp
 rw [fC (by omega),h3]
theorem JX(a b:Int)(hb:1≤b)(ha:-4611686018427387904≤a)(ha':a≤4611686018427387904):Km.Pure tab.get aaf [vi a,vi b]=Eq (.t [vi (a / b),vi 0]):=Km.Pure.eq (by
 refine gY aTL rfl fun Q hQ=>?_
 refine ak (aj (.inl rfl) ?_)
 simp
 refine ak ?_
 refine ak (aj (.inl rfl) ?_)
 simp
 refine aA (by simp;omega) (aK ?_)
 by_cases h:0≤a
 ·refine ak (aj (.inl rfl) ?_)
  simp [Nh h (show 0<b by omega) (by omega)]
  refine ak ?_
  refine ak (aj (.inl rfl) ?_)
  have:=Int.emod_nonneg a (show b≠0 by omega)
  simp [MP h (show 0<b by omega)]
  refine aA (by simp;omega) (aK ?_)
  refine ak (aj (.inl rfl) ?_)
  simp
  refine aO (hQ _ _ ?_)
  simp
 ·refine ak (aj (.inl rfl) ?_)
  simp [aHq (show a≤0 by omega) (show 0<b by omega) (by omega)]
  refine ak ?_
  refine ak (aj (.inl rfl) ?_)
  have e:=Int.emod_nonneg (-a) (show b≠0 by omega)
  have e2:=Int.emod_lt_of_pos (-a) (show 0<b by omega)
  have h2:0≤(-a) / b:=Int.ediv_nonneg (by omega) (by omega)
  have h1:(-a) / b≤-a:=Int.ediv_le_self _ (by omega)
  have e3:=Int.mul_ediv_add_emod (-a) b
  simp [aG8 (show a≤0 by omega) (show 0<b by omega)]
  by_cases h3:(-a) % b=0
  ·refine aA (by simp;omega) (aK ?_)
   refine ak (aj (.inl rfl) ?_)
   simp
   refine aO (hQ _ _ ?_)
   have:a / b = -(-a / b):=by
    refine Int.ediv_eq_of_eq_mul_right (by omega) ?_
    rw [Int.mul_neg];omega
   simp [this]
  ·refine aC (by simp;omega) ?_
   refine aj (.inl rfl) ?_
   simp [wrap64 (n:=-(-a / b)-1) (by omega) (by omega)]
   refine ak (aj (.inl rfl) ?_)
   simp
   refine aO (hQ _ _ ?_)
   have:a / b = -(-a / b)-1:=by
    have h5:=Int.emod_nonneg a (show b≠0 by omega)
    have h6:=Int.emod_lt_of_pos a (show 0<b by omega)
    have h7:=Int.mul_ediv_add_emod a b
    have h8:b*(a / b+(-a) / b+1)=b-a % b-(-a) % b:=by rw [Int.mul_add,Int.mul_add];omega
    have h9:a / b+(-a) / b+1=0:=by
     rcases Int.lt_trichotomy (a / b+(-a) / b+1) 0 with h | h | h
     ·have:b*(a / b+(-a) / b+1)≤b*(-1):=Int.mul_le_mul_of_nonneg_left (by omega) (by omega)
      omega
     ·exact h
     ·have:b*1≤b*(a / b+(-a) / b+1):=Int.mul_le_mul_of_nonneg_left (by omega) (by omega)
      omega
    omega
   simp [this])
theorem Y7(a:Int)(ha:-4611686018427387904≤a)(ha':a≤4611686018427387904):Km.Pure tab.get aL7 [vi a]=Eq (vi (a / 1440)):=Kf.eq (by
 refine eG aYX rfl fun H Q hQ=>?_
 refine ak (aj (.inl rfl) ?_)
 simp
 refine ak (aj (.inl rfl) ?_)
 simp [JX a 1440 (by omega) ha ha']
 refine ak (aj (.inl rfl) ?_)
 simp
 refine aO (hQ _ _ ?_)
 simp)
def lW(len mi d:Int):aS:=⟨d,d*1440+mi,d*1440+mi+len⟩
def KF(n:Int):Prop:=-1000000000000000≤n∧n≤1000000000000000
theorem Zh(c0 c2 d0:FC)(len mi d:Int)(h1:KF len)(h2:KF mi)(h3:KF d) :
  Km.Pure tab.get aas [.a [.f c0,.f (fi len),.f c2],.a [.f d0,.f (fi mi)],vi d]=Eq (.a ((lW len mi d).row.map .f)):=Km.Pure.eq (Kf.aHs (by
 unfold KF at *
 refine eG aTY rfl fun H Q hQ=>?_
 refine ak (aj (.inl rfl) ?_)
 simp
 refine ak (aj (.inl rfl) ?_)
 simp [wrap64 (n:=d*1440) (by omega) (by omega),wrap64 (n:=d*1440+mi) (by omega) (by omega)]
 refine ak (aj (.inl rfl) ?_)
 simp [wrap64 (n:=d*1440+mi+len) (by omega) (by omega)]
 refine aO (hQ _ _ ?_)
 simp [lW,aS.row]))
theorem SK(c0 c2 d0:FC)(len mi d:Int)(h1:0≤len)(h1':len≤10080)(h2:0≤mi)(h2':mi≤10080) :
  Km.Pure tab.get aam [.a [.f c0,.f (fi len),.f c2],.a [.f d0,.f (fi mi)],vi d]=Eq (vb (decide (d≤(2251799813685248-mi-len) / 1440))):=Kf.eq (by
 refine eG aTW rfl fun H Q hQ=>?_
 refine ak (aj (.inl rfl) ?_)
 simp
 refine ak (aj (.inl rfl) ?_)
 simp [wrap64 (n:=2251799813685248-mi) (by omega) (by omega),wrap64 (n:=2251799813685248-mi-len) (by omega) (by omega),Nh (a:=2251799813685248-mi-len) (b:=1440) (by omega) (by omega) (by omega)]
 refine aO (hQ _ _ ?_)
 simp)
def CS(a b c d:Int):Bool:=decide (a<d)&&decide (c<b)
theorem auc(a b c d:Int):Km.Pure tab.get aL9 [.a [.f (fi a),.f (fi b)],.a [.f (fi c),.f (fi d)]]=Eq (vb (CS a b c d)):=Kf.eq (by
 refine eG aY0 rfl fun H Q hQ=>?_
 refine ak (aj (.inl rfl) ?_)
 simp
 refine ak (aj (.inl rfl) ?_)
 by_cases h:a<d
 ·simp [h]
  refine aO (hQ _ _ ?_)
  simp [CS,h]
 ·simp [h]
  refine aO (hQ _ _ ?_)
  simp [CS,h])
end Go.Proofs.YtijkmcapnnlpjaaGreat
end
section
namespace Go.Proofs.YtijkmcapnnlpjaaGreat
open Go Km
end Go.Proofs.YtijkmcapnnlpjaaGreat
end
section
namespace Go.Proofs.YtijkmcapnnlpjaaGreat
open Go Km
def GR(p:dZ)(d:Int):Bool:=if p.fr≤d then decide ((d-p.fr) % p.per ∈ p.cyc)else decide (d ∈ p.head)
end Go.Proofs.YtijkmcapnnlpjaaGreat
end
section
namespace Go.Proofs.YtijkmcapnnlpjaaGreat
open Go Km
structure Few(p:dZ):Prop where
 hd:p.head=[]
 fr0:0≤p.fr
 fr1:p.fr≤1000
 aZD:1≤p.per
 TI:p.per≤7
 cyc:p.cyc≠[]
 len:p.cyc.length≤7
 ris:p.cyc.Pairwise (· < ·)
 mem:∀ c ∈ p.cyc,0≤c∧c<p.per
def kW(p:dZ)(c:Int):Int:=(p.fr % p.per+c) % p.per
theorem AL(p:dZ)(h:Few p)(c:Int)(h0:0≤c)(h1:c<p.per):Km.Pure tab.get RU [.a (p.row.map .f),vi c]=Eq (vi (kW p c)):=Kf.eq (by
 obtain⟨_,f0,f1,p0,p1,_,_,_,_⟩:=h
 have m0:=Int.emod_nonneg p.fr (show p.per≠0 by omega)
 have m1:=Int.emod_lt_of_pos p.fr (show 0<p.per by omega)
 refine eG aTN rfl fun H Q hQ=>?_
 refine ak (aj (.inl rfl) ?_)
 simp [dZ.row]
 refine ak (aj (.inl rfl) ?_)
 simp [MP (a:=p.fr) (b:=p.per) f0 (by omega),wrap64 (n:=p.fr % p.per+c) (by omega) (by omega),MP (a:=p.fr % p.per+c) (b:=p.per) (by omega) (by omega)]
 refine aO (hQ _ _ ?_)
 simp [kW])
theorem W9(g:Tg)(p:dZ)(h:Few p):Km.Pure tab.get aag [.c (.f (sl g (dw [p])))]=Eq (vi p.fr):=Kf.eq (by
 refine eG aTM rfl fun H Q hQ=>?_
 have hrow:=fun H:Heap=>dI (H:=H) (gK [p]) (jd (l:=[p]) (j:=0) (by simp))
 have hidx:=fun H:Heap=>bQ (H:=H) (g:=g) (rows:=dw [p]) (sz:=4) (k:=.i64) (i:=0) (by omega) (by simp)
 simp [dZ.row]at hrow hidx
 refine ak (aj (.inl rfl) ?_)
 simp
 refine ak (aj (.inl rfl) ?_)
 simp
 refine ak ?_
 refine ak (aj (.inl rfl) ?_)
 simp
 refine fA 1 (fun j t H'=>(∃ J,H'=H++J)∧t.g 6=.c (.f (sl g (dw [p])))∧(j=0→t.g 3=vi 0)∧(j=1→t.g 3=vi p.fr)) (by omega) (by decide) (by decide) (by simp) (by simp) ⟨by simp,by simp,by simp,by simp⟩ ?_ ?_
 ·rintro j t _ hj ⟨⟨J,rfl⟩,g6,g3,-⟩ ha hb next
  have:j=0:=by omega
  subst this
  have g3:=g3 rfl
  simp at ha
  refine aP ?_
  refine ak (aj (.inl rfl) ?_)
  simp [g6,ha,hidx,hrow]
  refine aj (.inl rfl) ?_
  have hmx:max 0 p.fr=p.fr:=by have:=h.fr0;omega
  simp [g3,hmx]
  refine aN (next _ _ ?_ (by simp [ha]) (by simp [hb]))
  exact⟨⟨_,rfl⟩,by simp [g6],by simp,by simp⟩
 ·rintro t _ ⟨⟨J,rfl⟩,g6,-,g3⟩ ha hb
  have g3:=g3 rfl
  refine ak (aj (.inl rfl) ?_)
  simp [g3]
  refine aO (hQ _ _ ?_)
  simp)
theorem Zi(g:Tg)(p:dZ)(h:Few p)(n:Int):Km.Pure tab.get aah [.c (.f (sl g (dw [p]))),vi n]=Eq (.t [vi 0,vb false]):=Km.Pure.eq (by
 refine gY aTR rfl fun Q hQ=>?_
 have hrow:=fun H:Heap=>dI (H:=H) (gK [p]) (jd (l:=[p]) (j:=0) (by simp))
 have hidx:=fun H:Heap=>bQ (H:=H) (g:=g) (rows:=dw [p]) (sz:=4) (k:=.i64) (i:=0) (by omega) (by simp)
 simp [dZ.row,h.hd]at hrow hidx
 refine ak (aj (.inl rfl) ?_)
 simp
 refine ak (aj (.inl rfl) ?_)
 simp
 refine ak ?_
 refine ak (aj (.inl rfl) ?_)
 simp
 refine fA 1 (fun j t H'=>t.g 12=.c (.f (sl g (dw [p])))∧t.g 6=vi 0∧t.g 7=vb false) (by omega) (by decide) (by decide) (by simp) (by simp) ⟨by simp,by simp,by simp⟩ ?_ ?_
 ·rintro j t H hj ⟨g12,g6,g7⟩ ha hb next
  have:j=0:=by omega
  subst this
  simp at ha
  refine aP ?_
  refine ak (aj (.inl rfl) ?_)
  simp [g12,ha,hidx,hrow]
  refine ak (aj (.inl rfl) ?_)
  have hl:(cO (H++[Blk.box [C.f (sl p.hg []),C.f (fi p.fr),C.f (fi p.per),C.f (sl p.cg (ints p.cyc))] 0]) (C.f (sl p.hg (ints []))))=some 0:=by simp
  simp [ints]at hl
  simp [hl]
  refine fA 0 (fun j t H'=>t.g 12=.c (.f (sl g (dw [p])))∧t.g 6=vi 0∧t.g 7=vb false∧t.g 14=vi 0∧t.g 13=vi 1) (by omega) (by decide) (by decide) (by simp) (by simp) ⟨by simp [g12],by simp [g6],by simp [g7],by simp [ha],by simp [hb]⟩ ?_ ?_
  ·intro j t H hj;omega
  ·rintro t H' ⟨g12,g6,g7,ha,hb⟩ - -
   refine aN (next _ _ ?_ (by simp [ha]) (by simp [hb]))
   exact⟨by simp [g12],by simp [g6],by simp [g7]⟩
 ·rintro t H ⟨g12,g6,g7⟩ ha hb
  refine ak (aj (.inl rfl) ?_)
  simp [g6,g7]
  refine aO (hQ _ _ ?_)
  simp)
def Yx(per r:Nat):Option (V × Heap)→Bool
 | some (.t [.a [.f (.int .i64 a),.f (.int .i64 b)],.c (.f (.bool true))],_)=>a == r&&b == per
 | _=>false
theorem Yw:((List.range 8).all fun per=>(List.range per).all fun r=>Yx per r (CF tab.get 60 20 (.fn aai) [.a [.f (fi 0),.f (fi 1)],vi r,vi per] []))=true:=by kernel_rfl
theorem asY(per r:Int)(h:per≤7)(h0:0≤r)(h1:r<per):Km.Pure tab.get aai [.a [.f (fi 0),.f (fi 1)],vi r,vi per]=Eq (.t [.a [.f (fi r),.f (fi per)],vb true]):=Km.Pure.eq (by
 have ha:=Yw
 simp only [List.all_eq_true,List.mem_range]at ha
 have h2:=ha per.toNat (by omega) r.toNat (by omega)
 rw [Int.toNat_of_nonneg h0,Int.toNat_of_nonneg (show 0≤per by omega)]at h2
 unfold Yx at h2
 split at h2
 ·rename_i a b H' e
  simp at h2
  obtain⟨rfl,rfl⟩:=h2
  refine⟨_,H',⟨60,20,e⟩,?_⟩
  have e1:max r 0=r:=by omega
  have e2:max per 0=per:=by omega
  simp [exV,fU,bD,e1,e2]
 ·cases h2)
end Go.Proofs.YtijkmcapnnlpjaaGreat
end
section
namespace Go.Proofs.YtijkmcapnnlpjaaGreat
open Go Km
theorem aW7(g:Tg)(p:dZ)(H:Heap)(x y:V)(fl:Nat)(h0:H[0]?=some (.box [.f (sl g (dw [p]))] fl)) :
  ∃ r H',Ev tab.get (.fn yH) [vi 1,.c (.ptr 0 0 0),x,y] H r H'∧(r=vb true∧H'=H):=by
 refine gW aF3 rfl fun Q hQ=>?_
 refine ak (aj (.inl rfl) ?_)
 simp
 refine JH ?_
 refine ak ?_
 refine ak (aj (.inl rfl) ?_)
 simp [h0]
 refine aC (by simp) ?_
 refine ak (aj (.inl rfl) ?_)
 simp
 exact aO (hQ _ _ _ rfl (res_one (by simp)) ⟨rfl,rfl⟩)
theorem Tj(g:Tg)(p:dZ)(h:Few p):Km.Pure tab.get RV [.c (.f (sl g (dw [p])))]=Eq (vb true):=by
 have key:∃ r,(r=vb true)∧Km.Pure tab.get RV [.c (.f (sl g (dw [p])))] r:=by
  refine lD aTO rfl fun Q hQ=>?_
  have hrow:=fun H:Heap=>dI (H:=H) (gK [p]) (jd (l:=[p]) (j:=0) (by simp))
  have hcell:=fun H:Heap=>kY (H:=H) (k:=3) (gK [p]) (jd (l:=[p]) (j:=0) (by simp)) rfl
  have hidx:=fun H:Heap=>bQ (H:=H) (g:=g) (rows:=dw [p]) (sz:=4) (k:=.i64) (i:=0) (by omega) (by simp)
  simp [dZ.row]at hrow hidx hcell
  have inner:∃ r H',Ev tab.get (.fn yH) [vi 0,.c (.ptr 0 0 0),.c (.ptr 2 0 0),.c (.ptr 3 0 0)] [.box [.f (sl g (dw [p]))] 0,.box [.f (fi 0)] 0,.box [.sl 1 0 1 1 0 1] 0,.box [.cl yH [.ptr 0 0 0,.ptr 2 0 0,.ptr 3 0 0]] 0] r H'∧(r=vb true∧True):=by
   refine gW aF3 rfl fun Q hQ=>?_
   refine ak (aj (.inl rfl) ?_)
   simp
   refine JH ?_
   refine ak ?_
   refine ak (aj (.inl rfl) ?_)
   simp
   refine aA (by simp) (aK ?_)
   refine ak (YK ?_)
   refine ak ?_
   refine ak (aj (.inl rfl) ?_)
   simp [hidx,hcell]
   have hN:0<p.cyc.length:=List.length_pos_iff.2 h.cyc
   have hlen:=h.len
   refine fA p.cyc.length (fun j t H'=>j=0∧t.g 0=vi 0∧t.g 1=.c (.ptr 0 0 0)∧t.g 2=.c (.ptr 2 0 0)∧t.g 3=.c (.ptr 3 0 0)∧t.g 18=.c (.f (sl p.cg (ints p.cyc))) ∧
    H'=[.box [.f (sl g (dw [p]))] 0,.box [.f (fi 0)] 0,.box [.sl 1 0 1 1 0 1] 0,.box [.cl yH [.ptr 0 0 0,.ptr 2 0 0,.ptr 3 0 0]] 0]) (by omega) (by decide) (by decide) (by simp) (by simp) ⟨rfl,by simp,by simp,by simp,by simp,by simp,rfl⟩ ?_ ?_
   ·rintro j t _ hj ⟨rfl,g0,g1,g2,g3,g18,rfl⟩ ha hb next
    simp at ha
    have hc:=h.mem p.cyc[0] (List.getElem_mem hN)
    have hix:=fun H:Heap=>bQ (H:=H) (g:=p.cg) (rows:=ints p.cyc) (sz:=1) (k:=.i64) (i:=0) (by omega) (by simpa using hN)
    have hli:=fun H:Heap=>ou (H:=H) hN
    have hres:=AL p h p.cyc[0] hc.1 hc.2
    simp at hix hli
    simp [dZ.row]at hres
    obtain⟨r,H',he,rfl,rfl⟩:=aW7 g p [.box [.f (sl g (dw [p]))] 0,.box [.f (fi (kW p p.cyc[0]))] 0,.box [.sl 1 0 1 1 0 1] 0,.box [.cl yH [.ptr 0 0 0,.ptr 2 0 0,.ptr 3 0 0]] 0] (.c (.ptr 2 0 0)) (.c (.ptr 3 0 0)) 0 rfl
    refine aP ?_
    refine ak (aj (.inl rfl) ?_)
    simp [ha,g18,hix,hli]
    refine ak (aj (.inl rfl) ?_)
    simp [g0,g1,hidx,hrow,hres]
    refine ak ?_
    refine ak (aj (.inl rfl) ?_)
    simp [g0]
    refine fA 0 (fun j t H'=>t.g 0=vi 0∧t.g 1=.c (.ptr 0 0 0)∧t.g 2=.c (.ptr 2 0 0)∧t.g 3=.c (.ptr 3 0 0)∧t.g 8=vi (kW p p.cyc[0]) ∧
     H'=[.box [.f (sl g (dw [p]))] 0,.box [.f (fi 0)] 0,.box [.sl 1 0 1 1 0 1] 0,.box [.cl yH [.ptr 0 0 0,.ptr 2 0 0,.ptr 3 0 0]] 0]) (by omega) (by decide) (by decide) (by simp) (by simp) ⟨by simp [g0],by simp [g1],by simp [g2],by simp [g3],by simp,rfl⟩ ?_ ?_
    ·intro j t H hj;omega
    ·rintro t _ ⟨g0,g1,g2,g3,g8,rfl⟩ - -
     refine ak (aj (.inl rfl) ?_)
     simp [g0,g2,g8,bC,jG]
     refine ak (aj (.inl rfl) ?_)
     simp [g0,g3,wrap64 (n:=1) (by omega) (by omega),he.eq,dB]
     refine aC (by simp) ?_
     refine ak (aj (.inl rfl) ?_)
     simp
     exact aO (hQ _ _ _ rfl (res_one (by simp)) ⟨rfl,trivial⟩)
   ·rintro t H' ⟨h,-⟩ - -
    omega
  obtain⟨r,H',he,rfl,-⟩:=inner
  refine ak (aj (.inl rfl) ?_)
  simp
  have hmk:∀(t:T) (H:Heap),t.g 6=vi 1→xOp t H (.eu 1 8 [.int .i64 0] (R 6) (R 6))=some (.c (.sl H.length 0 1 1 0 1),H++[.box [.f (fi 0)] 0]):=by
   intro t H h
   simp only [xOp,aut,h]
   rfl
  refine ak (aj (.inl rfl) ?_)
  simp [hmk]
  refine ak (aj (.inl rfl) ?_)
  simp
  refine ak (aj (.inl rfl) ?_)
  simp
  refine ak (aj (.inl rfl) ?_)
  simp [dB,he.eq]
  refine aO (hQ _ _ _ rfl ?_)
  simp
 obtain⟨r,rfl,h⟩:=key
 exact h.eq
end Go.Proofs.YtijkmcapnnlpjaaGreat
end
section
namespace Go.Proofs.YtijkmcapnnlpjaaGreat
open Go Km
def upI(n r per:Int):Int:=if r<n then r+(n-r+per-1) / per*per else r
theorem zf{n r per:Int}(h0:0≤r)(h1:r<per)(h2:per≤7)(hn:0≤n):n≤upI n r per∧upI n r per % per=r∧upI n r per≤n+7∧∀ d,n≤d→d % per=r→upI n r per≤d:=by
 have hp:per=1∨per=2∨per=3∨per=4∨per=5∨per=6∨per=7:=by omega
 unfold upI
 rcases hp with rfl | rfl | rfl | rfl | rfl | rfl | rfl<;>(split<;>(refine⟨by omega,by omega,by omega,fun d h3 h4=>by omega⟩))
theorem qP{p:dZ}(h:Few p){c d:Int}(h0:0≤c)(h1:c<p.per):0≤kW p c∧kW p c<p.per∧((d-p.fr) % p.per=c↔d % p.per=kW p c):=by
 obtain⟨_,f0,f1,p0,p1,_,_,_,_⟩:=h
 unfold kW
 generalize p.per=per at *
 generalize p.fr=fr at *
 have hp:per=1∨per=2∨per=3∨per=4∨per=5∨per=6∨per=7:=by omega
 rcases hp with rfl | rfl | rfl | rfl | rfl | rfl | rfl<;>omega
theorem Rf{p:dZ}(h:Few p){d:Int}(hd:p.fr≤d):GR p d=true↔∃ c ∈ p.cyc,d % p.per=kW p c:=by
 unfold GR
 rw [if_pos hd,decide_eq_true_eq]
 constructor
 ·intro hm
  obtain⟨a,b⟩:=h.mem _ hm
  exact⟨_,hm,((qP h a b (d:=d)).2.2).1 rfl⟩
 ·rintro⟨c,hc,e⟩
  obtain⟨a,b⟩:=h.mem _ hc
  rw [((qP h a b (d:=d)).2.2).2 e]
  exact hc
theorem Ci{p:dZ}(h:Few p):jf p=true:=by
 have hr:∀(l:List Int) (last:Int),l.Pairwise (· < ·)→(∀ c ∈ l,last<c∧c<p.per)→dF p.per last l=true:=by
  intro l
  induction l with
  | nil=>intros;rfl
  | cons a l ih=>
   intro last hp hc
   have h1:=hc a List.mem_cons_self
   have h2:=List.pairwise_cons.1 hp
   simp only [dF,decide_eq_true h1.1,decide_eq_true h1.2,Bool.true_and]
   exact ih a h2.2 fun c hc'=>⟨h2.1 c hc',(hc c (List.mem_cons_of_mem _ hc')).2⟩
 have h4:=hr p.cyc (-1) h.ris fun c hc=>⟨by have:=(h.mem c hc).1;omega,(h.mem c hc).2⟩
 obtain⟨h0,f0,f1,p0,p1,_,h7,_,_⟩:=h
 unfold jf
 rw [h4,h0]
 simp [dF]
 omega
def LH(H:Heap)(g:Tg)(p:dZ)(n least:Int)(found:Bool):Prop:=(∃ a,H[0]?=some (.box [.f (sl g (dw [p]))] a))∧H[1]?=some (.box [.f (fi n)] 0)∧H[2]?=some (.box [.f (fi least)] 0)∧H[3]?=some (.box [.f (.bool found)] 0) ∧
 H[4]?=some (.box [.cl yI [.ptr 0 0 0,.ptr 4 0 0,.ptr 1 0 0,.ptr 2 0 0,.ptr 3 0 0]] 0)
theorem LH.push{H:Heap}{g:Tg}{p:dZ}{n least:Int}{found:Bool}(h:LH H g p n least found)(J:Heap):LH (H++J) g p n least found:=by
 obtain⟨⟨a,h0⟩,h1,h2,h3,h4⟩:=h
 refine⟨⟨a,?_⟩,?_,?_,?_,?_⟩
 ·rw [List.getElem?_append_left (aJ h0)];exact h0
 ·rw [List.getElem?_append_left (aJ h1)];exact h1
 ·rw [List.getElem?_append_left (aJ h2)];exact h2
 ·rw [List.getElem?_append_left (aJ h3)];exact h3
 ·rw [List.getElem?_append_left (aJ h4)];exact h4
theorem late1(g:Tg)(p:dZ)(H:Heap)(n least:Int)(found:Bool)(r:Int)(hH:LH H g p n least found)(h0:0≤r)(h1:r<p.per)(h2:p.per≤7)(hn:0≤n)(hn':n≤1000000) :
  ∃ v H',Ev tab.get (.fn yI) [vi 1,.a [.f (fi r),.f (fi p.per)],.c (.ptr 0 0 0),.c (.ptr 4 0 0),.c (.ptr 1 0 0),.c (.ptr 2 0 0),.c (.ptr 3 0 0)] H v H' ∧
   (v=.t []∧LH H' g p n (if upI n r p.per≤least then upI n r p.per else least) (found||decide (upI n r p.per≤least))∧∀ i:Nat,5≤i→i<H.length→H'[i]?=H[i]?):=by
 obtain⟨⟨a0,g0⟩,g1,g2,g3,g4⟩:=hH
 obtain⟨u1,u2,u3,-⟩:=zf h0 h1 h2 hn
 have l4:=aJ g4
 refine gW aF4 rfl fun Q hQ=>?_
 have tail:∀(t:T) (HH:Heap) (at':Int),at'=upI n r p.per→t.g 8=.c (.ptr H.length 0 0)→t.g 4=.c (.ptr 1 0 0)→t.g 5=.c (.ptr 2 0 0)→t.g 6=.c (.ptr 3 0 0)→LH HH g p n least found→HH[H.length]?=some (.box [.f (fi at'),.f (fi p.per)] 0)→(∀ i:Nat,5≤i→i<H.length→HH[i]?=H[i]?) →
   WP tab.get yI none [.code LQ] ⟨t,[],HH⟩ Q:=by
  rintro t HH _ rfl e8 e4 e5 e6 hLH q8 hkeep
  have q1:=hLH.2.1
  have q2:=hLH.2.2.1
  have q3:=hLH.2.2.2.1
  refine ak (aj (.inl rfl) ?_)
  simp [e8,e4,e5,q8,q1,q2,u1]
  by_cases k:upI n r p.per≤least
  ·refine aC (by simp [k]) ?_
   have q3':(HH.set 2 (.box [.f (fi (upI n r p.per))] 0))[3]?=some (.box [.f (.bool found)] 0):=by rw [List.getElem?_set_ne (by decide)];exact q3
   refine aj (.inl rfl) ?_
   simp [e8,e5,e6,q8,q2,q3']
   refine jF (hQ _ _ _ rfl rfl ⟨rfl,?_,fun i hi hl=>by rw [List.getElem?_set_ne (by omega),List.getElem?_set_ne (by omega)];exact hkeep i hi hl⟩)
   obtain⟨⟨a0,h0⟩,h1,h2,h3,h4⟩:=hLH
   refine⟨⟨a0,?_⟩,?_,?_,?_,?_⟩
   ·rw [List.getElem?_set_ne (by decide),List.getElem?_set_ne (by decide)];exact h0
   ·rw [List.getElem?_set_ne (by decide),List.getElem?_set_ne (by decide)];exact h1
   ·rw [List.getElem?_set_ne (by decide),List.getElem?_set_self (aJ h2)];simp [k]
   ·rw [List.getElem?_set_self (by rw [List.length_set];exact aJ h3)];simp [k]
   ·rw [List.getElem?_set_ne (by decide),List.getElem?_set_ne (by decide)];exact h4
  ·refine aA (by simp [k]) (aK ?_)
   refine jF (hQ _ _ _ rfl rfl ⟨rfl,?_,hkeep⟩)
   simpa [k]using hLH
 refine ak (aj (.inl rfl) ?_)
 simp
 have hHH:=LH.push (H:=H) (g:=g) (p:=p) (n:=n) (least:=least) (found:=found) ⟨⟨a0,g0⟩,g1,g2,g3,g4⟩ [.box [.f (fi r),.f (fi p.per)] 0]
 have h8:(H++[Blk.box [.f (fi r),.f (fi p.per)] 0])[H.length]?=some (.box [.f (fi r),.f (fi p.per)] 0):=by simp
 have hkp:∀ i:Nat,5≤i→i<H.length→(H++[Blk.box [.f (fi r),.f (fi p.per)] 0])[i]?=H[i]?:=fun i _ hl=>List.getElem?_append_left hl
 generalize H++[Blk.box [.f (fi r),.f (fi p.per)] 0]=HH at hHH h8 hkp ⊢
 obtain⟨a1,r0⟩:=hHH.1
 have r1:=hHH.2.1
 refine ak ?_
 refine ak (aj (.inl rfl) ?_)
 simp [r0]
 refine aA (by simp) (aK ?_)
 refine ak ?_
 refine ak (aj (.inl rfl) ?_)
 by_cases k:r<n
 ·simp [r1,h8,k,show 0<p.per by omega]
  refine aC (by simp) ?_
  have hup:upI n r p.per=r+(n-r+p.per-1) / p.per*p.per:=by unfold upI;rw [if_pos k]
  have hq:=Nh (a:=n-r+p.per-1) (b:=p.per) (by omega) (by omega) (by omega)
  have b1:(n-r+p.per-1) / p.per*p.per=upI n r p.per-r:=by omega
  refine aj (.inl rfl) ?_
  simp [r1,h8,wrap64 (n:=n-r) (by omega) (by omega),wrap64 (n:=n-r+p.per) (by omega) (by omega),wrap64 (n:=n-r+p.per-1) (by omega) (by omega),hq,b1,wrap64 (n:=upI n r p.per-r) (by omega) (by omega),wrap64 (n:=r+(upI n r p.per-r)) (by omega) (by omega)]
  refine tail _ _ _ (show r+(upI n r p.per-r)=_ by omega) (by simp) (by simp) (by simp) (by simp) ?_ (List.getElem?_set_self (aJ h8)) fun i hi hl=>by rw [List.getElem?_set_ne (by omega)];exact hkp i hi hl
  obtain⟨⟨a1,h0⟩,h1,h2,h3,h4⟩:=hHH
  refine⟨⟨a1,?_⟩,?_,?_,?_,?_⟩
  all_goals (rw [List.getElem?_set_ne (by omega)];assumption)
 ·simp [r1,h8,k]
  refine aA (by simp) (aK ?_)
  exact tail _ _ r (by unfold upI;rw [if_neg k]) (by simp) (by simp) (by simp) (by simp) hHH h8 hkp
end Go.Proofs.YtijkmcapnnlpjaaGreat
end
section
namespace Go.Proofs.YtijkmcapnnlpjaaGreat
open Go Km
theorem late0(g:Tg)(p:dZ)(hp:Few p)(H:Heap)(n:Int)(hH:LH H g p n 1152921504606846976 false)(hn:0≤n)(hn':n≤1000000) :
  ∃ v H',Ev tab.get (.fn yI) [vi 0,.a [.f (fi 0),.f (fi 1)],.c (.ptr 0 0 0),.c (.ptr 4 0 0),.c (.ptr 1 0 0),.c (.ptr 2 0 0),.c (.ptr 3 0 0)] H v H' ∧
   (v=.t []∧∃ d,LH H' g p n d true∧(∃ c ∈ p.cyc,d=upI n (kW p c) p.per)∧∀ c ∈ p.cyc,d≤upI n (kW p c) p.per):=by
 refine gW aF4 rfl fun Q hQ=>?_
 have hrow:=fun H:Heap=>dI (H:=H) (gK [p]) (jd (l:=[p]) (j:=0) (by simp))
 have hcell:=fun H:Heap=>kY (H:=H) (k:=3) (gK [p]) (jd (l:=[p]) (j:=0) (by simp)) rfl
 have ath:=fun H:Heap=>kY (H:=H) (k:=2) (gK [p]) (jd (l:=[p]) (j:=0) (by simp)) rfl
 have hidx:=fun H:Heap=>bQ (H:=H) (g:=g) (rows:=dw [p]) (sz:=4) (k:=.i64) (i:=0) (by omega) (by simp)
 simp [dZ.row]at hrow hidx hcell ath
 have l4:=aJ hH.2.2.2.2
 have hlen:=hp.len
 refine ak (aj (.inl rfl) ?_)
 simp
 have hHH:=hH.push [.box [.f (fi 0),.f (fi 1)] 0]
 have h8:(H++[Blk.box [.f (fi 0),.f (fi 1)] 0])[H.length]?=some (.box [.f (fi 0),.f (fi 1)] 0):=by simp
 obtain⟨b8,hb8⟩:∃ b8,b8=H.length:=⟨_,rfl⟩
 rw [←hb8]at h8 ⊢
 generalize H++[Blk.box [.f (fi 0),.f (fi 1)] 0]=HH at hHH h8 ⊢
 obtain⟨a0,q0⟩:=hHH.1
 refine ak ?_
 refine ak (aj (.inl rfl) ?_)
 simp [q0]
 refine aC (by simp) ?_
 refine ak ?_
 refine ak (aj (.inl rfl) ?_)
 simp [q0,hidx,hcell]
 refine fA p.cyc.length (fun j t H'=>t.g 0=vi 0∧t.g 2=.c (.ptr 0 0 0)∧t.g 3=.c (.ptr 4 0 0)∧t.g 8=.c (.ptr b8 0 0)∧t.g 21=.c (.f (sl p.cg (ints p.cyc)))∧H'[b8]?=some (.box [.f (fi 0),.f (fi 1)] 0) ∧
  ((j=0∧LH H' g p n 1152921504606846976 false)∨(0<j∧∃ d,LH H' g p n d true∧(∃ c ∈ p.cyc.take j,d=upI n (kW p c) p.per)∧∀ c ∈ p.cyc.take j,d≤upI n (kW p c) p.per))) (by omega) (by decide) (by decide) (by simp) (by simp)
  ⟨by simp,by simp,by simp,by simp,by simp,h8,.inl ⟨rfl,hHH⟩⟩ ?_ ?_
 ·rintro j t H' hj ⟨g0,g2,g3,g8,g21,h8,hI⟩ ha hb next
  obtain⟨least,found,hLH,hcase⟩:∃ least found,LH H' g p n least found∧((j=0∧least=1152921504606846976∧found=false)∨(0<j∧found=true∧(∃ c ∈ p.cyc.take j,least=upI n (kW p c) p.per)∧∀ c ∈ p.cyc.take j,least≤upI n (kW p c) p.per)):=by
   rcases hI with⟨h,h'⟩ | ⟨h,d,h1,h2,h3⟩
   ·exact⟨_,_,h',.inl ⟨h,rfl,rfl⟩⟩
   ·exact⟨_,_,h1,.inr ⟨h,rfl,h2,h3⟩⟩
  have hm:=hp.mem p.cyc[j] (List.getElem_mem hj)
  have hrs:=qP hp hm.1 hm.2 (d:=0)
  have hres:=AL p hp p.cyc[j] hm.1 hm.2
  have aQ4:=asY p.per (kW p p.cyc[j]) hp.TI hrs.1 hrs.2.1
  obtain⟨u1,u2,u3,-⟩:=zf hrs.1 hrs.2.1 hp.TI hn
  simp [dZ.row]at hres
  have htk:p.cyc.take (j+1)=p.cyc.take j++[p.cyc[j]]:=by rw [List.take_add_one,List.getElem?_eq_getElem hj];rfl
  obtain⟨a1,e0⟩:=hLH.1
  have e4:=hLH.2.2.2.2
  obtain⟨v,H2,hev,rfl,hL2,hk2⟩:=late1 g p (H'++[.box [.f (fi (kW p p.cyc[j])),.f (fi p.per)] 0]) n least found (kW p p.cyc[j]) (hLH.push _) hrs.1 hrs.2.1 hp.TI hn hn'
  have hev:=hev.eq
  have k4:(H'++[Blk.box [.f (fi (kW p p.cyc[j])),.f (fi p.per)] 0])[4]?=some (.box [.cl yI [.ptr 0 0 0,.ptr 4 0 0,.ptr 1 0 0,.ptr 2 0 0,.ptr 3 0 0]] 0):=by rw [List.getElem?_append_left (aJ e4)];exact e4
  have kN:(H'++[Blk.box [.f (fi (kW p p.cyc[j])),.f (fi p.per)] 0])[H'.length]?=some (.box [.f (fi (kW p p.cyc[j])),.f (fi p.per)] 0):=by simp
  have kl:(H'++[Blk.box [.f (fi (kW p p.cyc[j])),.f (fi p.per)] 0]).length=H'.length+1:=by simp
  have kb:(H'++[Blk.box [.f (fi (kW p p.cyc[j])),.f (fi p.per)] 0])[b8]?=some (.box [.f (fi 0),.f (fi 1)] 0):=by rw [List.getElem?_append_left (aJ h8)];exact h8
  refine aP ?_
  refine ak (aj (.inl rfl) ?_)
  simp [ha,g21,bQ,hj,ou]
  refine ak (aj (.inl rfl) ?_)
  simp [g0,g2,g8,h8,e0,hidx,hrow,ath,hres,aQ4]
  refine ak ?_
  refine aj (.inl rfl) ?_
  simp
  generalize H'++[Blk.box [.f (fi (kW p p.cyc[j])),.f (fi p.per)] 0]=HA at hev k4 kN kl kb hk2 ⊢
  refine aC (by simp) ?_
  refine aj (.inl rfl) ?_
  simp [g0,g3,k4,kN,wrap64 (n:=1) (by omega) (by omega),dB,hev]
  refine aN (next _ _ ?_ (by simp [ha]) (by simp [hb]))
  have hb5:5≤b8:=by omega
  refine⟨by simp [g0],by simp [g2],by simp [g3],by simp [g8],by simp [g21],?_,.inr ⟨by omega,(if upI n (kW p p.cyc[j]) p.per≤least then upI n (kW p p.cyc[j]) p.per else least),?_,?_,?_⟩⟩
  ·rw [hk2 b8 hb5 (by rw [kl];have:=aJ h8;omega)];exact kb
  ·have hf:(found||decide (upI n (kW p p.cyc[j]) p.per≤least))=true:=by
    rcases hcase with⟨_,rfl,rfl⟩ | ⟨_,rfl,_⟩
    ·simp;omega
    ·simp
   rw [hf]at hL2
   exact hL2
  ·rw [htk]
   rcases hcase with⟨rfl,rfl,rfl⟩ | ⟨_,rfl,⟨c,hc,e⟩,h⟩
   ·exact⟨p.cyc[0],by simp,by rw [if_pos (by omega)]⟩
   ·split
    ·exact⟨p.cyc[j],List.mem_append_right _ (List.mem_singleton.2 rfl),rfl⟩
    ·exact⟨c,List.mem_append_left _ hc,e⟩
  ·intro c hc
   rw [htk,List.mem_append,List.mem_singleton]at hc
   rcases hcase with⟨rfl,rfl,rfl⟩ | ⟨_,rfl,_,h⟩
   ·rw [if_pos (by omega)]
    rcases hc with hc | rfl
    ·simp at hc
    ·exact Int.le_refl _
   ·rcases hc with hc | rfl
    ·have:=h c hc
     split<;>omega
    ·split<;>omega
 ·rintro t H' ⟨g0,g2,g3,g8,g21,h8,hI⟩ - -
  have hN:0<p.cyc.length:=List.length_pos_iff.2 hp.cyc
  rcases hI with⟨h,_⟩ | ⟨_,d,h1,h2,h3⟩
  ·omega
  ·rw [List.take_length]at h2 h3
   exact aO (hQ _ _ _ rfl rfl ⟨rfl,d,h1,h2,h3⟩)
theorem atd(g:Tg)(p:dZ)(hp:Few p)(n:Int)(hn:0≤n)(hn':n≤100000):∃ d,(n≤d∧p.fr≤d∧GR p d=true∧d≤1000007∧∀ d',n≤d'→p.fr≤d'→GR p d'=true→d≤d') ∧
  Km.Pure tab.get RX [.c (.f (sl g (dw [p]))),vi n]=Eq (.t [vi d,vb true]):=by
 have key:∃ r,(∃ d,(n≤d∧p.fr≤d∧GR p d=true∧d≤1000007∧∀ d',n≤d'→p.fr≤d'→GR p d'=true→d≤d')∧r=.t [vi d,vb true])∧Km.Pure tab.get RX [.c (.f (sl g (dw [p]))),vi n] r:=by
  refine lD aTQ rfl fun Q hQ=>?_
  have hst:=W9 g p hp
  have f0:=hp.fr0
  have f1:=hp.fr1
  obtain⟨m,hm⟩:∃ m,m=max n p.fr:=⟨_,rfl⟩
  obtain⟨v,H',hev,rfl,d,hL,⟨c,hc,hd⟩,hmin⟩:=late0 g p hp [.box [.f (sl g (dw [p]))] 0,.box [.f (fi m)] 0,.box [.f (fi 1152921504606846976)] 0,.box [.f (.bool false)] 0,.box [.cl yI [.ptr 0 0 0,.ptr 4 0 0,.ptr 1 0 0,.ptr 2 0 0,.ptr 3 0 0]] 0] m
   ⟨⟨0,rfl⟩,rfl,rfl,rfl,rfl⟩ (by omega) (by omega)
  refine ak (aj (.inl rfl) ?_)
  simp
  refine ak (aj (.inl rfl) ?_)
  simp [hst,←hm]
  refine ak (aj (.inl rfl) ?_)
  simp
  refine ak (aj (.inl rfl) ?_)
  simp
  refine ak (aj (.inl rfl) ?_)
  simp
  refine ak (aj (.inl rfl) ?_)
  simp [dB,hev.eq]
  refine ak ?_
  refine ak (aj (.inl rfl) ?_)
  simp [hL.2.2.2.1]
  refine aA (by simp) (aK ?_)
  refine ak (aj (.inl rfl) ?_)
  simp [hL.2.2.1]
  have hmc:=hp.mem c hc
  have hrs:=fun d=>qP hp hmc.1 hmc.2 (d:=d)
  obtain⟨u1,u2,u3,u4⟩:=zf (hrs 0).1 (hrs 0).2.1 hp.TI (show 0≤m by omega)
  rw [←hd]at u1 u2 u3 u4
  refine aO (hQ _ _ _ ⟨d,⟨by omega,by omega,(Rf hp (by omega)).2 ⟨c,hc,u2⟩,by omega,fun d' h1 h2 h3=>?_⟩,rfl⟩ ?_)
  ·obtain⟨c',hc',e⟩:=(Rf hp h2).1 h3
   have aQ5:=hp.mem c' hc'
   have aQ1:=qP hp aQ5.1 aQ5.2 (d:=0)
   obtain⟨-,-,-,w4⟩:=zf aQ1.1 aQ1.2.1 hp.TI (show 0≤m by omega)
   have:=hmin c' hc'
   have:=w4 d' (by omega) e
   omega
  ·simp
 obtain⟨r,⟨d,hd,rfl⟩,h⟩:=key
 exact⟨d,hd,Km.Pure.eq h⟩
end Go.Proofs.YtijkmcapnnlpjaaGreat
end
section
namespace Go.Proofs.YtijkmcapnnlpjaaGreat
open Go Km
theorem SH(x:FC):Km.Pure tab.get ZY [.c (.f x)]=Eq (.c (.f (.fn yG [.fp [x] 0]))):=by
 refine Km.Pure.eq (gY aS8 rfl fun Q hQ=>?_)
 refine ak (aj (.inl rfl) ?_)
 simp
 refine ak (aj (.inl rfl) ?_)
 simp
 refine aO (hQ _ _ ?_)
 simp [deep]
theorem apG{b:Nat}{H H':Heap}(g:Tg)(t:kD)(hy:Ev tab.get (.yield b) [.c (.f (sl t.tg (dw t.fs)))] H (vb true) H') :
  ∃ r H2,Ev tab.get (.fn yG) [.c (.yl b),.c (.f (.fp [sl g (bW [t])] 0))] H r H2∧(r=.t []∧H2=H'):=by
 refine gW aS7 rfl fun Q hQ=>?_
 have hrow:=fun H:Heap=>zq (H:=H) (sZ [t]) (xX (l:=[t]) (j:=0) (by simp)) rfl
 have hidx:=fun H:Heap=>bQ (H:=H) (g:=g) (rows:=bW [t]) (sz:=1) (k:=.i64) (i:=0) (by omega) (by simp)
 simp at hrow hidx
 refine ak (aj (.inl rfl) ?_)
 simp [qZ]
 refine fA 1 (fun j s J=>t=t∧s.g 0=.c (.yl b)∧s.g 5=.c (.f (sl g (bW [t])))∧(j=0→J=H)∧(j=1→J=H')) (by omega) (by decide) (by decide) (by simp) (by simp) ⟨rfl,by simp,by simp,by simp,by simp⟩ ?_ ?_
 ·rintro j s J hj ⟨-,g0,g5,hJ,-⟩ ha hb next
  have:j=0:=by omega
  subst this
  obtain rfl:=hJ rfl
  simp at ha
  refine aP ?_
  refine ak (aj (.inl rfl) ?_)
  simp [g5,ha,hidx,hrow]
  refine ak (aj (.inl rfl) ?_)
  simp [g0,hy.eq]
  refine aA (by simp) (aK ?_)
  refine aN (next _ _ ?_ (by simp [ha]) (by simp [hb]))
  exact⟨rfl,by simp [g0],by simp [g5],by simp,by simp⟩
 ·rintro s J ⟨-,g0,g5,-,hJ⟩ ha hb
  obtain rfl:=hJ rfl
  exact jF (hQ _ _ _ rfl rfl ⟨rfl,rfl⟩)
def Ru(p:dZ)(n d:Int):Prop:=n≤d∧p.fr≤d∧GR p d=true∧d≤1000007∧∀ d',n≤d'→p.fr≤d'→GR p d'=true→d≤d'
theorem YG(g:Tg)(t:kD)(p:dZ)(ht:t.fs=[p])(hp:Few p)(n:Int)(hn:0≤n)(hn':n≤100000):∃ d,Ru p n d ∧
  Km.Pure tab.get FT [.c (.f (.fn yG [.fp [sl g (bW [t])] 0])),vi n]=Eq (.t [vi d,vb true]):=by
 obtain⟨d,hd,aRa⟩:=atd t.tg p hp n hn hn'
 refine⟨d,hd,?_⟩
 have key:∃ r,(r=.t [vi d,vb true])∧Km.Pure tab.get FT [.c (.f (.fn yG [.fp [sl g (bW [t])] 0])),vi n] r:=by
  refine AY aTP rfl fun Q hQ=>?_
  have He:=Zi t.tg p hp n
  have hrec:=Tj t.tg p hp
  have fin:∀ s:T,s.g 3=.c (.ptr 0 0 0)→s.g 6=.c (.ptr 1 0 0)→s.g 7=.c (.ptr 2 0 0)→s.g 11=.c (.f (.fn yG [.fp [sl g (bW [t])] 0])) →
    WP tab.get FT none [.code SC,.inBlock 0,.code LM] ⟨s,[],[.box [.f (fi n)] 0,.box [.f (fi 0)] 0,.box [.f (.bool false)] 0]⟩ Q:=by
   intro s g3 g6 g7 g11
   obtain⟨r,H',hy,rfl,q1,q2,q3,f2,tm,ps,aa,bd,q4⟩:=rH (tab:=tab.get) (b:=4) (args:=[.c (.f (sl t.tg (dw t.fs)))])
    (H:=[.box [.f (fi n)] 0,.box [.f (fi 0)] 0,.box [.f (.bool false)] 0,.dfr true,.lp FT s [P.nat 12] SB LP .ready none 3])
    (C:=fun r H'=>r=vb true∧H'[1]?=some (.box [.f (fi d)] 0)∧H'[2]?=some (.box [.f (.bool true)] 0)∧H'[3]?=some (.dfr true)∧∃ f2 tm ps aa bd,H'[4]?=some (.lp f2 tm ps aa bd .ready none 3)) rfl rfl fun Q' hQ'=>by
     rw [ht]
     refine aj (.inr rfl) ?_
     simp
     refine GZ rfl ?_
     simp
     refine aP ?_
     refine ak (aj (.inr rfl) ?_)
     simp [g3,He]
     refine ak ?_
     refine ak (aj (.inr rfl) ?_)
     simp [g3,hrec,show n≤1152921504606846976 by omega]
     refine aC (by simp) ?_
     refine aj (.inr rfl) ?_
     simp [g3,aRa]
     refine ak ?_
     refine aj (.inr rfl) ?_
     simp [g7]
     refine aC (by simp) ?_
     refine aj (.inr rfl) ?_
     simp [g6,g7]
     refine aN (jF (hQ' _ _ _ _ _ _ _ _ _ _ rfl rfl ?_))
     exact⟨rfl,rfl,rfl,rfl,_,_,_,_,_,rfl⟩
   obtain⟨r,H2,e1,rfl,rfl⟩:=apG g t hy
   refine wY (g:=yG) (by rw [aut,g11];simp [dB]) e1 ?_
   refine BQ q4 (by decide) ?_
   refine aN ?_
   refine ak (aj (.inl rfl) ?_)
   have w1:(H2.set 4 (.lp f2 tm ps aa bd .exhausted none 3))[1]?=some (.box [.f (fi d)] 0):=by rw [List.getElem?_set_ne (by decide)];exact q1
   have w2:(H2.set 4 (.lp f2 tm ps aa bd .exhausted none 3))[2]?=some (.box [.f (.bool true)] 0):=by rw [List.getElem?_set_ne (by decide)];exact q2
   have w3:(H2.set 4 (.lp f2 tm ps aa bd .exhausted none 3))[3]?=some (.dfr true):=by rw [List.getElem?_set_ne (by decide)];exact q3
   simp [g6,g7,w1,w2]
   refine aO (hQ _ _ _ rfl (.inr ⟨3,rfl,w3,.t [vi d,vb true],?_,by simp [exV,fU,bD]⟩))
   simp [Km.results,fH,bD]
  refine ak (aj (.inl rfl) ?_)
  simp
  refine ak (aj (.inl rfl) ?_)
  simp
  refine ak ?_
  refine ak (aj (.inl rfl) ?_)
  simp
  refine aP ?_
  exact fin _ (by simp) (by simp) (by simp) (by simp)
 obtain⟨r,rfl,h⟩:=key
 exact h.eq
theorem asT(g:Tg)(t:kD)(p:dZ)(ht:t.fs=[p])(hp:Few p)(n:Int)(hn:0≤n)(hn':n≤100000):∃ d,Ru p n d ∧
  Km.Pure tab.get aak [.a [.f (sl g (bW [t]))],vi n]=Eq (.t [vi d,vb true]):=by
 obtain⟨d,hd,hl⟩:=YG g t p ht hp n hn hn'
 refine⟨d,hd,Km.Pure.eq (gY aTU rfl fun Q hQ=>?_)⟩
 have hpb:=Ci hp
 have hmx:BI [t]=true:=by simp [BI,qJ,ht,hpb]
 have hm:=Yv g [t] (by simp) (by simp [kD.Sm,ht];exact Qu hpb)
 rw [hmx]at hm
 have hv:=SH (sl g (bW [t]))
 have hx:max n 0=n:=by omega
 refine ak (aj (.inl rfl) ?_)
 simp
 refine ak ?_
 refine ak (aj (.inl rfl) ?_)
 simp [hm]
 refine aA (by simp) (aK ?_)
 refine ak (aj (.inl rfl) ?_)
 simp [hv,hx,hl]
 refine aO (hQ _ _ ?_)
 simp
end Go.Proofs.YtijkmcapnnlpjaaGreat
end
section
namespace Go.Proofs.YtijkmcapnnlpjaaGreat
open Go Km
theorem QU:∀(l:List Int) (a k:Int),l.Pairwise (· < ·)→(∀ x ∈ l,a≤x∧x<a+k)→(l.length:Int)≤max k 0
 | [],_,_,_,_=>by simp;omega
 | x::l,a,k,hp,h=>by
  have h1:=h x List.mem_cons_self
  have h2:=List.pairwise_cons.1 hp
  have:=QU l (x+1) (a+k-x-1) h2.2 fun y hy=>⟨by have:=h2.1 y hy;omega,by have:=h y (List.mem_cons_of_mem _ hy);omega⟩
  simp only [List.length_cons]
  omega
theorem at7(s0 s2 c0:FC)(len mi wf wt:Int):Km.Pure tab.get aL8 [.a [.f s0,.f (fi len),.f s2],.a [.f c0,.f (fi mi)],.a [.f (fi wf),.f (fi wt)]] =
  Eq (.c (.f (.fn U5 [.fp [fi wf,fi wt] 0,.fp [s0,fi len,s2] 0,.fp [c0,fi mi] 0]))):=by
 refine Km.Pure.eq (gY aYZ rfl fun Q hQ=>?_)
 refine ak (aj (.inl rfl) ?_)
 simp
 refine ak (aj (.inl rfl) ?_)
 simp
 refine aO (hQ _ _ ?_)
 simp [deep]
def DC(p:dZ)(n0 mi wt d:Int):Prop:=n0≤d∧p.fr≤d∧GR p d=true∧d*1440+mi<wt
theorem aua{b:Nat}{H:Heap}{PP:List Int→Heap→Prop}(g:Tg)(t:kD)(p:dZ)(ht:t.fs=[p])(hp:Few p)(s0 s2:FC)(len mi wf wt:Int)(hl0:0≤len)(hl1:len≤220)(hm0:0≤mi)(hm1:mi≤1440)
  (hf0:-100≤wf) (hw:wt≤1000000) (hfw:wf≤wt) (n0:Int) (hn:n0=max 0 ((wf-len-mi) / 1440+1)) (h0:PP [] H)
  (hy:∀ ds d H,PP ds H→0≤d→d≤1000→(ds.length:Int)≤d→∃ H',Ev tab.get (.yield b) [vi d] H (vb true) H'∧PP (ds++[d]) H') :
  ∃ r H',Ev tab.get (.fn U5) [.c (.yl b),.c (.f (.fp [fi wf,fi wt] 0)),.c (.f (.fp [s0,fi len,s2] 0)),.c (.f (.fp [sl g (bW [t]),fi mi] 0))] H r H' ∧
   (r=.t []∧∃ ds,PP ds H'∧ds.Pairwise (· < ·)∧∀ d,d ∈ ds↔DC p n0 mi wt d):=by
 refine gW aYY rfl fun Q hQ=>?_
 have hfl:=Y7 (wf-len-mi) (by omega) (by omega)
 have aQX:=fun d=>SK s0 s2 (sl g (bW [t])) len mi d (by omega) (by omega) (by omega) (by omega)
 refine ak (aj (.inl rfl) ?_)
 simp [qZ,wrap64 (n:=wf-len) (by omega) (by omega),wrap64 (n:=wf-len-mi) (by omega) (by omega),hfl,wrap64 (n:=(wf-len-mi) / 1440+1) (by omega) (by omega),←hn]
 refine aP ?_
 refine dA (fun m s=>∃(cur:Int) (T0:T) (J:Heap) (ds:List Int),s=⟨T0,[],J⟩∧(m:Int)=1100-cur∧n0≤cur∧cur≤1000∧T0.g 0=.c (.yl b)∧T0.g 1=.c (.f (.fp [fi wf,fi wt] 0))∧T0.g 2=.c (.f (.fp [s0,fi len,s2] 0))∧T0.g 3=.c (.f (.fp [sl g (bW [t]),fi mi] 0))∧T0.g 5=vi cur ∧
  PP ds J∧ds.Pairwise (· < ·)∧(∀ d ∈ ds,d<cur)∧(ds.length:Int)≤cur∧∀ d,d<cur→(d ∈ ds↔DC p n0 mi wt d)) (1100-n0).toNat
  ⟨n0,_,H,[],rfl,by omega,by omega,by omega,by simp,by simp,by simp,by simp,by simp,h0,by simp,by simp,by simp;omega,fun d hd=>by simp [DC];omega⟩ ?_
 rintro m s ⟨cur,T0,J,ds,rfl,hm,hc0,hc1,g0,g1,g2,g3,g5,hPP,hpw,hlt,hdl,hmem⟩ ih
 obtain⟨d,⟨d1,d2,d3,d4,d5⟩,hnx⟩:=asT g t p ht hp cur (by omega) (by omega)
 have htk:d≤(2251799813685248-mi-len) / 1440:=by omega
 refine aP ?_
 refine ak (aj (.inl rfl) ?_)
 simp [g3,g5,qZ,hnx]
 refine ak ?_
 by_cases k:wt≤d*1440+mi
 ·refine ak (aj (.inl rfl) ?_)
  simp [g1,g2,g3,qZ,aQX,htk,wrap64 (n:=d*1440) (by omega) (by omega),wrap64 (n:=d*1440+mi) (by omega) (by omega),k]
  refine aC (by simp) ?_
  refine aO (hQ _ _ _ rfl rfl ⟨rfl,ds,hPP,hpw,fun e=>?_⟩)
  by_cases he:e<cur
  ·exact hmem e he
  ·refine⟨fun h=>absurd (hlt e h) he,fun⟨e1,e2,e3,e4⟩=>?_⟩
   have:=d5 e (by omega) e2 e3
   omega
 ·obtain⟨J',hev,aYE⟩:=hy ds d J hPP (by omega) (by omega) (by omega)
  refine ak (aj (.inl rfl) ?_)
  simp [g0,g1,g2,g3,qZ,aQX,htk,wrap64 (n:=d*1440) (by omega) (by omega),wrap64 (n:=d*1440+mi) (by omega) (by omega),k,hev.eq]
  refine aA (by simp) (aK ?_)
  refine aj (.inl rfl) ?_
  simp [wrap64 (n:=d+1) (by omega) (by omega)]
  refine aN (ih (1100-(d+1)).toNat _ (by omega) ⟨d+1,_,J',ds++[d],rfl,by omega,by omega,by omega,by simp [g0],by simp [g1],by simp [g2],by simp [g3],by simp,aYE,?_,fun e he=>?_,by simp;omega,fun e he=>?_⟩)
  ·rw [List.pairwise_append]
   exact⟨hpw,List.pairwise_singleton _ _,fun x hx y hy=>by obtain rfl:=List.mem_singleton.1 hy;have:=hlt x hx;omega⟩
  ·rcases List.mem_append.1 he with he | he
   ·have:=hlt e he;omega
   ·obtain rfl:=List.mem_singleton.1 he;omega
  ·rw [List.mem_append,List.mem_singleton]
   by_cases hc:e<cur
   ·rw [hmem e hc]
    exact⟨fun h=>h.elim id fun h=>absurd h (by omega),.inl⟩
   ·refine⟨fun h=>?_,fun⟨e1,e2,e3,e4⟩=>.inr ?_⟩
    ·rcases h with h | rfl
     ·exact absurd (hlt e h) hc
     ·exact⟨by omega,d2,d3,by omega⟩
    ·have:=d5 e (by omega) e2 e3
     omega
end Go.Proofs.YtijkmcapnnlpjaaGreat
end
section
namespace Go.Proofs.YtijkmcapnnlpjaaGreat
open Go Km
def uw:Blk→Bool
 | .opn _ _ _ _ _=>false
 | _=>true
def LI(H:Heap)(c:C)(o:List aS):Prop:=(o=[]∧c=.f .ay)∨(o≠[]∧∃ b ep,c=.sl b 0 o.length 0 ep 3∧RB H b 3 ep (aH o))
theorem LI.push{H:Heap}{c:C}{o:List aS}(h:LI H c o)(J:Heap):LI (H++J) c o:=by
 rcases h with h | ⟨h,b,ep,h1,h2⟩
 ·exact .inl h
 ·exact .inr ⟨h,b,ep,h1,h2.push J⟩
theorem LI.set{H:Heap}{c:C}{o:List aS}(h:LI H c o){i:Nat}{x:Blk}(hi:H[i]?=some x)(hx:uw x=true)(y:Blk):LI (H.set i y) c o:=by
 rcases h with h | ⟨h,b,ep,h1,h2⟩
 ·exact .inl h
 ·refine .inr ⟨h,b,ep,h1,?_⟩
  unfold RB at h2 ⊢
  have:i≠b:=by rintro rfl;rw [h2]at hi;cases hi;cases hx
  rw [List.getElem?_set_ne this];exact h2
theorem Ei(o:List aS)(x:aS):(aH (o++[x])).flatten=(aH o).flatten++x.row:=by simp [aH]
theorem LI.app{H:Heap}{c:C}{o:List aS}(h:LI H c o)(hl:o.length≤1000000){b1 fl:Nat}{x:aS}(hb1:H[b1]?=some (.box (x.row.map .f) fl)) :
  ∃ c' H',dh H 3 24 (.c c) (.c (.sl b1 0 1 1 0 3))=some (.c c',H')∧LI H' c' (o++[x])∧H.length≤H'.length∧∀(i:Nat) y,H[i]?=some y→uw y=true→H'[i]?=some y:=by
 have hadd:fE H 3 (.c (.sl b1 0 1 1 0 3))=some (1,x.row.map .f):=lq hb1 (by rfl)
 rcases h with⟨rfl,rfl⟩ | ⟨hne,b,ep,rfl,h2⟩
 ·have hroom:bP 1 24=true:=by simp [bP]
  refine⟨.sl H.length 0 1 0 0 3,H++[.opn 3 (x.row.map .f) 0 0 .loc],?_,.inr ⟨by simp,H.length,0,by simp,?_⟩,by simp,fun i y hy _=>by rw [List.getElem?_append_left (aJ hy)];exact hy⟩
  ·simp [dh,hadd,hroom]
  ·unfold RB;simp [aH]
 ·have hroom:bP (o.length+1) 24=true:=by simp [bP];omega
  have hlen:o.length*3=(aH o).flatten.length:=by rw [bK (bI o),kM]
  unfold RB at h2
  refine⟨.sl b 0 (o.length+1) 0 (ep+1) 3,H.set b (.opn 3 ((aH o).flatten.map .f++x.row.map .f) 0 (ep+1) .loc),?_,.inr ⟨by simp,b,ep+1,by simp,?_⟩,by simp,fun i y hy hn=>?_⟩
  ·have h30:(3:Nat)≠0:=by decide
   simp only [dh,hadd,h30,if_false,h2,and_self,if_true]
   simp only [Nat.add_one_ne_zero,if_false]
   rw [if_pos ⟨trivial,by rw [List.length_map];exact hlen,by omega⟩,hroom]
   simp
  ·unfold RB
   rw [List.getElem?_set_self (aJ h2),Ei,List.map_append]
  ·have:b≠i:=by rintro rfl;rw [h2]at hy;cases hy;cases hn
   rw [List.getElem?_set_ne this];exact hy
theorem aF8{H:Heap}{b ep n:Nat}{l R:List aS}(h:RB H b 3 ep (aH (l++R))):exC (n+1) H (.sl b 0 l.length 0 ep 3)=some (sl .fs (aH l)):=by
 unfold RB at h
 have hl:l.length*3=(aH l).flatten.length:=by rw [bK (bI l),kM]
 have e:(aH (l++R)).flatten=(aH l).flatten++(aH R).flatten:=by simp [aH]
 simp only [oV,h]
 rw [if_pos ⟨trivial,trivial,by rw [List.length_map,e,List.length_append];omega⟩,e,List.drop_zero,List.map_append,List.take_append_of_le_length (by rw [List.length_map];omega),List.take_of_length_le (by rw [List.length_map];omega)]
 rw [qX]
 cases l with
 | nil=>simp [sl,aH,Tg.fc]
 | cons x l=>simp [sl,aH]
theorem J4{H:Heap}:∃ r H',Ev tab.get (.fn KH) [.c (.f .ay)] H r H'∧(r=.c (.f .ay)∧H'=H):=by
 refine gW aF2 rfl fun Q hQ=>?_
 refine ak (aj (.inl rfl) ?_)
 simp
 refine ak ?_
 refine ak (aj (.inl rfl) ?_)
 simp [cO]
 refine aC (by simp) ?_
 refine ak (aj (.inl rfl) ?_)
 simp
 exact aO (hQ _ _ _ rfl (res_one (by simp)) ⟨rfl,rfl⟩)
theorem Oq{f p:Int}{l:List Int}(h0:0≤f)(h1:f≤8)(h2:1≤p)(h3:p≤7)(h4:l≠[])(h5:Dl p l):Few (iW f p l):=
 ⟨rfl,h0,by show f≤1000;omega,h2,h3,h4,h5.2.2,h5.1,h5.2.1⟩
def aMc(cs:List eP):Prop:=cs=[]∨∃ f p l mi,cs=[⟨.fs,[⟨.fs,[iW f p l]⟩],mi⟩]∧0≤f∧f≤8∧1≤p∧p≤7∧l≠[]∧Dl p l∧0≤mi∧mi≤1245
def Il(len:Int)(x:aS):Prop:=x.to=x.fr+len∧0≤x.day∧x.day≤13∧0≤x.fr∧x.fr≤20000
def mY(s:dD):Prop:=aMc s.cs∧15≤s.len∧s.len≤220∧s.xs.length≤3∧s.xs.Pairwise aS.lt∧∀ x ∈ s.xs,Il s.len x
theorem pF.two{s:dD}(h:pF s):mY s:=by
 obtain⟨h1,h2,h3,h4,h5,h6⟩:=h
 refine⟨?_,h2,by omega,h4,h5,fun x hx=>?_⟩
 ·rcases h1 with e | ⟨f,p,l,mi,e,a1,a2,a3,a4,a5,a6,a7,a8⟩
  ·exact .inl e
  ·exact .inr ⟨f,p,l,mi,e,a1,a2,a3,a4,a5,a6,by omega,a8⟩
 ·obtain⟨b1,b2,b3,b4,b5⟩:=h6 x hx
  exact⟨b1,b2,b3,by omega,b5⟩
theorem qM{s:dD}(h:mY s):s.Sm:=by
 obtain⟨hc,_,_,hx,_,_⟩:=h
 refine⟨?_,by omega,?_⟩
 ·rcases hc with e | ⟨_,_,_,_,e,_⟩<;>rw [e]<;>simp
 ·rcases hc with e | ⟨f,p,l,mi,e,h0,h1,h2,h3,h4,h5,_⟩
  ·rw [e];simp
  ·rw [e]
   intro c hc
   simp at hc
   subst hc
   simp [kD.Sm]
   exact Qu (Ci (Oq h0 h1 h2 h3 h4 h5))
theorem tX{s:dD}(h:mY s):kG s=true:=by
 obtain⟨hc,h1,h2,hx,hp,hi⟩:=h
 have hcl:iC none s.cs=true:=by
  rcases hc with e | ⟨f,p,l,mi,e,h0,h1,h2,h3,h4,h5,h6,h7⟩
  ·rw [e];rfl
  ·have hb:=Ci (Oq h0 h1 h2 h3 h4 h5)
   rw [e]
   simp [iC,BI,qJ,hb,aY]
   omega
 have hxs:∀(xs:List aS) (prev:Option aS),xs.Pairwise aS.lt→(∀ x ∈ xs,Il s.len x)→(∀ m,prev=some m→∀ x ∈ xs,m.lt x)→lg prev xs=true:=by
  intro xs
  induction xs with
  | nil=>intros;rfl
  | cons x xs ih=>
   intro prev hp hi hpr
   have hp':=List.pairwise_cons.1 hp
   obtain⟨i1,i2,i3,i4,i5⟩:=hi x List.mem_cons_self
   have hg:rC x=true:=by
    simp [rC,aY]
    omega
   have hq:(prev.all fun m=>decide (uj m x<0))=true:=by
    cases prev with
    | none=>rfl
    | some m=>
     have:=(vk _ _).2 (hpr m rfl x List.mem_cons_self)
     simp [this]
   simp only [lg,hg,hq,Bool.true_and]
   exact ih (some x) hp'.2 (fun y hy=>hi y (List.mem_cons_of_mem _ hy)) fun m hm y hy=>by cases hm;exact hp'.1 y hy
 have hx2:=hxs s.xs none hp hi (by simp)
 have aYA:(s.cs.length:Int)≤64:=by
  rcases hc with e | ⟨f,p,l,mi,e,_⟩<;>rw [e]<;>simp
 unfold kG
 rw [hcl,hx2]
 simp [aY,aYA]
 omega
end Go.Proofs.YtijkmcapnnlpjaaGreat
end
section
namespace Go.Proofs.YtijkmcapnnlpjaaGreat
open Go Km
def n0I(len mi wf:Int):Int:=max 0 ((wf-len-mi) / 1440+1)
def RZ(s:dD)(wf wt:Int)(x:aS):Prop:=∃ f p l mi d,s.cs=[⟨.fs,[⟨.fs,[iW f p l]⟩],mi⟩]∧x=lW s.len mi d∧DC (iW f p l) (n0I s.len mi wf) mi wt d
def Dp(s:dD)(wf wt:Int)(x:aS):Prop:=RZ s wf wt x∨(x ∈ s.xs∧CS x.fr x.to wf wt=true)
theorem QK(M:Nat)(hM8:M≤8)(s:dD)(hs:mY s)(wf wt:Int)(hM:wt-wf+220≤1440*((M:Int)-1))(hw0:-100≤wf)(hw1:wf≤100000)(hv0:wf<wt)(hv1:wt≤wf+10080) :
  ∃ g L,(L.Pairwise aS.lt∧∀ x,x ∈ L↔Dp s wf wt x)∧L.length≤M+3∧Km.Pure tab.get nO [.a (s.row.map .f),.a [.f (fi wf),.f (fi wt)]]=Eq (.t [.c (.f (sl g (aH L))),vi 0]):=by
 have key:∃ r,(∃ g L,(L.Pairwise aS.lt∧∀ x,x ∈ L↔Dp s wf wt x)∧L.length≤M+3∧r=.t [.c (.f (sl g (aH L))),vi 0])∧Km.Pure tab.get nO [.a (s.row.map .f),.a [.f (fi wf),.f (fi wt)]] r:=by
  refine AY aY2 rfl fun Q hQ=>?_
  have hval:=wM s (qM hs)
  rw [tX hs]at hval
  simp [dD.row]at hval
  have hF:∀ x y:aS,Kf tab.get Dx [.a (x.row.map .f),.a (y.row.map .f)] (vi (uj x y)):=Jt
  obtain⟨hcs,hlen1,hlen2,hxl,hxp,hxi⟩:=hs
  have fin:∀(t:T) (ds:List fV) (H:Heap) (c:C) (o:List aS),t.g 6=.c (.ptr 2 0 0)→H[2]?=some (.box [c] 0)→LI H c o→o.length≤M+3→(ds=[]∨∃ b,ds=[.coll b]∧H[b]?=some (.dfr true))→(∀ x,x ∈ o↔Dp s wf wt x) →
    WP tab.get nO none [.code Sl] ⟨t,ds,H⟩ Q:=by
   intro t ds H c o g6 h2 hLI hol hds hmem
   rcases hLI with⟨rfl,rfl⟩ | ⟨hne,b,ep,rfl,hRB⟩
   ·obtain⟨r1,H1,e1,rfl,rfl⟩:=Xe (H:=H) (F:=Dx)
    obtain⟨r2,H2,e2,rfl,rfl⟩:=J4 (H:=H1)
    refine ak (aj (.inl rfl) ?_)
    simp [g6,h2,e1.eq]
    refine ak (aj (.inl rfl) ?_)
    simp [g6,h2,e2.eq]
    have k2:(H2.set 2 (.box [.f .ay] 0))[2]?=some (.box [.f .ay] 0):=List.getElem?_set_self (aJ h2)
    refine ak ?_
    refine ak (aj (.inl rfl) ?_)
    simp [g6,k2,cO]
    refine aA (by simp) (aK ?_)
    refine ak (aj (.inl rfl) ?_)
    simp [g6,k2]
    refine aO (hQ _ _ _ ⟨.nil,[],⟨by simp,hmem⟩,by simp,rfl⟩ ?_)
    rcases hds with rfl | ⟨b,rfl,hb⟩
    ·exact .inl (by simp [sl,aH,Tg.fc])
    ·have hb2:b≠2:=by rintro rfl;rw [h2]at hb;cases hb
     exact .inr ⟨b,rfl,by rw [List.getElem?_set_ne (Ne.symm hb2)];exact hb,.t [.c (.f .ay),vi 0],by simp [Km.results,fH,bD],by simp [exV,fU,bD,sl,aH,Tg.fc]⟩
   ·have hb2:(2:Nat)≠b:=by rintro rfl;unfold RB at hRB;rw [h2]at hRB;cases hRB
    obtain⟨r1,H1,e1,rfl,f1,l1,q1,q2,q3⟩:=Gj hF (by omega) hRB
    have ll:=q2.length_eq
    rw [←ll]at e1 h2
    have k2:=f1.get h2 hb2
    obtain⟨r2,H2,e2,l2,R2,rfl,f2,w1,w2,w3,w4⟩:=OD (by omega) q3 q1
    have k2':=f2.get k2 hb2
    refine ak (aj (.inl rfl) ?_)
    simp [g6,h2,e1.eq]
    refine ak (aj (.inl rfl) ?_)
    simp [g6,k2,e2.eq,k2']
    have k3:(H2.set 2 (.box [.sl b 0 l2.length 0 ep 3] 0))[2]?=some (.box [.sl b 0 l2.length 0 ep 3] 0):=List.getElem?_set_self (aJ k2')
    have w1':RB (H2.set 2 (.box [.sl b 0 l2.length 0 ep 3] 0)) b 3 ep (aH (l2++R2)):=by
     unfold RB at w1 ⊢
     rw [List.getElem?_set_ne hb2];exact w1
    refine ak ?_
    refine ak (aj (.inl rfl) ?_)
    simp [g6,k3,w1'.len]
    refine aA (by simp;omega) (aK ?_)
    refine ak (aj (.inl rfl) ?_)
    simp [g6,k3]
    refine aO (hQ _ _ _ ⟨.fs,l2,⟨w3,fun x=>by rw [w4,q2.mem_iff,hmem]⟩,by omega,rfl⟩ ?_)
    rcases hds with rfl | ⟨b',rfl,hb'⟩
    ·left
     have:=aF8 (n:=63) w1'
     simp [deep,exV,fU,bD,this]
    ·have hbb:b'≠b:=by rintro rfl;unfold RB at hRB;rw [hb']at hRB;cases hRB
     have hb2':b'≠2:=by rintro rfl;rw [h2]at hb';cases hb'
     have d1:=f2.get (f1.get hb' hbb) hbb
     have aVc:RB ((H2.set 2 (.box [.sl b 0 l2.length 0 ep 3] 0)).set b' (.dfr false)) b 3 ep (aH (l2++R2)):=by
      unfold RB at w1' ⊢
      rw [List.getElem?_set_ne hbb];exact w1'
     have:=aF8 (n:=63) aVc
     exact .inr ⟨b',rfl,by rw [List.getElem?_set_ne (Ne.symm hb2')];exact d1,.t [.c (.sl b 0 l2.length 0 ep 3),vi 0],by simp [Km.results,fH,bD],by simp [deep,exV,fU,bD,this]⟩
  have extras:∀(t:T) (ds:List fV) (H:Heap) (c:C) (o:List aS),t.g 2=.c (.ptr 0 0 0)→t.g 3=.c (.ptr 1 0 0)→t.g 6=.c (.ptr 2 0 0)→H[0]?=some (.box [C.f (sl s.cg (aQ s.cs)),C.f (fi s.len),C.f (sl s.xg (aH s.xs))] 0)→H[1]?=some (.box [.f (fi wf),.f (fi wt)] 0)→H[2]?=some (.box [c] 0)→LI H c o→o.length≤M →
    (ds=[]∨∃ b,ds=[.coll b]∧H[b]?=some (.dfr true))→(∀ x,x ∈ o↔RZ s wf wt x)→WP tab.get nO none [.code qx] ⟨t,ds,H⟩ Q:=by
   intro t ds H c o g2 g3 g6 h0 h1 h2 hLI hol hds hmem
   refine ak ?_
   refine ak (aj (.inl rfl) ?_)
   simp [g2,h0]
   refine fA s.xs.length (fun j t H'=>t.g 2=.c (.ptr 0 0 0)∧t.g 3=.c (.ptr 1 0 0)∧t.g 6=.c (.ptr 2 0 0)∧t.g 64=.c (.f (sl s.xg (aH s.xs)))∧H'[1]?=some (.box [.f (fi wf),.f (fi wt)] 0)∧(∀ b:Nat,H[b]?=some (Blk.dfr true)→H'[b]?=some (Blk.dfr true)) ∧
    ∃ c o',H'[2]?=some (.box [c] 0)∧LI H' c o'∧o'.length≤M+j∧∀ x,x ∈ o'↔RZ s wf wt x∨(x ∈ s.xs.take j∧CS x.fr x.to wf wt=true)) (by omega) (by decide) (by decide) (by simp) (by simp)
    ⟨by simp [g2],by simp [g3],by simp [g6],by simp,h1,fun b h=>h,c,o,h2,hLI,by omega,by simpa using hmem⟩ ?_ ?_
   ·rintro j t H' hj ⟨g2,g3,g6,g64,h1,hkd,c,o',h2,hLI,hol,hmem⟩ ha hb next
    have hrow:=fun H:Heap=>dI (H:=H) (bI s.xs) (jg hj)
    have aRh:=auc s.xs[j].fr s.xs[j].to wf wt
    have htk:s.xs.take (j+1)=s.xs.take j++[s.xs[j]]:=by rw [List.take_add_one,List.getElem?_eq_getElem hj];rfl
    simp [aS.row]at hrow
    refine aP ?_
    refine ak (aj (.inl rfl) ?_)
    simp [g64,ha,bQ,hj,hrow]
    have kN:(H'++[Blk.box [.f (fi s.xs[j].day),.f (fi s.xs[j].fr),.f (fi s.xs[j].to)] 0])[H'.length]?=some (.box [.f (fi s.xs[j].day),.f (fi s.xs[j].fr),.f (fi s.xs[j].to)] 0):=by simp
    have k1:(H'++[Blk.box [.f (fi s.xs[j].day),.f (fi s.xs[j].fr),.f (fi s.xs[j].to)] 0])[1]?=some (.box [.f (fi wf),.f (fi wt)] 0):=by rw [List.getElem?_append_left (aJ h1)];exact h1
    have k2:(H'++[Blk.box [.f (fi s.xs[j].day),.f (fi s.xs[j].fr),.f (fi s.xs[j].to)] 0])[2]?=some (.box [c] 0):=by rw [List.getElem?_append_left (aJ h2)];exact h2
    have kL:=hLI.push [Blk.box [.f (fi s.xs[j].day),.f (fi s.xs[j].fr),.f (fi s.xs[j].to)] 0]
    have kd:∀ b:Nat,H[b]?=some (Blk.dfr true)→(H'++[Blk.box [.f (fi s.xs[j].day),.f (fi s.xs[j].fr),.f (fi s.xs[j].to)] 0])[b]?=some (.dfr true):=fun b hb'=>by
     have:=hkd b hb'
     rw [List.getElem?_append_left (aJ this)];exact this
    generalize hHA:H'++[Blk.box [.f (fi s.xs[j].day),.f (fi s.xs[j].fr),.f (fi s.xs[j].to)] 0]=HA at kN k1 k2 kL kd ⊢
    refine ak (aj (.inl rfl) ?_)
    simp [g3,kN,k1,aRh]
    cases hc:CS s.xs[j].fr s.xs[j].to wf wt
    ·refine aA (by simp) (aK (aN (next _ _ ?_ (by simp [ha]) (by simp [hb]))))
     refine⟨by simp [g2],by simp [g3],by simp [g6],by simp [g64],k1,kd,c,o',k2,kL,by omega,fun x=>?_⟩
     rw [hmem,htk,List.mem_append,List.mem_singleton]
     refine⟨fun h=>h.elim .inl fun h=>.inr ⟨.inl h.1,h.2⟩,fun h=>h.elim .inl fun h=>?_⟩
     rcases h.1 with h' | rfl
     ·exact .inr ⟨h',h.2⟩
     ·rw [hc]at h;cases h.2
    ·obtain⟨c',H2,e1,e2,e3,e4⟩:=(kL.push [.box [.f (fi s.xs[j].day),.f (fi s.xs[j].fr),.f (fi s.xs[j].to)] 0]).app (by omega) (b1:=HA.length) (fl:=0) (x:=s.xs[j]) (by simp [aS.row])
     have p1:=e4 _ _ (show(HA++[Blk.box [.f (fi s.xs[j].day),.f (fi s.xs[j].fr),.f (fi s.xs[j].to)] 0])[1]?=_ by rw [List.getElem?_append_left (aJ k1)];exact k1) rfl
     have p2:=e4 _ _ (show(HA++[Blk.box [.f (fi s.xs[j].day),.f (fi s.xs[j].fr),.f (fi s.xs[j].to)] 0])[2]?=_ by rw [List.getElem?_append_left (aJ k2)];exact k2) rfl
     refine aC (by simp) ?_
     refine aj (.inl rfl) ?_
     simp [g6,kN,k2,e1,p2]
     refine aN (next _ _ ?_ (by simp [ha]) (by simp [hb]))
     refine⟨by simp [g2],by simp [g3],by simp [g6],by simp [g64],by rw [List.getElem?_set_ne (by decide)];exact p1,fun b hb'=>?_,c',o'++[s.xs[j]],List.getElem?_set_self (aJ p2),e2.set p2 rfl _,by simp;omega,fun x=>?_⟩
     ·have q:=kd b hb'
      have hb2:(2:Nat)≠b:=by rintro rfl;rw [k2]at q;cases q
      rw [List.getElem?_set_ne hb2]
      exact e4 _ _ (by rw [List.getElem?_append_left (aJ q)];exact q) rfl
     ·rw [List.mem_append,List.mem_singleton,hmem,htk,List.mem_append,List.mem_singleton]
      constructor
      ·rintro((h | h) | rfl)
       ·exact .inl h
       ·exact .inr ⟨.inl h.1,h.2⟩
       ·exact .inr ⟨.inr rfl,hc⟩
      ·rintro(h | ⟨h | h,h'⟩)
       ·exact .inl (.inl h)
       ·exact .inl (.inr ⟨h,h'⟩)
       ·exact .inr h
   ·rintro t H' ⟨g2,g3,g6,g64,h1,hkd,c,o',h2,hLI,hol,hmem⟩ - -
    rw [List.take_length]at hmem
    refine fin _ ds H' c o' (by simp [g6]) h2 hLI (by omega) ?_ fun x=>hmem x
    rcases hds with h | ⟨b,h,hb⟩
    ·exact .inl h
    ·exact .inr ⟨b,h,hkd b hb⟩
  have classes:∀ t:T,t.g 2=.c (.ptr 0 0 0)→t.g 3=.c (.ptr 1 0 0)→t.g 6=.c (.ptr 2 0 0)→WP tab.get nO none [.code Sz] ⟨t,[],[.box [C.f (sl s.cg (aQ s.cs)),C.f (fi s.len),C.f (sl s.xg (aH s.xs))] 0,.box [.f (fi wf),.f (fi wt)] 0,.box [.f .ay] 0]⟩ Q:=by
   intro t g2 g3 g6
   refine ak ?_
   refine ak (aj (.inl rfl) ?_)
   simp [g2]
   refine aP ?_
   rcases hcs with e | ⟨f,p,l,mi,e,f0,f1,p0,p1,ln,lo,m0,m1⟩
   ·refine dA (fun _ st=>st=⟨_,[],_⟩) 0 rfl ?_
    rintro _ st rfl -
    refine ak (aj (.inl rfl) ?_)
    simp [e]
    refine ak (aA (by simp) ?_)
    refine bM (k':=[.code qx]) rfl ?_
    refine extras _ [] _ (.f .ay) [] (by simp [g2]) (by simp [g3]) (by simp [g6]) (by simp [e]) rfl rfl (.inl ⟨rfl,rfl⟩) (by simp) (.inl rfl) fun x=>?_
    refine⟨fun h=>by simp at h,fun⟨f,p,l,mi,d,e',_⟩=>?_⟩
    rw [e]at e';cases e'
   have hfew:=Oq f0 f1 p0 p1 ln lo
   have hrow:=fun H:Heap=>dI (H:=H) (jh s.cs) (qo (l:=s.cs) (j:=0) (by rw [e];simp))
   have hidx:=fun H:Heap=>bQ (H:=H) (g:=s.cg) (rows:=aQ s.cs) (sz:=2) (k:=.i64) (i:=0) (by omega) (by rw [e];simp)
   have hc0:s.cs[0]'(by rw [e];simp)=⟨.fs,[⟨.fs,[iW f p l]⟩],mi⟩:=by simp [e]
   have hcl:s.cs.length=1:=by rw [e];rfl
   rw [hc0]at hrow
   simp [eP.row]at hrow hidx
   have aRg:=at7 (sl s.cg (aQ s.cs)) (sl s.xg (aH s.xs)) (sl .fs (bW [⟨.fs,[iW f p l]⟩])) s.len mi wf wt
   have hinst:=fun d (h:KF d)=>Zh (sl s.cg (aQ s.cs)) (sl s.xg (aH s.xs)) (sl .fs (bW [⟨.fs,[iW f p l]⟩])) s.len mi d (by unfold KF;omega) (by unfold KF;omega) h
   have behind:∀(t:T) (H:Heap) (c:C) (ds:List Int),t.g 2=.c (.ptr 0 0 0)→t.g 3=.c (.ptr 1 0 0)→t.g 6=.c (.ptr 2 0 0)→t.g 45=vi 1→t.g 46=vi 1→H[0]?=some (.box [C.f (sl s.cg (aQ s.cs)),C.f (fi s.len),C.f (sl s.xg (aH s.xs))] 0)→H[1]?=some (.box [.f (fi wf),.f (fi wt)] 0)→H[2]?=some (.box [c] 0) →
     H[4]?=some (.dfr true)→LI H c (ds.map (lW s.len mi))→ds.Pairwise (· < ·)→(∀ d,d ∈ ds↔DC (iW f p l) (n0I s.len mi wf) mi wt d)→WP tab.get nO none [.code wJ,.inLoop wJ,.inBlock 0,.code qx] ⟨t,[.coll 4],H⟩ Q:=by
    intro t H c ds g2 g3 g6 g45 g46 h0 h1 h2 h4 hLI hpw hmem
    refine ak (aj (.inl rfl) ?_)
    simp [g45,g46]
    refine ak (aA (by simp) ?_)
    refine bM (k':=[.code qx]) rfl ?_
    have hdl:=QU ds (n0I s.len mi wf) M hpw fun d hd=>by
     obtain⟨a1,a2,a3,a4⟩:=(hmem d).1 hd
     refine⟨a1,?_⟩
     unfold n0I
     omega
    refine extras _ _ H c _ (by simp [g2]) (by simp [g3]) (by simp [g6]) h0 h1 h2 hLI (by simp;omega) (.inr ⟨4,rfl,h4⟩) fun x=>?_
    rw [List.mem_map]
    constructor
    ·rintro⟨d,hd,rfl⟩
     exact⟨f,p,l,mi,d,e,rfl,(hmem d).1 hd⟩
    ·rintro⟨f',p',l',mi',d,e',rfl,hd⟩
     rw [e]at e'
     simp [iW]at e'
     obtain⟨⟨rfl,rfl,rfl⟩,rfl⟩:=e'
     exact⟨d,(hmem d).2 hd,rfl⟩
   have range:∀(t:T),t.g 2=.c (.ptr 0 0 0)→t.g 3=.c (.ptr 1 0 0)→t.g 6=.c (.ptr 2 0 0)→t.g 8=.c (.ptr 3 0 0)→t.g 45=vi 1→t.g 46=vi 0 →
     t.g 53=.c (.f (.fn U5 [.fp [fi wf,fi wt] 0,.fp [sl s.cg (aQ s.cs),fi s.len,sl s.xg (aH s.xs)] 0,.fp [sl .fs (bW [⟨.fs,[iW f p l]⟩]),fi mi] 0])) →
     (∀(t':T) (H:Heap) (c:C) (ds:List Int),t'.g 2=.c (.ptr 0 0 0)→t'.g 3=.c (.ptr 1 0 0)→t'.g 6=.c (.ptr 2 0 0)→t'.g 45=vi 1→t'.g 46=vi 1→H[0]?=some (.box [C.f (sl s.cg (aQ s.cs)),C.f (fi s.len),C.f (sl s.xg (aH s.xs))] 0)→H[1]?=some (.box [.f (fi wf),.f (fi wt)] 0)→H[2]?=some (.box [c] 0) →
      H[4]?=some (.dfr true)→LI H c (ds.map (lW s.len mi))→ds.Pairwise (· < ·)→(∀ d,d ∈ ds↔DC (iW f p l) (n0I s.len mi wf) mi wt d)→WP tab.get nO none [.inLoop wJ,.inBlock 0,.code qx] ⟨t',[.coll 4],H⟩ Q) →
     WP tab.get nO none [.code Sv,.inBlock 2,.inBlock 1,.code Sr,.inLoop wJ,.inBlock 0,.code qx] ⟨t,[],[.box [C.f (sl s.cg (aQ s.cs)),C.f (fi s.len),C.f (sl s.xg (aH s.xs))] 0,.box [.f (fi wf),.f (fi wt)] 0,.box [.f .ay] 0,.box [.f (sl .fs (bW [⟨.fs,[iW f p l]⟩])),.f (fi mi)] 0]⟩ Q:=by
    intro t g2 g3 g6 g8 g45 g46 g53 next
    obtain⟨PP,hPP⟩:∃ PP:List Int→Heap→Prop,PP=fun ds H=>H[0]?=some (.box [C.f (sl s.cg (aQ s.cs)),C.f (fi s.len),C.f (sl s.xg (aH s.xs))] 0)∧H[1]?=some (.box [.f (fi wf),.f (fi wt)] 0)∧(∃ c,H[2]?=some (.box [c] 0)∧LI H c (ds.map (lW s.len mi))) ∧
     H[3]?=some (.box [.f (sl .fs (bW [⟨.fs,[iW f p l]⟩])),.f (fi mi)] 0)∧H[4]?=some (.dfr true)∧H[5]?=some (.lp nO t [P.nat 54] jC jB .ready none 4):=⟨_,rfl⟩
    obtain⟨r,H',he,rfl,ds,hp,hpw,hmem⟩:=aua (b:=5) (H:=[.box [C.f (sl s.cg (aQ s.cs)),C.f (fi s.len),C.f (sl s.xg (aH s.xs))] 0,.box [.f (fi wf),.f (fi wt)] 0,.box [.f .ay] 0,.box [.f (sl .fs (bW [⟨.fs,[iW f p l]⟩])),.f (fi mi)] 0,.dfr true,.lp nO t [P.nat 54] jC jB .ready none 4])
     (PP:=PP) .fs ⟨.fs,[iW f p l]⟩ (iW f p l) rfl hfew (sl s.cg (aQ s.cs)) (sl s.xg (aH s.xs)) s.len mi wf wt (by omega) (by omega) (by omega) (by omega) (by omega) (by omega) (by omega) (n0I s.len mi wf) rfl
     (by rw [hPP];exact⟨rfl,rfl,⟨.f .ay,rfl,.inl ⟨rfl,rfl⟩⟩,rfl,rfl,rfl⟩) (by
      intro ds d H hp hd0 hd1 hdl
      rw [hPP]at hp
      obtain⟨h0,h1,⟨c,h2,hLI⟩,h3,h4,h5⟩:=hp
      have hin:=hinst d (by unfold KF;omega)
      simp [lW,aS.row]at hin
      obtain⟨r,H',e1,rfl,e2⟩:=rH (tab:=tab.get) (b:=5) (args:=[vi d]) (H:=H) (C:=fun r H'=>r=vb true∧PP (ds++[d]) H') h5 rfl fun Q' hQ'=>by
       refine aj (.inr rfl) ?_
       simp
       refine GZ h5 ?_
       have b0:(H.set 5 (.lp nO t [P.nat 54] jC jB .busy none 4))[0]?=some (.box [C.f (sl s.cg (aQ s.cs)),C.f (fi s.len),C.f (sl s.xg (aH s.xs))] 0):=by rw [List.getElem?_set_ne (by decide)];exact h0
       have b1:(H.set 5 (.lp nO t [P.nat 54] jC jB .busy none 4))[1]?=some (.box [.f (fi wf),.f (fi wt)] 0):=by rw [List.getElem?_set_ne (by decide)];exact h1
       have b2:(H.set 5 (.lp nO t [P.nat 54] jC jB .busy none 4))[2]?=some (.box [c] 0):=by rw [List.getElem?_set_ne (by decide)];exact h2
       have b3:(H.set 5 (.lp nO t [P.nat 54] jC jB .busy none 4))[3]?=some (.box [.f (sl .fs (bW [⟨.fs,[iW f p l]⟩])),.f (fi mi)] 0):=by rw [List.getElem?_set_ne (by decide)];exact h3
       have b4:(H.set 5 (.lp nO t [P.nat 54] jC jB .busy none 4))[4]?=some (.dfr true):=by rw [List.getElem?_set_ne (by decide)];exact h4
       have b5:(H.set 5 (.lp nO t [P.nat 54] jC jB .busy none 4))[5]?=some (.lp nO t [P.nat 54] jC jB .busy none 4):=List.getElem?_set_self (aJ h5)
       have bL:=hLI.set h5 rfl (.lp nO t [P.nat 54] jC jB .busy none 4)
       generalize H.set 5 (.lp nO t [P.nat 54] jC jB .busy none 4)=HB at b0 b1 b2 b3 b4 b5 bL ⊢
       obtain⟨c',H2,a1,a2,a3,a4⟩:=(bL.push [.box [.f (fi d),.f (fi (d*1440+mi)),.f (fi (d*1440+mi+s.len))] 0]).app (by simp;omega) (b1:=HB.length) (fl:=0) (x:=lW s.len mi d) (by simp [aS.row,lW])
       have up:∀(i:Nat) y,HB[i]?=some y→uw y=true→H2[i]?=some y:=fun i y hy hn=>a4 i y (by rw [List.getElem?_append_left (aJ hy)];exact hy) hn
       have p2:=up _ _ b2 rfl
       refine aP ?_
       refine aj (.inr rfl) ?_
       simp [g2,g6,g8,b0,b2,b3,hin,a1,p2]
       refine aN (jF (hQ' _ _ _ _ _ _ _ _ _ _ rfl (show(H2.set 2 _)[5]?=some _ by rw [List.getElem?_set_ne (by decide)];exact up _ _ b5 rfl) ?_))
       refine⟨rfl,?_⟩
       rw [hPP]
       have s5:(H2.set 2 (.box [c'] 0))[5]?=some (.lp nO t [P.nat 54] jC jB .busy none 4):=by rw [List.getElem?_set_ne (by decide)];exact up _ _ b5 rfl
       refine⟨?_,?_,⟨c',?_,?_⟩,?_,?_,?_⟩
       ·rw [List.getElem?_set_ne (by decide),List.getElem?_set_ne (by decide)];exact up _ _ b0 rfl
       ·rw [List.getElem?_set_ne (by decide),List.getElem?_set_ne (by decide)];exact up _ _ b1 rfl
       ·rw [List.getElem?_set_ne (by decide)];exact List.getElem?_set_self (aJ p2)
       ·rw [List.map_append]
        exact(a2.set p2 rfl _).set s5 rfl _
       ·rw [List.getElem?_set_ne (by decide),List.getElem?_set_ne (by decide)];exact up _ _ b3 rfl
       ·rw [List.getElem?_set_ne (by decide),List.getElem?_set_ne (by decide)];exact up _ _ b4 rfl
       ·exact List.getElem?_set_self (aJ s5)
      exact⟨H',e1,e2⟩)
    rw [hPP]at hp
    obtain⟨h0,h1,⟨c,h2,hLI⟩,h3,h4,h5⟩:=hp
    refine wY (g:=U5) (by rw [aut,g53];simp [dB]) he ?_
    refine BQ h5 (by decide) ?_
    refine aN (aN (aj (.inl rfl) ?_))
    simp [g46,wrap64 (n:=1) (by omega) (by omega)]
    refine next _ _ c ds (by simp [g2]) (by simp [g3]) (by simp [g6]) (by simp [g45]) (by simp) ?_ ?_ ?_ ?_ (hLI.set h5 rfl _) hpw hmem
    ·rw [List.getElem?_set_ne (by decide)];exact h0
    ·rw [List.getElem?_set_ne (by decide)];exact h1
    ·rw [List.getElem?_set_ne (by decide)];exact h2
    ·rw [List.getElem?_set_ne (by decide)];exact h4
   refine dA (fun n st=>(n=1∧∃ t,st=⟨t,[],[.box [C.f (sl s.cg (aQ s.cs)),C.f (fi s.len),C.f (sl s.xg (aH s.xs))] 0,.box [.f (fi wf),.f (fi wt)] 0,.box [.f .ay] 0]⟩∧t.g 2=.c (.ptr 0 0 0)∧t.g 3=.c (.ptr 1 0 0)∧t.g 6=.c (.ptr 2 0 0)∧t.g 44=.c (.f (sl s.cg (aQ s.cs)))∧t.g 45=vi 1∧t.g 46=vi 0) ∨
    (n=0∧∃(t:T) (H:Heap) (c:C) (ds:List Int),st=⟨t,[.coll 4],H⟩∧t.g 2=.c (.ptr 0 0 0)∧t.g 3=.c (.ptr 1 0 0)∧t.g 6=.c (.ptr 2 0 0)∧t.g 45=vi 1∧t.g 46=vi 1∧H[0]?=some (.box [C.f (sl s.cg (aQ s.cs)),C.f (fi s.len),C.f (sl s.xg (aH s.xs))] 0)∧H[1]?=some (.box [.f (fi wf),.f (fi wt)] 0)∧H[2]?=some (.box [c] 0) ∧
     H[4]?=some (.dfr true)∧LI H c (ds.map (lW s.len mi))∧ds.Pairwise (· < ·)∧(∀ d,d ∈ ds↔DC (iW f p l) (n0I s.len mi wf) mi wt d))) 1 (.inl ⟨rfl,_,rfl,by simp [g2],by simp [g3],by simp [g6],by simp,by simp [hcl],by simp⟩) ?_
   rintro n st (⟨rfl,t,rfl,g2,g3,g6,g44,g45,g46⟩ | ⟨rfl,t,H,c,ds,rfl,g2,g3,g6,g45,g46,h0,h1,h2,h4,hLI,hpw,hmem⟩) ih
   case inr=>exact behind t H c ds g2 g3 g6 g45 g46 h0 h1 h2 h4 hLI hpw hmem
   refine ak (aj (.inl rfl) ?_)
   simp [g45,g46]
   refine ak (aC (by simp) (aK ?_))
   refine ak ?_
   refine aP ?_
   refine ak (aj (.inl rfl) ?_)
   simp [g44,g46,hidx,hrow]
   refine ak (aj (.inl rfl) ?_)
   simp [g2,g3,aRg]
   refine aP ?_
   exact range _ (by simp [g2]) (by simp [g3]) (by simp [g6]) (by simp) (by simp [g45]) (by simp [g46]) (by simp) fun t' H c ds q2 q3 q6 q45 q46 h0 h1 h2 h4 hLI hpw hmem=>
    ih 0 _ (by omega) (.inr ⟨rfl,t',H,c,ds,rfl,q2,q3,q6,q45,q46,h0,h1,h2,h4,hLI,hpw,hmem⟩)
  refine ak (aj (.inl rfl) ?_)
  simp [dD.row]
  refine ak ?_
  refine ak (aj (.inl rfl) ?_)
  simp [hval,show¬ wf < -2251799813685248 by omega,show¬ 2251799813685248<wt by omega,show¬ wt<wf by omega]
  refine aA (by simp) (aK ?_)
  refine ak ?_
  refine ak (aj (.inl rfl) ?_)
  simp [wrap64 (n:=wt-wf) (by omega) (by omega),show¬ 5760000<wt-wf by omega]
  refine aA (by simp) (aK ?_)
  refine ak (aj (.inl rfl) ?_)
  simp
  refine ak ?_
  refine ak (aj (.inl rfl) ?_)
  simp [show¬ wf=wt by omega]
  refine aA (by simp) (aK ?_)
  exact classes _ (by simp) (by simp) (by simp)
 obtain⟨r,⟨g,L,h1,h2,rfl⟩,h⟩:=key
 exact⟨g,L,h1,h2,Km.Pure.eq h⟩
end Go.Proofs.YtijkmcapnnlpjaaGreat
end
section
namespace Go.Proofs.YtijkmcapnnlpjaaGreat
open Go Km
def fO(x y:aT):Bool:=decide (x.meet<y.meet)||(decide (x.meet=y.meet)&&decide (x.room<y.room))
theorem Oy(x y:aT):Km.Pure tab.get RP [.a (x.row.map .f),.a (y.row.map .f)]=Eq (vb (fO x y)):=by
 refine Kf.eq (eG aTA rfl fun H Q hQ=>?_)
 refine ak (aj (.inl rfl) ?_)
 simp [aT.row]
 refine ak (aj (.inl rfl) ?_)
 by_cases k1:x.meet<y.meet
 ·simp [k1]
  refine aO (hQ _ _ ?_)
  simp [fO,k1]
 ·by_cases k2:x.meet=y.meet
  ·simp [k1,k2]
   refine aO (hQ _ _ ?_)
   simp [fO,k1,k2]
  ·simp [k1,k2]
   refine aO (hQ _ _ ?_)
   simp [fO,k1,k2]
theorem Uh(g:Tg)(l:List aT)(s:aT)(hl:l.length≤1000):∃ b,(b=false→∀ x ∈ l,¬ (x.meet=s.meet∧x.room=s.room))∧Km.Pure tab.get RN [.c (.f (sl g (bg l))),.a (s.row.map .f)]=Eq (vb b):=by
 have key:∃ r,(∃ b,(b=false→∀ x ∈ l,¬ (x.meet=s.meet∧x.room=s.room))∧r=vb b)∧Km.Pure tab.get RN [.c (.f (sl g (bg l))),.a (s.row.map .f)] r:=by
  refine lD aTz rfl fun Q hQ=>?_
  refine ak (aj (.inl rfl) ?_)
  simp [aT.row]
  refine ak ?_
  refine ak (aj (.inl rfl) ?_)
  simp
  refine lF l.length (fun j t H=>t.g 0=.c (.f (sl g (bg l)))∧t.g 3=.c (.ptr 0 0 0)∧H[0]?=some (.box [.f (fi s.meet),.f (fi s.room),.f (fi s.kV),.f (fi s.size),.f (sl s.st.cg (aQ s.st.cs)),.f (fi s.st.len),.f (sl s.st.xg (aH s.st.xs))] 0)∧∀ x ∈ l.take j,¬ (x.meet=s.meet∧x.room=s.room)) (by omega) rfl (by simp) ⟨by simp,by simp,rfl,by simp⟩ ?_ ?_ ?_
  ·rintro j t H L hj ⟨g0,g3,h0,hno⟩ ha hL
   simp [ha,g0]
   exact hL _ ⟨by simp [g0],by simp [g3],h0,hno⟩ (by simp [ha]) (by simp)
  ·rintro j t H hj ⟨g0,g3,h0,hno⟩ ha next
   have hno':¬ (l[j].meet=s.meet∧l[j].room=s.room)→∀ x ∈ l.take (j+1),¬ (x.meet=s.meet∧x.room=s.room):=fun hn x hx=>by
    rw [List.take_add_one,List.getElem?_eq_getElem hj]at hx
    rcases List.mem_append.1 hx with hx | hx
    ·exact hno x hx
    ·simp at hx;subst hx;exact hn
   have hm:=fun H:Heap=>kY (H:=H) (k:=0) (dH l) (gG hj) rfl
   have hr:=fun H:Heap=>kY (H:=H) (k:=1) (dH l) (gG hj) rfl
   simp [aT.row]at hm hr
   refine aP ?_
   refine ak (aj (.inl rfl) ?_)
   by_cases k1:l[j].meet=s.meet
   ·by_cases k2:l[j].room=s.room
    ·simp [g0,g3,ha,h0,bQ,hj,hm,hr,k1,k2]
     refine aC (by simp) ?_
     refine ak (aj (.inl rfl) ?_)
     simp
     refine aO (hQ _ _ _ ⟨true,by simp,rfl⟩ ?_)
     simp
    ·simp [g0,g3,ha,h0,bQ,hj,hm,hr,k1,k2]
     refine aA (by simp) (aK (aN (next _ _ ?_ (by simp [ha]))))
     exact⟨by simp [g0],by simp [g3],h0,hno' (by simp [k2])⟩
   ·simp [g0,g3,ha,h0,bQ,hj,hm,k1]
    refine aA (by simp) (aK (aN (next _ _ ?_ (by simp [ha]))))
    exact⟨by simp [g0],by simp [g3],h0,hno' (by simp [k1])⟩
  ·rintro t H ⟨g0,g3,h0,hno⟩ ha
   refine ak (aj (.inl rfl) ?_)
   simp
   refine aO (hQ _ _ _ ⟨false,fun _=>by rwa [List.take_length]at hno,rfl⟩ ?_)
   simp
 obtain⟨r,⟨b,hb,rfl⟩,h⟩:=key
 exact⟨b,hb,h.eq⟩
def qE:C→Option Nat
 | .sl b _ _ _ _ _=>some b
 | _=>none
def LS(H:Heap)(c:C)(ss:List aT):Prop:=(ss=[]∧c=.f .es)∨(ss≠[]∧∃ b ep fl,c=.sl b 0 ss.length 0 ep 7∧H[b]?=some (.opn 7 ((bg ss).flatten.map .f) fl ep .loc)∧fl≤(bg ss).flatten.length)
theorem LS.keep{H H':Heap}{c:C}{ss:List aT}(h:LS H c ss)(hk:∀ i y,H[i]?=some y→qE c=some i→H'[i]?=some y):LS H' c ss:=by
 rcases h with h | ⟨h,b,ep,fl,rfl,h2,h3⟩
 ·exact .inl h
 ·exact .inr ⟨h,b,ep,fl,rfl,hk b _ h2 rfl,h3⟩
theorem LS.push{H:Heap}{c:C}{ss:List aT}(h:LS H c ss)(J:Heap):LS (H++J) c ss:=h.keep fun i y hy _=>by rw [List.getElem?_append_left (aJ hy)];exact hy
theorem LS.lt{H:Heap}{c:C}{ss:List aT}(h:LS H c ss){i:Nat}(hi:qE c=some i):i<H.length:=by
 rcases h with⟨_,rfl⟩ | ⟨h,b,ep,fl,rfl,h2,h3⟩
 ·cases hi
 ·cases hi;exact aJ h2
theorem LS.pY{H:Heap}{c:C}{ss:List aT}(h:LS H c ss){i:Nat}{x:Blk}(hx:H[i]?=some x)(hn:uw x=true):qE c≠some i:=by
 rcases h with⟨_,rfl⟩ | ⟨h,b,ep,fl,rfl,h2,h3⟩
 ·simp [qE]
 ·intro e
  cases e
  rw [h2]at hx;cases hx;cases hn
theorem qO(ss:List aT)(x:aT):(bg (ss++[x])).flatten=(bg ss).flatten++x.row:=by simp [bg]
theorem LS.app{H:Heap}{c:C}{ss:List aT}(h:LS H c ss)(hl:ss.length≤1000){b1 fl1:Nat}{x:aT}(hb1:H[b1]?=some (.box (x.row.map .f) fl1)) :
  ∃ c' H',dh H 7 88 (.c c) (.c (.sl b1 0 1 1 0 7))=some (.c c',H')∧LS H' c' (ss++[x])∧H.length≤H'.length∧(∀(i:Nat) y,H[i]?=some y→qE c≠some i→H'[i]?=some y)∧(qE c'=qE c∨qE c'=some H.length):=by
 have hadd:fE H 7 (.c (.sl b1 0 1 1 0 7))=some (1,x.row.map .f):=lq hb1 (by rfl)
 rcases h with⟨rfl,rfl⟩ | ⟨hne,b,ep,fl,rfl,h2,h3⟩
 ·have hroom:bP 1 88=true:=by simp [bP]
  refine⟨.sl H.length 0 1 0 0 7,H++[.opn 7 (x.row.map .f) 0 0 .loc],?_,.inr ⟨by simp,H.length,0,0,by simp,?_,by simp⟩,by simp,fun i y hy _=>by rw [List.getElem?_append_left (aJ hy)];exact hy,.inr rfl⟩
  ·simp [dh,hadd,hroom]
  ·simp [bg]
 ·have hroom:bP (ss.length+1) 88=true:=by simp [bP];omega
  have hlen:ss.length*7=(bg ss).flatten.length:=by rw [bK (dH ss),nY]
  refine⟨.sl b 0 (ss.length+1) 0 (ep+1) 7,H.set b (.opn 7 ((bg ss).flatten.map .f++x.row.map .f) fl (ep+1) .loc),?_,.inr ⟨by simp,b,ep+1,fl,by simp,?_,?_⟩,by simp,fun i y hy hn=>?_,.inl rfl⟩
  ·have h70:(7:Nat)≠0:=by decide
   simp only [dh,hadd,h70,if_false,h2,and_self,if_true]
   simp only [Nat.add_one_ne_zero,if_false]
   rw [if_pos ⟨trivial,by rw [List.length_map];exact hlen,by rw [List.length_map];exact h3⟩,hroom]
   simp
  ·rw [List.getElem?_set_self (aJ h2),qO,List.map_append]
  ·rw [qO,List.length_append];omega
  ·have:b≠i:=by rintro rfl;exact hn rfl
   rw [List.getElem?_set_ne this];exact hy
theorem LS.len{H:Heap}{c:C}{ss:List aT}(h:LS H c ss):cO H c=some ss.length:=by
 rcases h with⟨rfl,rfl⟩ | ⟨h,b,ep,fl,rfl,h2,h3⟩
 ·rfl
 ·simp [cO,h2]
theorem LS.at{H:Heap}{c:C}{ss:List aT}(h:LS H c ss){j:Nat}(hj:j<ss.length):∃ b ep,bC H 7 none (.c c) (vi j)=some (.c (.ptr b (j*7) ep))∧ldV H (some 7) (.c (.ptr b (j*7) ep))=some (.a (ss[j].row.map .f)):=by
 rcases h with⟨rfl,rfl⟩ | ⟨h,b,ep,fl,rfl,h2,h3⟩
 ·simp at hj
 ·refine⟨b,ep,?_,?_⟩
  ·have:(j:Int)<ss.length:=by omega
   simp [bC,jG,h2,this]
  ·have hd:=nM (k:=0) (dH ss) (gG hj) (by omega)
   rw [Nat.add_zero]at hd
   simp only [bT,h2,if_true]
   rw [←List.map_drop,hd]
   simp [aT.row]
theorem LS.ex{H:Heap}{c:C}{ss:List aT}(h:LS H c ss)(n:Nat):∃ g,exC (n+1) H c=some (sl g (bg ss)):=by
 rcases h with⟨rfl,rfl⟩ | ⟨h,b,ep,fl,rfl,h2,h3⟩
 ·exact⟨.es,rfl⟩
 ·refine⟨.fs,?_⟩
  have hl:ss.length*7=(bg ss).flatten.length:=by rw [bK (dH ss),nY]
  simp only [oV,h2]
  rw [if_pos ⟨trivial,trivial,by rw [List.length_map,Nat.zero_add,hl];exact Nat.le_refl _⟩,List.drop_zero,List.take_of_length_le (by rw [List.length_map];omega),qX]
  cases ss with
  | nil=>exact absurd rfl h
  | cons x l=>simp [sl,bg]
theorem LS.mk{H:Heap}{c:C}{ss:List aT}(h:LS H c ss)(n:Nat):LS (mkC (n+1) c H) c ss∧(mkC (n+1) c H).length=H.length∧∀(i:Nat) y,H[i]?=some y→qE c≠some i→(mkC (n+1) c H)[i]?=some y:=by
 rcases h with⟨rfl,rfl⟩ | ⟨h,b,ep,fl,rfl,h2,h3⟩
 ·exact⟨.inl ⟨rfl,rfl⟩,rfl,fun i y hy _=>hy⟩
 ·have hl:ss.length*7=(bg ss).flatten.length:=by rw [bK (dH ss),nY]
  have e:mkC (n+1) (.sl b 0 ss.length 0 ep 7) H=H.set b (.opn 7 ((bg ss).flatten.map .f) (Nat.max fl (0+ss.length*7)) ep .loc):=by
   simp only [Jy,h2]
   rw [zx]
   intro x hx
   have hx:=List.mem_of_mem_drop (List.mem_of_mem_take hx)
   obtain⟨m,_,rfl⟩:=List.mem_map.1 hx
   exact⟨_,rfl⟩
  rw [e]
  refine⟨.inr ⟨h,b,ep,_,rfl,List.getElem?_set_self (aJ h2),Nat.max_le.2 ⟨h3,by omega⟩⟩,by simp,fun i y hy hn=>?_⟩
  have:b≠i:=by rintro rfl;exact hn rfl
  rw [List.getElem?_set_ne this];exact hy
end Go.Proofs.YtijkmcapnnlpjaaGreat
end
