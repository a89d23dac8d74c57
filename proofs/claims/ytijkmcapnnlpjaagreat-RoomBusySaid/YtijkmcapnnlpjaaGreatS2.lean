/-
  What the program's functions and the reference's answer, for all arguments of their kind, in the small machine: part 2.
-/
import Derived.Test.YtijkmcapnnlpjaaGreatS1
import Derived.Test.YtijkmcapnnlpjaaGreatK5
import Derived.Test.YtijkmcapnnlpjaaGreatK4
import Derived.Test.YtijkmcapnnlpjaaGreatProg
import Derived.Test.YtijkmcapnnlpjaaGreatTie
import Derived.Test.YtijkmcapnnlpjaaGreatEv
set_option linter.unusedVariables false
set_option linter.unusedSimpArgs false
set_option linter.unusedSectionVars false
section
namespace Go.Proofs.YtijkmcapnnlpjaaGreat
open Go Km
def jr(l:List sU):List (List FC):=l.map sU.row
@[simp] theorem aFH (l:List sU):(jr l).length=l.length:=by simp [jr]
theorem Gq(l:List sU):Grid 10 (jr l):=Grid.map fun _=>rfl
theorem MS{l:List sU}{j:Nat}(hj:j<l.length):(jr l)[j]?=some l[j].row:=by simp [jr,hj]
def tJ(l:List aT):Prop:=l.Pairwise fun a b=>fO a b=true
theorem xI{x y:aT}:fO x y=true↔x.meet<y.meet∨(x.meet=y.meet∧x.room<y.room):=by simp [fO]
theorem tJ.ins{l:List aT}{s:aT}(h:tJ l)(hn:∀ x ∈ l,¬ (x.meet=s.meet∧x.room=s.room)):tJ (l.filter (fun x=>fO x s)++[s]++l.filter fun x=>!fO x s):=by
 have key:∀ b ∈ l.filter (fun x=>!fO x s),fO s b=true:=fun b hb=>by
  obtain⟨h1,h2⟩:=List.mem_filter.1 hb
  have h3:=hn b h1
  have h4:¬ fO b s=true:=by simpa using h2
  rw [xI]at h4 ⊢
  omega
 unfold tJ
 rw [List.pairwise_append,List.pairwise_append]
 refine⟨⟨h.filter _,List.pairwise_singleton _ _,fun a ha b hb=>?_⟩,h.filter _,fun a ha b hb=>?_⟩
 ·obtain rfl:=List.mem_singleton.1 hb
  exact(List.mem_filter.1 ha).2
 ·have h1:=key b hb
  rcases List.mem_append.1 ha with ha | ha
  ·have h2:=(List.mem_filter.1 ha).2
   rw [xI]at *
   omega
  ·obtain rfl:=List.mem_singleton.1 ha;exact h1
theorem Za(l:List aT)(s:aT):(l.filter (fun x=>fO x s)++[s]++l.filter fun x=>!fO x s).length=l.length+1:=by
 induction l with
 | nil=>rfl
 | cons x l ih=>
  cases h:fO x s<;>simp [List.filter_cons,h]at ih ⊢<;>omega
theorem vU(l:List aT)(p:aT→Bool)(k:Nat):((l.take k).filter p).length≤l.length:=by
 have h1:=List.length_filter_le p (l.take k)
 have h2:=List.length_take_le' k l
 omega
theorem Y9{l:List aT}{s x:aT}(h:x ∈ l.filter (fun x=>fO x s)++[s]++l.filter fun x=>!fO x s):x=s∨x ∈ l:=by
 simp only [List.mem_append,List.mem_filter,List.mem_singleton]at h
 rcases h with(h | h) | h
 ·exact .inr h.1
 ·exact .inl h
 ·exact .inr h.1
theorem oU{l:List aT}{p:aT→Bool}{k:Nat}(hk:k<l.length):(l.take (k+1)).filter p=(l.take k).filter p++(if p l[k]then [l[k]]else []):=by
 rw [List.take_add_one,List.getElem?_eq_getElem hk,List.filter_append]
 cases h:p l[k]<;>simp [h]
def Dj(c c2:C):Prop:=∀ i,qE c=some i→qE c2≠some i
theorem lZ{H:Heap}{c c2:C}{ss nx:List aT}{bN:Nat}{y:Blk}(h:LS H c ss)(h2:LS H c2 nx)(hd:Dj c c2)(hl:nx.length≤1000)(hN:H[bN]?=some y)(hy:uw y=true)(x:aT) :
  ∃ c' H',dh (H++[.box (x.row.map .f) 0]) 7 88 (.c c2) (.c (.sl H.length 0 1 1 0 7))=some (.c c',H')∧LS H' c ss∧LS H' c' (nx++[x])∧Dj c c'∧H'[bN]?=some y:=by
 obtain⟨c',H',e1,e2,e3,e4,e5⟩:=(h2.push [.box (x.row.map .f) 0]).app hl (b1:=H.length) (fl1:=0) (x:=x) (by simp)
 refine⟨c',H',e1,?_,e2,?_,?_⟩
 ·exact(h.push [.box (x.row.map .f) 0]).keep fun i z hz hi=>e4 i z hz (hd i hi)
 ·intro i hi
  rcases e5 with e5 | e5
  ·rw [e5];exact hd i hi
  ·rw [e5]
   have:=h.lt hi
   simp
   omega
 ·refine e4 _ _ (by rw [List.getElem?_append_left (aJ hN)];exact hN) (h2.pY hN hy)
theorem SQ(g:Tg)(l:List sU)(hl:l.length≤9223372036854775807)(hx:∀ x ∈ l,x.OK):∃ g' ss,ss.length≤5∧tJ ss∧(∀ s ∈ ss,s.Fine)∧Km.Pure tab.get KQ [.c (.f (sl g (jr l)))]=Eq (.c (.f (sl g' (bg ss)))):=by
 have key:∃ r,(∃ g' ss,ss.length≤5∧tJ ss∧(∀ s ∈ ss,s.Fine)∧r=.c (.f (sl g' (bg ss))))∧Km.Pure tab.get KQ [.c (.f (sl g (jr l)))] r:=by
  refine lD aTC rfl fun Q hQ=>?_
  refine ak (aj (.inl rfl) ?_)
  simp
  refine ak (aj (.inl rfl) ?_)
  simp
  refine ak ?_
  refine ak (aj (.inl rfl) ?_)
  simp
  refine lF (min l.length 5) (fun j t H=>t.g 0=.c (.f (sl g (jr l)))∧∃ c ss,t.g 3=.c c∧LS H c ss∧ss.length≤j∧tJ ss∧∀ s ∈ ss,s.Fine) (by omega) rfl (by simp)
   ⟨by simp,.f .es,[],by simp,.inl ⟨rfl,rfl⟩,by simp,List.Pairwise.nil,by simp⟩ ?_ ?_ ?_
  ·rintro j t H L hj ⟨g0,c,ss,g3,hLS,hb,hso,hf⟩ ha hL
   by_cases k1:j<l.length
   ·simp [ha,g0,k1]
    refine hL _ ⟨by simp [g0],c,ss,by simp [g3],hLS,hb,hso,hf⟩ (by simp [ha]) ?_
    simp
    omega
   ·simp [ha,g0,k1]
    refine hL _ ⟨by simp [g0],c,ss,by simp [g3],hLS,hb,hso,hf⟩ (by simp [ha]) ?_
    simp
    omega
  ·rintro j t H hj ⟨g0,c,ss,g3,hLS,hb,hso,hf⟩ ha next
   have hj':j<l.length:=by omega
   obtain⟨s,hs,JR⟩:=as3 l[j] (hx _ (List.getElem_mem hj'))
   have JR:=Km.Pure.eq JR
   have hrow:=fun H:Heap=>dI (H:=H) (Gq l) (MS hj')
   simp only [sU.row,List.map_cons,List.map_nil]at hrow JR
   have hsr:s.row.map C.f=[.f (fi s.meet),.f (fi s.room),.f (fi s.kV),.f (fi s.size),.f (sl s.st.cg (aQ s.st.cs)),.f (fi s.st.len),.f (sl s.st.xg (aH s.st.xs))]:=rfl
   rw [hsr]at JR
   refine aP ?_
   refine ak (aj (.inl rfl) ?_)
   simp [g0,ha,bQ,hj',hrow,JR]
   have kN:(H++[Blk.box [.f (fi s.meet),.f (fi s.room),.f (fi s.kV),.f (fi s.size),.f (sl s.st.cg (aQ s.st.cs)),.f (fi s.st.len),.f (sl s.st.xg (aH s.st.xs))] 0])[H.length]?=some (.box [.f (fi s.meet),.f (fi s.room),.f (fi s.kV),.f (fi s.size),.f (sl s.st.cg (aQ s.st.cs)),.f (fi s.st.len),.f (sl s.st.xg (aH s.st.xs))] 0):=by simp
   have kL:=hLS.push [Blk.box [.f (fi s.meet),.f (fi s.room),.f (fi s.kV),.f (fi s.size),.f (sl s.st.cg (aQ s.st.cs)),.f (fi s.st.len),.f (sl s.st.xg (aH s.st.xs))] 0]
   obtain⟨bN,hbN⟩:∃ bN,bN=H.length:=⟨_,rfl⟩
   rw [←hbN]at kN ⊢
   generalize H++[Blk.box [.f (fi s.meet),.f (fi s.room),.f (fi s.kV),.f (fi s.size),.f (sl s.st.cg (aQ s.st.cs)),.f (fi s.st.len),.f (sl s.st.xg (aH s.st.xs))] 0]=HA at kN kL ⊢
   obtain⟨g2,hex⟩:=kL.ex 63
   have hex:exC deep HA c=some (sl g2 (bg ss)):=hex
   obtain⟨m1,m2,m3⟩:=kL.mk 63
   have Y1:mkC (63+1) c HA=mkC deep c HA:=rfl
   rw [Y1]at m1 m2 m3
   have mN:=m3 _ _ kN (kL.pY kN rfl)
   obtain⟨bl,hbl,YW⟩:=Uh g2 ss s (by omega)
   rw [hsr]at YW
   refine ak ?_
   refine ak (aj (.inl rfl) ?_)
   simp [g3,kN,hex,YW]
   generalize mkC deep c HA=HB at m1 m2 mN ⊢
   cases bl
   case true=>
    refine aC (by simp) ?_
    refine bM rfl ?_
    refine next _ _ ⟨by simp [g0],c,ss,by simp [g3],m1,by omega,hso,hf⟩ (by simp [ha])
   refine aA (by simp) (aK ?_)
   refine ak (aj (.inl rfl) ?_)
   simp
   have hear:=fun x:aT=>Oy x s
   have hno:=hbl rfl
   have second:∀(t:T) (H:Heap) (c2:C) (nx:List aT),t.g 0=.c (.f (sl g (jr l)))→t.g 3=.c c→t.g 4=vi j→t.g 5=.c (.ptr bN 0 0)→t.g 6=.c c2→H[bN]?=some (.box [.f (fi s.meet),.f (fi s.room),.f (fi s.kV),.f (fi s.size),.f (sl s.st.cg (aQ s.st.cs)),.f (fi s.st.len),.f (sl s.st.xg (aH s.st.xs))] 0) →
     LS H c ss→LS H c2 nx→Dj c c2→nx=ss.filter (fun x=>fO x s)++[s] →
     WP tab.get KQ none [.code Lr,.inBlock 1,.code (E5 4 18 19),.inLoop (su 0 4 17 18 19 [⟨D 10,.mov (R 4),none⟩,⟨D 11,.mov (R 0),none⟩,⟨D 12,.len (R 11),none⟩,⟨D 13,.bin .lss (R 10) (R 12),none⟩,⟨D 14,.mov (R 13),none⟩,⟨D 15,.mov (R 4),G 14 true⟩,⟨D 16,.bin .lss (R 15) (.k (.c (.f (.int .i64 5)))),G 14 true⟩,⟨D 17,.pick (R 14) (R 16) (.k (.c (.f (.bool false)))),none⟩] Ls),.inBlock 0,.code Lp] ⟨t,[],H⟩ Q:=by
    intro t H c2 nx g0 g3 g4 g5 g6 hN hc hc2 hd hnx
    refine ak ?_
    refine ak (aj (.inl rfl) ?_)
    simp
    refine lF ss.length (fun k t H=>t.g 0=.c (.f (sl g (jr l)))∧t.g 3=.c c∧t.g 4=vi j∧t.g 5=.c (.ptr bN 0 0)∧H[bN]?=some (.box [.f (fi s.meet),.f (fi s.room),.f (fi s.kV),.f (fi s.size),.f (sl s.st.cg (aQ s.st.cs)),.f (fi s.st.len),.f (sl s.st.xg (aH s.st.xs))] 0)∧LS H c ss ∧
     ∃ c2 nx,t.g 6=.c c2∧LS H c2 nx∧Dj c c2∧nx=ss.filter (fun x=>fO x s)++[s]++(ss.take k).filter fun x=>!fO x s) (by omega) rfl (by simp)
     ⟨by simp [g0],by simp [g3],by simp [g4],by simp [g5],hN,hc,c2,nx,by simp [g6],hc2,hd,by simpa using hnx⟩ ?_ ?_ ?_
    ·rintro k t H L hk ⟨g0,g3,g4,g5,hN,hc,c2,nx,g6,hc2,hd,hnx⟩ ha hL
     simp [ha,g3,hc.len]
     exact hL _ ⟨by simp [g0],by simp [g3],by simp [g4],by simp [g5],hN,hc,c2,nx,by simp [g6],hc2,hd,hnx⟩ (by simp [ha]) (by simp)
    ·rintro k t H hk ⟨g0,g3,g4,g5,hN,hc,c2,nx,g6,hc2,hd,hnx⟩ ha Jv
     obtain⟨b,ep,hi,hld⟩:=hc.at hk
     have hbe:=hear ss[k]
     rw [hsr]at hbe
     simp only [aT.row,List.map_cons,List.map_nil]at hld hbe
     refine aP ?_
     refine ak (aj (.inl rfl) ?_)
     simp [g3,g5,ha,hi,hld,-bT,show ldV H (some 7) (.c (.ptr bN 0 0))=some (.a [.f (fi s.meet),.f (fi s.room),.f (fi s.kV),.f (fi s.size),.f (sl s.st.cg (aQ s.st.cs)),.f (fi s.st.len),.f (sl s.st.xg (aH s.st.xs))]) by simp [hN],hbe]
     cases hcs:fO ss[k] s
     ·obtain⟨c',H',e1,e2,e3,e4,e5⟩:=lZ hc hc2 hd (by rw [hnx];have q1:=vU ss (fun x=>fO x s) k;have q2:=vU ss (fun x=>!fO x s) k;have q3:=List.length_filter_le (fun x=>fO x s) ss;(try simp only [List.length_append,List.length_singleton]);omega) hN rfl ss[k]
      simp only [aT.row,List.map_cons,List.map_nil]at e1
      refine aC (by simp) ?_
      refine aj (.inl rfl) ?_
      simp [g3,g6,ha,hi,hld,-bT,e1]
      refine aN (Jv _ _ ?_ (by simp [ha]))
      refine⟨by simp [g0],by simp [g3],by simp [g4],by simp [g5],e5,e2,c',nx++[ss[k]],by simp,e3,e4,?_⟩
      rw [oU hk,hnx]
      simp [hcs]
     ·refine aA (by simp) (aK (aN (Jv _ _ ?_ (by simp [ha]))))
      exact⟨by simp [g0],by simp [g3],by simp [g4],by simp [g5],hN,hc,c2,nx,by simp [g6],hc2,hd,by rw [oU hk,hnx];simp [hcs]⟩
    ·rintro t H ⟨g0,g3,g4,g5,hN,hc,c2,nx,g6,hc2,hd,hnx⟩ ha2
     refine aj (.inl rfl) ?_
     simp [g6]
     rw [List.take_length]at hnx
     subst hnx
     refine aN (next _ _ ⟨by simp [g0],c2,_,by simp,hc2,?_,hso.ins hno,fun x hx=>?_⟩ (by simp [g4]))
     ·have:=Za ss s
      omega
     ·rcases Y9 hx with rfl | hx
      ·exact hs
      ·exact hf x hx
   refine ak ?_
   refine ak (aj (.inl rfl) ?_)
   simp
   refine lF ss.length (fun k t H=>t.g 0=.c (.f (sl g (jr l)))∧t.g 3=.c c∧t.g 4=vi j∧t.g 5=.c (.ptr bN 0 0)∧H[bN]?=some (.box [.f (fi s.meet),.f (fi s.room),.f (fi s.kV),.f (fi s.size),.f (sl s.st.cg (aQ s.st.cs)),.f (fi s.st.len),.f (sl s.st.xg (aH s.st.xs))] 0)∧LS H c ss ∧
    ∃ c2 nx,t.g 6=.c c2∧LS H c2 nx∧Dj c c2∧nx=(ss.take k).filter fun x=>fO x s) (by omega) rfl (by simp)
    ⟨by simp [g0],by simp [g3],by simp [ha],by simp,mN,m1,.f .es,[],by simp,.inl ⟨rfl,rfl⟩,fun i _=>by simp [qE],by simp⟩ ?_ ?_ ?_
   ·rintro k t H L hk ⟨g0,g3,g4,g5,hN,hc,c2,nx,g6,hc2,hd,hnx⟩ ha hL
    simp [ha,g3,hc.len]
    exact hL _ ⟨by simp [g0],by simp [g3],by simp [g4],by simp [g5],hN,hc,c2,nx,by simp [g6],hc2,hd,hnx⟩ (by simp [ha]) (by simp)
   ·rintro k t H hk ⟨g0,g3,g4,g5,hN,hc,c2,nx,g6,hc2,hd,hnx⟩ ha Jv
    obtain⟨b,ep,hi,hld⟩:=hc.at hk
    have hbe:=hear ss[k]
    rw [hsr]at hbe
    simp only [aT.row,List.map_cons,List.map_nil]at hld hbe
    refine aP ?_
    refine ak (aj (.inl rfl) ?_)
    simp [g3,g5,ha,hi,hld,-bT,show ldV H (some 7) (.c (.ptr bN 0 0))=some (.a [.f (fi s.meet),.f (fi s.room),.f (fi s.kV),.f (fi s.size),.f (sl s.st.cg (aQ s.st.cs)),.f (fi s.st.len),.f (sl s.st.xg (aH s.st.xs))]) by simp [hN],hbe]
    cases hcs:fO ss[k] s
    ·refine aA (by simp) (aK (aN (Jv _ _ ?_ (by simp [ha]))))
     exact⟨by simp [g0],by simp [g3],by simp [g4],by simp [g5],hN,hc,c2,nx,by simp [g6],hc2,hd,by rw [oU hk,hnx];simp [hcs]⟩
    ·obtain⟨c',H',e1,e2,e3,e4,e5⟩:=lZ hc hc2 hd (by rw [hnx];have q1:=vU ss (fun x=>fO x s) k;have q2:=vU ss (fun x=>!fO x s) k;have q3:=List.length_filter_le (fun x=>fO x s) ss;(try simp only [List.length_append,List.length_singleton]);omega) hN rfl ss[k]
     simp only [aT.row,List.map_cons,List.map_nil]at e1
     refine aC (by simp) ?_
     refine aj (.inl rfl) ?_
     simp [g3,g6,ha,hi,hld,-bT,e1]
     refine aN (Jv _ _ ?_ (by simp [ha]))
     refine⟨by simp [g0],by simp [g3],by simp [g4],by simp [g5],e5,e2,c',nx++[ss[k]],by simp,e3,e4,?_⟩
     rw [oU hk,hnx]
     simp [hcs]
   ·rintro t H ⟨g0,g3,g4,g5,hN,hc,c2,nx,g6,hc2,hd,hnx⟩ ha2
    obtain⟨c',H',e1,e2,e3,e4,e5⟩:=lZ hc hc2 hd (by rw [hnx];have q1:=vU ss (fun x=>fO x s) ss.length;omega) hN rfl s
    rw [hsr]at e1
    refine ak (aj (.inl rfl) ?_)
    simp [g5,g6,hN,e1]
    refine second _ H' c' (nx++[s]) (by simp [g0]) (by simp [g3]) (by simp [g4]) (by simp [g5]) (by simp) e5 e2 e3 e4 (by rw [hnx,List.take_length])
  ·rintro t H ⟨g0,c,ss,g3,hLS,hb,hso,hf⟩ ha
   obtain⟨g2,hex⟩:=hLS.ex 63
   have hex:exC deep H c=some (sl g2 (bg ss)):=hex
   refine ak (aj (.inl rfl) ?_)
   simp [g3]
   refine aO (hQ _ _ _ ⟨g2,ss,by omega,hso,hf,rfl⟩ ?_)
   simp [hex]
 obtain⟨r,⟨g',ss,h1,h2,h3,rfl⟩,h⟩:=key
 exact⟨g',ss,h1,h2,h3,Km.Pure.eq h⟩
end Go.Proofs.YtijkmcapnnlpjaaGreat
end
section
namespace Go.Proofs.YtijkmcapnnlpjaaGreat
open Go Km
def aZ(l:List SpD):List (List FC):=l.map SpD.row
@[simp] theorem pK (l:List SpD):(aZ l).length=l.length:=by simp [aZ]
theorem fK(l:List SpD):Grid 2 (aZ l):=Grid.map fun _=>rfl
theorem oI{l:List SpD}{j:Nat}(hj:j<l.length):(aZ l)[j]?=some l[j].row:=by simp [aZ,hj]
def Ot(t:Int):Bool:=decide (t < -2251799813685248)||decide (2251799813685248<t)
theorem Zb(t:Int):Km.Pure tab.get Io [vi t]=Eq (vb (Ot t)):=Km.Pure.eq (by
 refine gY aLK rfl fun Q hQ=>?_
 refine ak (aj (.inl rfl) ?_)
 simp
 by_cases h:t < -2251799813685248
 ·refine ak (aj (.inl rfl) ?_)
  simp [h]
  refine aO (hQ _ _ ?_)
  simp [Ot,h]
 ·refine ak (aj (.inl rfl) ?_)
  simp [h]
  refine aO (hQ _ _ ?_)
  simp [Ot,h])
def xZ(s:SpD):Bool:=Ot s.fr||Ot s.to
theorem MV(s:SpD):Kf tab.get Du [.a (s.row.map .f)] (vb (xZ s)):=by
 refine eG aLI rfl fun H Q hQ=>?_
 refine ak (aj (.inl rfl) ?_)
 simp [SpD.row]
 cases h:Ot s.fr
 ·refine ak (aj (.inl rfl) ?_)
  simp [Zb,h]
  refine aO (hQ _ _ ?_)
  simp [xZ,h]
 ·refine ak (aj (.inl rfl) ?_)
  simp [Zb,h]
  refine aO (hQ _ _ ?_)
  simp [xZ,h]
theorem wS(g:Tg)(l:List SpD)(hl:l.length≤1000000):Km.Pure tab.get Dv [.c (.f (sl g (aZ l)))]=Eq (vb (!(l.any xZ))):=Km.Pure.eq (by
 have hc:=(jY aF1 (oO aF0 l SpD.row (fun s=>.a (s.row.map .f)) xZ g Du [] (by omega)
  (fun j hj H=>dI (fK l) (oI hj)) (fun s _=>MV s))).eq
 have hc':Km.Pure tab.get KG [.c (.f (sl g (aZ l))),.c (.f (.fn Du []))]=Eq (vb (l.any xZ)):=hc
 refine gY aLJ rfl fun Q hQ=>?_
 refine ak (aj (.inl rfl) ?_)
 simp
 refine ak (aj (.inl rfl) ?_)
 simp [hc']
 refine aO (hQ _ _ ?_)
 simp)
def InR(l:List SpD):Prop:=∀ s ∈ l,-2251799813685248≤s.fr∧s.fr≤2251799813685248∧-2251799813685248≤s.to∧s.to≤2251799813685248
theorem InR.any{l:List SpD}(h:InR l):l.any xZ=false:=by
 rw [List.any_eq_false]
 intro s hs
 have:=h s hs
 simp [xZ,Ot];omega
theorem SI(a b:Bool):Kf tab.get Ip [vb a,vb b] (vb (a||b)):=by
 refine eG aLP rfl fun H Q hQ=>?_
 refine ak (aj (.inl rfl) ?_)
 simp
 cases a
 ·refine ak (aj (.inl rfl) ?_)
  simp
  refine aO (hQ _ _ ?_)
  simp
 ·refine ak (aj (.inl rfl) ?_)
  simp
  refine aO (hQ _ _ ?_)
  simp
theorem OH(x y:Bd):Kf tab.get Dw [.a (x.row.map .f),.a (y.row.map .f)] (vi (oC x.at_ y.at_)):=by
 refine eG aLM rfl fun H Q hQ=>?_
 refine ak (aj (.inl rfl) ?_)
 simp [Bd.row]
 refine ak (aj (.inl rfl) ?_)
 simp [uH]
 refine aO (hQ _ _ ?_)
 simp
def ny(s:SpD)(t:Int):Bool:=decide (s.fr≤t)&&decide (t<s.to)
theorem atH(s:SpD)(t:Int):Kf tab.get Dy [.a (s.row.map .f),.c (.f (.fp [fi t] 0))] (vb (ny s t)):=by
 refine eG aLS rfl fun H Q hQ=>?_
 refine ak (aj (.inl rfl) ?_)
 simp [SpD.row]
 by_cases h:s.fr≤t
 ·refine ak (aj (.inl rfl) ?_)
  simp [qZ,h]
  refine aO (hQ _ _ ?_)
  simp [ny,h]
 ·refine ak (aj (.inl rfl) ?_)
  simp [qZ,h]
  refine aO (hQ _ _ ?_)
  simp [ny,h]
theorem L8(g:Tg)(l:List SpD)(t:Int)(hl:l.length≤1000000):Km.Pure tab.get O8 [.c (.f (sl g (aZ l))),vi t]=Eq (vb (l.any fun s=>ny s t)):=Km.Pure.eq (by
 have hc:=(jY aF1 (oO aF0 l SpD.row (fun s=>.a (s.row.map .f)) (fun s=>ny s t) g Dy [.fp [fi t] 0] (by omega)
  (fun j hj H=>dI (fK l) (oI hj)) (fun s _=>atH s t))).eq
 have hc':Km.Pure tab.get KG [.c (.f (sl g (aZ l))),.c (.f (.fn Dy [.fp [fi t] 0]))]=Eq (vb (l.any fun s=>ny s t)):=hc
 refine gY aLT rfl fun Q hQ=>?_
 refine ak (aj (.inl rfl) ?_)
 simp
 refine ak (aj (.inl rfl) ?_)
 simp [hc',deep]
 refine aO (hQ _ _ ?_)
 simp)
theorem vP(l:List SpD)(t:Int):(l.any fun s=>ny s t)=true↔kE l t:=by
 rw [List.any_eq_true]
 simp [kE,SpD.has,ny]
end Go.Proofs.YtijkmcapnnlpjaaGreat
end
section
namespace Go.Proofs.YtijkmcapnnlpjaaGreat
open Go Km
def dn(l:List Bd):List (List FC):=l.map Bd.row
@[simp] theorem OJ (l:List Bd):(dn l).length=l.length:=by simp [dn]
theorem jZ(l:List Bd):Grid 3 (dn l):=Grid.map fun _=>rfl
theorem xO{l:List Bd}{j:Nat}(hj:j<l.length):(dn l)[j]?=some l[j].row:=by simp [dn,hj]
def CQ:List FC→Bd
 | [.int _ a,.int _ b,.int _ c]=>⟨a,b,c⟩
 | _=>⟨0,0,0⟩
def U4(r:List FC):Prop:=r=(CQ r).row
theorem YN(x:Bd):U4 x.row:=rfl
def Yg(r s:List FC):Int:=oC (CQ r).at_ (CQ s).at_
theorem H8{a b:Int}:oC a b<0↔a<b:=by unfold oC;split<;>(try split)<;>omega
theorem aK9:Cmp U4 Yg where
 asym:=fun _ _ h h'=>by
  unfold Yg at h h'
  rw [H8]at h h';omega
 trans:=fun _ _ _ h h'=>by
  unfold Yg at *
  rw [H8]at *;omega
theorem aRA:Cv tab.get (.c (.f (.fn Dw []))) U4 Yg:=by
 intro x y hx hy H
 obtain⟨J,h⟩:=OH (CQ x) (CQ y) H
 rw [←show x=(CQ x).row from hx,←show y=(CQ y).row from hy]at h
 exact⟨Dw,_,J,by simp [dB],h⟩
theorem UA{rows:List (List FC)}(h:∀ r ∈ rows,U4 r):dn (rows.map CQ)=rows:=by
 unfold dn
 rw [List.map_map]
 conv=>rhs;rw [←List.map_id rows]
 exact List.map_congr_left fun r hr=>(h r hr).symm
theorem OL(l:List Bd):(dn l).map CQ=l:=by
 unfold dn
 rw [List.map_map]
 conv=>rhs;rw [←List.map_id l]
 exact List.map_congr_left fun r _=>rfl
theorem UM(ga gb:Tg)(a b:List SpD)(hl:2*(a.length+b.length)≤64) :
  ∃ g l,(l.Perm (dJ 0 a++dJ 1 b)∧yD l)∧Km.Pure tab.get xU [.c (.f (sl ga (aZ a))),.c (.f (sl gb (aZ b)))]=Eq (.c (.f (sl g (dn l)))):=by
 obtain⟨r,⟨g,l,h1,rfl⟩,h⟩:∃ r,(∃ g l,(l.Perm (dJ 0 a++dJ 1 b)∧yD l)∧r=.c (.f (sl g (dn l))))∧Km.Pure tab.get xU [.c (.f (sl ga (aZ a))),.c (.f (sl gb (aZ b)))] r:=by
  refine lD aLN rfl fun Q hQ=>?_
  have la:=pz 0 a
  have lb:=pz 1 b
  have one:∀(kk:List dR) (t:T) (H:Heap) (c:C) (o:List Bd) (g:Tg) (ls:Int) (p:List SpD),t.g 5=.c c→t.g 6=vi ls→t.g 7=.c (.f (sl g (aZ p)))→LR H c 3 (dn o)→o.length+2*p.length≤64 →
    (∀(t':T) (H':Heap) (c':C),(∀ i:Nat,i=12∨i=13∨i=14→t'.g i=t.g i)→t'.g 5=.c c'→LR H' c' 3 (dn (o++dJ ls p))→(∀(i:Nat) cs fl,H[i]?=some (Blk.box cs fl)→H'[i]?=some (Blk.box cs fl))→WP tab.get xU none kk ⟨t',[],H'⟩ Q) →
    WP tab.get xU none (.code FX::kk) ⟨t,[],H⟩ Q:=by
   intro kk t H c o g ls p g5 g6 g7 hLR hlen next
   have key:∀ i:Nat,i=12∨i=13∨i=14→i≠5∧i≠9∧i<15:=fun i h=>by omega
   refine ak (aj (.inl rfl) ?_)
   simp [g7]
   refine fA p.length (fun j t' H'=>(∀ i:Nat,i=12∨i=13∨i=14→t'.g i=t.g i)∧t'.g 6=vi ls∧t'.g 19=.c (.f (sl g (aZ p)))∧(∀(i:Nat) cs fl,H[i]?=some (Blk.box cs fl)→H'[i]?=some (Blk.box cs fl))∧∃ c',t'.g 5=.c c'∧LR H' c' 3 (dn (o++dJ ls (p.take j)))) (by omega) (by decide) (by decide) (by simp) (by simp)
    ⟨by rintro i (rfl | rfl | rfl)<;>simp,by simp [g6],by simp,fun i cs fl h=>h,c,by simp [g5],by simpa [dJ]using hLR⟩ ?_ ?_
   ·rintro j t' H' hj ⟨hk,g6,g19,hbx,c',g5,hLR⟩ ha hb nx
    have hrow:=fun H:Heap=>dI (H:=H) (fK p) (oI hj)
    have htk:p.take (j+1)=p.take j++[p[j]]:=by rw [List.take_add_one,List.getElem?_eq_getElem hj];rfl
    simp only [SpD.row]at hrow
    refine aP ?_
    refine ak (aj (.inl rfl) ?_)
    simp [g19,ha,bQ,hj,hrow]
    obtain⟨H1,hH1⟩:∃ H1,H1=H'++[.box [.f (fi p[j].fr),.f (fi p[j].to)] 0]:=⟨_,rfl⟩
    have k1:H1[H'.length]?=some (.box [.f (fi p[j].fr),.f (fi p[j].to)] 0):=by rw [hH1];simp
    have hL1:LR H1 c' 3 (dn (o++dJ ls (p.take j))):=by rw [hH1];exact hLR.push _
    have hb1:∀(i:Nat) cs fl,H[i]?=some (Blk.box cs fl)→H1[i]?=some (Blk.box cs fl):=fun i cs fl h=>by
     have:=hbx i cs fl h
     rw [hH1,List.getElem?_append_left (aJ this)];exact this
    rw [←hH1]
    refine ak (aj (.inl rfl) ?_)
    simp [k1]
    by_cases hne:p[j].fr<p[j].to
    case neg=>
     refine aA (by simp [hne]) (aK (aN (nx _ _ ?_ (by simp [ha]) (by simp [hb]))))
     refine⟨by rintro i (rfl | rfl | rfl)<;>simp [hk],by simp [g6],by simp [g19],hb1,c',by simp [g5],?_⟩
     rw [htk,FD]
     simpa [dJ,hne]using hL1
    refine aC (by simp [hne]) ?_
    obtain⟨H2,hH2⟩:∃ H2,H2=H1++[.box [.f (fi p[j].fr),.f (fi ls),.f (fi 1),.f (fi p[j].to),.f (fi ls),.f (fi (-1))] 0]:=⟨_,rfl⟩
    have hL2:LR H2 c' 3 (dn (o++dJ ls (p.take j))):=by rw [hH2];exact hL1.push _
    have k2:H2[H1.length]?=some (.box ((dn [⟨p[j].fr,ls,1⟩,⟨p[j].to,ls,-1⟩]).flatten.map .f) 0):=by rw [hH2];simp [dn,Bd.row]
    have hb2:∀(i:Nat) cs fl,H[i]?=some (Blk.box cs fl)→H2[i]?=some (Blk.box cs fl):=fun i cs fl h=>by
     have:=hb1 i cs fl h
     rw [hH2,List.getElem?_append_left (aJ this)];exact this
    have hbl:(dJ ls (p.take j)).length≤2*j:=by
     have:=pz ls (p.take j)
     rw [List.length_take]at this;omega
    obtain⟨c3,H3,e3,hL3,hK3,-⟩:=hL2.aYV (jZ _) (by decide) (jZ [⟨p[j].fr,ls,1⟩,⟨p[j].to,ls,-1⟩]) (by simp [dn]) (bytes:=24) (by simp [bP];omega) (cp:=2) k2
    simp only [OJ,List.length_cons,List.length_nil]at e3
    refine aj (.inl rfl) ?_
    simp [g5,g6,k1,←hH2,e3]
    refine aN (nx _ _ ?_ (by simp [ha]) (by simp [hb]))
    refine⟨by rintro i (rfl | rfl | rfl)<;>simp [hk],by simp [g6],by simp [g19],fun i cs fl h=>hK3.2 i _ (hb2 i cs fl h) (hL2.pY (hb2 i cs fl h)),c3,by simp,?_⟩
    rw [htk,FD]
    have e:dn (o++(dJ ls (List.take j p)++dJ ls [p[j]]))=dn (o++dJ ls (p.take j))++dn [⟨p[j].fr,ls,1⟩,⟨p[j].to,ls,-1⟩]:=by
     simp [dn,dJ,hne]
    rw [e];exact hL3
   ·rintro t' H' ⟨hk,g6,g19,hbx,c',g5,hLR⟩ ha hb
    rw [List.take_length]at hLR
    exact next _ H' c' (by rintro i (rfl | rfl | rfl)<;>simp [hk]) (by simp [g5]) hLR hbx
  refine ak (aj (.inl rfl) ?_)
  simp
  refine ak (aj (.inl rfl) ?_)
  simp
  refine ak ?_
  refine ak (aj (.inl rfl) ?_)
  simp [cO]
  refine fA 2 (fun j t H=>t.g 12=.c (.sl 0 0 2 2 0 1)∧H[0]?=some (.box [.f (sl ga (aZ a)),.f (sl gb (aZ b))] 0)∧∃ c,t.g 5=.c c∧LR H c 3 (dn (if j=0 then []else if j=1 then dJ 0 a else dJ 0 a++dJ 1 b))) (by omega) (by decide) (by decide) (by simp) (by simp)
   ⟨by simp,by simp,.f .ay,by simp,by simpa [dn]using LR.nil _ 3⟩ ?_ ?_
  ·rintro j t H hj ⟨g12,h0,c,g5,hLR⟩ ha hb nx
   refine aP ?_
   rcases(show j=0∨j=1 by omega)with rfl | rfl
   ·simp at ha
    refine ak (aj (.inl rfl) ?_)
    simp [g12,ha,bC,jG,h0]
    refine one _ _ H c [] ga 0 a (by simp [g5]) (by simp) (by simp) (by simpa using hLR) (by simp;omega) ?_
    intro t' H' c' hk g5 hLR hbx
    refine aN (nx _ _ ?_ (by rw [hk 14 (by omega)];simp [ha]) (by rw [hk 13 (by omega)];simp [hb]))
    exact⟨by simp [hk 12,g12],hbx _ _ _ h0,c',by simp [g5],by simpa using hLR⟩
   ·simp at ha
    refine ak (aj (.inl rfl) ?_)
    simp [g12,ha,bC,jG,h0]
    refine one _ _ H c (dJ 0 a) gb 1 b (by simp [g5]) (by simp) (by simp) (by simpa using hLR) (by omega) ?_
    intro t' H' c' hk g5 hLR hbx
    refine aN (nx _ _ ?_ (by rw [hk 14 (by omega)];simp [ha]) (by rw [hk 13 (by omega)];simp [hb]))
    exact⟨by simp [hk 12,g12],hbx _ _ _ h0,c',by simp [g5],by simpa using hLR⟩
  ·rintro t H ⟨g12,h0,c,g5,hLR⟩ ha hb
   simp at hLR
   have hW:∀ r ∈ dn (dJ 0 a++dJ 1 b),U4 r:=fun r hr=>by
    obtain⟨x,-,rfl⟩:=List.mem_map.1 hr
    exact YN x
   obtain⟨r,H',he,rfl,-,l',hL',pm,up⟩:=Km.Gj (F:=Z4) (σ:=bJ) aS9 L6 aRA aK9 (N:=64) (by omega) QL hLR (by simp;omega) (jZ _) hW
   have hW':∀ r ∈ l',U4 r:=fun r hr=>hW r (pm.mem_iff.1 hr)
   refine ak (aj (.inl rfl) ?_)
   simp [g5,he.eq]
   refine ak (aj (.inl rfl) ?_)
   simp [g5]
   have hgr:Grid 3 l':=fun r hr=>by rw [hW' r hr];rfl
   obtain⟨g,hg⟩:=hL'.ex hgr 63
   refine aO (hQ _ _ _ ⟨g,l'.map CQ,⟨?_,?_⟩,rfl⟩ ?_)
   ·have:=pm.map CQ
    rwa [OL]at this
   ·unfold yD
    rw [List.pairwise_iff_getElem]
    intro i j hi hj hij
    simp only [List.length_map]at hi hj
    have:=up i j l'[i] l'[j] (by omega) hij hj (List.getElem?_eq_getElem hi) (List.getElem?_eq_getElem hj)
    rw [List.getElem_map,List.getElem_map]
    unfold Yg at this
    rw [H8]at this;omega
   ·rw [UA hW']
    simp [deep,hg]
 exact⟨g,l,h1,Km.Pure.eq h⟩
end Go.Proofs.YtijkmcapnnlpjaaGreat
end
section
namespace Go.Proofs.YtijkmcapnnlpjaaGreat
open Go Km
theorem zK{k:Int}:∀(l:List Bd),(∀ b ∈ l,b.by_=1∨b.by_ = -1)→-(l.length:Int)≤ig k l∧ig k l≤l.length
 | [],_=>by simp [ig]
 | b::l,h=>by
  have:=zK (k:=k) l fun x hx=>h x (List.mem_cons_of_mem _ hx)
  have:=h b List.mem_cons_self
  simp only [ig,List.length_cons]
  split<;>omega
theorem FB{k:Int}{l:List SpD}{b:Bd}(h:b ∈ dJ k l):b.ls=k∧(b.by_=1∨b.by_ = -1)∧∃ s ∈ l,b.at_=s.fr∨b.at_=s.to:=by
 induction l with
 | nil=>cases h
 | cons x l ih=>
  simp only [dJ]at h
  split at h
  ·rcases List.mem_cons.1 h with rfl | h
   ·exact⟨rfl,.inl rfl,x,List.mem_cons_self,.inl rfl⟩
   rcases List.mem_cons.1 h with rfl | h
   ·exact⟨rfl,.inr rfl,x,List.mem_cons_self,.inr rfl⟩
   ·obtain⟨h1,h2,s,h3,h4⟩:=ih h
    exact⟨h1,h2,s,List.mem_cons_of_mem _ h3,h4⟩
  ·obtain⟨h1,h2,s,h3,h4⟩:=ih h
   exact⟨h1,h2,s,List.mem_cons_of_mem _ h3,h4⟩
theorem ZG{k:Int}{l:List SpD}{s:SpD}(h:s ∈ l)(hs:s.fr<s.to):(⟨s.to,k,-1⟩:Bd) ∈ dJ k l:=by
 induction l with
 | nil=>cases h
 | cons x l ih=>
  simp only [dJ]
  rcases List.mem_cons.1 h with rfl | h
  ·rw [if_pos hs];simp
  ·split
   ·exact List.mem_cons_of_mem _ (List.mem_cons_of_mem _ (ih h))
   ·exact ih h
theorem lI(n:Nat):(dQ n [fi 0,fi 0]).length=n*2:=by
 induction n with
 | zero=>rfl
 | succ n ih=>simp [dQ,ih,Nat.add_mul]
theorem Yt(n:Nat)(hn:n≤64):∃ c0 H0,dL c0≠some H0.length∧ML H0 c0 2 n (aZ [])∧∀ t:T,(R 17).ev t=vi n→xOp t [] (.eu 2 16 [fi 0,fi 0] (.k (vi 0)) (R 17))=some (.c c0,H0):=by
 have hro:bP n 16=true:=by simp [bP];omega
 have hx:∀ t:T,(R 17).ev t=vi n→xOp t [] (.eu 2 16 [fi 0,fi 0] (.k (vi 0)) (R 17))=(if(0:Int)≤0∧(0:Int)≤n∧bP (n:Int).toNat 16=true∧[fi 0,fi 0].length=2 then(if(n:Int)=0 then some (V.c (.f .es),([]:Heap))else some (V.c (.sl ([]:Heap).length 0 (0:Int).toNat (n:Int).toNat 0 2),[]++[.box ((dQ (n:Int).toNat [fi 0,fi 0]).map .f) 0]))else none):=fun t h=>by
  show(match jG ((Arg.k (vi 0)).ev t),jG ((R 17).ev t)with | some l,some c=>_ | _,_=>none)=_
  rw [h];rfl
 by_cases e:n=0
 ·subst e
  exact⟨.f .es,[],by simp [dL],.inl ⟨rfl,rfl,rfl⟩,fun t h=>by rw [hx t h];rfl⟩
 ·refine⟨.sl 0 0 0 n 0 2,[.box ((dQ n [fi 0,fi 0]).map .f) 0],by simp [dL],.inr ⟨by simp,by omega,0,(dQ n [fi 0,fi 0]).map .f,rfl,by simp [aZ],?_⟩,fun t h=>?_⟩
  ·simp [lI]
  ·rw [hx t h,if_pos ⟨by omega,by omega,by simpa using hro,rfl⟩,if_neg (by omega)]
   simp
theorem WU(ga gb:Tg)(a b:List SpD)(hl:2*(a.length+b.length)≤64)(ha:InR a)(hb:InR b){G:Nat}{kp:Bool→Bool→Bool}(hG:∀ x y,Kf tab.get G [vb x,vb y] (vb (kp x y)))(h00:kp false false=false) :
  ∃ g o,(Dn o∧o.length≤64∧InR o∧∀ t (x y:Bool),(x=true↔kE a t)→(y=true↔kE b t)→(kE o t↔kp x y=true)) ∧
   Km.Pure tab.get rQ [.c (.f (sl ga (aZ a))),.c (.f (sl gb (aZ b))),.c (.f (.fn G []))]=Eq (.c (.f (sl g (aZ o)))):=by
 obtain⟨g0,l,⟨pm,so⟩,hbd⟩:=UM ga gb a b hl
 have hlen:l.length≤64:=by
  have:=pm.length_eq
  have h1:=pz 0 a
  have h2:=pz 1 b
  rw [List.length_append]at this;omega
 have hbs:∀ x ∈ l,(x.ls=0∨x.ls=1)∧(x.by_=1∨x.by_ = -1)∧-2251799813685248≤x.at_∧x.at_≤2251799813685248:=fun x hx=>by
  rcases List.mem_append.1 (pm.mem_iff.1 hx)with h | h
  ·obtain⟨h1,h2,s,h3,h4⟩:=FB h
   have:=ha s h3
   exact⟨.inl h1,h2,by omega⟩
  ·obtain⟨h1,h2,s,h3,h4⟩:=FB h
   have:=hb s h3
   exact⟨.inr h1,h2,by omega⟩
 obtain⟨K,hK⟩:∃ K:Int→Prop,K=fun t=>kp (decide (0<jl 0 t l)) (decide (0<jl 1 t l))=true:=⟨_,rfl⟩
 have s0:∀ t,0<jl 0 t l↔kE a t:=fun t=>by
  rw [EH pm,zM,zL (k:=0) (j:=1) (by decide),Int.add_zero];exact(II 0 t a).2
 have s1:∀ t,0<jl 1 t l↔kE b t:=fun t=>by
  rw [EH pm,zM,zL (k:=1) (j:=0) (by decide),Int.zero_add];exact(II 1 t b).2
 have start:sS K l 0 []:=sS.start fun t ht=>by
  have h0:∀ k,jl k t l=0:=fun k=>F8 l fun x hx=>by
   obtain⟨j,hj,rfl⟩:=List.getElem_of_mem hx
   have:=so.get (i:=0) (j:=j) (by omega) hj
   have:=ht (by omega)
   omega
  rw [hK];simp [h0,h00]
 have now:∀(i:Nat) (hi:i<l.length) (t:Int),l[i].at_≤t→(∀ h':i+1<l.length,t<l[i+1].at_)→(K t↔kp (decide (0<ig 0 (l.take (i+1)))) (decide (0<ig 1 (l.take (i+1))))=true):=fun i hi t h1 h2=>by
  rw [hK]
  simp only [so.sum hi h1 h2]
 obtain⟨r,⟨g,o,h1,rfl⟩,h⟩:∃ r,(∃ g o,(sS K l l.length o∧o.length≤64∧InR o)∧r=.c (.f (sl g (aZ o))))∧Km.Pure tab.get rQ [.c (.f (sl ga (aZ a))),.c (.f (sl gb (aZ b))),.c (.f (.fn G []))] r:=by
  refine lD aLH rfl fun Q hQ=>?_
  refine ak (aj (.inl rfl) ?_)
  simp
  refine ak (aj (.inl rfl) ?_)
  simp [hbd]
  obtain⟨c0,H0,hc0,aYG,hmk⟩:=Yt l.length hlen
  refine ak (aj (.inl rfl) ?_)
  simp [hmk]
  have atJ:=aYG.push [.box [.f (fi 0),.f (fi 0)] 0]
  refine ak (aj (.inl rfl) ?_)
  simp
  refine ak ?_
  refine ak (aj (.inl rfl) ?_)
  simp
  obtain⟨pb,hpb⟩:∃ pb,pb=H0.length:=⟨_,rfl⟩
  rw [←hpb]
  refine fA l.length (fun i t H=>t.g 2=.c (.f (.fn G []))∧t.g 7=.c (.f (sl g0 (dn l)))∧t.g 9=.c (.ptr pb 0 0)∧t.g 19=.c (.f (sl g0 (dn l)))∧H[pb]?=some (.box [.f (fi (ig 0 (l.take i))),.f (fi (ig 1 (l.take i)))] 0) ∧
   ∃ c o,t.g 8=.c c∧dL c≠some pb∧ML H c 2 l.length (aZ o)∧sS K l i o∧o.length≤i∧InR o) (by omega) (by decide) (by decide) (by simp) (by simp)
   ⟨by simp,by simp,by simp,by simp,by rw [hpb];simp [ig],c0,[],by simp,by rw [hpb];exact hc0,by simpa [aZ]using atJ,start,by simp,fun s hs=>(nomatch hs)⟩ ?_ ?_
  ·rintro i t H hi ⟨g2,g7,g9,g19,hop,c,o,g8,JQ,hML,hsw,hol,hinr⟩ ha hb nx
   have hrow:=fun H:Heap=>dI (H:=H) (jZ l) (xO hi)
   simp only [Bd.row]at hrow
   obtain⟨hls,hby,aYD,aYC⟩:=hbs l[i] (List.getElem_mem hi)
   have htk:l.take (i+1)=l.take i++[l[i]]:=by rw [List.take_add_one,List.getElem?_eq_getElem hi];rfl
   have hsm:∀ k,ig k (l.take (i+1))=ig k (l.take i)+(if l[i].ls=k then l[i].by_ else 0):=fun k=>by rw [htk,WV];simp [ig]
   have hbd0:=fun k=>zK (k:=k) (l.take i) fun x hx=>(hbs x (List.mem_of_mem_take hx)).2.1
   rw [List.length_take]at hbd0
   refine aP ?_
   refine ak (aj (.inl rfl) ?_)
   simp [g19,ha,bQ,hi,hrow]
   obtain⟨H1,hH1⟩:∃ H1,H1=H++[.box [.f (fi l[i].at_),.f (fi l[i].ls),.f (fi l[i].by_)] 0]:=⟨_,rfl⟩
   have k1:H1[H.length]?=some (.box [.f (fi l[i].at_),.f (fi l[i].ls),.f (fi l[i].by_)] 0):=by rw [hH1];simp
   have hop1:H1[pb]?=some (.box [.f (fi (ig 0 (l.take i))),.f (fi (ig 1 (l.take i)))] 0):=by rw [hH1,List.getElem?_append_left (aJ hop)];exact hop
   have atJ:ML H1 c 2 l.length (aZ o):=by rw [hH1];exact hML.push _
   have hpn:pb≠H.length:=by have:=aJ hop;omega
   rw [←hH1]
   have go:∀(t:T) (H2:Heap),t.g 2=.c (.f (.fn G []))→t.g 7=.c (.f (sl g0 (dn l)))→t.g 8=.c c→t.g 9=.c (.ptr pb 0 0)→t.g 10=vi i→t.g 11=.c (.ptr H.length 0 0)→t.g 19=.c (.f (sl g0 (dn l)))→t.g 21=vi i→t.g 20=vi l.length →
     H2[pb]?=some (.box [.f (fi (ig 0 (l.take (i+1)))),.f (fi (ig 1 (l.take (i+1))))] 0)→H2[H.length]?=some (.box [.f (fi l[i].at_),.f (fi l[i].ls),.f (fi l[i].by_)] 0)→ML H2 c 2 l.length (aZ o) →
     ∀ kk,(∀ t' H',(t'.g 2=.c (.f (.fn G []))∧t'.g 7=.c (.f (sl g0 (dn l)))∧t'.g 9=.c (.ptr pb 0 0)∧t'.g 19=.c (.f (sl g0 (dn l)))∧H'[pb]?=some (.box [.f (fi (ig 0 (l.take (i+1)))),.f (fi (ig 1 (l.take (i+1))))] 0) ∧
      ∃ c o,t'.g 8=.c c∧dL c≠some pb∧ML H' c 2 l.length (aZ o)∧sS K l (i+1) o∧o.length≤i+1∧InR o)→t'.g 21=vi i→t'.g 20=vi l.length→WP tab.get rQ none kk ⟨t',[],H'⟩ Q) →
     WP tab.get rQ none (.code FW::.inBlock 1::kk) ⟨t,[],H2⟩ Q:=by
    intro t H2 g2 g7 g8 g9 g10 g11 g19 g21 g20 hop2 k2 aKZ kk nx
    have skip:∀(t:T) (H3:Heap),t.g 2=.c (.f (.fn G []))→t.g 7=.c (.f (sl g0 (dn l)))→t.g 8=.c c→t.g 9=.c (.ptr pb 0 0)→t.g 19=.c (.f (sl g0 (dn l)))→t.g 21=vi i→t.g 20=vi l.length →
      H3[pb]?=some (.box [.f (fi (ig 0 (l.take (i+1)))),.f (fi (ig 1 (l.take (i+1))))] 0)→ML H3 c 2 l.length (aZ o)→(∀ t,l[i].at_≤t→(∀ h':i+1<l.length,t<l[i+1].at_)→¬ K t) →
      WP tab.get rQ none kk ⟨t,[],H3⟩ Q:=fun t H3 g2 g7 g8 g9 g19 g21 g20 h1 h2 h3=>
     nx t H3 ⟨g2,g7,g9,g19,h1,c,o,g8,JQ,h2,hsw.skip so hi h3,by omega,hinr⟩ g21 g20
    have wi:IntKind.i64.wrap ((i:Int)+1)=(i:Int)+1:=wrap64 (by omega) (by omega)
    refine ak ?_
    by_cases hlast:i+1=l.length
    ·refine ak (aj (.inl rfl) ?_)
     have hl':(i:Int)+1=(l.length:Int):=by omega
     have wl:IntKind.i64.wrap (l.length:Int)=l.length:=wrap64 (by omega) (by omega)
     simp [g7,g10,wi,hl',wl]
     refine aC (by simp) ?_
     refine bM (k':=kk) rfl ?_
     refine skip _ _ (by simp [g2]) (by simp [g7]) (by simp [g8]) (by simp [g9]) (by simp [g19]) (by simp [g21]) (by simp [g20]) hop2 aKZ fun t h1 h2=>?_
     have hno:∀(k:Int) (p:List SpD),(∀ b ∈ dJ k p,b ∈ l)→¬ kE p t:=by
      rintro k p hp ⟨s,hs,h3,h4⟩
      obtain⟨j,hj,e⟩:=List.getElem_of_mem (hp _ (ZG (k:=k) hs (by omega)))
      have:=so.get (i:=j) (j:=i) (by omega) hi
      rw [e]at this
      have:s.to≤l[i].at_:=this
      omega
     have f0:¬ 0<jl 0 t l:=fun h=>hno 0 a (fun b hb=>pm.mem_iff.2 (List.mem_append_left _ hb)) ((s0 t).1 h)
     have f1:¬ 0<jl 1 t l:=fun h=>hno 1 b (fun b hb=>pm.mem_iff.2 (List.mem_append_right _ hb)) ((s1 t).1 h)
     rw [hK];simp [f0,f1,h00]
    have hi1:i+1<l.length:=by omega
    have hrow1:=fun H:Heap=>dI (H:=H) (jZ l) (xO hi1)
    have hl':¬ ((i:Int)+1=(l.length:Int)):=by omega
    have hidx1:=fun H:Heap=>bQ (H:=H) (g:=g0) (rows:=dn l) (sz:=3) (k:=.i64) (i:=(i:Int)+1) (by omega) (by simp;omega)
    have ld1:=fun H:Heap=>zq (H:=H) (x:=fi l[i+1].at_) (jZ l) (xO hi1) (by simp [Bd.row])
    have htn:((i:Int)+1).toNat=i+1:=by omega
    rw [htn]at hidx1
    (try simp at hidx1);(try simp at ld1)
    obtain⟨-,-,aRn,aRm⟩:=hbs l[i+1] (List.getElem_mem hi1)
    have hle:=so.get (i:=i) (j:=i+1) (by omega) hi1
    by_cases heq:l[i+1].at_=l[i].at_
    ·refine ak (aj (.inl rfl) ?_)
     simp [g7,g10,g11,wi,hl',hidx1,ld1,k2,heq]
     refine aC (by simp) ?_
     refine bM (k':=kk) rfl ?_
     refine skip _ _ (by simp [g2]) (by simp [g7]) (by simp [g8]) (by simp [g9]) (by simp [g19]) (by simp [g21]) (by simp [g20]) hop2 aKZ fun t h1 h2=>?_
     have:=h2 hi1
     omega
    have hlt:l[i].at_<l[i+1].at_:=by omega
    obtain⟨J,hev⟩:=hG (decide (0<ig 0 (l.take (i+1)))) (decide (0<ig 1 (l.take (i+1)))) H2
    have hev:=hev.eq
    have YT:(H2++J)[pb]?=some (.box [.f (fi (ig 0 (l.take (i+1)))),.f (fi (ig 1 (l.take (i+1))))] 0):=by rw [List.getElem?_append_left (aJ hop2)];exact hop2
    have k3:(H2++J)[H.length]?=some (.box [.f (fi l[i].at_),.f (fi l[i].ls),.f (fi l[i].by_)] 0):=by rw [List.getElem?_append_left (aJ k2)];exact k2
    have Y5:=aKZ.push J
    have i0:bC H2 1 (some 2) (.c (.ptr pb 0 0)) (vi 0)=some (.c (.ptr pb 0 0)):=rfl
    have i1:bC H2 1 (some 2) (.c (.ptr pb 0 0)) (vi 1)=some (.c (.ptr pb 1 0)):=rfl
    refine ak (aj (.inl rfl) ?_)
    simp [g2,g7,g9,g10,g11,wi,hl',hidx1,ld1,k2,heq,i0,i1,hop2,hev]
    generalize H2++J=H3 at YT k3 Y5 ⊢
    cases hkp:kp (decide (0<ig 0 (l.take (i+1)))) (decide (0<ig 1 (l.take (i+1))))
    ·refine aC (by simp [hkp]) ?_
     refine bM (k':=kk) rfl ?_
     refine skip _ _ (by simp [g2]) (by simp [g7]) (by simp [g8]) (by simp [g9]) (by simp [g19]) (by simp [g21]) (by simp [g20]) YT Y5 fun t h1 h2=>?_
     rw [now i hi t h1 h2,hkp];simp
    refine aA (by simp [hkp]) (aK ?_)
    have aRq:∀ t,l[i].at_≤t→t<l[i+1].at_→K t:=fun t h1 h2=>(now i hi t h1 fun _=>h2).2 hkp
    have hln:=Y5.len
    rw [pK]at hln
    refine ak ?_
    refine ak (aj (.inl rfl) ?_)
    simp [g8,hln]
    refine ak ?_
    have more:∀(t:T),t.g 2=.c (.f (.fn G []))→t.g 7=.c (.f (sl g0 (dn l)))→t.g 8=.c c→t.g 9=.c (.ptr pb 0 0)→t.g 10=vi i→t.g 11=.c (.ptr H.length 0 0)→t.g 19=.c (.f (sl g0 (dn l)))→t.g 21=vi i→t.g 20=vi l.length→(∀ s ∈ o,s.to≠l[i].at_) →
      WP tab.get rQ none (.code FU::.inBlock 1::kk) ⟨t,[],H3⟩ Q:=by
     intro t g2 g7 g8 g9 g10 g11 g19 g21 g20 hne
     obtain⟨H4,hH4⟩:∃ H4,H4=H3++[.box [.f (fi l[i].at_),.f (fi l[i+1].at_)] 0]:=⟨_,rfl⟩
     have atI:ML H4 c 2 l.length (aZ o):=by rw [hH4];exact Y5.push _
     have k4:H4[H3.length]?=some (.box ((SpD.row ⟨l[i].at_,l[i+1].at_⟩).map .f) 0):=by rw [hH4];simp [SpD.row]
     have aYo:H4[pb]?=some (.box [.f (fi (ig 0 (l.take (i+1)))),.f (fi (ig 1 (l.take (i+1))))] 0):=by rw [hH4,List.getElem?_append_left (aJ YT)];exact YT
     obtain⟨c',H5,e5,aYF,hK5,hbc⟩:=atI.app (fK o) (by decide) (row:=SpD.row ⟨l[i].at_,l[i+1].at_⟩) rfl (by simp;omega) (bytes:=16) k4
     have aYn:H5[pb]?=some (.box [.f (fi (ig 0 (l.take (i+1)))),.f (fi (ig 1 (l.take (i+1))))] 0):=hK5.2 _ _ aYo JQ
     refine aj (.inl rfl) ?_
     simp [g7,g8,g10,g11,wi,hidx1,ld1,k3,←hH4,e5]
     refine aN (nx _ _ ⟨by simp [g2],by simp [g7],by simp [g9],by simp [g19],aYn,c',o++[⟨l[i].at_,l[i+1].at_⟩],by simp,by rw [hbc];exact JQ,by simpa [aZ]using aYF,hsw.app hi1 hlt aRq hne,by simp;omega,?_⟩ (by simp [g21]) (by simp [g20]))
     intro s hs
     rcases List.mem_append.1 hs with hs | hs
     ·exact hinr s hs
     ·obtain rfl:=List.mem_singleton.1 hs
      exact⟨aYD,aYC,aRn,aRm⟩
    rcases List.eq_nil_or_concat o with rfl | ⟨o',s,rfl⟩
    ·refine aj (.inl rfl) ?_
     simp
     refine aA (by simp) (aK ?_)
     exact more _ (by simp [g2]) (by simp [g7]) (by simp [g8]) (by simp [g9]) (by simp [g10]) (by simp [g11]) (by simp [g19]) (by simp [g21]) (by simp [g20]) (by simp)
    rw [List.concat_eq_append]at *
    obtain⟨b,hi0,hl0,hst⟩:=Y5.at (fK _) (j:=o'.length) (k:=1) (by simp) (by decide)
    have hget:(aZ (o'++[s]))[o'.length]'(by simp)=s.row:=by simp [aZ]
    simp only [hget]at hl0 hst
    have hl1:ldV H3 none (.c (.ptr b (o'.length*2+1) 0))=some (vi s.to):=hl0
    have aZI:o'.length+1≤i:=by simpa using hol
    have wo:IntKind.i64.wrap (o'.length:Int)=o'.length:=wrap64 (by omega) (by omega)
    have hpos:(0:Int)<(o'.length:Int)+1:=by omega
    refine aj (.inl rfl) ?_
    simp [g8,g11,hpos,wo,hi0,hl1,k3,-bT]
    have k3':ldV H3 none (.c (.ptr H.length 0 0))=some (vi l[i].at_):=by simp [k3]
    simp [k3',-bT]
    by_cases he:s.to=l[i].at_
    case neg=>
     refine aA (by simp [he]) (aK ?_)
     refine more _ (by simp [g2]) (by simp [g7]) (by simp [g8]) (by simp [g9]) (by simp [g10]) (by simp [g11]) (by simp [g19]) (by simp [g21]) (by simp [g20]) fun x hx=>?_
     rcases List.mem_append.1 hx with hx | hx
     ·have h1:=hsw.nm.1
      rw [List.pairwise_append]at h1
      have h2:=h1.2.2 x hx s (by simp)
      have h3:=hsw.nm.2 s (by simp)
      have h4:=hsw.le hi s (by simp)
      omega
     ·obtain rfl:=List.mem_singleton.1 hx;exact he
    refine aC (by simp [he]) ?_
    obtain⟨H4,e4,atI,hK4⟩:=hst (fi l[i+1].at_)
    refine ak (aj (.inl rfl) ?_)
    simp [g7,g8,g10,wi,wo,hi0,hidx1,ld1,e4,-bT,-fG]
    refine bM (k':=kk) rfl ?_
    have hrows:(aZ (o'++[s])).set o'.length (s.row.set 1 (fi l[i+1].at_))=aZ (o'++[⟨s.fr,l[i+1].at_⟩]):=by simp [aZ,SpD.row]
    rw [hrows]at atI
    refine nx _ _ ⟨by simp [g2],by simp [g7],by simp [g9],by simp [g19],hK4.2 _ _ YT JQ,c,o'++[⟨s.fr,l[i+1].at_⟩],by simp [g8],JQ,atI,hsw.grow hi1 hlt aRq he,by simp at hol ⊢;omega,?_⟩ (by simp [g21]) (by simp [g20])
    intro x hx
    rcases List.mem_append.1 hx with hx | hx
    ·exact hinr x (List.mem_append_left _ hx)
    ·obtain rfl:=List.mem_singleton.1 hx
     have:=hinr s (by simp)
     exact⟨this.1,this.2.1,aRn,aRm⟩
   have wrs:∀ k,IntKind.i64.wrap (ig k (l.take i)+l[i].by_)=ig k (l.take i)+l[i].by_:=fun k=>wrap64 (by have:=hbd0 k;omega) (by have:=hbd0 k;omega)
   have i0:∀ H,bC H 1 (some 2) (.c (.ptr pb 0 0)) (vi 0)=some (.c (.ptr pb 0 0)):=fun _=>rfl
   have i1:∀ H,bC H 1 (some 2) (.c (.ptr pb 0 0)) (vi 1)=some (.c (.ptr pb 1 0)):=fun _=>rfl
   refine ak ?_
   rcases hls with hz | hz
   ·rw [hz]at k1
    refine aj (.inl rfl) ?_
    simp [g9,k1,i0,hop1,wrs]
    refine go _ _ (by simp [g2]) (by simp [g7]) (by simp [g8]) (by simp [g9]) (by simp [ha]) (by simp) (by simp [g19]) (by simp [ha]) (by simp [hb]) ?_ ?_ (atJ.set JQ _) _ fun t' H' hI h21 h20=>nx t' H' ?_ h21 h20
    ·rw [List.getElem?_set_self (aJ hop1),hsm,hsm,if_pos hz,if_neg (by omega),Int.add_zero]
    ·rw [List.getElem?_set_ne hpn,k1,hz]
    ·obtain⟨q2,q7,q9,q19,q,c',o',q8,r1,r2,r3,r4,r5⟩:=hI
     exact⟨by simp [q2],by simp [q7],by simp [q9],by simp [q19],q,c',o',by simp [q8],r1,r2,r3,r4,r5⟩
   ·rw [hz]at k1
    refine aj (.inl rfl) ?_
    simp [g9,k1,i1,hop1,wrs]
    refine go _ _ (by simp [g2]) (by simp [g7]) (by simp [g8]) (by simp [g9]) (by simp [ha]) (by simp) (by simp [g19]) (by simp [ha]) (by simp [hb]) ?_ ?_ (atJ.set JQ _) _ fun t' H' hI h21 h20=>nx t' H' ?_ h21 h20
    ·rw [List.getElem?_set_self (aJ hop1),hsm,hsm,if_neg (by omega),if_pos hz,Int.add_zero]
    ·rw [List.getElem?_set_ne hpn,k1,hz]
    ·obtain⟨q2,q7,q9,q19,q,c',o',q8,r1,r2,r3,r4,r5⟩:=hI
     exact⟨by simp [q2],by simp [q7],by simp [q9],by simp [q19],q,c',o',by simp [q8],r1,r2,r3,r4,r5⟩
  ·rintro t H ⟨g2,g7,g9,g19,hop,c,o,g8,JQ,hML,hsw,hol,hinr⟩ ha hb
   obtain⟨c',g,hcut,hex⟩:=hML.cut (fK o)
   rw [pK]at hcut
   refine ak (aj (.inl rfl) ?_)
   have hln:=hML.len
   rw [pK]at hln
   simp [g8,hln,hcut]
   refine aO (hQ _ _ _ ⟨g,o,⟨hsw,by omega,hinr⟩,rfl⟩ ?_)
   simp [deep,hex]
 have hfin:=h1.1.mem
 refine⟨g,o,⟨h1.1.nm,h1.2.1,h1.2.2,fun t x y hx hy=>?_⟩,Km.Pure.eq h⟩
 rw [hfin t (fun h=>absurd h (by omega)),hK]
 have e0:decide (0<jl 0 t l)=x:=by rw [Bool.eq_iff_iff];simp only [decide_eq_true_eq];exact(s0 t).trans hx.symm
 have e1:decide (0<jl 1 t l)=y:=by rw [Bool.eq_iff_iff];simp only [decide_eq_true_eq];exact(s1 t).trans hy.symm
 simp only [e0,e1]
end Go.Proofs.YtijkmcapnnlpjaaGreat
end
section
namespace Go.Proofs.YtijkmcapnnlpjaaGreat
open Go Km
theorem WS(ga gb:Tg)(a b:List SpD)(hl:2*(a.length+b.length)≤64)(ha:InR a)(hb:InR b) :
  ∃ g o,(Dn o∧o.length≤64∧InR o∧∀ t,kE o t↔kE a t∨kE b t) ∧
   Km.Pure tab.get Iq [.c (.f (sl ga (aZ a))),.c (.f (sl gb (aZ b)))]=Eq (.t [.c (.f (sl g (aZ o))),vi 0]):=by
 obtain⟨g,o,⟨h1,h2,h3,h4⟩,hs⟩:=WU ga gb a b hl ha hb (kp:=or) SI rfl
 have ra:=wS ga a (by omega)
 have rb:=wS gb b (by omega)
 rw [ha.any]at ra
 rw [hb.any]at rb
 simp at ra rb
 have hc:Km.Pure tab.get O5 [.c (.f (sl ga (aZ a))),.c (.f (sl gb (aZ b))),.c (.f (.fn Ip []))]=Eq (.t [.c (.f (sl g (aZ o))),vi 0]):=Km.Pure.eq (by
  refine gY aLL rfl fun Q hQ=>?_
  refine ak (aj (.inl rfl) ?_)
  simp
  refine ak ?_
  refine ak (aj (.inl rfl) ?_)
  simp [ra,rb]
  refine aA (by simp) (aK ?_)
  refine ak (aj (.inl rfl) ?_)
  simp [hs]
  refine aO (hQ _ _ ?_)
  simp)
 refine⟨g,o,⟨h1,h2,h3,fun t=>?_⟩,Km.Pure.eq ?_⟩
 ·have:=h4 t (a.any fun s=>ny s t) (b.any fun s=>ny s t) (vP a t) (vP b t)
  rw [this,Bool.or_eq_true,vP,vP]
 ·refine gY aLQ rfl fun Q hQ=>?_
  refine ak (aj (.inl rfl) ?_)
  simp
  refine ak (aj (.inl rfl) ?_)
  simp [hc]
  refine aO (hQ _ _ ?_)
  simp
theorem asR(ga:Tg)(a:List SpD)(hl:2*a.length≤64)(ha:InR a) :
  ∃ g o,(Dn o∧o.length≤64∧InR o∧∀ t,kE o t↔kE a t)∧Km.Pure tab.get O7 [.c (.f (sl ga (aZ a)))]=Eq (.t [.c (.f (sl g (aZ o))),vi 0]):=by
 obtain⟨g,o,⟨h1,h2,h3,h4⟩,hs⟩:=WS ga .nil a [] (by simpa using hl) ha (fun s h=>nomatch h)
 have hs':Km.Pure tab.get Iq [.c (.f (sl ga (aZ a))),.c (.f .ay)]=Eq (.t [.c (.f (sl g (aZ o))),vi 0]):=hs
 refine⟨g,o,⟨h1,h2,h3,fun t=>?_⟩,Km.Pure.eq ?_⟩
 ·rw [h4 t];simp [kE]
 ·refine gY aLR rfl fun Q hQ=>?_
  refine ak (aj (.inl rfl) ?_)
  simp
  refine ak (aj (.inl rfl) ?_)
  simp [hs']
  refine aO (hQ _ _ ?_)
  simp
theorem Gi(g:Tg)(l:List SpD)(hl:l.length≤64)(hn:Dn l)(hr:InR l):Km.Pure tab.get O6 [.c (.f (sl g (aZ l)))]=Eq (vb true):=Km.Pure.eq (by
 have ra:=wS g l (by omega)
 rw [hr.any]at ra
 simp at ra
 refine gY aLO rfl fun Q hQ=>?_
 refine ak (aj (.inl rfl) ?_)
 simp
 refine ak ?_
 refine ak (aj (.inl rfl) ?_)
 simp
 refine fA l.length (fun j t H=>t.g 0=.c (.f (sl g (aZ l)))∧t.g 5=.c (.f (sl g (aZ l)))) (by omega) (by decide) (by decide) (by simp) (by simp) (by simp) ?_ ?_
 ·rintro j t H hj ⟨g0,g5⟩ ha hb nx
  have hrow:=fun H:Heap=>dI (H:=H) (fK l) (oI hj)
  simp only [SpD.row]at hrow
  have hlt:=hn.2 l[j] (List.getElem_mem hj)
  have hlt':¬ l[j].to≤l[j].fr:=by omega
  refine aP ?_
  refine ak (aj (.inl rfl) ?_)
  simp [g5,ha,bQ,hj,hrow]
  refine ak ?_
  rcases Nat.eq_zero_or_pos j with rfl | h0
  ·refine aj (.inl rfl) ?_
   simp [hlt']
   refine aA (by simp) (aK (aN (nx _ _ ⟨by simp [g0],by simp [g5]⟩ (by simp [ha]) (by simp [hb]))))
  obtain⟨d,rfl⟩:∃ d,j=d+1:=⟨j-1,by omega⟩
  have hd:d<l.length:=by omega
  have aZK:l[d].to<l[d+1].fr:=List.pairwise_iff_getElem.1 hn.1 d (d+1) hd hj (by omega)
  have aRd:¬ l[d+1].fr≤l[d].to:=by omega
  have ld1:=fun H:Heap=>kY (H:=H) (k:=1) (x:=fi l[d].to) (fK l) (oI hd) (by simp [SpD.row])
  have hidx1:=fun H:Heap=>bQ (H:=H) (g:=g) (rows:=aZ l) (sz:=2) (k:=.i64) (i:=(d:Int)) (by omega) (by simp;omega)
  have hpos:(0:Int)<(d:Int)+1:=by omega
  (try simp at hidx1)
  refine aj (.inl rfl) ?_
  simp [hlt',hpos,g0,wrap64 (n:=(d:Int)) (by omega) (by omega),hidx1,ld1,aRd]
  refine aA (by simp) (aK (aN (nx _ _ ⟨by simp [g0],by simp [g5]⟩ (by simp [ha]) (by simp [hb]))))
 ·rintro t H ⟨g0,g5⟩ ha hb
  refine ak (aj (.inl rfl) ?_)
  simp [g0,ra]
  refine aO (hQ _ _ ?_)
  simp)
end Go.Proofs.YtijkmcapnnlpjaaGreat
end
section
namespace Go.Proofs.YtijkmcapnnlpjaaGreat
open Go Km
theorem oH{l:List bH}{h:Bool}(ht:xP l h):l.length=3:=by
 obtain⟨a,b,c,_,_,_,rfl⟩:=ht;rfl
theorem F6{l:List bH}{h:Bool}(ht:xP l h){i k:Nat}(hi:i<l.length)(hk:k<l.length):dM i k l[i] l[k]=eF h i k:=by
 have hl:=oH ht
 obtain⟨a,b,c,ga,gb,gc,rfl⟩:=ht
 obtain⟨a1,a2,a3⟩:=iL ga
 obtain⟨b1,b2,b3⟩:=iL gb
 obtain⟨c1,c2,c3⟩:=iL gc
 rw [hl]at hi hk
 match i,hi,k,hk with
 | 0,_,0,_=>cases h<;>simp [dM,eF]
 | 0,_,1,_=>cases h<;>simp [dM,eF,a2,b2]
 | 0,_,2,_=>cases h<;>simp [dM,eF,a2,c2]
 | 1,_,0,_=>cases h<;>simp [dM,eF,a2,b2]
 | 1,_,1,_=>cases h<;>simp [dM,eF]
 | 1,_,2,_=>cases h<;>simp [dM,eF,b2,c2]
 | 2,_,0,_=>cases h<;>simp [dM,eF,a2,c2]
 | 2,_,1,_=>cases h<;>simp [dM,eF,b2,c2]
 | 2,_,2,_=>cases h<;>simp [dM,eF]
theorem zH{l:List bH}{h:Bool}(ht:xP l h){i:Nat}(hi:i<l.length):l[i].q.length≤64∧l[i].p.length≤64:=pI (tV ht) hi
theorem wL{l:List bH}{h:Bool}(ht:xP l h){i:Nat}(hi:i<l.length):0≤l[i].bef∧l[i].bef≤20∧0≤l[i].aft∧l[i].aft≤20:=by
 have hl:=oH ht
 obtain⟨a,b,c,ga,gb,gc,rfl⟩:=ht
 have good:∀ {r:bH},Good r→0≤r.bef∧r.bef≤20∧0≤r.aft∧r.aft≤20:=by
  rintro r ⟨a,b,c,cap,bef,aft,qg,q,rfl,_,_,_,_,_,h1,h2,h3,h4,_⟩
  exact⟨h1,h2,h3,h4⟩
 rw [hl]at hi
 match i,hi with
 | 0,_=>exact good ga
 | 1,_=>exact good gb
 | 2,_=>have q:=good gc;cases h<;>exact q
theorem LY(g:Tg){l:List bH}{h:Bool}(ht:xP l h)(i k:Int)(h0:0≤i)(h1:i≤2)(h2:0≤k)(h3:k≤2):Km.Pure tab.get FN [.c (.f (sl g (rows l))),vi i,vi k]=Eq (vb (eF h i.toNat k.toNat)):=by
 have hl:=oH ht
 have:=EL g l i.toNat k.toNat (by omega) (by omega) (zH ht _).2 (zH ht _).2
 rw [F6 ht]at this
 rwa [Int.toNat_of_nonneg h0,Int.toNat_of_nonneg h2]at this
theorem aue{x y:aT}(h:fO x y=true):Ej x y<0:=by
 rw [xI]at h
 unfold Ej
 simp only [orI,oC]
 repeat' split
 all_goals omega
theorem SN{rs:List bH}{h:Bool}(ht:xP rs h){ss:List aT}(hl:ss.length≤5)(hs:tJ ss)(hf:∀ s ∈ ss,s.Fine):yw rs ss=true:=by
 have one:∀ s:aT,s.Fine→lQ rs.length s=true:=fun s ⟨a1,a2,a3,a4,a5,a6,a7,a8,a9⟩=>by
  simp only [lQ,oH ht,tX a9.two]
  rw [fQ (by omega) (by omega),fQ (by omega) (by omega),fQ (by omega) (by omega)]
  simp [a1]
 have all:∀(l:List aT) (p:Option aT),tJ l→(∀ s ∈ l,s.Fine)→(∀ m,p=some m→∀ s ∈ l,fO m s=true)→jm rs.length p l=true:=by
  intro l
  induction l with
  | nil=>intros;rfl
  | cons x l ih=>
   intro p hp hf hm
   have hp':=List.pairwise_cons.1 hp
   simp only [jm,one x (hf x List.mem_cons_self),Bool.true_and,Bool.and_eq_true]
   refine⟨?_,ih (some x) hp'.2 (fun s hs=>hf s (List.mem_cons_of_mem _ hs)) fun m e s hs=>?_⟩
   ·cases p with
    | none=>rfl
    | some m=>simpa using aue (hm m rfl x List.mem_cons_self)
   ·cases e;exact hp'.1 s hs
 simp only [yw,tV ht,all ss none hs hf (by simp)]
 simp;omega
theorem MH(a b:FC)(r:Int):Km.Pure tab.get Z7 [.c (.f a),.c (.f b),vi r]=Eq (.c (.f (.fn FM [.fp [b] 0,.fp [a] 0,.fp [fi r] 0]))):=by
 refine Km.Pure.eq (gY aTn rfl fun Q hQ=>?_)
 refine ak (aj (.inl rfl) ?_)
 simp
 refine ak (aj (.inl rfl) ?_)
 simp
 refine aO (hQ _ _ ?_)
 simp [deep]
theorem MJ{b:Nat}{H:Heap}{PP:List aT→Heap→Prop}(g g':Tg){rs:List bH}{h:Bool}(ht:xP rs h)(ss:List aT)(hl:ss.length≤1000)(hf:∀ s ∈ ss,0≤s.room∧s.room≤2)(k:Int)(hk0:0≤k)(hk1:k≤2)
  (h0:PP [] H) (hp:∀ d H J,PP d H→PP d (H++J)) (hy:∀(d:List aT) (s:aT) (H:Heap),PP d H→s ∈ ss→d.length<ss.length→∃ H',Ev tab.get (.yield b) [.a (s.row.map .f)] H (vb true) H'∧PP (d++[s]) H') :
  ∃ r H',Ev tab.get (.fn FM) [.c (.yl b),.c (.f (.fp [sl g' (bg ss)] 0)),.c (.f (.fp [sl g (rows rs)] 0)),.c (.f (.fp [fi k] 0))] H r H'∧(r=.t []∧PP (ss.filter fun s=>eF h s.room.toNat k.toNat) H'):=by
 refine gW aTm rfl fun Q hQ=>?_
 refine ak (aj (.inl rfl) ?_)
 simp [qZ]
 refine fA ss.length (fun j t H'=>t.g 0=.c (.yl b)∧t.g 1=.c (.f (.fp [sl g' (bg ss)] 0))∧t.g 2=.c (.f (.fp [sl g (rows rs)] 0))∧t.g 3=.c (.f (.fp [fi k] 0))∧t.g 7=.c (.f (sl g' (bg ss)))∧PP ((ss.take j).filter fun s=>eF h s.room.toNat k.toNat) H') (by omega) (by decide) (by decide) (by simp) (by simp) ⟨by simp,by simp,by simp,by simp,by simp,by simpa using h0⟩ ?_ ?_
 ·rintro j t H' hj ⟨g0,g1,g2,g3,g7,hPP⟩ ha hb next
  have hrow:=fun H:Heap=>dI (H:=H) (dH ss) (gG hj)
  simp only [aT.row,List.map_cons,List.map_nil]at hrow
  obtain⟨f0,f1⟩:=hf ss[j] (List.getElem_mem hj)
  have hsh:=LY g ht ss[j].room k f0 f1 hk0 hk1
  have htk:∀ p:aT→Bool,(ss.take (j+1)).filter p=(ss.take j).filter p++(if p ss[j]then [ss[j]]else []):=fun p=>oU hj
  refine aP ?_
  refine ak (aj (.inl rfl) ?_)
  simp [g7,ha,bQ,hj,hrow]
  have hP1:=hp _ _ [.box [.f (fi ss[j].meet),.f (fi ss[j].room),.f (fi ss[j].kV),.f (fi ss[j].size),.f (sl ss[j].st.cg (aQ ss[j].st.cs)),.f (fi ss[j].st.len),.f (sl ss[j].st.xg (aH ss[j].st.xs))] 0] hPP
  have k1:(H'++[Blk.box [.f (fi ss[j].meet),.f (fi ss[j].room),.f (fi ss[j].kV),.f (fi ss[j].size),.f (sl ss[j].st.cg (aQ ss[j].st.cs)),.f (fi ss[j].st.len),.f (sl ss[j].st.xg (aH ss[j].st.xs))] 0])[H'.length]?=some (.box [.f (fi ss[j].meet),.f (fi ss[j].room),.f (fi ss[j].kV),.f (fi ss[j].size),.f (sl ss[j].st.cg (aQ ss[j].st.cs)),.f (fi ss[j].st.len),.f (sl ss[j].st.xg (aH ss[j].st.xs))] 0):=by simp
  generalize H'++[Blk.box [.f (fi ss[j].meet),.f (fi ss[j].room),.f (fi ss[j].kV),.f (fi ss[j].size),.f (sl ss[j].st.cg (aQ ss[j].st.cs)),.f (fi ss[j].st.len),.f (sl ss[j].st.xg (aH ss[j].st.xs))] 0]=H1 at hP1 k1 ⊢
  refine ak ?_
  cases hs:eF h ss[j].room.toNat k.toNat
  ·rw [hs]at hsh
   refine aj (.inl rfl) ?_
   simp [g2,g3,qZ,k1,hsh]
   refine aA (by simp) (aK (aN (next _ _ ⟨by simp [g0],by simp [g1],by simp [g2],by simp [g3],by simp [g7],?_⟩ (by simp [ha]) (by simp [hb]))))
   rw [htk];simpa [hs]using hP1
  ·rw [hs]at hsh
   have hlen:((ss.take j).filter fun s=>eF h s.room.toNat k.toNat).length<ss.length:=by
    have q1:=List.length_filter_le (fun s:aT=>eF h s.room.toNat k.toNat) (ss.take j)
    rw [List.length_take]at q1;omega
   obtain⟨H2,he,hP2⟩:=hy _ ss[j] H1 hP1 (List.getElem_mem hj) hlen
   have he:=he.eq
   simp only [aT.row,List.map_cons,List.map_nil]at he
   refine aj (.inl rfl) ?_
   simp [g0,g2,g3,qZ,k1,hsh,he]
   refine aA (by simp) (aK (aN (next _ _ ⟨by simp [g0],by simp [g1],by simp [g2],by simp [g3],by simp [g7],?_⟩ (by simp [ha]) (by simp [hb]))))
   rw [htk];simpa [hs]using hP2
 ·rintro t H' ⟨g0,g1,g2,g3,g7,hPP⟩ ha hb
  rw [List.take_length]at hPP
  exact jF (hQ _ _ (.t []) rfl rfl ⟨rfl,hPP⟩)
end Go.Proofs.YtijkmcapnnlpjaaGreat
end
section
namespace Go.Proofs.YtijkmcapnnlpjaaGreat
open Go Km
theorem Kr:∀ cs:List FC,(∀ c ∈ cs,∃ k m,c=FC.int k m)→rP (FC.beq 63) cs cs=true
 | [],_=>rfl
 | c::cs,h=>by
  obtain⟨k,m,rfl⟩:=h c List.mem_cons_self
  simp only [rP,Kr cs fun x hx=>h x (List.mem_cons_of_mem _ hx),Bool.and_true]
  simp [FC.beq]
theorem UN(g:Tg)(xs:List aS):(V.c (C.f (sl g (aH xs)))).beq (V.c (C.f (sl g (aH xs))))=true:=by
 show FC.beq 64 (sl g (aH xs)) (sl g (aH xs))=true
 cases xs with
 | nil=>cases g<;>rfl
 | cons x xs=>
  have:sl g (aH (x::xs))=.fs (aH (x::xs)).flatten (aH (x::xs)).length:=by simp [sl,aH]
  rw [this]
  show((_ == _)&&rP (FC.beq 63) _ _)=true
  rw [Kr]
  ·simp
  ·intro c hc
   obtain⟨r,hr,hc⟩:=List.mem_flatten.1 hc
   obtain⟨y,-,rfl⟩:=List.mem_map.1 hr
   simp only [aS.row,List.mem_cons,List.not_mem_nil,or_false]at hc
   rcases hc with rfl | rfl | rfl<;>exact⟨_,_,rfl⟩
theorem aRO(k:IntKind)(n:Int):(V.c (C.f (.int k n))).beq (V.c (C.f (.int k n)))=true:=by simp [V.beq,C.beq,FC.beq]
def sQ(B:Int)(c:eP):eP:={ c with min:=c.min-B }
def qR(B A:Int)(x:aS):aS:=⟨x.day,x.fr-B,x.to+A⟩
def Occ(B A:Int)(s o:dD):Prop:=o.cs=s.cs.map (sQ B)∧o.len=s.len+B+A∧o.xs=s.xs.map (qR B A)
theorem Occ.ok{B A:Int}{s o:dD}(h:Occ B A s o)(hs:pF s)(hB:0≤B∧B≤20)(hA:0≤A∧A≤20):mY o:=by
 obtain⟨h1,h2,h3⟩:=h
 obtain⟨a1,a2,a3,a4,a5,a6⟩:=hs
 refine⟨?_,by omega,by omega,by rw [h3,List.length_map];exact a4,?_,fun x hx=>?_⟩
 ·rw [h1]
  rcases a1 with e | ⟨f,p,l,mi,e,b1,b2,b3,b4,b5,b6,b7,b8⟩
  ·exact .inl (by rw [e];rfl)
  ·exact .inr ⟨f,p,l,mi-B,by rw [e];rfl,b1,b2,b3,b4,b5,b6,by omega,by omega⟩
 ·rw [h3,List.pairwise_map]
  refine a5.imp (fun {x y} hxy=>?_)
  unfold aS.lt qR at *
  simp only
  omega
 ·rw [h3]at hx
  obtain⟨y,hy,rfl⟩:=List.mem_map.1 hx
  obtain⟨b1,b2,b3,b4,b5⟩:=a6 y hy
  simp only [Il,qR]
  omega
theorem UH(g:Tg)(l:List eP)(hl:l.length≤64):∃ f:Heap→C × Heap,∀ H,Ev tab.get (.fn RD) [.c (.f (sl g (aQ l)))] H=E2 (.c (f H).1) (H++(f H).2)∧LR (H++(f H).2) (f H).1 2 (aQ l)∧∀ i,dL (f H).1=some i→H.length≤i:=by
 have h:∀ H:Heap,∃ p:C × Heap,Ev tab.get (.fn RD) [.c (.f (sl g (aQ l)))] H=E2 (.c p.1) (H++p.2)∧LR (H++p.2) p.1 2 (aQ l)∧∀ i,dL p.1=some i→H.length≤i:=fun H=>by
  obtain⟨r,H',he,c,J,rfl,rfl,h1,h2⟩:=J6 (g:=g) (H:=H) (rows:=aQ l) aTj (by decide) (jh l) (by simp [bP];omega)
  exact⟨(c,J),he.eq,h1,h2⟩
 exact⟨fun H=>Classical.choose (h H),fun H=>Classical.choose_spec (h H)⟩
theorem Zq(g:Tg)(l:List aS)(hl:l.length≤64):∃ f:Heap→C × Heap,∀ H,Ev tab.get (.fn Rz) [.c (.f (sl g (aH l)))] H=E2 (.c (f H).1) (H++(f H).2)∧LR (H++(f H).2) (f H).1 3 (aH l)∧∀ i,dL (f H).1=some i→H.length≤i:=by
 have h:∀ H:Heap,∃ p:C × Heap,Ev tab.get (.fn Rz) [.c (.f (sl g (aH l)))] H=E2 (.c p.1) (H++p.2)∧LR (H++p.2) p.1 3 (aH l)∧∀ i,dL p.1=some i→H.length≤i:=fun H=>by
  obtain⟨r,H',he,c,J,rfl,rfl,h1,h2⟩:=J6 (g:=g) (H:=H) (rows:=aH l) aTi (by decide) (bI l) (by simp [bP];omega)
  exact⟨(c,J),he.eq,h1,h2⟩
 exact⟨fun H=>Classical.choose (h H),fun H=>Classical.choose_spec (h H)⟩
theorem Y6(r:bH)(fr to:Int)(hb:0≤r.bef∧r.bef≤20)(ha:0≤r.aft∧r.aft≤20)(hf:0≤fr∧fr≤1000000)(ht:0≤to∧to≤1000000):Km.Pure tab.get Z8 [.a (r.row.map .f),.a [.f (fi fr),.f (fi to)]]=Eq (.a [.f (fi (fr-r.bef)),.f (fi (to+r.aft))]):=Km.Pure.eq (by
 refine gY aTt rfl fun Q hQ=>?_
 refine ak (aj (.inl rfl) ?_)
 simp [bH.row]
 refine ak (aj (.inl rfl) ?_)
 simp [wrap64 (n:=fr-r.bef) (by omega) (by omega),wrap64 (n:=to+r.aft) (by omega) (by omega)]
 refine aO (hQ _ _ ?_)
 simp [exV,fU,bD])
end Go.Proofs.YtijkmcapnnlpjaaGreat
end
section
namespace Go.Proofs.YtijkmcapnnlpjaaGreat
open Go Km
theorem IU{α β:Type}(row:α→β)(f:α→α)(l:List α)(j:Nat)(hj:j<l.length):((l.take j).map (row ∘ f)++(l.drop j).map row).set j (row (f l[j]))=(l.take (j+1)).map (row ∘ f)++(l.drop (j+1)).map row:=by
 have h1:l.take (j+1)=l.take j++[l[j]]:=by rw [List.take_add_one,List.getElem?_eq_getElem hj];rfl
 have h2:l.drop j=l[j]::l.drop (j+1):=List.drop_eq_getElem_cons hj
 have hl:((l.take j).map (row ∘ f)).length=j:=by simp;omega
 rw [h1,h2,List.map_append,List.map_cons,List.set_append_right _ _ (by omega),hl,Nat.sub_self,List.set_cons_zero]
 simp
theorem JU{α β:Type}(row:α→β)(f:α→α)(l:List α)(j:Nat)(hj:j<l.length):((l.take j).map (row ∘ f)++(l.drop j).map row)[j]?=some (row l[j]):=by
 have hl:((l.take j).map (row ∘ f)).length=j:=by simp;omega
 rw [List.getElem?_append_right (by omega),hl,Nat.sub_self,List.drop_eq_getElem_cons hj]
 rfl
theorem Ju(g:Tg){rs:List bH}{h:Bool}(ht:xP rs h)(s:aT)(hs:s.Fine)(hk:s.room.toNat<rs.length) :
  ∃ o,Occ rs[s.room.toNat].bef rs[s.room.toNat].aft s.st o∧Km.Pure tab.get KJ [.c (.f (sl g (rows rs))),.a (s.row.map .f)]=Eq (.t [.a (o.row.map .f),vb true]):=by
 obtain⟨r,⟨o,ho,rfl⟩,hp⟩:∃ r,(∃ o,Occ rs[s.room.toNat].bef rs[s.room.toNat].aft s.st o∧r=.t [.a (o.row.map .f),vb true])∧Km.Pure tab.get KJ [.c (.f (sl g (rows rs))),.a (s.row.map .f)] r:=by
  refine lD aTr rfl fun Q hQ=>?_
  have hld:=fun H:Heap=>dI (H:=H) (iq rs) (pR hk)
  obtain⟨f1,f2,f3,f4,f5,f6,f7,f8,f9⟩:=hs
  obtain⟨hcl,hl1,hl2,hxl,hxp,hxi⟩:=id f9
  have aZm:s.st.cs.length≤1:=by
   rcases hcl with e | ⟨f,p,l,mi,e,_⟩<;>rw [e]<;>simp
  have hidx:=fun H:Heap=>bQ (H:=H) (g:=g) (rows:=rows rs) (sz:=15) (k:=.i64) (i:=s.room) f3 (by simp;omega)
  obtain⟨rb0,rb1,ra0,ra1⟩:=wL ht hk
  have hgr:=fun fr to hf htt=>Y6 rs[s.room.toNat] fr to ⟨rb0,rb1⟩ ⟨ra0,ra1⟩ hf htt
  simp only [bH.row,List.map_cons,List.map_nil]at hld hgr
  obtain⟨fc,hfc⟩:=UH s.st.cg s.st.cs (by omega)
  obtain⟨fx,hfx⟩:=Zq s.st.xg s.st.xs (by omega)
  have ec:=fun H=>(hfc H).1
  have ex:=fun H=>(hfx H).1
  generalize rs[s.room.toNat]=r at *
  have fin:∀(t:T) (H:Heap) (c1 c2:C) (n:Nat),t.g 3=.c (.ptr 0 0 0)→t.g 4=.c (.ptr 1 0 0)→t.g 6=.c (.ptr 2 0 0)→t.g 7=.c (.ptr n 0 0)→2<n →
    H[1]?=some (.box [.f .ay,.f (fi 0),.f .ay] 0)→H[2]?=some (.box [.f (fi r.cap),.f (fi r.bef),.f (fi r.aft),.f r.o0,.f r.o1,.f r.o2,.f r.o3,.f r.o4,.f r.o5,.f r.o6,.f r.o7,.f r.o8,.f r.o9,.f (sl r.qg (pairs r.q)),.f (sl r.pg (ints r.p))] 0) →
    H[n]?=some (.box [c1,.f (fi (s.st.len+r.bef+r.aft)),c2] 0)→LR H c1 2 (aQ s.st.cs)→LR H c2 3 (aH s.st.xs)→(∀ i,dL c1=some i→dL c2≠some i) →
    WP tab.get KJ none [.code Sj] ⟨t,[],H⟩ Q:=by
   intro t H c1 c2 n g3 g4 g6 g7 hn k1 k2 kn hL1 hL2 hD
   refine ak ?_
   refine ak (aj (.inl rfl) ?_)
   have hln:=hL1.len
   rw [En]at hln
   simp [g7,kn,hln]
   refine fA s.st.cs.length (fun j t H=>t.g 3=.c (.ptr 0 0 0)∧t.g 4=.c (.ptr 1 0 0)∧t.g 6=.c (.ptr 2 0 0)∧t.g 7=.c (.ptr n 0 0)∧H[1]?=some (.box [.f .ay,.f (fi 0),.f .ay] 0)∧H[2]?=some (.box [.f (fi r.cap),.f (fi r.bef),.f (fi r.aft),.f r.o0,.f r.o1,.f r.o2,.f r.o3,.f r.o4,.f r.o5,.f r.o6,.f r.o7,.f r.o8,.f r.o9,.f (sl r.qg (pairs r.q)),.f (sl r.pg (ints r.p))] 0) ∧
     H[n]?=some (.box [c1,.f (fi (s.st.len+r.bef+r.aft)),c2] 0)∧LR H c1 2 ((s.st.cs.take j).map (eP.row ∘ sQ r.bef)++(s.st.cs.drop j).map eP.row)∧LR H c2 3 (aH s.st.xs)) (by omega) (by decide) (by decide) (by simp) (by simp)
    ⟨by simp [g3],by simp [g4],by simp [g6],by simp [g7],k1,k2,kn,by simpa [aQ]using hL1,hL2⟩ ?_ ?_
   ·rintro j t H hj ⟨g3,g4,g6,g7,k1,k2,kn,hL1,hL2⟩ ha hb nx
    have Y0:Grid 2 ((s.st.cs.take j).map (eP.row ∘ sQ r.bef)++(s.st.cs.drop j).map eP.row):=by
     intro x hx
     rcases List.mem_append.1 hx with hx | hx<;>obtain⟨y,-,rfl⟩:=List.mem_map.1 hx<;>rfl
    have hlen1:((s.st.cs.take j).map (eP.row ∘ sQ r.bef)++(s.st.cs.drop j).map eP.row).length=s.st.cs.length:=by simp;omega
    have hget:=JU eP.row (sQ r.bef) s.st.cs j hj
    have hset:=IU eP.row (sQ r.bef) s.st.cs j hj
    have hmin:60≤s.st.cs[j].min∧s.st.cs[j].min≤1245:=by
     rcases hcl with e | ⟨f,p,l,mi,e,_,_,_,_,_,_,m0,m1⟩
     ·rw [e]at hj;simp at hj
     ·have:s.st.cs[j]=⟨.fs,[⟨.fs,[iW f p l]⟩],mi⟩:=by
       have hj0:j=0:=by rw [e]at hj;simpa using hj
       subst hj0;simp [e]
      rw [this];exact⟨m0,m1⟩
    rcases hL1 with⟨e,_⟩ | ⟨hne,b,ep,hc1,hR1⟩
    ·have:=congrArg List.length e
     rw [hlen1,List.length_nil]at this;omega
    rw [hlen1]at hc1
    have hi:=hR1.at (i:=j) (by rw [hlen1];exact hj)
    rw [hlen1,←hc1]at hi
    have hl:=hR1.ldc Y0 hget (k:=1) (x:=fi s.st.cs[j].min) rfl
    obtain⟨H',e',hR',hF',-⟩:=hR1.stp Y0 hget (k:=1) (xs:=[fi (s.st.cs[j].min-r.bef)]) (by simp)
    have hov:over s.st.cs[j].row 1 [fi (s.st.cs[j].min-r.bef)]=(sQ r.bef s.st.cs[j]).row:=rfl
    rw [hov,hset]at hR'
    have b1:(1:Nat)≠b:=by rintro rfl;unfold RB at hR1;rw [k1]at hR1;cases hR1
    have b2:(2:Nat)≠b:=by rintro rfl;unfold RB at hR1;rw [k2]at hR1;cases hR1
    have bn:n≠b:=by rintro rfl;unfold RB at hR1;rw [kn]at hR1;cases hR1
    refine aP ?_
    refine ak (aj (.inl rfl) ?_)
    simp [ha]
    refine aj (.inl rfl) ?_
    simp only [List.map_cons,List.map_nil]at e'
    have ln:ldV H none (.c (.ptr n 0 0))=some (.c c1):=by simp [kn]
    have l2:ldV H none (.c (.ptr 2 1 0))=some (vi r.bef):=by simp [k2]
    simp [g6,g7,ln,l2,hi,hl,-bT,-fG,wrap64 (n:=s.st.cs[j].min-r.bef) (by omega) (by omega),e']
    refine aN (nx _ _ ⟨by simp [g3],by simp [g4],by simp [g6],by simp [g7],?_,?_,?_,.inr ⟨?_,b,ep,?_,hR'⟩,?_⟩ (by simp [ha]) (by simp [hb]))
    ·exact hF'.get k1 b1
    ·exact hF'.get k2 b2
    ·exact hF'.get kn bn
    ·intro e
     have q:=congrArg List.length e
     rw [List.length_append,List.length_map,List.length_map,List.length_take,List.length_drop,List.length_nil]at q
     omega
    ·rw [hc1]
     congr 1
     simp;omega
    ·exact hL2.keep fun i y hy hi=>hF'.get hy (fun e=>hD b (by rw [hc1];rfl) (by rw [←e];exact hi))
   ·rintro t H ⟨g3,g4,g6,g7,k1,k2,kn,hL1,hL2⟩ ha hb
    rw [List.take_length,List.drop_length,List.map_nil,List.append_nil]at hL1
    refine ak ?_
    refine ak (aj (.inl rfl) ?_)
    have hln:=hL2.len
    rw [kM]at hln
    simp [g7,kn,hln]
    refine fA s.st.xs.length (fun j t H=>t.g 3=.c (.ptr 0 0 0)∧t.g 4=.c (.ptr 1 0 0)∧t.g 6=.c (.ptr 2 0 0)∧t.g 7=.c (.ptr n 0 0)∧H[1]?=some (.box [.f .ay,.f (fi 0),.f .ay] 0)∧H[2]?=some (.box [.f (fi r.cap),.f (fi r.bef),.f (fi r.aft),.f r.o0,.f r.o1,.f r.o2,.f r.o3,.f r.o4,.f r.o5,.f r.o6,.f r.o7,.f r.o8,.f r.o9,.f (sl r.qg (pairs r.q)),.f (sl r.pg (ints r.p))] 0) ∧
      H[n]?=some (.box [c1,.f (fi (s.st.len+r.bef+r.aft)),c2] 0)∧LR H c1 2 (s.st.cs.map (eP.row ∘ sQ r.bef))∧LR H c2 3 ((s.st.xs.take j).map (aS.row ∘ qR r.bef r.aft)++(s.st.xs.drop j).map aS.row)) (by omega) (by decide) (by decide) (by simp) (by simp)
     ⟨by simp [g3],by simp [g4],by simp [g6],by simp [g7],k1,k2,kn,hL1,by simpa [aH]using hL2⟩ ?_ ?_
    ·rintro j t H hj ⟨g3,g4,g6,g7,k1,k2,kn,hL1,hL2⟩ ha hb nx
     have Y0:Grid 3 ((s.st.xs.take j).map (aS.row ∘ qR r.bef r.aft)++(s.st.xs.drop j).map aS.row):=by
      intro x hx
      rcases List.mem_append.1 hx with hx | hx<;>obtain⟨y,-,rfl⟩:=List.mem_map.1 hx<;>rfl
     have hlen1:((s.st.xs.take j).map (aS.row ∘ qR r.bef r.aft)++(s.st.xs.drop j).map aS.row).length=s.st.xs.length:=by
      rw [List.length_append,List.length_map,List.length_map,List.length_take,List.length_drop];omega
     have hget:=JU aS.row (qR r.bef r.aft) s.st.xs j hj
     have hset:=IU aS.row (qR r.bef r.aft) s.st.xs j hj
     obtain⟨x1,x2,x3,x4,x5⟩:=hxi s.st.xs[j] (List.getElem_mem hj)
     have hgx:=hgr s.st.xs[j].fr s.st.xs[j].to (by omega) (by omega)
     rcases hL2 with⟨e,_⟩ | ⟨hne,b,ep,hc2,hR1⟩
     ·have:=congrArg List.length e
      rw [hlen1,List.length_nil]at this;omega
     rw [hlen1]at hc2
     have hi:=hR1.at (i:=j) (by rw [hlen1];exact hj)
     rw [hlen1,←hc2]at hi
     have hl:=hR1.ldp Y0 hget (k:=1) (n:=2) (by omega)
     obtain⟨H',e',hR',hF',-⟩:=hR1.stp Y0 hget (k:=1) (xs:=[fi (s.st.xs[j].fr-r.bef),fi (s.st.xs[j].to+r.aft)]) (by simp)
     have hov:over s.st.xs[j].row 1 [fi (s.st.xs[j].fr-r.bef),fi (s.st.xs[j].to+r.aft)]=(qR r.bef r.aft s.st.xs[j]).row:=rfl
     rw [hov,hset]at hR'
     have b1:(1:Nat)≠b:=by rintro rfl;unfold RB at hR1;rw [k1]at hR1;cases hR1
     have b2:(2:Nat)≠b:=by rintro rfl;unfold RB at hR1;rw [k2]at hR1;cases hR1
     have bn:n≠b:=by rintro rfl;unfold RB at hR1;rw [kn]at hR1;cases hR1
     refine aP ?_
     refine ak (aj (.inl rfl) ?_)
     simp [ha]
     refine aj (.inl rfl) ?_
     simp only [List.map_cons,List.map_nil]at e'
     simp only [aS.row,List.drop_succ_cons,List.drop_zero,List.take_succ_cons,List.take_zero,List.map_cons,List.map_nil]at hl
     have ln:ldV H none (.c (.ptr n 2 0))=some (.c c2):=by simp [kn]
     have l2:ldV H (some 15) (.c (.ptr 2 0 0))=some (.a [.f (fi r.cap),.f (fi r.bef),.f (fi r.aft),.f r.o0,.f r.o1,.f r.o2,.f r.o3,.f r.o4,.f r.o5,.f r.o6,.f r.o7,.f r.o8,.f r.o9,.f (sl r.qg (pairs r.q)),.f (sl r.pg (ints r.p))]):=by simp [k2]
     simp [g6,g7,ln,l2,hi,hl,hgx,-bT,-fG,e']
     refine aN (nx _ _ ⟨by simp [g3],by simp [g4],by simp [g6],by simp [g7],?_,?_,?_,?_,.inr ⟨?_,b,ep,?_,hR'⟩⟩ (by simp [ha]) (by simp [hb]))
     ·exact hF'.get k1 b1
     ·exact hF'.get k2 b2
     ·exact hF'.get kn bn
     ·exact hL1.keep fun i y hy hi=>hF'.get hy (fun e=>hD i hi (by rw [e,hc2];rfl))
     ·intro e
      have q:=congrArg List.length e
      rw [List.length_append,List.length_map,List.length_map,List.length_take,List.length_drop,List.length_nil]at q
      omega
     ·rw [hc2]
      congr 1
      rw [List.length_append,List.length_map,List.length_map,List.length_take,List.length_drop];omega
    ·rintro t H ⟨g3,g4,g6,g7,k1,k2,kn,hL1,hL2⟩ ha hb
     rw [List.take_length,List.drop_length,List.map_nil,List.append_nil]at hL2
     have r1:s.st.cs.map (eP.row ∘ sQ r.bef)=aQ (s.st.cs.map (sQ r.bef)):=by simp [aQ]
     have r2:s.st.xs.map (aS.row ∘ qR r.bef r.aft)=aH (s.st.xs.map (qR r.bef r.aft)):=by simp [aH]
     rw [r1]at hL1
     rw [r2]at hL2
     have x1:=hL1.x
     have x2:=hL2.x
     obtain⟨g1,eg1⟩:=x1.ex (jh _)
     obtain⟨g2,eg2⟩:=x2.ex (bI _)
     have y1:LX (mkC deep c1 H) c1 2 (aQ (s.st.cs.map (sQ r.bef))):=x1.mk x1 63
     have y2:LX (mkC deep c1 H) c2 3 (aH (s.st.xs.map (qR r.bef r.aft))):=x2.mk x1 63
     have z1:LX (mkC deep c2 (mkC deep c1 H)) c1 2 (aQ (s.st.cs.map (sQ r.bef))):=y1.mk y2 63
     have z2:LX (mkC deep c2 (mkC deep c1 H)) c2 3 (aH (s.st.xs.map (qR r.bef r.aft))):=y2.mk y2 63
     have m1':(mkC deep c1 H)[1]?=some (.box [.f .ay,.f (fi 0),.f .ay] 0):=x1.QG 63 k1
     have mk1:(mkC deep c2 (mkC deep c1 H))[1]?=some (.box [.f .ay,.f (fi 0),.f .ay] 0):=y2.QG 63 m1'
     have h1:exC deep H c1=some (sl g1 (aQ (s.st.cs.map (sQ r.bef)))):=eg1 H 63 x1
     have h2:exC deep H c2=some (sl g2 (aH (s.st.xs.map (qR r.bef r.aft)))):=eg2 H 63 x2
     have Og:Occ r.bef r.aft s.st ⟨g1,s.st.cs.map (sQ r.bef),s.st.len+r.bef+r.aft,g2,s.st.xs.map (qR r.bef r.aft)⟩:=⟨rfl,rfl,rfl⟩
     have hok:=Og.ok f9 ⟨rb0,rb1⟩ ⟨ra0,ra1⟩
     have hval:=wM _ (qM hok)
     rw [tX hok]at hval
     simp only [dD.row,List.map_cons,List.map_nil]at hval
     refine ak (aj (.inl rfl) ?_)
     simp [g4,g7,kn,h1,h2,hval,mk1]
     generalize mkC deep c2 (mkC deep c1 H)=HM at z1 z2 mk1 ⊢
     have f1':=eg1 (HM.set 1 (.box [c1,.f (fi (s.st.len+r.bef+r.aft)),c2] 0)) 63 (z1.set (z1.pY mk1) _)
     have f2':=eg2 (HM.set 1 (.box [c1,.f (fi (s.st.len+r.bef+r.aft)),c2] 0)) 63 (z2.set (z2.pY mk1) _)
     have k1':(HM.set 1 (.box [c1,.f (fi (s.st.len+r.bef+r.aft)),c2] 0))[1]?=some (.box [c1,.f (fi (s.st.len+r.bef+r.aft)),c2] 0):=List.getElem?_set_self (aJ mk1)
     refine aO (hQ _ _ _ ⟨_,Og,rfl⟩ ?_)
     have hd:deep=63+1:=rfl
     simp [g4,k1',dD.row,exV,fU,bD,hd,f1',f2']
  refine ak (aj (.inl rfl) ?_)
  simp [aT.row]
  refine ak (aj (.inl rfl) ?_)
  simp [hidx,hld]
  have w1:IntKind.i64.wrap (s.st.len+r.bef)=s.st.len+r.bef:=wrap64 (by omega) (by omega)
  have w2:IntKind.i64.wrap (s.st.len+r.bef+r.aft)=s.st.len+r.bef+r.aft:=wrap64 (by omega) (by omega)
  obtain⟨H3,hH3⟩:∃ H3,H3=[Blk.box [.f (fi s.meet),.f (fi s.room),.f (fi s.kV),.f (fi s.size),.f (sl s.st.cg (aQ s.st.cs)),.f (fi s.st.len),.f (sl s.st.xg (aH s.st.xs))] 0,Blk.box [.f .ay,.f (fi 0),.f .ay] 0,Blk.box [.f (fi r.cap),.f (fi r.bef),.f (fi r.aft),.f r.o0,.f r.o1,.f r.o2,.f r.o3,.f r.o4,.f r.o5,.f r.o6,.f r.o7,.f r.o8,.f r.o9,.f (sl r.qg (pairs r.q)),.f (sl r.pg (ints r.p))] 0]:=⟨_,rfl⟩
  rw [←hH3]
  have hl3:H3.length=3:=by rw [hH3];rfl
  have q0:∀ J,(H3++J)[0]?=some (Blk.box [.f (fi s.meet),.f (fi s.room),.f (fi s.kV),.f (fi s.size),.f (sl s.st.cg (aQ s.st.cs)),.f (fi s.st.len),.f (sl s.st.xg (aH s.st.xs))] 0):=fun J=>by rw [hH3];rfl
  have q1:∀ J,(H3++J)[1]?=some (Blk.box [.f .ay,.f (fi 0),.f .ay] 0):=fun J=>by rw [hH3];rfl
  have q2:∀ J,(H3++J)[2]?=some (Blk.box [.f (fi r.cap),.f (fi r.bef),.f (fi r.aft),.f r.o0,.f r.o1,.f r.o2,.f r.o3,.f r.o4,.f r.o5,.f r.o6,.f r.o7,.f r.o8,.f r.o9,.f (sl r.qg (pairs r.q)),.f (sl r.pg (ints r.p))] 0):=fun J=>by rw [hH3];rfl
  have p0:=q0 []
  have p2:=q2 []
  rw [List.append_nil]at p0 p2
  obtain⟨c1,hc1⟩:∃ c1,c1=(fc H3).1:=⟨_,rfl⟩
  obtain⟨J1,hJ1⟩:∃ J1,J1=(fc H3).2:=⟨_,rfl⟩
  have e1:=ec H3
  have m1:=(hfc H3).2
  rw [←hc1,←hJ1]at e1 m1
  obtain⟨c2,hc2⟩:∃ c2,c2=(fx (H3++J1)).1:=⟨_,rfl⟩
  obtain⟨J2,hJ2⟩:∃ J2,J2=(fx (H3++J1)).2:=⟨_,rfl⟩
  have e2:=ex (H3++J1)
  have m2:=(hfx (H3++J1)).2
  rw [←hc2,←hJ2,List.append_assoc]at e2 m2
  refine ak (N7 (.inl rfl) ?_ ?_)
  case _=>
   simp [p0,p2,q0,q2,e1,e2,w1,w2]
   refine fin _ _ c1 c2 _ (by simp) (by simp) (by simp) (by simp;rfl) (by omega) ?_ ?_ ?_ ?_ ?_ ?_
   ·exact q1 _
   ·exact q2 _
   ·rw [←List.append_assoc,←List.append_assoc,List.getElem?_append_right (by simp)]
    have:H3.length+(J1.length+J2.length)-(H3++J1++J2).length=0:=by simp
    rw [this];rfl
   ·have:=(m1.1.push J2).push [Blk.box [c1,C.f (FC.int IntKind.i64 (s.st.len+r.bef+r.aft)),c2] 0]
    simpa [List.append_assoc]using this
   ·have:=m2.1.push [Blk.box [c1,C.f (FC.int IntKind.i64 (s.st.len+r.bef+r.aft)),c2] 0]
    simpa [List.append_assoc]using this
   ·intro i hi1 hi2
    have a1:=m1.1.lt hi1
    have a2:=m2.2 i hi2
    omega
  ·intro c hc
   simp only [List.mem_cons,List.not_mem_nil,or_false]at hc
   rcases hc with rfl | rfl | rfl | rfl | rfl | rfl | rfl
   iterate 6
    ·refine⟨by decide,_,rfl,.inl ⟨by decide,?_⟩⟩
     simp [p0,p2,q0,q2,e1,e2,yE,aRO]
   ·refine⟨by decide,_,rfl,.inr ⟨by decide,?_⟩⟩
    simp [p0,p2,q0,q2,e1,e2,yE,UN]
 exact⟨o,ho,Km.Pure.eq hp⟩
end Go.Proofs.YtijkmcapnnlpjaaGreat
end
section
namespace Go.Proofs.YtijkmcapnnlpjaaGreat
open Go Km
theorem NY{H:Heap}{c:C}{sz i:Nat}{rows:List (List FC)}(h:LR H c sz rows)(hi:dL c=some i):∃ s cs fl ep st,H[i]?=some (.opn s cs fl ep st):=by
 rcases h with⟨_,rfl | rfl⟩ | ⟨hne,b,ep,rfl,h2⟩
 ·cases hi
 ·cases hi
 ·cases hi;exact⟨_,_,_,_,_,h2⟩
def nU(wf wt:Int)(x:aS):SpD:=⟨max x.fr wf,min x.to wt⟩
def uN(B A wf wt:Int)(s:dD)(t:Int):Prop:=∃ o x,Occ B A s o∧Dp o wf wt x∧(nU wf wt x).has t
theorem Dp.occ{B A wf wt:Int}{s o o':dD}{x:aS}(h:Occ B A s o)(h':Occ B A s o')(hm:Dp o wf wt x):Dp o' wf wt x:=by
 obtain⟨a1,a2,a3⟩:=h
 obtain⟨b1,b2,b3⟩:=h'
 have e1:o'.cs=o.cs:=b1.trans a1.symm
 have e2:o'.len=o.len:=b2.trans a2.symm
 have e3:o'.xs=o.xs:=b3.trans a3.symm
 unfold Dp RZ at *
 rw [e1,e2,e3];exact hm
def rB(rs:List bH)(s:aT):Int:=((rs[s.room.toNat]?).map (·.bef)).getD 0
def rA(rs:List bH)(s:aT):Int:=((rs[s.room.toNat]?).map (·.aft)).getD 0
theorem YF{s:dD}(hs:mY s){wf wt:Int}(hw1:wf≤100000)(hv1:wt≤wf+10080)(h0:0≤wf){x:aS}(h:Dp s wf wt x):0≤x.fr∧x.fr≤200000∧x.to=x.fr+s.len:=by
 obtain⟨a1,a2,a3,a4,a5,a6⟩:=hs
 rcases h with⟨f,p,l,mi,d,e,rfl,d1,d2,d3,d4⟩ | ⟨hx,-⟩
 ·rcases a1 with e' | ⟨f',p',l',mi',e',_,_,_,_,_,_,m0,m1⟩
  ·rw [e']at e;cases e
  ·rw [e']at e
   simp [iW]at e
   obtain⟨-,rfl⟩:=e
   unfold n0I at d1
   refine⟨?_,?_,rfl⟩
   ·show 0≤d*1440+mi'
    omega
   ·show d*1440+mi'≤200000
    omega
 ·obtain⟨b1,b2,b3,b4,b5⟩:=a6 x hx
  omega
theorem auk(g g':Tg){rs:List bH}{h:Bool}(ht:xP rs h){ss:List aT}(hl:ss.length≤5)(hso:tJ ss)(hf:∀ s ∈ ss,s.Fine)(k:Int)(hk0:0≤k)(hk1:k≤2)(wf wt:Int)(hw0:0≤wf)(hw1:wf≤65535)(hwt:wt=wf+2000) :
  ∃ go o,(Dn o∧o.length≤64∧InR o∧∀ t,kE o t↔∃ s ∈ ss,eF h s.room.toNat k.toNat=true∧uN (rB rs s) (rA rs s) wf wt s.st t) ∧
   Km.Pure tab.get nX [.c (.f (sl g (rows rs))),.c (.f (sl g' (bg ss))),vi k,.a [.f (fi wf),.f (fi wt)]]=Eq (.t [.c (.f (sl go (aZ o))),vi 0]):=by
 obtain⟨r,⟨go,o,ho,rfl⟩,hp⟩:∃ r,(∃ go o,(Dn o∧o.length≤64∧InR o∧∀ t,kE o t↔∃ s ∈ ss,eF h s.room.toNat k.toNat=true∧uN (rB rs s) (rA rs s) wf wt s.st t)∧r=.t [.c (.f (sl go (aZ o))),vi 0]) ∧
   Km.Pure tab.get nX [.c (.f (sl g (rows rs))),.c (.f (sl g' (bg ss))),vi k,.a [.f (fi wf),.f (fi wt)]] r:=by
  refine AY aTy rfl fun Q hQ=>?_
  have hlen3:=oH ht
  have YW:=(as4 g g' rs ss (by omega) (EF ht) (by omega) (fun s hs=>qM (hf s hs).2.2.2.2.2.2.2.2.two)).eq
  rw [SN ht hl hso hf]at YW
  have hwi:=SE k 0 2
  rw [fQ hk0 hk1]at hwi
  have aYl:=MH (sl g (rows rs)) (sl g' (bg ss)) k
  refine ak (aj (.inl rfl) ?_)
  simp
  refine ak ?_
  refine ak (aj (.inl rfl) ?_)
  simp [YW,hlen3,hwi,wrap64 (n:=(2:Int)) (by omega) (by omega),show¬ wf < -2251799813685248 by omega,show¬ wt<wf by omega,show¬ 2251799813685248<wt by omega]
  refine aA (by simp) (aK ?_)
  refine ak (aj (.inl rfl) ?_)
  simp
  refine ak ?_
  refine ak (aj (.inl rfl) ?_)
  simp [aYl]
  refine aP ?_
  have go:∀ T0:T,T0.g 4=.c (.ptr 0 0 0)→T0.g 7=.c (.ptr 1 0 0)→T0.g 8=.c (.ptr 2 0 0)→T0.g 9=.c (.ptr 3 0 0)→T0.g 10=.c (.ptr 4 0 0)→T0.g 50=.c (.f (.fn FM [.fp [sl g' (bg ss)] 0,.fp [sl g (rows rs)] 0,.fp [fi k] 0])) →
    WP tab.get nX none [.code Le,.inBlock 0,.code Lc] ⟨T0,[],[.box [.f (sl g (rows rs))] 0,.box [.f (fi wf),.f (fi wt)] 0,.box [.f .ay] 0,.box [.f (fi 0)] 0,.box [.f .ay] 0]⟩ Q:=by
   intro T0 t4 t7 t8 t9 t10 t50
   obtain⟨lp,hlp⟩:∃ lp:iU→Blk,lp=fun st=>.lp nX T0 [P.nat 51] jM jL st none 5:=⟨_,rfl⟩
   obtain⟨B0,hB0⟩:∃ B0:iU→Heap→Prop,B0=fun st H=>H[0]?=some (.box [.f (sl g (rows rs))] 0)∧H[1]?=some (.box [.f (fi wf),.f (fi wt)] 0)∧H[2]?=some (.box [.f .ay] 0)∧H[3]?=some (.box [.f (fi 0)] 0)∧H[5]?=some (.dfr true)∧H[6]?=some (lp st):=⟨_,rfl⟩
   have keep:∀ {st:iU} {H H':Heap} {c:C} {sz:Nat} {rws:List (List FC)},B0 st H→LR H c sz rws→(∀(i:Nat) y,H[i]?=some y→i≠4→dL c≠some i→H'[i]?=some y)→B0 st H':=by
    intro st H H' c sz rws hb hLR hk
    rw [hB0]at hb ⊢
    obtain⟨b0,b1,b2,b3,b5,b6⟩:=hb
    have no:∀(i:Nat) y,H[i]?=some y→uw y=true→dL c≠some i:=fun i y hy hn hi=>by
     obtain⟨s,cs,fl,ep,st,h2⟩:=NY hLR hi
     rw [h2]at hy;cases hy;cases hn
    have n6:uw (lp st)=true:=by rw [hlp];rfl
    exact⟨hk _ _ b0 (by decide) (no _ _ b0 rfl),hk _ _ b1 (by decide) (no _ _ b1 rfl),hk _ _ b2 (by decide) (no _ _ b2 rfl),hk _ _ b3 (by decide) (no _ _ b3 rfl),hk _ _ b5 (by decide) (no _ _ b5 rfl),hk _ _ b6 (by decide) (no _ _ b6 n6)⟩
   have push:∀ {st:iU} {H:Heap} (J:Heap),B0 st H→B0 st (H++J):=fun J hb=>keep hb (LR.nil _ 2) fun i y hy _ _=>by rw [List.getElem?_append_left (aJ hy)];exact hy
   obtain⟨Cov,aK1⟩:∃ Cov:List aT→Int→Prop,Cov=fun d t=>∃ s ∈ d,uN (rB rs s) (rA rs s) wf wt s.st t:=⟨_,rfl⟩
   obtain⟨PP,hPP⟩:∃ PP:List aT→Heap→Prop,PP=fun d H=>B0 .ready H∧∃ c o,H[4]?=some (.box [c] 0)∧LR H c 2 (aZ o)∧o.length≤6*d.length∧InR o∧∀ t,kE o t↔Cov d t:=⟨_,rfl⟩
   obtain⟨r,H',he,rfl,hP⟩:=MJ (b:=6) (H:=[.box [.f (sl g (rows rs))] 0,.box [.f (fi wf),.f (fi wt)] 0,.box [.f .ay] 0,.box [.f (fi 0)] 0,.box [.f .ay] 0,.dfr true,lp .ready]) (PP:=PP) g g' ht ss (by omega) (fun s hs=>⟨(hf s hs).2.2.1,(hf s hs).2.2.2.1⟩) k hk0 hk1
    (by rw [hPP,hB0,aK1];exact⟨⟨rfl,rfl,rfl,rfl,rfl,rfl⟩,.f .ay,[],rfl,LR.nil _ 2,by simp,fun s hs=>(nomatch hs),fun t=>by simp [kE]⟩)
    (by
     intro d H J hp
     rw [hPP]at hp ⊢
     obtain⟨hb,c,o,h4,hLR,h1,h2,h3⟩:=hp
     exact⟨push J hb,c,o,by rw [List.getElem?_append_left (aJ h4)];exact h4,hLR.push J,h1,h2,h3⟩)
    (by
     intro d s H hp hs hd
     rw [hPP]at hp
     obtain⟨hb,c,o,h4,hLR,h1,h2,h3⟩:=hp
     obtain⟨f1,f2,f3,f4,f5,f6,f7,f8,f9⟩:=hf s hs
     have hkr:s.room.toNat<rs.length:=by omega
     obtain⟨os,Og,aKM⟩:=Ju g ht s (hf s hs) hkr
     obtain⟨rb0,rb1,ra0,ra1⟩:=wL ht hkr
     have hok:=Og.ok f9 ⟨rb0,rb1⟩ ⟨ra0,ra1⟩
     obtain⟨gL,L,⟨hLp,hLm⟩,hLl,hlist⟩:=QK 3 (by omega) os hok wf wt (by omega) (by omega) (by omega) (by omega) (by omega)
     have hB':rB rs s=rs[s.room.toNat].bef:=by simp [rB,List.getElem?_eq_getElem hkr]
     have hA':rA rs s=rs[s.room.toNat].aft:=by simp [rA,List.getElem?_eq_getElem hkr]
     rw [←hB',←hA']at Og
     have hb':=hb
     rw [hB0]at hb'
     obtain⟨b0,b1,b2,b3,b5,b6⟩:=hb'
     rw [hlp]at b6
     obtain⟨r,H',e1,rfl,e2⟩:=rH (tab:=tab.get) (b:=6) (args:=[.a (s.row.map .f)]) (H:=H) (C:=fun r H'=>r=vb true∧PP (d++[s]) H') b6 rfl fun Q' hQ'=>by
      refine aj (.inr rfl) ?_
      simp [aT.row]
      obtain⟨HA,hHA⟩:∃ HA,HA=H++[Blk.box [.f (fi s.meet),.f (fi s.room),.f (fi s.kV),.f (fi s.size),.f (sl s.st.cg (aQ s.st.cs)),.f (fi s.st.len),.f (sl s.st.xg (aH s.st.xs))] 0]:=⟨_,rfl⟩
      rw [←hHA]
      have kA:HA[H.length]?=some (Blk.box [.f (fi s.meet),.f (fi s.room),.f (fi s.kV),.f (fi s.size),.f (sl s.st.cg (aQ s.st.cs)),.f (fi s.st.len),.f (sl s.st.xg (aH s.st.xs))] 0):=by rw [hHA];simp
      have hbA:=push [Blk.box [.f (fi s.meet),.f (fi s.room),.f (fi s.kV),.f (fi s.size),.f (sl s.st.cg (aQ s.st.cs)),.f (fi s.st.len),.f (sl s.st.xg (aH s.st.xs))] 0] hb
      have h4A:HA[4]?=some (.box [c] 0):=by rw [hHA,List.getElem?_append_left (aJ h4)];exact h4
      have hLA:=hLR.push [Blk.box [.f (fi s.meet),.f (fi s.room),.f (fi s.kV),.f (fi s.size),.f (sl s.st.cg (aQ s.st.cs)),.f (fi s.st.len),.f (sl s.st.xg (aH s.st.xs))] 0]
      rw [←hHA]at hbA hLA
      have hn6:H.length≠6:=by have:=aJ b6;omega
      have aRl:=hbA
      rw [hB0]at aRl
      obtain⟨a0,a1,a2,a3,a5,a6⟩:=aRl
      rw [hlp]at a6
      refine GZ a6 ?_
      have aQ0:∀ {c:C} {H:Heap} {st:iU} {rws:List (List FC)},B0 st H→LR H c 2 rws→dL c≠some 6:=fun {c H st rws} hb hL hi=>by
       obtain⟨s,cs,fl,ep,st',h2⟩:=NY hL hi
       rw [hB0]at hb
       rw [hb.2.2.2.2.2,hlp]at h2;cases h2
      obtain⟨HB,hHB⟩:∃ HB,HB=HA.set 6 (lp .busy):=⟨_,rfl⟩
      have e6:HA.set 6 (.lp nX T0 [P.nat 51] jM jL .busy none 5)=HB:=by rw [hHB,hlp]
      rw [e6]
      have hbB:B0 .busy HB:=by
       rw [hB0,hHB]
       refine⟨?_,?_,?_,?_,?_,List.getElem?_set_self (aJ a6)⟩<;>(rw [List.getElem?_set_ne (by decide)];assumption)
      have kB:HB[H.length]?=some (Blk.box [.f (fi s.meet),.f (fi s.room),.f (fi s.kV),.f (fi s.size),.f (sl s.st.cg (aQ s.st.cs)),.f (fi s.st.len),.f (sl s.st.xg (aH s.st.xs))] 0):=by rw [hHB,List.getElem?_set_ne (Ne.symm hn6)];exact kA
      have h4B:HB[4]?=some (.box [c] 0):=by rw [hHB,List.getElem?_set_ne (by decide)];exact h4A
      have hLB:LR HB c 2 (aZ o):=by rw [hHB];exact hLA.set (aQ0 hbA hLA) _
      have aRk:=hbB
      rw [hB0]at aRk
      obtain⟨z0,z1,z2,z3,z5,z6⟩:=aRk
      simp only [aT.row,List.map_cons,List.map_nil]at aKM
      have hor:os.row.map C.f=[.f (sl os.cg (aQ os.cs)),.f (fi os.len),.f (sl os.xg (aH os.xs))]:=rfl
      rw [hor]at aKM
      refine aP ?_
      refine ak (aj (.inr rfl) ?_)
      simp [t4,z0,kB,aKM]
      have hbC:=push [Blk.box (os.row.map .f) 0] hbB
      have kC:(HB++[Blk.box (os.row.map .f) 0])[HB.length]?=some (Blk.box (os.row.map .f) 0):=by simp
      have h4C:(HB++[Blk.box (os.row.map .f) 0])[4]?=some (.box [c] 0):=by rw [List.getElem?_append_left (aJ h4B)];exact h4B
      have hLC:=hLB.push [Blk.box (os.row.map .f) 0]
      have hCe:([Blk.box (os.row.map .f) 0]:Heap)=[Blk.box [.f (sl os.cg (aQ os.cs)),.f (fi os.len),.f (sl os.xg (aH os.xs))] 0]:=rfl
      rw [hCe]at hbC kC h4C hLC
      rw [hor]at hlist kC
      generalize HB++[Blk.box [.f (sl os.cg (aQ os.cs)),.f (fi os.len),.f (sl os.xg (aH os.xs))] 0]=HC at hbC kC h4C hLC ⊢
      have aRj:=hbC
      rw [hB0]at aRj
      obtain⟨y0,y1,y2,y3,y5,y6⟩:=aRj
      refine ak ?_
      refine ak (aj (.inr rfl) ?_)
      simp
      refine aA (by simp) (aK ?_)
      refine ak (aj (.inr rfl) ?_)
      simp [t7,y1,kC,hlist]
      refine ak ?_
      refine ak (aj (.inr rfl) ?_)
      simp
      refine aA (by simp) (aK ?_)
      refine ak (aj (.inr rfl) ?_)
      simp
      refine fA L.length (fun j t H'=>t.g 7=.c (.ptr 1 0 0)∧t.g 10=.c (.ptr 4 0 0)∧t.g 69=.c (.f (sl gL (aH L)))∧B0 .busy H'∧∃ c,H'[4]?=some (.box [c] 0)∧LR H' c 2 (aZ (o++(L.take j).map (nU wf wt)))) (by omega) (by decide) (by decide) (by simp) (by simp)
       ⟨by simp [t7],by simp [t10],by simp,hbC,c,h4C,by simpa using hLC⟩ ?_ ?_
      ·rintro j t H' hj ⟨g7,g10,g69,hb1,c',k4,hL1⟩ ha hb2 nx
       have hrow:=fun H:Heap=>dI (H:=H) (bI L) (jg hj)
       simp only [aS.row,List.map_cons,List.map_nil]at hrow
       refine aP ?_
       refine ak (aj (.inr rfl) ?_)
       simp [g69,ha,bQ,hj,hrow]
       obtain⟨H1,hH1⟩:∃ H1,H1=H'++[Blk.box [.f (fi L[j].day),.f (fi L[j].fr),.f (fi L[j].to)] 0]:=⟨_,rfl⟩
       rw [←hH1]
       have j1:H1[H'.length]?=some (Blk.box [.f (fi L[j].day),.f (fi L[j].fr),.f (fi L[j].to)] 0):=by rw [hH1];simp
       have hb3:=push [Blk.box [.f (fi L[j].day),.f (fi L[j].fr),.f (fi L[j].to)] 0] hb1
       have hL3:=hL1.push [Blk.box [.f (fi L[j].day),.f (fi L[j].fr),.f (fi L[j].to)] 0]
       have k43:H1[4]?=some (.box [c'] 0):=by rw [hH1,List.getElem?_append_left (aJ k4)];exact k4
       rw [←hH1]at hb3 hL3
       have Y3:=hb3
       rw [hB0]at Y3
       obtain⟨w0,w1,w2,w3,w5,w6⟩:=Y3
       have hlen3:(o++(L.take j).map (nU wf wt)).length≤64:=by
        rw [List.length_append,List.length_map,List.length_take]
        omega
       have hL4:=hL3.push [Blk.box ((nU wf wt L[j]).row.map .f) 0]
       obtain⟨c2,H2,e2,hL5,hK5,hc5⟩:=hL4.app (fK _) (by decide) (row:=(nU wf wt L[j]).row) rfl (bytes:=16) (by simp only [pK];simp [bP];omega) (b1:=H1.length) (fl1:=0) (by simp)
       have k45:=hK5.2 4 _ (show(H1++[Blk.box ((nU wf wt L[j]).row.map .f) 0])[4]?=_ by rw [List.getElem?_append_left (aJ k43)];exact k43) (hL4.pY (show(H1++[Blk.box ((nU wf wt L[j]).row.map .f) 0])[4]?=_ by rw [List.getElem?_append_left (aJ k43)];exact k43))
       simp only [SpD.row,nU,List.map_cons,List.map_nil]at e2
       refine aj (.inr rfl) ?_
       simp [g7,g10,j1,k43,w1,e2,k45]
       have hb6:B0 .busy H2:=keep (push [Blk.box ((nU wf wt L[j]).row.map .f) 0] hb3) hL4 fun i y hy _ hn=>hK5.2 i y hy hn
       refine aN (nx _ _ ⟨by simp [g7],by simp [g10],by simp [g69],keep hb6 hL5 fun i y hy h4 _=>by rw [List.getElem?_set_ne (Ne.symm h4)];exact hy,c2,List.getElem?_set_self (aJ k45),?_⟩ (by simp [ha]) (by simp [hb2]))
       have htk:L.take (j+1)=L.take j++[L[j]]:=by rw [List.take_add_one,List.getElem?_eq_getElem hj];rfl
       have hL6:=hL5.set (hL5.pY k45) (.box [c2] 0)
       have er:aZ (o++(L.take j).map (nU wf wt))++[(nU wf wt L[j]).row]=aZ (o++(L.take (j+1)).map (nU wf wt)):=by rw [htk];simp only [aZ,List.map_append,List.map_cons,List.map_nil,List.append_assoc]
       rw [er]at hL6
       exact hL6
      ·rintro t H' ⟨g7,g10,g69,hb1,c',k4,hL1⟩ ha hb2
       rw [List.take_length]at hL1
       have Y3:=hb1
       rw [hB0]at Y3
       obtain⟨w0,w1,w2,w3,w5,w6⟩:=Y3
       have w6':=w6
       rw [hlp]at w6'
       refine aN (jF (hQ' _ _ _ _ _ _ _ _ _ _ rfl w6' ⟨rfl,?_⟩))
       rw [hPP]
       have e6:H'.set 6 (.lp nX T0 [P.nat 51] jM jL .ready none 5)=H'.set 6 (lp .ready):=by rw [hlp]
       simp only [Option.isNone_none,if_true]
       rw [e6]
       refine⟨?_,c',o++L.map (nU wf wt),by rw [List.getElem?_set_ne (by decide)];exact k4,hL1.set (aQ0 hb1 hL1) _,?_,?_,?_⟩
       ·rw [hB0]
        refine⟨?_,?_,?_,?_,?_,List.getElem?_set_self (aJ w6)⟩<;>(rw [List.getElem?_set_ne (by decide)];assumption)
       ·rw [List.length_append,List.length_map,List.length_append,List.length_singleton];omega
       ·intro x hx
        rcases List.mem_append.1 hx with hx | hx
        ·exact h2 x hx
        ·obtain⟨y,hy,rfl⟩:=List.mem_map.1 hx
         obtain⟨v1,v2,v3⟩:=YF hok (by omega) (by omega) hw0 ((hLm y).1 hy)
         have:=hok.2.2.1
         have:=hok.2.1
         simp only [nU]
         omega
       ·intro t
        rw [wF,h3 t,aK1]
        constructor
        ·rintro(⟨x,hx,hb⟩ | ⟨x,hx,hb⟩)
         ·exact⟨x,List.mem_append_left _ hx,hb⟩
         ·obtain⟨y,hy,rfl⟩:=List.mem_map.1 hx
          exact⟨s,by simp,os,y,Og,(hLm y).1 hy,hb⟩
        ·rintro⟨x,hx,hb⟩
         rcases List.mem_append.1 hx with hx | hx
         ·exact .inl ⟨x,hx,hb⟩
         ·obtain rfl:=List.mem_singleton.1 hx
          obtain⟨o',y,hO',hm,hh⟩:=hb
          exact .inr ⟨_,List.mem_map.2 ⟨y,(hLm y).2 (Dp.occ hO' Og hm),rfl⟩,hh⟩
     exact⟨H',e1,e2⟩)
   rw [hPP]at hP
   obtain⟨hb,c,o,h4,hLR,h1,h2,h3⟩:=hP
   have hb':=hb
   rw [hB0]at hb'
   obtain⟨b0,b1,b2,b3,b5,b6⟩:=hb'
   rw [hlp]at b6 he
   refine wY (g:=FM) (by rw [aut,t50];simp [dB]) he ?_
   refine BQ b6 (by decide) ?_
   have aYr:dL c≠some 6:=fun hi=>by
    obtain⟨s,cs,fl,ep,st',h2⟩:=NY hLR hi
    rw [b6]at h2;cases h2
   have hfl:=List.length_filter_le (fun s:aT=>eF h s.room.toNat k.toNat) ss
   have hL7:=hLR.set aYr (.lp nX T0 [P.nat 51] jM jL .exhausted none 5)
   have s4:(H'.set 6 (.lp nX T0 [P.nat 51] jM jL .exhausted none 5))[4]?=some (.box [c] 0):=by rw [List.getElem?_set_ne (by decide)];exact h4
   have s2:(H'.set 6 (.lp nX T0 [P.nat 51] jM jL .exhausted none 5))[2]?=some (.box [.f .ay] 0):=by rw [List.getElem?_set_ne (by decide)];exact b2
   have s3:(H'.set 6 (.lp nX T0 [P.nat 51] jM jL .exhausted none 5))[3]?=some (.box [.f (fi 0)] 0):=by rw [List.getElem?_set_ne (by decide)];exact b3
   have s5:(H'.set 6 (.lp nX T0 [P.nat 51] jM jL .exhausted none 5))[5]?=some (.dfr true):=by rw [List.getElem?_set_ne (by decide)];exact b5
   generalize H'.set 6 (.lp nX T0 [P.nat 51] jM jL .exhausted none 5)=HS at hL7 s4 s2 s3 s5 ⊢
   obtain⟨gi,egi⟩:=hL7.x.ex (fK o)
   have egd:exC deep HS c=some (sl gi (aZ o)):=egi HS 63 hL7.x
   obtain⟨gn,on,⟨n1,n2,n3,n4⟩,aQ3⟩:=asR gi o (by omega) h2
   have mk2:(mkC deep c HS)[2]?=some (.box [.f .ay] 0):=hL7.x.QG 63 s2
   have mk3:(mkC deep c HS)[3]?=some (.box [.f (fi 0)] 0):=hL7.x.QG 63 s3
   have mk5:(mkC deep c HS)[5]?=some (.dfr true):=by
    have:deep=63+1:=rfl
    rw [this]
    rcases hL7.x.mkH 63 with e | ⟨b',ep',fl',Om,e1,e2,e⟩
    ·rw [e];exact s5
    ·rw [e]
     have:b'≠5:=by rintro rfl;rw [s5]at e2;cases e2
     rw [List.getElem?_set_ne this];exact s5
   refine aN ?_
   refine ak (aj (.inl rfl) ?_)
   simp [t8,t9,t10,s4,egd,aQ3]
   generalize mkC deep c HS=HM at mk2 mk3 mk5 ⊢
   have aQv:(HM.set 2 (.box [.f (sl gn (aZ on))] 0))[3]?=some (.box [.f (fi 0)] 0):=by rw [List.getElem?_set_ne (by decide)];exact mk3
   simp [mk2,t9,aQv]
   obtain⟨HF,hHF⟩:∃ HF,HF=(HM.set 2 (.box [.f (sl gn (aZ on))] 0)).set 3 (.box [.f (.int .i64 0)] 0):=⟨_,rfl⟩
   rw [←hHF]
   have o2:(HF.set 5 (.dfr false))[2]?=some (.box [.f (sl gn (aZ on))] 0):=by rw [List.getElem?_set_ne (by decide),hHF,List.getElem?_set_ne (by decide),List.getElem?_set_self (aJ mk2)]
   have o3:(HF.set 5 (.dfr false))[3]?=some (.box [.f (.int .i64 0)] 0):=by rw [List.getElem?_set_ne (by decide),hHF,List.getElem?_set_self (aJ aQv)]
   have o5:HF[5]?=some (.dfr true):=by rw [hHF,List.getElem?_set_ne (by decide),List.getElem?_set_ne (by decide)];exact mk5
   refine aO (hQ _ _ _ ⟨gn,on,⟨n1,n2,n3,fun t=>?_⟩,rfl⟩ (.inr ⟨5,rfl,o5,.t [.c (.f (sl gn (aZ on))),vi 0],?_,?_⟩))
   ·rw [n4 t,h3 t,aK1]
    constructor
    ·rintro⟨x,hx,hb⟩
     obtain⟨q1,q2⟩:=List.mem_filter.1 hx
     exact⟨x,q1,q2,hb⟩
    ·rintro⟨x,q1,q2,hb⟩
     exact⟨x,List.mem_filter.2 ⟨q1,q2⟩,hb⟩
   ·simp [Km.results,fH,bD,t8,t9,o2,o3]
   ·simp [exV,fU,bD]
  exact go _ (by simp) (by simp) (by simp) (by simp) (by simp) (by simp)
 exact⟨go,o,ho,Km.Pure.eq hp⟩
end Go.Proofs.YtijkmcapnnlpjaaGreat
end
section
namespace Go.Proofs.YtijkmcapnnlpjaaGreat
open Go Km
theorem Yp{B A wf t:Int}{s:dD}(hs:pF s)(hB:0≤B∧B≤20)(hA:0≤A∧A≤20)(h0:wf≤t)(h1:t<wf+2000):(∃ x,Dp s (t-A) (t+B+1) x)↔uN B A wf (wf+2000) s t:=by
 have hlen:=hs.2.1
 constructor
 ·rintro⟨x,h⟩
  refine⟨⟨.fs,s.cs.map (sQ B),s.len+B+A,.fs,s.xs.map (qR B A)⟩,?_⟩
  rcases h with⟨f,p,l,mi,d,e,rfl,d1,d2,d3,d4⟩ | ⟨hx,hc⟩
  ·refine⟨lW (s.len+B+A) (mi-B) d,⟨rfl,rfl,rfl⟩,.inl ⟨f,p,l,mi-B,d,by rw [e];rfl,rfl,?_,d2,d3,?_⟩,?_⟩
   ·unfold n0I at *;show max 0 ((wf-(s.len+B+A)-(mi-B)) / 1440+1)≤d;omega
   ·omega
   ·unfold n0I at d1
    refine⟨?_,?_⟩
    ·show max (d*1440+(mi-B)) wf≤t
     omega
    ·show t<min (d*1440+(mi-B)+(s.len+B+A)) (wf+2000)
     omega
  ·have hok:=hs.2.2.2.2.2 x hx
   simp [CS]at hc
   refine⟨qR B A x,⟨rfl,rfl,rfl⟩,.inr ⟨List.mem_map.2 ⟨x,hx,rfl⟩,?_⟩,?_⟩
   ·show(decide (x.fr-B<wf+2000)&&decide (wf<x.to+A))=true
    rw [Bool.and_eq_true]
    exact⟨decide_eq_true (by omega),decide_eq_true (by omega)⟩
   ·refine⟨?_,?_⟩
    ·show max (x.fr-B) wf≤t
     omega
    ·show t<min (x.to+A) (wf+2000)
     omega
 ·rintro⟨o,x,⟨o1,o2,o3⟩,hm,⟨t1,t2⟩⟩
  rcases hm with⟨f,p,l,mi,d,e,rfl,d1,d2,d3,d4⟩ | ⟨hx,hc⟩
  ·rw [o1]at e
   have e':∃ mi',s.cs=[⟨.fs,[⟨.fs,[iW f p l]⟩],mi'⟩]∧mi=mi'-B:=by
    match hcs:s.cs,e with
    | [c],e=>
     obtain⟨g,ts,m⟩:=c
     simp [sQ]at e
     obtain⟨rfl,rfl,rfl⟩:=e
     exact⟨m,rfl,rfl⟩
    | [],e=>simp at e
    | _::_::_,e=>simp at e
   obtain⟨mi',e',rfl⟩:=e'
   have t1':max (d*1440+(mi'-B)) wf≤t:=t1
   have t2':t<min (d*1440+(mi'-B)+o.len) (wf+2000):=t2
   refine⟨lW s.len mi' d,.inl ⟨f,p,l,mi',d,e',rfl,?_,d2,d3,?_⟩⟩
   ·unfold n0I at *;omega
   ·omega
  ·rw [o3]at hx
   obtain⟨y,hy,rfl⟩:=List.mem_map.1 hx
   have t1':max (y.fr-B) wf≤t:=t1
   have t2':t<min (y.to+A) (wf+2000):=t2
   refine⟨y,.inr ⟨hy,?_⟩⟩
   show(decide (y.fr<t+B+1)&&decide (t-A<y.to))=true
   rw [Bool.and_eq_true]
   exact⟨decide_eq_true (by omega),decide_eq_true (by omega)⟩
theorem U0(g:Tg)(l:List bH)(a b:Int)(hl:l.length≤6)(ho:∀ r ∈ l,l7 r):Km.Pure tab.get RJ [.c (.f (sl g (rows l))),vi a,vi b]=Eq (vb (l9 l a b)):=(U1 g l a b hl ho).eq
theorem auj(aKL:Km.Pure tab.get KY [] (vb true))(B:List (List Int))(hB:B.length=3)(hr:∀ r ∈ B,r.length=5∧∀ n ∈ r,0≤n∧n≤255)(g:Tg)(l:List sU)(hl:l.length≤9223372036854775807)(hx:∀ x ∈ l,x.OK)
  (n0 n1 n2:Int) (b0:0≤n0∧n0≤65535) (b1:0≤n1∧n1≤65535) (b2:0≤n2∧n2≤65535) :
  Km.Pure tab.get RY [.a ((jU B).flatten.map .f),.c (.f (sl g (jr l))),.a [.f (.int .u16 n0),.f (.int .u16 n1),.f (.int .u16 n2)]] (vb true):=by
 have aKL:=aKL.eq
 obtain⟨r,hroom,hrooms⟩:=Xm B hB hr
 obtain⟨rs,h,ht,rfl⟩:=apH hroom
 have hrooms:=Km.Pure.eq hrooms
 have hl3:=oH ht
 have hlen:(jU B).flatten.length=15:=by
  have hg:Grid 5 (jU B):=fun r hm=>by
   obtain⟨r',hm',rfl⟩:=List.mem_map.1 hm
   rw [List.length_map];exact(hr r' hm').1
  rw [bK hg];simp [jU,hB]
 obtain⟨gs,ss,hsl,hso,hsf,hst⟩:=SQ g l hl hx
 obtain⟨k,hk⟩:∃ k,k=n0 % 3:=⟨_,rfl⟩
 obtain⟨m,hm⟩:∃ m,m=n2 % 2000:=⟨_,rfl⟩
 obtain⟨t0,ht0⟩:∃ t0,t0=n1+m:=⟨_,rfl⟩
 have r0:dN .rem (.c (.f (.int .u16 n0))) (.c (.f (.int .u16 3)))=some (.c (.f (.int .u16 k))):=by rw [fC (by omega),Int.tmod_eq_emod_of_nonneg (by omega),hk]
 have r1:dN .rem (.c (.f (.int .u16 n2))) (.c (.f (.int .u16 2000)))=some (.c (.f (.int .u16 m))):=by rw [fC (by omega),Int.tmod_eq_emod_of_nonneg (by omega),hm]
 obtain⟨go,o,⟨o1,o2,o3,o4⟩,aRi⟩:=auk .es gs ht hsl hso hsf k (by omega) (by omega) n1 (n1+2000) (by omega) (by omega) rfl
 have hval:=Gi go o o2 o1 o3
 have hhas:=L8 go o t0 (by omega)
 have hok:∀ s ∈ ss,pF s.st:=fun s hs=>(hsf s hs).2.2.2.2.2.2.2.2
 have sp:=fun a b=>U0 .es rs a b (by omega) (EF ht)
 obtain⟨xs,hxs⟩:∃ xs,xs=(jU B).flatten:=⟨_,rfl⟩
 rw [←hxs]at hrooms hlen ⊢
 have htk:List.take 15 (xs.map C.f)=xs.map C.f:=List.take_of_length_le (by simp [hlen])
 refine gY aTV rfl fun Q hQ=>?_
 refine ak (aj (.inl rfl) ?_)
 simp
 refine ak (aj (.inl rfl) ?_)
 simp [aKL]
 refine ak (aj (.inl rfl) ?_)
 simp [hlen,htk,hrooms]
 refine ak (aj (.inl rfl) ?_)
 simp [hst]
 refine ak (aj (.inl rfl) ?_)
 simp [bC,jG,r0,wrap64 (n:=k) (by omega) (by omega)]
 refine ak (aj (.inl rfl) ?_)
 simp [bC,jG,r1,wrap64 (n:=m) (by omega) (by omega),wrap64 (n:=n1) (by omega) (by omega),wrap64 (n:=n1+m) (by omega) (by omega)]
 refine ak (aj (.inl rfl) ?_)
 simp [bC,jG,wrap64 (n:=n1) (by omega) (by omega),wrap64 (n:=n1+2000) (by omega) (by omega),aRi]
 refine ak ?_
 refine ak (aj (.inl rfl) ?_)
 simp [hval]
 refine aA (by simp) (aK ?_)
 refine ak (aj (.inl rfl) ?_)
 simp
 refine ak ?_
 refine ak (aj (.inl rfl) ?_)
 simp
 rw [←ht0]
 refine lF ss.length (fun j t H=>t.g 7=vb true∧t.g 8=.c (.f (sl .es (rows rs)))∧t.g 9=.c (.f (sl gs (bg ss)))∧t.g 10=vi k∧t.g 11=vi t0∧t.g 12=.c (.f (sl go (aZ o))) ∧
   ∃ w:Bool,t.g 14=vb w∧(w=true↔∃ s ∈ ss.take j,eF h s.room.toNat k.toNat=true∧uN (rB rs s) (rA rs s) n1 (n1+2000) s.st t0)) (by omega) rfl (by simp)
  ⟨by simp,by simp,by simp,by simp,by simp,by simp,false,by simp,by simp⟩ ?_ ?_ ?_
 ·rintro j t H L hj ⟨g7,g8,g9,g10,g11,g12,w,g14,hw⟩ ha hL
  simp [ha,g9]
  exact hL _ ⟨by simp [g7],by simp [g8],by simp [g9],by simp [g10],by simp [g11],by simp [g12],w,by simp [g14],hw⟩ (by simp [ha]) (by simp)
 ·rintro j t H hj ⟨g7,g8,g9,g10,g11,g12,w,g14,hw⟩ ha next
  have hjm:=List.getElem_mem hj
  obtain⟨f1,f2,f3,f4,f5,f6,f7,f8,f9⟩:=hsf _ hjm
  have hkr:ss[j].room.toNat<rs.length:=by omega
  obtain⟨rb0,rb1,ra0,ra1⟩:=wL ht hkr
  have hB':rB rs ss[j]=rs[ss[j].room.toNat].bef:=by simp [rB,List.getElem?_eq_getElem hkr]
  have hA':rA rs ss[j]=rs[ss[j].room.toNat].aft:=by simp [rA,List.getElem?_eq_getElem hkr]
  obtain⟨gL,L,⟨hLp,hLm⟩,hLl,hli⟩:=QK 3 (by omega) ss[j].st f9.two (t0-rs[ss[j].room.toNat].aft) (t0+rs[ss[j].room.toNat].bef+1) (by omega) (by omega) (by omega) (by omega) (by omega)
  have aFS:=Yp (B:=rs[ss[j].room.toNat].bef) (A:=rs[ss[j].room.toNat].aft) (wf:=n1) (t:=t0) f9 ⟨rb0,rb1⟩ ⟨ra0,ra1⟩ (by omega) (by omega)
  rw [←hB',←hA']at aFS
  have hne:(0:Int)<(L.length:Int)↔uN (rB rs ss[j]) (rA rs ss[j]) n1 (n1+2000) ss[j].st t0:=by
   rw [←aFS,hB',hA']
   constructor
   ·intro h0
    exact⟨L[0]'(by omega),(hLm _).1 (List.getElem_mem (by omega))⟩
   ·rintro⟨x,hx⟩
    have:=List.length_pos_of_mem ((hLm x).2 hx)
    omega
  have hsh:l9 rs k ss[j].room=eF h ss[j].room.toNat k.toNat:=by
   have:=IB ht (i:=k.toNat) (k:=ss[j].room.toNat) (by omega) (by omega)
   rw [Int.toNat_of_nonneg (by omega),Int.toNat_of_nonneg f3]at this
   rw [this,LZ]
  have htk:ss.take (j+1)=ss.take j++[ss[j]]:=by rw [List.take_add_one,List.getElem?_eq_getElem hj];rfl
  have hnew:∀ w':Bool,(w'=(w||(decide ((0:Int)<(L.length:Int))&&eF h ss[j].room.toNat k.toNat)))→(w'=true↔∃ s ∈ ss.take (j+1),eF h s.room.toNat k.toNat=true∧uN (rB rs s) (rA rs s) n1 (n1+2000) s.st t0):=by
   rintro w' rfl
   rw [Bool.or_eq_true,Bool.and_eq_true,decide_eq_true_eq,hw,hne,htk]
   constructor
   ·rintro(⟨s,hs,q⟩ | ⟨q1,q2⟩)
    ·exact⟨s,List.mem_append_left _ hs,q⟩
    ·exact⟨ss[j],List.mem_append_right _ (List.mem_singleton.2 rfl),q2,q1⟩
   ·rintro⟨s,hs,q1,q2⟩
    rcases List.mem_append.1 hs with hs | hs
    ·exact .inl ⟨s,hs,q1,q2⟩
    ·obtain rfl:=List.mem_singleton.1 hs;exact .inr ⟨q2,q1⟩
  have hst3:=fun H:Heap=>QN (H:=H) (k:=4) (n:=3) (dH ss) (gG hj) (by omega)
  have hroom1:=fun H:Heap=>kY (H:=H) (k:=1) (dH ss) (gG hj) rfl
  have hrow:=fun H:Heap=>dI (H:=H) (iq rs) (pR hkr)
  have aYu:=fun H:Heap=>bQ (H:=H) (g:=.es) (rows:=rows rs) (sz:=15) (k:=.i64) (i:=ss[j].room) f3 (by simp;omega)
  simp [aT.row]at hst3 hroom1
  simp [dD.row]at hli
  simp only [bH.row,List.map_cons,List.map_nil]at hrow
  have aQZ:=sp k ss[j].room
  rw [hsh]at aQZ
  generalize rs[ss[j].room.toNat]=r at *
  refine aP ?_
  refine ak (aj (.inl rfl) ?_)
  simp [g8,g9,ha,bQ,hj,hroom1,aYu,hrow]
  refine ak (aj (.inl rfl) ?_)
  simp [g9,g11,ha,bQ,hj,hst3,wrap64 (n:=t0-r.aft) (by omega) (by omega),wrap64 (n:=t0+r.bef) (by omega) (by omega),wrap64 (n:=t0+r.bef+1) (by omega) (by omega),hli]
  refine ak ?_
  refine ak (aj (.inl rfl) ?_)
  simp
  refine aA (by simp) (aK ?_)
  refine aj (.inl rfl) ?_
  cases w
  ·by_cases hp:(0:Int)<(L.length:Int)
   ·have hp':0<L.length:=by omega
    simp [g8,g9,g10,g14,ha,bQ,hj,hroom1,hp',aQZ]
    refine aN (next _ _ ⟨by simp [g7],by simp [g8],by simp [g9],by simp [g10],by simp [g11],by simp [g12],eF h ss[j].room.toNat k.toNat,by simp,hnew _ (by simp [hp'])⟩ (by simp [ha]))
   ·have hp':L=[]:=List.length_eq_zero_iff.1 (by omega)
    simp [g14,hp']
    refine aN (next _ _ ⟨by simp [g7],by simp [g8],by simp [g9],by simp [g10],by simp [g11],by simp [g12],false,by simp,hnew _ (by simp [hp'])⟩ (by simp [ha]))
  ·simp [g14]
   refine aN (next _ _ ⟨by simp [g7],by simp [g8],by simp [g9],by simp [g10],by simp [g11],by simp [g12],true,by simp,hnew _ (by simp)⟩ (by simp [ha]))
 ·rintro t H ⟨g7,g8,g9,g10,g11,g12,w,g14,hw⟩ ha
  rw [List.take_length]at hw
  have e:(o.any fun s=>ny s t0)=w:=by
   rw [Bool.eq_iff_iff,vP,o4,hw]
  rw [e]at hhas
  refine ak (aj (.inl rfl) ?_)
  simp [g7,g11,g12,g14,hhas]
  refine aO (hQ _ _ ?_)
  simp
end Go.Proofs.YtijkmcapnnlpjaaGreat
end
section
namespace Go.Proofs.YtijkmcapnnlpjaaGreat
open Go Km
theorem sane:Km.Pure tab.get KY [] (vb true):=D9 (reckoned ev)
theorem byte_of{x:List FC}(h:∃ m,x=[FC.int .u8 m]∧Lit.wf (.int .u8 m)):∃ m,x=[FC.int .u8 m]∧B8 m:=by
 obtain⟨m,rfl,hw⟩:=h
 refine⟨m,rfl,?_⟩
 simp [Lit.wf,IntKind.min,IntKind.max,IntKind.signed,IntKind.bits]at hw
 exact⟨by omega,by omega⟩
set_option maxRecDepth 100000 in
theorem aG9{ys:List FC}{n:Nat}(hy:Shp Tryz.prog (n+3) 92 ys):∃ x:sU,ys=x.row∧x.OK:=by
 obtain⟨_,q1,rfl,h1,k1⟩:=jJ (MG (ts:=[5,5,5,5,5,5,5,5,5,90]) Tryz.underlying92 rfl hy)
 obtain⟨v1,rfl,b1⟩:=byte_of (jQ Tryz.underlying5 h1)
 obtain⟨_,q2,rfl,h1,k2⟩:=jJ k1
 obtain⟨v2,rfl,b2⟩:=byte_of (jQ Tryz.underlying5 h1)
 obtain⟨_,q3,rfl,h1,k3⟩:=jJ k2
 obtain⟨v3,rfl,b3⟩:=byte_of (jQ Tryz.underlying5 h1)
 obtain⟨_,q4,rfl,h1,k4⟩:=jJ k3
 obtain⟨v4,rfl,b4⟩:=byte_of (jQ Tryz.underlying5 h1)
 obtain⟨_,q5,rfl,h1,k5⟩:=jJ k4
 obtain⟨v5,rfl,b5⟩:=byte_of (jQ Tryz.underlying5 h1)
 obtain⟨_,q6,rfl,h1,k6⟩:=jJ k5
 obtain⟨v6,rfl,b6⟩:=byte_of (jQ Tryz.underlying5 h1)
 obtain⟨_,q7,rfl,h1,k7⟩:=jJ k6
 obtain⟨v7,rfl,b7⟩:=byte_of (jQ Tryz.underlying5 h1)
 obtain⟨_,q8,rfl,h1,k8⟩:=jJ k7
 obtain⟨v8,rfl,b8⟩:=byte_of (jQ Tryz.underlying5 h1)
 obtain⟨_,q9,rfl,h1,k9⟩:=jJ k8
 obtain⟨v9,rfl,b9⟩:=byte_of (jQ Tryz.underlying5 h1)
 obtain⟨pe,q10,rfl,he,k10⟩:=jJ k9
 obtain rfl:q10=[]:=k10
 obtain⟨eg,rws,rfl,_,hel,hee⟩:=EK Tryz.underlying90 he
 obtain⟨ex,rfl,hex⟩:=rY (enc:=fun n:Int=>[FC.int .u8 n]) (p:=fun n=>B8 n) fun c hc'=>byte_of (jQ Tryz.underlying5 (hee c hc'))
 refine⟨⟨v1,v2,v3,v4,v5,v6,v7,v8,v9,eg,ex⟩,rfl,b1,b2,b3,b4,b5,b6,b7,b8,b9,?_,hex⟩
 simp at hel
 exact Nat.le_trans hel (by decide)
theorem yB{α:Type}(g:α→FC):∀ l:List α,(l.map fun n=>[g n]).flatten=l.map g
 | []=>rfl
 | x::l=>by simp only [List.map_cons,List.flatten_cons,yB g l];rfl
def B16(n:Int):Prop:=0≤n∧n≤65535
set_option maxRecDepth 100000 in
theorem UJ(ar:List V)(h:zC Tryz.prog [23,24,26] ar):Km.Pure tab.get RY ar (vb true):=by
 obtain⟨a0,_,rfl,h0,a1,_,rfl,h1,a2,_,rfl,h2,rfl⟩:=h
 have e0:∃ B:List (List Int),a0=.a ((jU B).flatten.map .f)∧B.length=3∧∀ r ∈ B,r.length=5∧∀ n ∈ r,0≤n∧n≤255:=by
  have q:∃ xs,a0=.a (xs.map .f)∧Shp Tryz.prog 40 23 xs:=by
   rcases h0 with⟨xs,rfl,hs,_⟩ | ⟨x,rfl,hs⟩
   ·exact⟨xs,rfl,hs⟩
   ·exfalso
    obtain⟨rows,e,hl,hg,_⟩:=zh (n:=39) Tryz.underlying23 hs
    have:=congrArg List.length e
    rw [bK hg,hl,show Tryz.prog.cellsOf 22=5 by kernel_rfl]at this
    simp at this
  obtain⟨xs,rfl,hs⟩:=q
  obtain⟨rws,rfl,hl,hg,hr⟩:=zh (n:=39) Tryz.underlying23 hs
  obtain⟨B,rfl,hB⟩:=rY (enc:=fun r:List Int=>r.map fun n=>FC.int .u8 n) (p:=fun r=>r.length=5∧∀ n ∈ r,0≤n∧n≤255) fun r hr'=>by
   obtain⟨cs,rfl,hl',hg',hc⟩:=zh (n:=38) Tryz.underlying22 (hr r hr')
   obtain⟨l,rfl,hl2⟩:=rY (enc:=fun n:Int=>[FC.int .u8 n]) (p:=fun n=>0≤n∧n≤255) fun c hc'=>byte_of (jQ (n:=37) Tryz.underlying5 (hc c hc'))
   refine⟨l,yB _ l,by simpa using hl',hl2⟩
  exact⟨B,rfl,by simpa using hl,hB⟩
 have e1:∃ g l,a1=.c (.f (sl g (jr l)))∧l.length≤9223372036854775807∧∀ x ∈ l,x.OK:=by
  rcases h1 with⟨xs,_,_,d,hd,hd'⟩ | ⟨z,rfl,h1⟩
  ·rw [Tryz.underlying24]at hd;cases hd;rcases hd' with⟨_,e⟩ | ⟨_,_,e⟩<;>cases e
  ·obtain⟨g,rws,e,_,hl,hr⟩:=EK (n:=39) Tryz.underlying24 h1
   cases e
   obtain⟨l,rfl,hx⟩:=rY (enc:=sU.row) (p:=fun x=>x.OK) fun r hr'=>aG9 (n:=36) (hr r hr')
   refine⟨g,l,rfl,?_,hx⟩
   simp at hl
   exact Nat.le_trans hl (by decide)
 have e2:∃ n0 n1 n2,a2=.a [.f (.int .u16 n0),.f (.int .u16 n1),.f (.int .u16 n2)]∧B16 n0∧B16 n1∧B16 n2:=by
  have fin:∀ xs,Shp Tryz.prog 40 26 xs→∃ n0 n1 n2,xs=[FC.int .u16 n0,.int .u16 n1,.int .u16 n2]∧B16 n0∧B16 n1∧B16 n2:=by
   intro xs hs
   obtain⟨rws,rfl,hl,hg,hr⟩:=zh (n:=39) Tryz.underlying26 hs
   obtain⟨l,rfl,hx⟩:=rY (enc:=fun n:Int=>[FC.int .u16 n]) (p:=fun n=>B16 n) fun c hc'=>by
    obtain⟨m,rfl,hw⟩:=jQ (n:=38) Tryz.underlying25 (hr c hc')
    refine⟨m,rfl,?_⟩
    simp [Lit.wf,IntKind.min,IntKind.max,IntKind.signed,IntKind.bits]at hw
    exact⟨by omega,by omega⟩
   match l,hl,hx with
   | [x,y,z],_,hx=>exact⟨x,y,z,rfl,hx x (by simp),hx y (by simp),hx z (by simp)⟩
   | [],hl,_=>simp at hl
   | [_],hl,_=>simp at hl
   | [_,_],hl,_=>simp at hl
   | _::_::_::_::_,hl,_=>simp at hl
  rcases h2 with⟨xs,rfl,hs,_⟩ | ⟨x,rfl,hs⟩
  ·obtain⟨n0,n1,n2,rfl,h⟩:=fin xs hs
   exact⟨n0,n1,n2,rfl,h⟩
  ·obtain⟨n0,n1,n2,e,h⟩:=fin _ hs
   simp at e
 obtain⟨B,rfl,hB,hr⟩:=e0
 obtain⟨g,l,rfl,hl,hx⟩:=e1
 obtain⟨n0,n1,n2,rfl,b0,b1,b2⟩:=e2
 exact auj sane B hB hr g l hl hx n0 n1 n2 b0 b1 b2
end Go.Proofs.YtijkmcapnnlpjaaGreat
end
