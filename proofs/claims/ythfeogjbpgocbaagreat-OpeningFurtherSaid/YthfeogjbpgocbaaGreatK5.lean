/-
  Our own small machine for Go code by value, held against the model: part 5. No program in sight.
-/
import Derived.Test.YthfeogjbpgocbaaGreatK4
open Nat renaming le_refl → aw, eq_zero_or_pos → cL, pow_le_pow_right → ee, le_trans → bz, lt_trichotomy → bO, lt_or_eq_of_le → b9, zero_add → cH, add_mul → bS
open List renaming mem_of_getElem? → aD, getElem?_set_self → ax, length_eq_zero_iff → cn, getElem_mem → av, getElem?_eq_getElem → ae, cons_append → cT, mem_cons_self → aE, mem_cons_of_mem → a8, mem_append → ba, pairwise_append → cR, pairwise_singleton → cQ, mem_singleton → cI, mem_append_left → cU, pairwise_cons → c5, mem_cons → co, length_map → a9, getElem?_append_left → ai, getElem?_set_ne → ag, length_append → bw, take_append_of_le_length → cw, take_of_length_le → bA
open Int renaming le_refl → de
set_option linter.unusedVariables false
set_option linter.unusedSimpArgs false
set_option linter.unusedSectionVars false
section
namespace Km
open Go
section
variable{tab:Nat→Option AFunc}{σ:Srt}{sz:Nat}{cv:V}{W:List FC→Prop}{c:List FC→List FC→Int}
def Low(c:List FC→List FC→Int)(a e:Nat)(l:List (List FC)):Prop:=∀ k,0<a→a≤k→k<e→LeI c l (a-1) k
theorem Low.seg{a e a' e':Nat}{l l':List (List FC)}(h:Low c a e l)(hs:Seg a' e' l l')(h1:a≤a')(h2:e'≤e)(he:a'≤e')(hl:e'≤l.length):Low c a e l':=by
 intro k h0 k1 k2 x y hx hy
 rw [hs.lt (by omega)]at hx
 by_cases c1:k<a'
 ·rw [hs.lt c1]at hy
  exact h k h0 k1 k2 x y hx hy
 by_cases c2:e'≤k
 ·rw [hs.ge c2]at hy
  exact h k h0 k1 k2 x y hx hy
 obtain⟨j,j1,j2,hj⟩:=hs.mem he hl (by omega) (by omega) hy
 exact h j h0 (by omega) (by omega) x y hx hj
theorem Low.mono{a e e':Nat}{l:List (List FC)}(h:Low c a e l)(he:e'≤e):Low c a e' l:=fun k h0 k1 k2=>h k h0 k1 (by omega)
theorem Us{n a e i ep b:Nat}{rows:List (List FC)}{H0:Heap}{g10:V}{k:List dI}{Q:Option ah→St→Prop}(hcv:Cv tab cv W c)(hc:Cmp W c)(hn:rows.length=n)(hl:n≤1000000000)(hg:Grid sz rows)(hW:∀ r ∈ rows,W r)
  {t:T} {H:Heap} (hai:a<i) (hie:i≤e) (hen:e≤n) (hup:Up c a i rows)
  (g0:t.g 0=.c (.sl b 0 n 0 ep sz)) (g1:t.g 1=vi a) (g2:t.g 2=vi e) (g3:t.g 3=cv) (gi:t.g 9=vi i) (gj:t.g 10=g10) (hfr:Fm b H0 H) (hrb:RB H b sz ep rows)
  (next:∀(t:T) (H:Heap) (i':Nat),(i≤i'∧i'≤e)→Up c a i' rows→(i'=e∨∀ x y,rows[i']?=some x→rows[i'-1]?=some y→c x y<0) →
   t.g 0=.c (.sl b 0 n 0 ep sz)→t.g 1=vi a→t.g 2=vi e→t.g 3=cv→t.g 9=vi i'→t.g 10=g10→Fm b H0 H→RB H b sz ep rows→WP tab σ.pins none k ⟨t,[],H⟩ Q) :
  WP tab σ.pins none (.code (RQ σ sz)::k) ⟨t,[],H⟩ Q:=by
 refine aN ?_
 refine bK (fun m s=>∃(q:Nat) (t:T) (H1:Heap),s=⟨t,[],H1⟩∧(q+m=e∧i≤q)∧Up c a q rows ∧
   t.g 0=.c (.sl b 0 n 0 ep sz)∧t.g 1=vi a∧t.g 2=vi e∧t.g 3=cv∧t.g 9=vi q∧t.g 10=g10∧Fm b H0 H1∧RB H1 b sz ep rows) (e-i)
  ⟨i,_,H,rfl,by omega,hup,g0,g1,g2,g3,gi,gj,hfr,hrb⟩ ?_
 rintro m s ⟨q,t,H1,rfl,hm,hup,g0,g1,g2,g3,gi,gj,hfr,hrb⟩ ih
 refine ak ?_
 refine ak (aj (.inl rfl) ?_)
 by_cases hlt:q<e
 case neg=>
  simp [gi,g2,hlt]
  refine ay (by simp) ?_
  refine bf (k':=k) rfl ?_
  exact next _ _ q (by omega) hup (.inl (by omega)) (by simp [g0]) (by simp [g1]) (by simp [g2]) (by simp [g3]) (by simp [gi]) (by simp [gj]) hfr hrb
 obtain⟨d,rfl⟩:∃ d,q=d+1:=⟨q-1,by omega⟩
 obtain⟨x,y,F,ar,J,hx,hy,i1,j1,l1,l2,fK,he,-,-⟩:=hrb.ask hg hcv hW hn (i:=d+1) (j:=d) (by omega) (by omega)
 have c1:((d+1:Nat):Int)=(d:Int)+1:=by omega
 have hlt':(d:Int)+1<(e:Int):=by omega
 rw [c1]at i1 gi
 simp [gi,g2,hlt',g0,g3,i1,j1,l1,l2,fK,he,-aH,wrap64 (n:=(d:Int)) (by omega) (by omega)]
 by_cases hc2:c x y<0
 case pos=>
  refine ay (by simp [hc2]) ?_
  refine bf (k':=k) rfl ?_
  refine next _ _ (d+1) (by omega) hup (.inr fun z w hz hw=>?_) (by simp [g0]) (by simp [g1]) (by simp [g2]) (by simp [g3]) (by simp [gi]) (by simp [gj]) (hfr.trans (Fm.push _ _)) (hrb.push _)
  rw [hx]at hz;cases hz
  rw [show d+1-1=d by omega,hy]at hw;cases hw;exact hc2
 refine aB (by simp [hc2]) (aG ?_)
 refine aN (aj (.inl rfl) ?_)
 simp [gi,wrap64 (n:=(d:Int)+1+1) (by omega) (by omega)]
 refine aK (ih (m-1) _ (by omega) ⟨d+1+1,_,_,rfl,by omega,?_,by simp [g0],by simp [g1],by simp [g2],by simp [g3],by simp,by simp [gj],hfr.trans (Fm.push _ _),hrb.push _⟩)
 exact(Ins.start hup).stop hc hW (by omega) (aw _) (by omega) (LeI.of_le hy hx hc2)
theorem Ut{n a e i j ep b:Nat}{rows:List (List FC)}{H0:Heap}{g10:V}{k:List dI}{Q:Option ah→St→Prop}(hcv:Cv tab cv W c)(hc:Cmp W c)(hn:rows.length=n)(hl:n≤1000000000)(hg:Grid sz rows)(hW:∀ r ∈ rows,W r)
  {t:T} {H:Heap} (haj:a≤j) (hji:j=i) (hie:i<e) (hen:e≤n) (hlow:Low c a e rows) (hins:Ins c a i j rows)
  (g0:t.g 0=.c (.sl b 0 n 0 ep sz)) (g1:t.g 1=vi a) (g2:t.g 2=vi e) (g3:t.g 3=cv) (g9:t.g 9=vi (i+1:Nat)) (gc:t.g 10=g10) (gj:t.g 11=vi j) (hfr:Fm b H0 H) (hrb:RB H b sz ep rows)
  (next:∀(t:T) (H:Heap) (l:List (List FC)),Seg a e rows l→Up c a (i+1) l →
   t.g 0=.c (.sl b 0 n 0 ep sz)→t.g 1=vi a→t.g 2=vi e→t.g 3=cv→t.g 9=vi (i+1:Nat)→t.g 10=g10→Fm b H0 H→RB H b sz ep l→WP tab σ.pins none k ⟨t,[],H⟩ Q) :
  WP tab σ.pins none (.code (RP σ sz)::k) ⟨t,[],H⟩ Q:=by
 refine aN ?_
 refine bK (fun m s=>∃(j:Nat) (t:T) (H1:Heap) (l:List (List FC)),s=⟨t,[],H1⟩∧j=m∧a≤j∧j≤i∧t.g 0=.c (.sl b 0 n 0 ep sz)∧t.g 1=vi a∧t.g 2=vi e∧t.g 3=cv∧t.g 9=vi (i+1:Nat)∧t.g 10=g10∧t.g 11=vi j ∧
   Fm b H0 H1∧RB H1 b sz ep l∧Seg a e rows l∧Ins c a i j l) j
  ⟨j,_,H,rows,rfl,rfl,haj,by omega,g0,g1,g2,g3,g9,gc,gj,hfr,hrb,Seg.refl _ _ _,hins⟩ ?_
 rintro m s ⟨j,t,H1,l,rfl,rfl,haj,hji,g0,g1,g2,g3,g9,gc,gj,hfr,hrb,hseg,hins⟩ ih
 have hlen:=hseg.len
 have hg2:=hseg.grid hg
 have hW2:∀ r ∈ l,W r:=fun r hr=>hW r (hseg.1.mem_iff.1 hr)
 have hlow2:Low c a e l:=hlow.seg hseg (aw _) (aw _) (by omega) (by omega)
 refine ak ?_
 refine ak (aj (.inl rfl) ?_)
 by_cases hj0:j=0
 ·subst hj0
  obtain rfl:a=0:=by omega
  simp [gj]
  refine ay (by simp) ?_
  refine bf (k':=k) rfl ?_
  exact next _ _ l hseg hins.front (by simp [g0]) (by simp [g1]) (by simp [g2]) (by simp [g3]) (by simp [g9]) (by simp [gc]) hfr hrb
 obtain⟨d,rfl⟩:∃ d,j=d+1:=⟨j-1,by omega⟩
 obtain⟨x,y,F,ar,J,hx,hy,i1,j1,l1,l2,fK,he,-,-⟩:=hrb.ask hg2 hcv hW2 (hlen.trans hn) (i:=d+1) (j:=d) (by omega) (by omega)
 have c1:((d+1:Nat):Int)=(d:Int)+1:=by omega
 have hge:(1:Int)≤(d:Int)+1:=by omega
 rw [c1]at i1 gj
 simp [gj,hge]
 refine aB (by simp) (aG ?_)
 refine ak ?_
 refine aN ?_
 refine ak ?_
 refine ak (aj (.inl rfl) ?_)
 simp [gj,g0,g3,i1,j1,l1,l2,fK,he,-aH,wrap64 (n:=(d:Int)) (by omega) (by omega)]
 by_cases hc2:c x y<0
 case neg=>
  refine aB (by simp [hc2]) ?_
  refine bf (k':=k) rfl ?_
  refine next _ _ l hseg ?_ (by simp [g0]) (by simp [g1]) (by simp [g2]) (by simp [g3]) (by simp [g9]) (by simp [gc]) (hfr.trans (Fm.push _ _)) (hrb.push _)
  by_cases ha:d+1=a
  ·subst ha;exact hins.front
  ·exact hins.stop hc hW2 (by omega) hji (by omega) (LeI.of_le hy hx hc2)
 have had:a≤d:=by
  rcases Nat.lt_or_ge d a with h | h
  ·obtain rfl:a=d+1:=by omega
   exact absurd hc2 (hlow2 (d+1) (by omega) (aw _) (by omega) y x (by simpa using hy) hx)
  ·exact h
 refine ay (by simp [hc2]) (aG ?_)
 obtain⟨x5,y5,H5,H6,-,-,i5,j5,l5,l6,w5,w6,s5,j6,s6,r6,f6⟩:=(hrb.push J).swp hg2 (hlen.trans hn) (i:=d+1) (j:=d) (by omega) (by omega)
 rw [c1]at i5
 refine aj (.inl rfl) ?_
 simp [g0,gj,i5,j5,l5,l6,w5,w6,s5,j6,s6,-aH,-bI,wrap64 (n:=(d:Int)) (by omega) (by omega)]
 refine aK ?_
 refine aj (.inl rfl) ?_
 simp [gj,wrap64 (n:=(d:Int)) (by omega) (by omega)]
 exact ih d _ (by omega) ⟨d,_,H6,swp l (d+1) d,rfl,rfl,had,by omega,by simp [g0],by simp [g1],by simp [g2],by simp [g3],by simp [g9],by simp [gc],by simp,(hfr.trans (Fm.push _ _)).trans f6,r6,
  hseg.trans (iL (by omega) (by omega) (by omega) (by omega) (by omega)),hins.step hc hW2 (by omega) hji (by omega) hx hy hc2⟩
theorem Na{n a e i ep b:Nat}{rows:List (List FC)}{H0:Heap}{g10:V}{k:List dI}{Q:Option ah→St→Prop}(hcv:Cv tab cv W c)(hn:rows.length=n)(hl:n≤1000000000)(hg:Grid sz rows)(hW:∀ r ∈ rows,W r)
  {t:T} {H:Heap} (hie:i<e) (hen:e≤n)
  (g0:t.g 0=.c (.sl b 0 n 0 ep sz)) (g1:t.g 1=vi a) (g2:t.g 2=vi e) (g3:t.g 3=cv) (g9:t.g 9=vi i) (gc:t.g 10=g10) (gj:t.g 12=vi (i+1:Nat)) (hfr:Fm b H0 H) (hrb:RB H b sz ep rows)
  (next:∀(t:T) (H:Heap) (l:List (List FC)),Seg i e rows l →
   t.g 0=.c (.sl b 0 n 0 ep sz)→t.g 1=vi a→t.g 2=vi e→t.g 3=cv→t.g 9=vi i→t.g 10=g10→Fm b H0 H→RB H b sz ep l→WP tab σ.pins none k ⟨t,[],H⟩ Q) :
  WP tab σ.pins none (.code (RJ σ sz)::k) ⟨t,[],H⟩ Q:=by
 refine aN ?_
 refine bK (fun m s=>∃(d:Nat) (t:T) (H1:Heap) (l:List (List FC)),s=⟨t,[],H1⟩∧d+1+m=e∧i≤d∧t.g 0=.c (.sl b 0 n 0 ep sz)∧t.g 1=vi a∧t.g 2=vi e∧t.g 3=cv∧t.g 9=vi i∧t.g 10=g10∧t.g 12=vi (d+1:Nat) ∧
   Fm b H0 H1∧RB H1 b sz ep l∧Seg i e rows l) (e-(i+1))
  ⟨i,_,H,rows,rfl,by omega,aw _,g0,g1,g2,g3,g9,gc,gj,hfr,hrb,Seg.refl _ _ _⟩ ?_
 rintro m s ⟨d,t,H1,l,rfl,hm,hid,g0,g1,g2,g3,g9,gc,gj,hfr,hrb,hseg⟩ ih
 have hlen:=hseg.len
 have hg2:=hseg.grid hg
 have hW2:∀ r ∈ l,W r:=fun r hr=>hW r (hseg.1.mem_iff.1 hr)
 have c1:((d+1:Nat):Int)=(d:Int)+1:=by omega
 rw [c1]at gj
 refine ak ?_
 refine ak (aj (.inl rfl) ?_)
 by_cases hlt:d+1<e
 case neg=>
  have hlt':¬ ((d:Int)+1<(e:Int)):=by omega
  simp [gj,g2,hlt']
  refine ay (by simp) ?_
  refine bf (k':=k) rfl ?_
  exact next _ _ l hseg (by simp [g0]) (by simp [g1]) (by simp [g2]) (by simp [g3]) (by simp [g9]) (by simp [gc]) hfr hrb
 have hlt':(d:Int)+1<(e:Int):=by omega
 simp [gj,g2,hlt']
 refine aB (by simp) (aG ?_)
 obtain⟨x,y,F,ar,J,hx,hy,i1,j1,l1,l2,fK,he,-,-⟩:=hrb.ask hg2 hcv hW2 (hlen.trans hn) (i:=d+1) (j:=d) (by omega) (by omega)
 rw [c1]at i1
 refine ak ?_
 refine aN ?_
 refine ak ?_
 refine ak (aj (.inl rfl) ?_)
 simp [gj,g0,g3,i1,j1,l1,l2,fK,he,-aH,wrap64 (n:=(d:Int)) (by omega) (by omega)]
 by_cases hc2:c x y<0
 case neg=>
  refine aB (by simp [hc2]) ?_
  refine bf (k':=k) rfl ?_
  exact next _ _ l hseg (by simp [g0]) (by simp [g1]) (by simp [g2]) (by simp [g3]) (by simp [g9]) (by simp [gc]) (hfr.trans (Fm.push _ _)) (hrb.push _)
 refine ay (by simp [hc2]) (aG ?_)
 obtain⟨x5,y5,H5,H6,-,-,i5,j5,l5,l6,w5,w6,s5,j6,s6,r6,f6⟩:=(hrb.push J).swp hg2 (hlen.trans hn) (i:=d+1) (j:=d) (by omega) (by omega)
 rw [c1]at i5
 refine aj (.inl rfl) ?_
 simp [g0,gj,i5,j5,l5,l6,w5,w6,s5,j6,s6,-aH,-bI,wrap64 (n:=(d:Int)) (by omega) (by omega)]
 refine aK ?_
 refine aj (.inl rfl) ?_
 simp [gj,wrap64 (n:=(d:Int)+1+1) (by omega) (by omega)]
 exact ih (m-1) _ (by omega) ⟨d+1,_,H6,swp l (d+1) d,rfl,by omega,by omega,by simp [g0],by simp [g1],by simp [g2],by simp [g3],by simp [g9],by simp [gc],by simp,(hfr.trans (Fm.push _ _)).trans f6,r6,
  hseg.trans (iL (by omega) (by omega) (by omega) (by omega) (by omega))⟩
theorem aw0{H:Heap}{rows:List (List FC)}{n a e b ep:Nat}(hT:tab σ.pins=some (GH σ sz))(hcv:Cv tab cv W c)(hc:Cmp W c)(hn:rows.length=n)(hl:n≤1000000000)(hrb:RB H b sz ep rows)(hg:Grid sz rows)(hW:∀ r ∈ rows,W r)(hae:a<e)(hen:e≤n)(hlow:Low c a e rows) :
  ∃ r H',Ev tab (.fn σ.pins) [.c (.sl b 0 n 0 ep sz),vi a,vi e,cv] H r H'∧((∃ w:Bool,r=vb w∧Fm b H H'∧∃ l',RB H' b sz ep l'∧Seg a e rows l'∧(w=true→Up c a e l'))):=by
 refine iT hT rfl fun Q hQ=>?_
 refine ak (aj (.inl rfl) ?_)
 simp
 refine ak (aj (.inl rfl) ?_)
 simp [wrap64 (n:=(a:Int)+1) (by omega) (by omega)]
 refine ak ?_
 refine ak (aj (.inl rfl) ?_)
 simp
 refine aN ?_
 refine bK (fun m s=>∃(i g:Nat) (t:T) (H1:Heap) (l:List (List FC)),s=⟨t,[],H1⟩∧g+m=5∧a<i∧i≤e∧t.g 0=.c (.sl b 0 n 0 ep sz)∧t.g 1=vi a∧t.g 2=vi e∧t.g 3=cv∧t.g 9=vi i∧t.g 10=vi g ∧
   Fm b H H1∧RB H1 b sz ep l∧Seg a e rows l∧Up c a i l) 5
  ⟨a+1,0,_,H,rows,rfl,rfl,by omega,by omega,by simp,by simp,by simp,by simp,by simp,by simp,Fm.refl H,hrb,Seg.refl _ _ _,Up.one (by omega)⟩ ?_
 rintro m s ⟨i,g,t,H1,l,rfl,hm,hai,hie,g0,g1,g2,g3,g9,gc,hfr,hrb,hseg,hup⟩ ih
 refine ak ?_
 refine ak (aj (.inl rfl) ?_)
 simp [gc]
 by_cases h5:g<5
 case neg=>
  have h5':¬ ((g:Int)<5):=by omega
  refine ay (by simp [h5']) ?_
  refine bf (k':=[.code (Ad σ sz)]) rfl ?_
  refine ak (aj (.inl rfl) ?_)
  simp
  exact aP (hQ _ _ (vb false) rfl (by simp [Km.results,bC]) ⟨false,rfl,hfr,l,hrb,hseg,fun h=>nomatch h⟩)
 have h5':(g:Int)<5:=by omega
 refine aB (by simp [h5']) (aG ?_)
 refine ak ?_
 refine aN ?_
 refine ak ?_
 have hlen:=hseg.len
 have grid:∀ {l},Seg a e rows l→Grid sz l:=fun h=>h.grid hg
 have wall:∀ {l},Seg a e rows l→∀ r ∈ l,W r:=fun h r hr=>hW r (h.1.mem_iff.1 hr)
 refine Us hcv hc (hlen.trans hn) hl (grid hseg) (wall hseg) (H0:=H) hai hie hen hup (by simp [g0]) (by simp [g1]) (by simp [g2]) (by simp [g3]) (by simp [g9]) (by simp [gc];rfl) hfr hrb ?_
 intro t H2 i' hi hup hstop g0 g1 g2 g3 g9 gc hfr hrb
 refine ak ?_
 refine ak (aj (.inl rfl) ?_)
 simp [g9,g2]
 by_cases aOe:i'=e
 ·subst aOe
  refine aB (by simp) ?_
  refine ak (aj (.inl rfl) ?_)
  simp
  exact aP (hQ _ _ (vb true) rfl (by simp [Km.results,bC]) ⟨true,rfl,hfr,l,hrb,hseg,fun _=>hup⟩)
 refine ay (by simp [aOe]) (aG ?_)
 refine ak ?_
 refine ak (aj (.inl rfl) ?_)
 simp [g1,g2,wrap64 (n:=(e:Int)-a) (by omega) (by omega)]
 by_cases h50:(e:Int)-a<50
 ·refine aB (by simp;omega) ?_
  refine ak (aj (.inl rfl) ?_)
  simp
  exact aP (hQ _ _ (vb false) rfl (by simp [Km.results,bC]) ⟨false,rfl,hfr,l,hrb,hseg,fun h=>nomatch h⟩)
 refine ay (by simp;omega) (aG ?_)
 obtain⟨d,rfl⟩:∃ d,i'=d+1:=⟨i'-1,by omega⟩
 have c1:((d+1:Nat):Int)=(d:Int)+1:=by omega
 obtain⟨x5,y5,H5,H6,hx5,hy5,i5,j5,l5,l6,w5,w6,s5,j6,s6,r6,f6⟩:=hrb.swp (grid hseg) (hlen.trans hn) (i:=d+1) (j:=d) (by omega) (by omega)
 have aVY:c x5 y5<0:=by
  rcases hstop with h | h
  ·omega
  ·exact h x5 y5 hx5 (by simpa using hy5)
 have sg1:Seg a e rows (swp l (d+1) d):=hseg.trans (iL (by omega) (by omega) (by omega) (by omega) (by omega))
 rw [c1]at i5 g9
 refine ak (aj (.inl rfl) ?_)
 simp [g0,g9,i5,j5,l5,l6,w5,w6,s5,j6,s6,-aH,-bI,wrap64 (n:=(d:Int)) (by omega) (by omega)]
 have fin:∀(t:T) (H3:Heap) (l3:List (List FC)),t.g 0=.c (.sl b 0 n 0 ep sz)→t.g 1=vi a→t.g 2=vi e→t.g 3=cv→t.g 9=vi (d+1:Nat)→t.g 10=vi g→Fm b H H3→RB H3 b sz ep l3→Seg a e rows l3→Up c a (d+1) l3 →
   WP tab σ.pins none [.inBlock 1,.code (GI σ sz),.inLoop (Nb σ sz),.inBlock 0,.code (Ad σ sz)] ⟨t,[],H3⟩ Q:=by
  intro t H3 l3 g0 g1 g2 g3 g9 gc hfr hrb hseg hup
  refine aK (aj (.inl rfl) ?_)
  simp [gc,wrap64 (n:=(g:Int)+1) (by omega) (by omega)]
  exact ih (m-1) _ (by omega) ⟨d+1,g+1,_,H3,l3,rfl,by omega,by omega,by omega,by simp [g0],by simp [g1],by simp [g2],by simp [g3],by simp [g9],by simp,hfr,hrb,hseg,hup⟩
 have right:∀(t:T) (H3:Heap) (l3:List (List FC)),t.g 0=.c (.sl b 0 n 0 ep sz)→t.g 1=vi a→t.g 2=vi e→t.g 3=cv→t.g 9=vi (d+1:Nat)→t.g 10=vi g→Fm b H H3→RB H3 b sz ep l3→Seg a e rows l3→Up c a (d+1) l3 →
   WP tab σ.pins none [.code (RN σ sz),.inBlock 1,.code (GI σ sz),.inLoop (Nb σ sz),.inBlock 0,.code (Ad σ sz)] ⟨t,[],H3⟩ Q:=by
  intro t H3 l3 g0 g1 g2 g3 g9 gc hfr hrb hseg hup
  have hlen:=hseg.len
  rw [c1]at g9
  refine ak ?_
  refine aj (.inl rfl) ?_
  simp [g9,g2,wrap64 (n:=(e:Int)-((d:Int)+1)) (by omega) (by omega)]
  by_cases h2:(2:Int)≤(e:Int)-((d:Int)+1)
  case neg=>
   refine ay (by simp;omega) (aG ?_)
   exact fin _ H3 l3 (by simp [g0]) (by simp [g1]) (by simp [g2]) (by simp [g3]) (by simp [g9]) (by simp [gc]) hfr hrb hseg hup
  refine aB (by simp;omega) ?_
  refine ak (aj (.inl rfl) ?_)
  simp [g9,wrap64 (n:=(d:Int)+1+1) (by omega) (by omega)]
  refine Na hcv (hlen.trans hn) hl (grid hseg) (wall hseg) (H0:=H) (a:=a) (i:=d+1) (e:=e) (g10:=vi g) (by omega) hen (by simp [g0]) (by simp [g1]) (by simp [g2]) (by simp [g3]) (by simp [g9]) (by simp [gc]) (by simp) hfr hrb ?_
  intro t H4 l4 sg4 g0 g1 g2 g3 g9 gc hfr hrb
  exact fin t H4 l4 g0 g1 g2 g3 g9 gc hfr hrb (hseg.trans (sg4.mono (by omega) (aw _))) (hup.of fun k _ hk=>sg4.lt hk)
 refine ak ?_
 refine ak (aj (.inl rfl) ?_)
 simp [g9,g1,wrap64 (n:=(d:Int)+1-a) (by omega) (by omega)]
 by_cases h2:(2:Int)≤(d:Int)+1-a
 case neg=>
  refine ay (by simp;omega) (aG ?_)
  exact right _ H6 _ (by simp [g0]) (by simp [g1]) (by simp [g2]) (by simp [g3]) (by simp [g9]) (by simp [gc]) (hfr.trans f6) r6 sg1 (Up.one (by omega))
 refine aB (by simp;omega) ?_
 refine ak (aj (.inl rfl) ?_)
 simp [g9,wrap64 (n:=(d:Int)) (by omega) (by omega)]
 have hl1:=sg1.len
 refine Ut hcv hc (hl1.trans hn) hl (grid sg1) (wall sg1) (H0:=H) (a:=a) (i:=d) (j:=d) (e:=e) (g10:=vi g) (by omega) rfl (by omega) hen (hlow.seg sg1 (aw _) (aw _) (by omega) (by omega)) ?_ (by simp [g0]) (by simp [g1]) (by simp [g2]) (by simp [g3]) (by simp [g9]) (by simp [gc]) (by simp) (hfr.trans f6) r6 ?_
 ·intro p q h1 h2 h3 h4
  have g:∀ k,k<d→(swp l (d+1) d)[k]?=l[k]?:=fun k hk=>by rw [swp_get (by omega) (by omega),if_neg (by omega),if_neg (by omega)]
  exact LeI.get (fun x y=>hup p q x y h1 h2 (by omega)) (g p (by omega)) (g q (by omega))
 intro t H4 l4 sg4 up4 g0 g1 g2 g3 g9 gc hfr hrb
 exact right t H4 l4 g0 g1 g2 g3 g9 gc hfr hrb (sg1.trans sg4) up4
end
end Km
end
section
namespace Km
open Go
def Kid(i ch:Nat):Prop:=ch=2*i+1∨ch=2*i+2
def Hp(c:List FC→List FC→Int)(f h k:Nat)(l:List (List FC)):Prop:=∀ i ch,k≤i→Kid i ch→ch<h→LeI c l (f+ch) (f+i)
def HpX(c:List FC→List FC→Int)(f h k r:Nat)(l:List (List FC)):Prop:=
 (∀ i ch,k≤i→i≠r→Kid i ch→ch<h→LeI c l (f+ch) (f+i))∧∀ i ch,k≤i→Kid i r→Kid r ch→ch<h→LeI c l (f+ch) (f+i)
section
variable{W:List FC→Prop}{c:List FC→List FC→Int}{l:List (List FC)}
theorem Hp.x{f h k:Nat}(h1:Hp c f h (k+1) l):HpX c f h k k l:=
 ⟨fun i ch a b d e=>h1 i ch (by omega) d e,fun i ch a b d e=>by unfold Kid at b;omega⟩
theorem HpX.leaf{f h k r:Nat}(hx:HpX c f h k r l)(hr:h≤2*r+1):Hp c f h k l:=fun i ch a b d=>by
 by_cases e:i=r
 ·subst e;unfold Kid at b;omega
 ·exact hx.1 i ch a e b d
theorem HpX.stop{f h k r ch:Nat}(hc:Cmp W c)(hW:∀ r ∈ l,W r)(hx:HpX c f h k r l)(hl:f+h≤l.length)(hk:Kid r ch)(hlt:ch<h)(hmax:∀ q,Kid r q→q<h→LeI c l (f+q) (f+ch))(hle:LeI c l (f+ch) (f+r)):Hp c f h k l:=fun i q a b d=>by
 by_cases e:i=r
 ·subst e;exact(hmax q b d).trans hc hW hle (by omega)
 ·exact hx.1 i q a e b d
theorem HpX.step{f h k r ch:Nat}(hc:Cmp W c)(hW:∀ r ∈ l,W r)(hx:HpX c f h k r l)(hl:f+h≤l.length)(hkr:k≤r)(hk:Kid r ch)(hlt:ch<h)(hmax:∀ q,Kid r q→q<h→LeI c l (f+q) (f+ch)){x y:List FC}(hxr:l[f+r]?=some x)(hyc:l[f+ch]?=some y)(hxy:c x y<0) :
  HpX c f h k ch (swp l (f+r) (f+ch)):=by
 have hrc:r<ch:=by unfold Kid at hk;omega
 have g:∀ q,(swp l (f+r) (f+ch))[f+q]?=if q=ch then l[f+r]? else if q=r then l[f+ch]? else l[f+q]?:=fun q=>by
  rw [swp_get (by omega) (by omega)]
  by_cases e1:q=ch
  ·subst e1;simp
  rw [if_neg (by omega),if_neg e1]
  by_cases e2:q=r
  ·subst e2;simp
  rw [if_neg (by omega),if_neg e2]
 refine⟨fun i q hi hne hq hqh=>?_,fun i q hi h1 h2 hqh=>?_⟩
 ·by_cases e:i=r
  ·subst e
   by_cases e2:q=ch
   ·subst e2
    exact(LeI.of_lt hc hW hxr hyc hxy).get (by rw [g,if_pos rfl]) (by rw [g,if_neg (by omega),if_pos rfl])
   ·exact(hmax q hq hqh).get (by rw [g,if_neg e2,if_neg (by unfold Kid at hq;omega)]) (by rw [g,if_neg (by omega),if_pos rfl])
  ·by_cases e2:q=r
   ·subst e2
    exact(hx.2 i ch hi hq hk hlt).get (by rw [g,if_neg (by omega),if_pos rfl]) (by rw [g,if_neg hne,if_neg e])
   ·have e3:q≠ch:=by unfold Kid at hq hk;omega
    exact(hx.1 i q hi e hq hqh).get (by rw [g,if_neg e3,if_neg e2]) (by rw [g,if_neg hne,if_neg e])
 ·have e:i=r:=by unfold Kid at h1 hk;omega
  subst e
  have e3:q≠ch∧q≠i:=by unfold Kid at h2;omega
  exact(hx.1 ch q (by omega) (by omega) h2 hqh).get (by rw [g,if_neg e3.1,if_neg e3.2]) (by rw [g,if_neg (by omega),if_pos rfl])
theorem LeI.self{i:Nat}(hc:Cmp W c)(hW:∀ r ∈ l,W r):LeI c l i i:=fun x y hx hy=>by
 rw [hx]at hy;cases hy
 have:=aD hx
 intro q
 exact hc.asym (hW _ this) (hW _ this) q q
theorem Hp.top{f h:Nat}(hc:Cmp W c)(hW:∀ r ∈ l,W r)(hp:Hp c f h 0 l)(hl:f+h≤l.length):∀ k,k<h→LeI c l (f+k) f:=by
 intro k
 induction k using Nat.strongRecOn with
 | ind k ih=>
  intro hk
  rcases cL k with rfl | h0
  ·exact LeI.self hc hW
  ·have h1:=hp ((k-1) / 2) k (by omega) (by unfold Kid;omega) hk
   exact h1.trans hc hW (ih ((k-1) / 2) (by omega) (by omega)) (by omega)
def Done(c:List FC→List FC→Int)(f h j:Nat)(l:List (List FC)):Prop:=∀ p q,p<q→j≤q→q<h→LeI c l (f+p) (f+q)
theorem Done.swap{f h i:Nat}(hc:Cmp W c)(hW:∀ r ∈ l,W r)(hd:Done c f h (i+1) l)(hp:Hp c f (i+1) 0 l)(hi:i<h)(hl:f+h≤l.length):Done c f h i (swp l f (f+i))∧HpX c f i 0 0 (swp l f (f+i)):=by
 have g:∀ q,(swp l f (f+i))[f+q]?=if q=i then l[f]? else if q=0 then l[f+i]? else l[f+q]?:=fun q=>by
  rw [swp_get (by omega) (by omega)]
  by_cases e1:q=i
  ·subst e1;simp
  rw [if_neg (by omega),if_neg e1]
  by_cases e2:q=0
  ·subst e2;simp
  rw [if_neg (by omega),if_neg e2]
 refine⟨fun p q hpq hq hqh=>?_,fun x ch _ hx hk hch=>?_,fun x ch _ h1=>by unfold Kid at h1;omega⟩
 ·have top:=hp.top hc hW (by omega)
  by_cases e:q=i
  ·subst e
   by_cases e2:p=0
   ·subst e2
    exact(top q (by omega)).get (by rw [g,if_neg (by omega),if_pos rfl]) (by rw [g,if_pos rfl])
   ·exact(top p (by omega)).get (by rw [g,if_neg (by omega),if_neg e2]) (by rw [g,if_pos rfl])
  ·have gq:(swp l f (f+i))[f+q]?=l[f+q]?:=by rw [g,if_neg e,if_neg (by omega)]
   by_cases e1:p=i
   ·subst e1
    exact(hd 0 q (by omega) (by omega) hqh).get (by rw [g,if_pos rfl,Nat.add_zero]) gq
   by_cases e2:p=0
   ·subst e2
    exact(hd i q (by omega) (by omega) hqh).get (by rw [g,if_neg e1,if_pos rfl]) gq
   ·exact(hd p q hpq (by omega) hqh).get (by rw [g,if_neg e1,if_neg e2]) gq
 ·have h1:x<ch:=by unfold Kid at hk;omega
  have h2:ch≠0:=by omega
  exact(hp x ch (by omega) hk (by omega)).get (by rw [g,if_neg (by omega),if_neg h2]) (by rw [g,if_neg (by omega),if_neg hx])
theorem Done.seg{f h i:Nat}{l':List (List FC)}(hd:Done c f h i l)(hs:Seg f (f+i) l l')(hl:f+h≤l.length)(hi:i≤h):Done c f h i l':=by
 intro p q hpq hq hqh x y hx hy
 rw [hs.ge (by omega)]at hy
 by_cases c2:i≤p
 ·rw [hs.ge (by omega)]at hx
  exact hd p q hpq hq hqh x y hx hy
 obtain⟨j,j1,j2,hj⟩:=hs.mem (by omega) (by omega) (by omega) (by omega) hx
 have:=hd (j-f) q (by omega) hq hqh x y
 rw [show f+(j-f)=j by omega]at this
 exact this hj hy
theorem Done.up{f h:Nat}(hd:Done c f h 0 l):Up c f (f+h) l:=fun i j x y h1 h2 h3 hx hy=>by
 have:=hd (i-f) (j-f) (by omega) (by omega) (by omega) x y
 rw [show f+(i-f)=i by omega,show f+(j-f)=j by omega]at this
 exact this hx hy
end
end Km
end
section
namespace Km
open Go
section
variable{tab:Nat→Option AFunc}{σ:Srt}{sz:Nat}{H:Heap}{b ep:Nat}{rows:List (List FC)}{cv:V}{W:List FC→Prop}{c:List FC→List FC→Int}
theorem Ro(hT:tab σ.sift=some (AZ σ sz))(hcv:Cv tab cv W c)(hc:Cmp W c){n lo h f:Nat}(hn:rows.length=n)(hl:n≤1000000000)(hrb:RB H b sz ep rows)(hg:Grid sz rows)(hW:∀ r ∈ rows,W r)(hlo:lo≤h)(hfh:f+h≤n)(hx:HpX c f h lo lo rows) :
  ∃ r H',Ev tab (.fn σ.sift) [.c (.sl b 0 n 0 ep sz),vi lo,vi h,vi f,cv] H r H'∧(r=.t []∧Fm b H H'∧∃ l',RB H' b sz ep l'∧Seg f (f+h) rows l'∧Hp c f h lo l'):=by
 refine iT hT rfl fun Q hQ=>?_
 refine ak (aj (.inl rfl) ?_)
 simp
 refine aN ?_
 refine bK (fun m s=>∃(r:Nat) (t:T) (H1:Heap) (l:List (List FC)),s=⟨t,[],H1⟩∧m=h-r∧lo≤r∧r≤h∧t.g 0=.c (.sl b 0 n 0 ep sz)∧t.g 2=vi h∧t.g 3=vi f∧t.g 4=cv∧t.g 10=vi r ∧
  Fm b H H1∧RB H1 b sz ep l∧Seg f (f+h) rows l∧HpX c f h lo r l) _
  ⟨lo,_,H,rows,rfl,rfl,by omega,hlo,by simp,by simp,by simp,by simp,by simp,Fm.refl H,hrb,Seg.refl _ _ _,hx⟩ ?_
 rintro m s ⟨r,t,H1,l,rfl,rfl,hlr,hrh,g0,g2,g3,g4,g10,hfr,hrb,hseg,hx⟩ ih
 have hlen:=hseg.len
 have hg2:=hseg.grid hg
 have hW2:∀ r ∈ l,W r:=fun r hr=>hW r (hseg.1.mem_iff.1 hr)
 have cf:∀ q:Nat,((f+q:Nat):Int)=(f:Int)+q:=fun q=>by omega
 refine aN ?_
 refine ak (aj (.inl rfl) ?_)
 simp [g10,wrap64 (n:=(2:Int)*r) (by omega) (by omega),wrap64 (n:=(2:Int)*r+1) (by omega) (by omega)]
 refine ak ?_
 refine ak (aj (.inl rfl) ?_)
 simp [g2]
 by_cases aOb:h≤2*r+1
 ·refine aB (by simp;omega) ?_
  refine bf (k':=[]) rfl ?_
  exact pW (hQ _ _ _ rfl rfl ⟨rfl,hfr,l,hrb,hseg,hx.leaf aOb⟩)
 refine ay (by simp;omega) (aG ?_)
 refine ak ?_
 have go:∀(t:T) (H2:Heap) (ch:Nat),Kid r ch→ch<h→(∀ q,Kid r q→q<h→LeI c l (f+q) (f+ch))→t.g 0=.c (.sl b 0 n 0 ep sz)→t.g 2=vi h→t.g 3=vi f→t.g 4=cv→t.g 10=vi r→t.g 11=vi ch→Fm b H H2→RB H2 b sz ep l →
   WP tab σ.sift none [.code (Rq σ sz),.inBlock 1,.inLoop (aiZ σ sz),.inBlock 0] ⟨t,[],H2⟩ Q:=by
  intro t H2 ch hk hch hmax g0 g2 g3 g4 g10 g11 hfr hrb
  obtain⟨x,y,F,ar,J,hxr,hyc,i1,j1,l1,l2,fK,he,-,-⟩:=hrb.ask hg2 hcv hW2 (hlen.trans hn) (i:=f+r) (j:=f+ch) (by omega) (by omega)
  rw [cf]at i1 j1
  refine ak ?_
  refine ak (aj (.inl rfl) ?_)
  simp [g0,g3,g4,g10,g11,i1,j1,l1,l2,fK,he,-aH,wrap64 (n:=(f:Int)+r) (by omega) (by omega),wrap64 (n:=(f:Int)+ch) (by omega) (by omega)]
  by_cases hlt:c x y<0
  case neg=>
   refine aB (by simp [hlt]) ?_
   exact aP (hQ _ _ _ rfl rfl ⟨rfl,hfr.trans (Fm.push _ _),l,hrb.push _,hseg,hx.stop hc hW2 (by omega) hk hch hmax (LeI.of_le hyc hxr hlt)⟩)
  refine ay (by simp [hlt]) (aG ?_)
  obtain⟨x5,y5,H5,H6,-,-,i5,j5,l5,l6,w5,w6,s5,j6,s6,r6,f6⟩:=(hrb.push J).swp hg2 (hlen.trans hn) (i:=f+r) (j:=f+ch) (by omega) (by omega)
  rw [cf]at i5 j5 j6
  refine ak (aj (.inl rfl) ?_)
  simp [g0,g3,g10,g11,i5,j5,l5,l6,w5,w6,s5,j6,s6,-aH,-bI,wrap64 (n:=(f:Int)+r) (by omega) (by omega),wrap64 (n:=(f:Int)+ch) (by omega) (by omega)]
  refine aj (.inl rfl) ?_
  simp [g11]
  refine aK ?_
  have hrc:r<ch:=by unfold Kid at hk;omega
  exact ih _ _ (by omega) ⟨ch,_,H6,_,rfl,rfl,by omega,by omega,by simp [g0],by simp [g2],by simp [g3],by simp [g4],by simp,(hfr.trans (Fm.push _ _)).trans f6,r6,
   hseg.trans (iL (by omega) (by omega) (by omega) (by omega) (by omega)),hx.step hc hW2 (by omega) hlr hk hch hmax hxr hyc hlt⟩
 refine ak ?_
 refine aj (.inl rfl) ?_
 by_cases h2:2*r+2<h
 case neg=>
  have h2':¬ ((2:Int)*r+1+1<h):=by omega
  simp [g2,h2',wrap64 (n:=(2:Int)*r+1+1) (by omega) (by omega)]
  refine ay (by simp) (aG ?_)
  refine go _ H1 (2*r+1) (.inl rfl) (by omega) (fun q hq hqh=>?_) (by simp [g0]) (by simp [g2]) (by simp [g3]) (by simp [g4]) (by simp [g10]) (by simp) hfr hrb
  have:q=2*r+1:=by unfold Kid at hq;omega
  subst this
  exact LeI.self hc hW2
 have h2':((2:Int)*r+1+1<h):=by omega
 obtain⟨x,y,F,ar,J,hxr,hyc,i1,j1,l1,l2,fK,he,-,-⟩:=hrb.ask hg2 hcv hW2 (hlen.trans hn) (i:=f+(2*r+1)) (j:=f+(2*r+2)) (by omega) (by omega)
 have e1:((f+(2*r+1):Nat):Int)=(f:Int)+(2*r+1):=by omega
 have e2:((f+(2*r+2):Nat):Int)=(f:Int)+(2*r+1)+1:=by omega
 rw [e1]at i1
 rw [e2]at j1
 simp [g0,g2,g3,g4,h2',i1,j1,l1,l2,fK,he,-aH,wrap64 (n:=(2:Int)*r+1+1) (by omega) (by omega),wrap64 (n:=(f:Int)+(2*r+1)) (by omega) (by omega),wrap64 (n:=(f:Int)+(2*r+1)+1) (by omega) (by omega)]
 by_cases hlt:c x y<0
 ·refine aB (by simp [hlt]) ?_
  refine aj (.inl rfl) ?_
  simp [wrap64 (n:=(2:Int)*r+1+1) (by omega) (by omega)]
  refine go _ _ (2*r+2) (.inr rfl) (by omega) (fun q hq hqh=>?_) (by simp [g0]) (by simp [g2]) (by simp [g3]) (by simp [g4]) (by simp [g10]) (by simp;omega) (hfr.trans (Fm.push _ _)) (hrb.push _)
  rcases hq with rfl | rfl
  ·exact LeI.of_lt hc hW2 hxr hyc hlt
  ·exact LeI.self hc hW2
 ·refine ay (by simp [hlt]) (aG ?_)
  refine go _ _ (2*r+1) (.inl rfl) (by omega) (fun q hq hqh=>?_) (by simp [g0]) (by simp [g2]) (by simp [g3]) (by simp [g4]) (by simp [g10]) (by simp) (hfr.trans (Fm.push _ _)) (hrb.push _)
  rcases hq with rfl | rfl
  ·exact LeI.self hc hW2
  ·exact LeI.of_le hyc hxr hlt
theorem az1(hT:tab σ.heap=some (Hr σ sz))(hS:tab σ.sift=some (AZ σ sz))(hcv:Cv tab cv W c)(hc:Cmp W c){n a e:Nat}(hn:rows.length=n)(hl:n≤1000000000)(hrb:RB H b sz ep rows)(hg:Grid sz rows)(hW:∀ r ∈ rows,W r)(hae:a<e)(hen:e≤n) :
  ∃ r H',Ev tab (.fn σ.heap) [.c (.sl b 0 n 0 ep sz),vi a,vi e,cv] H r H'∧(r=.t []∧Fm b H H'∧∃ l',RB H' b sz ep l'∧Seg a e rows l'∧Up c a e l'):=by
 obtain⟨h,rfl⟩:∃ h,e=a+h:=⟨e-a,by omega⟩
 have hw:IntKind.i64.wrap ((a:Int)+h-a)=h:=by rw [wrap64 (by omega) (by omega)];omega
 have hq:bU .quo (vi ((h:Int)-1)) (vi 2)=some (vi (((h-1) / 2:Nat):Int)):=by
  have:=awZ (a:=h-1) (b:=2) (by omega) (by omega)
  rwa [show((h-1:Nat):Int)=(h:Int)-1 by omega]at this
 refine iT hT rfl fun Q hQ=>?_
 refine ak (aj (.inl rfl) ?_)
 simp
 refine ak (aj (.inl rfl) ?_)
 simp
 refine ak (aj (.inl rfl) ?_)
 simp [hw]
 have grid:∀ {l},Seg a (a+h) rows l→Grid sz l:=fun h=>h.grid hg
 have wall:∀ {l},Seg a (a+h) rows l→∀ r ∈ l,W r:=fun h r hr=>hW r (h.1.mem_iff.1 hr)
 refine ak ?_
 refine ak (aj (.inl rfl) ?_)
 simp [hq,wrap64 (n:=(h:Int)-1) (by omega) (by omega)]
 refine aN ?_
 refine bK (fun m s=>∃(t:T) (H1:Heap) (l:List (List FC)),s=⟨t,[],H1⟩∧m≤h∧t.g 0=.c (.sl b 0 n 0 ep sz)∧t.g 3=cv∧t.g 8=vi a∧t.g 9=vi 0∧t.g 10=vi h∧t.g 11=vi ((m:Int)-1) ∧
  Fm b H H1∧RB H1 b sz ep l∧Seg a (a+h) rows l∧Hp c a h m l) ((h-1) / 2+1)
  ⟨_,H,rows,rfl,by omega,by simp,by simp,by simp,by simp,by simp,by simp,Fm.refl H,hrb,Seg.refl _ _ _,fun i ch h1 h2 h3=>by unfold Kid at h2;omega⟩ ?_
 rintro m s ⟨t,H1,l,rfl,hmh,g0,g3,g8,g9,g10,g11,hfr,hrb,hseg,hp⟩ ih
 have hlen:=hseg.len
 refine ak ?_
 refine ak (aj (.inl rfl) ?_)
 simp [g11]
 rcases cL m with rfl | hm0
 case inr=>
  obtain⟨d,rfl⟩:∃ d,m=d+1:=⟨m-1,by omega⟩
  have cd:((d+1:Nat):Int)-1=d:=by omega
  rw [cd]at g11
  refine aB (by simp;omega) (aG ?_)
  obtain⟨r,H2,he,rfl,f2,l2,r2,s2,p2⟩:=Ro hS hcv hc (hlen.trans hn) hl hrb (grid hseg) (wall hseg) (lo:=d) (h:=h) (f:=a) (by omega) hen hp.x
  refine ak ?_
  refine aN (aj (.inl rfl) ?_)
  simp [g0,g3,g8,g10,g11,he.eq]
  refine aK (aj (.inl rfl) ?_)
  simp [g11,wrap64 (n:=(d:Int)-1) (by omega) (by omega)]
  exact ih d _ (by omega) ⟨_,H2,l2,rfl,by omega,by simp [g0],by simp [g3],by simp [g8],by simp [g9],by simp [g10],by simp,hfr.trans f2,r2,hseg.trans s2,p2⟩
 refine ay (by simp) ?_
 refine bf (k':=[.code (Tc σ sz)]) rfl ?_
 refine ak (aj (.inl rfl) ?_)
 simp [g10,wrap64 (n:=(h:Int)-1) (by omega) (by omega)]
 refine aN ?_
 refine bK (fun m s=>∃(t:T) (H1:Heap) (l:List (List FC)),s=⟨t,[],H1⟩∧m≤h∧t.g 0=.c (.sl b 0 n 0 ep sz)∧t.g 3=cv∧t.g 8=vi a∧t.g 9=vi 0∧t.g 12=vi ((m:Int)-1) ∧
  Fm b H H1∧RB H1 b sz ep l∧Seg a (a+h) rows l∧Hp c a m 0 l∧Done c a h m l) h
  ⟨_,H1,l,rfl,by omega,by simp [g0],by simp [g3],by simp [g8],by simp [g9],by simp,hfr,hrb,hseg,hp,fun p q h1 h2 h3=>by omega⟩ ?_
 rintro m s ⟨t,H1,l,rfl,hmh,g0,g3,g8,g9,g12,hfr,hrb,hseg,hp,hd⟩ ih
 have hlen:=hseg.len
 refine ak ?_
 refine ak (aj (.inl rfl) ?_)
 simp [g12]
 rcases cL m with rfl | hm0
 ·refine ay (by simp) ?_
  refine bf (k':=[]) rfl ?_
  exact pW (hQ _ _ _ rfl rfl ⟨rfl,hfr,l,hrb,hseg,hd.up⟩)
 obtain⟨d,rfl⟩:∃ d,m=d+1:=⟨m-1,by omega⟩
 have cd:((d+1:Nat):Int)-1=d:=by omega
 rw [cd]at g12
 refine aB (by simp;omega) (aG ?_)
 obtain⟨x5,y5,H5,H6,-,-,i5,j5,l5,l6,w5,w6,s5,j6,s6,r6,f6⟩:=hrb.swp (grid hseg) (hlen.trans hn) (i:=a) (j:=a+d) (by omega) (by omega)
 have ce:((a+d:Nat):Int)=(a:Int)+d:=by omega
 rw [ce]at j5 j6
 obtain⟨hd2,hx2⟩:=hd.swap hc (wall hseg) hp (by omega) (by omega)
 have sg1:Seg a (a+h) rows (swp l a (a+d)):=hseg.trans (iL (by omega) (by omega) (by omega) (by omega) (by omega))
 obtain⟨r,H2,he,rfl,f2,l2,r2,s2,p2⟩:=Ro hS hcv hc (sg1.len.trans hn) hl r6 (grid sg1) (wall sg1) (lo:=0) (h:=d) (f:=a) (by omega) (by omega) hx2
 have he:=he.eq
 simp at he
 refine ak ?_
 refine aN ?_
 refine ak (aj (.inl rfl) ?_)
 simp [g0,g8,g12,i5,j5,l5,l6,w5,w6,s5,j6,s6,-aH,-bI,wrap64 (n:=(a:Int)+d) (by omega) (by omega)]
 refine aj (.inl rfl) ?_
 simp [g0,g3,g8,g9,g12,he]
 refine aK (aj (.inl rfl) ?_)
 simp [g12,wrap64 (n:=(d:Int)-1) (by omega) (by omega)]
 exact ih d _ (by omega) ⟨_,H2,l2,rfl,by omega,by simp [g0],by simp [g3],by simp [g8],by simp [g9],by simp,(hfr.trans f6).trans f2,r2,sg1.trans (s2.mono (aw _) (by omega)),p2,
  hd2.seg s2 (by rw [sg1.len];omega) (by omega)⟩
end
end Km
end
section
namespace Km
open Go
abbrev vu(n:Int):V:=.c (.f (.int .u64 n))
def NU(H:Heap)(p:Nat):Prop:=∃ k:Int,H[p]?=some (.box [.f (.int .u64 k)] 0)
theorem aLT{a b:Int}(hb:0≤b):bU .shl (vu a) (vu b)=some (vu (IntKind.wrap .u64 (a*2 ^ (min b.toNat 64)))):=by
 simp only [bU,if_neg (show¬ b<0 by omega)];rfl
theorem aLS{a b:Int}(hb:0≤b):bU .shr (vu a) (vu b)=some (vu (a.fdiv (2 ^ (min b.toNat 64)))):=by
 simp only [bU,if_neg (show¬ b<0 by omega)];rfl
theorem aLF{a b:Int}:bU .xor (vu a) (vu b)=some (vu (IntKind.wrap .u64 (BitVec.ofInt 64 a ^^^ BitVec.ofInt 64 b).toNat)):=by
 simp only [bU,nK,if_true];rfl
theorem DY(n:Int):IntKind.wrap .u64 n=n % 18446744073709551616:=rfl
theorem alc{x:Int}{k:Nat}(hk:k≤62):∃ o:Nat,o<2 ^ k∧bU .and (vu x) (vu ((2:Int) ^ k-1))=some (vu o):=by
 have h2:(2:Nat) ^ k≤2 ^ 62:=ee (by omega) hk
 have h2':(2:Nat) ^ 62=4611686018427387904:=by decide
 have hpos:0<(2:Nat) ^ k:=Nat.pow_pos (by omega)
 have e:BitVec.ofInt 64 ((2:Int) ^ k-1)=BitVec.ofNat 64 (2 ^ k-1):=by
  have:((2:Int) ^ k-1)=((2 ^ k-1:Nat):Int):=by
   rw [Int.ofNat_sub hpos];simp
  rw [this,BitVec.ofInt_natCast]
 refine⟨(BitVec.ofInt 64 x).toNat % 2 ^ k,Nat.mod_lt _ hpos,?_⟩
 have e2:(BitVec.ofInt 64 x &&& BitVec.ofInt 64 ((2:Int) ^ k-1)).toNat=(BitVec.ofInt 64 x).toNat % 2 ^ k:=by
  rw [e,BitVec.toNat_and,BitVec.toNat_ofNat,Nat.mod_eq_of_lt (a:=2 ^ k-1) (by omega),Nat.and_two_pow_sub_one_eq_mod]
 have h3:(BitVec.ofInt 64 x).toNat % 2 ^ k<2 ^ k:=Nat.mod_lt _ hpos
 simp only [bU,nK,if_true]
 show some (vu (IntKind.wrap .u64 ((BitVec.ofInt 64 x &&& BitVec.ofInt 64 ((2:Int) ^ k-1)).toNat)))=_
 rw [e2,DY,Int.emod_eq_of_lt (by omega) (by omega)]
section
variable{tab:Nat→Option AFunc}{σ:Srt}{sz:Nat}{H:Heap}{b ep:Nat}{rows:List (List FC)}{cv:V}{W:List FC→Prop}{c:List FC→List FC→Int}
theorem NU.fm{p b:Nat}{H H':Heap}(h:NU H p)(hf:Fm b H H')(e:p≠b):NU H' p:=by
 obtain⟨k,h⟩:=h
 exact⟨k,hf.get h e⟩
theorem Fm.far{p b:Nat}{H H1 H2:Heap}(h:Fm b H H1)(hp:H.length≤p)(h':Fm p H1 H2):Fm b H H2:=
 ⟨bz h.1 h'.1,fun b' n l=>(h'.2 b' (by omega) (Nat.lt_of_lt_of_le l h.1)).trans (h.2 b' n l)⟩
theorem aDV(a:Int)(b:Int)(hb:0≤b):∃ v,bU .shl (.c (.f (.int .u64 a))) (.c (.f (.int .u64 b)))=some (.c (.f (.int .u64 v))):=⟨_,aLT hb⟩
theorem aLR(a:Int)(b:Int)(hb:0≤b):∃ v,bU .shr (.c (.f (.int .u64 a))) (.c (.f (.int .u64 b)))=some (.c (.f (.int .u64 v))):=⟨_,aLS hb⟩
theorem aiC(a b:Int):∃ v,bU .xor (.c (.f (.int .u64 a))) (.c (.f (.int .u64 b)))=some (.c (.f (.int .u64 v))):=⟨_,aLF⟩
theorem aH8(hT:tab σ.nxt=some (Sv σ sz)){p:Nat}(hp:NU H p) :
  ∃ r H',Ev tab (.fn σ.nxt) [.c (.ptr p 0 0)] H r H'∧((∃ k:Int,r=vu k)∧Fm p H H'∧NU H' p):=by
 obtain⟨k,hp⟩:=hp
 have hpl:=aF hp
 have put:∀(H:Heap) (k:Int),p<H.length→(H.set p (.box [.f (.int .u64 k)] 0))[p]?=some (.box [.f (.int .u64 k)] 0):=fun H k h=>ax h
 refine iT hT rfl fun Q hQ=>?_
 refine ak (aj (.inl rfl) ?_)
 simp
 obtain⟨a1,h1⟩:=aDV k 13 (by omega)
 obtain⟨a2,h2⟩:=aiC k a1
 refine ak (aj (.inl rfl) ?_)
 simp [hp,h1,h2]
 obtain⟨H1,hH1⟩:∃ H1,H1=H.set p (.box [.f (.int .u64 a2)] 0):=⟨_,rfl⟩
 rw [←hH1]
 have p1:H1[p]?=some (.box [.f (.int .u64 a2)] 0):=by rw [hH1];exact put _ _ hpl
 have f1:Fm p H H1:=by rw [hH1];exact Fm.set _ _
 obtain⟨a3,h3⟩:=aLR a2 7 (by omega)
 obtain⟨a4,h4⟩:=aiC a2 a3
 refine ak (aj (.inl rfl) ?_)
 simp [p1,h3,h4]
 obtain⟨H2,hH2⟩:∃ H2,H2=H1.set p (.box [.f (.int .u64 a4)] 0):=⟨_,rfl⟩
 rw [←hH2]
 have p2:H2[p]?=some (.box [.f (.int .u64 a4)] 0):=by rw [hH2];exact put _ _ (aF p1)
 have f2:Fm p H H2:=by rw [hH2];exact f1.trans (Fm.set _ _)
 obtain⟨a5,h5⟩:=aDV a4 17 (by omega)
 obtain⟨a6,h6⟩:=aiC a4 a5
 refine ak (aj (.inl rfl) ?_)
 simp [p2,h5,h6]
 obtain⟨H3,hH3⟩:∃ H3,H3=H2.set p (.box [.f (.int .u64 a6)] 0):=⟨_,rfl⟩
 rw [←hH3]
 have p3:H3[p]?=some (.box [.f (.int .u64 a6)] 0):=by rw [hH3];exact put _ _ (aF p2)
 have f3:Fm p H H3:=by rw [hH3];exact f2.trans (Fm.set _ _)
 refine ak (aj (.inl rfl) ?_)
 simp [p3]
 exact aP (hQ _ _ (vu a6) rfl (by simp [Km.results,bC]) ⟨⟨a6,rfl⟩,f3,a6,p3⟩)
theorem aH9(hT:tab σ.npt=some (Sz σ sz)){L k:Nat}(hLen:Km.Pure tab σ.len [vu L]=Eq (vi k))(hL:L≤1000000000)(hk:k≤62):Km.Pure tab σ.npt [vi L] (vu ((2:Int) ^ k)):=by
 refine cu hT rfl fun Q hQ=>?_
 refine ak (aj (.inl rfl) ?_)
 simp
 have hw:IntKind.wrap .u64 (L:Int)=L:=by rw [DY];omega
 have h2:(2:Nat) ^ k≤2 ^ 62:=ee (by omega) hk
 have h2':(2:Nat) ^ 62=4611686018427387904:=by decide
 have hs:bU .shl (.c (.f (.int .u64 1))) (.c (.f (.int .i64 (k:Int))))=some (vu ((2:Int) ^ k)):=by
  simp only [bU,if_neg (show¬ (k:Int)<0 by omega)]
  show some (vu (IntKind.wrap .u64 (1*2 ^ (min (k:Int).toNat 64))))=_
  have hp:((2:Int) ^ k)=((2 ^ k:Nat):Int):=by simp
  obtain⟨w,hw⟩:∃ w:Nat,w=2 ^ k:=⟨_,rfl⟩
  rw [←hw]at hp h2
  rw [Int.toNat_natCast,Nat.min_eq_left (by omega),Int.one_mul,DY,hp,Int.emod_eq_of_lt (by omega) (by omega)]
 refine ak (aj (.inl rfl) ?_)
 simp [hw,hLen,hs]
 exact aP (hQ _ _ ⟨rfl,_,by simp [Km.results,bC];rfl,by simp⟩)
theorem aJy(hT:tab σ.brk=some (TD σ sz))(hN:tab σ.nxt=some (Sv σ sz))(hP:tab σ.npt=some (Sz σ sz)){n a L k:Nat}(hLen:Km.Pure tab σ.len [vu L]=Eq (vi k))(hk:k≤62)(hk1:2 ^ k≤2*L)(hn:rows.length=n)(hl:n≤1000000000)(hrb:RB H b sz ep rows)(hg:Grid sz rows)(h8:8≤L)(hen:a+L≤n) :
  ∃ r H',Ev tab (.fn σ.brk) [.c (.sl b 0 n 0 ep sz),vi a,vi (a+L:Nat),cv] H r H'∧(r=.t []∧Fm b H H'∧∃ l',RB H' b sz ep l'∧Seg a (a+L) rows l'):=by
 have aS9:=(aH9 (σ:=σ) (sz:=sz) hP hLen (by omega) hk).eq
 obtain⟨d,hd⟩:∃ d,d=L / 4:=⟨_,rfl⟩
 have hq:bU .quo (vi (L:Int)) (vi 4)=some (vi (d:Int)):=by
  have:=awZ (a:=L) (b:=4) (by omega) (by omega)
  rw [hd];exact this
 have hw:IntKind.i64.wrap ((a:Int)+L-a)=L:=by rw [wrap64 (by omega) (by omega)];omega
 have hwu:IntKind.wrap .u64 (L:Int)=L:=by rw [DY];omega
 have h2:(2:Nat) ^ k≤2 ^ 62:=ee (by omega) hk
 have h2':(2:Nat) ^ 62=4611686018427387904:=by decide
 have hp0:0<(2:Nat) ^ k:=Nat.pow_pos (by omega)
 have hp:((2:Int) ^ k)=((2 ^ k:Nat):Int):=by simp
 have hwm:IntKind.wrap .u64 ((2:Int) ^ k-1)=(2:Int) ^ k-1:=by rw [DY,hp,Int.emod_eq_of_lt (by omega) (by omega)]
 refine iT hT rfl fun Q hQ=>?_
 refine ak (aj (.inl rfl) ?_)
 simp [hw]
 refine ak ?_
 refine aj (.inl rfl) ?_
 simp
 refine aB (by simp;omega) ?_
 have hbl:=hrb.lt
 refine ak (aj (.inl rfl) ?_)
 simp [hwu]
 obtain⟨H1,hH1⟩:∃ H1,H1=H++[.box [.f (.int .u64 (L:Int))] 0]:=⟨_,rfl⟩
 rw [←hH1]
 have p1:NU H1 H.length:=⟨L,by rw [hH1];simp⟩
 have f1:Fm b H H1:=by rw [hH1];exact Fm.push _ _
 have r1:RB H1 b sz ep rows:=by rw [hH1];exact hrb.push _
 refine ak (aj (.inl rfl) ?_)
 simp [aS9]
 refine ak (aj (.inl rfl) ?_)
 simp [hq,wrap64 (n:=(d:Int)*2) (by omega) (by omega),wrap64 (n:=(a:Int)+d*2) (by omega) (by omega),wrap64 (n:=(a:Int)+d*2-1) (by omega) (by omega)]
 refine aN ?_
 refine bK (fun m s=>∃(i:Nat) (t:T) (H1:Heap) (l:List (List FC)),s=⟨t,[],H1⟩∧i+m=a+d*2+2∧a≤i∧i≤a+d*2+2∧t.g 0=.c (.sl b 0 n 0 ep sz)∧t.g 1=vi a∧t.g 8=vi L∧t.g 9=.c (.ptr H.length 0 0)∧t.g 10=vu ((2:Int) ^ k)∧t.g 11=vi i ∧
  Fm b H H1∧NU H1 H.length∧RB H1 b sz ep l∧Seg a (a+L) rows l) 3
  ⟨a+d*2-1,_,H1,rows,rfl,by omega,by omega,by omega,by simp,by simp,by simp,by simp,by simp,by simp;omega,f1,p1,r1,Seg.refl _ _ _⟩ ?_
 rintro m s ⟨i,t,H1,l,rfl,hm,hai,hi,g0,g1,g8,g9,g10,g11,hfr,hnu,hrb,hseg⟩ ih
 have hlen:=hseg.len
 refine ak ?_
 refine ak (aj (.inl rfl) ?_)
 simp [g1,g8,g11,hq,wrap64 (n:=(d:Int)*2) (by omega) (by omega),wrap64 (n:=(a:Int)+d*2) (by omega) (by omega),wrap64 (n:=(a:Int)+d*2+1) (by omega) (by omega)]
 by_cases hlt:i≤a+d*2+1
 case neg=>
  refine ay (by simp;omega) ?_
  refine bf (k':=[]) rfl ?_
  exact pW (hQ _ _ _ rfl rfl ⟨rfl,hfr,l,hrb,hseg⟩)
 refine aB (by simp;omega) (aG ?_)
 obtain⟨r,H2,he,⟨x,rfl⟩,f2,n2⟩:=aH8 (σ:=σ) (sz:=sz) hN hnu
 have he:=he.eq
 obtain⟨o,ho,hand⟩:=alc (x:=x) (k:=k) hk
 have r2:RB H2 b sz ep l:=f2.get hrb (by omega)
 have f3:=hfr.far (aw _) f2
 refine ak ?_
 refine aN ?_
 refine ak (aj (.inl rfl) ?_)
 simp [g9,g10,he,hwm,hand,wrap64 (n:=(o:Int)) (by omega) (by omega)]
 have go:∀(t:T) (q:Nat),q<L→t.g 0=.c (.sl b 0 n 0 ep sz)→t.g 1=vi a→t.g 8=vi L→t.g 9=.c (.ptr H.length 0 0)→t.g 10=vu ((2:Int) ^ k)→t.g 11=vi i→t.g 12=vi q →
   WP tab σ.brk none [.code (ak4 σ sz),.inBlock 1,.code (ak3 σ sz),.inLoop (ak5 σ sz),.inBlock 0] ⟨t,[],H2⟩ Q:=by
  intro t q hqL g0 g1 g8 g9 g10 g11 g12
  obtain⟨x5,y5,H5,H6,-,-,i5,j5,l5,l6,w5,w6,s5,j6,s6,r6,f6⟩:=r2.swp (hseg.grid hg) (hlen.trans hn) (i:=i) (j:=a+q) (by omega) (by omega)
  have ce:((a+q:Nat):Int)=(a:Int)+q:=by omega
  rw [ce]at j5 j6
  refine aj (.inl rfl) ?_
  simp [g0,g1,g11,g12,i5,j5,l5,l6,w5,w6,s5,j6,s6,-aH,-bI,wrap64 (n:=(a:Int)+q) (by omega) (by omega)]
  refine aK (aj (.inl rfl) ?_)
  simp [g11,wrap64 (n:=(i:Int)+1) (by omega) (by omega)]
  exact ih (m-1) _ (by omega) ⟨i+1,_,H6,_,rfl,by omega,by omega,by omega,by simp [g0],by simp [g1],by simp [g8],by simp [g9],by simp [g10],by simp,f3.trans f6,n2.fm f6 (by omega),r6,
   hseg.trans (iL (by omega) (by omega) (by omega) (by omega) (by omega))⟩
 refine ak ?_
 refine ak ?_
 refine aj (.inl rfl) ?_
 simp [g8]
 by_cases hge:L≤o
 ·refine aB (by simp;omega) ?_
  refine aj (.inl rfl) ?_
  simp [g8,wrap64 (n:=(o:Int)-L) (by omega) (by omega)]
  exact go _ (o-L) (by omega) (by simp [g0]) (by simp [g1]) (by simp [g8]) (by simp [g9]) (by simp [g10]) (by simp [g11]) (by simp;omega)
 ·refine ay (by simp;omega) (aG ?_)
  exact go _ o (by omega) (by simp [g0]) (by simp [g1]) (by simp [g8]) (by simp [g9]) (by simp [g10]) (by simp [g11]) (by simp)
end
end Km
end
section
namespace Km
open Go
section
variable{W:List FC→Prop}{c:List FC→List FC→Int}{l l':List (List FC)}
def Rest(c:List FC→List FC→Int)(a p q e:Nat)(l:List (List FC)):Prop:=∀ i j,a≤i→i<j→j<e→¬ (p≤i∧j<q)→LeI c l i j
theorem Rest.all(c:List FC→List FC→Int)(a e:Nat)(l:List (List FC)):Rest c a a e e l:=fun i j h1 h2 h3 h4=>by omega
theorem Rest.seg{a p q e:Nat}(h:Rest c a p q e l)(hs:Seg p q l l')(hpq:p≤q)(hq:q≤l.length)(hap:a≤p)(hqe:q≤e):Rest c a p q e l':=by
 intro i j h1 h2 h3 h4 x y hx hy
 by_cases ci:p≤i∧i<q
 ·obtain⟨i',i1,i2,hi'⟩:=hs.mem hpq hq ci.1 ci.2 hx
  rw [hs.ge (by omega)]at hy
  exact h i' j (by omega) (by omega) h3 (by omega) x y hi' hy
 by_cases cj:p≤j∧j<q
 ·obtain⟨j',j1,j2,hj'⟩:=hs.mem hpq hq cj.1 cj.2 hy
  rw [hs.lt (by omega)]at hx
  exact h i j' h1 (by omega) (by omega) (by omega) x y hx hj'
 have gi:l'[i]?=l[i]?:=by
  by_cases h5:i<p
  ·exact hs.lt h5
  ·exact hs.ge (by omega)
 have gj:l'[j]?=l[j]?:=by
  by_cases h5:j<p
  ·exact hs.lt h5
  ·exact hs.ge (by omega)
 rw [gi]at hx;rw [gj]at hy
 exact h i j h1 h2 h3 h4 x y hx hy
theorem Rest.up{a p q e:Nat}(h:Rest c a p q e l)(hu:Up c p q l):Up c a e l:=fun i j x y h1 h2 h3 hx hy=>by
 by_cases h4:p≤i∧j<q
 ·exact hu i j x y h4.1 h2 h4.2 hx hy
 ·exact h i j h1 h2 h3 h4 x y hx hy
theorem Rest.low{a p q e:Nat}(h:Rest c a p q e l)(hl:Low c a e l)(hap:a≤p)(hqe:q≤e):Low c p q l:=fun k h0 h1 h2=>by
 by_cases e1:p=a
 ·subst e1;exact hl k h0 h1 (by omega)
 ·exact h (p-1) k (by omega) (by omega) (by omega) (by omega)
theorem Rest.left{a p q e m:Nat}(hr:Rest c a p q e l)(hc:Cmp W c)(hW:∀ r ∈ l,W r)(hlen:e≤l.length)(hp:qj c p q m l)(hu:Up c p m l)(h1:p≤m)(h2:m<q)(h3:q≤e):Rest c a (m+1) q e l:=by
 intro i j i1 ij je h4
 by_cases h5:p≤i∧j<q
 case neg=>exact hr i j i1 ij je h5
 obtain⟨v,hv,lo,hi⟩:=hp
 rcases bO j m with hj | hj | hj
 ·exact fun x y hx hy=>hu i j x y h5.1 ij hj hx hy
 ·subst hj
  intro x y hx hy
  rw [hv]at hy;cases hy
  exact hc.asym (hW _ (aD hx)) (hW _ (aD hv)) (lo i x h5.1 ij hx)
 ·have him:i≤m:=by omega
  have right:LeI c l m j:=fun x y hx hy=>by
   rw [hv]at hx;cases hx
   exact hi j y hj h5.2 hy
  rcases b9 him with him | him
  ·have left:LeI c l i m:=fun x y hx hy=>by
    rw [hv]at hy;cases hy
    exact hc.asym (hW _ (aD hx)) (hW _ (aD hv)) (lo i x h5.1 him hx)
   exact left.trans hc hW right (by omega)
  ·subst him;exact right
theorem Rest.right{a p q e m:Nat}(hr:Rest c a p q e l)(hc:Cmp W c)(hW:∀ r ∈ l,W r)(hlen:e≤l.length)(hp:qj c p q m l)(hu:Up c (m+1) q l)(h1:p≤m)(h2:m<q)(h3:q≤e):Rest c a p m e l:=by
 intro i j i1 ij je h4
 by_cases h5:p≤i∧j<q
 case neg=>exact hr i j i1 ij je h5
 obtain⟨v,hv,lo,hi⟩:=hp
 rcases bO i m with hj | hj | hj
 ·have left:LeI c l i m:=fun x y hx hy=>by
   rw [hv]at hy;cases hy
   exact hc.asym (hW _ (aD hx)) (hW _ (aD hv)) (lo i x h5.1 hj hx)
  rcases b9 (show m≤j by omega)with hm | hm
  ·have right:LeI c l m j:=fun x y hx hy=>by
    rw [hv]at hx;cases hx
    exact hi j y hm h5.2 hy
   exact left.trans hc hW right (by omega)
  ·subst hm;exact left
 ·subst hj
  intro x y hx hy
  rw [hv]at hx;cases hx
  exact hi j y ij h5.2 hy
 ·exact fun x y hx hy=>hu i j x y (by omega) ij h5.2 hx hy
theorem Rest.equal{a p q e m:Nat}{v:List FC}(hr:Rest c a p q e l)(hc:Cmp W c)(hW:∀ r ∈ l,W r)(hlow:Low c p q l)(h0:0<p){w:List FC}(hw:l[p-1]?=some w)(hv:W v)(hwv:¬ c w v<0)
  (lo:∀(k:Nat) x,p≤k→k<m→l[k]?=some x→¬ c v x<0):Rest c a m q e l:=by
 intro i j i1 ij je h4
 by_cases h5:p≤i∧j<q
 case neg=>exact hr i j i1 ij je h5
 intro x y hx hy
 have him:i<m:=by omega
 have h6:=lo i x h5.1 him hx
 have h7:=hlow j h0 (by omega) h5.2 w y hw hy
 have wx:=hW _ (aD hx)
 have wy:=hW _ (aD hy)
 have ww:=hW _ (aD hw)
 exact hc.trans wx hv wy h6 (hc.trans hv ww wy hwv h7)
theorem qj.seg{p q m p' q':Nat}(hp:qj c p q m l)(hs:Seg p' q' l l')(h:(p≤p'∧q'≤m)∨(m<p'∧q'≤q))(hpq:p'≤q')(hl:q'≤l.length):qj c p q m l':=by
 obtain⟨v,hv,lo,hi⟩:=hp
 refine⟨v,?_,fun k x k1 k2 hx=>?_,fun k x k1 k2 hx=>?_⟩
 ·rcases h with h | h
  ·rw [hs.ge (by omega)];exact hv
  ·rw [hs.lt (by omega)];exact hv
 ·by_cases ci:p'≤k∧k<q'
  ·obtain⟨k',a1,a2,hk⟩:=hs.mem hpq hl ci.1 ci.2 hx
   rcases h with h | h
   ·exact lo k' x (by omega) (by omega) hk
   ·omega
  ·by_cases h5:k<p'
   ·rw [hs.lt h5]at hx;exact lo k x k1 k2 hx
   ·rw [hs.ge (by omega)]at hx;exact lo k x k1 k2 hx
 ·by_cases ci:p'≤k∧k<q'
  ·obtain⟨k',a1,a2,hk⟩:=hs.mem hpq hl ci.1 ci.2 hx
   rcases h with h | h
   ·omega
   ·exact hi k' x (by omega) (by omega) hk
  ·by_cases h5:k<p'
   ·rw [hs.lt h5]at hx;exact hi k x k1 k2 hx
   ·rw [hs.ge (by omega)]at hx;exact hi k x k1 k2 hx
end
structure Pq(b n ep sz:Nat)(cv:V)(H:Heap)(c:List FC→List FC→Int)(rows:List (List FC))(a e:Nat)(t:T)(H1:Heap)(l:List (List FC))(p q:Nat)(lim:Int):Prop where
 g0:t.g 0=.c (.sl b 0 n 0 ep sz)
 g1:t.g 1=vi p
 g2:t.g 2=vi q
 g3:t.g 3=vi lim
 g4:t.g 4=cv
 fr:Fm b H H1
 rb:RB H1 b sz ep l
 sg:Seg a e rows l
 re:Rest c a p q e l
 ap:a≤p
 pq:p≤q
 qe:q≤e
theorem Pq.regs{b n ep sz:Nat}{cv:V}{H:Heap}{c:List FC→List FC→Int}{rows:List (List FC)}{a e:Nat}{t:T}{H1:Heap}{l:List (List FC)}{p q:Nat}{lim:Int}(h:Pq b n ep sz cv H c rows a e t H1 l p q lim)
  {t':T} (e0:t'.g 0=t.g 0) (e1:t'.g 1=t.g 1) (e2:t'.g 2=t.g 2) (e3:t'.g 3=t.g 3) (e4:t'.g 4=t.g 4):Pq b n ep sz cv H c rows a e t' H1 l p q lim:=
 ⟨e0.trans h.g0,e1.trans h.g1,e2.trans h.g2,e3.trans h.g3,e4.trans h.g4,h.fr,h.rb,h.sg,h.re,h.ap,h.pq,h.qe⟩
theorem Pq.seg{b n ep sz:Nat}{cv:V}{H:Heap}{c:List FC→List FC→Int}{rows:List (List FC)}{a e:Nat}{t:T}{H1:Heap}{l:List (List FC)}{p q:Nat}{lim:Int}(h:Pq b n ep sz cv H c rows a e t H1 l p q lim)
  {H2:Heap} {l2:List (List FC)} (hf:Fm b H1 H2) (hb:RB H2 b sz ep l2) (hs:Seg p q l l2) (he:e≤rows.length):Pq b n ep sz cv H c rows a e t H2 l2 p q lim:=
 ⟨h.g0,h.g1,h.g2,h.g3,h.g4,h.fr.trans hf,hb,h.sg.trans (hs.mono h.ap h.qe),h.re.seg hs h.pq (by rw [h.sg.len];exact bz h.qe he) h.ap h.qe,h.ap,h.pq,h.qe⟩
end Km
end
section
namespace Km
open Go
structure aAU(tab:Nat→Option AFunc)(σ:Srt)(sz:Nat):Prop where
 pdq:tab σ.pdq=some (RV σ sz)
 ins:tab σ.ins=some (EC σ sz)
 heap:tab σ.heap=some (Hr σ sz)
 sift:tab σ.sift=some (AZ σ sz)
 brk:tab σ.brk=some (TD σ sz)
 piv:tab σ.piv=some (RI σ sz)
 rev:tab σ.rev=some (RF σ sz)
 part:tab σ.part=some (GN σ sz)
 peq:tab σ.peq=some (RU σ sz)
 pins:tab σ.pins=some (GH σ sz)
 BM:tab σ.BM=some (BL σ sz)
 med:tab σ.med=some (Es σ sz)
 ord:tab σ.ord=some (Bv σ sz)
 npt:tab σ.npt=some (Sz σ sz)
 nxt:tab σ.nxt=some (Sv σ sz)
section
variable{tab:Nat→Option AFunc}{σ:Srt}{sz:Nat}{b ep n:Nat}{cv:V}{W:List FC→Prop}{c:List FC→List FC→Int}
theorem aGF(hT:aAU tab σ sz)(hcv:Cv tab cv W c)(hc:Cmp W c)(hl:n≤1000000000)(hLen:∀ L:Nat,L≤n→∃ k:Nat,Km.Pure tab σ.len [vu L]=Eq (vi k)∧k≤62∧(0<L→2 ^ k≤2*L)) :
  ∀(m a e:Nat) (H:Heap) (rows:List (List FC)) (lim:Int),e-a=m→a≤e→e≤n→rows.length=n→RB H b sz ep rows→Grid sz rows→(∀ r ∈ rows,W r)→Low c a e rows →
  ∃ r H',Ev tab (.fn σ.pdq) [.c (.sl b 0 n 0 ep sz),vi a,vi e,vi lim,cv] H r H'∧(r=.t []∧Fm b H H'∧∃ l',RB H' b sz ep l'∧Seg a e rows l'∧Up c a e l'):=by
 intro m
 induction m using Nat.strongRecOn with
 | ind m IH=>
 intro a e H rows lim hm hae hen hn hrb hg hW hlow
 have grid:∀ {l p q},Seg p q rows l→Grid sz l:=fun h=>h.grid hg
 have wall:∀ {l p q},Seg p q rows l→∀ r ∈ l,W r:=fun h r hr=>hW r (h.1.mem_iff.1 hr)
 refine iT hT.pdq rfl fun Q hQ=>?_
 have done:∀ {H1:Heap} {l:List (List FC)},Fm b H H1→RB H1 b sz ep l→Seg a e rows l→Up c a e l→∀(j:Option ah) (t:T),Q j ⟨t,[],H1⟩:=
  fun hf hr hs hu j t=>hQ _ _ (.t []) rfl rfl ⟨rfl,hf,_,hr,hs,hu⟩
 refine ak (aj (.inl rfl) ?_)
 simp
 refine ak (aj (.inl rfl) ?_)
 simp
 refine aN ?_
 refine bK (fun m s=>∃(p q:Nat) (lim:Int) (w1 w2:Bool) (t:T) (H1:Heap) (l:List (List FC)),s=⟨t,[],H1⟩∧m=q-p∧Pq b n ep sz cv H c rows a e t H1 l p q lim∧t.g 10=vb w1∧t.g 11=vb w2) _
  ⟨a,e,lim,true,true,_,H,rows,rfl,rfl,⟨by simp,by simp,by simp,by simp,by simp,Fm.refl H,hrb,Seg.refl _ _ _,Rest.all c a e rows,aw _,hae,aw _⟩,by simp,by simp⟩ ?_
 rintro m1 s ⟨p,q,lim,w1,w2,t,H1,l,rfl,rfl,hP,g10,g11⟩ ih
 obtain⟨g0,g1,g2,g3,g4,-,-,-,-,ap,pq,qe⟩:=id hP
 refine aN ?_
 refine ak (aj (.inl rfl) ?_)
 obtain⟨L,rfl⟩:∃ L,q=p+L:=⟨q-p,by omega⟩
 have hw:IntKind.i64.wrap ((p:Int)+L-p)=L:=by rw [wrap64 (by omega) (by omega)];omega
 have lenOf:∀ {H1 t l lim p q},Pq b n ep sz cv H c rows a e t H1 l p q lim→l.length=n:=fun h=>h.sg.len.trans hn
 have akg:∀ {H1 t l lim p q},Pq b n ep sz cv H c rows a e t H1 l p q lim→Low c p q l:=fun h=>h.re.low (hlow.seg h.sg (aw _) (aw _) hae (by omega)) h.ap h.qe
 simp [g1,g2,hw]
 refine ak ?_
 refine ak (aj (.inl rfl) ?_)
 simp
 by_cases h12:L≤12
 ·refine aB (by simp;omega) ?_
  obtain⟨r,H2,he,rfl,f2,l2,r2,s2,u2⟩:=aIq hT.ins hcv hc (lenOf hP) hl hP.rb (grid hP.sg) (wall hP.sg) hP.pq (by omega)
  refine ak (aj (.inl rfl) ?_)
  have he:=he.eq
  simp at he
  simp [g0,g1,g2,g4,he]
  have hP2:=hP.seg f2 r2 s2 (by omega)
  exact aP (done hP2.fr hP2.rb hP2.sg (hP2.re.up u2) _ _)
 refine ay (by simp;omega) (aG ?_)
 refine ak ?_
 refine ak (aj (.inl rfl) ?_)
 simp [g3]
 by_cases hl0:lim=0
 ·refine aB (by simp [hl0]) ?_
  obtain⟨r,H2,he,rfl,f2,l2,r2,s2,u2⟩:=az1 hT.heap hT.sift hcv hc (lenOf hP) hl hP.rb (grid hP.sg) (wall hP.sg) (show p<p+L by omega) (by omega)
  refine ak (aj (.inl rfl) ?_)
  have he:=he.eq
  simp at he
  simp [g0,g1,g2,g4,he]
  have hP2:=hP.seg f2 r2 s2 (by omega)
  exact aP (done hP2.fr hP2.rb hP2.sg (hP2.re.up u2) _ _)
 refine ay (by simp [hl0]) (aG ?_)
 have s54:∀(t:T) (H1:Heap) (l:List (List FC)) (lim:Int) (v:Nat),Pq b n ep sz cv H c rows a e t H1 l p (p+L) lim→t.g 12=vi L→t.g 13=vi v→p≤v→v<p+L →
   WP tab σ.pdq none [.code (ajz σ sz),.inBlock 1,.inLoop (Ef σ sz),.inBlock 0] ⟨t,[],H1⟩ Q:=by
  intro t H1 l lim v hP g12 g13 hv1 hv2
  obtain⟨g0,g1,g2,g3,g4,-,-,-,-,-,-,-⟩:=id hP
  obtain⟨r,H2,he,mid,w,rfl,m1,m2,f2,l2,r2,s2,pt⟩:=ax7 hT.part hcv (lenOf hP) hl hP.rb (grid hP.sg) (wall hP.sg) (show p<p+L by omega) (by omega) hv1 hv2
  have he:=he.eq
  simp at he
  have hP2:=hP.seg f2 r2 s2 (by omega)
  have ln2:=lenOf hP2
  obtain⟨d,hd⟩:∃ d,d=L / 8:=⟨_,rfl⟩
  have hq:bU .quo (vi (L:Int)) (vi 8)=some (vi (d:Int)):=by
   have:=awZ (a:=L) (b:=8) (by omega) (by omega)
   rw [hd];exact this
  refine ak (aj (.inl rfl) ?_)
  simp [g0,g1,g2,g4,g13,he]
  refine ak (aj (.inl rfl) ?_)
  simp
  refine ak (aj (.inl rfl) ?_)
  simp [g1,g2]
  refine ak (aj (.inl rfl) ?_)
  simp [g12,hq]
  refine ak ?_
  refine aj (.inl rfl) ?_
  simp [wrap64 (n:=(mid:Int)-p) (by omega) (by omega),wrap64 (n:=(p:Int)+L-mid) (by omega) (by omega)]
  by_cases hlr:(mid:Int)-p<(p:Int)+L-mid
  ·refine aB (by simp;omega) ?_
   obtain⟨r,H3,he,rfl,f3,l3,r3,s3,u3⟩:=IH (mid-p) (by omega) p mid H2 l2 lim rfl m1 (by omega) ln2 r2 (grid hP2.sg) (wall hP2.sg) ((akg hP2).mono (by omega))
   have he:=he.eq
   have hP3:=hP2.seg f3 r3 (s3.mono (aw _) (by omega)) (by omega)
   refine ak (aj (.inl rfl) ?_)
   simp
   refine ak (aj (.inl rfl) ?_)
   simp [g0,g1,g3,g4,he]
   refine aj (.inl rfl) ?_
   simp [wrap64 (n:=(mid:Int)+1) (by omega) (by omega)]
   refine aK (ih _ _ (by omega) ⟨mid+1,p+L,lim,_,w,_,H3,l3,rfl,rfl,⟨by simp [g0],by simp,by simp [g2],by simp [g3],by simp [g4],hP3.fr,hP3.rb,hP3.sg,?_,by omega,by omega,hP3.qe⟩,by simp;rfl,by simp⟩)
   exact hP3.re.left hc (wall hP3.sg) (by rw [lenOf hP3];exact hen) (pt.seg s3 (.inl ⟨aw _,aw _⟩) m1 (by omega)) u3 m1 m2 hP3.qe
  ·refine ay (by simp;omega) ?_
   have aSZ:Low c (mid+1) (p+L) l2:=fun k h0 k1 k2 x y hx hy=>by
    obtain⟨v,hv,lo,hi⟩:=pt
    rw [show mid+1-1=mid by omega,hv]at hx;cases hx
    exact hi k y (by omega) k2 hy
   obtain⟨r,H3,he,rfl,f3,l3,r3,s3,u3⟩:=IH (p+L-(mid+1)) (by omega) (mid+1) (p+L) H2 l2 lim rfl (by omega) (by omega) ln2 r2 (grid hP2.sg) (wall hP2.sg) aSZ
   have he:=he.eq
   simp at he
   have hP3:=hP2.seg f3 r3 (s3.mono (by omega) (aw _)) (by omega)
   refine ak (aj (.inl rfl) ?_)
   simp
   refine ak (aj (.inl rfl) ?_)
   simp [g0,g2,g3,g4,he,wrap64 (n:=(mid:Int)+1) (by omega) (by omega)]
   refine aj (.inl rfl) ?_
   simp
   refine aK (ih _ _ (by omega) ⟨p,mid,lim,_,w,_,H3,l3,rfl,rfl,⟨by simp [g0],by simp [g1],by simp,by simp [g3],by simp [g4],hP3.fr,hP3.rb,hP3.sg,?_,by omega,by omega,by omega⟩,by simp;rfl,by simp⟩)
   exact hP3.re.right hc (wall hP3.sg) (by rw [lenOf hP3];exact hen) (pt.seg s3 (.inr ⟨by omega,aw _⟩) (by omega) (by omega)) u3 m1 m2 hP3.qe
 have s46:∀(t:T) (H1:Heap) (l:List (List FC)) (lim:Int) (v:Nat) (w1 w2:Bool),Pq b n ep sz cv H c rows a e t H1 l p (p+L) lim→t.g 12=vi L→t.g 13=vi v→t.g 10=vb w1→t.g 11=vb w2→p≤v→v<p+L →
   WP tab σ.pdq none [.code (ajA σ sz),.inBlock 1,.inLoop (Ef σ sz),.inBlock 0] ⟨t,[],H1⟩ Q:=by
  intro t H1 l lim v w1 w2 hP g12 g13 g10 g11 hv1 hv2
  obtain⟨g0,g1,g2,g3,g4,-,-,-,-,-,-,-⟩:=id hP
  refine ak ?_
  refine ak (aj (.inl rfl) ?_)
  rcases cL p with hp0 | hp0
  ·simp [g1,hp0]
   refine ay (by simp) (aG ?_)
   exact s54 _ H1 l lim v (hP.regs (by simp [g0]) (by simp [g1,hp0]) (by simp [g2]) (by simp [g3]) (by simp [g4])) (by simp [g12]) (by simp [g13]) hv1 hv2
  obtain⟨d,rfl⟩:∃ d,p=d+1:=⟨p-1,by omega⟩
  have hlt:(0:Int)<(d:Int)+1:=by omega
  have c1:((d+1:Nat):Int)=(d:Int)+1:=by omega
  have c2:((d+1+L:Nat):Int)=(d:Int)+1+L:=by omega
  obtain⟨x,y,F,ar,J,hx,hy,i1,j1,l1,l2,fK,he,wx,wy⟩:=hP.rb.ask (grid hP.sg) hcv (wall hP.sg) (lenOf hP) (i:=d) (j:=v) (by omega) (by omega)
  have g1':t.g 1=vi ((d:Int)+1):=by rw [g1,c1]
  simp [g0,g1',g4,g13,hlt,i1,j1,l1,l2,fK,he,-aH,wrap64 (n:=(d:Int)) (by omega) (by omega)]
  have hPJ:Pq b n ep sz cv H c rows a e t (H1++J) l (d+1) (d+1+L) lim:=hP.seg (Fm.push _ _) (hP.rb.push _) (Seg.refl _ _ _) (by omega)
  by_cases hxy:c x y<0
  ·refine ay (by simp [hxy]) (aG ?_)
   exact s54 _ _ l lim v (hPJ.regs (by simp [g0]) (by simp [g1]) (by simp [g2]) (by simp [g3]) (by simp [g4])) (by simp [g12]) (by simp [g13]) hv1 hv2
  refine aB (by simp [hxy]) ?_
  obtain⟨r,H2,he,mid,rfl,m1,m2,f2,l2,r2,s2,lo,hi⟩:=aGd hT.peq hcv hc (lenOf hPJ) hl hPJ.rb (grid hPJ.sg) (wall hPJ.sg) (show d+1<d+1+L by omega) (by omega) hv1 hv2 hy
  have he:=he.eq
  have hP2:=hPJ.seg f2 r2 s2 (by omega)
  rw [c1,c2]at he
  rw [c2]at g2
  refine ak (aj (.inl rfl) ?_)
  simp [g0,g1',g2,g4,g13,he]
  refine ak (aj (.inl rfl) ?_)
  simp
  refine bf (k':=[.inLoop (Ef σ sz),.inBlock 0]) rfl ?_
  refine ih _ _ (by omega) ⟨mid,d+1+L,lim,w1,w2,_,H2,l2,rfl,rfl,⟨by simp [g0],by simp,by simp [g2],by simp [g3],by simp [g4],hP2.fr,hP2.rb,hP2.sg,?_,by omega,by omega,hP2.qe⟩,by simp [g10],by simp [g11]⟩
  refine hP2.re.equal hc (wall hP2.sg) (akg hP2) (by omega) (w:=x) (v:=y) ?_ wy hxy lo
  rw [show d+1-1=d by omega,s2.lt (by omega)];exact hx
 have s39:∀(t:T) (H1:Heap) (l:List (List FC)) (lim:Int) (v:Nat) (w1 w2:Bool) (hint:Int),Pq b n ep sz cv H c rows a e t H1 l p (p+L) lim→t.g 12=vi L→t.g 13=vi v→t.g 14=vi hint→t.g 10=vb w1→t.g 11=vb w2→p≤v→v<p+L →
   WP tab σ.pdq none [.code (ajB σ sz),.inBlock 1,.inLoop (Ef σ sz),.inBlock 0] ⟨t,[],H1⟩ Q:=by
  intro t H1 l lim v w1 w2 hint hP g12 g13 g14 g10 g11 hv1 hv2
  obtain⟨g0,g1,g2,g3,g4,-,-,-,-,-,-,-⟩:=id hP
  refine ak ?_
  refine ak (aj (.inl rfl) ?_)
  cases w1 with
  | false=>
   simp [g10]
   refine ay (by simp) (aG ?_)
   exact s46 _ _ l lim v false w2 (hP.regs (by simp [g0]) (by simp [g1]) (by simp [g2]) (by simp [g3]) (by simp [g4])) (by simp [g12]) (by simp [g13]) (by simp [g10]) (by simp [g11]) hv1 hv2
  | true=>
  cases w2 with
  | false=>
   simp [g10,g11]
   refine ay (by simp) (aG ?_)
   exact s46 _ _ l lim v true false (hP.regs (by simp [g0]) (by simp [g1]) (by simp [g2]) (by simp [g3]) (by simp [g4])) (by simp [g12]) (by simp [g13]) (by simp [g10]) (by simp [g11]) hv1 hv2
  | true=>
  simp [g10,g11,g14]
  by_cases h1:hint=1
  case neg=>
   refine ay (by simp [h1]) (aG ?_)
   exact s46 _ _ l lim v true true (hP.regs (by simp [g0]) (by simp [g1]) (by simp [g2]) (by simp [g3]) (by simp [g4])) (by simp [g12]) (by simp [g13]) (by simp [g10]) (by simp [g11]) hv1 hv2
  refine aB (by simp [h1]) ?_
  obtain⟨r,H2,he,w,rfl,f2,l2,r2,s2,u2⟩:=aw0 hT.pins hcv hc (lenOf hP) hl hP.rb (grid hP.sg) (wall hP.sg) (show p<p+L by omega) (by omega) (akg hP)
  have he:=he.eq
  simp at he
  have hP2:=hP.seg f2 r2 s2 (by omega)
  refine ak (aj (.inl rfl) ?_)
  simp [g0,g1,g2,g4,he]
  cases w with
  | true=>
   refine aB (by simp) ?_
   exact aP (done hP2.fr hP2.rb hP2.sg (hP2.re.up (u2 rfl)) _ _)
  | false=>
   refine ay (by simp) (aG ?_)
   exact s46 _ _ l2 lim v true true (hP2.regs (by simp [g0]) (by simp [g1]) (by simp [g2]) (by simp [g3]) (by simp [g4])) (by simp [g12]) (by simp [g13]) (by simp [g10]) (by simp [g11]) hv1 hv2
 have s28:∀(t:T) (H1:Heap) (l:List (List FC)) (lim:Int) (w1 w2:Bool),Pq b n ep sz cv H c rows a e t H1 l p (p+L) lim→t.g 12=vi L→t.g 10=vb w1→t.g 11=vb w2 →
   WP tab σ.pdq none [.code (ajC σ sz),.inBlock 1,.inLoop (Ef σ sz),.inBlock 0] ⟨t,[],H1⟩ Q:=by
  intro t H1 l lim w1 w2 hP g12 g10 g11
  obtain⟨g0,g1,g2,g3,g4,-,-,-,-,-,-,-⟩:=id hP
  obtain⟨r,H2,he,⟨v,hint,rfl,v1,v2⟩,kp⟩:=aFy hT.piv hT.BM hT.med hT.ord hcv (lenOf hP) hl hP.rb (grid hP.sg) (wall hP.sg) (show p+8≤p+L by omega) (by omega)
  have he:=he.eq
  simp at he
  have hP2:Pq b n ep sz cv H c rows a e t H2 l p (p+L) lim:=hP.seg kp.fm (kp.rb hP.rb) (Seg.refl _ _ _) (by omega)
  refine ak (aj (.inl rfl) ?_)
  simp [g0,g1,g2,g4,he]
  refine ak ?_
  refine ak (aj (.inl rfl) ?_)
  simp
  by_cases h2:hint=2
  case neg=>
   refine ay (by simp [h2]) (aG ?_)
   exact s39 _ _ l lim v w1 w2 hint (hP2.regs (by simp [g0]) (by simp [g1]) (by simp [g2]) (by simp [g3]) (by simp [g4])) (by simp [g12]) (by simp) (by simp) (by simp [g10]) (by simp [g11]) v1 v2
  refine aB (by simp [h2]) ?_
  obtain⟨r,H3,he,rfl,f3,l3,r3,s3⟩:=aEN hT.rev (cv:=cv) (lenOf hP2) hl hP2.rb (grid hP2.sg) (show p<p+L by omega) (by omega)
  have he:=he.eq
  simp at he
  have hP3:=hP2.seg f3 r3 s3 (by omega)
  refine ak (aj (.inl rfl) ?_)
  simp [g0,g1,g2,g4,he]
  refine ak (aj (.inl rfl) ?_)
  simp [g1,g2,wrap64 (n:=(p:Int)+L-1) (by omega) (by omega),wrap64 (n:=(v:Int)-p) (by omega) (by omega),wrap64 (n:=(p:Int)+L-1-(v-p)) (by omega) (by omega)]
  refine aj (.inl rfl) ?_
  simp
  exact s39 _ _ l3 lim (p+L-1-(v-p)) w1 w2 1 (hP3.regs (by simp [g0]) (by simp [g1]) (by simp [g2]) (by simp [g3]) (by simp [g4])) (by simp [g12]) (by simp;omega) (by simp) (by simp [g10]) (by simp [g11]) (by omega) (by omega)
 refine ak ?_
 refine ak (aj (.inl rfl) ?_)
 simp [g10]
 cases w1 with
 | true=>
  refine ay (by simp) (aG ?_)
  exact s28 _ _ l lim true w2 (hP.regs (by simp [g0]) (by simp [g1]) (by simp [g2]) (by simp [g3]) (by simp [g4])) (by simp) (by simp [g10]) (by simp [g11])
 | false=>
  refine aB (by simp) ?_
  obtain⟨k,hk,hk1,hk2⟩:=hLen L (by omega)
  obtain⟨r,H2,he,rfl,f2,l2,r2,s2⟩:=aJy (cv:=cv) hT.brk hT.nxt hT.npt hk hk1 (hk2 (by omega)) (lenOf hP) hl hP.rb (grid hP.sg) (a:=p) (by omega) (by omega)
  have he:=he.eq
  simp at he
  have hP2:=hP.seg f2 r2 s2 (by omega)
  refine ak (aj (.inl rfl) ?_)
  simp [g0,g1,g2,g4,he]
  refine aj (.inl rfl) ?_
  simp [g3]
  exact s28 _ _ l2 _ false w2 ⟨by simp [g0],by simp [g1],by simp [g2],by simp;rfl,by simp [g4],hP2.fr,hP2.rb,hP2.sg,hP2.re,hP2.ap,hP2.pq,hP2.qe⟩ (by simp) (by simp [g10]) (by simp [g11])
end
end Km
end
section
namespace Km
open Go
def aEz:ah:=.region [⟨D 5,.mov (R 0),none⟩,⟨D 6,.len (R 5),none⟩,⟨D 4,.mov (R 6),none⟩] []
def aEy(σ:Srt):ah:=.region [⟨D 7,.mov (R 0),none⟩,⟨D 8,.mov (R 4),none⟩,⟨D 9,.mov (R 4),none⟩,⟨D 10,.cvi .u64 (R 9),none⟩,⟨D 11,.call σ.len [(R 10)] false,none⟩,⟨D 12,.mov (R 1),none⟩,⟨D 13,.call σ.pdq [(R 7),(.k (.c (.f (.int .i64 0)))),(R 8),(R 11),(R 12)] true,none⟩] []
def Me(σ:Srt):AFunc:=⟨[P.nat 0,P.nat 1],[],.seq aEz (aEy σ)⟩
section
variable{tab:Nat→Option AFunc}{σ:Srt}{sz:Nat}{cv:V}{W:List FC→Prop}{c:List FC→List FC→Int}{N:Nat}
def aLd(tab:Nat→Option AFunc)(σ:Srt)(N:Nat):Prop:=∀ L:Nat,L≤N→∃ k:Nat,Km.Pure tab σ.len [vu L]=Eq (vi k)∧k≤62∧(0<L→2 ^ k≤2*L)
theorem azW(hT:tab σ.ins=some (EC σ sz)){H:Heap}{v:V}:Ev tab (.fn σ.ins) [v,vi 0,vi 0,cv] H (.t []) H:=by
 obtain⟨r,H',he,rfl,rfl⟩:∃ r H',Ev tab (.fn σ.ins) [v,vi 0,vi 0,cv] H r H'∧(r=.t []∧H'=H):=by
  refine iT hT rfl fun Q hQ=>?_
  refine ak (aj (.inl rfl) ?_)
  simp [wrap64 (n:=(1:Int)) (by omega) (by omega)]
  refine aN ?_
  refine bK (fun _ s=>s=⟨_,[],H⟩) 0 rfl ?_
  rintro _ s rfl -
  refine ak ?_
  refine ak (aj (.inl rfl) ?_)
  simp
  refine ay (by simp) ?_
  refine bf (k':=[]) rfl ?_
  exact pW (hQ _ _ _ rfl rfl ⟨rfl,rfl⟩)
 exact he
theorem ax6(hT:tab σ.pdq=some (RV σ sz))(hI:tab σ.ins=some (EC σ sz)){H:Heap}{v:V}{lim:Int}:Ev tab (.fn σ.pdq) [v,vi 0,vi 0,vi lim,cv] H (.t []) H:=by
 have hi:=(azW (σ:=σ) (sz:=sz) (cv:=cv) hI (H:=H) (v:=v)).eq
 obtain⟨r,H',he,rfl,rfl⟩:∃ r H',Ev tab (.fn σ.pdq) [v,vi 0,vi 0,vi lim,cv] H r H'∧(r=.t []∧H'=H):=by
  refine iT hT rfl fun Q hQ=>?_
  refine ak (aj (.inl rfl) ?_)
  simp
  refine ak (aj (.inl rfl) ?_)
  simp
  refine aN ?_
  refine bK (fun _ s=>s=⟨_,[],H⟩) 0 rfl ?_
  rintro _ s rfl -
  refine aN ?_
  refine ak (aj (.inl rfl) ?_)
  simp [wrap64 (n:=(0:Int)) (by omega) (by omega)]
  refine ak ?_
  refine ak (aj (.inl rfl) ?_)
  simp
  refine aB (by simp) ?_
  refine ak (aj (.inl rfl) ?_)
  simp [hi]
  exact aP (hQ _ _ _ rfl rfl ⟨rfl,rfl⟩)
 exact he
theorem Rn{F:Nat}(hF:tab F=some (Me σ))(hT:aAU tab σ sz)(hcv:Cv tab cv W c)(hc:Cmp W c)(hN:N≤1000000000)(hLen:aLd tab σ N){H:Heap}{v:C}{rows:List (List FC)}(hr:LR H v sz rows)(hn:rows.length≤N)(hg:Grid sz rows)(hW:∀ r ∈ rows,W r) :
  ∃ r H',Ev tab (.fn F) [.c v,cv] H r H'∧(r=.t []∧Kb H H' v∧∃ l',LR H' v sz l'∧l'.Perm rows∧Up c 0 l'.length l'):=by
 obtain⟨k,hk,-,-⟩:=hLen rows.length hn
 have hwu:IntKind.wrap .u64 (rows.length:Int)=rows.length:=by rw [DY];omega
 obtain⟨r,H',he,rfl,hkb,l',h1,h2,h3⟩:∃ r H',Ev tab (.fn σ.pdq) [.c v,vi 0,vi rows.length,vi k,cv] H r H'∧(r=.t []∧Kb H H' v∧∃ l',LR H' v sz l'∧l'.Perm rows∧Up c 0 l'.length l'):=by
  rcases hr with⟨rfl,h⟩ | ⟨hne,b,ep,rfl,h2⟩
  ·exact⟨_,_,ax6 hT.pdq hT.ins,rfl,⟨aw _,fun i y hy _=>hy⟩,[],.inl ⟨rfl,h⟩,.refl _,Up.one (by simp)⟩
  ·obtain⟨r,H',he,rfl,f,l',r',s',u'⟩:=aGF hT hcv hc (n:=rows.length) (by omega) (fun L hL=>hLen L (by omega)) _ 0 rows.length H rows k rfl (by omega) (aw _) rfl h2 hg hW (fun k h=>absurd h (by omega))
   refine⟨_,_,he,rfl,⟨f.1,fun i y hy hi=>?_⟩,l',.inr ⟨?_,b,ep,by rw [s'.len],r'⟩,s'.1,by rw [s'.len];exact u'⟩
   ·rw [f.2 i (fun e=>hi (by rw [e];rfl)) (aF hy)];exact hy
   ·rintro rfl
    have:=s'.len
    exact hne (cn.1 this.symm)
 have he:=he.eq
 refine iT hF rfl fun Q hQ=>?_
 refine ak (aj (.inl rfl) ?_)
 simp [hr.len]
 refine aj (.inl rfl) ?_
 simp [hwu,hk,he]
 exact pW (hQ _ _ (.t []) rfl rfl ⟨rfl,hkb,l',h1,h2,h3⟩)
end
end Km
end
section
set_option linter.unusedVariables false
namespace Km
open Go
def aOV(sz:Nat):ah:=.region [⟨D 6,.mov (.k (.c (.f (.int .i64 0)))),none⟩,⟨D 7,.mov (.k (.c (.f (.bool false)))),none⟩] []
def aOT(sz:Nat):ah:=.region [⟨D 12,.mov (R 0),none⟩,⟨D 13,.len (R 12),none⟩,⟨D 8,.mov (R 13),none⟩] []
def aOR(sz:Nat):ah:=.region [⟨D 14,.mov (R 8),none⟩,⟨D 9,.mov (.k (.c (.f (.int .i64 0)))),none⟩,⟨D 10,.mov (R 14),none⟩] []
def aJw(sz:Nat):ah:=.region [⟨D 15,.mov (R 9),none⟩,⟨D 16,.mov (R 10),none⟩,⟨D 17,.bin .lss (R 15) (R 16),none⟩] []
def aJv(sz:Nat):ah:=.cond (R 17) .skip (.exit 0)
def aJx(sz:Nat):ah:=.seq (aJw sz) (aJv sz)
def aJs(sz:Nat):ah:=.region [⟨D 18,.mov (R 9),none⟩,⟨D 19,.mov (R 10),none⟩,⟨D 20,.bin .add (R 18) (R 19),none⟩,⟨D 21,.cvi .u64 (R 20),none⟩,⟨D 22,.bin .shr (R 21) (.k (.c (.f (.int .u64 1)))),none⟩,⟨D 23,.cvi .i64 (R 22),none⟩,⟨D 11,.mov (R 23),none⟩] []
def aJq(sz:Nat):ah:=.region [⟨D 24,.mov (R 2),none⟩,⟨D 25,.mov (R 0),none⟩,⟨D 26,.mov (R 11),none⟩,⟨D 27,.aC sz none (R 25) (R 26),none⟩,⟨D 28,.load (some sz) (R 27),none⟩,⟨D 29,.mov (R 1),none⟩,⟨D 30,.bQ (R 24) [(R 28),(R 29)] true,none⟩,⟨D 31,.bin .lss (R 30) (.k (.c (.f (.int .i64 0)))),none⟩] []
def aJo(sz:Nat):ah:=.region [⟨D 32,.mov (R 11),none⟩,⟨D 33,.bin .add (R 32) (.k (.c (.f (.int .i64 1)))),none⟩,⟨D 9,.mov (R 33),none⟩] []
def aJn(sz:Nat):ah:=.region [⟨D 34,.mov (R 11),none⟩,⟨D 10,.mov (R 34),none⟩] []
def aJp(sz:Nat):ah:=.cond (R 31) (aJo sz) (aJn sz)
def aJr(sz:Nat):ah:=.seq (aJq sz) (aJp sz)
def aJt(sz:Nat):ah:=.seq (aJs sz) (aJr sz)
def aJu(sz:Nat):ah:=.block 1 (aJt sz)
def aON(sz:Nat):ah:=.seq (aJx sz) (aJu sz)
def aOO(sz:Nat):ah:=.loop (aON sz)
def aOP(sz:Nat):ah:=.block 0 (aOO sz)
def aJl(sz:Nat):ah:=.region [⟨D 35,.mov (R 9),none⟩,⟨D 36,.mov (R 9),none⟩,⟨D 37,.mov (R 8),none⟩,⟨D 38,.bin .lss (R 36) (R 37),none⟩,⟨D 39,.mov (R 38),none⟩,⟨D 40,.mov (R 2),G 39 true⟩,⟨D 41,.mov (R 0),G 39 true⟩,⟨D 42,.mov (R 9),G 39 true⟩,⟨D 43,.aC sz none (R 41) (R 42),G 39 true⟩,⟨D 44,.load (some sz) (R 43),G 39 true⟩,⟨D 45,.mov (R 1),G 39 true⟩,⟨D 46,.bQ (R 40) [(R 44),(R 45)] true,G 39 true⟩,⟨D 47,.bin .eql (R 46) (.k (.c (.f (.int .i64 0)))),G 39 true⟩,⟨D 48,.pick (R 39) (R 47) (.k (.c (.f (.bool false)))),none⟩,⟨D 6,.mov (R 35),none⟩,⟨D 7,.mov (R 48),none⟩] []
def aJm(sz:Nat):ah:=.seq (aJl sz) .ret
def aOQ(sz:Nat):ah:=.seq (aOP sz) (aJm sz)
def aOS(sz:Nat):ah:=.seq (aOR sz) (aOQ sz)
def aOU(sz:Nat):ah:=.seq (aOT sz) (aOS sz)
def aOW(sz:Nat):ah:=.seq (aOV sz) (aOU sz)
def aEh(sz:Nat):AFunc:=⟨[P.nat 0,P.nat 1,P.nat 2],[.tmp (P.nat 6),.tmp (P.nat 7)],(aOW sz)⟩
section
variable{tab:Nat→Option AFunc}{sz:Nat}
theorem aJk{F:Nat}(hF:tab F=some (aEh sz))(g:Tg)(rows:List (List FC))(hg:Grid sz rows)(cv:V)(x:FC)(s:List FC→Int)(hl:rows.length≤1000000000)
  (hcv:∀ r ∈ rows,∃ G ar,dw cv [.a (r.map .f),.c (.f x)]=some (.fn G,ar)∧Kf tab G ar (vi (s r)))
  (hp:∀(i j:Nat) (hi:i<j) (hj:j<rows.length),0≤s rows[i]→0<s rows[j]) :
  ∃ i:Nat,i≤rows.length∧(∀ j (hj:j<rows.length),j<i→s rows[j]<0)∧(∀ j (hj:j<rows.length),i≤j→0≤s rows[j]) ∧
   ∃ w:Bool,(w=true↔∃ h:i<rows.length,s rows[i]=0)∧Km.Pure tab F [.c (.f (sl g rows)),.c (.f x),cv]=Eq (.t [vi i,vb w]):=by
 obtain⟨r,⟨i,h1,h2,h3,w,h4,rfl⟩,h⟩:∃ r,(∃ i:Nat,i≤rows.length∧(∀ j (hj:j<rows.length),j<i→s rows[j]<0)∧(∀ j (hj:j<rows.length),i≤j→0≤s rows[j])∧∃ w:Bool,(w=true↔∃ h:i<rows.length,s rows[i]=0)∧r=.t [vi i,vb w]) ∧
   Km.Pure tab F [.c (.f (sl g rows)),.c (.f x),cv] r:=by
  refine iM hF rfl fun Q hQ=>?_
  have ask:∀(q:Nat) (hq:q<rows.length) (H:Heap),∃ G ar J,aU H sz none (.c (.f (sl g rows))) (vi q)=some (.c (.f (.fp rows.flatten (q*sz))))∧ldV H (some sz) (.c (.f (.fp rows.flatten (q*sz))))=some (.a (rows[q].map .f))∧dw cv [.a (rows[q].map .f),.c (.f x)]=some (.fn G,ar)∧Ev tab (.fn G) ar H=E2 (vi (s rows[q])) (H++J):=by
   intro q hq H
   obtain⟨G,ar,c1,c2⟩:=hcv rows[q] (av hq)
   obtain⟨J,c3⟩:=c2 H
   have hi:=gX (H:=H) (g:=g) (rows:=rows) (sz:=sz) (k:=.i64) (i:=(q:Int)) (by omega) (by omega)
   rw [Int.toNat_natCast]at hi
   exact⟨G,ar,J,hi,jd hg (ae hq),c1,c3.eq⟩
  refine ak (aj (.inl rfl) ?_)
  simp
  refine ak (aj (.inl rfl) ?_)
  simp
  refine ak (aj (.inl rfl) ?_)
  simp
  refine ak ?_
  refine aN ?_
  refine bK (fun m s'=>∃(lo hi:Nat) (t:T) (H:Heap),s'=⟨t,[],H⟩∧m=hi-lo∧lo≤hi∧hi≤rows.length∧t.g 0=.c (.f (sl g rows))∧t.g 1=.c (.f x)∧t.g 2=cv∧t.g 8=vi rows.length∧t.g 9=vi lo∧t.g 10=vi hi ∧
   (∀ j (hj:j<rows.length),j<lo→s rows[j]<0)∧(∀ j (hj:j<rows.length),hi≤j→0≤s rows[j])) rows.length
   ⟨0,rows.length,_,_,rfl,by omega,by omega,by omega,by simp,by simp,by simp,by simp,by simp,by simp,by simp,by intros;omega⟩ ?_
  rintro m s' ⟨lo,hi,t,H,rfl,rfl,hlh,hhl,g0,g1,g2,g8,g9,g10,hlo,hhi⟩ next
  refine ak ?_
  refine ak (aj (.inl rfl) ?_)
  simp [g9,g10]
  by_cases hlt:lo<hi
  ·refine aB (by simp [hlt]) (aG ?_)
   obtain⟨q,hq⟩:∃ q,q=(lo+hi) / 2:=⟨_,rfl⟩
   have hqn:q<rows.length:=by omega
   have e1:bU BinOp.shr (V.c (C.f (FC.int IntKind.u64 (IntKind.u64.wrap ((lo:Int)+hi))))) (V.c (C.f (FC.int IntKind.u64 1)))=some (.c (.f (.int .u64 (q:Int)))):=by
    have:IntKind.u64.wrap ((lo:Int)+hi)=(lo:Int)+hi:=by
     show((lo:Int)+hi) % 18446744073709551616=_
     omega
    rw [this]
    show some (V.c (C.f (FC.int IntKind.u64 (Int.fdiv ((lo:Int)+hi) (2 ^ (min (1:Int).toNat IntKind.u64.bits))))))=_
    have h3:Int.fdiv ((lo:Int)+hi) (2 ^ (min (1:Int).toNat IntKind.u64.bits))=q:=by
     show Int.fdiv ((lo:Int)+hi) 2=q
     rw [Int.fdiv_eq_ediv_of_nonneg _ (by omega)];omega
    rw [h3]
   have hw:IntKind.i64.wrap ((lo:Int)+hi)=(lo:Int)+hi:=wrap64 (by omega) (by omega)
   have hwq:IntKind.i64.wrap (q:Int)=q:=wrap64 (by omega) (by omega)
   obtain⟨G,ar,J,i1,l1,fK,he⟩:=ask q hqn H
   refine aN ?_
   refine ak (aj (.inl rfl) ?_)
   simp [g9,g10,hw,e1,hwq]
   refine ak (aj (.inl rfl) ?_)
   simp [g0,g1,g2,i1,l1,fK,he]
   by_cases hc:s rows[q]<0
   ·refine aB (by simp [hc]) ?_
    refine aj (.inl rfl) ?_
    simp [wrap64 (n:=(q:Int)+1) (by omega) (by omega)]
    refine aK (next (hi-(q+1)) _ (by omega) ⟨q+1,hi,_,_,rfl,rfl,by omega,by omega,by simp [g0],by simp [g1],by simp [g2],by simp [g8],by simp,by simp [g10],fun j hj h=>?_,hhi⟩)
    rcases Int.lt_or_le (s rows[j]) 0 with h5 | h5
    ·exact h5
    ·by_cases e:j=q
     ·subst e;exact hc
     ·have:=hp j q (by omega) hqn h5;omega
   ·refine ay (by simp [hc]) ?_
    refine aj (.inl rfl) ?_
    simp
    refine aK (next (q-lo) _ (by omega) ⟨lo,q,_,_,rfl,rfl,by omega,by omega,by simp [g0],by simp [g1],by simp [g2],by simp [g8],by simp [g9],by simp,hlo,fun j hj h=>?_⟩)
    by_cases e:j=q
    ·subst e;omega
    ·have:=hp q j (by omega) hj (by omega);omega
  ·have:lo=hi:=by omega
   subst this
   refine ay (by simp) ?_
   refine bf rfl ?_
   refine ak (aj (.inl rfl) ?_)
   by_cases hin:lo<rows.length
   ·obtain⟨G,ar,J,i1,l1,fK,he⟩:=ask lo hin H
    simp [g0,g1,g2,g8,g9,hin,i1,l1,fK,he]
    refine aP (hQ _ _ _ ⟨lo,hhl,hlo,hhi,decide (s rows[lo]=0),by simp [hin],rfl⟩ ?_)
    simp
   ·simp [g8,g9,hin]
    refine aP (hQ _ _ _ ⟨lo,hhl,hlo,hhi,false,by simp [hin],rfl⟩ ?_)
    simp
 exact⟨i,h1,h2,h3,w,h4,Km.Pure.eq h⟩
end
end Km
end
section
namespace Km
open Go
structure SpD where
 fr:Int
 to:Int
deriving DecidableEq
def SpD.row(s:SpD):List FC:=[fi s.fr,fi s.to]
def SpD.has(s:SpD)(t:Int):Prop:=s.fr≤t∧t<s.to
def fZ(l:List SpD)(t:Int):Prop:=∃ s ∈ l,s.has t
def sU(l:List SpD):Prop:=l.Pairwise (fun a b=>a.to<b.fr)∧∀ s ∈ l,s.fr<s.to
structure Bd where
 at_:Int
 ls:Int
 by_:Int
def Bd.row(b:Bd):List FC:=[fi b.at_,fi b.ls,fi b.by_]
def iZ(k t:Int):List Bd→Int
 | []=>0
 | b::l=>(if b.ls=k∧b.at_≤t then b.by_ else 0)+iZ k t l
theorem AO(k t:Int)(a b:List Bd):iZ k t (a++b)=iZ k t a+iZ k t b:=by
 induction a with
 | nil=>simp [iZ]
 | cons x a ih=>simp only [cT,iZ,ih];omega
theorem D6{k t:Int}{a b:List Bd}(h:a.Perm b):iZ k t a=iZ k t b:=by
 induction h with
 | nil=>rfl
 | cons x _ ih=>simp only [iZ,ih]
 | swap x y l=>simp only [iZ];omega
 | trans _ _ h1 h2=>exact h1.trans h2
def dH(k:Int):List SpD→List Bd
 | []=>[]
 | s::l=>if s.fr<s.to then⟨s.fr,k,1⟩ ::⟨s.to,k,-1⟩::dH k l else dH k l
theorem ER(k:Int)(a b:List SpD):dH k (a++b)=dH k a++dH k b:=by
 induction a with
 | nil=>rfl
 | cons x a ih=>simp only [cT,dH,ih];split<;>rfl
theorem o7(k:Int)(a:List SpD):(dH k a).length≤2*a.length:=by
 induction a with
 | nil=>simp [dH]
 | cons x a ih=>simp only [dH];split<;>simp<;>omega
theorem AL{k j t:Int}(h:j≠k)(l:List SpD):iZ k t (dH j l)=0:=by
 induction l with
 | nil=>rfl
 | cons x a ih=>
  simp only [dH]
  split
  ·simp only [iZ,ih]
   rw [if_neg (fun e=>h e.1),if_neg (fun e=>h e.1)];rfl
  ·exact ih
theorem Ji(k t:Int)(l:List SpD):0≤iZ k t (dH k l)∧(0<iZ k t (dH k l)↔fZ l t):=by
 induction l with
 | nil=>simp [dH,iZ,fZ]
 | cons x a ih=>
  have hc:fZ (x::a) t↔x.has t∨fZ a t:=by simp [fZ]
  rw [hc]
  simp only [dH]
  by_cases h:x.fr<x.to
  ·rw [if_pos h]
   simp only [iZ,true_and]
   unfold SpD.has
   by_cases h1:x.fr≤t<;>by_cases h2:x.to≤t<;>simp only [h1,h2,if_true,if_false]
   ·refine⟨by omega,?_⟩
    rw [show(1+(-1+iZ k t (dH k a)):Int)=iZ k t (dH k a) by omega,ih.2]
    exact⟨.inr,fun h=>h.elim (fun h=>by omega) id⟩
   ·exact⟨by omega,fun _=>.inl ⟨trivial,by omega⟩,fun _=>by omega⟩
   ·omega
   ·refine⟨by omega,?_⟩
    rw [show(0+(0+iZ k t (dH k a)):Int)=iZ k t (dH k a) by omega,ih.2]
    exact⟨.inr,fun h=>h.elim (fun h=>by simp at h) id⟩
  ·rw [if_neg h]
   refine⟨ih.1,ih.2.trans ⟨.inr,fun h'=>h'.elim (fun h'=>?_) id⟩⟩
   unfold SpD.has at h';omega
def zM(l:List Bd):Prop:=l.Pairwise fun a b=>a.at_≤b.at_
theorem zM.get{l:List Bd}(h:zM l){i j:Nat}(hij:i≤j)(hj:j<l.length):l[i].at_≤l[j].at_:=by
 rcases b9 hij with h' | h'
 ·exact List.pairwise_iff_getElem.1 h i j (by omega) hj h'
 ·subst h';omega
theorem Gi{k t:Int}:∀(l:List Bd),(∀ b ∈ l,t<b.at_)→iZ k t l=0
 | [],_=>rfl
 | b::l,h=>by
  have:=h b aE
  simp only [iZ,Gi l fun x hx=>h x (a8 _ hx)]
  rw [if_neg (by omega)];rfl
def gK(k:Int):List Bd→Int
 | []=>0
 | b::l=>(if b.ls=k then b.by_ else 0)+gK k l
theorem aiN(k:Int)(a b:List Bd):gK k (a++b)=gK k a+gK k b:=by
 induction a with
 | nil=>simp [gK]
 | cons x a ih=>simp only [cT,gK,ih];omega
theorem aiO{k t:Int}:∀(l:List Bd),(∀ b ∈ l,b.at_≤t)→iZ k t l=gK k l
 | [],_=>rfl
 | b::l,h=>by
  have:=h b aE
  simp only [iZ,gK,aiO l fun x hx=>h x (a8 _ hx),this,and_true]
theorem zM.sum{l:List Bd}(h:zM l){i:Nat}(hi:i<l.length){k t:Int}(h1:l[i].at_≤t)(h2:∀ h':i+1<l.length,t<l[i+1].at_):iZ k t l=gK k (l.take (i+1)):=by
 have e:l=l.take (i+1)++l.drop (i+1):=(List.take_append_drop _ _).symm
 conv=>lhs;rw [e]
 rw [AO,Gi (l.drop (i+1)),aiO (l.take (i+1)),Int.add_zero]
 ·intro b hb
  obtain⟨j,hj,rfl⟩:=List.mem_take_iff_getElem.1 hb
  have:=h.get (i:=j) (j:=i) (by omega) hi
  omega
 ·intro b hb
  obtain⟨j,hj,rfl⟩:=List.mem_drop_iff_getElem.1 hb
  have:=h2 (by omega)
  have:=h.get (i:=i+1) (j:=i+1+j) (by omega) (by omega)
  omega
structure uO(K:Int→Prop)(l:List Bd)(i:Nat)(o:List SpD):Prop where
 nm:sU o
 le:∀ h:i<l.length,∀ s ∈ o,s.to≤l[i].at_
 mem:∀ t,(∀ h:i<l.length,t<l[i].at_)→(fZ o t↔K t)
theorem xO{a b:List SpD}{t:Int}:fZ (a++b) t↔fZ a t∨fZ b t:=by
 simp only [fZ,ba,or_and_right,exists_or]
theorem C9{s:SpD}{t:Int}:fZ [s] t↔s.has t:=by simp [fZ]
section
variable{K:Int→Prop}{l:List Bd}{i:Nat}{o:List SpD}
theorem uO.start(h:∀ t,(∀ h:0<l.length,t<l[0].at_)→¬ K t):uO K l 0 []:=
 ⟨⟨.nil,fun s h=>(nomatch h)⟩,fun _ s h=>(nomatch h),fun t ht=>⟨fun⟨s,h,_⟩=>(nomatch h),fun hk=>absurd hk (h t ht)⟩⟩
theorem uO.skip(h:uO K l i o)(hs:zM l)(hi:i<l.length)(hk:∀ t,l[i].at_≤t→(∀ h':i+1<l.length,t<l[i+1].at_)→¬ K t):uO K l (i+1) o:=by
 refine⟨h.nm,fun h' s hm=>?_,fun t ht=>?_⟩
 ·have:=h.le hi s hm
  have:=hs.get (i:=i) (j:=i+1) (by omega) h'
  omega
 ·by_cases hlt:t<l[i].at_
  ·exact h.mem t fun _=>hlt
  ·refine⟨fun⟨s,hm,h1,h2⟩=>?_,fun hk'=>absurd hk' (hk t (by omega) ht)⟩
   have:=h.le hi s hm
   omega
theorem uO.app(h:uO K l i o)(hi:i+1<l.length)(hlt:l[i].at_<l[i+1].at_)(hk:∀ t,l[i].at_≤t→t<l[i+1].at_→K t)(hne:∀ s ∈ o,s.to≠l[i].at_):uO K l (i+1) (o++[⟨l[i].at_,l[i+1].at_⟩]):=by
 have hi':i<l.length:=by omega
 refine⟨⟨?_,fun s hm=>?_⟩,fun h' s hm=>?_,fun t ht=>?_⟩
 ·rw [cR]
  refine⟨h.nm.1,cQ _ _,fun a ha b hb=>?_⟩
  obtain rfl:=cI.1 hb
  have:=h.le hi' a ha
  have:=hne a ha
  show a.to<l[i].at_
  omega
 ·rcases ba.1 hm with hm | hm
  ·exact h.nm.2 s hm
  ·obtain rfl:=cI.1 hm;exact hlt
 ·rcases ba.1 hm with hm | hm
  ·have:=h.le hi' s hm;omega
  ·obtain rfl:=cI.1 hm;exact de _
 ·rw [xO,C9]
  have ht:=ht hi
  simp only [SpD.has]
  by_cases hlt:t<l[i].at_
  ·rw [h.mem t fun _=>hlt]
   exact⟨fun h=>h.elim id fun h=>by omega,.inl⟩
  ·exact⟨fun _=>hk t (by omega) ht,fun _=>.inr ⟨by omega,ht⟩⟩
theorem uO.grow{o':List SpD}{s:SpD}(h:uO K l i (o'++[s]))(hi:i+1<l.length)(hlt:l[i].at_<l[i+1].at_)(hk:∀ t,l[i].at_≤t→t<l[i+1].at_→K t)(he:s.to=l[i].at_):uO K l (i+1) (o'++[⟨s.fr,l[i+1].at_⟩]):=by
 have hi':i<l.length:=by omega
 obtain⟨⟨n1,n2⟩,hle,hmem⟩:=h
 rw [cR]at n1
 have hs:=n2 s (by simp)
 refine⟨⟨?_,fun x hm=>?_⟩,fun h' x hm=>?_,fun t ht=>?_⟩
 ·rw [cR]
  refine⟨n1.1,cQ _ _,fun a ha b hb=>?_⟩
  obtain rfl:=cI.1 hb
  exact n1.2.2 a ha s (by simp)
 ·rcases ba.1 hm with hm | hm
  ·exact n2 x (cU _ hm)
  ·obtain rfl:=cI.1 hm;show s.fr<l[i+1].at_;omega
 ·rcases ba.1 hm with hm | hm
  ·have:=hle hi' x (cU _ hm);omega
  ·obtain rfl:=cI.1 hm;exact de _
 ·rw [xO,C9]
  have ht:=ht hi
  unfold SpD.has
  by_cases hlt:t<l[i].at_
  ·rw [←hmem t fun _=>hlt,xO,C9]
   unfold SpD.has
   refine or_congr Iff.rfl ⟨fun h=>⟨h.1,by omega⟩,fun h=>⟨h.1,by show t<l[i+1].at_;omega⟩⟩
  ·exact⟨fun _=>hk t (by omega) ht,fun _=>.inr ⟨by show s.fr≤t;omega,ht⟩⟩
end
theorem sU.ext:∀ {a b:List SpD},sU a→sU b→(∀ t,fZ a t↔fZ b t)→a=b
 | [],[],_,_,_=>rfl
 | [],y::b,_,hb,h=>by
  have:=(h y.fr).2 ⟨y,aE,de _,hb.2 y aE⟩
  obtain⟨s,hm,_⟩:=this;cases hm
 | x::a,[],ha,_,h=>by
  have:=(h x.fr).1 ⟨x,aE,de _,ha.2 x aE⟩
  obtain⟨s,hm,_⟩:=this;cases hm
 | x::a,y::b,ha,hb,h=>by
  have pa:=c5.1 ha.1
  have pb:=c5.1 hb.1
  have hx:=ha.2 x aE
  have hy:=hb.2 y aE
  have first:∀ {x:SpD} {a:List SpD},x.fr<x.to→(∀ z ∈ a,x.to<z.fr)→∀ t,fZ (x::a) t→x.fr≤t:=by
   rintro x a hx h t ⟨s,hm,h1,h2⟩
   rcases co.1 hm with rfl | hm
   ·exact h1
   ·have:=h s hm;omega
  have hd:∀ {x:SpD} {a:List SpD},x.fr<x.to→fZ (x::a) x.fr:=fun {x a} hx=>⟨x,aE,de _,hx⟩
  have e1:x.fr=y.fr:=by
   have a1:=first hx pa.1 y.fr ((h _).2 (hd hy))
   have a2:=first hy pb.1 x.fr ((h _).1 (hd hx))
   omega
  have gap:∀ {x:SpD} {a:List SpD},(∀ z ∈ a,x.to<z.fr)→¬ fZ (x::a) x.to:=by
   rintro x a h ⟨s,hm,h1,h2⟩
   rcases co.1 hm with rfl | hm
   ·omega
   ·have:=h s hm;omega
  have e2:x.to=y.to:=by
   rcases Int.lt_trichotomy x.to y.to with h1 | h1 | h1
   ·exact absurd ((h x.to).2 ⟨y,aE,by omega,h1⟩) (gap pa.1)
   ·exact h1
   ·exact absurd ((h y.to).1 ⟨x,aE,by omega,h1⟩) (gap pb.1)
  have e:x=y:=by cases x;cases y;simp at e1 e2;rw [e1,e2]
  subst e
  rw [sU.ext (a:=a) (b:=b) ⟨pa.2,fun s hs=>ha.2 s (a8 _ hs)⟩ ⟨pb.2,fun s hs=>hb.2 s (a8 _ hs)⟩ fun t=>?_]
  have back:∀ {a b:List SpD},(∀ z ∈ a,x.to<z.fr)→(fZ (x::a) t→fZ (x::b) t)→fZ a t→fZ b t:=by
   rintro a b hl h ⟨s,hm,h1,h2⟩
   obtain⟨s',hm',h1',h2'⟩:=h ⟨s,a8 _ hm,h1,h2⟩
   have:=hl s hm
   rcases co.1 hm' with rfl | hm'
   ·omega
   ·exact⟨s',hm',h1',h2'⟩
  exact⟨back pa.1 (h t).1,back pb.1 (h t).2⟩
end Km
end
section
namespace Km
open Go
section
variable{H H':Heap}{c:C}{sz:Nat}{rows:List (List FC)}
theorem OD{b fl cp:Nat}{ys:List (List FC)}(hg:Grid sz ys)(h:H[b]?=some (.box (ys.flatten.map .f) fl)):fE H sz (.c (.sl b 0 ys.length cp 0 sz))=some (ys.length,ys.flatten.map .f):=by
 have hl:ys.length*sz=ys.flatten.length:=(dM hg).symm
 have hm:(ys.flatten.map C.f).length=ys.length*sz:=by rw [a9,hl]
 have e1:bM H (.sl b 0 ys.length cp 0 sz)=some ys.length:=by simp [bM,h]
 have e2:dO H sz (.sl b 0 ys.length cp 0 sz)=some (ys.flatten.map C.f):=by
  simp only [dO,h,cH,List.drop_zero]
  rw [if_pos (by omega),←hm,List.take_length]
 simp only [fE,e1,e2]
theorem LR.aTF(h:LR H c sz rows)(hg:Grid sz rows)(hsz:sz≠0){ys:List (List FC)}(hy:Grid sz ys)(hy0:ys≠[]){bytes:Nat}(hroom:bV (rows.length+ys.length) bytes=true){b1 fl1 cp:Nat}(hb1:H[b1]?=some (.box (ys.flatten.map .f) fl1)) :
  ∃ c' H',bP H sz bytes (.c c) (.c (.sl b1 0 ys.length cp 0 sz))=some (.c c',H')∧LR H' c' sz (rows++ys)∧Kb H H' c∧(cO c'=cO c∨cO c'=some H.length):=by
 have hadd:=OD (cp:=cp) hy hb1
 have h0:ys.length≠0:=fun e=>hy0 (cn.1 e)
 rcases h with⟨rfl,he⟩ | ⟨hne,b,ep,rfl,h2⟩
 ·have hroom:bV ys.length bytes=true:=by simpa using hroom
  refine⟨.sl H.length 0 ys.length 0 0 sz,H++[.opn sz (ys.flatten.map .f) 0 0 .loc],?_,.inr ⟨by simpa using hy0,H.length,0,by simp,?_⟩,⟨by simp,fun i y hy _=>by rw [ai (aF hy)];exact hy⟩,.inr rfl⟩
  ·rcases he with rfl | rfl<;>simp [bP,hadd,hroom,hsz,hy0]
  ·simp [RB]
 ·have hlen:rows.length*sz=rows.flatten.length:=(dM hg).symm
  unfold RB at h2
  refine⟨.sl b 0 (rows.length+ys.length) 0 (ep+1) sz,H.set b (.opn sz (rows.flatten.map .f++ys.flatten.map .f) 0 (ep+1) .loc),?_,.inr ⟨by simp [hne],b,ep+1,by simp,?_⟩,⟨by simp,fun i y hy hn=>?_⟩,.inl rfl⟩
  ·simp only [bP,hadd,hsz,if_false,h2,and_self,if_true,h0]
   rw [if_pos ⟨trivial,by rw [a9];exact hlen,by simp⟩,hroom]
   simp
  ·unfold RB
   rw [ax (aF h2)]
   simp
  ·have:b≠i:=by rintro rfl;exact hn rfl
   rw [ag this];exact hy
def ML(H:Heap)(c:C)(sz N:Nat)(rows:List (List FC)):Prop:=
 (N=0∧rows=[]∧c=.f .es)∨(rows.length≤N∧0<N∧∃ b tail,c=.sl b 0 rows.length N 0 sz∧H[b]?=some (.box (rows.flatten.map .f++tail) 0)∧tail.length=(N-rows.length)*sz)
theorem ML.push{N:Nat}(h:ML H c sz N rows)(J:Heap):ML (H++J) c sz N rows:=by
 rcases h with h | ⟨h1,h2,b,tail,h3,h4,h5⟩
 ·exact .inl h
 ·exact .inr ⟨h1,h2,b,tail,h3,by rw [ai (aF h4)];exact h4,h5⟩
theorem ML.keep{N:Nat}(h:ML H c sz N rows)(hk:∀ i y,H[i]?=some y→cO c=some i→H'[i]?=some y):ML H' c sz N rows:=by
 rcases h with h | ⟨h1,h2,b,tail,rfl,h4,h5⟩
 ·exact .inl h
 ·exact .inr ⟨h1,h2,b,tail,rfl,hk b _ h4 rfl,h5⟩
theorem ML.set{N:Nat}(h:ML H c sz N rows){i:Nat}(hi:cO c≠some i)(x:Blk):ML (H.set i x) c sz N rows:=h.keep fun j y hy hj=>by
 have:i≠j:=by rintro rfl;exact hi hj
 rw [ag this];exact hy
theorem ML.len{N:Nat}(h:ML H c sz N rows):bM H c=some rows.length:=by
 rcases h with⟨rfl,rfl,rfl⟩ | ⟨h1,h2,b,tail,rfl,h4,h5⟩
 ·rfl
 ·simp [bM,h4]
theorem ML.app{N:Nat}(h:ML H c sz N rows)(hg:Grid sz rows)(hsz:sz≠0){row:List FC}(hr:row.length=sz)(hN:rows.length<N){bytes:Nat}{b1 fl1:Nat}(hb1:H[b1]?=some (.box (row.map .f) fl1)) :
  ∃ c' H',bP H sz bytes (.c c) (.c (.sl b1 0 1 1 0 sz))=some (.c c',H')∧ML H' c' sz N (rows++[row])∧Kb H H' c∧cO c'=cO c:=by
 have hadd:fE H sz (.c (.sl b1 0 1 1 0 sz))=some (1,row.map .f):=yS hb1 (by simp [hr])
 rcases h with⟨rfl,rfl,rfl⟩ | ⟨h1,h2,b,tail,rfl,h4,h5⟩
 ·simp at hN
 have hlen:rows.length*sz=rows.flatten.length:=(dM hg).symm
 have htl:sz≤tail.length:=by
  rw [h5]
  obtain⟨d,hd⟩:∃ d,N-rows.length=d+1:=⟨N-rows.length-1,by omega⟩
  rw [hd,bS];omega
 have aS2:(tail.drop sz).length=(N-(rows++[row]).length)*sz:=by
  rw [List.length_drop,h5,bw,List.length_singleton]
  obtain⟨d,hd⟩:∃ d,N-rows.length=d+1:=⟨N-rows.length-1,by omega⟩
  rw [hd,show N-(rows.length+1)=d by omega,bS];omega
 have ho:over (rows.flatten.map C.f++tail) (rows.length*sz) (row.map C.f)=(rows++[row]).flatten.map C.f++tail.drop sz:=by
  unfold over
  rw [cw (by rw [a9];omega),bA (by rw [a9];omega),List.drop_append,a9,a9,hr,hlen,List.drop_of_length_le (by rw [a9];omega)]
  simp
 refine⟨.sl b 0 (rows.length+1) N 0 sz,H.set b (.box ((rows++[row]).flatten.map C.f++tail.drop sz) 0),?_,.inr ⟨by simp;omega,h2,b,tail.drop sz,by simp,ax (aF h4),aS2⟩,⟨by simp,fun i y hy hn=>?_⟩,rfl⟩
 ·simp only [bP,hadd,hsz,if_false,h4]
  rw [if_pos (by omega),if_pos ⟨by omega,by rw [cH,bw,a9,a9,hr];omega⟩,cH,ho]
 ·have:b≠i:=by rintro rfl;exact hn rfl
  rw [ag this];exact hy
theorem ML.at{N:Nat}(h:ML H c sz N rows)(hg:Grid sz rows){j k:Nat}(hj:j<rows.length)(hk:k<sz):∃ b,aU H sz none (.c c) (vi j)=some (.c (.ptr b (j*sz) 0))∧ldV H none (.c (.ptr b (j*sz+k) 0))=some (.c (.f (rows[j][k]'(by rw [hg _ (av hj)];exact hk)))) ∧
  ∀ x:FC,∃ H',stC H (.ptr b (j*sz+k) 0) [.f x]=some H'∧ML H' c sz N (rows.set j (rows[j].set k x))∧Kb H H' c:=by
 rcases h with⟨rfl,rfl,rfl⟩ | ⟨h1,h2,b,tail,rfl,h4,h5⟩
 ·simp at hj
 have hlen:rows.length*sz=rows.flatten.length:=(dM hg).symm
 have hin:j*sz+k<rows.flatten.length:=by
  rw [←hlen]
  have:(j+1)*sz≤rows.length*sz:=Nat.mul_le_mul_right _ hj
  rw [bS]at this;omega
 have hrj:rows[j].length=sz:=hg _ (av hj)
 refine⟨b,?_,?_,fun x=>⟨H.set b (.box ((rows.set j (rows[j].set k x)).flatten.map C.f++tail) 0),?_,.inr ⟨by simpa using h1,h2,b,tail,by simp,ax (aF h4),by simpa using h5⟩,⟨by simp,fun i y hy hn=>?_⟩⟩⟩
 ·simp [aU,iK,h4,hj]
 ·have hd:=xB (k:=k) hg (ae hj) (by omega)
  simp only [aH,h4]
  rw [List.drop_append_of_le_length (by rw [a9];omega),←List.map_drop,hd,List.drop_eq_getElem_cons (by omega)]
  rfl
 ·simp only [bI,h4]
  have hm:(rows.flatten.map C.f++tail).length=rows.flatten.length+tail.length:=by rw [bw,a9]
  rw [if_pos ⟨by omega,by rw [hm,List.length_singleton];omega⟩,ajR (by rw [hm];omega),List.set_append_left _ _ (by rw [a9];omega),←zI hg (ae hj) hk,List.map_set]
 ·have:b≠i:=by rintro rfl;exact hn rfl
  rw [ag this];exact hy
theorem ML.cut{N:Nat}(h:ML H c sz N rows)(hg:Grid sz rows):∃ c' g,jH H sz (.c c) none (some (vi rows.length)) (some (vi rows.length))=some (.c c')∧∀ n,exC (n+1) H c'=some (sl g rows):=by
 have hb:∀ {k n:Nat},k≤n→bnd (vi k) n=some k:=fun h=>bnd_nat h
 rcases h with⟨rfl,rfl,rfl⟩ | ⟨h1,h2,b,tail,rfl,h4,h5⟩
 ·exact⟨.f .es,.es,rfl,fun n=>rfl⟩
 ·have hlen:rows.length*sz=rows.flatten.length:=(dM hg).symm
  by_cases h0:rows=[]
  ·subst h0
   have e0:bnd (vi (0:Int)) N=some 0:=bnd_nat (k:=0) (by omega)
   have e1:bnd (vi (0:Int)) 0=some 0:=bnd_nat (k:=0) (by omega)
   exact⟨.f .es,.es,by simp [jH,h4,dA,e0,e1],fun n=>rfl⟩
  ·have hl:rows.length≠0:=fun e=>h0 (cn.1 e)
   refine⟨.sl b 0 rows.length rows.length 0 sz,.fs,?_,fun n=>?_⟩
   ·simp [jH,h4,dA,bnd_nat h1,bnd_nat (aw rows.length),hl]
   ·simp only [zJ,h4,List.drop_zero,cH]
    rw [if_pos (by rw [bw,a9];omega),cw (by rw [a9];omega),bA (by rw [a9];omega),vM]
    cases rows with
    | nil=>exact absurd rfl h0
    | cons x l=>simp [sl]
end
end Km
end
