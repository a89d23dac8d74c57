/-
  Our own small machine for Go code by value, held against the model: part 5. No program in sight.
-/
import Derived.Test.YtmbjejcfadllnaaGreatK4
open Nat renaming le_refl → ax, eq_zero_or_pos → cB, pow_le_pow_right → eo, le_trans → bw, lt_trichotomy → co, lt_or_eq_of_le → cD
open List renaming mem_of_getElem? → aL
open Int renaming toNat_natCast → bO
set_option linter.unusedVariables false
set_option linter.unusedSimpArgs false
set_option linter.unusedSectionVars false
set_option maxRecDepth 100000
namespace Km
open Go
section
section
variable{tab:Nat→Option AFunc}{σ:Srt}{sz:Nat}{cv:V}{W:List FC→Prop}{c:List FC→List FC→Int}
def Low(c:List FC→List FC→Int)(a e:Nat)(l:List (List FC)):Prop:=∀ k,0<a→a≤k→k<e→LeI c l (a-1) k
theorem Low.seg{a e a' e':Nat}{l l':List (List FC)}(h:Low c a e l)(hs:Seg a' e' l l')(h1:a≤a')(h2:e'≤e)(he:a'≤e')(hl:e'≤l.length):Low c a e l':=by
 intro k h0 k1 k2 x y hx hy;rw [hs.lt (by omega)]at hx
 by_cases c1:k<a'
 ·rw [hs.lt c1]at hy;exact h k h0 k1 k2 x y hx hy
 by_cases c2:e'≤k
 ·rw [hs.ge c2]at hy;exact h k h0 k1 k2 x y hx hy
 obtain⟨j,j1,j2,hj⟩:=hs.mem he hl (by omega) (by omega) hy
 exact h j h0 (by omega) (by omega) x y hx hj
theorem Low.mono{a e e':Nat}{l:List (List FC)}(h:Low c a e l)(he:e'≤e):Low c a e' l:=fun k h0 k1 k2=>h k h0 k1 (by omega)
theorem VK{n a e i ep b:Nat}{rows:List (List FC)}{H0:Heap}{g10:V}{k:List AItem}{Q:Option ACode→St→Prop}(hcv:Cv tab cv W c)(hc:Cmp W c)(hn:rows.length=n)(hl:n≤1000000000)(hg:Grid sz rows)(hW:∀ r ∈ rows,W r)
  {t:T} {H:Heap} (hai:a<i) (hie:i≤e) (hen:e≤n) (hup:Up c a i rows)
  (g0:t.g 0=.c (.sl b 0 n 0 ep sz)) (g1:t.g 1=vi a) (g2:t.g 2=vi e) (g3:t.g 3=cv) (gi:t.g 9=vi i) (gj:t.g 10=g10) (hfr:Fm b H0 H) (hrb:RB H b sz ep rows)
  (next:∀(t:T) (H:Heap) (i':Nat),(i≤i'∧i'≤e)→Up c a i' rows→(i'=e∨∀ x y,rows[i']?=some x→rows[i'-1]?=some y→c x y<0) →
   t.g 0=.c (.sl b 0 n 0 ep sz)→t.g 1=vi a→t.g 2=vi e→t.g 3=cv→t.g 9=vi i'→t.g 10=g10→Fm b H0 H→RB H b sz ep rows→WP tab σ.pins none k ⟨t,[],H⟩ Q) :
  WP tab σ.pins none (.code (Uk σ sz)::k) ⟨t,[],H⟩ Q:=by
 refine aB ?_
 refine bM (fun m s=>∃(q:Nat) (t:T) (H1:Heap),s=⟨t,[],H1⟩∧(q+m=e∧i≤q)∧Up c a q rows ∧
   t.g 0=.c (.sl b 0 n 0 ep sz)∧t.g 1=vi a∧t.g 2=vi e∧t.g 3=cv∧t.g 9=vi q∧t.g 10=g10∧Fm b H0 H1∧RB H1 b sz ep rows) (e-i)
  ⟨i,_,H,rfl,by omega,hup,g0,g1,g2,g3,gi,gj,hfr,hrb⟩ ?_
 rintro m s ⟨q,t,H1,rfl,hm,hup,g0,g1,g2,g3,gi,gj,hfr,hrb⟩ ih;refine kw_seq ?_;refine kw_seq (kw_region (.inl rfl) ?_);by_cases hlt:q<e
 case neg=>
  simp [gi,g2,hlt];refine ah (by simp) ?_
  refine bC (k':=k) rfl ?_;exact next _ _ q (by omega) hup (.inl (by omega)) (by simp [g0]) (by simp [g1]) (by simp [g2]) (by simp [g3]) (by simp [gi]) (by simp [gj]) hfr hrb
 obtain⟨d,rfl⟩:∃ d,q=d+1:=⟨q-1,by omega⟩
 obtain⟨x,y,F,ar,J,hx,hy,i1,j1,l1,l2,fD,he,-,-⟩:=hrb.ask hg hcv hW hn (i:=d+1) (j:=d) (by omega) (by omega)
 have c1:((d+1:Nat):Int)=(d:Int)+1:=by omega
 have hlt':(d:Int)+1<(e:Int):=by omega
 rw [c1]at i1 gi;simp [gi,g2,hlt',g0,g3,i1,j1,l1,l2,fD,he,-ak,wrap64 (n:=(d:Int)) (by omega) (by omega)]
 by_cases hc2:c x y<0
 case pos=>
  refine ah (by simp [hc2]) ?_
  refine bC (k':=k) rfl ?_;refine next _ _ (d+1) (by omega) hup (.inr fun z w hz hw=>?_) (by simp [g0]) (by simp [g1]) (by simp [g2]) (by simp [g3]) (by simp [gi]) (by simp [gj]) (hfr.trans (Fm.push _ _)) (hrb.push _)
  rw [hx]at hz;cases hz;rw [show d+1-1=d by omega,hy]at hw;cases hw;exact hc2
 refine aj (by simp [hc2]) (aG ?_)
 refine aB (kw_region (.inl rfl) ?_);simp [gi,wrap64 (n:=(d:Int)+1+1) (by omega) (by omega)]
 refine au (ih (m-1) _ (by omega) ⟨d+1+1,_,_,rfl,by omega,?_,by simp [g0],by simp [g1],by simp [g2],by simp [g3],by simp,by simp [gj],hfr.trans (Fm.push _ _),hrb.push _⟩)
 exact(Ins.start hup).stop hc hW (by omega) (ax _) (by omega) (LeI.of_le hy hx hc2)
theorem VL{n a e i j ep b:Nat}{rows:List (List FC)}{H0:Heap}{g10:V}{k:List AItem}{Q:Option ACode→St→Prop}(hcv:Cv tab cv W c)(hc:Cmp W c)(hn:rows.length=n)(hl:n≤1000000000)(hg:Grid sz rows)(hW:∀ r ∈ rows,W r)
  {t:T} {H:Heap} (haj:a≤j) (hji:j=i) (hie:i<e) (hen:e≤n) (hlow:Low c a e rows) (hins:Ins c a i j rows)
  (g0:t.g 0=.c (.sl b 0 n 0 ep sz)) (g1:t.g 1=vi a) (g2:t.g 2=vi e) (g3:t.g 3=cv) (g9:t.g 9=vi (i+1:Nat)) (gc:t.g 10=g10) (gj:t.g 11=vi j) (hfr:Fm b H0 H) (hrb:RB H b sz ep rows)
  (next:∀(t:T) (H:Heap) (l:List (List FC)),Seg a e rows l→Up c a (i+1) l →
   t.g 0=.c (.sl b 0 n 0 ep sz)→t.g 1=vi a→t.g 2=vi e→t.g 3=cv→t.g 9=vi (i+1:Nat)→t.g 10=g10→Fm b H0 H→RB H b sz ep l→WP tab σ.pins none k ⟨t,[],H⟩ Q) :
  WP tab σ.pins none (.code (Uj σ sz)::k) ⟨t,[],H⟩ Q:=by
 refine aB ?_
 refine bM (fun m s=>∃(j:Nat) (t:T) (H1:Heap) (l:List (List FC)),s=⟨t,[],H1⟩∧j=m∧a≤j∧j≤i∧t.g 0=.c (.sl b 0 n 0 ep sz)∧t.g 1=vi a∧t.g 2=vi e∧t.g 3=cv∧t.g 9=vi (i+1:Nat)∧t.g 10=g10∧t.g 11=vi j ∧
   Fm b H0 H1∧RB H1 b sz ep l∧Seg a e rows l∧Ins c a i j l) j
  ⟨j,_,H,rows,rfl,rfl,haj,by omega,g0,g1,g2,g3,g9,gc,gj,hfr,hrb,Seg.refl _ _ _,hins⟩ ?_
 rintro m s ⟨j,t,H1,l,rfl,rfl,haj,hji,g0,g1,g2,g3,g9,gc,gj,hfr,hrb,hseg,hins⟩ ih;have hlen:=hseg.len;have hg2:=hseg.grid hg;have hW2:∀ r ∈ l,W r:=fun r hr=>hW r (hseg.1.mem_iff.1 hr)
 have hlow2:Low c a e l:=hlow.seg hseg (ax _) (ax _) (by omega) (by omega)
 refine kw_seq ?_;refine kw_seq (kw_region (.inl rfl) ?_);by_cases hj0:j=0
 ·subst hj0;obtain rfl:a=0:=by omega
  simp [gj];refine ah (by simp) ?_
  refine bC (k':=k) rfl ?_;exact next _ _ l hseg hins.front (by simp [g0]) (by simp [g1]) (by simp [g2]) (by simp [g3]) (by simp [g9]) (by simp [gc]) hfr hrb
 obtain⟨d,rfl⟩:∃ d,j=d+1:=⟨j-1,by omega⟩
 obtain⟨x,y,F,ar,J,hx,hy,i1,j1,l1,l2,fD,he,-,-⟩:=hrb.ask hg2 hcv hW2 (hlen.trans hn) (i:=d+1) (j:=d) (by omega) (by omega)
 have c1:((d+1:Nat):Int)=(d:Int)+1:=by omega
 have hge:(1:Int)≤(d:Int)+1:=by omega
 rw [c1]at i1 gj;simp [gj,hge];refine aj (by simp) (aG ?_)
 refine kw_seq ?_;refine aB ?_;refine kw_seq ?_;refine kw_seq (kw_region (.inl rfl) ?_);simp [gj,g0,g3,i1,j1,l1,l2,fD,he,-ak,wrap64 (n:=(d:Int)) (by omega) (by omega)]
 by_cases hc2:c x y<0
 case neg=>
  refine aj (by simp [hc2]) ?_
  refine bC (k':=k) rfl ?_;refine next _ _ l hseg ?_ (by simp [g0]) (by simp [g1]) (by simp [g2]) (by simp [g3]) (by simp [g9]) (by simp [gc]) (hfr.trans (Fm.push _ _)) (hrb.push _)
  by_cases ha:d+1=a
  ·subst ha;exact hins.front
  ·exact hins.stop hc hW2 (by omega) hji (by omega) (LeI.of_le hy hx hc2)
 have had:a≤d:=by
  rcases Nat.lt_or_ge d a with h | h
  ·obtain rfl:a=d+1:=by omega
   exact absurd hc2 (hlow2 (d+1) (by omega) (ax _) (by omega) y x (by simpa using hy) hx)
  ·exact h
 refine ah (by simp [hc2]) (aG ?_)
 obtain⟨x5,y5,H5,H6,-,-,i5,j5,l5,l6,w5,w6,s5,j6,s6,r6,f6⟩:=(hrb.push J).swp hg2 (hlen.trans hn) (i:=d+1) (j:=d) (by omega) (by omega)
 rw [c1]at i5;refine kw_region (.inl rfl) ?_;simp [g0,gj,i5,j5,l5,l6,w5,w6,s5,j6,s6,-ak,-bJ,wrap64 (n:=(d:Int)) (by omega) (by omega)]
 refine au ?_;refine kw_region (.inl rfl) ?_;simp [gj,wrap64 (n:=(d:Int)) (by omega) (by omega)]
 exact ih d _ (by omega) ⟨d,_,H6,swp l (d+1) d,rfl,rfl,had,by omega,by simp [g0],by simp [g1],by simp [g2],by simp [g3],by simp [g9],by simp [gc],by simp,(hfr.trans (Fm.push _ _)).trans f6,r6,
  hseg.trans (iZ (by omega) (by omega) (by omega) (by omega) (by omega)),hins.step hc hW2 (by omega) hji (by omega) hx hy hc2⟩
theorem Qd{n a e i ep b:Nat}{rows:List (List FC)}{H0:Heap}{g10:V}{k:List AItem}{Q:Option ACode→St→Prop}(hcv:Cv tab cv W c)(hn:rows.length=n)(hl:n≤1000000000)(hg:Grid sz rows)(hW:∀ r ∈ rows,W r)
  {t:T} {H:Heap} (hie:i<e) (hen:e≤n)
  (g0:t.g 0=.c (.sl b 0 n 0 ep sz)) (g1:t.g 1=vi a) (g2:t.g 2=vi e) (g3:t.g 3=cv) (g9:t.g 9=vi i) (gc:t.g 10=g10) (gj:t.g 12=vi (i+1:Nat)) (hfr:Fm b H0 H) (hrb:RB H b sz ep rows)
  (next:∀(t:T) (H:Heap) (l:List (List FC)),Seg i e rows l →
   t.g 0=.c (.sl b 0 n 0 ep sz)→t.g 1=vi a→t.g 2=vi e→t.g 3=cv→t.g 9=vi i→t.g 10=g10→Fm b H0 H→RB H b sz ep l→WP tab σ.pins none k ⟨t,[],H⟩ Q) :
  WP tab σ.pins none (.code (Uh σ sz)::k) ⟨t,[],H⟩ Q:=by
 refine aB ?_
 refine bM (fun m s=>∃(d:Nat) (t:T) (H1:Heap) (l:List (List FC)),s=⟨t,[],H1⟩∧d+1+m=e∧i≤d∧t.g 0=.c (.sl b 0 n 0 ep sz)∧t.g 1=vi a∧t.g 2=vi e∧t.g 3=cv∧t.g 9=vi i∧t.g 10=g10∧t.g 12=vi (d+1:Nat) ∧
   Fm b H0 H1∧RB H1 b sz ep l∧Seg i e rows l) (e-(i+1))
  ⟨i,_,H,rows,rfl,by omega,ax _,g0,g1,g2,g3,g9,gc,gj,hfr,hrb,Seg.refl _ _ _⟩ ?_
 rintro m s ⟨d,t,H1,l,rfl,hm,hid,g0,g1,g2,g3,g9,gc,gj,hfr,hrb,hseg⟩ ih;have hlen:=hseg.len;have hg2:=hseg.grid hg;have hW2:∀ r ∈ l,W r:=fun r hr=>hW r (hseg.1.mem_iff.1 hr)
 have c1:((d+1:Nat):Int)=(d:Int)+1:=by omega
 rw [c1]at gj;refine kw_seq ?_;refine kw_seq (kw_region (.inl rfl) ?_);by_cases hlt:d+1<e
 case neg=>
  have hlt':¬ ((d:Int)+1<(e:Int)):=by omega
  simp [gj,g2,hlt'];refine ah (by simp) ?_
  refine bC (k':=k) rfl ?_;exact next _ _ l hseg (by simp [g0]) (by simp [g1]) (by simp [g2]) (by simp [g3]) (by simp [g9]) (by simp [gc]) hfr hrb
 have hlt':(d:Int)+1<(e:Int):=by omega
 simp [gj,g2,hlt'];refine aj (by simp) (aG ?_)
 obtain⟨x,y,F,ar,J,hx,hy,i1,j1,l1,l2,fD,he,-,-⟩:=hrb.ask hg2 hcv hW2 (hlen.trans hn) (i:=d+1) (j:=d) (by omega) (by omega)
 rw [c1]at i1;refine kw_seq ?_;refine aB ?_;refine kw_seq ?_;refine kw_seq (kw_region (.inl rfl) ?_);simp [gj,g0,g3,i1,j1,l1,l2,fD,he,-ak,wrap64 (n:=(d:Int)) (by omega) (by omega)]
 by_cases hc2:c x y<0
 case neg=>
  refine aj (by simp [hc2]) ?_
  refine bC (k':=k) rfl ?_;exact next _ _ l hseg (by simp [g0]) (by simp [g1]) (by simp [g2]) (by simp [g3]) (by simp [g9]) (by simp [gc]) (hfr.trans (Fm.push _ _)) (hrb.push _)
 refine ah (by simp [hc2]) (aG ?_)
 obtain⟨x5,y5,H5,H6,-,-,i5,j5,l5,l6,w5,w6,s5,j6,s6,r6,f6⟩:=(hrb.push J).swp hg2 (hlen.trans hn) (i:=d+1) (j:=d) (by omega) (by omega)
 rw [c1]at i5;refine kw_region (.inl rfl) ?_;simp [g0,gj,i5,j5,l5,l6,w5,w6,s5,j6,s6,-ak,-bJ,wrap64 (n:=(d:Int)) (by omega) (by omega)]
 refine au ?_;refine kw_region (.inl rfl) ?_;simp [gj,wrap64 (n:=(d:Int)+1+1) (by omega) (by omega)]
 exact ih (m-1) _ (by omega) ⟨d+1,_,H6,swp l (d+1) d,rfl,by omega,by omega,by simp [g0],by simp [g1],by simp [g2],by simp [g3],by simp [g9],by simp [gc],by simp,(hfr.trans (Fm.push _ _)).trans f6,r6,
  hseg.trans (iZ (by omega) (by omega) (by omega) (by omega) (by omega))⟩
theorem aE3{H:Heap}{rows:List (List FC)}{n a e b ep:Nat}(hT:tab σ.pins=some (Qe σ sz))(hcv:Cv tab cv W c)(hc:Cmp W c)(hn:rows.length=n)(hl:n≤1000000000)(hrb:RB H b sz ep rows)(hg:Grid sz rows)(hW:∀ r ∈ rows,W r)(hae:a<e)(hen:e≤n)(hlow:Low c a e rows) :
  ∃ r H',Ev tab (.fn σ.pins) [.c (.sl b 0 n 0 ep sz),vi a,vi e,cv] H r H'∧((∃ w:Bool,r=vb w∧Fm b H H'∧∃ l',RB H' b sz ep l'∧Seg a e rows l'∧(w=true→Up c a e l'))):=by
 refine fV hT rfl fun Q hQ=>?_
 refine kw_seq (kw_region (.inl rfl) ?_);simp;refine kw_seq (kw_region (.inl rfl) ?_);simp [wrap64 (n:=(a:Int)+1) (by omega) (by omega)]
 refine kw_seq ?_;refine kw_seq (kw_region (.inl rfl) ?_);simp;refine aB ?_
 refine bM (fun m s=>∃(i g:Nat) (t:T) (H1:Heap) (l:List (List FC)),s=⟨t,[],H1⟩∧g+m=5∧a<i∧i≤e∧t.g 0=.c (.sl b 0 n 0 ep sz)∧t.g 1=vi a∧t.g 2=vi e∧t.g 3=cv∧t.g 9=vi i∧t.g 10=vi g ∧
   Fm b H H1∧RB H1 b sz ep l∧Seg a e rows l∧Up c a i l) 5
  ⟨a+1,0,_,H,rows,rfl,rfl,by omega,by omega,by simp,by simp,by simp,by simp,by simp,by simp,Fm.refl H,hrb,Seg.refl _ _ _,Up.one (by omega)⟩ ?_
 rintro m s ⟨i,g,t,H1,l,rfl,hm,hai,hie,g0,g1,g2,g3,g9,gc,hfr,hrb,hseg,hup⟩ ih;refine kw_seq ?_;refine kw_seq (kw_region (.inl rfl) ?_);simp [gc];by_cases h5:g<5
 case neg=>
  have h5':¬ ((g:Int)<5):=by omega
  refine ah (by simp [h5']) ?_
  refine bC (k':=[.code (BH σ sz)]) rfl ?_;refine kw_seq (kw_region (.inl rfl) ?_);simp;exact aH (hQ _ _ (vb false) rfl (by simp [Km.results,aZ]) ⟨false,rfl,hfr,l,hrb,hseg,fun h=>nomatch h⟩)
 have h5':(g:Int)<5:=by omega
 refine aj (by simp [h5']) (aG ?_)
 refine kw_seq ?_;refine aB ?_;refine kw_seq ?_;have hlen:=hseg.len;have grid:∀ {l},Seg a e rows l→Grid sz l:=fun h=>h.grid hg
 have wall:∀ {l},Seg a e rows l→∀ r ∈ l,W r:=fun h r hr=>hW r (h.1.mem_iff.1 hr)
 refine VK hcv hc (hlen.trans hn) hl (grid hseg) (wall hseg) (H0:=H) hai hie hen hup (by simp [g0]) (by simp [g1]) (by simp [g2]) (by simp [g3]) (by simp [g9]) (by simp [gc];rfl) hfr hrb ?_
 intro t H2 i' hi hup hstop g0 g1 g2 g3 g9 gc hfr hrb;refine kw_seq ?_;refine kw_seq (kw_region (.inl rfl) ?_);simp [g9,g2];by_cases aY2:i'=e
 ·subst aY2;refine aj (by simp) ?_
  refine kw_seq (kw_region (.inl rfl) ?_);simp;exact aH (hQ _ _ (vb true) rfl (by simp [Km.results,aZ]) ⟨true,rfl,hfr,l,hrb,hseg,fun _=>hup⟩)
 refine ah (by simp [aY2]) (aG ?_)
 refine kw_seq ?_;refine kw_seq (kw_region (.inl rfl) ?_);simp [g1,g2,wrap64 (n:=(e:Int)-a) (by omega) (by omega)]
 by_cases h50:(e:Int)-a<50
 ·refine aj (by simp;omega) ?_
  refine kw_seq (kw_region (.inl rfl) ?_);simp;exact aH (hQ _ _ (vb false) rfl (by simp [Km.results,aZ]) ⟨false,rfl,hfr,l,hrb,hseg,fun h=>nomatch h⟩)
 refine ah (by simp;omega) (aG ?_)
 obtain⟨d,rfl⟩:∃ d,i'=d+1:=⟨i'-1,by omega⟩
 have c1:((d+1:Nat):Int)=(d:Int)+1:=by omega
 obtain⟨x5,y5,H5,H6,hx5,hy5,i5,j5,l5,l6,w5,w6,s5,j6,s6,r6,f6⟩:=hrb.swp (grid hseg) (hlen.trans hn) (i:=d+1) (j:=d) (by omega) (by omega)
 have a9f:c x5 y5<0:=by
  rcases hstop with h | h
  ·omega
  ·exact h x5 y5 hx5 (by simpa using hy5)
 have sg1:Seg a e rows (swp l (d+1) d):=hseg.trans (iZ (by omega) (by omega) (by omega) (by omega) (by omega))
 rw [c1]at i5 g9;refine kw_seq (kw_region (.inl rfl) ?_);simp [g0,g9,i5,j5,l5,l6,w5,w6,s5,j6,s6,-ak,-bJ,wrap64 (n:=(d:Int)) (by omega) (by omega)]
 have fin:∀(t:T) (H3:Heap) (l3:List (List FC)),t.g 0=.c (.sl b 0 n 0 ep sz)→t.g 1=vi a→t.g 2=vi e→t.g 3=cv→t.g 9=vi (d+1:Nat)→t.g 10=vi g→Fm b H H3→RB H3 b sz ep l3→Seg a e rows l3→Up c a (d+1) l3 →
   WP tab σ.pins none [.inBlock 1,.code (IV σ sz),.inLoop (Qg σ sz),.inBlock 0,.code (BH σ sz)] ⟨t,[],H3⟩ Q:=by
  intro t H3 l3 g0 g1 g2 g3 g9 gc hfr hrb hseg hup;refine au (kw_region (.inl rfl) ?_);simp [gc,wrap64 (n:=(g:Int)+1) (by omega) (by omega)]
  exact ih (m-1) _ (by omega) ⟨d+1,g+1,_,H3,l3,rfl,by omega,by omega,by omega,by simp [g0],by simp [g1],by simp [g2],by simp [g3],by simp [g9],by simp,hfr,hrb,hseg,hup⟩
 have right:∀(t:T) (H3:Heap) (l3:List (List FC)),t.g 0=.c (.sl b 0 n 0 ep sz)→t.g 1=vi a→t.g 2=vi e→t.g 3=cv→t.g 9=vi (d+1:Nat)→t.g 10=vi g→Fm b H H3→RB H3 b sz ep l3→Seg a e rows l3→Up c a (d+1) l3 →
   WP tab σ.pins none [.code (Ui σ sz),.inBlock 1,.code (IV σ sz),.inLoop (Qg σ sz),.inBlock 0,.code (BH σ sz)] ⟨t,[],H3⟩ Q:=by
  intro t H3 l3 g0 g1 g2 g3 g9 gc hfr hrb hseg hup;have hlen:=hseg.len;rw [c1]at g9;refine kw_seq ?_;refine kw_region (.inl rfl) ?_;simp [g9,g2,wrap64 (n:=(e:Int)-((d:Int)+1)) (by omega) (by omega)]
  by_cases h2:(2:Int)≤(e:Int)-((d:Int)+1)
  case neg=>
   refine ah (by simp;omega) (aG ?_)
   exact fin _ H3 l3 (by simp [g0]) (by simp [g1]) (by simp [g2]) (by simp [g3]) (by simp [g9]) (by simp [gc]) hfr hrb hseg hup
  refine aj (by simp;omega) ?_
  refine kw_seq (kw_region (.inl rfl) ?_);simp [g9,wrap64 (n:=(d:Int)+1+1) (by omega) (by omega)]
  refine Qd hcv (hlen.trans hn) hl (grid hseg) (wall hseg) (H0:=H) (a:=a) (i:=d+1) (e:=e) (g10:=vi g) (by omega) hen (by simp [g0]) (by simp [g1]) (by simp [g2]) (by simp [g3]) (by simp [g9]) (by simp [gc]) (by simp) hfr hrb ?_
  intro t H4 l4 sg4 g0 g1 g2 g3 g9 gc hfr hrb;exact fin t H4 l4 g0 g1 g2 g3 g9 gc hfr hrb (hseg.trans (sg4.mono (by omega) (ax _))) (hup.of fun k _ hk=>sg4.lt hk)
 refine kw_seq ?_;refine kw_seq (kw_region (.inl rfl) ?_);simp [g9,g1,wrap64 (n:=(d:Int)+1-a) (by omega) (by omega)]
 by_cases h2:(2:Int)≤(d:Int)+1-a
 case neg=>
  refine ah (by simp;omega) (aG ?_)
  exact right _ H6 _ (by simp [g0]) (by simp [g1]) (by simp [g2]) (by simp [g3]) (by simp [g9]) (by simp [gc]) (hfr.trans f6) r6 sg1 (Up.one (by omega))
 refine aj (by simp;omega) ?_
 refine kw_seq (kw_region (.inl rfl) ?_);simp [g9,wrap64 (n:=(d:Int)) (by omega) (by omega)]
 have hl1:=sg1.len;refine VL hcv hc (hl1.trans hn) hl (grid sg1) (wall sg1) (H0:=H) (a:=a) (i:=d) (j:=d) (e:=e) (g10:=vi g) (by omega) rfl (by omega) hen (hlow.seg sg1 (ax _) (ax _) (by omega) (by omega)) ?_ (by simp [g0]) (by simp [g1]) (by simp [g2]) (by simp [g3]) (by simp [g9]) (by simp [gc]) (by simp) (hfr.trans f6) r6 ?_
 ·intro p q h1 h2 h3 h4;have g:∀ k,k<d→(swp l (d+1) d)[k]?=l[k]?:=fun k hk=>by rw [swp_get (by omega) (by omega),if_neg (by omega),if_neg (by omega)]
  exact LeI.get (fun x y=>hup p q x y h1 h2 (by omega)) (g p (by omega)) (g q (by omega))
 intro t H4 l4 sg4 up4 g0 g1 g2 g3 g9 gc hfr hrb;exact right t H4 l4 g0 g1 g2 g3 g9 gc hfr hrb (sg1.trans sg4) up4
end
end
section
def Kid(i ch:Nat):Prop:=ch=2*i+1∨ch=2*i+2
def Hp(c:List FC→List FC→Int)(f h k:Nat)(l:List (List FC)):Prop:=∀ i ch,k≤i→Kid i ch→ch<h→LeI c l (f+ch) (f+i)
def HpX(c:List FC→List FC→Int)(f h k r:Nat)(l:List (List FC)):Prop:=
 (∀ i ch,k≤i→i≠r→Kid i ch→ch<h→LeI c l (f+ch) (f+i))∧∀ i ch,k≤i→Kid i r→Kid r ch→ch<h→LeI c l (f+ch) (f+i)
section
variable{W:List FC→Prop}{c:List FC→List FC→Int}{l:List (List FC)}
theorem Hp.x{f h k:Nat}(h1:Hp c f h (k+1) l):HpX c f h k k l:=
 ⟨fun i ch a b d e=>h1 i ch (by omega) d e,fun i ch a b d e=>by unfold Kid at b;omega⟩
theorem HpX.leaf{f h k r:Nat}(hx:HpX c f h k r l)(hr:h≤2*r+1):Hp c f h k l:=fun i ch a b d=>by
 by_cases e:i=r
 ·subst e;unfold Kid at b;omega
 ·exact hx.1 i ch a e b d
theorem HpX.stop{f h k r ch:Nat}(hc:Cmp W c)(hW:∀ r ∈ l,W r)(hx:HpX c f h k r l)(hl:f+h≤l.length)(hk:Kid r ch)(hlt:ch<h)(hmax:∀ q,Kid r q→q<h→LeI c l (f+q) (f+ch))(hle:LeI c l (f+ch) (f+r)):Hp c f h k l:=fun i q a b d=>by
 by_cases e:i=r
 ·subst e;exact(hmax q b d).trans hc hW hle (by omega)
 ·exact hx.1 i q a e b d
theorem HpX.step{f h k r ch:Nat}(hc:Cmp W c)(hW:∀ r ∈ l,W r)(hx:HpX c f h k r l)(hl:f+h≤l.length)(hkr:k≤r)(hk:Kid r ch)(hlt:ch<h)(hmax:∀ q,Kid r q→q<h→LeI c l (f+q) (f+ch)){x y:List FC}(hxr:l[f+r]?=some x)(hyc:l[f+ch]?=some y)(hxy:c x y<0) :
  HpX c f h k ch (swp l (f+r) (f+ch)):=by
 have hrc:r<ch:=by unfold Kid at hk;omega
 have g:∀ q,(swp l (f+r) (f+ch))[f+q]?=if q=ch then l[f+r]? else if q=r then l[f+ch]? else l[f+q]?:=fun q=>by
  rw [swp_get (by omega) (by omega)]
  by_cases e1:q=ch
  ·subst e1;simp
  rw [if_neg (by omega),if_neg e1]
  by_cases e2:q=r
  ·subst e2;simp
  rw [if_neg (by omega),if_neg e2]
 refine⟨fun i q hi hne hq hqh=>?_,fun i q hi h1 h2 hqh=>?_⟩
 ·by_cases e:i=r
  ·subst e;by_cases e2:q=ch
   ·subst e2;exact(LeI.of_lt hc hW hxr hyc hxy).get (by rw [g,if_pos rfl]) (by rw [g,if_neg (by omega),if_pos rfl])
   ·exact(hmax q hq hqh).get (by rw [g,if_neg e2,if_neg (by unfold Kid at hq;omega)]) (by rw [g,if_neg (by omega),if_pos rfl])
  ·by_cases e2:q=r
   ·subst e2;exact(hx.2 i ch hi hq hk hlt).get (by rw [g,if_neg (by omega),if_pos rfl]) (by rw [g,if_neg hne,if_neg e])
   ·have e3:q≠ch:=by unfold Kid at hq hk;omega
    exact(hx.1 i q hi e hq hqh).get (by rw [g,if_neg e3,if_neg e2]) (by rw [g,if_neg hne,if_neg e])
 ·have e:i=r:=by unfold Kid at h1 hk;omega
  subst e;have e3:q≠ch∧q≠i:=by unfold Kid at h2;omega
  exact(hx.1 ch q (by omega) (by omega) h2 hqh).get (by rw [g,if_neg e3.1,if_neg e3.2]) (by rw [g,if_neg (by omega),if_pos rfl])
theorem LeI.self{i:Nat}(hc:Cmp W c)(hW:∀ r ∈ l,W r):LeI c l i i:=fun x y hx hy=>by
 rw [hx]at hy;cases hy;have:=aL hx;intro q;exact hc.asym (hW _ this) (hW _ this) q q
theorem Hp.top{f h:Nat}(hc:Cmp W c)(hW:∀ r ∈ l,W r)(hp:Hp c f h 0 l)(hl:f+h≤l.length):∀ k,k<h→LeI c l (f+k) f:=by
 intro k
 induction k using Nat.strongRecOn with
 | ind k ih=>
  intro hk;rcases cB k with rfl | h0
  ·exact LeI.self hc hW
  ·have h1:=hp ((k-1) / 2) k (by omega) (by unfold Kid;omega) hk
   exact h1.trans hc hW (ih ((k-1) / 2) (by omega) (by omega)) (by omega)
def Done(c:List FC→List FC→Int)(f h j:Nat)(l:List (List FC)):Prop:=∀ p q,p<q→j≤q→q<h→LeI c l (f+p) (f+q)
theorem Done.swap{f h i:Nat}(hc:Cmp W c)(hW:∀ r ∈ l,W r)(hd:Done c f h (i+1) l)(hp:Hp c f (i+1) 0 l)(hi:i<h)(hl:f+h≤l.length):Done c f h i (swp l f (f+i))∧HpX c f i 0 0 (swp l f (f+i)):=by
 have g:∀ q,(swp l f (f+i))[f+q]?=if q=i then l[f]? else if q=0 then l[f+i]? else l[f+q]?:=fun q=>by
  rw [swp_get (by omega) (by omega)]
  by_cases e1:q=i
  ·subst e1;simp
  rw [if_neg (by omega),if_neg e1]
  by_cases e2:q=0
  ·subst e2;simp
  rw [if_neg (by omega),if_neg e2]
 refine⟨fun p q hpq hq hqh=>?_,fun x ch _ hx hk hch=>?_,fun x ch _ h1=>by unfold Kid at h1;omega⟩
 ·have top:=hp.top hc hW (by omega)
  by_cases e:q=i
  ·subst e;by_cases e2:p=0
   ·subst e2;exact(top q (by omega)).get (by rw [g,if_neg (by omega),if_pos rfl]) (by rw [g,if_pos rfl])
   ·exact(top p (by omega)).get (by rw [g,if_neg (by omega),if_neg e2]) (by rw [g,if_pos rfl])
  ·have gq:(swp l f (f+i))[f+q]?=l[f+q]?:=by rw [g,if_neg e,if_neg (by omega)]
   by_cases e1:p=i
   ·subst e1;exact(hd 0 q (by omega) (by omega) hqh).get (by rw [g,if_pos rfl,Nat.add_zero]) gq
   by_cases e2:p=0
   ·subst e2;exact(hd i q (by omega) (by omega) hqh).get (by rw [g,if_neg e1,if_pos rfl]) gq
   ·exact(hd p q hpq (by omega) hqh).get (by rw [g,if_neg e1,if_neg e2]) gq
 ·have h1:x<ch:=by unfold Kid at hk;omega
  have h2:ch≠0:=by omega
  exact(hp x ch (by omega) hk (by omega)).get (by rw [g,if_neg (by omega),if_neg h2]) (by rw [g,if_neg (by omega),if_neg hx])
theorem Done.seg{f h i:Nat}{l':List (List FC)}(hd:Done c f h i l)(hs:Seg f (f+i) l l')(hl:f+h≤l.length)(hi:i≤h):Done c f h i l':=by
 intro p q hpq hq hqh x y hx hy;rw [hs.ge (by omega)]at hy
 by_cases c2:i≤p
 ·rw [hs.ge (by omega)]at hx
  exact hd p q hpq hq hqh x y hx hy
 obtain⟨j,j1,j2,hj⟩:=hs.mem (by omega) (by omega) (by omega) (by omega) hx
 have:=hd (j-f) q (by omega) hq hqh x y
 rw [show f+(j-f)=j by omega]at this
 exact this hj hy
theorem Done.up{f h:Nat}(hd:Done c f h 0 l):Up c f (f+h) l:=fun i j x y h1 h2 h3 hx hy=>by
 have:=hd (i-f) (j-f) (by omega) (by omega) (by omega) x y
 rw [show f+(i-f)=i by omega,show f+(j-f)=j by omega]at this
 exact this hx hy
end
end
section
section
variable{tab:Nat→Option AFunc}{σ:Srt}{sz:Nat}{H:Heap}{b ep:Nat}{rows:List (List FC)}{cv:V}{W:List FC→Prop}{c:List FC→List FC→Int}
theorem TU(hT:tab σ.sift=some (IJ σ sz))(hcv:Cv tab cv W c)(hc:Cmp W c){n lo h f:Nat}(hn:rows.length=n)(hl:n≤1000000000)(hrb:RB H b sz ep rows)(hg:Grid sz rows)(hW:∀ r ∈ rows,W r)(hlo:lo≤h)(hfh:f+h≤n)(hx:HpX c f h lo lo rows) :
  ∃ r H',Ev tab (.fn σ.sift) [.c (.sl b 0 n 0 ep sz),vi lo,vi h,vi f,cv] H r H'∧(r=.t []∧Fm b H H'∧∃ l',RB H' b sz ep l'∧Seg f (f+h) rows l'∧Hp c f h lo l'):=by
 refine fV hT rfl fun Q hQ=>?_
 refine kw_seq (kw_region (.inl rfl) ?_);simp;refine aB ?_
 refine bM (fun m s=>∃(r:Nat) (t:T) (H1:Heap) (l:List (List FC)),s=⟨t,[],H1⟩∧m=h-r∧lo≤r∧r≤h∧t.g 0=.c (.sl b 0 n 0 ep sz)∧t.g 2=vi h∧t.g 3=vi f∧t.g 4=cv∧t.g 10=vi r ∧
  Fm b H H1∧RB H1 b sz ep l∧Seg f (f+h) rows l∧HpX c f h lo r l) _
  ⟨lo,_,H,rows,rfl,rfl,by omega,hlo,by simp,by simp,by simp,by simp,by simp,Fm.refl H,hrb,Seg.refl _ _ _,hx⟩ ?_
 rintro m s ⟨r,t,H1,l,rfl,rfl,hlr,hrh,g0,g2,g3,g4,g10,hfr,hrb,hseg,hx⟩ ih;have hlen:=hseg.len;have hg2:=hseg.grid hg;have hW2:∀ r ∈ l,W r:=fun r hr=>hW r (hseg.1.mem_iff.1 hr)
 have cf:∀ q:Nat,((f+q:Nat):Int)=(f:Int)+q:=fun q=>by omega
 refine aB ?_;refine kw_seq (kw_region (.inl rfl) ?_);simp [g10,wrap64 (n:=(2:Int)*r) (by omega) (by omega),wrap64 (n:=(2:Int)*r+1) (by omega) (by omega)]
 refine kw_seq ?_;refine kw_seq (kw_region (.inl rfl) ?_);simp [g2];by_cases aYZ:h≤2*r+1
 ·refine aj (by simp;omega) ?_
  refine bC (k':=[]) rfl ?_;exact nS (hQ _ _ _ rfl rfl ⟨rfl,hfr,l,hrb,hseg,hx.leaf aYZ⟩)
 refine ah (by simp;omega) (aG ?_)
 refine kw_seq ?_
 have go:∀(t:T) (H2:Heap) (ch:Nat),Kid r ch→ch<h→(∀ q,Kid r q→q<h→LeI c l (f+q) (f+ch))→t.g 0=.c (.sl b 0 n 0 ep sz)→t.g 2=vi h→t.g 3=vi f→t.g 4=cv→t.g 10=vi r→t.g 11=vi ch→Fm b H H2→RB H2 b sz ep l →
   WP tab σ.sift none [.code (TV σ sz),.inBlock 1,.inLoop (afB σ sz),.inBlock 0] ⟨t,[],H2⟩ Q:=by
  intro t H2 ch hk hch hmax g0 g2 g3 g4 g10 g11 hfr hrb;obtain⟨x,y,F,ar,J,hxr,hyc,i1,j1,l1,l2,fD,he,-,-⟩:=hrb.ask hg2 hcv hW2 (hlen.trans hn) (i:=f+r) (j:=f+ch) (by omega) (by omega)
  rw [cf]at i1 j1;refine kw_seq ?_;refine kw_seq (kw_region (.inl rfl) ?_);simp [g0,g3,g4,g10,g11,i1,j1,l1,l2,fD,he,-ak,wrap64 (n:=(f:Int)+r) (by omega) (by omega),wrap64 (n:=(f:Int)+ch) (by omega) (by omega)]
  by_cases hlt:c x y<0
  case neg=>
   refine aj (by simp [hlt]) ?_
   exact aH (hQ _ _ _ rfl rfl ⟨rfl,hfr.trans (Fm.push _ _),l,hrb.push _,hseg,hx.stop hc hW2 (by omega) hk hch hmax (LeI.of_le hyc hxr hlt)⟩)
  refine ah (by simp [hlt]) (aG ?_)
  obtain⟨x5,y5,H5,H6,-,-,i5,j5,l5,l6,w5,w6,s5,j6,s6,r6,f6⟩:=(hrb.push J).swp hg2 (hlen.trans hn) (i:=f+r) (j:=f+ch) (by omega) (by omega)
  rw [cf]at i5 j5 j6;refine kw_seq (kw_region (.inl rfl) ?_);simp [g0,g3,g10,g11,i5,j5,l5,l6,w5,w6,s5,j6,s6,-ak,-bJ,wrap64 (n:=(f:Int)+r) (by omega) (by omega),wrap64 (n:=(f:Int)+ch) (by omega) (by omega)]
  refine kw_region (.inl rfl) ?_;simp [g11];refine au ?_;have hrc:r<ch:=by unfold Kid at hk;omega
  exact ih _ _ (by omega) ⟨ch,_,H6,_,rfl,rfl,by omega,by omega,by simp [g0],by simp [g2],by simp [g3],by simp [g4],by simp,(hfr.trans (Fm.push _ _)).trans f6,r6,
   hseg.trans (iZ (by omega) (by omega) (by omega) (by omega) (by omega)),hx.step hc hW2 (by omega) hlr hk hch hmax hxr hyc hlt⟩
 refine kw_seq ?_;refine kw_region (.inl rfl) ?_;by_cases h2:2*r+2<h
 case neg=>
  have h2':¬ ((2:Int)*r+1+1<h):=by omega
  simp [g2,h2',wrap64 (n:=(2:Int)*r+1+1) (by omega) (by omega)]
  refine ah (by simp) (aG ?_)
  refine go _ H1 (2*r+1) (.inl rfl) (by omega) (fun q hq hqh=>?_) (by simp [g0]) (by simp [g2]) (by simp [g3]) (by simp [g4]) (by simp [g10]) (by simp) hfr hrb
  have:q=2*r+1:=by unfold Kid at hq;omega
  subst this;exact LeI.self hc hW2
 have h2':((2:Int)*r+1+1<h):=by omega
 obtain⟨x,y,F,ar,J,hxr,hyc,i1,j1,l1,l2,fD,he,-,-⟩:=hrb.ask hg2 hcv hW2 (hlen.trans hn) (i:=f+(2*r+1)) (j:=f+(2*r+2)) (by omega) (by omega)
 have e1:((f+(2*r+1):Nat):Int)=(f:Int)+(2*r+1):=by omega
 have e2:((f+(2*r+2):Nat):Int)=(f:Int)+(2*r+1)+1:=by omega
 rw [e1]at i1;rw [e2]at j1;simp [g0,g2,g3,g4,h2',i1,j1,l1,l2,fD,he,-ak,wrap64 (n:=(2:Int)*r+1+1) (by omega) (by omega),wrap64 (n:=(f:Int)+(2*r+1)) (by omega) (by omega),wrap64 (n:=(f:Int)+(2*r+1)+1) (by omega) (by omega)]
 by_cases hlt:c x y<0
 ·refine aj (by simp [hlt]) ?_
  refine kw_region (.inl rfl) ?_;simp [wrap64 (n:=(2:Int)*r+1+1) (by omega) (by omega)]
  refine go _ _ (2*r+2) (.inr rfl) (by omega) (fun q hq hqh=>?_) (by simp [g0]) (by simp [g2]) (by simp [g3]) (by simp [g4]) (by simp [g10]) (by simp;omega) (hfr.trans (Fm.push _ _)) (hrb.push _)
  rcases hq with rfl | rfl
  ·exact LeI.of_lt hc hW2 hxr hyc hlt
  ·exact LeI.self hc hW2
 ·refine ah (by simp [hlt]) (aG ?_)
  refine go _ _ (2*r+1) (.inl rfl) (by omega) (fun q hq hqh=>?_) (by simp [g0]) (by simp [g2]) (by simp [g3]) (by simp [g4]) (by simp [g10]) (by simp) (hfr.trans (Fm.push _ _)) (hrb.push _)
  rcases hq with rfl | rfl
  ·exact LeI.self hc hW2
  ·exact LeI.of_le hyc hxr hlt
theorem aHJ(hT:tab σ.heap=some (QK σ sz))(hS:tab σ.sift=some (IJ σ sz))(hcv:Cv tab cv W c)(hc:Cmp W c){n a e:Nat}(hn:rows.length=n)(hl:n≤1000000000)(hrb:RB H b sz ep rows)(hg:Grid sz rows)(hW:∀ r ∈ rows,W r)(hae:a<e)(hen:e≤n) :
  ∃ r H',Ev tab (.fn σ.heap) [.c (.sl b 0 n 0 ep sz),vi a,vi e,cv] H r H'∧(r=.t []∧Fm b H H'∧∃ l',RB H' b sz ep l'∧Seg a e rows l'∧Up c a e l'):=by
 obtain⟨h,rfl⟩:∃ h,e=a+h:=⟨e-a,by omega⟩
 have hw:IntKind.i64.wrap ((a:Int)+h-a)=h:=by rw [wrap64 (by omega) (by omega)];omega
 have hq:bW .quo (vi ((h:Int)-1)) (vi 2)=some (vi (((h-1) / 2:Nat):Int)):=by
  have:=aEY (a:=h-1) (b:=2) (by omega) (by omega)
  rwa [show((h-1:Nat):Int)=(h:Int)-1 by omega]at this
 refine fV hT rfl fun Q hQ=>?_
 refine kw_seq (kw_region (.inl rfl) ?_);simp;refine kw_seq (kw_region (.inl rfl) ?_);simp;refine kw_seq (kw_region (.inl rfl) ?_);simp [hw];have grid:∀ {l},Seg a (a+h) rows l→Grid sz l:=fun h=>h.grid hg
 have wall:∀ {l},Seg a (a+h) rows l→∀ r ∈ l,W r:=fun h r hr=>hW r (h.1.mem_iff.1 hr)
 refine kw_seq ?_;refine kw_seq (kw_region (.inl rfl) ?_);simp [hq,wrap64 (n:=(h:Int)-1) (by omega) (by omega)]
 refine aB ?_
 refine bM (fun m s=>∃(t:T) (H1:Heap) (l:List (List FC)),s=⟨t,[],H1⟩∧m≤h∧t.g 0=.c (.sl b 0 n 0 ep sz)∧t.g 3=cv∧t.g 8=vi a∧t.g 9=vi 0∧t.g 10=vi h∧t.g 11=vi ((m:Int)-1) ∧
  Fm b H H1∧RB H1 b sz ep l∧Seg a (a+h) rows l∧Hp c a h m l) ((h-1) / 2+1)
  ⟨_,H,rows,rfl,by omega,by simp,by simp,by simp,by simp,by simp,by simp,Fm.refl H,hrb,Seg.refl _ _ _,fun i ch h1 h2 h3=>by unfold Kid at h2;omega⟩ ?_
 rintro m s ⟨t,H1,l,rfl,hmh,g0,g3,g8,g9,g10,g11,hfr,hrb,hseg,hp⟩ ih;have hlen:=hseg.len;refine kw_seq ?_;refine kw_seq (kw_region (.inl rfl) ?_);simp [g11];rcases cB m with rfl | hm0
 case inr=>
  obtain⟨d,rfl⟩:∃ d,m=d+1:=⟨m-1,by omega⟩
  have cd:((d+1:Nat):Int)-1=d:=by omega
  rw [cd]at g11;refine aj (by simp;omega) (aG ?_)
  obtain⟨r,H2,he,rfl,f2,l2,r2,s2,p2⟩:=TU hS hcv hc (hlen.trans hn) hl hrb (grid hseg) (wall hseg) (lo:=d) (h:=h) (f:=a) (by omega) hen hp.x
  refine kw_seq ?_;refine aB (kw_region (.inl rfl) ?_);simp [g0,g3,g8,g10,g11,he.eq];refine au (kw_region (.inl rfl) ?_);simp [g11,wrap64 (n:=(d:Int)-1) (by omega) (by omega)]
  exact ih d _ (by omega) ⟨_,H2,l2,rfl,by omega,by simp [g0],by simp [g3],by simp [g8],by simp [g9],by simp [g10],by simp,hfr.trans f2,r2,hseg.trans s2,p2⟩
 refine ah (by simp) ?_
 refine bC (k':=[.code (UN σ sz)]) rfl ?_;refine kw_seq (kw_region (.inl rfl) ?_);simp [g10,wrap64 (n:=(h:Int)-1) (by omega) (by omega)]
 refine aB ?_
 refine bM (fun m s=>∃(t:T) (H1:Heap) (l:List (List FC)),s=⟨t,[],H1⟩∧m≤h∧t.g 0=.c (.sl b 0 n 0 ep sz)∧t.g 3=cv∧t.g 8=vi a∧t.g 9=vi 0∧t.g 12=vi ((m:Int)-1) ∧
  Fm b H H1∧RB H1 b sz ep l∧Seg a (a+h) rows l∧Hp c a m 0 l∧Done c a h m l) h
  ⟨_,H1,l,rfl,by omega,by simp [g0],by simp [g3],by simp [g8],by simp [g9],by simp,hfr,hrb,hseg,hp,fun p q h1 h2 h3=>by omega⟩ ?_
 rintro m s ⟨t,H1,l,rfl,hmh,g0,g3,g8,g9,g12,hfr,hrb,hseg,hp,hd⟩ ih;have hlen:=hseg.len;refine kw_seq ?_;refine kw_seq (kw_region (.inl rfl) ?_);simp [g12];rcases cB m with rfl | hm0
 ·refine ah (by simp) ?_
  refine bC (k':=[]) rfl ?_;exact nS (hQ _ _ _ rfl rfl ⟨rfl,hfr,l,hrb,hseg,hd.up⟩)
 obtain⟨d,rfl⟩:∃ d,m=d+1:=⟨m-1,by omega⟩
 have cd:((d+1:Nat):Int)-1=d:=by omega
 rw [cd]at g12;refine aj (by simp;omega) (aG ?_)
 obtain⟨x5,y5,H5,H6,-,-,i5,j5,l5,l6,w5,w6,s5,j6,s6,r6,f6⟩:=hrb.swp (grid hseg) (hlen.trans hn) (i:=a) (j:=a+d) (by omega) (by omega)
 have ce:((a+d:Nat):Int)=(a:Int)+d:=by omega
 rw [ce]at j5 j6;obtain⟨hd2,hx2⟩:=hd.swap hc (wall hseg) hp (by omega) (by omega)
 have sg1:Seg a (a+h) rows (swp l a (a+d)):=hseg.trans (iZ (by omega) (by omega) (by omega) (by omega) (by omega))
 obtain⟨r,H2,he,rfl,f2,l2,r2,s2,p2⟩:=TU hS hcv hc (sg1.len.trans hn) hl r6 (grid sg1) (wall sg1) (lo:=0) (h:=d) (f:=a) (by omega) (by omega) hx2
 have he:=he.eq;simp at he;refine kw_seq ?_;refine aB ?_;refine kw_seq (kw_region (.inl rfl) ?_);simp [g0,g8,g12,i5,j5,l5,l6,w5,w6,s5,j6,s6,-ak,-bJ,wrap64 (n:=(a:Int)+d) (by omega) (by omega)]
 refine kw_region (.inl rfl) ?_;simp [g0,g3,g8,g9,g12,he];refine au (kw_region (.inl rfl) ?_);simp [g12,wrap64 (n:=(d:Int)-1) (by omega) (by omega)]
 exact ih d _ (by omega) ⟨_,H2,l2,rfl,by omega,by simp [g0],by simp [g3],by simp [g8],by simp [g9],by simp,(hfr.trans f6).trans f2,r2,sg1.trans (s2.mono (ax _) (by omega)),p2,
  hd2.seg s2 (by rw [sg1.len];omega) (by omega)⟩
end
end
section
abbrev vu(n:Int):V:=.c (.f (.int .u64 n))
def NU(H:Heap)(p:Nat):Prop:=∃ k:Int,H[p]?=some (.box [.f (.int .u64 k)] 0)
theorem aVU{a b:Int}(hb:0≤b):bW .shl (vu a) (vu b)=some (vu (IntKind.wrap .u64 (a*2 ^ (min b.toNat 64)))):=by
 simp only [bW,if_neg (show¬ b<0 by omega)];rfl
theorem aVT{a b:Int}(hb:0≤b):bW .shr (vu a) (vu b)=some (vu (a.fdiv (2 ^ (min b.toNat 64)))):=by
 simp only [bW,if_neg (show¬ b<0 by omega)];rfl
theorem aVH{a b:Int}:bW .xor (vu a) (vu b)=some (vu (IntKind.wrap .u64 (BitVec.ofInt 64 a ^^^ BitVec.ofInt 64 b).toNat)):=by
 simp only [bW,qj,if_true];rfl
theorem FK(n:Int):IntKind.wrap .u64 n=n % 18446744073709551616:=rfl
theorem ahX{x:Int}{k:Nat}(hk:k≤62):∃ o:Nat,o<2 ^ k∧bW .and (vu x) (vu ((2:Int) ^ k-1))=some (vu o):=by
 have h2:(2:Nat) ^ k≤2 ^ 62:=eo (by omega) hk
 have h2':(2:Nat) ^ 62=4611686018427387904:=by decide
 have hpos:0<(2:Nat) ^ k:=Nat.pow_pos (by omega)
 have e:BitVec.ofInt 64 ((2:Int) ^ k-1)=BitVec.ofNat 64 (2 ^ k-1):=by
  have:((2:Int) ^ k-1)=((2 ^ k-1:Nat):Int):=by
   rw [Int.ofNat_sub hpos];simp
  rw [this,BitVec.ofInt_natCast]
 refine⟨(BitVec.ofInt 64 x).toNat % 2 ^ k,Nat.mod_lt _ hpos,?_⟩
 have e2:(BitVec.ofInt 64 x &&& BitVec.ofInt 64 ((2:Int) ^ k-1)).toNat=(BitVec.ofInt 64 x).toNat % 2 ^ k:=by
  rw [e,BitVec.toNat_and,BitVec.toNat_ofNat,Nat.mod_eq_of_lt (a:=2 ^ k-1) (by omega),Nat.and_two_pow_sub_one_eq_mod]
 have h3:(BitVec.ofInt 64 x).toNat % 2 ^ k<2 ^ k:=Nat.mod_lt _ hpos;simp only [bW,qj,if_true]
 show some (vu (IntKind.wrap .u64 ((BitVec.ofInt 64 x &&& BitVec.ofInt 64 ((2:Int) ^ k-1)).toNat)))=_
 rw [e2,FK,Int.emod_eq_of_lt (by omega) (by omega)]
section
variable{tab:Nat→Option AFunc}{σ:Srt}{sz:Nat}{H:Heap}{b ep:Nat}{rows:List (List FC)}{cv:V}{W:List FC→Prop}{c:List FC→List FC→Int}
theorem NU.fm{p b:Nat}{H H':Heap}(h:NU H p)(hf:Fm b H H')(e:p≠b):NU H' p:=by
 obtain⟨k,h⟩:=h;exact⟨k,hf.get h e⟩
theorem Fm.far{p b:Nat}{H H1 H2:Heap}(h:Fm b H H1)(hp:H.length≤p)(h':Fm p H1 H2):Fm b H H2:=
 ⟨bw h.1 h'.1,fun b' n l=>(h'.2 b' (by omega) (Nat.lt_of_lt_of_le l h.1)).trans (h.2 b' n l)⟩
theorem aO3(a:Int)(b:Int)(hb:0≤b):∃ v,bW .shl (.c (.f (.int .u64 a))) (.c (.f (.int .u64 b)))=some (.c (.f (.int .u64 v))):=⟨_,aVU hb⟩
theorem aVS(a:Int)(b:Int)(hb:0≤b):∃ v,bW .shr (.c (.f (.int .u64 a))) (.c (.f (.int .u64 b)))=some (.c (.f (.int .u64 v))):=⟨_,aVT hb⟩
theorem afe(a b:Int):∃ v,bW .xor (.c (.f (.int .u64 a))) (.c (.f (.int .u64 b)))=some (.c (.f (.int .u64 v))):=⟨_,aVH⟩
theorem aSz(hT:tab σ.nxt=some (Uw σ sz)){p:Nat}(hp:NU H p) :
  ∃ r H',Ev tab (.fn σ.nxt) [.c (.ptr p 0 0)] H r H'∧((∃ k:Int,r=vu k)∧Fm p H H'∧NU H' p):=by
 obtain⟨k,hp⟩:=hp;have hpl:=aA hp;have put:∀(H:Heap) (k:Int),p<H.length→(H.set p (.box [.f (.int .u64 k)] 0))[p]?=some (.box [.f (.int .u64 k)] 0):=fun H k h=>List.getElem?_set_self h
 refine fV hT rfl fun Q hQ=>?_
 refine kw_seq (kw_region (.inl rfl) ?_);simp;obtain⟨a1,h1⟩:=aO3 k 13 (by omega)
 obtain⟨a2,h2⟩:=afe k a1;refine kw_seq (kw_region (.inl rfl) ?_);simp [hp,h1,h2];obtain⟨H1,hH1⟩:∃ H1,H1=H.set p (.box [.f (.int .u64 a2)] 0):=⟨_,rfl⟩;rw [←hH1];have p1:H1[p]?=some (.box [.f (.int .u64 a2)] 0):=by rw [hH1];exact put _ _ hpl
 have f1:Fm p H H1:=by rw [hH1];exact Fm.set _ _
 obtain⟨a3,h3⟩:=aVS a2 7 (by omega)
 obtain⟨a4,h4⟩:=afe a2 a3;refine kw_seq (kw_region (.inl rfl) ?_);simp [p1,h3,h4];obtain⟨H2,hH2⟩:∃ H2,H2=H1.set p (.box [.f (.int .u64 a4)] 0):=⟨_,rfl⟩;rw [←hH2];have p2:H2[p]?=some (.box [.f (.int .u64 a4)] 0):=by rw [hH2];exact put _ _ (aA p1)
 have f2:Fm p H H2:=by rw [hH2];exact f1.trans (Fm.set _ _)
 obtain⟨a5,h5⟩:=aO3 a4 17 (by omega)
 obtain⟨a6,h6⟩:=afe a4 a5;refine kw_seq (kw_region (.inl rfl) ?_);simp [p2,h5,h6];obtain⟨H3,hH3⟩:∃ H3,H3=H2.set p (.box [.f (.int .u64 a6)] 0):=⟨_,rfl⟩;rw [←hH3];have p3:H3[p]?=some (.box [.f (.int .u64 a6)] 0):=by rw [hH3];exact put _ _ (aA p2)
 have f3:Fm p H H3:=by rw [hH3];exact f2.trans (Fm.set _ _)
 refine kw_seq (kw_region (.inl rfl) ?_);simp [p3];exact aH (hQ _ _ (vu a6) rfl (by simp [Km.results,aZ]) ⟨⟨a6,rfl⟩,f3,a6,p3⟩)
theorem aSA(hT:tab σ.npt=some (Ux σ sz)){L k:Nat}(hLen:Km.Pure tab σ.len [vu L]=Eq (vi k))(hL:L≤1000000000)(hk:k≤62):Km.Pure tab σ.npt [vi L] (vu ((2:Int) ^ k)):=by
 refine bU hT rfl fun Q hQ=>?_
 refine kw_seq (kw_region (.inl rfl) ?_);simp;have hw:IntKind.wrap .u64 (L:Int)=L:=by rw [FK];omega
 have h2:(2:Nat) ^ k≤2 ^ 62:=eo (by omega) hk
 have h2':(2:Nat) ^ 62=4611686018427387904:=by decide
 have hs:bW .shl (.c (.f (.int .u64 1))) (.c (.f (.int .i64 (k:Int))))=some (vu ((2:Int) ^ k)):=by
  simp only [bW,if_neg (show¬ (k:Int)<0 by omega)]
  show some (vu (IntKind.wrap .u64 (1*2 ^ (min (k:Int).toNat 64))))=_
  have hp:((2:Int) ^ k)=((2 ^ k:Nat):Int):=by simp
  obtain⟨w,hw⟩:∃ w:Nat,w=2 ^ k:=⟨_,rfl⟩;rw [←hw]at hp h2;rw [bO,Nat.min_eq_left (by omega),Int.one_mul,FK,hp,Int.emod_eq_of_lt (by omega) (by omega)]
 refine kw_seq (kw_region (.inl rfl) ?_);simp [hw,hLen,hs];exact aH (hQ _ _ ⟨rfl,_,by simp [Km.results,aZ];rfl,by simp⟩)
theorem aTW(hT:tab σ.brk=some (ahM σ sz))(hN:tab σ.nxt=some (Uw σ sz))(hP:tab σ.npt=some (Ux σ sz)){n a L k:Nat}(hLen:Km.Pure tab σ.len [vu L]=Eq (vi k))(hk:k≤62)(hk1:2 ^ k≤2*L)(hn:rows.length=n)(hl:n≤1000000000)(hrb:RB H b sz ep rows)(hg:Grid sz rows)(h8:8≤L)(hen:a+L≤n) :
  ∃ r H',Ev tab (.fn σ.brk) [.c (.sl b 0 n 0 ep sz),vi a,vi (a+L:Nat),cv] H r H'∧(r=.t []∧Fm b H H'∧∃ l',RB H' b sz ep l'∧Seg a (a+L) rows l'):=by
 have a5y:=(aSA (σ:=σ) (sz:=sz) hP hLen (by omega) hk).eq
 obtain⟨d,hd⟩:∃ d,d=L / 4:=⟨_,rfl⟩
 have hq:bW .quo (vi (L:Int)) (vi 4)=some (vi (d:Int)):=by
  have:=aEY (a:=L) (b:=4) (by omega) (by omega)
  rw [hd];exact this
 have hw:IntKind.i64.wrap ((a:Int)+L-a)=L:=by rw [wrap64 (by omega) (by omega)];omega
 have hwu:IntKind.wrap .u64 (L:Int)=L:=by rw [FK];omega
 have h2:(2:Nat) ^ k≤2 ^ 62:=eo (by omega) hk
 have h2':(2:Nat) ^ 62=4611686018427387904:=by decide
 have hp0:0<(2:Nat) ^ k:=Nat.pow_pos (by omega)
 have hp:((2:Int) ^ k)=((2 ^ k:Nat):Int):=by simp
 have hwm:IntKind.wrap .u64 ((2:Int) ^ k-1)=(2:Int) ^ k-1:=by rw [FK,hp,Int.emod_eq_of_lt (by omega) (by omega)]
 refine fV hT rfl fun Q hQ=>?_
 refine kw_seq (kw_region (.inl rfl) ?_);simp [hw];refine kw_seq ?_;refine kw_region (.inl rfl) ?_;simp;refine aj (by simp;omega) ?_
 have hbl:=hrb.lt;refine kw_seq (kw_region (.inl rfl) ?_);simp [hwu];obtain⟨H1,hH1⟩:∃ H1,H1=H++[.box [.f (.int .u64 (L:Int))] 0]:=⟨_,rfl⟩;rw [←hH1];have p1:NU H1 H.length:=⟨L,by rw [hH1];simp⟩
 have f1:Fm b H H1:=by rw [hH1];exact Fm.push _ _
 have r1:RB H1 b sz ep rows:=by rw [hH1];exact hrb.push _
 refine kw_seq (kw_region (.inl rfl) ?_);simp [a5y];refine kw_seq (kw_region (.inl rfl) ?_);simp [hq,wrap64 (n:=(d:Int)*2) (by omega) (by omega),wrap64 (n:=(a:Int)+d*2) (by omega) (by omega),wrap64 (n:=(a:Int)+d*2-1) (by omega) (by omega)]
 refine aB ?_
 refine bM (fun m s=>∃(i:Nat) (t:T) (H1:Heap) (l:List (List FC)),s=⟨t,[],H1⟩∧i+m=a+d*2+2∧a≤i∧i≤a+d*2+2∧t.g 0=.c (.sl b 0 n 0 ep sz)∧t.g 1=vi a∧t.g 8=vi L∧t.g 9=.c (.ptr H.length 0 0)∧t.g 10=vu ((2:Int) ^ k)∧t.g 11=vi i ∧
  Fm b H H1∧NU H1 H.length∧RB H1 b sz ep l∧Seg a (a+L) rows l) 3
  ⟨a+d*2-1,_,H1,rows,rfl,by omega,by omega,by omega,by simp,by simp,by simp,by simp,by simp,by simp;omega,f1,p1,r1,Seg.refl _ _ _⟩ ?_
 rintro m s ⟨i,t,H1,l,rfl,hm,hai,hi,g0,g1,g8,g9,g10,g11,hfr,hnu,hrb,hseg⟩ ih;have hlen:=hseg.len;refine kw_seq ?_;refine kw_seq (kw_region (.inl rfl) ?_);simp [g1,g8,g11,hq,wrap64 (n:=(d:Int)*2) (by omega) (by omega),wrap64 (n:=(a:Int)+d*2) (by omega) (by omega),wrap64 (n:=(a:Int)+d*2+1) (by omega) (by omega)]
 by_cases hlt:i≤a+d*2+1
 case neg=>
  refine ah (by simp;omega) ?_
  refine bC (k':=[]) rfl ?_;exact nS (hQ _ _ _ rfl rfl ⟨rfl,hfr,l,hrb,hseg⟩)
 refine aj (by simp;omega) (aG ?_)
 obtain⟨r,H2,he,⟨x,rfl⟩,f2,n2⟩:=aSz (σ:=σ) (sz:=sz) hN hnu;have he:=he.eq;obtain⟨o,ho,hand⟩:=ahX (x:=x) (k:=k) hk;have r2:RB H2 b sz ep l:=f2.get hrb (by omega)
 have f3:=hfr.far (ax _) f2;refine kw_seq ?_;refine aB ?_;refine kw_seq (kw_region (.inl rfl) ?_);simp [g9,g10,he,hwm,hand,wrap64 (n:=(o:Int)) (by omega) (by omega)]
 have go:∀(t:T) (q:Nat),q<L→t.g 0=.c (.sl b 0 n 0 ep sz)→t.g 1=vi a→t.g 8=vi L→t.g 9=.c (.ptr H.length 0 0)→t.g 10=vu ((2:Int) ^ k)→t.g 11=vi i→t.g 12=vi q →
   WP tab σ.brk none [.code (ahO σ sz),.inBlock 1,.code (ahN σ sz),.inLoop (ahP σ sz),.inBlock 0] ⟨t,[],H2⟩ Q:=by
  intro t q hqL g0 g1 g8 g9 g10 g11 g12;obtain⟨x5,y5,H5,H6,-,-,i5,j5,l5,l6,w5,w6,s5,j6,s6,r6,f6⟩:=r2.swp (hseg.grid hg) (hlen.trans hn) (i:=i) (j:=a+q) (by omega) (by omega)
  have ce:((a+q:Nat):Int)=(a:Int)+q:=by omega
  rw [ce]at j5 j6;refine kw_region (.inl rfl) ?_;simp [g0,g1,g11,g12,i5,j5,l5,l6,w5,w6,s5,j6,s6,-ak,-bJ,wrap64 (n:=(a:Int)+q) (by omega) (by omega)]
  refine au (kw_region (.inl rfl) ?_);simp [g11,wrap64 (n:=(i:Int)+1) (by omega) (by omega)]
  exact ih (m-1) _ (by omega) ⟨i+1,_,H6,_,rfl,by omega,by omega,by omega,by simp [g0],by simp [g1],by simp [g8],by simp [g9],by simp [g10],by simp,f3.trans f6,n2.fm f6 (by omega),r6,
   hseg.trans (iZ (by omega) (by omega) (by omega) (by omega) (by omega))⟩
 refine kw_seq ?_;refine kw_seq ?_;refine kw_region (.inl rfl) ?_;simp [g8];by_cases hge:L≤o
 ·refine aj (by simp;omega) ?_
  refine kw_region (.inl rfl) ?_;simp [g8,wrap64 (n:=(o:Int)-L) (by omega) (by omega)]
  exact go _ (o-L) (by omega) (by simp [g0]) (by simp [g1]) (by simp [g8]) (by simp [g9]) (by simp [g10]) (by simp [g11]) (by simp;omega)
 ·refine ah (by simp;omega) (aG ?_)
  exact go _ o (by omega) (by simp [g0]) (by simp [g1]) (by simp [g8]) (by simp [g9]) (by simp [g10]) (by simp [g11]) (by simp)
end
end
section
section
variable{W:List FC→Prop}{c:List FC→List FC→Int}{l l':List (List FC)}
def Rest(c:List FC→List FC→Int)(a p q e:Nat)(l:List (List FC)):Prop:=∀ i j,a≤i→i<j→j<e→¬ (p≤i∧j<q)→LeI c l i j
theorem Rest.all(c:List FC→List FC→Int)(a e:Nat)(l:List (List FC)):Rest c a a e e l:=fun i j h1 h2 h3 h4=>by omega
theorem Rest.seg{a p q e:Nat}(h:Rest c a p q e l)(hs:Seg p q l l')(hpq:p≤q)(hq:q≤l.length)(hap:a≤p)(hqe:q≤e):Rest c a p q e l':=by
 intro i j h1 h2 h3 h4 x y hx hy;by_cases ci:p≤i∧i<q
 ·obtain⟨i',i1,i2,hi'⟩:=hs.mem hpq hq ci.1 ci.2 hx;rw [hs.ge (by omega)]at hy
  exact h i' j (by omega) (by omega) h3 (by omega) x y hi' hy
 by_cases cj:p≤j∧j<q
 ·obtain⟨j',j1,j2,hj'⟩:=hs.mem hpq hq cj.1 cj.2 hy;rw [hs.lt (by omega)]at hx
  exact h i j' h1 (by omega) (by omega) (by omega) x y hx hj'
 have gi:l'[i]?=l[i]?:=by
  by_cases h5:i<p
  ·exact hs.lt h5
  ·exact hs.ge (by omega)
 have gj:l'[j]?=l[j]?:=by
  by_cases h5:j<p
  ·exact hs.lt h5
  ·exact hs.ge (by omega)
 rw [gi]at hx;rw [gj]at hy;exact h i j h1 h2 h3 h4 x y hx hy
theorem Rest.up{a p q e:Nat}(h:Rest c a p q e l)(hu:Up c p q l):Up c a e l:=fun i j x y h1 h2 h3 hx hy=>by
 by_cases h4:p≤i∧j<q
 ·exact hu i j x y h4.1 h2 h4.2 hx hy
 ·exact h i j h1 h2 h3 h4 x y hx hy
theorem Rest.low{a p q e:Nat}(h:Rest c a p q e l)(hl:Low c a e l)(hap:a≤p)(hqe:q≤e):Low c p q l:=fun k h0 h1 h2=>by
 by_cases e1:p=a
 ·subst e1;exact hl k h0 h1 (by omega)
 ·exact h (p-1) k (by omega) (by omega) (by omega) (by omega)
theorem Rest.left{a p q e m:Nat}(hr:Rest c a p q e l)(hc:Cmp W c)(hW:∀ r ∈ l,W r)(hlen:e≤l.length)(hp:rV c p q m l)(hu:Up c p m l)(h1:p≤m)(h2:m<q)(h3:q≤e):Rest c a (m+1) q e l:=by
 intro i j i1 ij je h4;by_cases h5:p≤i∧j<q
 case neg=>exact hr i j i1 ij je h5
 obtain⟨v,hv,lo,hi⟩:=hp;rcases co j m with hj | hj | hj
 ·exact fun x y hx hy=>hu i j x y h5.1 ij hj hx hy
 ·subst hj;intro x y hx hy;rw [hv]at hy;cases hy;exact hc.asym (hW _ (aL hx)) (hW _ (aL hv)) (lo i x h5.1 ij hx)
 ·have him:i≤m:=by omega
  have right:LeI c l m j:=fun x y hx hy=>by
   rw [hv]at hx;cases hx;exact hi j y hj h5.2 hy
  rcases cD him with him | him
  ·have left:LeI c l i m:=fun x y hx hy=>by
    rw [hv]at hy;cases hy;exact hc.asym (hW _ (aL hx)) (hW _ (aL hv)) (lo i x h5.1 him hx)
   exact left.trans hc hW right (by omega)
  ·subst him;exact right
theorem Rest.right{a p q e m:Nat}(hr:Rest c a p q e l)(hc:Cmp W c)(hW:∀ r ∈ l,W r)(hlen:e≤l.length)(hp:rV c p q m l)(hu:Up c (m+1) q l)(h1:p≤m)(h2:m<q)(h3:q≤e):Rest c a p m e l:=by
 intro i j i1 ij je h4;by_cases h5:p≤i∧j<q
 case neg=>exact hr i j i1 ij je h5
 obtain⟨v,hv,lo,hi⟩:=hp;rcases co i m with hj | hj | hj
 ·have left:LeI c l i m:=fun x y hx hy=>by
   rw [hv]at hy;cases hy;exact hc.asym (hW _ (aL hx)) (hW _ (aL hv)) (lo i x h5.1 hj hx)
  rcases cD (show m≤j by omega)with hm | hm
  ·have right:LeI c l m j:=fun x y hx hy=>by
    rw [hv]at hx;cases hx;exact hi j y hm h5.2 hy
   exact left.trans hc hW right (by omega)
  ·subst hm;exact left
 ·subst hj;intro x y hx hy;rw [hv]at hx;cases hx;exact hi j y ij h5.2 hy
 ·exact fun x y hx hy=>hu i j x y (by omega) ij h5.2 hx hy
theorem Rest.equal{a p q e m:Nat}{v:List FC}(hr:Rest c a p q e l)(hc:Cmp W c)(hW:∀ r ∈ l,W r)(hlow:Low c p q l)(h0:0<p){w:List FC}(hw:l[p-1]?=some w)(hv:W v)(hwv:¬ c w v<0)
  (lo:∀(k:Nat) x,p≤k→k<m→l[k]?=some x→¬ c v x<0):Rest c a m q e l:=by
 intro i j i1 ij je h4;by_cases h5:p≤i∧j<q
 case neg=>exact hr i j i1 ij je h5
 intro x y hx hy;have him:i<m:=by omega
 have h6:=lo i x h5.1 him hx;have h7:=hlow j h0 (by omega) h5.2 w y hw hy
 have wx:=hW _ (aL hx);have wy:=hW _ (aL hy);have ww:=hW _ (aL hw);exact hc.trans wx hv wy h6 (hc.trans hv ww wy hwv h7)
theorem rV.seg{p q m p' q':Nat}(hp:rV c p q m l)(hs:Seg p' q' l l')(h:(p≤p'∧q'≤m)∨(m<p'∧q'≤q))(hpq:p'≤q')(hl:q'≤l.length):rV c p q m l':=by
 obtain⟨v,hv,lo,hi⟩:=hp;refine⟨v,?_,fun k x k1 k2 hx=>?_,fun k x k1 k2 hx=>?_⟩
 ·rcases h with h | h
  ·rw [hs.ge (by omega)];exact hv
  ·rw [hs.lt (by omega)];exact hv
 ·by_cases ci:p'≤k∧k<q'
  ·obtain⟨k',a1,a2,hk⟩:=hs.mem hpq hl ci.1 ci.2 hx;rcases h with h | h
   ·exact lo k' x (by omega) (by omega) hk
   ·omega
  ·by_cases h5:k<p'
   ·rw [hs.lt h5]at hx;exact lo k x k1 k2 hx
   ·rw [hs.ge (by omega)]at hx;exact lo k x k1 k2 hx
 ·by_cases ci:p'≤k∧k<q'
  ·obtain⟨k',a1,a2,hk⟩:=hs.mem hpq hl ci.1 ci.2 hx;rcases h with h | h
   ·omega
   ·exact hi k' x (by omega) (by omega) hk
  ·by_cases h5:k<p'
   ·rw [hs.lt h5]at hx;exact hi k x k1 k2 hx
   ·rw [hs.ge (by omega)]at hx;exact hi k x k1 k2 hx
end
structure Pq(b n ep sz:Nat)(cv:V)(H:Heap)(c:List FC→List FC→Int)(rows:List (List FC))(a e:Nat)(t:T)(H1:Heap)(l:List (List FC))(p q:Nat)(lim:Int):Prop where
 g0:t.g 0=.c (.sl b 0 n 0 ep sz)
 g1:t.g 1=vi p
 g2:t.g 2=vi q
 g3:t.g 3=vi lim
 g4:t.g 4=cv
 fr:Fm b H H1
 rb:RB H1 b sz ep l
 sg:Seg a e rows l
 re:Rest c a p q e l
 ap:a≤p
 pq:p≤q
 qe:q≤e
theorem Pq.regs{b n ep sz:Nat}{cv:V}{H:Heap}{c:List FC→List FC→Int}{rows:List (List FC)}{a e:Nat}{t:T}{H1:Heap}{l:List (List FC)}{p q:Nat}{lim:Int}(h:Pq b n ep sz cv H c rows a e t H1 l p q lim)
  {t':T} (e0:t'.g 0=t.g 0) (e1:t'.g 1=t.g 1) (e2:t'.g 2=t.g 2) (e3:t'.g 3=t.g 3) (e4:t'.g 4=t.g 4):Pq b n ep sz cv H c rows a e t' H1 l p q lim:=
 ⟨e0.trans h.g0,e1.trans h.g1,e2.trans h.g2,e3.trans h.g3,e4.trans h.g4,h.fr,h.rb,h.sg,h.re,h.ap,h.pq,h.qe⟩
theorem Pq.seg{b n ep sz:Nat}{cv:V}{H:Heap}{c:List FC→List FC→Int}{rows:List (List FC)}{a e:Nat}{t:T}{H1:Heap}{l:List (List FC)}{p q:Nat}{lim:Int}(h:Pq b n ep sz cv H c rows a e t H1 l p q lim)
  {H2:Heap} {l2:List (List FC)} (hf:Fm b H1 H2) (hb:RB H2 b sz ep l2) (hs:Seg p q l l2) (he:e≤rows.length):Pq b n ep sz cv H c rows a e t H2 l2 p q lim:=
 ⟨h.g0,h.g1,h.g2,h.g3,h.g4,h.fr.trans hf,hb,h.sg.trans (hs.mono h.ap h.qe),h.re.seg hs h.pq (by rw [h.sg.len];exact bw h.qe he) h.ap h.qe,h.ap,h.pq,h.qe⟩
end
section
structure aVa(tab:Nat→Option AFunc)(σ:Srt)(sz:Nat):Prop where
 pdq:tab σ.pdq=some (af9 σ sz)
 ins:tab σ.ins=some (MJ σ sz)
 heap:tab σ.heap=some (QK σ sz)
 sift:tab σ.sift=some (IJ σ sz)
 brk:tab σ.brk=some (ahM σ sz)
 piv:tab σ.piv=some (afZ σ sz)
 rev:tab σ.rev=some (afL σ sz)
 part:tab σ.part=some (Qi σ sz)
 peq:tab σ.peq=some (af4 σ sz)
 pins:tab σ.pins=some (Qe σ sz)
 Fh:tab σ.Fh=some (Ja σ sz)
 med:tab σ.med=some (L8 σ sz)
 ord:tab σ.ord=some (FZ σ sz)
 npt:tab σ.npt=some (Ux σ sz)
 nxt:tab σ.nxt=some (Uw σ sz)
section
variable{tab:Nat→Option AFunc}{σ:Srt}{sz:Nat}{b ep n:Nat}{cv:V}{W:List FC→Prop}{c:List FC→List FC→Int}
theorem aQ9(hT:aVa tab σ sz)(hcv:Cv tab cv W c)(hc:Cmp W c)(hl:n≤1000000000)(hLen:∀ L:Nat,L≤n→∃ k:Nat,Km.Pure tab σ.len [vu L]=Eq (vi k)∧k≤62∧(0<L→2 ^ k≤2*L)) :
  ∀(m a e:Nat) (H:Heap) (rows:List (List FC)) (lim:Int),e-a=m→a≤e→e≤n→rows.length=n→RB H b sz ep rows→Grid sz rows→(∀ r ∈ rows,W r)→Low c a e rows →
  ∃ r H',Ev tab (.fn σ.pdq) [.c (.sl b 0 n 0 ep sz),vi a,vi e,vi lim,cv] H r H'∧(r=.t []∧Fm b H H'∧∃ l',RB H' b sz ep l'∧Seg a e rows l'∧Up c a e l'):=by
 intro m
 induction m using Nat.strongRecOn with
 | ind m IH=>
 intro a e H rows lim hm hae hen hn hrb hg hW hlow;have grid:∀ {l p q},Seg p q rows l→Grid sz l:=fun h=>h.grid hg
 have wall:∀ {l p q},Seg p q rows l→∀ r ∈ l,W r:=fun h r hr=>hW r (h.1.mem_iff.1 hr)
 refine fV hT.pdq rfl fun Q hQ=>?_
 have done:∀ {H1:Heap} {l:List (List FC)},Fm b H H1→RB H1 b sz ep l→Seg a e rows l→Up c a e l→∀(j:Option ACode) (t:T),Q j ⟨t,[],H1⟩:=
  fun hf hr hs hu j t=>hQ _ _ (.t []) rfl rfl ⟨rfl,hf,_,hr,hs,hu⟩
 refine kw_seq (kw_region (.inl rfl) ?_);simp;refine kw_seq (kw_region (.inl rfl) ?_);simp;refine aB ?_
 refine bM (fun m s=>∃(p q:Nat) (lim:Int) (w1 w2:Bool) (t:T) (H1:Heap) (l:List (List FC)),s=⟨t,[],H1⟩∧m=q-p∧Pq b n ep sz cv H c rows a e t H1 l p q lim∧t.g 10=vb w1∧t.g 11=vb w2) _
  ⟨a,e,lim,true,true,_,H,rows,rfl,rfl,⟨by simp,by simp,by simp,by simp,by simp,Fm.refl H,hrb,Seg.refl _ _ _,Rest.all c a e rows,ax _,hae,ax _⟩,by simp,by simp⟩ ?_
 rintro m1 s ⟨p,q,lim,w1,w2,t,H1,l,rfl,rfl,hP,g10,g11⟩ ih;obtain⟨g0,g1,g2,g3,g4,-,-,-,-,ap,pq,qe⟩:=id hP;refine aB ?_;refine kw_seq (kw_region (.inl rfl) ?_);obtain⟨L,rfl⟩:∃ L,q=p+L:=⟨q-p,by omega⟩
 have hw:IntKind.i64.wrap ((p:Int)+L-p)=L:=by rw [wrap64 (by omega) (by omega)];omega
 have lenOf:∀ {H1 t l lim p q},Pq b n ep sz cv H c rows a e t H1 l p q lim→l.length=n:=fun h=>h.sg.len.trans hn
 have agQ:∀ {H1 t l lim p q},Pq b n ep sz cv H c rows a e t H1 l p q lim→Low c p q l:=fun h=>h.re.low (hlow.seg h.sg (ax _) (ax _) hae (by omega)) h.ap h.qe
 simp [g1,g2,hw];refine kw_seq ?_;refine kw_seq (kw_region (.inl rfl) ?_);simp;by_cases h12:L≤12
 ·refine aj (by simp;omega) ?_
  obtain⟨r,H2,he,rfl,f2,l2,r2,s2,u2⟩:=aSW hT.ins hcv hc (lenOf hP) hl hP.rb (grid hP.sg) (wall hP.sg) hP.pq (by omega)
  refine kw_seq (kw_region (.inl rfl) ?_);have he:=he.eq;simp at he;simp [g0,g1,g2,g4,he];have hP2:=hP.seg f2 r2 s2 (by omega)
  exact aH (done hP2.fr hP2.rb hP2.sg (hP2.re.up u2) _ _)
 refine ah (by simp;omega) (aG ?_)
 refine kw_seq ?_;refine kw_seq (kw_region (.inl rfl) ?_);simp [g3];by_cases hl0:lim=0
 ·refine aj (by simp [hl0]) ?_
  obtain⟨r,H2,he,rfl,f2,l2,r2,s2,u2⟩:=aHJ hT.heap hT.sift hcv hc (lenOf hP) hl hP.rb (grid hP.sg) (wall hP.sg) (show p<p+L by omega) (by omega)
  refine kw_seq (kw_region (.inl rfl) ?_);have he:=he.eq;simp at he;simp [g0,g1,g2,g4,he];have hP2:=hP.seg f2 r2 s2 (by omega)
  exact aH (done hP2.fr hP2.rb hP2.sg (hP2.re.up u2) _ _)
 refine ah (by simp [hl0]) (aG ?_)
 have s54:∀(t:T) (H1:Heap) (l:List (List FC)) (lim:Int) (v:Nat),Pq b n ep sz cv H c rows a e t H1 l p (p+L) lim→t.g 12=vi L→t.g 13=vi v→p≤v→v<p+L →
   WP tab σ.pdq none [.code (aga σ sz),.inBlock 1,.inLoop (FX σ sz),.inBlock 0] ⟨t,[],H1⟩ Q:=by
  intro t H1 l lim v hP g12 g13 hv1 hv2;obtain⟨g0,g1,g2,g3,g4,-,-,-,-,-,-,-⟩:=id hP;obtain⟨r,H2,he,mid,w,rfl,m1,m2,f2,l2,r2,s2,pt⟩:=aF9 hT.part hcv (lenOf hP) hl hP.rb (grid hP.sg) (wall hP.sg) (show p<p+L by omega) (by omega) hv1 hv2
  have he:=he.eq;simp at he;have hP2:=hP.seg f2 r2 s2 (by omega)
  have ln2:=lenOf hP2;obtain⟨d,hd⟩:∃ d,d=L / 8:=⟨_,rfl⟩
  have hq:bW .quo (vi (L:Int)) (vi 8)=some (vi (d:Int)):=by
   have:=aEY (a:=L) (b:=8) (by omega) (by omega)
   rw [hd];exact this
  refine kw_seq (kw_region (.inl rfl) ?_);simp [g0,g1,g2,g4,g13,he];refine kw_seq (kw_region (.inl rfl) ?_);simp;refine kw_seq (kw_region (.inl rfl) ?_);simp [g1,g2];refine kw_seq (kw_region (.inl rfl) ?_);simp [g12,hq];refine kw_seq ?_;refine kw_region (.inl rfl) ?_;simp [wrap64 (n:=(mid:Int)-p) (by omega) (by omega),wrap64 (n:=(p:Int)+L-mid) (by omega) (by omega)]
  by_cases hlr:(mid:Int)-p<(p:Int)+L-mid
  ·refine aj (by simp;omega) ?_
   obtain⟨r,H3,he,rfl,f3,l3,r3,s3,u3⟩:=IH (mid-p) (by omega) p mid H2 l2 lim rfl m1 (by omega) ln2 r2 (grid hP2.sg) (wall hP2.sg) ((agQ hP2).mono (by omega))
   have he:=he.eq;have hP3:=hP2.seg f3 r3 (s3.mono (ax _) (by omega)) (by omega)
   refine kw_seq (kw_region (.inl rfl) ?_);simp;refine kw_seq (kw_region (.inl rfl) ?_);simp [g0,g1,g3,g4,he];refine kw_region (.inl rfl) ?_;simp [wrap64 (n:=(mid:Int)+1) (by omega) (by omega)]
   refine au (ih _ _ (by omega) ⟨mid+1,p+L,lim,_,w,_,H3,l3,rfl,rfl,⟨by simp [g0],by simp,by simp [g2],by simp [g3],by simp [g4],hP3.fr,hP3.rb,hP3.sg,?_,by omega,by omega,hP3.qe⟩,by simp;rfl,by simp⟩)
   exact hP3.re.left hc (wall hP3.sg) (by rw [lenOf hP3];exact hen) (pt.seg s3 (.inl ⟨ax _,ax _⟩) m1 (by omega)) u3 m1 m2 hP3.qe
  ·refine ah (by simp;omega) ?_
   have a5r:Low c (mid+1) (p+L) l2:=fun k h0 k1 k2 x y hx hy=>by
    obtain⟨v,hv,lo,hi⟩:=pt;rw [show mid+1-1=mid by omega,hv]at hx;cases hx
    exact hi k y (by omega) k2 hy
   obtain⟨r,H3,he,rfl,f3,l3,r3,s3,u3⟩:=IH (p+L-(mid+1)) (by omega) (mid+1) (p+L) H2 l2 lim rfl (by omega) (by omega) ln2 r2 (grid hP2.sg) (wall hP2.sg) a5r
   have he:=he.eq;simp at he;have hP3:=hP2.seg f3 r3 (s3.mono (by omega) (ax _)) (by omega)
   refine kw_seq (kw_region (.inl rfl) ?_);simp;refine kw_seq (kw_region (.inl rfl) ?_);simp [g0,g2,g3,g4,he,wrap64 (n:=(mid:Int)+1) (by omega) (by omega)]
   refine kw_region (.inl rfl) ?_;simp;refine au (ih _ _ (by omega) ⟨p,mid,lim,_,w,_,H3,l3,rfl,rfl,⟨by simp [g0],by simp [g1],by simp,by simp [g3],by simp [g4],hP3.fr,hP3.rb,hP3.sg,?_,by omega,by omega,by omega⟩,by simp;rfl,by simp⟩)
   exact hP3.re.right hc (wall hP3.sg) (by rw [lenOf hP3];exact hen) (pt.seg s3 (.inr ⟨by omega,ax _⟩) (by omega) (by omega)) u3 m1 m2 hP3.qe
 have s46:∀(t:T) (H1:Heap) (l:List (List FC)) (lim:Int) (v:Nat) (w1 w2:Bool),Pq b n ep sz cv H c rows a e t H1 l p (p+L) lim→t.g 12=vi L→t.g 13=vi v→t.g 10=vb w1→t.g 11=vb w2→p≤v→v<p+L →
   WP tab σ.pdq none [.code (agb σ sz),.inBlock 1,.inLoop (FX σ sz),.inBlock 0] ⟨t,[],H1⟩ Q:=by
  intro t H1 l lim v w1 w2 hP g12 g13 g10 g11 hv1 hv2;obtain⟨g0,g1,g2,g3,g4,-,-,-,-,-,-,-⟩:=id hP;refine kw_seq ?_;refine kw_seq (kw_region (.inl rfl) ?_);rcases cB p with hp0 | hp0
  ·simp [g1,hp0];refine ah (by simp) (aG ?_)
   exact s54 _ H1 l lim v (hP.regs (by simp [g0]) (by simp [g1,hp0]) (by simp [g2]) (by simp [g3]) (by simp [g4])) (by simp [g12]) (by simp [g13]) hv1 hv2
  obtain⟨d,rfl⟩:∃ d,p=d+1:=⟨p-1,by omega⟩
  have hlt:(0:Int)<(d:Int)+1:=by omega
  have c1:((d+1:Nat):Int)=(d:Int)+1:=by omega
  have c2:((d+1+L:Nat):Int)=(d:Int)+1+L:=by omega
  obtain⟨x,y,F,ar,J,hx,hy,i1,j1,l1,l2,fD,he,wx,wy⟩:=hP.rb.ask (grid hP.sg) hcv (wall hP.sg) (lenOf hP) (i:=d) (j:=v) (by omega) (by omega)
  have g1':t.g 1=vi ((d:Int)+1):=by rw [g1,c1]
  simp [g0,g1',g4,g13,hlt,i1,j1,l1,l2,fD,he,-ak,wrap64 (n:=(d:Int)) (by omega) (by omega)]
  have hPJ:Pq b n ep sz cv H c rows a e t (H1++J) l (d+1) (d+1+L) lim:=hP.seg (Fm.push _ _) (hP.rb.push _) (Seg.refl _ _ _) (by omega)
  by_cases hxy:c x y<0
  ·refine ah (by simp [hxy]) (aG ?_)
   exact s54 _ _ l lim v (hPJ.regs (by simp [g0]) (by simp [g1]) (by simp [g2]) (by simp [g3]) (by simp [g4])) (by simp [g12]) (by simp [g13]) hv1 hv2
  refine aj (by simp [hxy]) ?_
  obtain⟨r,H2,he,mid,rfl,m1,m2,f2,l2,r2,s2,lo,hi⟩:=aQH hT.peq hcv hc (lenOf hPJ) hl hPJ.rb (grid hPJ.sg) (wall hPJ.sg) (show d+1<d+1+L by omega) (by omega) hv1 hv2 hy
  have he:=he.eq;have hP2:=hPJ.seg f2 r2 s2 (by omega)
  rw [c1,c2]at he;rw [c2]at g2;refine kw_seq (kw_region (.inl rfl) ?_);simp [g0,g1',g2,g4,g13,he];refine kw_seq (kw_region (.inl rfl) ?_);simp;refine bC (k':=[.inLoop (FX σ sz),.inBlock 0]) rfl ?_;refine ih _ _ (by omega) ⟨mid,d+1+L,lim,w1,w2,_,H2,l2,rfl,rfl,⟨by simp [g0],by simp,by simp [g2],by simp [g3],by simp [g4],hP2.fr,hP2.rb,hP2.sg,?_,by omega,by omega,hP2.qe⟩,by simp [g10],by simp [g11]⟩
  refine hP2.re.equal hc (wall hP2.sg) (agQ hP2) (by omega) (w:=x) (v:=y) ?_ wy hxy lo
  rw [show d+1-1=d by omega,s2.lt (by omega)];exact hx
 have s39:∀(t:T) (H1:Heap) (l:List (List FC)) (lim:Int) (v:Nat) (w1 w2:Bool) (hint:Int),Pq b n ep sz cv H c rows a e t H1 l p (p+L) lim→t.g 12=vi L→t.g 13=vi v→t.g 14=vi hint→t.g 10=vb w1→t.g 11=vb w2→p≤v→v<p+L →
   WP tab σ.pdq none [.code (agc σ sz),.inBlock 1,.inLoop (FX σ sz),.inBlock 0] ⟨t,[],H1⟩ Q:=by
  intro t H1 l lim v w1 w2 hint hP g12 g13 g14 g10 g11 hv1 hv2;obtain⟨g0,g1,g2,g3,g4,-,-,-,-,-,-,-⟩:=id hP;refine kw_seq ?_;refine kw_seq (kw_region (.inl rfl) ?_)
  cases w1 with
  | false=>
   simp [g10];refine ah (by simp) (aG ?_)
   exact s46 _ _ l lim v false w2 (hP.regs (by simp [g0]) (by simp [g1]) (by simp [g2]) (by simp [g3]) (by simp [g4])) (by simp [g12]) (by simp [g13]) (by simp [g10]) (by simp [g11]) hv1 hv2
  | true=>
  cases w2 with
  | false=>
   simp [g10,g11];refine ah (by simp) (aG ?_)
   exact s46 _ _ l lim v true false (hP.regs (by simp [g0]) (by simp [g1]) (by simp [g2]) (by simp [g3]) (by simp [g4])) (by simp [g12]) (by simp [g13]) (by simp [g10]) (by simp [g11]) hv1 hv2
  | true=>
  simp [g10,g11,g14];by_cases h1:hint=1
  case neg=>
   refine ah (by simp [h1]) (aG ?_)
   exact s46 _ _ l lim v true true (hP.regs (by simp [g0]) (by simp [g1]) (by simp [g2]) (by simp [g3]) (by simp [g4])) (by simp [g12]) (by simp [g13]) (by simp [g10]) (by simp [g11]) hv1 hv2
  refine aj (by simp [h1]) ?_
  obtain⟨r,H2,he,w,rfl,f2,l2,r2,s2,u2⟩:=aE3 hT.pins hcv hc (lenOf hP) hl hP.rb (grid hP.sg) (wall hP.sg) (show p<p+L by omega) (by omega) (agQ hP)
  have he:=he.eq;simp at he;have hP2:=hP.seg f2 r2 s2 (by omega)
  refine kw_seq (kw_region (.inl rfl) ?_);simp [g0,g1,g2,g4,he]
  cases w with
  | true=>
   refine aj (by simp) ?_
   exact aH (done hP2.fr hP2.rb hP2.sg (hP2.re.up (u2 rfl)) _ _)
  | false=>
   refine ah (by simp) (aG ?_)
   exact s46 _ _ l2 lim v true true (hP2.regs (by simp [g0]) (by simp [g1]) (by simp [g2]) (by simp [g3]) (by simp [g4])) (by simp [g12]) (by simp [g13]) (by simp [g10]) (by simp [g11]) hv1 hv2
 have s28:∀(t:T) (H1:Heap) (l:List (List FC)) (lim:Int) (w1 w2:Bool),Pq b n ep sz cv H c rows a e t H1 l p (p+L) lim→t.g 12=vi L→t.g 10=vb w1→t.g 11=vb w2 →
   WP tab σ.pdq none [.code (agd σ sz),.inBlock 1,.inLoop (FX σ sz),.inBlock 0] ⟨t,[],H1⟩ Q:=by
  intro t H1 l lim w1 w2 hP g12 g10 g11;obtain⟨g0,g1,g2,g3,g4,-,-,-,-,-,-,-⟩:=id hP;obtain⟨r,H2,he,⟨v,hint,rfl,v1,v2⟩,kp⟩:=aP3 hT.piv hT.Fh hT.med hT.ord hcv (lenOf hP) hl hP.rb (grid hP.sg) (wall hP.sg) (show p+8≤p+L by omega) (by omega)
  have he:=he.eq;simp at he;have hP2:Pq b n ep sz cv H c rows a e t H2 l p (p+L) lim:=hP.seg kp.fm (kp.rb hP.rb) (Seg.refl _ _ _) (by omega)
  refine kw_seq (kw_region (.inl rfl) ?_);simp [g0,g1,g2,g4,he];refine kw_seq ?_;refine kw_seq (kw_region (.inl rfl) ?_);simp;by_cases h2:hint=2
  case neg=>
   refine ah (by simp [h2]) (aG ?_)
   exact s39 _ _ l lim v w1 w2 hint (hP2.regs (by simp [g0]) (by simp [g1]) (by simp [g2]) (by simp [g3]) (by simp [g4])) (by simp [g12]) (by simp) (by simp) (by simp [g10]) (by simp [g11]) v1 v2
  refine aj (by simp [h2]) ?_
  obtain⟨r,H3,he,rfl,f3,l3,r3,s3⟩:=aPR hT.rev (cv:=cv) (lenOf hP2) hl hP2.rb (grid hP2.sg) (show p<p+L by omega) (by omega)
  have he:=he.eq;simp at he;have hP3:=hP2.seg f3 r3 s3 (by omega)
  refine kw_seq (kw_region (.inl rfl) ?_);simp [g0,g1,g2,g4,he];refine kw_seq (kw_region (.inl rfl) ?_);simp [g1,g2,wrap64 (n:=(p:Int)+L-1) (by omega) (by omega),wrap64 (n:=(v:Int)-p) (by omega) (by omega),wrap64 (n:=(p:Int)+L-1-(v-p)) (by omega) (by omega)]
  refine kw_region (.inl rfl) ?_;simp;exact s39 _ _ l3 lim (p+L-1-(v-p)) w1 w2 1 (hP3.regs (by simp [g0]) (by simp [g1]) (by simp [g2]) (by simp [g3]) (by simp [g4])) (by simp [g12]) (by simp;omega) (by simp) (by simp [g10]) (by simp [g11]) (by omega) (by omega)
 refine kw_seq ?_;refine kw_seq (kw_region (.inl rfl) ?_);simp [g10]
 cases w1 with
 | true=>
  refine ah (by simp) (aG ?_)
  exact s28 _ _ l lim true w2 (hP.regs (by simp [g0]) (by simp [g1]) (by simp [g2]) (by simp [g3]) (by simp [g4])) (by simp) (by simp [g10]) (by simp [g11])
 | false=>
  refine aj (by simp) ?_
  obtain⟨k,hk,hk1,hk2⟩:=hLen L (by omega)
  obtain⟨r,H2,he,rfl,f2,l2,r2,s2⟩:=aTW (cv:=cv) hT.brk hT.nxt hT.npt hk hk1 (hk2 (by omega)) (lenOf hP) hl hP.rb (grid hP.sg) (a:=p) (by omega) (by omega)
  have he:=he.eq;simp at he;have hP2:=hP.seg f2 r2 s2 (by omega)
  refine kw_seq (kw_region (.inl rfl) ?_);simp [g0,g1,g2,g4,he];refine kw_region (.inl rfl) ?_;simp [g3];exact s28 _ _ l2 _ false w2 ⟨by simp [g0],by simp [g1],by simp [g2],by simp;rfl,by simp [g4],hP2.fr,hP2.rb,hP2.sg,hP2.re,hP2.ap,hP2.pq,hP2.qe⟩ (by simp) (by simp [g10]) (by simp [g11])
end
end
section
def aPE:ACode:=.region [⟨D 5,.mov (R 0),none⟩,⟨D 6,.len (R 5),none⟩,⟨D 4,.mov (R 6),none⟩] []
def aPD(σ:Srt):ACode:=.region [⟨D 7,.mov (R 0),none⟩,⟨D 8,.mov (R 4),none⟩,⟨D 9,.mov (R 4),none⟩,⟨D 10,.cvi .u64 (R 9),none⟩,⟨D 11,.call σ.len [(R 10)] false,none⟩,⟨D 12,.mov (R 1),none⟩,⟨D 13,.call σ.pdq [(R 7),(.k (.c (.f (.int .i64 0)))),(R 8),(R 11),(R 12)] true,none⟩] []
def afx(σ:Srt):AFunc:=⟨[P.nat 0,P.nat 1],[],.seq aPE (aPD σ)⟩
section
variable{tab:Nat→Option AFunc}{σ:Srt}{sz:Nat}{cv:V}{W:List FC→Prop}{c:List FC→List FC→Int}{N:Nat}
def a03(tab:Nat→Option AFunc)(σ:Srt)(N:Nat):Prop:=∀ L:Nat,L≤N→∃ k:Nat,Km.Pure tab σ.len [vu L]=Eq (vi k)∧k≤62∧(0<L→2 ^ k≤2*L)
theorem aHw(hT:tab σ.ins=some (MJ σ sz)){H:Heap}{v:V}:Ev tab (.fn σ.ins) [v,vi 0,vi 0,cv] H (.t []) H:=by
 obtain⟨r,H',he,rfl,rfl⟩:∃ r H',Ev tab (.fn σ.ins) [v,vi 0,vi 0,cv] H r H'∧(r=.t []∧H'=H):=by
  refine fV hT rfl fun Q hQ=>?_
  refine kw_seq (kw_region (.inl rfl) ?_);simp [wrap64 (n:=(1:Int)) (by omega) (by omega)]
  refine aB ?_;refine bM (fun _ s=>s=⟨_,[],H⟩) 0 rfl ?_
  rintro _ s rfl -;refine kw_seq ?_;refine kw_seq (kw_region (.inl rfl) ?_);simp;refine ah (by simp) ?_
  refine bC (k':=[]) rfl ?_;exact nS (hQ _ _ _ rfl rfl ⟨rfl,rfl⟩)
 exact he
theorem aF7(hT:tab σ.pdq=some (af9 σ sz))(hI:tab σ.ins=some (MJ σ sz)){H:Heap}{v:V}{lim:Int}:Ev tab (.fn σ.pdq) [v,vi 0,vi 0,vi lim,cv] H (.t []) H:=by
 have hi:=(aHw (σ:=σ) (sz:=sz) (cv:=cv) hI (H:=H) (v:=v)).eq
 obtain⟨r,H',he,rfl,rfl⟩:∃ r H',Ev tab (.fn σ.pdq) [v,vi 0,vi 0,vi lim,cv] H r H'∧(r=.t []∧H'=H):=by
  refine fV hT rfl fun Q hQ=>?_
  refine kw_seq (kw_region (.inl rfl) ?_);simp;refine kw_seq (kw_region (.inl rfl) ?_);simp;refine aB ?_;refine bM (fun _ s=>s=⟨_,[],H⟩) 0 rfl ?_
  rintro _ s rfl -;refine aB ?_;refine kw_seq (kw_region (.inl rfl) ?_);simp [wrap64 (n:=(0:Int)) (by omega) (by omega)]
  refine kw_seq ?_;refine kw_seq (kw_region (.inl rfl) ?_);simp;refine aj (by simp) ?_
  refine kw_seq (kw_region (.inl rfl) ?_);simp [hi];exact aH (hQ _ _ _ rfl rfl ⟨rfl,rfl⟩)
 exact he
theorem aEF{F:Nat}(hF:tab F=some (afx σ))(hT:aVa tab σ sz)(hcv:Cv tab cv W c)(hc:Cmp W c)(hN:N≤1000000000)(hLen:a03 tab σ N){H:Heap}{v:C}{rows:List (List FC)}(hr:LR H v sz rows)(hn:rows.length≤N)(hg:Grid sz rows)(hW:∀ r ∈ rows,W r) :
  ∃ r H',Ev tab (.fn F) [.c v,cv] H r H'∧(r=.t []∧Kb H H' v∧∃ l',LR H' v sz l'∧l'.Perm rows∧Up c 0 l'.length l'):=by
 obtain⟨k,hk,-,-⟩:=hLen rows.length hn;have hwu:IntKind.wrap .u64 (rows.length:Int)=rows.length:=by rw [FK];omega
 obtain⟨r,H',he,rfl,hkb,l',h1,h2,h3⟩:∃ r H',Ev tab (.fn σ.pdq) [.c v,vi 0,vi rows.length,vi k,cv] H r H'∧(r=.t []∧Kb H H' v∧∃ l',LR H' v sz l'∧l'.Perm rows∧Up c 0 l'.length l'):=by
  rcases hr with⟨rfl,h⟩ | ⟨hne,b,ep,rfl,h2⟩
  ·exact⟨_,_,aF7 hT.pdq hT.ins,rfl,⟨ax _,fun i y hy _=>hy⟩,[],.inl ⟨rfl,h⟩,.refl _,Up.one (by simp)⟩
  ·obtain⟨r,H',he,rfl,f,l',r',s',u'⟩:=aQ9 hT hcv hc (n:=rows.length) (by omega) (fun L hL=>hLen L (by omega)) _ 0 rows.length H rows k rfl (by omega) (ax _) rfl h2 hg hW (fun k h=>absurd h (by omega))
   refine⟨_,_,he,rfl,⟨f.1,fun i y hy hi=>?_⟩,l',.inr ⟨?_,b,ep,by rw [s'.len],r'⟩,s'.1,by rw [s'.len];exact u'⟩
   ·rw [f.2 i (fun e=>hi (by rw [e];rfl)) (aA hy)];exact hy
   ·rintro rfl;have:=s'.len;exact hne (List.length_eq_zero_iff.1 this.symm)
 have he:=he.eq;refine fV hF rfl fun Q hQ=>?_
 refine kw_seq (kw_region (.inl rfl) ?_);simp [hr.len];refine kw_region (.inl rfl) ?_;simp [hwu,hk,he];exact nS (hQ _ _ (.t []) rfl rfl ⟨rfl,hkb,l',h1,h2,h3⟩)
end
end
section
set_option linter.unusedVariables false
def aZC(sz:Nat):ACode:=.region [⟨D 6,.mov (.k (.c (.f (.int .i64 0)))),none⟩,⟨D 7,.mov (.k (.c (.f (.bool false)))),none⟩] []
def aZA(sz:Nat):ACode:=.region [⟨D 12,.mov (R 0),none⟩,⟨D 13,.len (R 12),none⟩,⟨D 8,.mov (R 13),none⟩] []
def aZy(sz:Nat):ACode:=.region [⟨D 14,.mov (R 8),none⟩,⟨D 9,.mov (.k (.c (.f (.int .i64 0)))),none⟩,⟨D 10,.mov (R 14),none⟩] []
def aTU(sz:Nat):ACode:=.region [⟨D 15,.mov (R 9),none⟩,⟨D 16,.mov (R 10),none⟩,⟨D 17,.bin .lss (R 15) (R 16),none⟩] []
def aTT(sz:Nat):ACode:=.cond (R 17) .skip (.exit 0)
def aTV(sz:Nat):ACode:=.seq (aTU sz) (aTT sz)
def aTQ(sz:Nat):ACode:=.region [⟨D 18,.mov (R 9),none⟩,⟨D 19,.mov (R 10),none⟩,⟨D 20,.bin .add (R 18) (R 19),none⟩,⟨D 21,.cvi .u64 (R 20),none⟩,⟨D 22,.bin .shr (R 21) (.k (.c (.f (.int .u64 1)))),none⟩,⟨D 23,.cvi .i64 (R 22),none⟩,⟨D 11,.mov (R 23),none⟩] []
def aTO(sz:Nat):ACode:=.region [⟨D 24,.mov (R 2),none⟩,⟨D 25,.mov (R 0),none⟩,⟨D 26,.mov (R 11),none⟩,⟨D 27,.aU sz none (R 25) (R 26),none⟩,⟨D 28,.load (some sz) (R 27),none⟩,⟨D 29,.mov (R 1),none⟩,⟨D 30,.bY (R 24) [(R 28),(R 29)] true,none⟩,⟨D 31,.bin .lss (R 30) (.k (.c (.f (.int .i64 0)))),none⟩] []
def aTM(sz:Nat):ACode:=.region [⟨D 32,.mov (R 11),none⟩,⟨D 33,.bin .add (R 32) (.k (.c (.f (.int .i64 1)))),none⟩,⟨D 9,.mov (R 33),none⟩] []
def aTL(sz:Nat):ACode:=.region [⟨D 34,.mov (R 11),none⟩,⟨D 10,.mov (R 34),none⟩] []
def aTN(sz:Nat):ACode:=.cond (R 31) (aTM sz) (aTL sz)
def aTP(sz:Nat):ACode:=.seq (aTO sz) (aTN sz)
def aTR(sz:Nat):ACode:=.seq (aTQ sz) (aTP sz)
def aTS(sz:Nat):ACode:=.block 1 (aTR sz)
def aZu(sz:Nat):ACode:=.seq (aTV sz) (aTS sz)
def aZv(sz:Nat):ACode:=.loop (aZu sz)
def aZw(sz:Nat):ACode:=.block 0 (aZv sz)
def aTJ(sz:Nat):ACode:=.region [⟨D 35,.mov (R 9),none⟩,⟨D 36,.mov (R 9),none⟩,⟨D 37,.mov (R 8),none⟩,⟨D 38,.bin .lss (R 36) (R 37),none⟩,⟨D 39,.mov (R 38),none⟩,⟨D 40,.mov (R 2),G 39 true⟩,⟨D 41,.mov (R 0),G 39 true⟩,⟨D 42,.mov (R 9),G 39 true⟩,⟨D 43,.aU sz none (R 41) (R 42),G 39 true⟩,⟨D 44,.load (some sz) (R 43),G 39 true⟩,⟨D 45,.mov (R 1),G 39 true⟩,⟨D 46,.bY (R 40) [(R 44),(R 45)] true,G 39 true⟩,⟨D 47,.bin .eql (R 46) (.k (.c (.f (.int .i64 0)))),G 39 true⟩,⟨D 48,.pick (R 39) (R 47) (.k (.c (.f (.bool false)))),none⟩,⟨D 6,.mov (R 35),none⟩,⟨D 7,.mov (R 48),none⟩] []
def aTK(sz:Nat):ACode:=.seq (aTJ sz) .ret
def aZx(sz:Nat):ACode:=.seq (aZw sz) (aTK sz)
def aZz(sz:Nat):ACode:=.seq (aZy sz) (aZx sz)
def aZB(sz:Nat):ACode:=.seq (aZA sz) (aZz sz)
def aZD(sz:Nat):ACode:=.seq (aZC sz) (aZB sz)
def ahK(sz:Nat):AFunc:=⟨[P.nat 0,P.nat 1,P.nat 2],[.tmp (P.nat 6),.tmp (P.nat 7)],(aZD sz)⟩
section
variable{tab:Nat→Option AFunc}{sz:Nat}
theorem ahJ{F:Nat}(hF:tab F=some (ahK sz))(g:Tg)(rows:List (List FC))(hg:Grid sz rows)(cv:V)(x:FC)(s:List FC→Int)(hl:rows.length≤1000000000)
  (hcv:∀ r ∈ rows,∃ G ar,dh cv [.a (r.map .f),.c (.f x)]=some (.fn G,ar)∧Kf tab G ar (vi (s r)))
  (hp:∀(i j:Nat) (hi:i<j) (hj:j<rows.length),0≤s rows[i]→0<s rows[j]) :
  ∃ i:Nat,i≤rows.length∧(∀ j (hj:j<rows.length),j<i→s rows[j]<0)∧(∀ j (hj:j<rows.length),i≤j→0≤s rows[j]) ∧
   ∃ w:Bool,(w=true↔∃ h:i<rows.length,s rows[i]=0)∧Km.Pure tab F [.c (.f (sl g rows)),.c (.f x),cv]=Eq (.t [vi i,vb w]):=by
 obtain⟨r,⟨i,h1,h2,h3,w,h4,rfl⟩,h⟩:∃ r,(∃ i:Nat,i≤rows.length∧(∀ j (hj:j<rows.length),j<i→s rows[j]<0)∧(∀ j (hj:j<rows.length),i≤j→0≤s rows[j])∧∃ w:Bool,(w=true↔∃ h:i<rows.length,s rows[i]=0)∧r=.t [vi i,vb w]) ∧
   Km.Pure tab F [.c (.f (sl g rows)),.c (.f x),cv] r:=by
  refine dN hF rfl fun Q hQ=>?_
  have ask:∀(q:Nat) (hq:q<rows.length) (H:Heap),∃ G ar J,aP H sz none (.c (.f (sl g rows))) (vi q)=some (.c (.f (.fp rows.flatten (q*sz))))∧ldV H (some sz) (.c (.f (.fp rows.flatten (q*sz))))=some (.a (rows[q].map .f))∧dh cv [.a (rows[q].map .f),.c (.f x)]=some (.fn G,ar)∧Ev tab (.fn G) ar H=E2 (vi (s rows[q])) (H++J):=by
   intro q hq H;obtain⟨G,ar,c1,c2⟩:=hcv rows[q] (List.getElem_mem hq);obtain⟨J,c3⟩:=c2 H;have hi:=iq (H:=H) (g:=g) (rows:=rows) (sz:=sz) (k:=.i64) (i:=(q:Int)) (by omega) (by omega)
   rw [bO]at hi;exact⟨G,ar,J,hi,mM hg (List.getElem?_eq_getElem hq),c1,c3.eq⟩
  refine kw_seq (kw_region (.inl rfl) ?_);simp;refine kw_seq (kw_region (.inl rfl) ?_);simp;refine kw_seq (kw_region (.inl rfl) ?_);simp;refine kw_seq ?_;refine aB ?_
  refine bM (fun m s'=>∃(lo hi:Nat) (t:T) (H:Heap),s'=⟨t,[],H⟩∧m=hi-lo∧lo≤hi∧hi≤rows.length∧t.g 0=.c (.f (sl g rows))∧t.g 1=.c (.f x)∧t.g 2=cv∧t.g 8=vi rows.length∧t.g 9=vi lo∧t.g 10=vi hi ∧
   (∀ j (hj:j<rows.length),j<lo→s rows[j]<0)∧(∀ j (hj:j<rows.length),hi≤j→0≤s rows[j])) rows.length
   ⟨0,rows.length,_,_,rfl,by omega,by omega,by omega,by simp,by simp,by simp,by simp,by simp,by simp,by simp,by intros;omega⟩ ?_
  rintro m s' ⟨lo,hi,t,H,rfl,rfl,hlh,hhl,g0,g1,g2,g8,g9,g10,hlo,hhi⟩ next;refine kw_seq ?_;refine kw_seq (kw_region (.inl rfl) ?_);simp [g9,g10];by_cases hlt:lo<hi
  ·refine aj (by simp [hlt]) (aG ?_)
   obtain⟨q,hq⟩:∃ q,q=(lo+hi) / 2:=⟨_,rfl⟩;have hqn:q<rows.length:=by omega
   have e1:bW BinOp.shr (V.c (C.f (FC.int IntKind.u64 (IntKind.u64.wrap ((lo:Int)+hi))))) (V.c (C.f (FC.int IntKind.u64 1)))=some (.c (.f (.int .u64 (q:Int)))):=by
    have:IntKind.u64.wrap ((lo:Int)+hi)=(lo:Int)+hi:=by
     show((lo:Int)+hi) % 18446744073709551616=_
     omega
    rw [this]
    show some (V.c (C.f (FC.int IntKind.u64 (Int.fdiv ((lo:Int)+hi) (2 ^ (min (1:Int).toNat IntKind.u64.bits))))))=_
    have h3:Int.fdiv ((lo:Int)+hi) (2 ^ (min (1:Int).toNat IntKind.u64.bits))=q:=by
     show Int.fdiv ((lo:Int)+hi) 2=q
     rw [Int.fdiv_eq_ediv_of_nonneg _ (by omega)];omega
    rw [h3]
   have hw:IntKind.i64.wrap ((lo:Int)+hi)=(lo:Int)+hi:=wrap64 (by omega) (by omega)
   have hwq:IntKind.i64.wrap (q:Int)=q:=wrap64 (by omega) (by omega)
   obtain⟨G,ar,J,i1,l1,fD,he⟩:=ask q hqn H;refine aB ?_;refine kw_seq (kw_region (.inl rfl) ?_);simp [g9,g10,hw,e1,hwq];refine kw_seq (kw_region (.inl rfl) ?_);simp [g0,g1,g2,i1,l1,fD,he];by_cases hc:s rows[q]<0
   ·refine aj (by simp [hc]) ?_
    refine kw_region (.inl rfl) ?_;simp [wrap64 (n:=(q:Int)+1) (by omega) (by omega)]
    refine au (next (hi-(q+1)) _ (by omega) ⟨q+1,hi,_,_,rfl,rfl,by omega,by omega,by simp [g0],by simp [g1],by simp [g2],by simp [g8],by simp,by simp [g10],fun j hj h=>?_,hhi⟩)
    rcases Int.lt_or_le (s rows[j]) 0 with h5 | h5
    ·exact h5
    ·by_cases e:j=q
     ·subst e;exact hc
     ·have:=hp j q (by omega) hqn h5;omega
   ·refine ah (by simp [hc]) ?_
    refine kw_region (.inl rfl) ?_;simp;refine au (next (q-lo) _ (by omega) ⟨lo,q,_,_,rfl,rfl,by omega,by omega,by simp [g0],by simp [g1],by simp [g2],by simp [g8],by simp [g9],by simp,hlo,fun j hj h=>?_⟩)
    by_cases e:j=q
    ·subst e;omega
    ·have:=hp q j (by omega) hj (by omega);omega
  ·have:lo=hi:=by omega
   subst this;refine ah (by simp) ?_
   refine bC rfl ?_;refine kw_seq (kw_region (.inl rfl) ?_);by_cases hin:lo<rows.length
   ·obtain⟨G,ar,J,i1,l1,fD,he⟩:=ask lo hin H;simp [g0,g1,g2,g8,g9,hin,i1,l1,fD,he];refine aH (hQ _ _ _ ⟨lo,hhl,hlo,hhi,decide (s rows[lo]=0),by simp [hin],rfl⟩ ?_)
    simp
   ·simp [g8,g9,hin];refine aH (hQ _ _ _ ⟨lo,hhl,hlo,hhi,false,by simp [hin],rfl⟩ ?_)
    simp
 exact⟨i,h1,h2,h3,w,h4,Km.Pure.eq h⟩
end
end
end Km
