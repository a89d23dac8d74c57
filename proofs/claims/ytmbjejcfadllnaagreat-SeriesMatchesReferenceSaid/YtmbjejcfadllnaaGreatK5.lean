/-
  Our own small machine for Go code by value, held tq the model: part 5. No program in Gl.
-/
import Derived.Test.YtmbjejcfadllnaaGreatK4
open Option renaming some → aa,none → ab
open Bool renaming true → ae,false → ag
open Nat renaming le_refl → OF, eq_zero_or_pos → asq, pow_le_pow_right → atq, le_trans → arZ, lt_trichotomy → ash, lt_or_eq_of_le → asi
open List renaming mem_of_getElem? → arR
open Int renaming toNat_natCast → ar4
set_option linter.unusedVariables false
set_option linter.constructorNameAsVariable false
set_option linter.unusedSimpArgs false
set_option linter.unusedSectionVars false
set_option maxRecDepth 100000
namespace Km
open Go
section
variable{tab:Nat→Option aE}{σ:km}{sz:Nat}{cv:V}{W:List FC→Prop}{c:List FC→List FC→Int}
def Dj(c:List FC→List FC→Int)(a e:Nat)(l:List (List FC)):Prop:=∀ k,0<a→a≤k→k<e→kP c l (a-1) k
theorem Dj.vR{a e a' b:Nat}{l l':List (List FC)}(h:Dj c a e l)(d:ew a' b l l')(E:a≤a')(F:b≤e)(z:a'≤b)(B:b≤l.length):Dj c a e l':=by
 intro k m q s x y g hy;rw [d.lt (by omega)]at g;by_cases u:k<a'
 ·rw [d.lt u]at hy;exact h k m q s x y g hy
 by_cases v:b≤k
 ·rw [d.ge v]at hy;exact h k m q s x y g hy
 obtain⟨j,H,I,A⟩:=d.mem z B (by omega) (by omega) hy;exact h j m (by omega) (by omega) x y g A
theorem Dj.mono{a e b:Nat}{l:List (List FC)}(h:Dj c a e l)(j:b≤e):Dj c a b l:=fun k d g m=>h k d g (by omega)
theorem Mt{n a e i ep b:Nat}{rows:List (List FC)}{H0:aj}{g10:V}{k:List cA}{Q:Option az→St→Prop}(U:Cv tab cv W c)(hc:vO W c)(hn:rows.length=n)(hl:n≤1000000000)(hg:bR sz rows)(Y:∀ r ∈ rows,W r)
  {t:T} {H:aj} (a8:a<i) (a_:i≤e) (a9:e≤n) (u:Up c a i rows)
  (I:t.g 0=.c (.sl b 0 n 0 ep sz)) (L:t.g 1=vi a) (B:t.g 2=vi e) (K:t.g 3=cv) (A:t.g 9=vi i) (M:t.g 10=g10) (l:Fm b H0 H) (g:RB H b sz ep rows)
  (next:∀(t:T) (H:aj) (E:Nat),(i≤E∧E≤e)→Up c a E rows→(E=e∨∀ x y,rows[E]?=aa x→rows[E-1]?=aa y→c x y<0) →
   t.g 0=.c (.sl b 0 n 0 ep sz)→t.g 1=vi a→t.g 2=vi e→t.g 3=cv→t.g 9=vi E→t.g 10=g10→Fm b H0 H→RB H b sz ep rows→WP tab σ.pins ab k ⟨t,[],H⟩ Q) :
  WP tab σ.pins ab (.code (F7 sz)::k) ⟨t,[],H⟩ Q:=by
 refine aB ?_;refine bI (fun m s=>∃(q:Nat) (t:T) (S:aj),s=⟨t,[],S⟩∧(q+m=e∧i≤q)∧Up c a q rows ∧
   t.g 0=.c (.sl b 0 n 0 ep sz)∧t.g 1=vi a∧t.g 2=vi e∧t.g 3=cv∧t.g 9=vi q∧t.g 10=g10∧Fm b H0 S∧RB S b sz ep rows) (e-i)
  ⟨i,_,H,rfl,by omega,u,I,L,B,K,A,M,l,g⟩ ?_
 rintro m s ⟨q,t,S,rfl,hm,u,I,L,B,K,A,M,l,g⟩ ih;apply aq;apply ai;by_cases X:q<e
 case neg=>
  simp [A,B,X];refine al (by simp) ?_;refine bq (k':=k) rfl ?_;exact next _ _ q (by omega) u (.inl (by omega)) (by simp [I]) (by simp [L]) (by simp [B]) (by simp [K]) (by simp [A]) (by simp [M]) l g
 obtain⟨d,rfl⟩:∃ d,q=d+1:=⟨q-1,by omega⟩
 obtain⟨x,y,F,ar,J,hx,hy,i1,j1,l1,l2,N,he,-,-⟩:=g.ask hg U Y hn (i:=d+1) (j:=d) (by omega) (by omega);have c1:((d+1:Nat):Int)=(d:Int)+1:=by omega
 have O:(d:Int)+1<(e:Int):=by omega
 rw [c1]at i1 A;simp [A,B,O,I,K,i1,j1,l1,l2,N,he,-an,aQ (n:=(d:Int))];by_cases v:c x y<0
 case pos=>
  refine al (by simp [v]) ?_;refine bq (k':=k) rfl ?_;refine next _ _ (d+1) (by omega) u (.inr fun z w hz Z=>?_) (by simp [I]) (by simp [L]) (by simp [B]) (by simp [K]) (by simp [A]) (by simp [M]) (l.trans (Fm.push _ _)) (g.push _)
  rw [hx]at hz;cases hz;rw [show d+1-1=d by omega,hy]at Z;cases Z;exact v
 refine ak (by simp [v]) (aL ?_);refine aB (av (.inl rfl) ?_);simp [A,aQ (n:=(d:Int)+1+1)];refine aw (ih (m-1) _ (by omega) ⟨d+1+1,_,_,rfl,by omega,?_,by simp [I],by simp [L],by simp [B],by simp [K],by simp,by simp [M],l.trans (Fm.push _ _),g.push _⟩);exact(E9.start u).stop hc Y (by omega) (OF _) (by omega) (kP.of_le hy hx v)
theorem Ms{n a e i j ep b:Nat}{rows:List (List FC)}{H0:aj}{g10:V}{k:List cA}{Q:Option az→St→Prop}(a_:Cv tab cv W c)(hc:vO W c)(hn:rows.length=n)(hl:n≤1000000000)(hg:bR sz rows)(hW:∀ r ∈ rows,W r)
  {t:T} {H:aj} (X:a≤j) (K:j=i) (c_:i<e) (c9:e≤n) (a8:Dj c a e rows) (q:E9 c a i j rows)
  (E:t.g 0=.c (.sl b 0 n 0 ep sz)) (N:t.g 1=vi a) (O:t.g 2=vi e) (M:t.g 3=cv) (S:t.g 9=vi (i+1:Nat)) (U:t.g 10=g10) (A:t.g 11=vi j) (z:Fm b H0 H) (u:RB H b sz ep rows)
  (next:∀(t:T) (H:aj) (l:List (List FC)),ew a e rows l→Up c a (i+1) l →
   t.g 0=.c (.sl b 0 n 0 ep sz)→t.g 1=vi a→t.g 2=vi e→t.g 3=cv→t.g 9=vi (i+1:Nat)→t.g 10=g10→Fm b H0 H→RB H b sz ep l→WP tab σ.pins ab k ⟨t,[],H⟩ Q) :
  WP tab σ.pins ab (.code (F8 sz)::k) ⟨t,[],H⟩ Q:=by
 refine aB ?_;refine bI (fun m s=>∃(j:Nat) (t:T) (H1:aj) (l:List (List FC)),s=⟨t,[],H1⟩∧j=m∧a≤j∧j≤i∧t.g 0=.c (.sl b 0 n 0 ep sz)∧t.g 1=vi a∧t.g 2=vi e∧t.g 3=cv∧t.g 9=vi (i+1:Nat)∧t.g 10=g10∧t.g 11=vi j ∧
   Fm b H0 H1∧RB H1 b sz ep l∧ew a e rows l∧E9 c a i j l) j
  ⟨j,_,H,rows,rfl,rfl,X,by omega,E,N,O,M,S,U,A,z,u,ew.refl _ _ _,q⟩ ?_
 rintro m s ⟨j,t,H1,l,rfl,rfl,X,K,E,N,O,M,S,U,A,z,u,g,q⟩ ih;have B:=g.len;have Z:=g.s7 hg;have I:∀ r ∈ l,W r:=fun r hr=>hW r (g.1.mem_iff.1 hr);have L:Dj c a e l:=a8.vR g (OF _) (OF _) (by omega) (by omega);apply aq;apply ai;by_cases b_:j=0
 ·subst b_;obtain rfl:a=0:=by omega
  simp [A];refine al (by simp) ?_;refine bq (k':=k) rfl ?_;exact next _ _ l g q.front (by simp [E]) (by simp [N]) (by simp [O]) (by simp [M]) (by simp [S]) (by simp [U]) z u
 obtain⟨d,rfl⟩:∃ d,j=d+1:=⟨j-1,by omega⟩
 obtain⟨x,y,F,ar,J,hx,hy,i1,j1,l1,l2,Y,he,-,-⟩:=u.ask Z a_ I (B.trans hn) (i:=d+1) (j:=d) (by omega) (by omega);have c1:((d+1:Nat):Int)=(d:Int)+1:=by omega
 have b9:(1:Int)≤(d:Int)+1:=by omega
 rw [c1]at i1 A;simp [A,b9];refine ak (by simp) (aL ?_);apply aq;refine aB ?_;apply aq;apply ai;simp [A,E,M,i1,j1,l1,l2,Y,he,-an,aQ (n:=(d:Int))];by_cases v:c x y<0
 case neg=>
  refine ak (by simp [v]) ?_;refine bq (k':=k) rfl ?_;refine next _ _ l g ?_ (by simp [E]) (by simp [N]) (by simp [O]) (by simp [M]) (by simp [S]) (by simp [U]) (z.trans (Fm.push _ _)) (u.push _)
  by_cases ha:d+1=a
  ·subst ha;exact q.front
  ·exact q.stop hc I (by omega) K (by omega) (kP.of_le hy hx v)
 have a9:a≤d:=by
  rcases Nat.lt_or_ge d a with h | h
  ·obtain rfl:a=d+1:=by omega
   exact absurd v (L (d+1) (by omega) (OF _) (by omega) y x (by simpa using hy) hx)
  ·exact h
 refine a5 (by simp [v]) ?_;obtain⟨x5,y5,H5,H6,-,-,i5,j5,l5,l6,w5,w6,s5,j6,s6,r6,f6⟩:=(u.push J).iG Z (B.trans hn) (i:=d+1) (j:=d) (by omega) (by omega);rw [c1]at i5;refine av (.inl rfl) ?_;simp [E,A,i5,j5,l5,l6,w5,w6,s5,j6,s6,-an,-bh,aQ (n:=(d:Int))];refine aw ?_;refine av (.inl rfl) ?_;simp [A,aQ (n:=(d:Int))];exact ih d _ (by omega) ⟨d,_,H6,iG l (d+1) d,rfl,rfl,a9,by omega,by simp [E],by simp [N],by simp [O],by simp [M],by simp [S],by simp [U],by simp,(z.trans (Fm.push _ _)).trans f6,r6,
  g.trans (eV (by omega) (by omega) (by omega) (by omega) (by omega)),q.step hc I (by omega) K (by omega) hx hy v⟩
theorem Es{n a e i ep b:Nat}{rows:List (List FC)}{H0:aj}{g10:V}{k:List cA}{Q:Option az→St→Prop}(Z:Cv tab cv W c)(hn:rows.length=n)(hl:n≤1000000000)(hg:bR sz rows)(hW:∀ r ∈ rows,W r)
  {t:T} {H:aj} (a_:i<e) (a8:e≤n)
  (B:t.g 0=.c (.sl b 0 n 0 ep sz)) (K:t.g 1=vi a) (E:t.g 2=vi e) (I:t.g 3=cv) (L:t.g 9=vi i) (M:t.g 10=g10) (z:t.g 12=vi (i+1:Nat)) (u:Fm b H0 H) (q:RB H b sz ep rows)
  (next:∀(t:T) (H:aj) (l:List (List FC)),ew i e rows l →
   t.g 0=.c (.sl b 0 n 0 ep sz)→t.g 1=vi a→t.g 2=vi e→t.g 3=cv→t.g 9=vi i→t.g 10=g10→Fm b H0 H→RB H b sz ep l→WP tab σ.pins ab k ⟨t,[],H⟩ Q) :
  WP tab σ.pins ab (.code (F' sz)::k) ⟨t,[],H⟩ Q:=by
 refine aB ?_;refine bI (fun m s=>∃(d:Nat) (t:T) (U:aj) (l:List (List FC)),s=⟨t,[],U⟩∧d+1+m=e∧i≤d∧t.g 0=.c (.sl b 0 n 0 ep sz)∧t.g 1=vi a∧t.g 2=vi e∧t.g 3=cv∧t.g 9=vi i∧t.g 10=g10∧t.g 12=vi (d+1:Nat) ∧
   Fm b H0 U∧RB U b sz ep l∧ew i e rows l) (e-(i+1))
  ⟨i,_,H,rows,rfl,by omega,OF _,B,K,E,I,L,M,z,u,q,ew.refl _ _ _⟩ ?_
 rintro m s ⟨d,t,U,l,rfl,hm,a9,B,K,E,I,L,M,z,u,q,g⟩ ih;have A:=g.len;have S:=g.s7 hg;have Y:∀ r ∈ l,W r:=fun r hr=>hW r (g.1.mem_iff.1 hr);have X:((d+1:Nat):Int)=(d:Int)+1:=by omega
 rw [X]at z;apply aq;apply ai;by_cases b9:d+1<e
 case neg=>
  have v:¬ ((d:Int)+1<(e:Int)):=by omega
  simp [z,E,v];refine al (by simp) ?_;refine bq (k':=k) rfl ?_;exact next _ _ l g (by simp [B]) (by simp [K]) (by simp [E]) (by simp [I]) (by simp [L]) (by simp [M]) u q
 have v:(d:Int)+1<(e:Int):=by omega
 simp [z,E,v];refine ak (by simp) (aL ?_);obtain⟨x,y,F,ar,J,hx,hy,i1,j1,l1,l2,O,he,-,-⟩:=q.ask S Z Y (A.trans hn) (i:=d+1) (j:=d) (by omega) (by omega);rw [X]at i1;apply aq;refine aB ?_;apply aq;apply ai;simp [z,B,I,i1,j1,l1,l2,O,he,-an,aQ (n:=(d:Int))];by_cases N:c x y<0
 case neg=>
  refine ak (by simp [N]) ?_;refine bq (k':=k) rfl ?_;exact next _ _ l g (by simp [B]) (by simp [K]) (by simp [E]) (by simp [I]) (by simp [L]) (by simp [M]) (u.trans (Fm.push _ _)) (q.push _)
 refine a5 (by simp [N]) ?_;obtain⟨x5,y5,H5,H6,-,-,i5,j5,l5,l6,w5,w6,s5,j6,s6,r6,f6⟩:=(q.push J).iG S (A.trans hn) (i:=d+1) (j:=d) (by omega) (by omega);rw [X]at i5;refine av (.inl rfl) ?_;simp [B,z,i5,j5,l5,l6,w5,w6,s5,j6,s6,-an,-bh,aQ (n:=(d:Int))];refine aw ?_;refine av (.inl rfl) ?_;simp [z,aQ (n:=(d:Int)+1+1)];exact ih (m-1) _ (by omega) ⟨d+1,_,H6,iG l (d+1) d,rfl,by omega,by omega,by simp [B],by simp [K],by simp [E],by simp [I],by simp [L],by simp [M],by simp,(u.trans (Fm.push _ _)).trans f6,r6,
  g.trans (eV (by omega) (by omega) (by omega) (by omega) (by omega))⟩
theorem ae8{H:aj}{rows:List (List FC)}{n a e b ep:Nat}(hT:tab σ.pins=aa (Er σ sz))(a8:Cv tab cv W c)(hc:vO W c)(hn:rows.length=n)(hl:n≤1000000000)(v:RB H b sz ep rows)(hg:bR sz rows)(hW:∀ r ∈ rows,W r)(d_:a<e)(a9:e≤n)(b_:Dj c a e rows) :
  ∃ r H',Ev tab (.fn σ.pins) [.c (.sl b 0 n 0 ep sz),vi a,vi e,cv] H r H'∧((∃ w:Bool,r=vb w∧Fm b H H'∧∃ l',RB H' b sz ep l'∧ew a e rows l'∧(w=ae→Up c a e l'))):=by
 refine dn hT rfl fun Q hQ=>?_;apply ai;simp;apply ai;simp [aQ (n:=(a:Int)+1)];apply aq;apply ai;simp;refine aB ?_;refine bI (fun m s=>∃(i g:Nat) (t:T) (H1:aj) (l:List (List FC)),s=⟨t,[],H1⟩∧g+m=5∧a<i∧i≤e∧t.g 0=.c (.sl b 0 n 0 ep sz)∧t.g 1=vi a∧t.g 2=vi e∧t.g 3=cv∧t.g 9=vi i∧t.g 10=vi g ∧
   Fm b H H1∧RB H1 b sz ep l∧ew a e rows l∧Up c a i l) 5
  ⟨a+1,0,_,H,rows,rfl,rfl,by omega,by omega,by simp,by simp,by simp,by simp,by simp,by simp,Fm.refl H,v,ew.refl _ _ _,Up.one (by omega)⟩ ?_
 rintro m s ⟨i,g,t,H1,l,rfl,hm,c9,c_,I,F,E,M,A,J,z,v,u,B⟩ ih;apply aq;apply ai;simp [J];by_cases h5:g<5
 case neg=>
  have Z:¬ ((g:Int)<5):=by omega
  refine al (by simp [Z]) ?_;refine bq (k':=[.code (tI)]) rfl ?_;apply ai;simp;exact aJ (hQ _ _ (vb ag) rfl (by simp [Km.results,ba]) ⟨ag,rfl,z,l,v,u,fun h=>nomatch h⟩)
 have Z:(g:Int)<5:=by omega
 refine ak (by simp [Z]) (aL ?_);apply aq;refine aB ?_;apply aq;have L:=u.len;have K:∀ {l},ew a e rows l→bR sz l:=fun h=>h.s7 hg;have U:∀ {l},ew a e rows l→∀ r ∈ l,W r:=fun h r hr=>hW r (h.1.mem_iff.1 hr);refine Mt a8 hc (L.trans hn) hl (K u) (U u) (H0:=H) c9 c_ a9 B (by simp [I]) (by simp [F]) (by simp [E]) (by simp [M]) (by simp [A]) (by simp [J];rfl) z v ?_;intro t H2 i' hi B a_ I F E M A J z v;apply aq;apply ai;simp [A,E];by_cases Y:i'=e
 ·subst Y;refine ak (by simp) ?_;apply ai;simp;exact aJ (hQ _ _ (vb ae) rfl (by simp [Km.results,ba]) ⟨ae,rfl,z,l,v,u,fun _=>B⟩)
 refine a5 (by simp [Y]) ?_;apply aq;apply ai;simp [F,E,aQ (n:=(e:Int)-a)];by_cases d9:(e:Int)-a<50
 ·refine ak (by simp;omega) ?_;apply ai;simp;exact aJ (hQ _ _ (vb ag) rfl (by simp [Km.results,ba]) ⟨ag,rfl,z,l,v,u,fun h=>nomatch h⟩)
 refine al (by simp;omega) (aL ?_);obtain⟨d,rfl⟩:∃ d,i'=d+1:=⟨i'-1,by omega⟩
 have c1:((d+1:Nat):Int)=(d:Int)+1:=by omega
 obtain⟨x5,y5,H5,H6,d5,d6,i5,j5,l5,l6,w5,w6,s5,j6,s6,r6,f6⟩:=v.iG (K u) (L.trans hn) (i:=d+1) (j:=d) (by omega) (by omega);have d8:c x5 y5<0:=by
  rcases a_ with h | h
  ·omega
  ·exact h x5 y5 d5 (by simpa using d6)
 have N:ew a e rows (iG l (d+1) d):=u.trans (eV (by omega) (by omega) (by omega) (by omega) (by omega));rw [c1]at i5 A;apply ai;simp [I,A,i5,j5,l5,l6,w5,w6,s5,j6,s6,-an,-bh,aQ (n:=(d:Int))];have b9:∀(t:T) (O:aj) (S:List (List FC)),t.g 0=.c (.sl b 0 n 0 ep sz)→t.g 1=vi a→t.g 2=vi e→t.g 3=cv→t.g 9=vi (d+1:Nat)→t.g 10=vi g→Fm b H O→RB O b sz ep S→ew a e rows S→Up c a (d+1) S →
   WP tab σ.pins ab [.inBlock 1,.code (zJ),.inLoop (Ep sz),.inBlock 0,.code (tI)] ⟨t,[],O⟩ Q:=by
  intro t O S I F E M A J z v u B;refine aw (av (.inl rfl) ?_);simp [J,aQ (n:=(g:Int)+1)];exact ih (m-1) _ (by omega) ⟨d+1,g+1,_,O,S,rfl,by omega,by omega,by omega,by simp [I],by simp [F],by simp [E],by simp [M],by simp [A],by simp,z,v,u,B⟩
 have right:∀(t:T) (O:aj) (S:List (List FC)),t.g 0=.c (.sl b 0 n 0 ep sz)→t.g 1=vi a→t.g 2=vi e→t.g 3=cv→t.g 9=vi (d+1:Nat)→t.g 10=vi g→Fm b H O→RB O b sz ep S→ew a e rows S→Up c a (d+1) S →
   WP tab σ.pins ab [.code (F9 sz),.inBlock 1,.code (zJ),.inLoop (Ep sz),.inBlock 0,.code (tI)] ⟨t,[],O⟩ Q:=by
  intro t O S I F E M A J z v u B;have L:=u.len;rw [c1]at A;apply aq;refine av (.inl rfl) ?_;simp [A,E,aQ (n:=(e:Int)-((d:Int)+1))];by_cases h2:(2:Int)≤(e:Int)-((d:Int)+1)
  case neg=>
   refine al (by simp;omega) (aL ?_);exact b9 _ O S (by simp [I]) (by simp [F]) (by simp [E]) (by simp [M]) (by simp [A]) (by simp [J]) z v u B
  refine ak (by simp;omega) ?_;apply ai;simp [A,aQ (n:=(d:Int)+1+1)];refine Es a8 (L.trans hn) hl (K u) (U u) (H0:=H) (a:=a) (i:=d+1) (e:=e) (g10:=vi g) (by omega) a9 (by simp [I]) (by simp [F]) (by simp [E]) (by simp [M]) (by simp [A]) (by simp [J]) (by simp) z v ?_;intro t H4 l4 X I F E M A J z v;exact b9 t H4 l4 I F E M A J z v (u.trans (X.mono (by omega) (OF _))) (B.of fun k _ hk=>X.lt hk)
 apply aq;apply ai;simp [A,F,aQ (n:=(d:Int)+1-a)];by_cases h2:(2:Int)≤(d:Int)+1-a
 case neg=>
  refine al (by simp;omega) (aL ?_);exact right _ H6 _ (by simp [I]) (by simp [F]) (by simp [E]) (by simp [M]) (by simp [A]) (by simp [J]) (z.trans f6) r6 N (Up.one (by omega))
 refine ak (by simp;omega) ?_;apply ai;simp [A,aQ (n:=(d:Int))];have d3:=N.len;refine Ms a8 hc (d3.trans hn) hl (K N) (U N) (H0:=H) (a:=a) (i:=d) (j:=d) (e:=e) (g10:=vi g) (by omega) rfl (by omega) a9 (b_.vR N (OF _) (OF _) (by omega) (by omega)) ?_ (by simp [I]) (by simp [F]) (by simp [E]) (by simp [M]) (by simp [A]) (by simp [J]) (by simp) (z.trans f6) r6 ?_
 ·intro p q h1 h2 h3 h4;have g:∀ k,k<d→(iG l (d+1) d)[k]?=l[k]?:=fun k hk=>by rw [gG (by omega) (by omega),aZ (by omega),aZ (by omega)]
  exact kP.get (fun x y=>B p q x y h1 h2 (by omega)) (g p (by omega)) (g q (by omega))
 intro t H4 l4 X d7 I F E M A J z v;exact right t H4 l4 I F E M A J z v (N.trans X) d7
end
def ua(i b:Nat):Prop:=b=2*i+1∨b=2*i+2
def Hp(c:List FC→List FC→Int)(f h k:Nat)(l:List (List FC)):Prop:=∀ i b,k≤i→ua i b→b<h→kP c l (f+b) (f+i)
def WQ(c:List FC→List FC→Int)(f h k r:Nat)(l:List (List FC)):Prop:=
 (∀ i b,k≤i→i≠r→ua i b→b<h→kP c l (f+b) (f+i))∧∀ i b,k≤i→ua i r→ua r b→b<h→kP c l (f+b) (f+i)
section
variable{W:List FC→Prop}{c:List FC→List FC→Int}{l:List (List FC)}
theorem Hp.x{f h k:Nat}(j:Hp c f h (k+1) l):WQ c f h k k l:=
 ⟨fun i g a b d e=>j i g (by omega) d e,fun i g a b d e=>by unfold ua at b;omega⟩
theorem WQ.leaf{f h k r:Nat}(j:WQ c f h k r l)(hr:h≤2*r+1):Hp c f h k l:=fun i g a b d=>by
 by_cases e:i=r
 ·subst e;unfold ua at b;omega
 ·exact j.1 i g a e b d
theorem WQ.stop{f h k r j:Nat}(hc:vO W c)(s:∀ r ∈ l,W r)(v:WQ c f h k r l)(y:f+h≤l.length)(x:ua r j)(u:j<h)(g:∀ q,ua r q→q<h→kP c l (f+q) (f+j))(m:kP c l (f+j) (f+r)):Hp c f h k l:=fun i q a b d=>by
 by_cases e:i=r
 ·subst e;exact(g q b d).trans hc s m (by omega)
 ·exact v.1 i q a e b d
theorem WQ.step{f h k r b:Nat}(hc:vO W c)(L:∀ r ∈ l,W r)(B:WQ c f h k r l)(O:f+h≤l.length)(M:k≤r)(z:ua r b)(A:b<h)(m:∀ q,ua r q→q<h→kP c l (f+q) (f+b)){x y:List FC}(E:l[f+r]?=aa x)(H:l[f+b]?=aa y)(F:c x y<0) :
  WQ c f h k b (iG l (f+r) (f+b)):=by
 have N:r<b:=by unfold ua at z;omega
 have g:∀ q,(iG l (f+r) (f+b))[f+q]?=if q=b then l[f+r]? else if q=r then l[f+b]? else l[f+q]?:=fun q=>by
  rw [gG (by omega) (by omega)];by_cases I:q=b
  ·subst I;simp
  rw [aZ (by omega),aZ I];by_cases j:q=r
  ·subst j;simp
  rw [aZ (by omega),aZ j]
 refine⟨fun i q hi s u d=>?_,fun i q hi K J d=>?_⟩
 ·by_cases e:i=r
  ·subst e;by_cases j:q=b
   ·subst j;exact(kP.of_lt hc L E H F).get (by rw [g,bp rfl]) (by rw [g,aZ (by omega),bp rfl])
   ·exact(m q u d).get (by rw [g,aZ j,aZ (by unfold ua at u;omega)]) (by rw [g,aZ (by omega),bp rfl])
  ·by_cases j:q=r
   ·subst j;exact(B.2 i b hi u z A).get (by rw [g,aZ (by omega),bp rfl]) (by rw [g,aZ s,aZ e])
   ·have v:q≠b:=by unfold ua at u z;omega
    exact(B.1 i q hi e u d).get (by rw [g,aZ v,aZ j]) (by rw [g,aZ s,aZ e])
 ·have e:i=r:=by unfold ua at K z;omega
  subst e;have v:q≠b∧q≠i:=by unfold ua at J;omega
  exact(B.1 b q (by omega) (by omega) J d).get (by rw [g,aZ v.1,aZ v.2]) (by rw [g,aZ (by omega),bp rfl])
theorem kP.self{i:Nat}(hc:vO W c)(b:∀ r ∈ l,W r):kP c l i i:=fun x y d hy=>by
 rw [d]at hy;cases hy;have:=arR d;intro q;exact hc.Ds (b _ this) (b _ this) q q
theorem Hp.top{f h:Nat}(hc:vO W c)(b:∀ r ∈ l,W r)(j:Hp c f h 0 l)(s:f+h≤l.length):∀ k,k<h→kP c l (f+k) f:=by
 intro k;induction k using Nat.strongRecOn with
 | ind k m=>
  intro g;rcases asq k with rfl | q
  ·exact kP.self hc b
  ·have d:=j ((k-1) / 2) k (by omega) (by unfold ua;omega) g;exact d.trans hc b (m ((k-1) / 2) (by omega) (by omega)) (by omega)
def yI(c:List FC→List FC→Int)(f h j:Nat)(l:List (List FC)):Prop:=∀ p q,p<q→j≤q→q<h→kP c l (f+p) (f+q)
theorem yI.swap{f h i:Nat}(hc:vO W c)(E:∀ r ∈ l,W r)(u:yI c f h (i+1) l)(A:Hp c f (i+1) 0 l)(hi:i<h)(I:f+h≤l.length):yI c f h i (iG l f (f+i))∧WQ c f i 0 0 (iG l f (f+i)):=by
 have g:∀ q,(iG l f (f+i))[f+q]?=if q=i then l[f]? else if q=0 then l[f+i]? else l[f+q]?:=fun q=>by
  rw [gG (by omega) (by omega)];by_cases j:q=i
  ·subst j;simp
  rw [aZ (by omega),aZ j];by_cases b:q=0
  ·subst b;simp
  rw [aZ (by omega),aZ b]
 refine⟨fun p q v J d=>?_,fun x m _ H z F=>?_,fun x m _ y=>by unfold ua at y;omega⟩
 ·have top:=A.top hc E (by omega);by_cases e:q=i
  ·subst e;by_cases b:p=0
   ·subst b;exact(top q (by omega)).get (by rw [g,aZ (by omega),bp rfl]) (by rw [g,bp rfl])
   ·exact(top p (by omega)).get (by rw [g,aZ (by omega),aZ b]) (by rw [g,bp rfl])
  ·have s:(iG l f (f+i))[f+q]?=l[f+q]?:=by rw [g,aZ e,aZ (by omega)]
   by_cases j:p=i
   ·subst j;exact(u 0 q (by omega) (by omega) d).get (by rw [g,bp rfl,Nat.add_zero]) s
   by_cases b:p=0
   ·subst b;exact(u i q (by omega) (by omega) d).get (by rw [g,aZ j,bp rfl]) s
   ·exact(u p q v (by omega) d).get (by rw [g,aZ j,aZ b]) s
 ·have y:x<m:=by unfold ua at z;omega
  have B:m≠0:=by omega
  exact(A x m (by omega) z (by omega)).get (by rw [g,aZ (by omega),aZ B]) (by rw [g,aZ (by omega),aZ H])
theorem yI.vR{f h i:Nat}{l':List (List FC)}(s:yI c f h i l)(g:ew f (f+i) l l')(A:f+h≤l.length)(hi:i≤h):yI c f h i l':=by
 intro p q d u b x y m hy;rw [g.ge (by omega)]at hy;by_cases z:i≤p
 ·rw [g.ge (by omega)]at m;exact s p q d u b x y m hy
 obtain⟨j,B,E,v⟩:=g.mem (by omega) (by omega) (by omega) (by omega) m;have:=s (j-f) q (by omega) u b x y;rw [show f+(j-f)=j by omega]at this;exact this v hy
theorem yI.up{f h:Nat}(b:yI c f h 0 l):Up c f (f+h) l:=fun i j x y g m q d hy=>by
 have:=b (i-f) (j-f) (by omega) (by omega) (by omega) x y;rw [show f+(i-f)=i by omega,show f+(j-f)=j by omega]at this;exact this d hy
end
section
variable{tab:Nat→Option aE}{σ:km}{sz:Nat}{H:aj}{b ep:Nat}{rows:List (List FC)}{cv:V}{W:List FC→Prop}{c:List FC→List FC→Int}
theorem Gk(hT:tab σ.wq=aa (zQ σ sz))(a9:Cv tab cv W c)(hc:vO W c){n lo h f:Nat}(hn:rows.length=n)(hl:n≤1000000000)(d:RB H b sz ep rows)(hg:bR sz rows)(hW:∀ r ∈ rows,W r)(b9:lo≤h)(c9:f+h≤n)(hx:WQ c f h lo lo rows) :
  ∃ r H',Ev tab (.fn σ.wq) [.c (.sl b 0 n 0 ep sz),vi lo,vi h,vi f,cv] H r H'∧(r=.t []∧Fm b H H'∧∃ l',RB H' b sz ep l'∧ew f (f+h) rows l'∧Hp c f h lo l'):=by
 refine dn hT rfl fun Q hQ=>?_;apply ai;simp;refine aB ?_;refine bI (fun m s=>∃(r:Nat) (t:T) (H1:aj) (l:List (List FC)),s=⟨t,[],H1⟩∧m=h-r∧lo≤r∧r≤h∧t.g 0=.c (.sl b 0 n 0 ep sz)∧t.g 2=vi h∧t.g 3=vi f∧t.g 4=cv∧t.g 10=vi r ∧
  Fm b H H1∧RB H1 b sz ep l∧ew f (f+h) rows l∧WQ c f h lo r l) _
  ⟨lo,_,H,rows,rfl,rfl,by omega,b9,by simp,by simp,by simp,by simp,by simp,Fm.refl H,d,ew.refl _ _ _,hx⟩ ?_
 rintro m s ⟨r,t,H1,l,rfl,rfl,b_,d3,L,M,N,U,g10,z,d,g,hx⟩ ih;have E:=g.len;have Y:=g.s7 hg;have v:∀ r ∈ l,W r:=fun r hr=>hW r (g.1.mem_iff.1 hr);have cf:∀ q:Nat,((f+q:Nat):Int)=(f:Int)+q:=fun q=>by omega
 refine aB ?_;apply ai;simp [g10,aQ (n:=(2:Int)*r),aQ (n:=(2:Int)*r+1)];apply aq;apply ai;simp [M];by_cases Z:h≤2*r+1
 ·refine ak (by simp;omega) ?_;refine bq (k':=[]) rfl ?_;exact jZ (hQ _ _ _ rfl rfl ⟨rfl,z,l,d,g,hx.leaf Z⟩)
 refine al (by simp;omega) (aL ?_);apply aq;have go:∀(t:T) (H2:aj) (A:Nat),ua r A→A<h→(∀ q,ua r q→q<h→kP c l (f+q) (f+A))→t.g 0=.c (.sl b 0 n 0 ep sz)→t.g 2=vi h→t.g 3=vi f→t.g 4=cv→t.g 10=vi r→t.g 11=vi A→Fm b H H2→RB H2 b sz ep l →
   WP tab σ.wq ab [.code (Gj sz),.inBlock 1,.inLoop (Zg sz),.inBlock 0] ⟨t,[],H2⟩ Q:=by
  intro t H2 A hk a8 O L M N U g10 S z d;obtain⟨x,y,F,ar,J,I,K,i1,j1,l1,l2,B,he,-,-⟩:=d.ask Y a9 v (E.trans hn) (i:=f+r) (j:=f+A) (by omega) (by omega);rw [cf]at i1 j1;apply aq;apply ai;simp [L,N,U,g10,S,i1,j1,l1,l2,B,he,-an,aQ (n:=(f:Int)+r),aQ (n:=(f:Int)+A)];by_cases u:c x y<0
  case neg=>
   refine ak (by simp [u]) ?_;exact aJ (hQ _ _ _ rfl rfl ⟨rfl,z.trans (Fm.push _ _),l,d.push _,g,hx.stop hc v (by omega) hk a8 O (kP.of_le K I u)⟩)
  refine a5 (by simp [u]) ?_;obtain⟨x5,y5,H5,H6,-,-,i5,j5,l5,l6,w5,w6,s5,j6,s6,r6,f6⟩:=(d.push J).iG Y (E.trans hn) (i:=f+r) (j:=f+A) (by omega) (by omega);rw [cf]at i5 j5 j6;apply ai;simp [L,N,g10,S,i5,j5,l5,l6,w5,w6,s5,j6,s6,-an,-bh,aQ (n:=(f:Int)+r),aQ (n:=(f:Int)+A)];refine av (.inl rfl) ?_;simp [S];refine aw ?_;have c_:r<A:=by unfold ua at hk;omega
  exact ih _ _ (by omega) ⟨A,_,H6,_,rfl,rfl,by omega,by omega,by simp [L],by simp [M],by simp [N],by simp [U],by simp,(z.trans (Fm.push _ _)).trans f6,r6,
   g.trans (eV (by omega) (by omega) (by omega) (by omega) (by omega)),hx.step hc v (by omega) b_ hk a8 O I K u⟩
 apply aq;refine av (.inl rfl) ?_;by_cases h2:2*r+2<h
 case neg=>
  have X:¬ ((2:Int)*r+1+1<h):=by omega
  simp [M,X,aQ (n:=(2:Int)*r+1+1)];refine a5 (by simp) ?_;refine go _ H1 (2*r+1) (.inl rfl) (by omega) (fun q hq a_=>?_) (by simp [L]) (by simp [M]) (by simp [N]) (by simp [U]) (by simp [g10]) (by simp) z d;have:q=2*r+1:=by unfold ua at hq;omega
  subst this;exact kP.self hc v
 have X:((2:Int)*r+1+1<h):=by omega
 obtain⟨x,y,F,ar,J,I,K,i1,j1,l1,l2,B,he,-,-⟩:=d.ask Y a9 v (E.trans hn) (i:=f+(2*r+1)) (j:=f+(2*r+2)) (by omega) (by omega);have e1:((f+(2*r+1):Nat):Int)=(f:Int)+(2*r+1):=by omega
 have e2:((f+(2*r+2):Nat):Int)=(f:Int)+(2*r+1)+1:=by omega
 rw [e1]at i1;rw [e2]at j1;simp [L,M,N,U,X,i1,j1,l1,l2,B,he,-an,aQ (n:=(2:Int)*r+1+1),aQ (n:=(f:Int)+(2*r+1)),aQ (n:=(f:Int)+(2*r+1)+1)];by_cases u:c x y<0
 ·refine ak (by simp [u]) ?_;refine av (.inl rfl) ?_;simp [aQ (n:=(2:Int)*r+1+1)];refine go _ _ (2*r+2) (.inr rfl) (by omega) (fun q hq a_=>?_) (by simp [L]) (by simp [M]) (by simp [N]) (by simp [U]) (by simp [g10]) (by simp;omega) (z.trans (Fm.push _ _)) (d.push _);rcases hq with rfl | rfl
  ·exact kP.of_lt hc v I K u
  ·exact kP.self hc v
 ·refine a5 (by simp [u]) ?_;refine go _ _ (2*r+1) (.inl rfl) (by omega) (fun q hq a_=>?_) (by simp [L]) (by simp [M]) (by simp [N]) (by simp [U]) (by simp [g10]) (by simp) (z.trans (Fm.push _ _)) (d.push _);rcases hq with rfl | rfl
  ·exact kP.self hc v
  ·exact kP.of_le K I u
theorem adO(hT:tab σ.heap=aa (DM σ sz))(hS:tab σ.wq=aa (zQ σ sz))(N:Cv tab cv W c)(Z:vO W c){n a e:Nat}(hn:rows.length=n)(hl:n≤1000000000)(u:RB H b sz ep rows)(hg:bR sz rows)(hW:∀ r ∈ rows,W r)(c9:a<e)(a9:e≤n) :
  ∃ r H',Ev tab (.fn σ.heap) [.c (.sl b 0 n 0 ep sz),vi a,vi e,cv] H r H'∧(r=.t []∧Fm b H H'∧∃ l',RB H' b sz ep l'∧ew a e rows l'∧Up c a e l'):=by
 obtain⟨h,rfl⟩:∃ h,e=a+h:=⟨e-a,by omega⟩
 have hw:IntKind.i64.wrap ((a:Int)+h-a)=h:=by rw [aQ];omega
 have hq:bS .quo (vi ((h:Int)-1)) (vi 2)=aa (vi (((h-1) / 2:Nat):Int)):=by
  have:=afb (a:=h-1) (b:=2) (by omega) (by omega);rwa [show((h-1:Nat):Int)=(h:Int)-1 by omega]at this
 refine dn hT rfl fun Q hQ=>?_;apply ai;simp;apply ai;simp;apply ai;simp [hw];have x:∀ {l},ew a (a+h) rows l→bR sz l:=fun h=>h.s7 hg;have B:∀ {l},ew a (a+h) rows l→∀ r ∈ l,W r:=fun h r hr=>hW r (h.1.mem_iff.1 hr);apply aq;apply ai;simp [hq,aQ (n:=(h:Int)-1)];refine aB ?_;refine bI (fun m s=>∃(t:T) (E:aj) (l:List (List FC)),s=⟨t,[],E⟩∧m≤h∧t.g 0=.c (.sl b 0 n 0 ep sz)∧t.g 3=cv∧t.g 8=vi a∧t.g 9=vi 0∧t.g 10=vi h∧t.g 11=vi ((m:Int)-1) ∧
  Fm b H E∧RB E b sz ep l∧ew a (a+h) rows l∧Hp c a h m l) ((h-1) / 2+1)
  ⟨_,H,rows,rfl,by omega,by simp,by simp,by simp,by simp,by simp,by simp,Fm.refl H,u,ew.refl _ _ _,fun i ch h1 h2 h3=>by unfold ua at h2;omega⟩ ?_
 rintro m s ⟨t,E,l,rfl,b9,I,K,J,M,g10,F,y,u,g,O⟩ ih;have z:=g.len;apply aq;apply ai;simp [F];rcases asq m with rfl | a_
 case inr=>
  obtain⟨d,rfl⟩:∃ d,m=d+1:=⟨m-1,by omega⟩
  have X:((d+1:Nat):Int)-1=d:=by omega
  rw [X]at F;refine ak (by simp;omega) (aL ?_);obtain⟨r,U,L,rfl,Y,l2,r2,S,p2⟩:=Gk hS N Z (z.trans hn) hl u (x g) (B g) (lo:=d) (h:=h) (f:=a) (by omega) a9 O.x;apply aq;refine aB (av (.inl rfl) ?_);simp [I,K,J,g10,F,L.eq];refine aw (av (.inl rfl) ?_);simp [F,aQ (n:=(d:Int)-1)];exact ih d _ (by omega) ⟨_,U,l2,rfl,by omega,by simp [I],by simp [K],by simp [J],by simp [M],by simp [g10],by simp,y.trans Y,r2,g.trans S,p2⟩
 refine al (by simp) ?_;refine bq (k':=[.code (FB σ sz)]) rfl ?_;apply ai;simp [g10,aQ (n:=(h:Int)-1)];refine aB ?_;refine bI (fun m s=>∃(t:T) (E:aj) (l:List (List FC)),s=⟨t,[],E⟩∧m≤h∧t.g 0=.c (.sl b 0 n 0 ep sz)∧t.g 3=cv∧t.g 8=vi a∧t.g 9=vi 0∧t.g 12=vi ((m:Int)-1) ∧
  Fm b H E∧RB E b sz ep l∧ew a (a+h) rows l∧Hp c a m 0 l∧yI c a h m l) h
  ⟨_,E,l,rfl,by omega,by simp [I],by simp [K],by simp [J],by simp [M],by simp,y,u,g,O,fun p q h1 h2 h3=>by omega⟩ ?_
 rintro m s ⟨t,E,l,rfl,b9,I,K,J,M,v,y,u,g,O,hd⟩ ih;have z:=g.len;apply aq;apply ai;simp [v];rcases asq m with rfl | a_
 ·refine al (by simp) ?_;refine bq (k':=[]) rfl ?_;exact jZ (hQ _ _ _ rfl rfl ⟨rfl,y,l,u,g,hd.up⟩)
 obtain⟨d,rfl⟩:∃ d,m=d+1:=⟨m-1,by omega⟩
 have X:((d+1:Nat):Int)-1=d:=by omega
 rw [X]at v;refine ak (by simp;omega) (aL ?_);obtain⟨x5,y5,H5,H6,-,-,i5,j5,l5,l6,w5,w6,s5,j6,s6,r6,f6⟩:=u.iG (x g) (z.trans hn) (i:=a) (j:=a+d) (by omega) (by omega);have ce:((a+d:Nat):Int)=(a:Int)+d:=by omega
 rw [ce]at j5 j6;obtain⟨a8,b_⟩:=hd.swap Z (B g) O (by omega) (by omega);have A:ew a (a+h) rows (iG l a (a+d)):=g.trans (eV (by omega) (by omega) (by omega) (by omega) (by omega));obtain⟨r,U,L,rfl,Y,l2,r2,S,p2⟩:=Gk hS N Z (A.len.trans hn) hl r6 (x A) (B A) (lo:=0) (h:=d) (f:=a) (by omega) (by omega) b_;have L:=L.eq;simp at L;apply aq;refine aB ?_;apply ai;simp [I,J,v,i5,j5,l5,l6,w5,w6,s5,j6,s6,-an,-bh,aQ (n:=(a:Int)+d)];refine av (.inl rfl) ?_;simp [I,K,J,M,v,L];refine aw (av (.inl rfl) ?_);simp [v,aQ (n:=(d:Int)-1)];exact ih d _ (by omega) ⟨_,U,l2,rfl,by omega,by simp [I],by simp [K],by simp [J],by simp [M],by simp,(y.trans f6).trans Y,r2,A.trans (S.mono (OF _) (by omega)),p2,
  a8.vR S (by rw [A.len];omega) (by omega)⟩
end
abbrev vu(n:Int):V:=.c (.f (.int .u64 n))
def NU(H:aj)(p:Nat):Prop:=∃ k:Int,H[p]?=aa (.box [.f (.int .u64 k)] 0)
theorem an8{a b:Int}(d:0≤b):bS .shl (vu a) (vu b)=aa (vu (IntKind.wrap .u64 (a*2 ^ (min b.toNat 64)))):=by
 simp only [bS,aZ (show¬ b<0 by omega)];rfl
theorem an9{a b:Int}(d:0≤b):bS .shr (vu a) (vu b)=aa (vu (a.fdiv (2 ^ (min b.toNat 64)))):=by
 simp only [bS,aZ (show¬ b<0 by omega)];rfl
theorem aol{a b:Int}:bS .xor (vu a) (vu b)=aa (vu (IntKind.wrap .u64 (BitVec.ofInt 64 a ^^^ BitVec.ofInt 64 b).toNat)):=by
 simp only [bS,lu,if_true];rfl
theorem yA(n:Int):IntKind.wrap .u64 n=n % 18446744073709551616:=rfl
theorem W3{x:Int}{k:Nat}(j:k≤62):∃ o:Nat,o<2 ^ k∧bS .and (vu x) (vu ((2:Int) ^ k-1))=aa (vu o):=by
 have l:(2:Nat) ^ k≤2 ^ 62:=atq (by omega) j;have g:(2:Nat) ^ 62=4611686018427387904:=by decide
 have b:0<(2:Nat) ^ k:=Nat.pow_pos (by omega);have e:BitVec.ofInt 64 ((2:Int) ^ k-1)=BitVec.ofNat 64 (2 ^ k-1):=by
  have:((2:Int) ^ k-1)=((2 ^ k-1:Nat):Int):=by
   rw [Int.ofNat_sub b];simp
  rw [this,BitVec.ofInt_natCast]
 refine⟨(BitVec.ofInt 64 x).toNat % 2 ^ k,Nat.mod_lt _ b,?_⟩;have d:(BitVec.ofInt 64 x &&& BitVec.ofInt 64 ((2:Int) ^ k-1)).toNat=(BitVec.ofInt 64 x).toNat % 2 ^ k:=by
  rw [e,BitVec.toNat_and,BitVec.toNat_ofNat,Nat.mod_eq_of_lt (a:=2 ^ k-1) (by omega),Nat.and_two_pow_sub_one_eq_mod]
 have m:(BitVec.ofInt 64 x).toNat % 2 ^ k<2 ^ k:=Nat.mod_lt _ b;simp only [bS,lu,if_true];show aa (vu (IntKind.wrap .u64 ((BitVec.ofInt 64 x &&& BitVec.ofInt 64 ((2:Int) ^ k-1)).toNat)))=_;rw [d,yA,Int.emod_eq_of_lt (by omega) (by omega)]
section
variable{tab:Nat→Option aE}{σ:km}{sz:Nat}{H:aj}{b ep:Nat}{rows:List (List FC)}{cv:V}{W:List FC→Prop}{c:List FC→List FC→Int}
theorem NU.fm{p b:Nat}{H H':aj}(h:NU H p)(d:Fm b H H')(e:p≠b):NU H' p:=by
 obtain⟨k,h⟩:=h;exact⟨k,d.get h e⟩
theorem Fm.far{p b:Nat}{H d g:aj}(h:Fm b H d)(q:H.length≤p)(m:Fm p d g):Fm b H g:=
 ⟨arZ h.1 m.1,fun j n l=>(m.2 j (by omega) (Nat.lt_of_lt_of_le l h.1)).trans (h.2 j n l)⟩
theorem agF(a:Int)(b:Int)(d:0≤b):∃ v,bS .shl (.c (.f (.int .u64 a))) (.c (.f (.int .u64 b)))=aa (.c (.f (.int .u64 v))):=⟨_,an8 d⟩
theorem an'(a:Int)(b:Int)(d:0≤b):∃ v,bS .shr (.c (.f (.int .u64 a))) (.c (.f (.int .u64 b)))=aa (.c (.f (.int .u64 v))):=⟨_,an9 d⟩
theorem ZF(a b:Int):∃ v,bS .xor (.c (.f (.int .u64 a))) (.c (.f (.int .u64 b)))=aa (.c (.f (.int .u64 v))):=⟨_,aol⟩
theorem ail(S:tab σ.Yh=aa (FT σ sz)){p:Nat}(s:NU H p) :
  ∃ r H',Ev tab (.fn σ.Yh) [.c (.ptr p 0 0)] H r H'∧((∃ k:Int,r=vu k)∧Fm p H H'∧NU H' p):=by
 obtain⟨k,s⟩:=s;have x:=au s;have j:∀(H:aj) (k:Int),p<H.length→(H.set p (.box [.f (.int .u64 k)] 0))[p]?=aa (.box [.f (.int .u64 k)] 0):=fun H k h=>List.getElem?_set_self h;refine dn S rfl fun Q O=>?_;apply ai;simp;obtain⟨a1,I⟩:=agF k 13 (by omega);obtain⟨m,J⟩:=ZF k a1;apply ai;simp [s,I,J];obtain⟨u,b⟩:=aO (H.set p (.box [.f (.int .u64 m)] 0));rw [←b];have p1:u[p]?=aa (.box [.f (.int .u64 m)] 0):=by rw [b];exact j _ _ x
 have B:Fm p H u:=by rw [b];exact Fm.set _ _
 obtain⟨z,K⟩:=an' m 7 (by omega);obtain⟨q,L⟩:=ZF m z;apply ai;simp [p1,K,L];obtain⟨v,d⟩:=aO (u.set p (.box [.f (.int .u64 q)] 0));rw [←d];have p2:v[p]?=aa (.box [.f (.int .u64 q)] 0):=by rw [d];exact j _ _ (au p1)
 have E:Fm p H v:=by rw [d];exact B.trans (Fm.set _ _)
 obtain⟨A,M⟩:=agF q 17 (by omega);obtain⟨l,N⟩:=ZF q A;apply ai;simp [p2,M,N];obtain⟨y,g⟩:=aO (v.set p (.box [.f (.int .u64 l)] 0));rw [←g];have p3:y[p]?=aa (.box [.f (.int .u64 l)] 0):=by rw [g];exact j _ _ (au p2)
 have F:Fm p H y:=by rw [g];exact E.trans (Fm.set _ _)
 apply ai;simp [p3];exact aJ (O _ _ (vu l) rfl (by simp [Km.results,ba]) ⟨⟨l,rfl⟩,F,l,p3⟩)
theorem aik(q:tab σ.npt=aa (FR σ sz)){L k:Nat}(b:bA tab σ.len [vu L]=Eq (vi k))(v:L≤1000000000)(s:k≤62):bA tab σ.npt [vi L] (vu ((2:Int) ^ k)):=by
 refine bG q rfl fun Q m=>?_;apply ai;simp;have d:IntKind.wrap .u64 (L:Int)=L:=by rw [yA];omega
 have j:(2:Nat) ^ k≤2 ^ 62:=atq (by omega) s;have l:(2:Nat) ^ 62=4611686018427387904:=by decide
 have u:bS .shl (.c (.f (.int .u64 1))) (.c (.f (.int .i64 (k:Int))))=aa (vu ((2:Int) ^ k)):=by
  simp only [bS,aZ (show¬ (k:Int)<0 by omega)];show aa (vu (IntKind.wrap .u64 (1*2 ^ (min (k:Int).toNat 64))))=_;have g:((2:Int) ^ k)=((2 ^ k:Nat):Int):=by simp
  obtain⟨w,d⟩:=aO (2 ^ k:Nat);rw [←d]at g j;rw [ar4,Nat.min_eq_left (by omega),Int.one_mul,yA,g,Int.emod_eq_of_lt (by omega) (by omega)]
 apply ai;simp [d,b,u];exact aJ (m _ _ ⟨rfl,_,by simp [Km.results,ba];rfl,by simp⟩)
theorem ahs(hT:tab σ.brk=aa (Xf σ sz))(hN:tab σ.Yh=aa (FT σ sz))(hP:tab σ.npt=aa (FR σ sz)){n a L k:Nat}(I:bA tab σ.len [vu L]=Eq (vi k))(U:k≤62)(c9:2 ^ k≤2*L)(hn:rows.length=n)(hl:n≤1000000000)(v:RB H b sz ep rows)(hg:bR sz rows)(h8:8≤L)(b9:a+L≤n) :
  ∃ r H',Ev tab (.fn σ.brk) [.c (.sl b 0 n 0 ep sz),vi a,vi (a+L:Nat),cv] H r H'∧(r=.t []∧Fm b H H'∧∃ l',RB H' b sz ep l'∧ew a (a+L) rows l'):=by
 have N:=(aik (σ:=σ) (sz:=sz) hP I (by omega) U).eq;obtain⟨d,hd⟩:=aO (L / 4);have hq:bS .quo (vi (L:Int)) (vi 4)=aa (vi (d:Int)):=by
  have:=afb (a:=L) (b:=4) (by omega) (by omega);rw [hd];exact this
 have hw:IntKind.i64.wrap ((a:Int)+L-a)=L:=by rw [aQ];omega
 have Y:IntKind.wrap .u64 (L:Int)=L:=by rw [yA];omega
 have h2:(2:Nat) ^ k≤2 ^ 62:=atq (by omega) U;have a8:(2:Nat) ^ 62=4611686018427387904:=by decide
 have d3:0<(2:Nat) ^ k:=Nat.pow_pos (by omega);have hp:((2:Int) ^ k)=((2 ^ k:Nat):Int):=by simp
 have X:IntKind.wrap .u64 ((2:Int) ^ k-1)=(2:Int) ^ k-1:=by rw [yA,hp,Int.emod_eq_of_lt (by omega) (by omega)]
 refine dn hT rfl fun Q hQ=>?_;apply ai;simp [hw];apply aq;refine av (.inl rfl) ?_;simp;refine ak (by simp;omega) ?_;have a_:=v.lt;apply ai;simp [Y];obtain⟨y,z⟩:=aO (H++[.box [.f (.int .u64 (L:Int))] 0]);rw [←z];have p1:NU y H.length:=⟨L,by rw [z];simp⟩
 have f1:Fm b H y:=by rw [z];exact Fm.push _ _
 have r1:RB y b sz ep rows:=by rw [z];exact v.push _
 apply ai;simp [N];apply ai;simp [hq,aQ (n:=(d:Int)*2),aQ (n:=(a:Int)+d*2),aQ (n:=(a:Int)+d*2-1)];refine aB ?_;refine bI (fun m s=>∃(i:Nat) (t:T) (y:aj) (l:List (List FC)),s=⟨t,[],y⟩∧i+m=a+d*2+2∧a≤i∧i≤a+d*2+2∧t.g 0=.c (.sl b 0 n 0 ep sz)∧t.g 1=vi a∧t.g 8=vi L∧t.g 9=.c (.ptr H.length 0 0)∧t.g 10=vu ((2:Int) ^ k)∧t.g 11=vi i ∧
  Fm b H y∧NU y H.length∧RB y b sz ep l∧ew a (a+L) rows l) 3
  ⟨a+d*2-1,_,y,rows,rfl,by omega,by omega,by omega,by simp,by simp,by simp,by simp,by simp,by simp;omega,f1,p1,r1,ew.refl _ _ _⟩ ?_
 rintro m s ⟨i,t,y,l,rfl,hm,a9,hi,E,B,A,F,g10,u,K,W,v,g⟩ ih;have M:=g.len;apply aq;apply ai;simp [B,A,u,hq,aQ (n:=(d:Int)*2),aQ (n:=(a:Int)+d*2),aQ (n:=(a:Int)+d*2+1)];by_cases c_:i≤a+d*2+1
 case neg=>
  refine al (by simp;omega) ?_;refine bq (k':=[]) rfl ?_;exact jZ (hQ _ _ _ rfl rfl ⟨rfl,K,l,v,g⟩)
 refine ak (by simp;omega) (aL ?_);obtain⟨r,Z,S,⟨x,rfl⟩,f2,n2⟩:=ail (σ:=σ) (sz:=sz) hN W;have S:=S.eq;obtain⟨o,ho,J⟩:=W3 (x:=x) (k:=k) U;have r2:RB Z b sz ep l:=f2.get v (by omega);have f3:=K.far (OF _) f2;apply aq;refine aB ?_;apply ai;simp [F,g10,S,X,J,aQ (n:=(o:Int))];have go:∀(t:T) (q:Nat),q<L→t.g 0=.c (.sl b 0 n 0 ep sz)→t.g 1=vi a→t.g 8=vi L→t.g 9=.c (.ptr H.length 0 0)→t.g 10=vu ((2:Int) ^ k)→t.g 11=vi i→t.g 12=vi q →
   WP tab σ.brk ab [.code (Xd sz),.inBlock 1,.code (Xe),.inLoop (Xc σ sz),.inBlock 0] ⟨t,[],Z⟩ Q:=by
  intro t q d5 E B A F g10 u O;obtain⟨x5,y5,H5,H6,-,-,i5,j5,l5,l6,w5,w6,s5,j6,s6,r6,f6⟩:=r2.iG (g.s7 hg) (M.trans hn) (i:=i) (j:=a+q) (by omega) (by omega);have ce:((a+q:Nat):Int)=(a:Int)+q:=by omega
  rw [ce]at j5 j6;refine av (.inl rfl) ?_;simp [E,B,u,O,i5,j5,l5,l6,w5,w6,s5,j6,s6,-an,-bh,aQ (n:=(a:Int)+q)];refine aw (av (.inl rfl) ?_);simp [u,aQ (n:=(i:Int)+1)];exact ih (m-1) _ (by omega) ⟨i+1,_,H6,_,rfl,by omega,by omega,by omega,by simp [E],by simp [B],by simp [A],by simp [F],by simp [g10],by simp,f3.trans f6,n2.fm f6 (by omega),r6,
   g.trans (eV (by omega) (by omega) (by omega) (by omega) (by omega))⟩
 apply aq;apply aq;refine av (.inl rfl) ?_;simp [A];by_cases b_:L≤o
 ·refine ak (by simp;omega) ?_;refine av (.inl rfl) ?_;simp [A,aQ (n:=(o:Int)-L)];exact go _ (o-L) (by omega) (by simp [E]) (by simp [B]) (by simp [A]) (by simp [F]) (by simp [g10]) (by simp [u]) (by simp;omega)
 ·refine al (by simp;omega) (aL ?_);exact go _ o (by omega) (by simp [E]) (by simp [B]) (by simp [A]) (by simp [F]) (by simp [g10]) (by simp [u]) (by simp)
end
section
variable{W:List FC→Prop}{c:List FC→List FC→Int}{l l':List (List FC)}
def Rest(c:List FC→List FC→Int)(a p q e:Nat)(l:List (List FC)):Prop:=∀ i j,a≤i→i<j→j<e→¬ (p≤i∧j<q)→kP c l i j
theorem Rest.all(c:List FC→List FC→Int)(a e:Nat)(l:List (List FC)):Rest c a a e e l:=fun i j b d g m=>by omega
theorem Rest.vR{a p q e:Nat}(h:Rest c a p q e l)(b:ew p q l l')(d:p≤q)(E:q≤l.length)(K:a≤p)(L:q≤e):Rest c a p q e l':=by
 intro i j A I B J x y g hy;by_cases v:p≤i∧i<q
 ·obtain⟨i',i1,i2,s⟩:=b.mem d E v.1 v.2 g;rw [b.ge (by omega)]at hy;exact h i' j (by omega) (by omega) B (by omega) x y s hy
 by_cases z:p≤j∧j<q
 ·obtain⟨M,N,O,u⟩:=b.mem d E z.1 z.2 hy;rw [b.lt (by omega)]at g;exact h i M A (by omega) (by omega) (by omega) x y g u
 have F:l'[i]?=l[i]?:=by
  by_cases m:i<p
  ·exact b.lt m
  ·exact b.ge (by omega)
 have H:l'[j]?=l[j]?:=by
  by_cases m:j<p
  ·exact b.lt m
  ·exact b.ge (by omega)
 rw [F]at g;rw [H]at hy;exact h i j A I B J x y g hy
theorem Rest.up{a p q e:Nat}(h:Rest c a p q e l)(hu:Up c p q l):Up c a e l:=fun i j x y m d s g hy=>by
 by_cases b:p≤i∧j<q
 ·exact hu i j x y b.1 d b.2 g hy
 ·exact h i j m d s b x y g hy
theorem Rest.low{a p q e:Nat}(h:Rest c a p q e l)(m:Dj c a e l)(j:a≤p)(s:q≤e):Dj c p q l:=fun k d g u=>by
 by_cases b:p=a
 ·subst b;exact m k d g (by omega)
 ·exact h (p-1) k (by omega) (by omega) (by omega) (by omega)
theorem Rest.left{a p q e m:Nat}(hr:Rest c a p q e l)(hc:vO W c)(s:∀ r ∈ l,W r)(B:e≤l.length)(E:mZ c p q m l)(hu:Up c p m l)(H:p≤m)(I:m<q)(J:q≤e):Rest c a (m+1) q e l:=by
 intro i j i1 A F K;by_cases g:p≤i∧j<q
 case neg=>exact hr i j i1 A F g
 obtain⟨v,z,lo,hi⟩:=E;rcases ash j m with u | u | u
 ·exact fun x y d hy=>hu i j x y g.1 A u d hy
 ·subst u;intro x y d hy;rw [z]at hy;cases hy;exact hc.Ds (s _ (arR d)) (s _ (arR z)) (lo i x g.1 A d)
 ·have b:i≤m:=by omega
  have right:kP c l m j:=fun x y d hy=>by
   rw [z]at d;cases d;exact hi j y u g.2 hy
  rcases asi b with b | b
  ·have left:kP c l i m:=fun x y d hy=>by
    rw [z]at hy;cases hy;exact hc.Ds (s _ (arR d)) (s _ (arR z)) (lo i x g.1 b d)
   exact left.trans hc s right (by omega)
  ·subst b;exact right
theorem Rest.right{a p q e m:Nat}(hr:Rest c a p q e l)(hc:vO W c)(u:∀ r ∈ l,W r)(B:e≤l.length)(E:mZ c p q m l)(hu:Up c (m+1) q l)(H:p≤m)(I:m<q)(J:q≤e):Rest c a p m e l:=by
 intro i j i1 A F K;by_cases d:p≤i∧j<q
 case neg=>exact hr i j i1 A F d
 obtain⟨v,s,lo,hi⟩:=E;rcases ash i m with g | g | g
 ·have left:kP c l i m:=fun x y b hy=>by
   rw [s]at hy;cases hy;exact hc.Ds (u _ (arR b)) (u _ (arR s)) (lo i x d.1 g b)
  rcases asi (show m≤j by omega)with z | z
  ·have right:kP c l m j:=fun x y b hy=>by
    rw [s]at b;cases b;exact hi j y z d.2 hy
   exact left.trans hc u right (by omega)
  ·subst z;exact left
 ·subst g;intro x y b hy;rw [s]at b;cases b;exact hi j y A d.2 hy
 ·exact fun x y b hy=>hu i j x y (by omega) A d.2 b hy
theorem Rest.equal{a p q e m:Nat}{v:List FC}(hr:Rest c a p q e l)(hc:vO W c)(g:∀ r ∈ l,W r)(b:Dj c p q l)(F:0<p){w:List FC}(A:l[p-1]?=aa w)(z:W v)(u:¬ c w v<0)
  (lo:∀(k:Nat) x,p≤k→k<m→l[k]?=aa x→¬ c v x<0):Rest c a m q e l:=by
 intro i j i1 J K N;by_cases d:p≤i∧j<q
 case neg=>exact hr i j i1 J K d
 intro x y B hy;have s:i<m:=by omega
 have H:=lo i x d.1 s B;have I:=b j F (by omega) d.2 w y A hy;have M:=g _ (arR B);have E:=g _ (arR hy);have L:=g _ (arR A);exact hc.trans M z E H (hc.trans z L E u I)
theorem mZ.vR{p q m g q':Nat}(H:mZ c p q m l)(d:ew g q' l l')(h:(p≤g∧q'≤m)∨(m<g∧q'≤q))(s:g≤q')(B:q'≤l.length):mZ c p q m l':=by
 obtain⟨v,E,lo,hi⟩:=H;refine⟨v,?_,fun k x u y b=>?_,fun k x u y b=>?_⟩
 ·rcases h with h | h
  ·rw [d.ge (by omega)];exact E
  ·rw [d.lt (by omega)];exact E
 ·by_cases j:g≤k∧k<q'
  ·obtain⟨k',a1,F,A⟩:=d.mem s B j.1 j.2 b;rcases h with h | h
   ·exact lo k' x (by omega) (by omega) A
   ·omega
  ·by_cases z:k<g
   ·rw [d.lt z]at b;exact lo k x u y b
   ·rw [d.ge (by omega)]at b;exact lo k x u y b
 ·by_cases j:g≤k∧k<q'
  ·obtain⟨k',a1,F,A⟩:=d.mem s B j.1 j.2 b;rcases h with h | h
   ·omega
   ·exact hi k' x (by omega) (by omega) A
  ·by_cases z:k<g
   ·rw [d.lt z]at b;exact hi k x u y b
   ·rw [d.ge (by omega)]at b;exact hi k x u y b
end
structure Pq(b n ep sz:Nat)(cv:V)(H:aj)(c:List FC→List FC→Int)(rows:List (List FC))(a e:Nat)(t:T)(H1:aj)(l:List (List FC))(p q:Nat)(lim:Int):Prop where
 g0:t.g 0=.c (.sl b 0 n 0 ep sz)
 g1:t.g 1=vi p
 g2:t.g 2=vi q
 g3:t.g 3=vi lim
 g4:t.g 4=cv
 fr:Fm b H H1
 rb:RB H1 b sz ep l
 sg:ew a e rows l
 re:Rest c a p q e l
 ap:a≤p
 pq:p≤q
 qe:q≤e
theorem Pq.aA{b n ep sz:Nat}{cv:V}{H:aj}{c:List FC→List FC→Int}{rows:List (List FC)}{a e:Nat}{t:T}{j:aj}{l:List (List FC)}{p q:Nat}{g:Int}(h:Pq b n ep sz cv H c rows a e t j l p q g)
  {d:T} (m:d.g 0=t.g 0) (s:d.g 1=t.g 1) (u:d.g 2=t.g 2) (v:d.g 3=t.g 3) (x:d.g 4=t.g 4):Pq b n ep sz cv H c rows a e d j l p q g:=
 ⟨m.trans h.g0,s.trans h.g1,u.trans h.g2,v.trans h.g3,x.trans h.g4,h.fr,h.rb,h.sg,h.re,h.ap,h.pq,h.qe⟩
theorem Pq.vR{b n ep sz:Nat}{cv:V}{H:aj}{c:List FC→List FC→Int}{rows:List (List FC)}{a e:Nat}{t:T}{j:aj}{l:List (List FC)}{p q:Nat}{d:Int}(h:Pq b n ep sz cv H c rows a e t j l p q d)
  {g:aj} {l2:List (List FC)} (v:Fm b j g) (s:RB g b sz ep l2) (m:ew p q l l2) (u:e≤rows.length):Pq b n ep sz cv H c rows a e t g l2 p q d:=
 ⟨h.g0,h.g1,h.g2,h.g3,h.g4,h.fr.trans v,s,h.sg.trans (m.mono h.ap h.qe),h.re.vR m h.pq (by rw [h.sg.len];exact arZ h.qe u) h.ap h.qe,h.ap,h.pq,h.qe⟩
structure agP(tab:Nat→Option aE)(σ:km)(sz:Nat):Prop where
 B8:tab σ.B8=aa (YC σ sz)
 ins:tab σ.ins=aa (BG σ sz)
 heap:tab σ.heap=aa (DM σ sz)
 wq:tab σ.wq=aa (zQ σ sz)
 brk:tab σ.brk=aa (Xf σ sz)
 piv:tab σ.piv=aa (YL σ sz)
 rev:tab σ.rev=aa (Y4 σ sz)
 part:tab σ.part=aa (En σ sz)
 YE:tab σ.YE=aa (YI σ sz)
 pins:tab σ.pins=aa (Er σ sz)
 v5:tab σ.v5=aa (zu σ sz)
 ZQ:tab σ.ZQ=aa (BQ σ sz)
 ord:tab σ.ord=aa (xZ σ sz)
 npt:tab σ.npt=aa (FR σ sz)
 Yh:tab σ.Yh=aa (FT σ sz)
section
variable{tab:Nat→Option aE}{σ:km}{sz:Nat}{b ep n:Nat}{cv:V}{W:List FC→Prop}{c:List FC→List FC→Int}
theorem ajb(hT:agP tab σ sz)(a_:Cv tab cv W c)(hc:vO W c)(hl:n≤1000000000)(d6:∀ L:Nat,L≤n→∃ k:Nat,bA tab σ.len [vu L]=Eq (vi k)∧k≤62∧(0<L→2 ^ k≤2*L)) :
  ∀(m a e:Nat) (H:aj) (rows:List (List FC)) (u:Int),e-a=m→a≤e→e≤n→rows.length=n→RB H b sz ep rows→bR sz rows→(∀ r ∈ rows,W r)→Dj c a e rows →
  ∃ r H',Ev tab (.fn σ.B8) [.c (.sl b 0 n 0 ep sz),vi a,vi e,vi u,cv] H r H'∧(r=.t []∧Fm b H H'∧∃ l',RB H' b sz ep l'∧ew a e rows l'∧Up c a e l'):=by
 intro m;induction m using Nat.strongRecOn with
 | ind m IH=>
 intro a e H rows u hm d7 d9 hn k_ hg hW e_;have K:∀ {l p q},ew p q rows l→bR sz l:=fun h=>h.s7 hg;have E:∀ {l p q},ew p q rows l→∀ r ∈ l,W r:=fun h r hr=>hW r (h.1.mem_iff.1 hr);refine dn hT.B8 rfl fun Q hQ=>?_;have done:∀ {M:aj} {l:List (List FC)},Fm b H M→RB M b sz ep l→ew a e rows l→Up c a e l→∀(j:Option az) (t:T),Q j ⟨t,[],M⟩:=
  fun hf hr hs hu j t=>hQ _ _ (.t []) rfl rfl ⟨rfl,hf,_,hr,hs,hu⟩
 apply ai;simp;apply ai;simp;refine aB ?_;refine bI (fun m s=>∃(p q:Nat) (u:Int) (w1 w2:Bool) (t:T) (M:aj) (l:List (List FC)),s=⟨t,[],M⟩∧m=q-p∧Pq b n ep sz cv H c rows a e t M l p q u∧t.g 10=vb w1∧t.g 11=vb w2) _
  ⟨a,e,u,ae,ae,_,H,rows,rfl,rfl,⟨by simp,by simp,by simp,by simp,by simp,Fm.refl H,k_,ew.refl _ _ _,Rest.all c a e rows,OF _,d7,OF _⟩,by simp,by simp⟩ ?_
 rintro m1 s ⟨p,q,u,w1,w2,t,M,l,rfl,rfl,z,g10,N⟩ ih;obtain⟨S,U,O,g3,X,-,-,-,-,ap,pq,qe⟩:=id z;refine aB ?_;apply ai;obtain⟨L,rfl⟩:∃ L,q=p+L:=⟨q-p,by omega⟩
 have hw:IntKind.i64.wrap ((p:Int)+L-p)=L:=by rw [aQ];omega
 have A:∀ {M t l u p q},Pq b n ep sz cv H c rows a e t M l p q u→l.length=n:=fun h=>h.sg.len.trans hn;have b9:∀ {M t l u p q},Pq b n ep sz cv H c rows a e t M l p q u→Dj c p q l:=fun h=>h.re.low (e_.vR h.sg (OF _) (OF _) d7 (by omega)) h.ap h.qe;simp [U,O,hw];apply aq;apply ai;simp;by_cases l7:L≤12
 ·refine ak (by simp;omega) ?_;obtain⟨r,H2,B,rfl,f2,l2,r2,s2,u2⟩:=ah4 hT.ins a_ hc (A z) hl z.rb (K z.sg) (E z.sg) z.pq (by omega);apply ai;have B:=B.eq;simp at B;simp [S,U,O,X,B];have g:=z.vR f2 r2 s2 (by omega);exact aJ (done g.fr g.rb g.sg (g.re.up u2) _ _)
 refine al (by simp;omega) (aL ?_);apply aq;apply ai;simp [g3];by_cases d_:u=0
 ·refine ak (by simp [d_]) ?_;obtain⟨r,H2,B,rfl,f2,l2,r2,s2,u2⟩:=adO hT.heap hT.wq a_ hc (A z) hl z.rb (K z.sg) (E z.sg) (show p<p+L by omega) (by omega);apply ai;have B:=B.eq;simp at B;simp [S,U,O,X,B];have g:=z.vR f2 r2 s2 (by omega);exact aJ (done g.fr g.rb g.sg (g.re.up u2) _ _)
 refine a5 (by simp [d_]) ?_;have i_:∀(t:T) (M:aj) (l:List (List FC)) (u:Int) (v:Nat),Pq b n ep sz cv H c rows a e t M l p (p+L) u→t.g 12=vi L→t.g 13=vi v→p≤v→v<p+L →
   WP tab σ.B8 ab [.code (YB σ),.inBlock 1,.inLoop (yj σ sz),.inBlock 0] ⟨t,[],M⟩ Q:=by
  intro t M l u v z Y Z a8 a9;obtain⟨S,U,O,g3,X,-,-,-,-,-,-,-⟩:=id z;obtain⟨r,H2,B,mid,w,rfl,m1,m2,f2,l2,r2,s2,pt⟩:=tH hT.part a_ (A z) hl z.rb (K z.sg) (E z.sg) (show p<p+L by omega) (by omega) a8 a9;have B:=B.eq;simp at B;have g:=z.vR f2 r2 s2 (by omega);have f9:=A g;obtain⟨d,hd⟩:=aO (L / 8);have hq:bS .quo (vi (L:Int)) (vi 8)=aa (vi (d:Int)):=by
   have:=afb (a:=L) (b:=8) (by omega) (by omega);rw [hd];exact this
  apply ai;simp [S,U,O,X,Z,B];apply ai;simp;apply ai;simp [U,O];apply ai;simp [Y,hq];apply aq;refine av (.inl rfl) ?_;simp [aQ (n:=(mid:Int)-p),aQ (n:=(p:Int)+L-mid)];by_cases l9:(mid:Int)-p<(p:Int)+L-mid
  ·refine ak (by simp;omega) ?_;obtain⟨r,H3,B,rfl,f3,l3,r3,s3,u3⟩:=IH (mid-p) (by omega) p mid H2 l2 u rfl m1 (by omega) f9 r2 (K g.sg) (E g.sg) ((b9 g).mono (by omega));have B:=B.eq;have I:=g.vR f3 r3 (s3.mono (OF _) (by omega)) (by omega);apply ai;simp;apply ai;simp [S,U,g3,X,B];refine av (.inl rfl) ?_;simp [aQ (n:=(mid:Int)+1)];refine aw (ih _ _ (by omega) ⟨mid+1,p+L,u,_,w,_,H3,l3,rfl,rfl,⟨by simp [S],by simp,by simp [O],by simp [g3],by simp [X],I.fr,I.rb,I.sg,?_,by omega,by omega,I.qe⟩,by simp;rfl,by simp⟩);exact I.re.left hc (E I.sg) (by rw [A I];exact d9) (pt.vR s3 (.inl ⟨OF _,OF _⟩) m1 (by omega)) u3 m1 m2 I.qe
  ·refine al (by simp;omega) ?_;have f_:Dj c (mid+1) (p+L) l2:=fun k h0 k1 k2 x y hx hy=>by
    obtain⟨v,hv,lo,hi⟩:=pt;rw [show mid+1-1=mid by omega,hv]at hx;cases hx;exact hi k y (by omega) k2 hy
   obtain⟨r,H3,B,rfl,f3,l3,r3,s3,u3⟩:=IH (p+L-(mid+1)) (by omega) (mid+1) (p+L) H2 l2 u rfl (by omega) (by omega) f9 r2 (K g.sg) (E g.sg) f_;have B:=B.eq;simp at B;have I:=g.vR f3 r3 (s3.mono (by omega) (OF _)) (by omega);apply ai;simp;apply ai;simp [S,O,g3,X,B,aQ (n:=(mid:Int)+1)];refine av (.inl rfl) ?_;simp;refine aw (ih _ _ (by omega) ⟨p,mid,u,_,w,_,H3,l3,rfl,rfl,⟨by simp [S],by simp [U],by simp,by simp [g3],by simp [X],I.fr,I.rb,I.sg,?_,by omega,by omega,by omega⟩,by simp;rfl,by simp⟩);exact I.re.right hc (E I.sg) (by rw [A I];exact d9) (pt.vR s3 (.inr ⟨by omega,OF _⟩) (by omega) (by omega)) u3 m1 m2 I.qe
 have c9:∀(t:T) (M:aj) (l:List (List FC)) (u:Int) (v:Nat) (w1 w2:Bool),Pq b n ep sz cv H c rows a e t M l p (p+L) u→t.g 12=vi L→t.g 13=vi v→t.g 10=vb w1→t.g 11=vb w2→p≤v→v<p+L →
   WP tab σ.B8 ab [.code (YA σ sz),.inBlock 1,.inLoop (yj σ sz),.inBlock 0] ⟨t,[],M⟩ Q:=by
  intro t M l u v w1 w2 z Y Z g10 N a8 a9;obtain⟨S,U,O,g3,X,-,-,-,-,-,-,-⟩:=id z;apply aq;apply ai;rcases asq p with c_ | c_
  ·simp [U,c_];refine a5 (by simp) ?_;exact i_ _ M l u v (z.aA (by simp [S]) (by simp [U,c_]) (by simp [O]) (by simp [g3]) (by simp [X])) (by simp [Y]) (by simp [Z]) a8 a9
  obtain⟨d,rfl⟩:∃ d,p=d+1:=⟨p-1,by omega⟩
  have j_:(0:Int)<(d:Int)+1:=by omega
  have c1:((d+1:Nat):Int)=(d:Int)+1:=by omega
  have c2:((d+1+L:Nat):Int)=(d:Int)+1+L:=by omega
  obtain⟨x,y,F,ar,J,hx,hy,i1,j1,l1,l2,d8,B,wx,wy⟩:=z.rb.ask (K z.sg) a_ (E z.sg) (A z) (i:=d) (j:=v) (by omega) (by omega);have d5:t.g 1=vi ((d:Int)+1):=by rw [U,c1]
  simp [S,d5,X,Z,j_,i1,j1,l1,l2,d8,B,-an,aQ (n:=(d:Int))];have b_:Pq b n ep sz cv H c rows a e t (M++J) l (d+1) (d+1+L) u:=z.vR (Fm.push _ _) (z.rb.push _) (ew.refl _ _ _) (by omega);by_cases d3:c x y<0
  ·refine a5 (by simp [d3]) ?_;exact i_ _ _ l u v (b_.aA (by simp [S]) (by simp [U]) (by simp [O]) (by simp [g3]) (by simp [X])) (by simp [Y]) (by simp [Z]) a8 a9
  refine ak (by simp [d3]) ?_;obtain⟨r,H2,B,mid,rfl,m1,m2,f2,l2,r2,s2,lo,hi⟩:=ajn hT.YE a_ hc (A b_) hl b_.rb (K b_.sg) (E b_.sg) (show d+1<d+1+L by omega) (by omega) a8 a9 hy;have B:=B.eq;have g:=b_.vR f2 r2 s2 (by omega);rw [c1,c2]at B;rw [c2]at O;apply ai;simp [S,d5,O,X,Z,B];apply ai;simp;refine bq (k':=[.inLoop (yj σ sz),.inBlock 0]) rfl ?_;refine ih _ _ (by omega) ⟨mid,d+1+L,u,w1,w2,_,H2,l2,rfl,rfl,⟨by simp [S],by simp,by simp [O],by simp [g3],by simp [X],g.fr,g.rb,g.sg,?_,by omega,by omega,g.qe⟩,by simp [g10],by simp [N]⟩;refine g.re.equal hc (E g.sg) (b9 g) (by omega) (w:=x) (v:=y) ?_ wy d3 lo;rw [show d+1-1=d by omega,s2.lt (by omega)];exact hx
 have h_:∀(t:T) (M:aj) (l:List (List FC)) (u:Int) (v:Nat) (w1 w2:Bool) (hint:Int),Pq b n ep sz cv H c rows a e t M l p (p+L) u→t.g 12=vi L→t.g 13=vi v→t.g 14=vi hint→t.g 10=vb w1→t.g 11=vb w2→p≤v→v<p+L →
   WP tab σ.B8 ab [.code (Yz σ sz),.inBlock 1,.inLoop (yj σ sz),.inBlock 0] ⟨t,[],M⟩ Q:=by
  intro t M l u v w1 w2 hint z Y Z j7 g10 N a8 a9;obtain⟨S,U,O,g3,X,-,-,-,-,-,-,-⟩:=id z;apply aq;apply ai;cases w1 with
  | false=>
   simp [g10];refine a5 (by simp) ?_;exact c9 _ _ l u v ag w2 (z.aA (by simp [S]) (by simp [U]) (by simp [O]) (by simp [g3]) (by simp [X])) (by simp [Y]) (by simp [Z]) (by simp [g10]) (by simp [N]) a8 a9
  | true=>
  cases w2 with
  | false=>
   simp [g10,N];refine a5 (by simp) ?_;exact c9 _ _ l u v ae ag (z.aA (by simp [S]) (by simp [U]) (by simp [O]) (by simp [g3]) (by simp [X])) (by simp [Y]) (by simp [Z]) (by simp [g10]) (by simp [N]) a8 a9
  | true=>
  simp [g10,N,j7];by_cases h1:hint=1
  case neg=>
   refine a5 (by simp [h1]) ?_;exact c9 _ _ l u v ae ae (z.aA (by simp [S]) (by simp [U]) (by simp [O]) (by simp [g3]) (by simp [X])) (by simp [Y]) (by simp [Z]) (by simp [g10]) (by simp [N]) a8 a9
  refine ak (by simp [h1]) ?_;obtain⟨r,H2,B,w,rfl,f2,l2,r2,s2,u2⟩:=ae8 hT.pins a_ hc (A z) hl z.rb (K z.sg) (E z.sg) (show p<p+L by omega) (by omega) (b9 z);have B:=B.eq;simp at B;have g:=z.vR f2 r2 s2 (by omega);apply ai;simp [S,U,O,X,B];cases w with
  | true=>
   refine ak (by simp) ?_;exact aJ (done g.fr g.rb g.sg (g.re.up (u2 rfl)) _ _)
  | false=>
   refine a5 (by simp) ?_;exact c9 _ _ l2 u v ae ae (g.aA (by simp [S]) (by simp [U]) (by simp [O]) (by simp [g3]) (by simp [X])) (by simp [Y]) (by simp [Z]) (by simp [g10]) (by simp [N]) a8 a9
 have g_:∀(t:T) (M:aj) (l:List (List FC)) (u:Int) (w1 w2:Bool),Pq b n ep sz cv H c rows a e t M l p (p+L) u→t.g 12=vi L→t.g 10=vb w1→t.g 11=vb w2 →
   WP tab σ.B8 ab [.code (Yy σ sz),.inBlock 1,.inLoop (yj σ sz),.inBlock 0] ⟨t,[],M⟩ Q:=by
  intro t M l u w1 w2 z Y g10 N;obtain⟨S,U,O,g3,X,-,-,-,-,-,-,-⟩:=id z;obtain⟨r,H2,B,⟨v,hint,rfl,v1,v2⟩,kp⟩:=ajD hT.piv hT.v5 hT.ZQ hT.ord a_ (A z) hl z.rb (K z.sg) (E z.sg) (show p+8≤p+L by omega) (by omega);have B:=B.eq;simp at B;have g:Pq b n ep sz cv H c rows a e t H2 l p (p+L) u:=z.vR kp.fm (kp.rb z.rb) (ew.refl _ _ _) (by omega);apply ai;simp [S,U,O,X,B];apply aq;apply ai;simp;by_cases h2:hint=2
  case neg=>
   refine a5 (by simp [h2]) ?_;exact h_ _ _ l u v w1 w2 hint (g.aA (by simp [S]) (by simp [U]) (by simp [O]) (by simp [g3]) (by simp [X])) (by simp [Y]) (by simp) (by simp) (by simp [g10]) (by simp [N]) v1 v2
  refine ak (by simp [h2]) ?_;obtain⟨r,H3,B,rfl,f3,l3,r3,s3⟩:=ajN hT.rev (cv:=cv) (A g) hl g.rb (K g.sg) (show p<p+L by omega) (by omega);have B:=B.eq;simp at B;have I:=g.vR f3 r3 s3 (by omega);apply ai;simp [S,U,O,X,B];apply ai;simp [U,O,aQ (n:=(p:Int)+L-1),aQ (n:=(v:Int)-p),aQ (n:=(p:Int)+L-1-(v-p))];refine av (.inl rfl) ?_;simp;exact h_ _ _ l3 u (p+L-1-(v-p)) w1 w2 1 (I.aA (by simp [S]) (by simp [U]) (by simp [O]) (by simp [g3]) (by simp [X])) (by simp [Y]) (by simp;omega) (by simp) (by simp [g10]) (by simp [N]) (by omega) (by omega)
 apply aq;apply ai;simp [g10];cases w1 with
 | true=>
  refine a5 (by simp) ?_;exact g_ _ _ l u ae w2 (z.aA (by simp [S]) (by simp [U]) (by simp [O]) (by simp [g3]) (by simp [X])) (by simp) (by simp [g10]) (by simp [N])
 | false=>
  refine ak (by simp) ?_;obtain⟨k,hk,j8,j9⟩:=d6 L (by omega);obtain⟨r,H2,B,rfl,f2,l2,r2,s2⟩:=ahs (cv:=cv) hT.brk hT.Yh hT.npt hk j8 (j9 (by omega)) (A z) hl z.rb (K z.sg) (a:=p) (by omega) (by omega);have B:=B.eq;simp at B;have g:=z.vR f2 r2 s2 (by omega);apply ai;simp [S,U,O,X,B];refine av (.inl rfl) ?_;simp [g3];exact g_ _ _ l2 _ ag w2 ⟨by simp [S],by simp [U],by simp [O],by simp;rfl,by simp [X],g.fr,g.rb,g.sg,g.re,g.ap,g.pq,g.qe⟩ (by simp) (by simp [g10]) (by simp [N])
end
def sort_1:az:=.region [⟨D 5,.bJ (R 0),ab⟩,⟨D 6,.len (R 5),ab⟩,⟨D 4,.bJ (R 6),ab⟩] []
def ajU(σ:km):az:=.region [⟨D 7,.bJ (R 0),ab⟩,⟨D 8,.bJ (R 4),ab⟩,⟨D 9,.bJ (R 4),ab⟩,⟨D 10,.fA .u64 (R 9),ab⟩,⟨D 11,.call σ.len [(R 10)] ag,ab⟩,⟨D 12,.bJ (R 1),ab⟩,⟨D 13,.call σ.B8 [(R 7),(.k (.c (.f (.int .i64 0)))),(R 8),(R 11),(R 12)] ae,ab⟩] []
def Zl(σ:km):aE:=⟨[P.nat 0,P.nat 1],[],.seq sort_1 (ajU σ)⟩
section
variable{tab:Nat→Option aE}{σ:km}{sz:Nat}{cv:V}{W:List FC→Prop}{c:List FC→List FC→Int}{N:Nat}
def akE(tab:Nat→Option aE)(σ:km)(N:Nat):Prop:=∀ L:Nat,L≤N→∃ k:Nat,bA tab σ.len [vu L]=Eq (vi k)∧k≤62∧(0<L→2 ^ k≤2*L)
theorem adZ(d:tab σ.ins=aa (BG σ sz)){H:aj}{v:V}:Ev tab (.fn σ.ins) [v,vi 0,vi 0,cv] H (.t []) H:=by
 obtain⟨r,H',g,rfl,rfl⟩:∃ r H',Ev tab (.fn σ.ins) [v,vi 0,vi 0,cv] H r H'∧(r=.t []∧H'=H):=by
  refine dn d rfl fun Q b=>?_;apply ai;simp [aQ (n:=(1:Int))];refine aB ?_;refine bI (fun _ s=>s=⟨_,[],H⟩) 0 rfl ?_;rintro _ s rfl -;apply aq;apply ai;simp;refine al (by simp) ?_;refine bq (k':=[]) rfl ?_;exact jZ (b _ _ _ rfl rfl ⟨rfl,rfl⟩)
 exact g
theorem aeL(j:tab σ.B8=aa (YC σ sz))(d:tab σ.ins=aa (BG σ sz)){H:aj}{v:V}{b:Int}:Ev tab (.fn σ.B8) [v,vi 0,vi 0,vi b,cv] H (.t []) H:=by
 have hi:=(adZ (σ:=σ) (sz:=sz) (cv:=cv) d (H:=H) (v:=v)).eq;obtain⟨r,H',l,rfl,rfl⟩:∃ r H',Ev tab (.fn σ.B8) [v,vi 0,vi 0,vi b,cv] H r H'∧(r=.t []∧H'=H):=by
  refine dn j rfl fun Q g=>?_;apply ai;simp;apply ai;simp;refine aB ?_;refine bI (fun _ s=>s=⟨_,[],H⟩) 0 rfl ?_;rintro _ s rfl -;refine aB ?_;apply ai;simp [aQ (n:=(0:Int))];apply aq;apply ai;simp;refine ak (by simp) ?_;apply ai;simp [hi];exact aJ (g _ _ _ rfl rfl ⟨rfl,rfl⟩)
 exact l
theorem afm{F:Nat}(B:tab F=aa (Zl σ))(m:agP tab σ sz)(q:Cv tab cv W c)(J:vO W c)(X:N≤1000000000)(d:akE tab σ N){H:aj}{v:C}{rows:List (List FC)}(hr:LR H v sz rows)(O:rows.length≤N)(K:bR sz rows)(I:∀ r ∈ rows,W r) :
  ∃ r H',Ev tab (.fn F) [.c v,cv] H r H'∧(r=.t []∧Kb H H' v∧∃ l',LR H' v sz l'∧l'.Perm rows∧Up c 0 l'.length l'):=by
 obtain⟨k,M,-,-⟩:=d rows.length O;have x:IntKind.wrap .u64 (rows.length:Int)=rows.length:=by rw [yA];omega
 obtain⟨r,H',g,rfl,s,l',z,l,A⟩:∃ r H',Ev tab (.fn σ.B8) [.c v,vi 0,vi rows.length,vi k,cv] H r H'∧(r=.t []∧Kb H H' v∧∃ l',LR H' v sz l'∧l'.Perm rows∧Up c 0 l'.length l'):=by
  rcases hr with⟨rfl,h⟩ | ⟨u,b,ep,rfl,l⟩
  ·exact⟨_,_,aeL m.B8 m.ins,rfl,⟨OF _,fun i y j _=>j⟩,[],.inl ⟨rfl,h⟩,.refl _,Up.one (by simp)⟩
  ·obtain⟨r,H',g,rfl,f,l',r',s',S⟩:=ajb m q J (n:=rows.length) (by omega) (fun L U=>d L (by omega)) _ 0 rows.length H rows k rfl (by omega) (OF _) rfl l K I (fun k h=>absurd h (by omega));refine⟨_,_,g,rfl,⟨f.1,fun i y j hi=>?_⟩,l',.inr ⟨?_,b,ep,by rw [s'.len],r'⟩,s'.1,by rw [s'.len];exact S⟩
   ·rw [f.2 i (fun e=>hi (by rw [e];rfl)) (au j)];exact j
   ·rintro rfl;have:=s'.len;exact u (List.length_eq_zero_iff.1 this.symm)
 have g:=g.eq;refine dn B rfl fun Q E=>?_;apply ai;simp [hr.len];refine av (.inl rfl) ?_;simp [x,M,g];exact jZ (E _ _ (.t []) rfl rfl ⟨rfl,s,l',z,l,A⟩)
end
section
def ahv(sz:Nat):az:=.region [⟨D 32,.bJ (R 11),ab⟩,⟨D 33,.bin .add (R 32) (.k (.c (.f (.int .i64 1)))),ab⟩,⟨D 9,.bJ (R 33),ab⟩] []
def ahw(sz:Nat):az:=.region [⟨D 34,.bJ (R 11),ab⟩,⟨D 10,.bJ (R 34),ab⟩] []
def ahu(sz:Nat):az:=.seq (.region [⟨D 24,.bJ (R 2),ab⟩,⟨D 25,.bJ (R 0),ab⟩,⟨D 26,.bJ (R 11),ab⟩,⟨D 27,.aW sz ab (R 25) (R 26),ab⟩,⟨D 28,.load (aa sz) (R 27),ab⟩,⟨D 29,.bJ (R 1),ab⟩,⟨D 30,.bY (R 24) [(R 28),(R 29)] ae,ab⟩,⟨D 31,.bin .lss (R 30) (.k (.c (.f (.int .i64 0)))),ab⟩] []) (.cond (R 31) (ahv sz) (ahw sz))
def aht(sz:Nat):az:=.seq (.region [⟨D 18,.bJ (R 9),ab⟩,⟨D 19,.bJ (R 10),ab⟩,⟨D 20,.bin .add (R 18) (R 19),ab⟩,⟨D 21,.fA .u64 (R 20),ab⟩,⟨D 22,.bin .shr (R 21) (.k (.c (.f (.int .u64 1)))),ab⟩,⟨D 23,.fA .i64 (R 22),ab⟩,⟨D 11,.bJ (R 23),ab⟩] []) (ahu sz)
def alD(sz:Nat):az:=.seq (.seq (.region [⟨D 15,.bJ (R 9),ab⟩,⟨D 16,.bJ (R 10),ab⟩,⟨D 17,.bin .lss (R 15) (R 16),ab⟩] []) (.cond (R 17) .skip (.exit 0))) (.block 1 (aht sz))
def ahx(sz:Nat):az:=.seq (.region [⟨D 35,.bJ (R 9),ab⟩,⟨D 36,.bJ (R 9),ab⟩,⟨D 37,.bJ (R 8),ab⟩,⟨D 38,.bin .lss (R 36) (R 37),ab⟩,⟨D 39,.bJ (R 38),ab⟩,⟨D 40,.bJ (R 2),G 39 ae⟩,⟨D 41,.bJ (R 0),G 39 ae⟩,⟨D 42,.bJ (R 9),G 39 ae⟩,⟨D 43,.aW sz ab (R 41) (R 42),G 39 ae⟩,⟨D 44,.load (aa sz) (R 43),G 39 ae⟩,⟨D 45,.bJ (R 1),G 39 ae⟩,⟨D 46,.bY (R 40) [(R 44),(R 45)] ae,G 39 ae⟩,⟨D 47,.bin .eql (R 46) (.k (.c (.f (.int .i64 0)))),G 39 ae⟩,⟨D 48,.pick (R 39) (R 47) (.k (.c (.f (.bool ag)))),ab⟩,⟨D 6,.bJ (R 35),ab⟩,⟨D 7,.bJ (R 48),ab⟩] []) .ret
def alC(sz:Nat):az:=.seq (.block 0 (.loop (alD sz))) (ahx sz)
def alB(sz:Nat):az:=.seq (.region [⟨D 14,.bJ (R 8),ab⟩,⟨D 9,.bJ (.k (.c (.f (.int .i64 0)))),ab⟩,⟨D 10,.bJ (R 14),ab⟩] []) (alC sz)
def alA(sz:Nat):az:=.seq (.region [⟨D 12,.bJ (R 0),ab⟩,⟨D 13,.len (R 12),ab⟩,⟨D 8,.bJ (R 13),ab⟩] []) (alB sz)
def alz(sz:Nat):az:=.seq (.region [⟨D 6,.bJ (.k (.c (.f (.int .i64 0)))),ab⟩,⟨D 7,.bJ (.k (.c (.f (.bool ag)))),ab⟩] []) (alA sz)
def Fk(sz:Nat):aE:=⟨[P.nat 0,P.nat 1,P.nat 2],[.tmp (P.nat 6),.tmp (P.nat 7)],(alz sz)⟩
section
variable{tab:Nat→Option aE}{sz:Nat}
theorem Du{F:Nat}(hF:tab F=aa (Fk sz))(g:Tg)(rows:List (List FC))(hg:bR sz rows)(cv:V)(x:FC)(s:List FC→Int)(hl:rows.length≤1000000000)
  (U:∀ r ∈ rows,∃ G l,bZ cv [.a (r.map .f),.c (.f x)]=aa (.fn G,l)∧Kf tab G l (vi (s r)))
  (c:∀(i j:Nat) (hi:i<j) (u:j<rows.length),0≤s rows[i]→0<s rows[j]) :
  ∃ i:Nat,i≤rows.length∧(∀ j (u:j<rows.length),j<i→s rows[j]<0)∧(∀ j (u:j<rows.length),i≤j→0≤s rows[j]) ∧
   ∃ w:Bool,(w=ae↔∃ h:i<rows.length,s rows[i]=0)∧bA tab F [.c (.f (sl g rows)),.c (.f x),cv]=Eq (.t [vi i,vb w]):=by
 obtain⟨r,⟨i,h1,h2,N,w,h4,rfl⟩,h⟩:∃ r,(∃ i:Nat,i≤rows.length∧(∀ j (u:j<rows.length),j<i→s rows[j]<0)∧(∀ j (u:j<rows.length),i≤j→0≤s rows[j])∧∃ w:Bool,(w=ae↔∃ h:i<rows.length,s rows[i]=0)∧r=.t [vi i,vb w]) ∧
   bA tab F [.c (.f (sl g rows)),.c (.f x),cv] r:=by
  refine bQ hF rfl fun Q a=>?_;have ask:∀(q:Nat) (M:q<rows.length) (H:aj),∃ G l J,aP H sz ab (.c (.f (sl g rows))) (vi q)=aa (.c (.f (.fp rows.flatten (q*sz))))∧aU H (aa sz) (.c (.f (.fp rows.flatten (q*sz))))=aa (.a (rows[q].map .f))∧bZ cv [.a (rows[q].map .f),.c (.f x)]=aa (.fn G,l)∧Ev tab (.fn G) l H=E2 (vi (s rows[q])) (H++J):=by
   intro q M H;obtain⟨G,l,f,o⟩:=U rows[q] (List.getElem_mem M);obtain⟨J,p⟩:=o H;have hi:=c5 (H:=H) (g:=g) (rows:=rows) (sz:=sz) (k:=.i64) (i:=(q:Int)) (by omega) (by omega);rw [ar4]at hi;exact⟨G,l,J,hi,fM hg (List.getElem?_eq_getElem M),f,p.eq⟩
  apply ai;simp;apply ai;simp;apply ai;simp;apply aq;refine aB ?_;refine bI (fun m s'=>∃(lo hi:Nat) (t:T) (H:aj),s'=⟨t,[],H⟩∧m=hi-lo∧lo≤hi∧hi≤rows.length∧t.g 0=.c (.f (sl g rows))∧t.g 1=.c (.f x)∧t.g 2=cv∧t.g 8=vi rows.length∧t.g 9=vi lo∧t.g 10=vi hi ∧
   (∀ j (u:j<rows.length),j<lo→s rows[j]<0)∧(∀ j (u:j<rows.length),hi≤j→0≤s rows[j])) rows.length
   ⟨0,rows.length,_,_,rfl,by omega,by omega,by omega,by simp,by simp,by simp,by simp,by simp,by simp,by simp,by intros;omega⟩ ?_
  rintro m s' ⟨lo,hi,t,H,rfl,rfl,a8,A,E,I,K,L,z,g10,y,v⟩ next
  apply aq;apply ai;simp [z,g10];by_cases X:lo<hi
  ·refine ak (by simp [X]) (aL ?_);obtain⟨q,M⟩:=aO ((lo+hi) / 2);have B:q<rows.length:=by omega
   have e1:bS BinOp.shr (V.c (C.f (FC.int IntKind.u64 (IntKind.u64.wrap ((lo:Int)+hi))))) (V.c (C.f (FC.int IntKind.u64 1)))=aa (.c (.f (.int .u64 (q:Int)))):=by
    have:IntKind.u64.wrap ((lo:Int)+hi)=(lo:Int)+hi:=by
     show((lo:Int)+hi) % 18446744073709551616=_;omega
    rw [this];show aa (V.c (C.f (FC.int IntKind.u64 (Int.fdiv ((lo:Int)+hi) (2 ^ (min (1:Int).toNat IntKind.u64.bits))))))=_;have N:Int.fdiv ((lo:Int)+hi) (2 ^ (min (1:Int).toNat IntKind.u64.bits))=q:=by
     show Int.fdiv ((lo:Int)+hi) 2=q;rw [Int.fdiv_eq_ediv_of_nonneg _ (by omega)];omega
    rw [N]
   have hw:=aQ (n:=(lo:Int)+hi);have Y:IntKind.i64.wrap (q:Int)=q:=aQ;obtain⟨G,l,J,i1,Z,b,W⟩:=ask q B H;refine aB ?_;apply ai;simp [z,g10,hw,e1,Y];apply ai;simp [E,I,K,i1,Z,b,W];by_cases S:s rows[q]<0
   ·refine ak (by simp [S]) ?_;refine av (.inl rfl) ?_;simp [aQ (n:=(q:Int)+1)];refine aw (next (hi-(q+1)) _ (by omega) ⟨q+1,hi,_,_,rfl,rfl,by omega,by omega,by simp [E],by simp [I],by simp [K],by simp [L],by simp,by simp [g10],fun j u h=>?_,v⟩);rcases Int.lt_or_le (s rows[j]) 0 with O | O
    ·exact O
    ·by_cases e:j=q
     ·subst e;exact S
     ·have:=c j q (by omega) B O;omega
   ·refine al (by simp [S]) ?_;refine av (.inl rfl) ?_;simp;refine aw (next (q-lo) _ (by omega) ⟨lo,q,_,_,rfl,rfl,by omega,by omega,by simp [E],by simp [I],by simp [K],by simp [L],by simp [z],by simp,y,fun j u h=>?_⟩);by_cases e:j=q
    ·subst e;omega
    ·have:=c q j (by omega) u (by omega);omega
  ·have:lo=hi:=by omega
   subst this;refine al (by simp) ?_;refine bq rfl ?_;apply ai;by_cases d:lo<rows.length
   ·obtain⟨G,l,J,i1,Z,b,W⟩:=ask lo d H;simp [E,I,K,L,z,d,i1,Z,b,W];refine aJ (a _ _ _ ⟨lo,A,y,v,decide (s rows[lo]=0),by simp [d],rfl⟩ ?_);simp
   ·simp [L,z,d];refine aJ (a _ _ _ ⟨lo,A,y,v,ag,by simp [d],rfl⟩ ?_);simp
 exact⟨i,h1,h2,N,w,h4,bA.eq h⟩
end
end
end Km
