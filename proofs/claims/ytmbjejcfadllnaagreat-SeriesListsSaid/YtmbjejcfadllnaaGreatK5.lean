/-
  Our own small machine for Go code by value, held tq the model: part 5. No program in IW.
-/
import Derived.Test.YtmbjejcfadllnaaGreatK4
open Option.some renaming inj → awU
open List renaming mem_of_getElem? → avL, getElem?_eq_getElem → AI
open Nat renaming le_refl → aft, eq_zero_or_pos → awk, pow_le_pow_right → axh, le_trans → avV, lt_trichotomy → av5, lt_or_eq_of_le → awi
open Int renaming toNat_natCast → av2
set_option linter.unusedVariables false
set_option linter.unusedSimpArgs false
set_option linter.unusedSectionVars false
set_option maxRecDepth 100000
namespace Km
open Go
section
section
variable{tab:Nat→Option ax}{σ:bu}{sz:Nat}{cv:V}{W:List FC→Prop}{c:List FC→List FC→Int}
def Nx(c:List FC→List FC→Int)(a i j e:Nat)(p:List FC)(l:List (List FC)):Prop:=
 l[a]?=some p∧(∀(k:Nat) x,a<k→k<i→l[k]?=some x→¬ c p x<0)∧(∀(k:Nat) x,j<k→k<e→l[k]?=some x→c p x<0)
theorem Nx.swap{a i j e:Nat}{p:List FC}{l:List (List FC)}(h:Nx c a i j e p l)(y:a<i)(z:i<j)(d:j<l.length)(hi:∀ x,l[i]?=some x→c p x<0)(A:∀ x,l[j]?=some x→¬ c p x<0):Nx c a (i+1) (j-1) e p (gZ l i j):=by
 obtain⟨s,u,v⟩:=h;have g:∀ k,(gZ l i j)[k]?=if k=j then l[i]? else if k=i then l[j]? else l[k]?:=fun k=>fY (by omega) d k
 refine⟨?_,fun k x m q b=>?_,fun k x m q b=>?_⟩
 ·rw [g,if_neg (by omega),if_neg (by omega)];exact s
 ·rw [g,if_neg (by omega)]at b
  by_cases e:k=i
  ·rw [if_pos e]at b;exact A x b
  ·rw [if_neg e]at b;exact u k x m (by omega) b
 ·rw [g]at b;by_cases e:k=j
  ·rw [if_pos e]at b;exact hi x b
  ·rw [if_neg e,if_neg (by omega)]at b;exact v k x (by omega) q b
theorem al0{H:ai}{rows:List (List FC)}{n a e v b ep:Nat}{p:List FC}(hT:tab σ.Pc=some (It σ sz))(a8:Cv tab cv W c)(c9:tT W c)(hn:rows.length=n)(hl:n≤1000000000)(g:RB H b sz ep rows)(hg:bC sz rows)(hW:∀ r ∈ rows,W r)(d8:a<e)(a_:e≤n)(d9:a≤v)(g_:v<e)(F:rows[v]?=some p) :
  ∃ r H',Ev tab (.fn σ.Pc) [.c (.sl b 0 n 0 ep sz),vi a,vi e,vi v,cv] H r H'∧((∃(m:Nat),r=vi m∧a<m∧m≤e∧Fm b H H'∧∃ l',RB H' b sz ep l'∧dU a e rows l'∧(∀(k:Nat) x,a≤k→k<m→l'[k]?=some x→¬ c p x<0)∧(∀(k:Nat) x,m≤k→k<e→l'[k]?=some x→c p x<0))):=by
 refine da hT rfl fun Q hQ=>?_
 obtain⟨d,rfl⟩:∃ d,e=d+1:=⟨e-1,by omega⟩
 obtain⟨x,p',H1,H2,I,b9,i1,j1,l1,l2,w1,w2,s1,j2,s2,r2,f2⟩:=g.gZ hg hn (i:=a) (j:=v) (by omega) (by omega)
 obtain rfl:p=p':=by rw [F]at b9;exact awU b9
 have Y:¬ c p p<0:=fun h=>c9.Ct (hW _ (avL F)) (hW _ (avL F)) h h
 have d7:dU a (d+1) rows (gZ rows a v):=ef (by omega) (by omega) (by omega) (by omega) (by omega)
 have d6:Nx c a (a+1) d (d+1) p (gZ rows a v):=by
  refine⟨?_,fun k x k1 M=>by omega,fun k x k1 M=>by omega⟩
  rw [fY (by omega) (by omega)]
  by_cases e:a=v
  ·rw [if_pos e,e];exact F
  ·rw [if_neg e,if_pos rfl];exact F
 refine ag (ab (.inl rfl) ?_);simp;refine ag (ab (.inl rfl) ?_);simp [i1,j1,l1,l2,w1,w2,s1,j2,s2,-an,-ba];refine ag (ab (.inl rfl) ?_);simp [wrap64 (n:=(a:Int)+1) (by omega) (by omega),wrap64 (n:=(d:Int)) (by omega) (by omega)]
 refine ag ?_;have A:∀ {l},dU a (d+1) rows l→bC sz l:=fun h=>h.te hg
 have S:∀ {l},dU a (d+1) rows l→∀ r ∈ l,W r:=fun h r hr=>hW r (h.1.mem_iff.1 hr)
 refine av ?_
 refine bw (fun m s=>∃(i j:Nat) (t:T) (H1:ai) (l:List (List FC)),s=⟨t,[],H1⟩∧m=j+1-i∧a<i∧i≤j+1∧j<d+1∧t.g 0=.c (.sl b 0 n 0 ep sz)∧t.g 1=vi a∧t.g 4=cv∧t.g 11=vi i∧t.g 12=vi j ∧
   Fm b H H1∧RB H1 b sz ep l∧dU a (d+1) rows l∧Nx c a i j (d+1) p l) _
  ⟨a+1,d,_,H2,_,rfl,rfl,by omega,by omega,by omega,by simp,by simp,by simp,by simp,by simp,f2,r2,d7,d6⟩ ?_
 rintro m s ⟨i,j,t,H1,l,rfl,rfl,b_,c_,d5,g0,g1,g4,O,U,y,g,u,E⟩ ih;have B:=u.len;refine av ?_;refine ag ?_;refine al1 a8 (B.trans hn) hl (A u) (S u) (i:=i) (j:=j) (e:=d+1) (H0:=H) b_ c_ d5 a_ E.1 g0 g1 g4 O U y g ?_;intro t H3 J d_ X Z g0 g1 g4 O U y g;refine ag ?_;refine alZ a8 (B.trans hn) hl (A u) (S u) (i:=J) (j:=j) (e:=d+1) (H0:=H) (by omega) (by omega) (by omega) a_ E.1 g0 g1 g4 O U y g ?_
 intro t H4 j' e_ K L g0 g1 g4 O U y g
 have N:Nx c a J j' (d+1) p l:=⟨E.1,fun k x k1 M I=>by
   by_cases hk:k<i
   ·exact E.2.1 k x k1 hk I
   ·exact X k x (by omega) M I,fun k x k1 M I=>by
   by_cases hk:j<k
   ·exact E.2.2 k x hk M I
   ·exact K k x k1 (by omega) I⟩
 refine ag ?_;refine ag (ab (.inl rfl) ?_);simp [O,U];by_cases b7:j'<J
 ·refine aj (by simp [b7]) ?_
  refine aT (k':=[.code (abA σ sz)]) rfl ?_;refine ag (ab (.inl rfl) ?_);simp [O];refine aA (hQ _ _ (vi J) rfl (by simp [Km.results,aU]) ⟨J,rfl,by omega,by omega,y,l,g,u,fun q z k1 M hz=>?_,fun q z k1 M hz=>N.2.2 q z (by omega) M hz⟩)
  by_cases e:q=a
  ·rw [e,N.1]at hz;cases hz;exact Y
  ·exact N.2.1 q z (by omega) M hz
 refine ah (by simp [b7]) (aB ?_)
 have ni:∀ x,l[J]?=some x→c p x<0:=by
  rcases Z with h | h
  ·omega
  ·exact fun x I=>Classical.not_not.1 (h x I)
 have nj:∀ x,l[j']?=some x→¬ c p x<0:=by
  rcases L with h | h
  ·omega
  ·exact h
 have f_:J≠j':=by
  rintro rfl;have I:=AI (l:=l) (i:=J) (by omega)
  exact nj _ I (ni _ I)
 obtain⟨x5,y5,H5,H6,-,-,i1,j1,l1,l2,w1,w2,s1,j2,s2,r5,f5⟩:=g.gZ (A u) (B.trans hn) (i:=J) (j:=j') (by omega) (by omega)
 refine ag (ab (.inl rfl) ?_);simp [g0,O,U,i1,j1,l1,l2,w1,w2,s1,j2,s2,-an,-ba];refine ag (ab (.inl rfl) ?_);simp [O,wrap64 (n:=(J:Int)+1) (by omega) (by omega)]
 refine ab (.inl rfl) ?_;simp [U,wrap64 (n:=(j':Int)-1) (by omega) (by omega)]
 exact al (ih _ _ (by omega) ⟨J+1,j'-1,_,H6,_,rfl,rfl,by omega,by omega,by omega,by simp [g0],by simp [g1],by simp [g4],by simp,by simp;omega,y.trans f5,r5,
   u.trans (ef (by omega) (by omega) (by omega) (by omega) (by omega)),N.swap (by omega) (by omega) (by omega) ni nj⟩)
end
end
section
section
variable{tab:Nat→Option ax}{σ:bu}{sz:Nat}{cv:V}{W:List FC→Prop}{c:List FC→List FC→Int}
def Fx(c:List FC→List FC→Int)(a e:Nat)(l:List (List FC)):Prop:=∀ k,0<a→a≤k→k<e→jH c l (a-1) k
theorem Fx.vZ{a e a' b:Nat}{l l':List (List FC)}(h:Fx c a e l)(d:dU a' b l l')(E:a≤a')(F:b≤e)(z:a'≤b)(B:b≤l.length):Fx c a e l':=by
 intro k m q s x y g hy;rw [d.lt (by omega)]at g
 by_cases u:k<a'
 ·rw [d.lt u]at hy;exact h k m q s x y g hy
 by_cases v:b≤k
 ·rw [d.ge v]at hy;exact h k m q s x y g hy
 obtain⟨j,H,I,A⟩:=d.mem z B (by omega) (by omega) hy
 exact h j m (by omega) (by omega) x y g A
theorem Fx.mono{a e b:Nat}{l:List (List FC)}(h:Fx c a e l)(j:b≤e):Fx c a b l:=fun k d g m=>h k d g (by omega)
theorem OQ{n a e i ep b:Nat}{rows:List (List FC)}{H0:ai}{g10:V}{k:List cm}{Q:Option aq→St→Prop}(U:Cv tab cv W c)(hc:tT W c)(hn:rows.length=n)(hl:n≤1000000000)(hg:bC sz rows)(Y:∀ r ∈ rows,W r)
  {t:T} {H:ai} (a8:a<i) (b7:i≤e) (a_:e≤n) (u:Up c a i rows)
  (I:t.g 0=.c (.sl b 0 n 0 ep sz)) (L:t.g 1=vi a) (B:t.g 2=vi e) (K:t.g 3=cv) (A:t.g 9=vi i) (M:t.g 10=g10) (l:Fm b H0 H) (g:RB H b sz ep rows)
  (next:∀(t:T) (H:ai) (E:Nat),(i≤E∧E≤e)→Up c a E rows→(E=e∨∀ x y,rows[E]?=some x→rows[E-1]?=some y→c x y<0) →
   t.g 0=.c (.sl b 0 n 0 ep sz)→t.g 1=vi a→t.g 2=vi e→t.g 3=cv→t.g 9=vi E→t.g 10=g10→Fm b H0 H→RB H b sz ep rows→WP tab σ.pins none k ⟨t,[],H⟩ Q) :
  WP tab σ.pins none (.code (Iv σ sz)::k) ⟨t,[],H⟩ Q:=by
 refine av ?_
 refine bw (fun m s=>∃(q:Nat) (t:T) (S:ai),s=⟨t,[],S⟩∧(q+m=e∧i≤q)∧Up c a q rows ∧
   t.g 0=.c (.sl b 0 n 0 ep sz)∧t.g 1=vi a∧t.g 2=vi e∧t.g 3=cv∧t.g 9=vi q∧t.g 10=g10∧Fm b H0 S∧RB S b sz ep rows) (e-i)
  ⟨i,_,H,rfl,by omega,u,I,L,B,K,A,M,l,g⟩ ?_
 rintro m s ⟨q,t,S,rfl,hm,u,I,L,B,K,A,M,l,g⟩ ih;refine ag ?_;refine ag (ab (.inl rfl) ?_);by_cases X:q<e
 case neg=>
  simp [A,B,X];refine ah (by simp) ?_
  refine aT (k':=k) rfl ?_;exact next _ _ q (by omega) u (.inl (by omega)) (by simp [I]) (by simp [L]) (by simp [B]) (by simp [K]) (by simp [A]) (by simp [M]) l g
 obtain⟨d,rfl⟩:∃ d,q=d+1:=⟨q-1,by omega⟩
 obtain⟨x,y,F,ar,J,hx,hy,i1,j1,l1,l2,N,he,-,-⟩:=g.ask hg U Y hn (i:=d+1) (j:=d) (by omega) (by omega)
 have c1:((d+1:Nat):Int)=(d:Int)+1:=by omega
 have O:(d:Int)+1<(e:Int):=by omega
 rw [c1]at i1 A;simp [A,B,O,I,K,i1,j1,l1,l2,N,he,-an,wrap64 (n:=(d:Int)) (by omega) (by omega)]
 by_cases v:c x y<0
 case pos=>
  refine ah (by simp [v]) ?_
  refine aT (k':=k) rfl ?_;refine next _ _ (d+1) (by omega) u (.inr fun z w hz Z=>?_) (by simp [I]) (by simp [L]) (by simp [B]) (by simp [K]) (by simp [A]) (by simp [M]) (l.trans (Fm.push _ _)) (g.push _)
  rw [hx]at hz;cases hz;rw [show d+1-1=d by omega,hy]at Z;cases Z;exact v
 refine aj (by simp [v]) (aB ?_)
 refine av (ab (.inl rfl) ?_);simp [A,wrap64 (n:=(d:Int)+1+1) (by omega) (by omega)]
 refine al (ih (m-1) _ (by omega) ⟨d+1+1,_,_,rfl,by omega,?_,by simp [I],by simp [L],by simp [B],by simp [K],by simp,by simp [M],l.trans (Fm.push _ _),g.push _⟩)
 exact(Hw.start u).stop hc Y (by omega) (aft _) (by omega) (jH.of_le hy hx v)
theorem OP{n a e i j ep b:Nat}{rows:List (List FC)}{H0:ai}{g10:V}{k:List cm}{Q:Option aq→St→Prop}(b7:Cv tab cv W c)(hc:tT W c)(hn:rows.length=n)(hl:n≤1000000000)(hg:bC sz rows)(hW:∀ r ∈ rows,W r)
  {t:T} {H:ai} (X:a≤j) (K:j=i) (c_:i<e) (c9:e≤n) (a8:Fx c a e rows) (q:Hw c a i j rows)
  (E:t.g 0=.c (.sl b 0 n 0 ep sz)) (N:t.g 1=vi a) (O:t.g 2=vi e) (M:t.g 3=cv) (S:t.g 9=vi (i+1:Nat)) (U:t.g 10=g10) (A:t.g 11=vi j) (z:Fm b H0 H) (u:RB H b sz ep rows)
  (next:∀(t:T) (H:ai) (l:List (List FC)),dU a e rows l→Up c a (i+1) l →
   t.g 0=.c (.sl b 0 n 0 ep sz)→t.g 1=vi a→t.g 2=vi e→t.g 3=cv→t.g 9=vi (i+1:Nat)→t.g 10=g10→Fm b H0 H→RB H b sz ep l→WP tab σ.pins none k ⟨t,[],H⟩ Q) :
  WP tab σ.pins none (.code (Iw σ sz)::k) ⟨t,[],H⟩ Q:=by
 refine av ?_
 refine bw (fun m s=>∃(j:Nat) (t:T) (H1:ai) (l:List (List FC)),s=⟨t,[],H1⟩∧j=m∧a≤j∧j≤i∧t.g 0=.c (.sl b 0 n 0 ep sz)∧t.g 1=vi a∧t.g 2=vi e∧t.g 3=cv∧t.g 9=vi (i+1:Nat)∧t.g 10=g10∧t.g 11=vi j ∧
   Fm b H0 H1∧RB H1 b sz ep l∧dU a e rows l∧Hw c a i j l) j
  ⟨j,_,H,rows,rfl,rfl,X,by omega,E,N,O,M,S,U,A,z,u,dU.refl _ _ _,q⟩ ?_
 rintro m s ⟨j,t,H1,l,rfl,rfl,X,K,E,N,O,M,S,U,A,z,u,g,q⟩ ih;have B:=g.len;have Z:=g.te hg;have I:∀ r ∈ l,W r:=fun r hr=>hW r (g.1.mem_iff.1 hr)
 have L:Fx c a e l:=a8.vZ g (aft _) (aft _) (by omega) (by omega)
 refine ag ?_;refine ag (ab (.inl rfl) ?_);by_cases b_:j=0
 ·subst b_;obtain rfl:a=0:=by omega
  simp [A];refine ah (by simp) ?_
  refine aT (k':=k) rfl ?_;exact next _ _ l g q.front (by simp [E]) (by simp [N]) (by simp [O]) (by simp [M]) (by simp [S]) (by simp [U]) z u
 obtain⟨d,rfl⟩:∃ d,j=d+1:=⟨j-1,by omega⟩
 obtain⟨x,y,F,ar,J,hx,hy,i1,j1,l1,l2,Y,he,-,-⟩:=u.ask Z b7 I (B.trans hn) (i:=d+1) (j:=d) (by omega) (by omega)
 have c1:((d+1:Nat):Int)=(d:Int)+1:=by omega
 have b9:(1:Int)≤(d:Int)+1:=by omega
 rw [c1]at i1 A;simp [A,b9];refine aj (by simp) (aB ?_)
 refine ag ?_;refine av ?_;refine ag ?_;refine ag (ab (.inl rfl) ?_);simp [A,E,M,i1,j1,l1,l2,Y,he,-an,wrap64 (n:=(d:Int)) (by omega) (by omega)]
 by_cases v:c x y<0
 case neg=>
  refine aj (by simp [v]) ?_
  refine aT (k':=k) rfl ?_;refine next _ _ l g ?_ (by simp [E]) (by simp [N]) (by simp [O]) (by simp [M]) (by simp [S]) (by simp [U]) (z.trans (Fm.push _ _)) (u.push _)
  by_cases ha:d+1=a
  ·subst ha;exact q.front
  ·exact q.stop hc I (by omega) K (by omega) (jH.of_le hy hx v)
 have a_:a≤d:=by
  rcases Nat.lt_or_ge d a with h | h
  ·obtain rfl:a=d+1:=by omega
   exact absurd v (L (d+1) (by omega) (aft _) (by omega) y x (by simpa using hy) hx)
  ·exact h
 refine ah (by simp [v]) (aB ?_)
 obtain⟨x5,y5,H5,H6,-,-,i5,j5,l5,l6,w5,w6,s5,j6,s6,r6,f6⟩:=(u.push J).gZ Z (B.trans hn) (i:=d+1) (j:=d) (by omega) (by omega)
 rw [c1]at i5;refine ab (.inl rfl) ?_;simp [E,A,i5,j5,l5,l6,w5,w6,s5,j6,s6,-an,-ba,wrap64 (n:=(d:Int)) (by omega) (by omega)]
 refine al ?_;refine ab (.inl rfl) ?_;simp [A,wrap64 (n:=(d:Int)) (by omega) (by omega)]
 exact ih d _ (by omega) ⟨d,_,H6,gZ l (d+1) d,rfl,rfl,a_,by omega,by simp [E],by simp [N],by simp [O],by simp [M],by simp [S],by simp [U],by simp,(z.trans (Fm.push _ _)).trans f6,r6,
  g.trans (ef (by omega) (by omega) (by omega) (by omega) (by omega)),q.step hc I (by omega) K (by omega) hx hy v⟩
theorem GD{n a e i ep b:Nat}{rows:List (List FC)}{H0:ai}{g10:V}{k:List cm}{Q:Option aq→St→Prop}(Z:Cv tab cv W c)(hn:rows.length=n)(hl:n≤1000000000)(hg:bC sz rows)(hW:∀ r ∈ rows,W r)
  {t:T} {H:ai} (b7:i<e) (a8:e≤n)
  (B:t.g 0=.c (.sl b 0 n 0 ep sz)) (K:t.g 1=vi a) (E:t.g 2=vi e) (I:t.g 3=cv) (L:t.g 9=vi i) (M:t.g 10=g10) (z:t.g 12=vi (i+1:Nat)) (u:Fm b H0 H) (q:RB H b sz ep rows)
  (next:∀(t:T) (H:ai) (l:List (List FC)),dU i e rows l →
   t.g 0=.c (.sl b 0 n 0 ep sz)→t.g 1=vi a→t.g 2=vi e→t.g 3=cv→t.g 9=vi i→t.g 10=g10→Fm b H0 H→RB H b sz ep l→WP tab σ.pins none k ⟨t,[],H⟩ Q) :
  WP tab σ.pins none (.code (Iy σ sz)::k) ⟨t,[],H⟩ Q:=by
 refine av ?_
 refine bw (fun m s=>∃(d:Nat) (t:T) (U:ai) (l:List (List FC)),s=⟨t,[],U⟩∧d+1+m=e∧i≤d∧t.g 0=.c (.sl b 0 n 0 ep sz)∧t.g 1=vi a∧t.g 2=vi e∧t.g 3=cv∧t.g 9=vi i∧t.g 10=g10∧t.g 12=vi (d+1:Nat) ∧
   Fm b H0 U∧RB U b sz ep l∧dU i e rows l) (e-(i+1))
  ⟨i,_,H,rows,rfl,by omega,aft _,B,K,E,I,L,M,z,u,q,dU.refl _ _ _⟩ ?_
 rintro m s ⟨d,t,U,l,rfl,hm,a_,B,K,E,I,L,M,z,u,q,g⟩ ih;have A:=g.len;have S:=g.te hg;have Y:∀ r ∈ l,W r:=fun r hr=>hW r (g.1.mem_iff.1 hr)
 have X:((d+1:Nat):Int)=(d:Int)+1:=by omega
 rw [X]at z;refine ag ?_;refine ag (ab (.inl rfl) ?_);by_cases b9:d+1<e
 case neg=>
  have v:¬ ((d:Int)+1<(e:Int)):=by omega
  simp [z,E,v];refine ah (by simp) ?_
  refine aT (k':=k) rfl ?_;exact next _ _ l g (by simp [B]) (by simp [K]) (by simp [E]) (by simp [I]) (by simp [L]) (by simp [M]) u q
 have v:(d:Int)+1<(e:Int):=by omega
 simp [z,E,v];refine aj (by simp) (aB ?_)
 obtain⟨x,y,F,ar,J,hx,hy,i1,j1,l1,l2,O,he,-,-⟩:=q.ask S Z Y (A.trans hn) (i:=d+1) (j:=d) (by omega) (by omega)
 rw [X]at i1;refine ag ?_;refine av ?_;refine ag ?_;refine ag (ab (.inl rfl) ?_);simp [z,B,I,i1,j1,l1,l2,O,he,-an,wrap64 (n:=(d:Int)) (by omega) (by omega)]
 by_cases N:c x y<0
 case neg=>
  refine aj (by simp [N]) ?_
  refine aT (k':=k) rfl ?_;exact next _ _ l g (by simp [B]) (by simp [K]) (by simp [E]) (by simp [I]) (by simp [L]) (by simp [M]) (u.trans (Fm.push _ _)) (q.push _)
 refine ah (by simp [N]) (aB ?_)
 obtain⟨x5,y5,H5,H6,-,-,i5,j5,l5,l6,w5,w6,s5,j6,s6,r6,f6⟩:=(q.push J).gZ S (A.trans hn) (i:=d+1) (j:=d) (by omega) (by omega)
 rw [X]at i5;refine ab (.inl rfl) ?_;simp [B,z,i5,j5,l5,l6,w5,w6,s5,j6,s6,-an,-ba,wrap64 (n:=(d:Int)) (by omega) (by omega)]
 refine al ?_;refine ab (.inl rfl) ?_;simp [z,wrap64 (n:=(d:Int)+1+1) (by omega) (by omega)]
 exact ih (m-1) _ (by omega) ⟨d+1,_,H6,gZ l (d+1) d,rfl,by omega,by omega,by simp [B],by simp [K],by simp [E],by simp [I],by simp [L],by simp [M],by simp,(u.trans (Fm.push _ _)).trans f6,r6,
  g.trans (ef (by omega) (by omega) (by omega) (by omega) (by omega))⟩
theorem ahN{H:ai}{rows:List (List FC)}{n a e b ep:Nat}(hT:tab σ.pins=some (AD σ sz))(a8:Cv tab cv W c)(hc:tT W c)(hn:rows.length=n)(hl:n≤1000000000)(v:RB H b sz ep rows)(hg:bC sz rows)(hW:∀ r ∈ rows,W r)(e_:a<e)(a_:e≤n)(b_:Fx c a e rows) :
  ∃ r H',Ev tab (.fn σ.pins) [.c (.sl b 0 n 0 ep sz),vi a,vi e,cv] H r H'∧((∃ w:Bool,r=vb w∧Fm b H H'∧∃ l',RB H' b sz ep l'∧dU a e rows l'∧(w=true→Up c a e l'))):=by
 refine da hT rfl fun Q hQ=>?_
 refine ag (ab (.inl rfl) ?_);simp;refine ag (ab (.inl rfl) ?_);simp [wrap64 (n:=(a:Int)+1) (by omega) (by omega)]
 refine ag ?_;refine ag (ab (.inl rfl) ?_);simp;refine av ?_
 refine bw (fun m s=>∃(i g:Nat) (t:T) (H1:ai) (l:List (List FC)),s=⟨t,[],H1⟩∧g+m=5∧a<i∧i≤e∧t.g 0=.c (.sl b 0 n 0 ep sz)∧t.g 1=vi a∧t.g 2=vi e∧t.g 3=cv∧t.g 9=vi i∧t.g 10=vi g ∧
   Fm b H H1∧RB H1 b sz ep l∧dU a e rows l∧Up c a i l) 5
  ⟨a+1,0,_,H,rows,rfl,rfl,by omega,by omega,by simp,by simp,by simp,by simp,by simp,by simp,Fm.refl H,v,dU.refl _ _ _,Up.one (by omega)⟩ ?_
 rintro m s ⟨i,g,t,H1,l,rfl,hm,c9,c_,I,F,E,M,A,J,z,v,u,B⟩ ih;refine ag ?_;refine ag (ab (.inl rfl) ?_);simp [J];by_cases h5:g<5
 case neg=>
  have Z:¬ ((g:Int)<5):=by omega
  refine ah (by simp [Z]) ?_
  refine aT (k':=[.code (tD σ sz)]) rfl ?_;refine ag (ab (.inl rfl) ?_);simp;exact aA (hQ _ _ (vb false) rfl (by simp [Km.results,aU]) ⟨false,rfl,z,l,v,u,fun h=>nomatch h⟩)
 have Z:(g:Int)<5:=by omega
 refine aj (by simp [Z]) (aB ?_)
 refine ag ?_;refine av ?_;refine ag ?_;have L:=u.len;have K:∀ {l},dU a e rows l→bC sz l:=fun h=>h.te hg
 have U:∀ {l},dU a e rows l→∀ r ∈ l,W r:=fun h r hr=>hW r (h.1.mem_iff.1 hr)
 refine OQ a8 hc (L.trans hn) hl (K u) (U u) (H0:=H) c9 c_ a_ B (by simp [I]) (by simp [F]) (by simp [E]) (by simp [M]) (by simp [A]) (by simp [J];rfl) z v ?_
 intro t H2 i' hi B b7 I F E M A J z v;refine ag ?_;refine ag (ab (.inl rfl) ?_);simp [A,E];by_cases Y:i'=e
 ·subst Y;refine aj (by simp) ?_
  refine ag (ab (.inl rfl) ?_);simp;exact aA (hQ _ _ (vb true) rfl (by simp [Km.results,aU]) ⟨true,rfl,z,l,v,u,fun _=>B⟩)
 refine ah (by simp [Y]) (aB ?_)
 refine ag ?_;refine ag (ab (.inl rfl) ?_);simp [F,E,wrap64 (n:=(e:Int)-a) (by omega) (by omega)]
 by_cases d_:(e:Int)-a<50
 ·refine aj (by simp;omega) ?_
  refine ag (ab (.inl rfl) ?_);simp;exact aA (hQ _ _ (vb false) rfl (by simp [Km.results,aU]) ⟨false,rfl,z,l,v,u,fun h=>nomatch h⟩)
 refine ah (by simp;omega) (aB ?_)
 obtain⟨d,rfl⟩:∃ d,i'=d+1:=⟨i'-1,by omega⟩
 have c1:((d+1:Nat):Int)=(d:Int)+1:=by omega
 obtain⟨x5,y5,H5,H6,d6,d7,i5,j5,l5,l6,w5,w6,s5,j6,s6,r6,f6⟩:=v.gZ (K u) (L.trans hn) (i:=d+1) (j:=d) (by omega) (by omega)
 have d9:c x5 y5<0:=by
  rcases b7 with h | h
  ·omega
  ·exact h x5 y5 d6 (by simpa using d7)
 have N:dU a e rows (gZ l (d+1) d):=u.trans (ef (by omega) (by omega) (by omega) (by omega) (by omega))
 rw [c1]at i5 A;refine ag (ab (.inl rfl) ?_);simp [I,A,i5,j5,l5,l6,w5,w6,s5,j6,s6,-an,-ba,wrap64 (n:=(d:Int)) (by omega) (by omega)]
 have b9:∀(t:T) (O:ai) (S:List (List FC)),t.g 0=.c (.sl b 0 n 0 ep sz)→t.g 1=vi a→t.g 2=vi e→t.g 3=cv→t.g 9=vi (d+1:Nat)→t.g 10=vi g→Fm b H O→RB O b sz ep S→dU a e rows S→Up c a (d+1) S →
   WP tab σ.pins none [.inBlock 1,.code (AB σ sz),.inLoop (GC σ sz),.inBlock 0,.code (tD σ sz)] ⟨t,[],O⟩ Q:=by
  intro t O S I F E M A J z v u B;refine al (ab (.inl rfl) ?_);simp [J,wrap64 (n:=(g:Int)+1) (by omega) (by omega)]
  exact ih (m-1) _ (by omega) ⟨d+1,g+1,_,O,S,rfl,by omega,by omega,by omega,by simp [I],by simp [F],by simp [E],by simp [M],by simp [A],by simp,z,v,u,B⟩
 have right:∀(t:T) (O:ai) (S:List (List FC)),t.g 0=.c (.sl b 0 n 0 ep sz)→t.g 1=vi a→t.g 2=vi e→t.g 3=cv→t.g 9=vi (d+1:Nat)→t.g 10=vi g→Fm b H O→RB O b sz ep S→dU a e rows S→Up c a (d+1) S →
   WP tab σ.pins none [.code (Ix σ sz),.inBlock 1,.code (AB σ sz),.inLoop (GC σ sz),.inBlock 0,.code (tD σ sz)] ⟨t,[],O⟩ Q:=by
  intro t O S I F E M A J z v u B;have L:=u.len;rw [c1]at A;refine ag ?_;refine ab (.inl rfl) ?_;simp [A,E,wrap64 (n:=(e:Int)-((d:Int)+1)) (by omega) (by omega)]
  by_cases h2:(2:Int)≤(e:Int)-((d:Int)+1)
  case neg=>
   refine ah (by simp;omega) (aB ?_)
   exact b9 _ O S (by simp [I]) (by simp [F]) (by simp [E]) (by simp [M]) (by simp [A]) (by simp [J]) z v u B
  refine aj (by simp;omega) ?_
  refine ag (ab (.inl rfl) ?_);simp [A,wrap64 (n:=(d:Int)+1+1) (by omega) (by omega)]
  refine GD a8 (L.trans hn) hl (K u) (U u) (H0:=H) (a:=a) (i:=d+1) (e:=e) (g10:=vi g) (by omega) a_ (by simp [I]) (by simp [F]) (by simp [E]) (by simp [M]) (by simp [A]) (by simp [J]) (by simp) z v ?_
  intro t H4 l4 X I F E M A J z v;exact b9 t H4 l4 I F E M A J z v (u.trans (X.mono (by omega) (aft _))) (B.of fun k _ hk=>X.lt hk)
 refine ag ?_;refine ag (ab (.inl rfl) ?_);simp [A,F,wrap64 (n:=(d:Int)+1-a) (by omega) (by omega)]
 by_cases h2:(2:Int)≤(d:Int)+1-a
 case neg=>
  refine ah (by simp;omega) (aB ?_)
  exact right _ H6 _ (by simp [I]) (by simp [F]) (by simp [E]) (by simp [M]) (by simp [A]) (by simp [J]) (z.trans f6) r6 N (Up.one (by omega))
 refine aj (by simp;omega) ?_
 refine ag (ab (.inl rfl) ?_);simp [A,wrap64 (n:=(d:Int)) (by omega) (by omega)]
 have d5:=N.len;refine OP a8 hc (d5.trans hn) hl (K N) (U N) (H0:=H) (a:=a) (i:=d) (j:=d) (e:=e) (g10:=vi g) (by omega) rfl (by omega) a_ (b_.vZ N (aft _) (aft _) (by omega) (by omega)) ?_ (by simp [I]) (by simp [F]) (by simp [E]) (by simp [M]) (by simp [A]) (by simp [J]) (by simp) (z.trans f6) r6 ?_
 ·intro p q h1 h2 h3 h4;have g:∀ k,k<d→(gZ l (d+1) d)[k]?=l[k]?:=fun k hk=>by rw [fY (by omega) (by omega),if_neg (by omega),if_neg (by omega)]
  exact jH.get (fun x y=>B p q x y h1 h2 (by omega)) (g p (by omega)) (g q (by omega))
 intro t H4 l4 X d8 I F E M A J z v;exact right t H4 l4 I F E M A J z v (N.trans X) d8
end
end
section
def ue(i b:Nat):Prop:=b=2*i+1∨b=2*i+2
def Hp(c:List FC→List FC→Int)(f h k:Nat)(l:List (List FC)):Prop:=∀ i b,k≤i→ue i b→b<h→jH c l (f+b) (f+i)
def ZL(c:List FC→List FC→Int)(f h k r:Nat)(l:List (List FC)):Prop:=
 (∀ i b,k≤i→i≠r→ue i b→b<h→jH c l (f+b) (f+i))∧∀ i b,k≤i→ue i r→ue r b→b<h→jH c l (f+b) (f+i)
section
variable{W:List FC→Prop}{c:List FC→List FC→Int}{l:List (List FC)}
theorem Hp.x{f h k:Nat}(j:Hp c f h (k+1) l):ZL c f h k k l:=
 ⟨fun i g a b d e=>j i g (by omega) d e,fun i g a b d e=>by unfold ue at b;omega⟩
theorem ZL.leaf{f h k r:Nat}(j:ZL c f h k r l)(hr:h≤2*r+1):Hp c f h k l:=fun i g a b d=>by
 by_cases e:i=r
 ·subst e;unfold ue at b;omega
 ·exact j.1 i g a e b d
theorem ZL.stop{f h k r j:Nat}(hc:tT W c)(s:∀ r ∈ l,W r)(v:ZL c f h k r l)(y:f+h≤l.length)(x:ue r j)(u:j<h)(g:∀ q,ue r q→q<h→jH c l (f+q) (f+j))(m:jH c l (f+j) (f+r)):Hp c f h k l:=fun i q a b d=>by
 by_cases e:i=r
 ·subst e;exact(g q b d).trans hc s m (by omega)
 ·exact v.1 i q a e b d
theorem ZL.step{f h k r b:Nat}(hc:tT W c)(L:∀ r ∈ l,W r)(B:ZL c f h k r l)(O:f+h≤l.length)(M:k≤r)(z:ue r b)(A:b<h)(m:∀ q,ue r q→q<h→jH c l (f+q) (f+b)){x y:List FC}(E:l[f+r]?=some x)(H:l[f+b]?=some y)(F:c x y<0) :
  ZL c f h k b (gZ l (f+r) (f+b)):=by
 have N:r<b:=by unfold ue at z;omega
 have g:∀ q,(gZ l (f+r) (f+b))[f+q]?=if q=b then l[f+r]? else if q=r then l[f+b]? else l[f+q]?:=fun q=>by
  rw [fY (by omega) (by omega)]
  by_cases I:q=b
  ·subst I;simp
  rw [if_neg (by omega),if_neg I]
  by_cases j:q=r
  ·subst j;simp
  rw [if_neg (by omega),if_neg j]
 refine⟨fun i q hi s u d=>?_,fun i q hi K J d=>?_⟩
 ·by_cases e:i=r
  ·subst e;by_cases j:q=b
   ·subst j;exact(jH.of_lt hc L E H F).get (by rw [g,if_pos rfl]) (by rw [g,if_neg (by omega),if_pos rfl])
   ·exact(m q u d).get (by rw [g,if_neg j,if_neg (by unfold ue at u;omega)]) (by rw [g,if_neg (by omega),if_pos rfl])
  ·by_cases j:q=r
   ·subst j;exact(B.2 i b hi u z A).get (by rw [g,if_neg (by omega),if_pos rfl]) (by rw [g,if_neg s,if_neg e])
   ·have v:q≠b:=by unfold ue at u z;omega
    exact(B.1 i q hi e u d).get (by rw [g,if_neg v,if_neg j]) (by rw [g,if_neg s,if_neg e])
 ·have e:i=r:=by unfold ue at K z;omega
  subst e;have v:q≠b∧q≠i:=by unfold ue at J;omega
  exact(B.1 b q (by omega) (by omega) J d).get (by rw [g,if_neg v.1,if_neg v.2]) (by rw [g,if_neg (by omega),if_pos rfl])
theorem jH.self{i:Nat}(hc:tT W c)(b:∀ r ∈ l,W r):jH c l i i:=fun x y d hy=>by
 rw [d]at hy;cases hy;have:=avL d;intro q;exact hc.Ct (b _ this) (b _ this) q q
theorem Hp.top{f h:Nat}(hc:tT W c)(b:∀ r ∈ l,W r)(j:Hp c f h 0 l)(s:f+h≤l.length):∀ k,k<h→jH c l (f+k) f:=by
 intro k
 induction k using Nat.strongRecOn with
 | ind k m=>
  intro g;rcases awk k with rfl | q
  ·exact jH.self hc b
  ·have d:=j ((k-1) / 2) k (by omega) (by unfold ue;omega) g
   exact d.trans hc b (m ((k-1) / 2) (by omega) (by omega)) (by omega)
def zj(c:List FC→List FC→Int)(f h j:Nat)(l:List (List FC)):Prop:=∀ p q,p<q→j≤q→q<h→jH c l (f+p) (f+q)
theorem zj.swap{f h i:Nat}(hc:tT W c)(E:∀ r ∈ l,W r)(u:zj c f h (i+1) l)(A:Hp c f (i+1) 0 l)(hi:i<h)(I:f+h≤l.length):zj c f h i (gZ l f (f+i))∧ZL c f i 0 0 (gZ l f (f+i)):=by
 have g:∀ q,(gZ l f (f+i))[f+q]?=if q=i then l[f]? else if q=0 then l[f+i]? else l[f+q]?:=fun q=>by
  rw [fY (by omega) (by omega)]
  by_cases j:q=i
  ·subst j;simp
  rw [if_neg (by omega),if_neg j]
  by_cases b:q=0
  ·subst b;simp
  rw [if_neg (by omega),if_neg b]
 refine⟨fun p q v J d=>?_,fun x m _ H z F=>?_,fun x m _ y=>by unfold ue at y;omega⟩
 ·have top:=A.top hc E (by omega)
  by_cases e:q=i
  ·subst e;by_cases b:p=0
   ·subst b;exact(top q (by omega)).get (by rw [g,if_neg (by omega),if_pos rfl]) (by rw [g,if_pos rfl])
   ·exact(top p (by omega)).get (by rw [g,if_neg (by omega),if_neg b]) (by rw [g,if_pos rfl])
  ·have s:(gZ l f (f+i))[f+q]?=l[f+q]?:=by rw [g,if_neg e,if_neg (by omega)]
   by_cases j:p=i
   ·subst j;exact(u 0 q (by omega) (by omega) d).get (by rw [g,if_pos rfl,Nat.add_zero]) s
   by_cases b:p=0
   ·subst b;exact(u i q (by omega) (by omega) d).get (by rw [g,if_neg j,if_pos rfl]) s
   ·exact(u p q v (by omega) d).get (by rw [g,if_neg j,if_neg b]) s
 ·have y:x<m:=by unfold ue at z;omega
  have B:m≠0:=by omega
  exact(A x m (by omega) z (by omega)).get (by rw [g,if_neg (by omega),if_neg B]) (by rw [g,if_neg (by omega),if_neg H])
theorem zj.vZ{f h i:Nat}{l':List (List FC)}(s:zj c f h i l)(g:dU f (f+i) l l')(A:f+h≤l.length)(hi:i≤h):zj c f h i l':=by
 intro p q d u b x y m hy;rw [g.ge (by omega)]at hy
 by_cases z:i≤p
 ·rw [g.ge (by omega)]at m
  exact s p q d u b x y m hy
 obtain⟨j,B,E,v⟩:=g.mem (by omega) (by omega) (by omega) (by omega) m
 have:=s (j-f) q (by omega) u b x y
 rw [show f+(j-f)=j by omega]at this
 exact this v hy
theorem zj.up{f h:Nat}(b:zj c f h 0 l):Up c f (f+h) l:=fun i j x y g m q d hy=>by
 have:=b (i-f) (j-f) (by omega) (by omega) (by omega) x y
 rw [show f+(i-f)=i by omega,show f+(j-f)=j by omega]at this
 exact this d hy
end
end
section
section
variable{tab:Nat→Option ax}{σ:bu}{sz:Nat}{H:ai}{b ep:Nat}{rows:List (List FC)}{cv:V}{W:List FC→Prop}{c:List FC→List FC→Int}
theorem IV(hT:tab σ.vE=some (vF σ sz))(a_:Cv tab cv W c)(hc:tT W c){n lo h f:Nat}(hn:rows.length=n)(hl:n≤1000000000)(d:RB H b sz ep rows)(hg:bC sz rows)(hW:∀ r ∈ rows,W r)(b9:lo≤h)(c9:f+h≤n)(hx:ZL c f h lo lo rows) :
  ∃ r H',Ev tab (.fn σ.vE) [.c (.sl b 0 n 0 ep sz),vi lo,vi h,vi f,cv] H r H'∧(r=.t []∧Fm b H H'∧∃ l',RB H' b sz ep l'∧dU f (f+h) rows l'∧Hp c f h lo l'):=by
 refine da hT rfl fun Q hQ=>?_
 refine ag (ab (.inl rfl) ?_);simp;refine av ?_
 refine bw (fun m s=>∃(r:Nat) (t:T) (H1:ai) (l:List (List FC)),s=⟨t,[],H1⟩∧m=h-r∧lo≤r∧r≤h∧t.g 0=.c (.sl b 0 n 0 ep sz)∧t.g 2=vi h∧t.g 3=vi f∧t.g 4=cv∧t.g 10=vi r ∧
  Fm b H H1∧RB H1 b sz ep l∧dU f (f+h) rows l∧ZL c f h lo r l) _
  ⟨lo,_,H,rows,rfl,rfl,by omega,b9,by simp,by simp,by simp,by simp,by simp,Fm.refl H,d,dU.refl _ _ _,hx⟩ ?_
 rintro m s ⟨r,t,H1,l,rfl,rfl,b_,d5,L,M,N,U,g10,z,d,g,hx⟩ ih;have E:=g.len;have Y:=g.te hg;have v:∀ r ∈ l,W r:=fun r hr=>hW r (g.1.mem_iff.1 hr)
 have cf:∀ q:Nat,((f+q:Nat):Int)=(f:Int)+q:=fun q=>by omega
 refine av ?_;refine ag (ab (.inl rfl) ?_);simp [g10,wrap64 (n:=(2:Int)*r) (by omega) (by omega),wrap64 (n:=(2:Int)*r+1) (by omega) (by omega)]
 refine ag ?_;refine ag (ab (.inl rfl) ?_);simp [M];by_cases Z:h≤2*r+1
 ·refine aj (by simp;omega) ?_
  refine aT (k':=[]) rfl ?_;exact iY (hQ _ _ _ rfl rfl ⟨rfl,z,l,d,g,hx.leaf Z⟩)
 refine ah (by simp;omega) (aB ?_)
 refine ag ?_
 have go:∀(t:T) (H2:ai) (A:Nat),ue r A→A<h→(∀ q,ue r q→q<h→jH c l (f+q) (f+A))→t.g 0=.c (.sl b 0 n 0 ep sz)→t.g 2=vi h→t.g 3=vi f→t.g 4=cv→t.g 10=vi r→t.g 11=vi A→Fm b H H2→RB H2 b sz ep l →
   WP tab σ.vE none [.code (IU σ sz),.inBlock 1,.inLoop (ab3 σ sz),.inBlock 0] ⟨t,[],H2⟩ Q:=by
  intro t H2 A hk a8 O L M N U g10 S z d;obtain⟨x,y,F,ar,J,I,K,i1,j1,l1,l2,B,he,-,-⟩:=d.ask Y a_ v (E.trans hn) (i:=f+r) (j:=f+A) (by omega) (by omega)
  rw [cf]at i1 j1;refine ag ?_;refine ag (ab (.inl rfl) ?_);simp [L,N,U,g10,S,i1,j1,l1,l2,B,he,-an,wrap64 (n:=(f:Int)+r) (by omega) (by omega),wrap64 (n:=(f:Int)+A) (by omega) (by omega)]
  by_cases u:c x y<0
  case neg=>
   refine aj (by simp [u]) ?_
   exact aA (hQ _ _ _ rfl rfl ⟨rfl,z.trans (Fm.push _ _),l,d.push _,g,hx.stop hc v (by omega) hk a8 O (jH.of_le K I u)⟩)
  refine ah (by simp [u]) (aB ?_)
  obtain⟨x5,y5,H5,H6,-,-,i5,j5,l5,l6,w5,w6,s5,j6,s6,r6,f6⟩:=(d.push J).gZ Y (E.trans hn) (i:=f+r) (j:=f+A) (by omega) (by omega)
  rw [cf]at i5 j5 j6;refine ag (ab (.inl rfl) ?_);simp [L,N,g10,S,i5,j5,l5,l6,w5,w6,s5,j6,s6,-an,-ba,wrap64 (n:=(f:Int)+r) (by omega) (by omega),wrap64 (n:=(f:Int)+A) (by omega) (by omega)]
  refine ab (.inl rfl) ?_;simp [S];refine al ?_;have c_:r<A:=by unfold ue at hk;omega
  exact ih _ _ (by omega) ⟨A,_,H6,_,rfl,rfl,by omega,by omega,by simp [L],by simp [M],by simp [N],by simp [U],by simp,(z.trans (Fm.push _ _)).trans f6,r6,
   g.trans (ef (by omega) (by omega) (by omega) (by omega) (by omega)),hx.step hc v (by omega) b_ hk a8 O I K u⟩
 refine ag ?_;refine ab (.inl rfl) ?_;by_cases h2:2*r+2<h
 case neg=>
  have X:¬ ((2:Int)*r+1+1<h):=by omega
  simp [M,X,wrap64 (n:=(2:Int)*r+1+1) (by omega) (by omega)]
  refine ah (by simp) (aB ?_)
  refine go _ H1 (2*r+1) (.inl rfl) (by omega) (fun q hq b7=>?_) (by simp [L]) (by simp [M]) (by simp [N]) (by simp [U]) (by simp [g10]) (by simp) z d
  have:q=2*r+1:=by unfold ue at hq;omega
  subst this;exact jH.self hc v
 have X:((2:Int)*r+1+1<h):=by omega
 obtain⟨x,y,F,ar,J,I,K,i1,j1,l1,l2,B,he,-,-⟩:=d.ask Y a_ v (E.trans hn) (i:=f+(2*r+1)) (j:=f+(2*r+2)) (by omega) (by omega)
 have e1:((f+(2*r+1):Nat):Int)=(f:Int)+(2*r+1):=by omega
 have e2:((f+(2*r+2):Nat):Int)=(f:Int)+(2*r+1)+1:=by omega
 rw [e1]at i1;rw [e2]at j1;simp [L,M,N,U,X,i1,j1,l1,l2,B,he,-an,wrap64 (n:=(2:Int)*r+1+1) (by omega) (by omega),wrap64 (n:=(f:Int)+(2*r+1)) (by omega) (by omega),wrap64 (n:=(f:Int)+(2*r+1)+1) (by omega) (by omega)]
 by_cases u:c x y<0
 ·refine aj (by simp [u]) ?_
  refine ab (.inl rfl) ?_;simp [wrap64 (n:=(2:Int)*r+1+1) (by omega) (by omega)]
  refine go _ _ (2*r+2) (.inr rfl) (by omega) (fun q hq b7=>?_) (by simp [L]) (by simp [M]) (by simp [N]) (by simp [U]) (by simp [g10]) (by simp;omega) (z.trans (Fm.push _ _)) (d.push _)
  rcases hq with rfl | rfl
  ·exact jH.of_lt hc v I K u
  ·exact jH.self hc v
 ·refine ah (by simp [u]) (aB ?_)
  refine go _ _ (2*r+1) (.inl rfl) (by omega) (fun q hq b7=>?_) (by simp [L]) (by simp [M]) (by simp [N]) (by simp [U]) (by simp [g10]) (by simp) (z.trans (Fm.push _ _)) (d.push _)
  rcases hq with rfl | rfl
  ·exact jH.self hc v
  ·exact jH.of_le K I u
theorem agt(hT:tab σ.heap=some (z_ σ sz))(hS:tab σ.vE=some (vF σ sz))(N:Cv tab cv W c)(hc:tT W c){n a e:Nat}(hn:rows.length=n)(hl:n≤1000000000)(u:RB H b sz ep rows)(hg:bC sz rows)(hW:∀ r ∈ rows,W r)(c9:a<e)(a_:e≤n) :
  ∃ r U,Ev tab (.fn σ.heap) [.c (.sl b 0 n 0 ep sz),vi a,vi e,cv] H r U∧(r=.t []∧Fm b H U∧∃ l',RB U b sz ep l'∧dU a e rows l'∧Up c a e l'):=by
 obtain⟨h,rfl⟩:∃ h,e=a+h:=⟨e-a,by omega⟩
 have hw:IntKind.i64.wrap ((a:Int)+h-a)=h:=by rw [wrap64 (by omega) (by omega)];omega
 have hq:bJ .quo (vi ((h:Int)-1)) (vi 2)=some (vi (((h-1) / 2:Nat):Int)):=by
  have:=ahR (a:=h-1) (b:=2) (by omega) (by omega)
  rwa [show((h-1:Nat):Int)=(h:Int)-1 by omega]at this
 refine da hT rfl fun Q hQ=>?_
 refine ag (ab (.inl rfl) ?_);simp;refine ag (ab (.inl rfl) ?_);simp;refine ag (ab (.inl rfl) ?_);simp [hw];have x:∀ {l},dU a (a+h) rows l→bC sz l:=fun h=>h.te hg
 have B:∀ {l},dU a (a+h) rows l→∀ r ∈ l,W r:=fun h r hr=>hW r (h.1.mem_iff.1 hr)
 refine ag ?_;refine ag (ab (.inl rfl) ?_);simp [hq,wrap64 (n:=(h:Int)-1) (by omega) (by omega)]
 refine av ?_
 refine bw (fun m s=>∃(t:T) (E:ai) (l:List (List FC)),s=⟨t,[],E⟩∧m≤h∧t.g 0=.c (.sl b 0 n 0 ep sz)∧t.g 3=cv∧t.g 8=vi a∧t.g 9=vi 0∧t.g 10=vi h∧t.g 11=vi ((m:Int)-1) ∧
  Fm b H E∧RB E b sz ep l∧dU a (a+h) rows l∧Hp c a h m l) ((h-1) / 2+1)
  ⟨_,H,rows,rfl,by omega,by simp,by simp,by simp,by simp,by simp,by simp,Fm.refl H,u,dU.refl _ _ _,fun i ch h1 h2 h3=>by unfold ue at h2;omega⟩ ?_
 rintro m s ⟨t,E,l,rfl,b9,I,K,J,M,g10,F,y,u,g,O⟩ ih;have z:=g.len;refine ag ?_;refine ag (ab (.inl rfl) ?_);simp [F];rcases awk m with rfl | b7
 case inr=>
  obtain⟨d,rfl⟩:∃ d,m=d+1:=⟨m-1,by omega⟩
  have Y:((d+1:Nat):Int)-1=d:=by omega
  rw [Y]at F;refine aj (by simp;omega) (aB ?_)
  obtain⟨r,X,L,rfl,Z,l2,r2,S,p2⟩:=IV hS N hc (z.trans hn) hl u (x g) (B g) (lo:=d) (h:=h) (f:=a) (by omega) a_ O.x
  refine ag ?_;refine av (ab (.inl rfl) ?_);simp [I,K,J,g10,F,L.eq];refine al (ab (.inl rfl) ?_);simp [F,wrap64 (n:=(d:Int)-1) (by omega) (by omega)]
  exact ih d _ (by omega) ⟨_,X,l2,rfl,by omega,by simp [I],by simp [K],by simp [J],by simp [M],by simp [g10],by simp,y.trans Z,r2,g.trans S,p2⟩
 refine ah (by simp) ?_
 refine aT (k':=[.code (HR σ sz)]) rfl ?_;refine ag (ab (.inl rfl) ?_);simp [g10,wrap64 (n:=(h:Int)-1) (by omega) (by omega)]
 refine av ?_
 refine bw (fun m s=>∃(t:T) (E:ai) (l:List (List FC)),s=⟨t,[],E⟩∧m≤h∧t.g 0=.c (.sl b 0 n 0 ep sz)∧t.g 3=cv∧t.g 8=vi a∧t.g 9=vi 0∧t.g 12=vi ((m:Int)-1) ∧
  Fm b H E∧RB E b sz ep l∧dU a (a+h) rows l∧Hp c a m 0 l∧zj c a h m l) h
  ⟨_,E,l,rfl,by omega,by simp [I],by simp [K],by simp [J],by simp [M],by simp,y,u,g,O,fun p q h1 h2 h3=>by omega⟩ ?_
 rintro m s ⟨t,E,l,rfl,b9,I,K,J,M,v,y,u,g,O,hd⟩ ih;have z:=g.len;refine ag ?_;refine ag (ab (.inl rfl) ?_);simp [v];rcases awk m with rfl | b7
 ·refine ah (by simp) ?_
  refine aT (k':=[]) rfl ?_;exact iY (hQ _ _ _ rfl rfl ⟨rfl,y,l,u,g,hd.up⟩)
 obtain⟨d,rfl⟩:∃ d,m=d+1:=⟨m-1,by omega⟩
 have Y:((d+1:Nat):Int)-1=d:=by omega
 rw [Y]at v;refine aj (by simp;omega) (aB ?_)
 obtain⟨x5,y5,H5,H6,-,-,i5,j5,l5,l6,w5,w6,s5,j6,s6,r6,f6⟩:=u.gZ (x g) (z.trans hn) (i:=a) (j:=a+d) (by omega) (by omega)
 have ce:((a+d:Nat):Int)=(a:Int)+d:=by omega
 rw [ce]at j5 j6;obtain⟨a8,b_⟩:=hd.swap hc (B g) O (by omega) (by omega)
 have A:dU a (a+h) rows (gZ l a (a+d)):=g.trans (ef (by omega) (by omega) (by omega) (by omega) (by omega))
 obtain⟨r,X,L,rfl,Z,l2,r2,S,p2⟩:=IV hS N hc (A.len.trans hn) hl r6 (x A) (B A) (lo:=0) (h:=d) (f:=a) (by omega) (by omega) b_
 have L:=L.eq;simp at L;refine ag ?_;refine av ?_;refine ag (ab (.inl rfl) ?_);simp [I,J,v,i5,j5,l5,l6,w5,w6,s5,j6,s6,-an,-ba,wrap64 (n:=(a:Int)+d) (by omega) (by omega)]
 refine ab (.inl rfl) ?_;simp [I,K,J,M,v,L];refine al (ab (.inl rfl) ?_);simp [v,wrap64 (n:=(d:Int)-1) (by omega) (by omega)]
 exact ih d _ (by omega) ⟨_,X,l2,rfl,by omega,by simp [I],by simp [K],by simp [J],by simp [M],by simp,(y.trans f6).trans Z,r2,A.trans (S.mono (aft _) (by omega)),p2,
  a8.vZ S (by rw [A.len];omega) (by omega)⟩
end
end
section
abbrev vu(n:Int):V:=.c (.f (.int .u64 n))
def NU(H:ai)(p:Nat):Prop:=∃ k:Int,H[p]?=some (.box [.f (.int .u64 k)] 0)
theorem ars{a b:Int}(d:0≤b):bJ .shl (vu a) (vu b)=some (vu (IntKind.wrap .u64 (a*2 ^ (min b.toNat 64)))):=by
 simp only [bJ,if_neg (show¬ b<0 by omega)];rfl
theorem art{a b:Int}(d:0≤b):bJ .shr (vu a) (vu b)=some (vu (a.fdiv (2 ^ (min b.toNat 64)))):=by
 simp only [bJ,if_neg (show¬ b<0 by omega)];rfl
theorem arH{a b:Int}:bJ .xor (vu a) (vu b)=some (vu (IntKind.wrap .u64 (BitVec.ofInt 64 a ^^^ BitVec.ofInt 64 b).toNat)):=by
 simp only [bJ,jJ,if_true];rfl
theorem za(n:Int):IntKind.wrap .u64 n=n % 18446744073709551616:=rfl
theorem Z4{x:Int}{k:Nat}(j:k≤62):∃ o:Nat,o<2 ^ k∧bJ .and (vu x) (vu ((2:Int) ^ k-1))=some (vu o):=by
 have l:(2:Nat) ^ k≤2 ^ 62:=axh (by omega) j
 have g:(2:Nat) ^ 62=4611686018427387904:=by decide
 have b:0<(2:Nat) ^ k:=Nat.pow_pos (by omega)
 have e:BitVec.ofInt 64 ((2:Int) ^ k-1)=BitVec.ofNat 64 (2 ^ k-1):=by
  have:((2:Int) ^ k-1)=((2 ^ k-1:Nat):Int):=by
   rw [Int.ofNat_sub b];simp
  rw [this,BitVec.ofInt_natCast]
 refine⟨(BitVec.ofInt 64 x).toNat % 2 ^ k,Nat.mod_lt _ b,?_⟩
 have d:(BitVec.ofInt 64 x &&& BitVec.ofInt 64 ((2:Int) ^ k-1)).toNat=(BitVec.ofInt 64 x).toNat % 2 ^ k:=by
  rw [e,BitVec.toNat_and,BitVec.toNat_ofNat,Nat.mod_eq_of_lt (a:=2 ^ k-1) (by omega),Nat.and_two_pow_sub_one_eq_mod]
 have m:(BitVec.ofInt 64 x).toNat % 2 ^ k<2 ^ k:=Nat.mod_lt _ b;simp only [bJ,jJ,if_true]
 show some (vu (IntKind.wrap .u64 ((BitVec.ofInt 64 x &&& BitVec.ofInt 64 ((2:Int) ^ k-1)).toNat)))=_
 rw [d,za,Int.emod_eq_of_lt (by omega) (by omega)]
section
variable{tab:Nat→Option ax}{σ:bu}{sz:Nat}{H:ai}{b ep:Nat}{rows:List (List FC)}{cv:V}{W:List FC→Prop}{c:List FC→List FC→Int}
theorem NU.fm{p b:Nat}{H d:ai}(h:NU H p)(g:Fm b H d)(e:p≠b):NU d p:=by
 obtain⟨k,h⟩:=h;exact⟨k,g.get h e⟩
theorem Fm.far{p b:Nat}{H d g:ai}(h:Fm b H d)(q:H.length≤p)(m:Fm p d g):Fm b H g:=
 ⟨avV h.1 m.1,fun j n l=>(m.2 j (by omega) (Nat.lt_of_lt_of_le l h.1)).trans (h.2 j n l)⟩
theorem aiy(a:Int)(b:Int)(d:0≤b):∃ v,bJ .shl (.c (.f (.int .u64 a))) (.c (.f (.int .u64 b)))=some (.c (.f (.int .u64 v))):=⟨_,ars d⟩
theorem aru(a:Int)(b:Int)(d:0≤b):∃ v,bJ .shr (.c (.f (.int .u64 a))) (.c (.f (.int .u64 b)))=some (.c (.f (.int .u64 v))):=⟨_,art d⟩
theorem acp(a b:Int):∃ v,bJ .xor (.c (.f (.int .u64 a))) (.c (.f (.int .u64 b)))=some (.c (.f (.int .u64 v))):=⟨_,arH⟩
theorem akY(S:tab σ.O_=some (Ig σ sz)){p:Nat}(x:NU H p) :
  ∃ r y,Ev tab (.fn σ.O_) [.c (.ptr p 0 0)] H r y∧((∃ k:Int,r=vu k)∧Fm p H y∧NU y p):=by
 obtain⟨k,x⟩:=x;have z:=ak x;have j:∀(H:ai) (k:Int),p<H.length→(H.set p (.box [.f (.int .u64 k)] 0))[p]?=some (.box [.f (.int .u64 k)] 0):=fun H k h=>List.getElem?_set_self h
 refine da S rfl fun Q O=>?_
 refine ag (ab (.inl rfl) ?_);simp;obtain⟨a1,I⟩:=aiy k 13 (by omega)
 obtain⟨u,J⟩:=acp k a1;refine ag (ab (.inl rfl) ?_);simp [x,I,J];obtain⟨l,b⟩:∃ l,l=H.set p (.box [.f (.int .u64 u)] 0):=⟨_,rfl⟩;rw [←b];have p1:l[p]?=some (.box [.f (.int .u64 u)] 0):=by rw [b];exact j _ _ z
 have B:Fm p H l:=by rw [b];exact Fm.set _ _
 obtain⟨A,K⟩:=aru u 7 (by omega)
 obtain⟨v,L⟩:=acp u A;refine ag (ab (.inl rfl) ?_);simp [p1,K,L];obtain⟨m,d⟩:∃ m,m=l.set p (.box [.f (.int .u64 v)] 0):=⟨_,rfl⟩;rw [←d];have p2:m[p]?=some (.box [.f (.int .u64 v)] 0):=by rw [d];exact j _ _ (ak p1)
 have E:Fm p H m:=by rw [d];exact B.trans (Fm.set _ _)
 obtain⟨a5,M⟩:=aiy v 17 (by omega)
 obtain⟨q,N⟩:=acp v a5;refine ag (ab (.inl rfl) ?_);simp [p2,M,N];obtain⟨s,g⟩:∃ s,s=m.set p (.box [.f (.int .u64 q)] 0):=⟨_,rfl⟩;rw [←g];have p3:s[p]?=some (.box [.f (.int .u64 q)] 0):=by rw [g];exact j _ _ (ak p2)
 have F:Fm p H s:=by rw [g];exact E.trans (Fm.set _ _)
 refine ag (ab (.inl rfl) ?_);simp [p3];exact aA (O _ _ (vu q) rfl (by simp [Km.results,aU]) ⟨⟨q,rfl⟩,F,q,p3⟩)
theorem akX(q:tab σ.npt=some (Ie σ sz)){L k:Nat}(b:Km.Pure tab σ.len [vu L]=Eq (vi k))(v:L≤1000000000)(s:k≤62):Km.Pure tab σ.npt [vi L] (vu ((2:Int) ^ k)):=by
 refine bK q rfl fun Q m=>?_
 refine ag (ab (.inl rfl) ?_);simp;have d:IntKind.wrap .u64 (L:Int)=L:=by rw [za];omega
 have j:(2:Nat) ^ k≤2 ^ 62:=axh (by omega) s
 have l:(2:Nat) ^ 62=4611686018427387904:=by decide
 have u:bJ .shl (.c (.f (.int .u64 1))) (.c (.f (.int .i64 (k:Int))))=some (vu ((2:Int) ^ k)):=by
  simp only [bJ,if_neg (show¬ (k:Int)<0 by omega)]
  show some (vu (IntKind.wrap .u64 (1*2 ^ (min (k:Int).toNat 64))))=_
  have g:((2:Int) ^ k)=((2 ^ k:Nat):Int):=by simp
  obtain⟨w,d⟩:∃ w:Nat,w=2 ^ k:=⟨_,rfl⟩;rw [←d]at g j;rw [av2,Nat.min_eq_left (by omega),Int.one_mul,za,g,Int.emod_eq_of_lt (by omega) (by omega)]
 refine ag (ab (.inl rfl) ?_);simp [d,b,u];exact aA (m _ _ ⟨rfl,_,by simp [Km.results,aU];rfl,by simp⟩)
theorem aj5(hT:tab σ.brk=some (HC σ sz))(hN:tab σ.O_=some (Ig σ sz))(hP:tab σ.npt=some (Ie σ sz)){n a L k:Nat}(I:Km.Pure tab σ.len [vu L]=Eq (vi k))(W:k≤62)(c9:2 ^ k≤2*L)(hn:rows.length=n)(hl:n≤1000000000)(y:RB H b sz ep rows)(hg:bC sz rows)(h8:8≤L)(b9:a+L≤n) :
  ∃ r O,Ev tab (.fn σ.brk) [.c (.sl b 0 n 0 ep sz),vi a,vi (a+L:Nat),cv] H r O∧(r=.t []∧Fm b H O∧∃ l',RB O b sz ep l'∧dU a (a+L) rows l'):=by
 have N:=(akX (σ:=σ) (sz:=sz) hP I (by omega) W).eq
 obtain⟨d,hd⟩:∃ d,d=L / 4:=⟨_,rfl⟩
 have hq:bJ .quo (vi (L:Int)) (vi 4)=some (vi (d:Int)):=by
  have:=ahR (a:=L) (b:=4) (by omega) (by omega)
  rw [hd];exact this
 have hw:IntKind.i64.wrap ((a:Int)+L-a)=L:=by rw [wrap64 (by omega) (by omega)];omega
 have Z:IntKind.wrap .u64 (L:Int)=L:=by rw [za];omega
 have h2:(2:Nat) ^ k≤2 ^ 62:=axh (by omega) W
 have a8:(2:Nat) ^ 62=4611686018427387904:=by decide
 have d5:0<(2:Nat) ^ k:=Nat.pow_pos (by omega)
 have hp:((2:Int) ^ k)=((2 ^ k:Nat):Int):=by simp
 have Y:IntKind.wrap .u64 ((2:Int) ^ k-1)=(2:Int) ^ k-1:=by rw [za,hp,Int.emod_eq_of_lt (by omega) (by omega)]
 refine da hT rfl fun Q hQ=>?_
 refine ag (ab (.inl rfl) ?_);simp [hw];refine ag ?_;refine ab (.inl rfl) ?_;simp;refine aj (by simp;omega) ?_
 have b7:=y.lt;refine ag (ab (.inl rfl) ?_);simp [Z];obtain⟨v,z⟩:∃ v,v=H++[.box [.f (.int .u64 (L:Int))] 0]:=⟨_,rfl⟩;rw [←z];have p1:NU v H.length:=⟨L,by rw [z];simp⟩
 have f1:Fm b H v:=by rw [z];exact Fm.push _ _
 have r1:RB v b sz ep rows:=by rw [z];exact y.push _
 refine ag (ab (.inl rfl) ?_);simp [N];refine ag (ab (.inl rfl) ?_);simp [hq,wrap64 (n:=(d:Int)*2) (by omega) (by omega),wrap64 (n:=(a:Int)+d*2) (by omega) (by omega),wrap64 (n:=(a:Int)+d*2-1) (by omega) (by omega)]
 refine av ?_
 refine bw (fun m s=>∃(i:Nat) (t:T) (v:ai) (l:List (List FC)),s=⟨t,[],v⟩∧i+m=a+d*2+2∧a≤i∧i≤a+d*2+2∧t.g 0=.c (.sl b 0 n 0 ep sz)∧t.g 1=vi a∧t.g 8=vi L∧t.g 9=.c (.ptr H.length 0 0)∧t.g 10=vu ((2:Int) ^ k)∧t.g 11=vi i ∧
  Fm b H v∧NU v H.length∧RB v b sz ep l∧dU a (a+L) rows l) 3
  ⟨a+d*2-1,_,v,rows,rfl,by omega,by omega,by omega,by simp,by simp,by simp,by simp,by simp,by simp;omega,f1,p1,r1,dU.refl _ _ _⟩ ?_
 rintro m s ⟨i,t,v,l,rfl,hm,a_,hi,E,B,A,F,g10,u,K,X,y,g⟩ ih;have M:=g.len;refine ag ?_;refine ag (ab (.inl rfl) ?_);simp [B,A,u,hq,wrap64 (n:=(d:Int)*2) (by omega) (by omega),wrap64 (n:=(a:Int)+d*2) (by omega) (by omega),wrap64 (n:=(a:Int)+d*2+1) (by omega) (by omega)]
 by_cases c_:i≤a+d*2+1
 case neg=>
  refine ah (by simp;omega) ?_
  refine aT (k':=[]) rfl ?_;exact iY (hQ _ _ _ rfl rfl ⟨rfl,K,l,y,g⟩)
 refine aj (by simp;omega) (aB ?_)
 obtain⟨r,H2,U,⟨x,rfl⟩,f2,n2⟩:=akY (σ:=σ) (sz:=sz) hN X;have U:=U.eq;obtain⟨o,ho,J⟩:=Z4 (x:=x) (k:=k) W;have r2:RB H2 b sz ep l:=f2.get y (by omega)
 have f3:=K.far (aft _) f2;refine ag ?_;refine av ?_;refine ag (ab (.inl rfl) ?_);simp [F,g10,U,Y,J,wrap64 (n:=(o:Int)) (by omega) (by omega)]
 have go:∀(t:T) (q:Nat),q<L→t.g 0=.c (.sl b 0 n 0 ep sz)→t.g 1=vi a→t.g 8=vi L→t.g 9=.c (.ptr H.length 0 0)→t.g 10=vu ((2:Int) ^ k)→t.g 11=vi i→t.g 12=vi q →
   WP tab σ.brk none [.code (aab σ sz),.inBlock 1,.code (aac σ sz),.inLoop (aaa σ sz),.inBlock 0] ⟨t,[],H2⟩ Q:=by
  intro t q d6 E B A F g10 u S;obtain⟨x5,y5,H5,H6,-,-,i5,j5,l5,l6,w5,w6,s5,j6,s6,r6,f6⟩:=r2.gZ (g.te hg) (M.trans hn) (i:=i) (j:=a+q) (by omega) (by omega)
  have ce:((a+q:Nat):Int)=(a:Int)+q:=by omega
  rw [ce]at j5 j6;refine ab (.inl rfl) ?_;simp [E,B,u,S,i5,j5,l5,l6,w5,w6,s5,j6,s6,-an,-ba,wrap64 (n:=(a:Int)+q) (by omega) (by omega)]
  refine al (ab (.inl rfl) ?_);simp [u,wrap64 (n:=(i:Int)+1) (by omega) (by omega)]
  exact ih (m-1) _ (by omega) ⟨i+1,_,H6,_,rfl,by omega,by omega,by omega,by simp [E],by simp [B],by simp [A],by simp [F],by simp [g10],by simp,f3.trans f6,n2.fm f6 (by omega),r6,
   g.trans (ef (by omega) (by omega) (by omega) (by omega) (by omega))⟩
 refine ag ?_;refine ag ?_;refine ab (.inl rfl) ?_;simp [A];by_cases b_:L≤o
 ·refine aj (by simp;omega) ?_
  refine ab (.inl rfl) ?_;simp [A,wrap64 (n:=(o:Int)-L) (by omega) (by omega)]
  exact go _ (o-L) (by omega) (by simp [E]) (by simp [B]) (by simp [A]) (by simp [F]) (by simp [g10]) (by simp [u]) (by simp;omega)
 ·refine ah (by simp;omega) (aB ?_)
  exact go _ o (by omega) (by simp [E]) (by simp [B]) (by simp [A]) (by simp [F]) (by simp [g10]) (by simp [u]) (by simp)
end
end
section
section
variable{W:List FC→Prop}{c:List FC→List FC→Int}{l l':List (List FC)}
def Rest(c:List FC→List FC→Int)(a p q e:Nat)(l:List (List FC)):Prop:=∀ i j,a≤i→i<j→j<e→¬ (p≤i∧j<q)→jH c l i j
theorem Rest.all(c:List FC→List FC→Int)(a e:Nat)(l:List (List FC)):Rest c a a e e l:=fun i j b d g m=>by omega
theorem Rest.vZ{a p q e:Nat}(h:Rest c a p q e l)(b:dU p q l l')(d:p≤q)(E:q≤l.length)(K:a≤p)(L:q≤e):Rest c a p q e l':=by
 intro i j A I B J x y g hy;by_cases v:p≤i∧i<q
 ·obtain⟨i',i1,i2,s⟩:=b.mem d E v.1 v.2 g;rw [b.ge (by omega)]at hy
  exact h i' j (by omega) (by omega) B (by omega) x y s hy
 by_cases z:p≤j∧j<q
 ·obtain⟨M,N,O,u⟩:=b.mem d E z.1 z.2 hy;rw [b.lt (by omega)]at g
  exact h i M A (by omega) (by omega) (by omega) x y g u
 have F:l'[i]?=l[i]?:=by
  by_cases m:i<p
  ·exact b.lt m
  ·exact b.ge (by omega)
 have H:l'[j]?=l[j]?:=by
  by_cases m:j<p
  ·exact b.lt m
  ·exact b.ge (by omega)
 rw [F]at g;rw [H]at hy;exact h i j A I B J x y g hy
theorem Rest.up{a p q e:Nat}(h:Rest c a p q e l)(hu:Up c p q l):Up c a e l:=fun i j x y m d s g hy=>by
 by_cases b:p≤i∧j<q
 ·exact hu i j x y b.1 d b.2 g hy
 ·exact h i j m d s b x y g hy
theorem Rest.low{a p q e:Nat}(h:Rest c a p q e l)(m:Fx c a e l)(j:a≤p)(s:q≤e):Fx c p q l:=fun k d g u=>by
 by_cases b:p=a
 ·subst b;exact m k d g (by omega)
 ·exact h (p-1) k (by omega) (by omega) (by omega) (by omega)
theorem Rest.left{a p q e m:Nat}(hr:Rest c a p q e l)(hc:tT W c)(s:∀ r ∈ l,W r)(B:e≤l.length)(E:mq c p q m l)(hu:Up c p m l)(H:p≤m)(I:m<q)(J:q≤e):Rest c a (m+1) q e l:=by
 intro i j i1 A F K;by_cases g:p≤i∧j<q
 case neg=>exact hr i j i1 A F g
 obtain⟨v,z,lo,hi⟩:=E;rcases av5 j m with u | u | u
 ·exact fun x y d hy=>hu i j x y g.1 A u d hy
 ·subst u;intro x y d hy;rw [z]at hy;cases hy;exact hc.Ct (s _ (avL d)) (s _ (avL z)) (lo i x g.1 A d)
 ·have b:i≤m:=by omega
  have right:jH c l m j:=fun x y d hy=>by
   rw [z]at d;cases d;exact hi j y u g.2 hy
  rcases awi b with b | b
  ·have left:jH c l i m:=fun x y d hy=>by
    rw [z]at hy;cases hy;exact hc.Ct (s _ (avL d)) (s _ (avL z)) (lo i x g.1 b d)
   exact left.trans hc s right (by omega)
  ·subst b;exact right
theorem Rest.right{a p q e m:Nat}(hr:Rest c a p q e l)(hc:tT W c)(u:∀ r ∈ l,W r)(B:e≤l.length)(E:mq c p q m l)(hu:Up c (m+1) q l)(H:p≤m)(I:m<q)(J:q≤e):Rest c a p m e l:=by
 intro i j i1 A F K;by_cases d:p≤i∧j<q
 case neg=>exact hr i j i1 A F d
 obtain⟨v,s,lo,hi⟩:=E;rcases av5 i m with g | g | g
 ·have left:jH c l i m:=fun x y b hy=>by
   rw [s]at hy;cases hy;exact hc.Ct (u _ (avL b)) (u _ (avL s)) (lo i x d.1 g b)
  rcases awi (show m≤j by omega)with z | z
  ·have right:jH c l m j:=fun x y b hy=>by
    rw [s]at b;cases b;exact hi j y z d.2 hy
   exact left.trans hc u right (by omega)
  ·subst z;exact left
 ·subst g;intro x y b hy;rw [s]at b;cases b;exact hi j y A d.2 hy
 ·exact fun x y b hy=>hu i j x y (by omega) A d.2 b hy
theorem Rest.equal{a p q e m:Nat}{v:List FC}(hr:Rest c a p q e l)(hc:tT W c)(g:∀ r ∈ l,W r)(b:Fx c p q l)(F:0<p){w:List FC}(A:l[p-1]?=some w)(z:W v)(u:¬ c w v<0)
  (lo:∀(k:Nat) x,p≤k→k<m→l[k]?=some x→¬ c v x<0):Rest c a m q e l:=by
 intro i j i1 J K N;by_cases d:p≤i∧j<q
 case neg=>exact hr i j i1 J K d
 intro x y B hy;have s:i<m:=by omega
 have H:=lo i x d.1 s B;have I:=b j F (by omega) d.2 w y A hy
 have M:=g _ (avL B);have E:=g _ (avL hy);have L:=g _ (avL A);exact hc.trans M z E H (hc.trans z L E u I)
theorem mq.vZ{p q m g q':Nat}(H:mq c p q m l)(d:dU g q' l l')(h:(p≤g∧q'≤m)∨(m<g∧q'≤q))(s:g≤q')(B:q'≤l.length):mq c p q m l':=by
 obtain⟨v,E,lo,hi⟩:=H;refine⟨v,?_,fun k x u y b=>?_,fun k x u y b=>?_⟩
 ·rcases h with h | h
  ·rw [d.ge (by omega)];exact E
  ·rw [d.lt (by omega)];exact E
 ·by_cases j:g≤k∧k<q'
  ·obtain⟨k',a1,F,A⟩:=d.mem s B j.1 j.2 b;rcases h with h | h
   ·exact lo k' x (by omega) (by omega) A
   ·omega
  ·by_cases z:k<g
   ·rw [d.lt z]at b;exact lo k x u y b
   ·rw [d.ge (by omega)]at b;exact lo k x u y b
 ·by_cases j:g≤k∧k<q'
  ·obtain⟨k',a1,F,A⟩:=d.mem s B j.1 j.2 b;rcases h with h | h
   ·omega
   ·exact hi k' x (by omega) (by omega) A
  ·by_cases z:k<g
   ·rw [d.lt z]at b;exact hi k x u y b
   ·rw [d.ge (by omega)]at b;exact hi k x u y b
end
structure Pq(b n ep sz:Nat)(cv:V)(H:ai)(c:List FC→List FC→Int)(rows:List (List FC))(a e:Nat)(t:T)(H1:ai)(l:List (List FC))(p q:Nat)(lim:Int):Prop where
 g0:t.g 0=.c (.sl b 0 n 0 ep sz)
 g1:t.g 1=vi p
 g2:t.g 2=vi q
 g3:t.g 3=vi lim
 g4:t.g 4=cv
 fr:Fm b H H1
 rb:RB H1 b sz ep l
 sg:dU a e rows l
 re:Rest c a p q e l
 ap:a≤p
 pq:p≤q
 qe:q≤e
theorem Pq.au{b n ep sz:Nat}{cv:V}{H:ai}{c:List FC→List FC→Int}{rows:List (List FC)}{a e:Nat}{t:T}{j:ai}{l:List (List FC)}{p q:Nat}{g:Int}(h:Pq b n ep sz cv H c rows a e t j l p q g)
  {d:T} (m:d.g 0=t.g 0) (s:d.g 1=t.g 1) (u:d.g 2=t.g 2) (v:d.g 3=t.g 3) (x:d.g 4=t.g 4):Pq b n ep sz cv H c rows a e d j l p q g:=
 ⟨m.trans h.g0,s.trans h.g1,u.trans h.g2,v.trans h.g3,x.trans h.g4,h.fr,h.rb,h.sg,h.re,h.ap,h.pq,h.qe⟩
theorem Pq.vZ{b n ep sz:Nat}{cv:V}{H:ai}{c:List FC→List FC→Int}{rows:List (List FC)}{a e:Nat}{t:T}{m:ai}{l:List (List FC)}{p q:Nat}{d:Int}(h:Pq b n ep sz cv H c rows a e t m l p q d)
  {g:ai} {j:List (List FC)} (x:Fm b m g) (u:RB g b sz ep j) (s:dU p q l j) (v:e≤rows.length):Pq b n ep sz cv H c rows a e t g j p q d:=
 ⟨h.g0,h.g1,h.g2,h.g3,h.g4,h.fr.trans x,u,h.sg.trans (s.mono h.ap h.qe),h.re.vZ s h.pq (by rw [h.sg.len];exact avV h.qe v) h.ap h.qe,h.ap,h.pq,h.qe⟩
end
section
structure afN(tab:Nat→Option ax)(σ:bu)(sz:Nat):Prop where
 A5:tab σ.A5=some (Is σ sz)
 ins:tab σ.ins=some (yc σ sz)
 heap:tab σ.heap=some (z_ σ sz)
 vE:tab σ.vE=some (vF σ sz)
 brk:tab σ.brk=some (HC σ sz)
 piv:tab σ.piv=some (Iz σ sz)
 rev:tab σ.rev=some (IG σ sz)
 part:tab σ.part=some (Ay σ sz)
 Pc:tab σ.Pc=some (It σ sz)
 pins:tab σ.pins=some (AD σ sz)
 uV:tab σ.uV=some (uW σ sz)
 med:tab σ.med=some (yy σ sz)
 ord:tab σ.ord=some (vh σ sz)
 npt:tab σ.npt=some (Ie σ sz)
 O_:tab σ.O_=some (Ig σ sz)
section
variable{tab:Nat→Option ax}{σ:bu}{sz:Nat}{b ep n:Nat}{cv:V}{W:List FC→Prop}{c:List FC→List FC→Int}
theorem alO(hT:afN tab σ sz)(b7:Cv tab cv W c)(hc:tT W c)(hl:n≤1000000000)(d7:∀ L:Nat,L≤n→∃ k:Nat,Km.Pure tab σ.len [vu L]=Eq (vi k)∧k≤62∧(0<L→2 ^ k≤2*L)) :
  ∀(m a e:Nat) (H:ai) (rows:List (List FC)) (u:Int),e-a=m→a≤e→e≤n→rows.length=n→RB H b sz ep rows→bC sz rows→(∀ r ∈ rows,W r)→Fx c a e rows →
  ∃ r H',Ev tab (.fn σ.A5) [.c (.sl b 0 n 0 ep sz),vi a,vi e,vi u,cv] H r H'∧(r=.t []∧Fm b H H'∧∃ l',RB H' b sz ep l'∧dU a e rows l'∧Up c a e l'):=by
 intro m
 induction m using Nat.strongRecOn with
 | ind m IH=>
 intro a e H rows u hm d8 d_ hn k_ hg hW f_;have K:∀ {l p q},dU p q rows l→bC sz l:=fun h=>h.te hg
 have E:∀ {l p q},dU p q rows l→∀ r ∈ l,W r:=fun h r hr=>hW r (h.1.mem_iff.1 hr)
 refine da hT.A5 rfl fun Q hQ=>?_
 have done:∀ {M:ai} {l:List (List FC)},Fm b H M→RB M b sz ep l→dU a e rows l→Up c a e l→∀(j:Option aq) (t:T),Q j ⟨t,[],M⟩:=
  fun hf hr hs hu j t=>hQ _ _ (.t []) rfl rfl ⟨rfl,hf,_,hr,hs,hu⟩
 refine ag (ab (.inl rfl) ?_);simp;refine ag (ab (.inl rfl) ?_);simp;refine av ?_
 refine bw (fun m s=>∃(p q:Nat) (u:Int) (w1 w2:Bool) (t:T) (M:ai) (l:List (List FC)),s=⟨t,[],M⟩∧m=q-p∧Pq b n ep sz cv H c rows a e t M l p q u∧t.g 10=vb w1∧t.g 11=vb w2) _
  ⟨a,e,u,true,true,_,H,rows,rfl,rfl,⟨by simp,by simp,by simp,by simp,by simp,Fm.refl H,k_,dU.refl _ _ _,Rest.all c a e rows,aft _,d8,aft _⟩,by simp,by simp⟩ ?_
 rintro m1 s ⟨p,q,u,w1,w2,t,M,l,rfl,rfl,z,g10,N⟩ ih;obtain⟨S,U,O,g3,X,-,-,-,-,ap,pq,qe⟩:=id z;refine av ?_;refine ag (ab (.inl rfl) ?_);obtain⟨L,rfl⟩:∃ L,q=p+L:=⟨q-p,by omega⟩
 have hw:IntKind.i64.wrap ((p:Int)+L-p)=L:=by rw [wrap64 (by omega) (by omega)];omega
 have A:∀ {M t l u p q},Pq b n ep sz cv H c rows a e t M l p q u→l.length=n:=fun h=>h.sg.len.trans hn
 have b9:∀ {M t l u p q},Pq b n ep sz cv H c rows a e t M l p q u→Fx c p q l:=fun h=>h.re.low (f_.vZ h.sg (aft _) (aft _) d8 (by omega)) h.ap h.qe
 simp [U,O,hw];refine ag ?_;refine ag (ab (.inl rfl) ?_);simp;by_cases l7:L≤12
 ·refine aj (by simp;omega) ?_
  obtain⟨r,H2,B,rfl,f2,l2,r2,s2,u2⟩:=akD hT.ins b7 hc (A z) hl z.rb (K z.sg) (E z.sg) z.pq (by omega)
  refine ag (ab (.inl rfl) ?_);have B:=B.eq;simp at B;simp [S,U,O,X,B];have g:=z.vZ f2 r2 s2 (by omega)
  exact aA (done g.fr g.rb g.sg (g.re.up u2) _ _)
 refine ah (by simp;omega) (aB ?_)
 refine ag ?_;refine ag (ab (.inl rfl) ?_);simp [g3];by_cases e_:u=0
 ·refine aj (by simp [e_]) ?_
  obtain⟨r,H2,B,rfl,f2,l2,r2,s2,u2⟩:=agt hT.heap hT.vE b7 hc (A z) hl z.rb (K z.sg) (E z.sg) (show p<p+L by omega) (by omega)
  refine ag (ab (.inl rfl) ?_);have B:=B.eq;simp at B;simp [S,U,O,X,B];have g:=z.vZ f2 r2 s2 (by omega)
  exact aA (done g.fr g.rb g.sg (g.re.up u2) _ _)
 refine ah (by simp [e_]) (aB ?_)
 have j4:∀(t:T) (M:ai) (l:List (List FC)) (u:Int) (v:Nat),Pq b n ep sz cv H c rows a e t M l p (p+L) u→t.g 12=vi L→t.g 13=vi v→p≤v→v<p+L →
   WP tab σ.A5 none [.code (abw σ sz),.inBlock 1,.inLoop (yS σ sz),.inBlock 0] ⟨t,[],M⟩ Q:=by
  intro t M l u v z Y Z a8 a_;obtain⟨S,U,O,g3,X,-,-,-,-,-,-,-⟩:=id z;obtain⟨r,H2,B,mid,w,rfl,m1,m2,f2,l2,r2,s2,pt⟩:=ahn hT.part b7 (A z) hl z.rb (K z.sg) (E z.sg) (show p<p+L by omega) (by omega) a8 a_
  have B:=B.eq;simp at B;have g:=z.vZ f2 r2 s2 (by omega)
  have g_:=A g;obtain⟨d,hd⟩:∃ d,d=L / 8:=⟨_,rfl⟩
  have hq:bJ .quo (vi (L:Int)) (vi 8)=some (vi (d:Int)):=by
   have:=ahR (a:=L) (b:=8) (by omega) (by omega)
   rw [hd];exact this
  refine ag (ab (.inl rfl) ?_);simp [S,U,O,X,Z,B];refine ag (ab (.inl rfl) ?_);simp;refine ag (ab (.inl rfl) ?_);simp [U,O];refine ag (ab (.inl rfl) ?_);simp [Y,hq];refine ag ?_;refine ab (.inl rfl) ?_;simp [wrap64 (n:=(mid:Int)-p) (by omega) (by omega),wrap64 (n:=(p:Int)+L-mid) (by omega) (by omega)]
  by_cases l9:(mid:Int)-p<(p:Int)+L-mid
  ·refine aj (by simp;omega) ?_
   obtain⟨r,H3,B,rfl,f3,l3,r3,s3,u3⟩:=IH (mid-p) (by omega) p mid H2 l2 u rfl m1 (by omega) g_ r2 (K g.sg) (E g.sg) ((b9 g).mono (by omega))
   have B:=B.eq;have I:=g.vZ f3 r3 (s3.mono (aft _) (by omega)) (by omega)
   refine ag (ab (.inl rfl) ?_);simp;refine ag (ab (.inl rfl) ?_);simp [S,U,g3,X,B];refine ab (.inl rfl) ?_;simp [wrap64 (n:=(mid:Int)+1) (by omega) (by omega)]
   refine al (ih _ _ (by omega) ⟨mid+1,p+L,u,_,w,_,H3,l3,rfl,rfl,⟨by simp [S],by simp,by simp [O],by simp [g3],by simp [X],I.fr,I.rb,I.sg,?_,by omega,by omega,I.qe⟩,by simp;rfl,by simp⟩)
   exact I.re.left hc (E I.sg) (by rw [A I];exact d_) (pt.vZ s3 (.inl ⟨aft _,aft _⟩) m1 (by omega)) u3 m1 m2 I.qe
  ·refine ah (by simp;omega) ?_
   have h_:Fx c (mid+1) (p+L) l2:=fun k h0 k1 k2 x y hx hy=>by
    obtain⟨v,hv,lo,hi⟩:=pt;rw [show mid+1-1=mid by omega,hv]at hx;cases hx
    exact hi k y (by omega) k2 hy
   obtain⟨r,H3,B,rfl,f3,l3,r3,s3,u3⟩:=IH (p+L-(mid+1)) (by omega) (mid+1) (p+L) H2 l2 u rfl (by omega) (by omega) g_ r2 (K g.sg) (E g.sg) h_
   have B:=B.eq;simp at B;have I:=g.vZ f3 r3 (s3.mono (by omega) (aft _)) (by omega)
   refine ag (ab (.inl rfl) ?_);simp;refine ag (ab (.inl rfl) ?_);simp [S,O,g3,X,B,wrap64 (n:=(mid:Int)+1) (by omega) (by omega)]
   refine ab (.inl rfl) ?_;simp;refine al (ih _ _ (by omega) ⟨p,mid,u,_,w,_,H3,l3,rfl,rfl,⟨by simp [S],by simp [U],by simp,by simp [g3],by simp [X],I.fr,I.rb,I.sg,?_,by omega,by omega,by omega⟩,by simp;rfl,by simp⟩)
   exact I.re.right hc (E I.sg) (by rw [A I];exact d_) (pt.vZ s3 (.inr ⟨by omega,aft _⟩) (by omega) (by omega)) u3 m1 m2 I.qe
 have c9:∀(t:T) (M:ai) (l:List (List FC)) (u:Int) (v:Nat) (w1 w2:Bool),Pq b n ep sz cv H c rows a e t M l p (p+L) u→t.g 12=vi L→t.g 13=vi v→t.g 10=vb w1→t.g 11=vb w2→p≤v→v<p+L →
   WP tab σ.A5 none [.code (abv σ sz),.inBlock 1,.inLoop (yS σ sz),.inBlock 0] ⟨t,[],M⟩ Q:=by
  intro t M l u v w1 w2 z Y Z g10 N a8 a_;obtain⟨S,U,O,g3,X,-,-,-,-,-,-,-⟩:=id z;refine ag ?_;refine ag (ab (.inl rfl) ?_);rcases awk p with c_ | c_
  ·simp [U,c_];refine ah (by simp) (aB ?_)
   exact j4 _ M l u v (z.au (by simp [S]) (by simp [U,c_]) (by simp [O]) (by simp [g3]) (by simp [X])) (by simp [Y]) (by simp [Z]) a8 a_
  obtain⟨d,rfl⟩:∃ d,p=d+1:=⟨p-1,by omega⟩
  have j_:(0:Int)<(d:Int)+1:=by omega
  have c1:((d+1:Nat):Int)=(d:Int)+1:=by omega
  have c2:((d+1+L:Nat):Int)=(d:Int)+1+L:=by omega
  obtain⟨x,y,F,ar,J,hx,hy,i1,j1,l1,l2,d9,B,wx,wy⟩:=z.rb.ask (K z.sg) b7 (E z.sg) (A z) (i:=d) (j:=v) (by omega) (by omega)
  have d6:t.g 1=vi ((d:Int)+1):=by rw [U,c1]
  simp [S,d6,X,Z,j_,i1,j1,l1,l2,d9,B,-an,wrap64 (n:=(d:Int)) (by omega) (by omega)]
  have b_:Pq b n ep sz cv H c rows a e t (M++J) l (d+1) (d+1+L) u:=z.vZ (Fm.push _ _) (z.rb.push _) (dU.refl _ _ _) (by omega)
  by_cases d5:c x y<0
  ·refine ah (by simp [d5]) (aB ?_)
   exact j4 _ _ l u v (b_.au (by simp [S]) (by simp [U]) (by simp [O]) (by simp [g3]) (by simp [X])) (by simp [Y]) (by simp [Z]) a8 a_
  refine aj (by simp [d5]) ?_
  obtain⟨r,H2,B,mid,rfl,m1,m2,f2,l2,r2,s2,lo,hi⟩:=al0 hT.Pc b7 hc (A b_) hl b_.rb (K b_.sg) (E b_.sg) (show d+1<d+1+L by omega) (by omega) a8 a_ hy
  have B:=B.eq;have g:=b_.vZ f2 r2 s2 (by omega)
  rw [c1,c2]at B;rw [c2]at O;refine ag (ab (.inl rfl) ?_);simp [S,d6,O,X,Z,B];refine ag (ab (.inl rfl) ?_);simp;refine aT (k':=[.inLoop (yS σ sz),.inBlock 0]) rfl ?_;refine ih _ _ (by omega) ⟨mid,d+1+L,u,w1,w2,_,H2,l2,rfl,rfl,⟨by simp [S],by simp,by simp [O],by simp [g3],by simp [X],g.fr,g.rb,g.sg,?_,by omega,by omega,g.qe⟩,by simp [g10],by simp [N]⟩
  refine g.re.equal hc (E g.sg) (b9 g) (by omega) (w:=x) (v:=y) ?_ wy d5 lo
  rw [show d+1-1=d by omega,s2.lt (by omega)];exact hx
 have j3:∀(t:T) (M:ai) (l:List (List FC)) (u:Int) (v:Nat) (w1 w2:Bool) (hint:Int),Pq b n ep sz cv H c rows a e t M l p (p+L) u→t.g 12=vi L→t.g 13=vi v→t.g 14=vi hint→t.g 10=vb w1→t.g 11=vb w2→p≤v→v<p+L →
   WP tab σ.A5 none [.code (abu σ sz),.inBlock 1,.inLoop (yS σ sz),.inBlock 0] ⟨t,[],M⟩ Q:=by
  intro t M l u v w1 w2 hint z Y Z j7 g10 N a8 a_;obtain⟨S,U,O,g3,X,-,-,-,-,-,-,-⟩:=id z;refine ag ?_;refine ag (ab (.inl rfl) ?_)
  cases w1 with
  | false=>
   simp [g10];refine ah (by simp) (aB ?_)
   exact c9 _ _ l u v false w2 (z.au (by simp [S]) (by simp [U]) (by simp [O]) (by simp [g3]) (by simp [X])) (by simp [Y]) (by simp [Z]) (by simp [g10]) (by simp [N]) a8 a_
  | true=>
  cases w2 with
  | false=>
   simp [g10,N];refine ah (by simp) (aB ?_)
   exact c9 _ _ l u v true false (z.au (by simp [S]) (by simp [U]) (by simp [O]) (by simp [g3]) (by simp [X])) (by simp [Y]) (by simp [Z]) (by simp [g10]) (by simp [N]) a8 a_
  | true=>
  simp [g10,N,j7];by_cases h1:hint=1
  case neg=>
   refine ah (by simp [h1]) (aB ?_)
   exact c9 _ _ l u v true true (z.au (by simp [S]) (by simp [U]) (by simp [O]) (by simp [g3]) (by simp [X])) (by simp [Y]) (by simp [Z]) (by simp [g10]) (by simp [N]) a8 a_
  refine aj (by simp [h1]) ?_
  obtain⟨r,H2,B,w,rfl,f2,l2,r2,s2,u2⟩:=ahN hT.pins b7 hc (A z) hl z.rb (K z.sg) (E z.sg) (show p<p+L by omega) (by omega) (b9 z)
  have B:=B.eq;simp at B;have g:=z.vZ f2 r2 s2 (by omega)
  refine ag (ab (.inl rfl) ?_);simp [S,U,O,X,B]
  cases w with
  | true=>
   refine aj (by simp) ?_
   exact aA (done g.fr g.rb g.sg (g.re.up (u2 rfl)) _ _)
  | false=>
   refine ah (by simp) (aB ?_)
   exact c9 _ _ l2 u v true true (g.au (by simp [S]) (by simp [U]) (by simp [O]) (by simp [g3]) (by simp [X])) (by simp [Y]) (by simp [Z]) (by simp [g10]) (by simp [N]) a8 a_
 have i_:∀(t:T) (M:ai) (l:List (List FC)) (u:Int) (w1 w2:Bool),Pq b n ep sz cv H c rows a e t M l p (p+L) u→t.g 12=vi L→t.g 10=vb w1→t.g 11=vb w2 →
   WP tab σ.A5 none [.code (abt σ sz),.inBlock 1,.inLoop (yS σ sz),.inBlock 0] ⟨t,[],M⟩ Q:=by
  intro t M l u w1 w2 z Y g10 N;obtain⟨S,U,O,g3,X,-,-,-,-,-,-,-⟩:=id z;obtain⟨r,H2,B,⟨v,hint,rfl,v1,v2⟩,kp⟩:=amf hT.piv hT.uV hT.med hT.ord b7 (A z) hl z.rb (K z.sg) (E z.sg) (show p+8≤p+L by omega) (by omega)
  have B:=B.eq;simp at B;have g:Pq b n ep sz cv H c rows a e t H2 l p (p+L) u:=z.vZ kp.fm (kp.rb z.rb) (dU.refl _ _ _) (by omega)
  refine ag (ab (.inl rfl) ?_);simp [S,U,O,X,B];refine ag ?_;refine ag (ab (.inl rfl) ?_);simp;by_cases h2:hint=2
  case neg=>
   refine ah (by simp [h2]) (aB ?_)
   exact j3 _ _ l u v w1 w2 hint (g.au (by simp [S]) (by simp [U]) (by simp [O]) (by simp [g3]) (by simp [X])) (by simp [Y]) (by simp) (by simp) (by simp [g10]) (by simp [N]) v1 v2
  refine aj (by simp [h2]) ?_
  obtain⟨r,H3,B,rfl,f3,l3,r3,s3⟩:=amo hT.rev (cv:=cv) (A g) hl g.rb (K g.sg) (show p<p+L by omega) (by omega)
  have B:=B.eq;simp at B;have I:=g.vZ f3 r3 s3 (by omega)
  refine ag (ab (.inl rfl) ?_);simp [S,U,O,X,B];refine ag (ab (.inl rfl) ?_);simp [U,O,wrap64 (n:=(p:Int)+L-1) (by omega) (by omega),wrap64 (n:=(v:Int)-p) (by omega) (by omega),wrap64 (n:=(p:Int)+L-1-(v-p)) (by omega) (by omega)]
  refine ab (.inl rfl) ?_;simp;exact j3 _ _ l3 u (p+L-1-(v-p)) w1 w2 1 (I.au (by simp [S]) (by simp [U]) (by simp [O]) (by simp [g3]) (by simp [X])) (by simp [Y]) (by simp;omega) (by simp) (by simp [g10]) (by simp [N]) (by omega) (by omega)
 refine ag ?_;refine ag (ab (.inl rfl) ?_);simp [g10]
 cases w1 with
 | true=>
  refine ah (by simp) (aB ?_)
  exact i_ _ _ l u true w2 (z.au (by simp [S]) (by simp [U]) (by simp [O]) (by simp [g3]) (by simp [X])) (by simp) (by simp [g10]) (by simp [N])
 | false=>
  refine aj (by simp) ?_
  obtain⟨k,hk,j8,j9⟩:=d7 L (by omega)
  obtain⟨r,H2,B,rfl,f2,l2,r2,s2⟩:=aj5 (cv:=cv) hT.brk hT.O_ hT.npt hk j8 (j9 (by omega)) (A z) hl z.rb (K z.sg) (a:=p) (by omega) (by omega)
  have B:=B.eq;simp at B;have g:=z.vZ f2 r2 s2 (by omega)
  refine ag (ab (.inl rfl) ?_);simp [S,U,O,X,B];refine ab (.inl rfl) ?_;simp [g3];exact i_ _ _ l2 _ false w2 ⟨by simp [S],by simp [U],by simp [O],by simp;rfl,by simp [X],g.fr,g.rb,g.sg,g.re,g.ap,g.pq,g.qe⟩ (by simp) (by simp [g10]) (by simp [N])
end
end
section
def sort_1:aq:=.region [⟨D 5,.bf (R 0),none⟩,⟨D 6,.len (R 5),none⟩,⟨D 4,.bf (R 6),none⟩] []
def amu(σ:bu):aq:=.region [⟨D 7,.bf (R 0),none⟩,⟨D 8,.bf (R 4),none⟩,⟨D 9,.bf (R 4),none⟩,⟨D 10,.ek .u64 (R 9),none⟩,⟨D 11,.call σ.len [(R 10)] false,none⟩,⟨D 12,.bf (R 1),none⟩,⟨D 13,.call σ.A5 [(R 7),(.k (.c (.f (.int .i64 0)))),(R 8),(R 11),(R 12)] true,none⟩] []
def GY(σ:bu):ax:=⟨[P.nat 0,P.nat 1],[],.seq sort_1 (amu σ)⟩
section
variable{tab:Nat→Option ax}{σ:bu}{sz:Nat}{cv:V}{W:List FC→Prop}{c:List FC→List FC→Int}{N:Nat}
def aiI(tab:Nat→Option ax)(σ:bu)(N:Nat):Prop:=∀ L:Nat,L≤N→∃ k:Nat,Km.Pure tab σ.len [vu L]=Eq (vi k)∧k≤62∧(0<L→2 ^ k≤2*L)
theorem agC(g:tab σ.ins=some (yc σ sz)){H:ai}{v:V}:Ev tab (.fn σ.ins) [v,vi 0,vi 0,cv] H (.t []) H:=by
 obtain⟨r,b,j,rfl,rfl⟩:∃ r b,Ev tab (.fn σ.ins) [v,vi 0,vi 0,cv] H r b∧(r=.t []∧b=H):=by
  refine da g rfl fun Q d=>?_
  refine ag (ab (.inl rfl) ?_);simp [wrap64 (n:=(1:Int)) (by omega) (by omega)]
  refine av ?_;refine bw (fun _ s=>s=⟨_,[],H⟩) 0 rfl ?_
  rintro _ s rfl -;refine ag ?_;refine ag (ab (.inl rfl) ?_);simp;refine ah (by simp) ?_
  refine aT (k':=[]) rfl ?_;exact iY (d _ _ _ rfl rfl ⟨rfl,rfl⟩)
 exact j
theorem ahp(l:tab σ.A5=some (Is σ sz))(g:tab σ.ins=some (yc σ sz)){H:ai}{v:V}{b:Int}:Ev tab (.fn σ.A5) [v,vi 0,vi 0,vi b,cv] H (.t []) H:=by
 have hi:=(agC (σ:=σ) (sz:=sz) (cv:=cv) g (H:=H) (v:=v)).eq
 obtain⟨r,d,m,rfl,rfl⟩:∃ r d,Ev tab (.fn σ.A5) [v,vi 0,vi 0,vi b,cv] H r d∧(r=.t []∧d=H):=by
  refine da l rfl fun Q j=>?_
  refine ag (ab (.inl rfl) ?_);simp;refine ag (ab (.inl rfl) ?_);simp;refine av ?_;refine bw (fun _ s=>s=⟨_,[],H⟩) 0 rfl ?_
  rintro _ s rfl -;refine av ?_;refine ag (ab (.inl rfl) ?_);simp [wrap64 (n:=(0:Int)) (by omega) (by omega)]
  refine ag ?_;refine ag (ab (.inl rfl) ?_);simp;refine aj (by simp) ?_
  refine ag (ab (.inl rfl) ?_);simp [hi];exact aA (j _ _ _ rfl rfl ⟨rfl,rfl⟩)
 exact m
theorem IX{F:Nat}(E:tab F=some (GY σ))(q:afN tab σ sz)(s:Cv tab cv W c)(K:tT W c)(Y:N≤1000000000)(g:aiI tab σ N){H:ai}{v:C}{rows:List (List FC)}(hr:LR H v sz rows)(S:rows.length≤N)(M:bC sz rows)(J:∀ r ∈ rows,W r) :
  ∃ r d,Ev tab (.fn F) [.c v,cv] H r d∧(r=.t []∧Kb H d v∧∃ l',LR d v sz l'∧l'.Perm rows∧Up c 0 l'.length l'):=by
 obtain⟨k,O,-,-⟩:=g rows.length S;have z:IntKind.wrap .u64 (rows.length:Int)=rows.length:=by rw [za];omega
 obtain⟨r,d,j,rfl,u,l',A,m,B⟩:∃ r d,Ev tab (.fn σ.A5) [.c v,vi 0,vi rows.length,vi k,cv] H r d∧(r=.t []∧Kb H d v∧∃ l',LR d v sz l'∧l'.Perm rows∧Up c 0 l'.length l'):=by
  rcases hr with⟨rfl,h⟩ | ⟨x,b,ep,rfl,m⟩
  ·exact⟨_,_,ahp q.A5 q.ins,rfl,⟨aft _,fun i y l _=>l⟩,[],.inl ⟨rfl,h⟩,.refl _,Up.one (by simp)⟩
  ·obtain⟨r,d,j,rfl,f,l',r',s',U⟩:=alO q s K (n:=rows.length) (by omega) (fun L X=>g L (by omega)) _ 0 rows.length H rows k rfl (by omega) (aft _) rfl m M J (fun k h=>absurd h (by omega))
   refine⟨_,_,j,rfl,⟨f.1,fun i y l hi=>?_⟩,l',.inr ⟨?_,b,ep,by rw [s'.len],r'⟩,s'.1,by rw [s'.len];exact U⟩
   ·rw [f.2 i (fun e=>hi (by rw [e];rfl)) (ak l)];exact l
   ·rintro rfl;have:=s'.len;exact x (List.length_eq_zero_iff.1 this.symm)
 have j:=j.eq;refine da E rfl fun Q I=>?_
 refine ag (ab (.inl rfl) ?_);simp [hr.len];refine ab (.inl rfl) ?_;simp [z,O,j];exact iY (I _ _ (.t []) rfl rfl ⟨rfl,u,l',A,m,B⟩)
end
end
section
set_option linter.unusedVariables false
def aj8(sz:Nat):aq:=.region [⟨D 32,.bf (R 11),none⟩,⟨D 33,.bin .add (R 32) (.k (.c (.f (.int .i64 1)))),none⟩,⟨D 9,.bf (R 33),none⟩] []
def aj9(sz:Nat):aq:=.region [⟨D 34,.bf (R 11),none⟩,⟨D 10,.bf (R 34),none⟩] []
def aj7(sz:Nat):aq:=.seq (.region [⟨D 24,.bf (R 2),none⟩,⟨D 25,.bf (R 0),none⟩,⟨D 26,.bf (R 11),none⟩,⟨D 27,.aP sz none (R 25) (R 26),none⟩,⟨D 28,.load (some sz) (R 27),none⟩,⟨D 29,.bf (R 1),none⟩,⟨D 30,.bR (R 24) [(R 28),(R 29)] true,none⟩,⟨D 31,.bin .lss (R 30) (.k (.c (.f (.int .i64 0)))),none⟩] []) (.cond (R 31) (aj8 sz) (aj9 sz))
def aj6(sz:Nat):aq:=.seq (.region [⟨D 18,.bf (R 9),none⟩,⟨D 19,.bf (R 10),none⟩,⟨D 20,.bin .add (R 18) (R 19),none⟩,⟨D 21,.ek .u64 (R 20),none⟩,⟨D 22,.bin .shr (R 21) (.k (.c (.f (.int .u64 1)))),none⟩,⟨D 23,.ek .i64 (R 22),none⟩,⟨D 11,.bf (R 23),none⟩] []) (aj7 sz)
def aoZ(sz:Nat):aq:=.seq (.seq (.region [⟨D 15,.bf (R 9),none⟩,⟨D 16,.bf (R 10),none⟩,⟨D 17,.bin .lss (R 15) (R 16),none⟩] []) (.cond (R 17) .skip (.exit 0))) (.block 1 (aj6 sz))
def aj'(sz:Nat):aq:=.seq (.region [⟨D 35,.bf (R 9),none⟩,⟨D 36,.bf (R 9),none⟩,⟨D 37,.bf (R 8),none⟩,⟨D 38,.bin .lss (R 36) (R 37),none⟩,⟨D 39,.bf (R 38),none⟩,⟨D 40,.bf (R 2),G 39 true⟩,⟨D 41,.bf (R 0),G 39 true⟩,⟨D 42,.bf (R 9),G 39 true⟩,⟨D 43,.aP sz none (R 41) (R 42),G 39 true⟩,⟨D 44,.load (some sz) (R 43),G 39 true⟩,⟨D 45,.bf (R 1),G 39 true⟩,⟨D 46,.bR (R 40) [(R 44),(R 45)] true,G 39 true⟩,⟨D 47,.bin .eql (R 46) (.k (.c (.f (.int .i64 0)))),G 39 true⟩,⟨D 48,.pick (R 39) (R 47) (.k (.c (.f (.bool false)))),none⟩,⟨D 6,.bf (R 35),none⟩,⟨D 7,.bf (R 48),none⟩] []) .ret
def aoY(sz:Nat):aq:=.seq (.block 0 (.loop (aoZ sz))) (aj' sz)
def aoX(sz:Nat):aq:=.seq (.region [⟨D 14,.bf (R 8),none⟩,⟨D 9,.bf (.k (.c (.f (.int .i64 0)))),none⟩,⟨D 10,.bf (R 14),none⟩] []) (aoY sz)
def aoW(sz:Nat):aq:=.seq (.region [⟨D 12,.bf (R 0),none⟩,⟨D 13,.len (R 12),none⟩,⟨D 8,.bf (R 13),none⟩] []) (aoX sz)
def aoV(sz:Nat):aq:=.seq (.region [⟨D 6,.bf (.k (.c (.f (.int .i64 0)))),none⟩,⟨D 7,.bf (.k (.c (.f (.bool false)))),none⟩] []) (aoW sz)
def aae(sz:Nat):ax:=⟨[P.nat 0,P.nat 1,P.nat 2],[.tmp (P.nat 6),.tmp (P.nat 7)],(aoV sz)⟩
section
variable{tab:Nat→Option ax}{sz:Nat}
theorem aaf{F:Nat}(hF:tab F=some (aae sz))(g:Tg)(rows:List (List FC))(hg:bC sz rows)(cv:V)(x:FC)(s:List FC→Int)(hl:rows.length≤1000000000)
  (U:∀ r ∈ rows,∃ G l,bP cv [.a (r.map .f),.c (.f x)]=some (.fn G,l)∧Kf tab G l (vi (s r)))
  (hp:∀(i j:Nat) (hi:i<j) (u:j<rows.length),0≤s rows[i]→0<s rows[j]) :
  ∃ i:Nat,i≤rows.length∧(∀ j (u:j<rows.length),j<i→s rows[j]<0)∧(∀ j (u:j<rows.length),i≤j→0≤s rows[j]) ∧
   ∃ w:Bool,(w=true↔∃ h:i<rows.length,s rows[i]=0)∧Km.Pure tab F [.c (.f (sl g rows)),.c (.f x),cv]=Eq (.t [vi i,vb w]):=by
 obtain⟨r,⟨i,h1,h2,N,w,h4,rfl⟩,h⟩:∃ r,(∃ i:Nat,i≤rows.length∧(∀ j (u:j<rows.length),j<i→s rows[j]<0)∧(∀ j (u:j<rows.length),i≤j→0≤s rows[j])∧∃ w:Bool,(w=true↔∃ h:i<rows.length,s rows[i]=0)∧r=.t [vi i,vb w]) ∧
   Km.Pure tab F [.c (.f (sl g rows)),.c (.f x),cv] r:=by
  refine ca hF rfl fun Q hQ=>?_
  have ask:∀(q:Nat) (M:q<rows.length) (H:ai),∃ G l J,aG H sz none (.c (.f (sl g rows))) (vi q)=some (.c (.f (.fp rows.flatten (q*sz))))∧aQ H (some sz) (.c (.f (.fp rows.flatten (q*sz))))=some (.a (rows[q].map .f))∧bP cv [.a (rows[q].map .f),.c (.f x)]=some (.fn G,l)∧Ev tab (.fn G) l H=E2 (vi (s rows[q])) (H++J):=by
   intro q M H;obtain⟨G,l,c1,c2⟩:=U rows[q] (List.getElem_mem M);obtain⟨J,c3⟩:=c2 H;have hi:=cT (H:=H) (g:=g) (rows:=rows) (sz:=sz) (k:=.i64) (i:=(q:Int)) (by omega) (by omega)
   rw [av2]at hi;exact⟨G,l,J,hi,fk hg (AI M),c1,c3.eq⟩
  refine ag (ab (.inl rfl) ?_);simp;refine ag (ab (.inl rfl) ?_);simp;refine ag (ab (.inl rfl) ?_);simp;refine ag ?_;refine av ?_
  refine bw (fun m s'=>∃(lo hi:Nat) (t:T) (H:ai),s'=⟨t,[],H⟩∧m=hi-lo∧lo≤hi∧hi≤rows.length∧t.g 0=.c (.f (sl g rows))∧t.g 1=.c (.f x)∧t.g 2=cv∧t.g 8=vi rows.length∧t.g 9=vi lo∧t.g 10=vi hi ∧
   (∀ j (u:j<rows.length),j<lo→s rows[j]<0)∧(∀ j (u:j<rows.length),hi≤j→0≤s rows[j])) rows.length
   ⟨0,rows.length,_,_,rfl,by omega,by omega,by omega,by simp,by simp,by simp,by simp,by simp,by simp,by simp,by intros;omega⟩ ?_
  rintro m s' ⟨lo,hi,t,H,rfl,rfl,a8,A,E,I,K,L,z,g10,y,v⟩ next;refine ag ?_;refine ag (ab (.inl rfl) ?_);simp [z,g10];by_cases X:lo<hi
  ·refine aj (by simp [X]) (aB ?_)
   obtain⟨q,M⟩:∃ q,q=(lo+hi) / 2:=⟨_,rfl⟩;have B:q<rows.length:=by omega
   have e1:bJ BinOp.shr (V.c (C.f (FC.int IntKind.u64 (IntKind.u64.wrap ((lo:Int)+hi))))) (V.c (C.f (FC.int IntKind.u64 1)))=some (.c (.f (.int .u64 (q:Int)))):=by
    have:IntKind.u64.wrap ((lo:Int)+hi)=(lo:Int)+hi:=by
     show((lo:Int)+hi) % 18446744073709551616=_
     omega
    rw [this]
    show some (V.c (C.f (FC.int IntKind.u64 (Int.fdiv ((lo:Int)+hi) (2 ^ (min (1:Int).toNat IntKind.u64.bits))))))=_
    have N:Int.fdiv ((lo:Int)+hi) (2 ^ (min (1:Int).toNat IntKind.u64.bits))=q:=by
     show Int.fdiv ((lo:Int)+hi) 2=q
     rw [Int.fdiv_eq_ediv_of_nonneg _ (by omega)];omega
    rw [N]
   have hw:IntKind.i64.wrap ((lo:Int)+hi)=(lo:Int)+hi:=wrap64 (by omega) (by omega)
   have Y:IntKind.i64.wrap (q:Int)=q:=wrap64 (by omega) (by omega)
   obtain⟨G,l,J,i1,Z,b,W⟩:=ask q B H;refine av ?_;refine ag (ab (.inl rfl) ?_);simp [z,g10,hw,e1,Y];refine ag (ab (.inl rfl) ?_);simp [E,I,K,i1,Z,b,W];by_cases S:s rows[q]<0
   ·refine aj (by simp [S]) ?_
    refine ab (.inl rfl) ?_;simp [wrap64 (n:=(q:Int)+1) (by omega) (by omega)]
    refine al (next (hi-(q+1)) _ (by omega) ⟨q+1,hi,_,_,rfl,rfl,by omega,by omega,by simp [E],by simp [I],by simp [K],by simp [L],by simp,by simp [g10],fun j u h=>?_,v⟩)
    rcases Int.lt_or_le (s rows[j]) 0 with O | O
    ·exact O
    ·by_cases e:j=q
     ·subst e;exact S
     ·have:=hp j q (by omega) B O;omega
   ·refine ah (by simp [S]) ?_
    refine ab (.inl rfl) ?_;simp;refine al (next (q-lo) _ (by omega) ⟨lo,q,_,_,rfl,rfl,by omega,by omega,by simp [E],by simp [I],by simp [K],by simp [L],by simp [z],by simp,y,fun j u h=>?_⟩)
    by_cases e:j=q
    ·subst e;omega
    ·have:=hp q j (by omega) u (by omega);omega
  ·have:lo=hi:=by omega
   subst this;refine ah (by simp) ?_
   refine aT rfl ?_;refine ag (ab (.inl rfl) ?_);by_cases d:lo<rows.length
   ·obtain⟨G,l,J,i1,Z,b,W⟩:=ask lo d H;simp [E,I,K,L,z,d,i1,Z,b,W];refine aA (hQ _ _ _ ⟨lo,A,y,v,decide (s rows[lo]=0),by simp [d],rfl⟩ ?_)
    simp
   ·simp [L,z,d];refine aA (hQ _ _ _ ⟨lo,A,y,v,false,by simp [d],rfl⟩ ?_)
    simp
 exact⟨i,h1,h2,N,w,h4,Km.Pure.eq h⟩
end
end
end Km
