/-
  Our own small machine for Go code by value, held ph the model: part 5. No program in AJ.
-/
import Derived.Test.YthkmdpgdicohdaaGreatK4
open Option renaming some → aa,none → ab
open Bool renaming true → ae,false → ag
open Option.some renaming inj → adz
open List renaming mem_of_getElem? → acI
open Nat renaming le_refl → IT, eq_zero_or_pos → adX, pow_le_pow_right → aeo, le_trans → acT, lt_trichotomy → adn
set_option linter.unusedVariables false
set_option linter.constructorNameAsVariable false
set_option linter.unusedSimpArgs false
set_option linter.unusedSectionVars false
set_option maxRecDepth 100000
namespace Km
open Go
section
variable{tab:Nat→Option aw}{σ:gP}{sz:Nat}{cv:V}{W:List FC→Prop}{c:List FC→List FC→Int}
def Ck(c:List FC→List FC→Int)(a i j e:Nat)(p:List FC)(l:List (List FC)):Prop:=
 l[a]?=aa p∧(∀(k:Nat) x,a<k→k<i→l[k]?=aa x→¬ c p x<0)∧(∀(k:Nat) x,j<k→k<e→l[k]?=aa x→c p x<0)
theorem Ck.swap{a i j e:Nat}{p:List FC}{l:List (List FC)}(h:Ck c a i j e p l)(y:a<i)(A:i<j)(d:j<l.length)(z:∀ x,l[i]?=aa x→c p x<0)(B:∀ x,l[j]?=aa x→¬ c p x<0):Ck c a (i+1) (j-1) e p (fO l i j):=by
 obtain⟨s,u,v⟩:=h;have g:∀ k,(fO l i j)[k]?=if k=j then l[i]? else if k=i then l[j]? else l[k]?:=fun k=>fj (by omega) d k;refine⟨?_,fun k x m q b=>?_,fun k x m q b=>?_⟩
 ·rw [g,aU (by omega),aU (by omega)];exact s
 ·rw [g,aU (by omega)]at b;by_cases e:k=i
  ·rw [bf e]at b;exact B x b
  ·rw [aU e]at b;exact u k x m (by omega) b
 ·rw [g]at b;by_cases e:k=j
  ·rw [bf e]at b;exact z x b
  ·rw [aU e,aU (by omega)]at b;exact v k x (by omega) q b
theorem VX{H:aj}{rows:List (List FC)}{n a e v b ep:Nat}{p:List FC}(hT:tab σ.K5=aa (K9 σ sz))(a8:Cv tab cv W c)(b_:ru W c)(hn:rows.length=n)(hl:n≤1000000000)(g:RB H b sz ep rows)(hg:bC sz rows)(hW:∀ r ∈ rows,W r)(c9:a<e)(a_:e≤n)(c_:a≤v)(d8:v<e)(F:rows[v]?=aa p) :
  ∃ r H',Ev tab (.fn σ.K5) [.c (.sl b 0 n 0 ep sz),vi a,vi e,vi v,cv] H r H'∧((∃(m:Nat),r=vi m∧a<m∧m≤e∧Fm b H H'∧∃ l',RB H' b sz ep l'∧dG a e rows l'∧(∀(k:Nat) x,a≤k→k<m→l'[k]?=aa x→¬ c p x<0)∧(∀(k:Nat) x,m≤k→k<e→l'[k]?=aa x→c p x<0))):=by
 refine dy hT rfl fun Q hQ=>?_;obtain⟨d,rfl⟩:∃ d,e=d+1:=⟨e-1,by omega⟩
 obtain⟨x,p',H1,H2,I,b7,i1,j1,l1,l2,w1,w2,s1,j2,s2,r2,f2⟩:=g.fO hg hn (i:=a) (j:=v) (by omega) (by omega);obtain rfl:p=p':=by rw [F]at b7;exact adz b7
 have Y:¬ c p p<0:=fun h=>b_.x4 (hW _ (acI F)) (hW _ (acI F)) h h;have c8:dG a (d+1) rows (fO rows a v):=dY (by omega) (by omega) (by omega) (by omega) (by omega);have c7:Ck c a (a+1) d (d+1) p (fO rows a v):=by
  refine⟨?_,fun k x o M=>by omega,fun k x o M=>by omega⟩;rw [fj (by omega) (by omega)];by_cases e:a=v
  ·rw [bf e,e];exact F
  ·rw [aU e,bf rfl];exact F
 apply ai;simp;apply ai;simp [i1,j1,l1,l2,w1,w2,s1,j2,s2,-aP,-bZ];apply ai;simp [aK (n:=(a:Int)+1),aK (n:=(d:Int))];apply aq;have A:∀ {l},dG a (d+1) rows l→bC sz l:=fun h=>h.o9 hg;have S:∀ {l},dG a (d+1) rows l→∀ r ∈ l,W r:=fun h r hr=>hW r (h.1.mem_iff.1 hr);refine aB ?_;refine bu (fun m s=>∃(i j:Nat) (t:T) (H1:aj) (l:List (List FC)),s=⟨t,[],H1⟩∧m=j+1-i∧a<i∧i≤j+1∧j<d+1∧t.g 0=.c (.sl b 0 n 0 ep sz)∧t.g 1=vi a∧t.g 4=cv∧t.g 11=vi i∧t.g 12=vi j ∧
   Fm b H H1∧RB H1 b sz ep l∧dG a (d+1) rows l∧Ck c a i j (d+1) p l) _
  ⟨a+1,d,_,H2,_,rfl,rfl,by omega,by omega,by omega,by simp,by simp,by simp,by simp,by simp,f2,r2,c8,c7⟩ ?_
 rintro m s ⟨i,j,t,H1,l,rfl,rfl,b9,c4,c6,w,g1,g4,O,U,y,g,u,E⟩ ih;have B:=u.len;refine aB ?_;apply aq;refine VY a8 (B.trans hn) hl (A u) (S u) (i:=i) (j:=j) (e:=d+1) (H0:=H) b9 c4 c6 a_ E.1 w g1 g4 O U y g ?_;intro t H3 J d5 X Z w g1 g4 O U y g;apply aq;refine VW a8 (B.trans hn) hl (A u) (S u) (i:=J) (j:=j) (e:=d+1) (H0:=H) (by omega) (by omega) (by omega) a_ E.1 w g1 g4 O U y g ?_;intro t H4 f d6 K L w g1 g4 O U y g;have N:Ck c a J f (d+1) p l:=⟨E.1,fun k x o M I=>by
   by_cases hk:k<i
   ·exact E.2.1 k x o hk I
   ·exact X k x (by omega) M I,fun k x o M I=>by
   by_cases hk:j<k
   ·exact E.2.2 k x hk M I
   ·exact K k x o (by omega) I⟩
 apply aq;apply ai;simp [O,U];by_cases b6:f<J
 ·refine an (by simp [b6]) ?_;refine ba (k':=[.code (K8)]) rfl ?_;apply ai;simp [O];refine aG (hQ _ _ (vi J) rfl (by simp [Km.results,aY]) ⟨J,rfl,by omega,by omega,y,l,g,u,fun q z o M hz=>?_,fun q z o M hz=>N.2.2 q z (by omega) M hz⟩);by_cases e:q=a
  ·rw [e,N.1]at hz;cases hz;exact Y
  ·exact N.2.1 q z (by omega) M hz
 refine bg (by simp [b6]) ?_;have ni:∀ x,l[J]?=aa x→c p x<0:=by
  rcases Z with h | h
  ·omega
  ·exact fun x I=>Classical.not_not.1 (h x I)
 have nj:∀ x,l[f]?=aa x→¬ c p x<0:=by
  rcases L with h | h
  ·omega
  ·exact h
 have d7:J≠f:=by
  rintro rfl;have I:=List.getElem?_eq_getElem (l:=l) (i:=J) (by omega);exact nj _ I (ni _ I)
 obtain⟨x5,y5,H5,H6,-,-,i1,j1,l1,l2,w1,w2,s1,j2,s2,r5,f5⟩:=g.fO (A u) (B.trans hn) (i:=J) (j:=f) (by omega) (by omega);apply ai;simp [w,O,U,i1,j1,l1,l2,w1,w2,s1,j2,s2,-aP,-bZ];apply ai;simp [O,aK (n:=(J:Int)+1)];refine au (.inl rfl) ?_;simp [U,aK (n:=(f:Int)-1)];exact az (ih _ _ (by omega) ⟨J+1,f-1,_,H6,_,rfl,rfl,by omega,by omega,by omega,by simp [w],by simp [g1],by simp [g4],by simp,by simp;omega,y.trans f5,r5,
   u.trans (dY (by omega) (by omega) (by omega) (by omega) (by omega)),N.swap (by omega) (by omega) (by omega) ni nj⟩)
end
section
variable{tab:Nat→Option aw}{σ:gP}{sz:Nat}{cv:V}{W:List FC→Prop}{c:List FC→List FC→Int}
def xQ(c:List FC→List FC→Int)(a e:Nat)(l:List (List FC)):Prop:=∀ k,0<a→a≤k→k<e→hU c l (a-1) k
theorem xQ.rq{a e a' b:Nat}{l l':List (List FC)}(h:xQ c a e l)(d:dG a' b l l')(E:a≤a')(F:b≤e)(z:a'≤b)(B:b≤l.length):xQ c a e l':=by
 intro k m q s x y g hy;rw [d.lt (by omega)]at g;by_cases u:k<a'
 ·rw [d.lt u]at hy;exact h k m q s x y g hy
 by_cases v:b≤k
 ·rw [d.ge v]at hy;exact h k m q s x y g hy
 obtain⟨j,H,I,A⟩:=d.mem z B (by omega) (by omega) hy;exact h j m (by omega) (by omega) x y g A
theorem xQ.mono{a e b:Nat}{l:List (List FC)}(h:xQ c a e l)(j:b≤e):xQ c a b l:=fun k d g m=>h k d g (by omega)
theorem Dr{n a e i ep b:Nat}{rows:List (List FC)}{H0:aj}{g10:V}{k:List ca}{Q:Option ak→St→Prop}(U:Cv tab cv W c)(hc:ru W c)(hn:rows.length=n)(hl:n≤1000000000)(hg:bC sz rows)(Y:∀ r ∈ rows,W r)
  {t:T} {H:aj} (a8:a<i) (b6:i≤e) (a_:e≤n) (u:Up c a i rows)
  (I:t.g 0=.c (.sl b 0 n 0 ep sz)) (L:t.g 1=vi a) (B:t.g 2=vi e) (K:t.g 3=cv) (A:t.g 9=vi i) (M:t.g 10=g10) (l:Fm b H0 H) (g:RB H b sz ep rows)
  (next:∀(t:T) (H:aj) (E:Nat),(i≤E∧E≤e)→Up c a E rows→(E=e∨∀ x y,rows[E]?=aa x→rows[E-1]?=aa y→c x y<0) →
   t.g 0=.c (.sl b 0 n 0 ep sz)→t.g 1=vi a→t.g 2=vi e→t.g 3=cv→t.g 9=vi E→t.g 10=g10→Fm b H0 H→RB H b sz ep rows→WP tab σ.pins ab k ⟨t,[],H⟩ Q) :
  WP tab σ.pins ab (.code (Ap sz)::k) ⟨t,[],H⟩ Q:=by
 refine aB ?_;refine bu (fun m s=>∃(q:Nat) (t:T) (S:aj),s=⟨t,[],S⟩∧(q+m=e∧i≤q)∧Up c a q rows ∧
   t.g 0=.c (.sl b 0 n 0 ep sz)∧t.g 1=vi a∧t.g 2=vi e∧t.g 3=cv∧t.g 9=vi q∧t.g 10=g10∧Fm b H0 S∧RB S b sz ep rows) (e-i)
  ⟨i,_,H,rfl,by omega,u,I,L,B,K,A,M,l,g⟩ ?_
 rintro m s ⟨q,t,S,rfl,hm,u,I,L,B,K,A,M,l,g⟩ ih;apply aq;apply ai;by_cases X:q<e
 case neg=>
  simp [A,B,X];refine aD (by simp) ?_;refine ba (k':=k) rfl ?_;exact next _ _ q (by omega) u (.inl (by omega)) (by simp [I]) (by simp [L]) (by simp [B]) (by simp [K]) (by simp [A]) (by simp [M]) l g
 obtain⟨d,rfl⟩:∃ d,q=d+1:=⟨q-1,by omega⟩
 obtain⟨x,y,F,ar,J,hx,hy,i1,j1,l1,l2,N,he,-,-⟩:=g.ask hg U Y hn (i:=d+1) (j:=d) (by omega) (by omega);have c1:((d+1:Nat):Int)=(d:Int)+1:=by omega
 have O:(d:Int)+1<(e:Int):=by omega
 rw [c1]at i1 A;simp [A,B,O,I,K,i1,j1,l1,l2,N,he,-aP,aK (n:=(d:Int))];by_cases v:c x y<0
 case pos=>
  refine aD (by simp [v]) ?_;refine ba (k':=k) rfl ?_;refine next _ _ (d+1) (by omega) u (.inr fun z w hz Z=>?_) (by simp [I]) (by simp [L]) (by simp [B]) (by simp [K]) (by simp [A]) (by simp [M]) (l.trans (Fm.push _ _)) (g.push _)
  rw [hx]at hz;cases hz;rw [show d+1-1=d by omega,hy]at Z;cases Z;exact v
 refine an (by simp [v]) (aO ?_);refine aB (au (.inl rfl) ?_);simp [A,aK (n:=(d:Int)+1+1)];refine az (ih (m-1) _ (by omega) ⟨d+1+1,_,_,rfl,by omega,?_,by simp [I],by simp [L],by simp [B],by simp [K],by simp,by simp [M],l.trans (Fm.push _ _),g.push _⟩);exact(zH.start u).stop hc Y (by omega) (IT _) (by omega) (hU.of_le hy hx v)
theorem Dq{n a e i j ep b:Nat}{rows:List (List FC)}{H0:aj}{g10:V}{k:List ca}{Q:Option ak→St→Prop}(b6:Cv tab cv W c)(hc:ru W c)(hn:rows.length=n)(hl:n≤1000000000)(hg:bC sz rows)(hW:∀ r ∈ rows,W r)
  {t:T} {H:aj} (X:a≤j) (K:j=i) (c4:i<e) (b_:e≤n) (a8:xQ c a e rows) (q:zH c a i j rows)
  (E:t.g 0=.c (.sl b 0 n 0 ep sz)) (N:t.g 1=vi a) (O:t.g 2=vi e) (M:t.g 3=cv) (S:t.g 9=vi (i+1:Nat)) (U:t.g 10=g10) (A:t.g 11=vi j) (z:Fm b H0 H) (u:RB H b sz ep rows)
  (next:∀(t:T) (H:aj) (l:List (List FC)),dG a e rows l→Up c a (i+1) l →
   t.g 0=.c (.sl b 0 n 0 ep sz)→t.g 1=vi a→t.g 2=vi e→t.g 3=cv→t.g 9=vi (i+1:Nat)→t.g 10=g10→Fm b H0 H→RB H b sz ep l→WP tab σ.pins ab k ⟨t,[],H⟩ Q) :
  WP tab σ.pins ab (.code (Aq sz)::k) ⟨t,[],H⟩ Q:=by
 refine aB ?_;refine bu (fun m s=>∃(j:Nat) (t:T) (H1:aj) (l:List (List FC)),s=⟨t,[],H1⟩∧j=m∧a≤j∧j≤i∧t.g 0=.c (.sl b 0 n 0 ep sz)∧t.g 1=vi a∧t.g 2=vi e∧t.g 3=cv∧t.g 9=vi (i+1:Nat)∧t.g 10=g10∧t.g 11=vi j ∧
   Fm b H0 H1∧RB H1 b sz ep l∧dG a e rows l∧zH c a i j l) j
  ⟨j,_,H,rows,rfl,rfl,X,by omega,E,N,O,M,S,U,A,z,u,dG.refl _ _ _,q⟩ ?_
 rintro m s ⟨j,t,H1,l,rfl,rfl,X,K,E,N,O,M,S,U,A,z,u,g,q⟩ ih;have B:=g.len;have Z:=g.o9 hg;have I:∀ r ∈ l,W r:=fun r hr=>hW r (g.1.mem_iff.1 hr);have L:xQ c a e l:=a8.rq g (IT _) (IT _) (by omega) (by omega);apply aq;apply ai;by_cases b9:j=0
 ·subst b9;obtain rfl:a=0:=by omega
  simp [A];refine aD (by simp) ?_;refine ba (k':=k) rfl ?_;exact next _ _ l g q.front (by simp [E]) (by simp [N]) (by simp [O]) (by simp [M]) (by simp [S]) (by simp [U]) z u
 obtain⟨d,rfl⟩:∃ d,j=d+1:=⟨j-1,by omega⟩
 obtain⟨x,y,F,ar,J,hx,hy,i1,j1,l1,l2,Y,he,-,-⟩:=u.ask Z b6 I (B.trans hn) (i:=d+1) (j:=d) (by omega) (by omega);have c1:((d+1:Nat):Int)=(d:Int)+1:=by omega
 have b7:(1:Int)≤(d:Int)+1:=by omega
 rw [c1]at i1 A;simp [A,b7];refine an (by simp) (aO ?_);apply aq;refine aB ?_;apply aq;apply ai;simp [A,E,M,i1,j1,l1,l2,Y,he,-aP,aK (n:=(d:Int))];by_cases v:c x y<0
 case neg=>
  refine an (by simp [v]) ?_;refine ba (k':=k) rfl ?_;refine next _ _ l g ?_ (by simp [E]) (by simp [N]) (by simp [O]) (by simp [M]) (by simp [S]) (by simp [U]) (z.trans (Fm.push _ _)) (u.push _)
  by_cases ha:d+1=a
  ·subst ha;exact q.front
  ·exact q.stop hc I (by omega) K (by omega) (hU.of_le hy hx v)
 have a_:a≤d:=by
  rcases Nat.lt_or_ge d a with h | h
  ·obtain rfl:a=d+1:=by omega
   exact absurd v (L (d+1) (by omega) (IT _) (by omega) y x (by simpa using hy) hx)
  ·exact h
 refine bg (by simp [v]) ?_;obtain⟨x5,y5,H5,H6,-,-,i5,j5,l5,l6,w5,w6,s5,j6,s6,r6,f6⟩:=(u.push J).fO Z (B.trans hn) (i:=d+1) (j:=d) (by omega) (by omega);rw [c1]at i5;refine au (.inl rfl) ?_;simp [E,A,i5,j5,l5,l6,w5,w6,s5,j6,s6,-aP,-bZ,aK (n:=(d:Int))];refine az ?_;refine au (.inl rfl) ?_;simp [A,aK (n:=(d:Int))];exact ih d _ (by omega) ⟨d,_,H6,fO l (d+1) d,rfl,rfl,a_,by omega,by simp [E],by simp [N],by simp [O],by simp [M],by simp [S],by simp [U],by simp,(z.trans (Fm.push _ _)).trans f6,r6,
  g.trans (dY (by omega) (by omega) (by omega) (by omega) (by omega)),q.step hc I (by omega) K (by omega) hx hy v⟩
theorem za{n a e i ep b:Nat}{rows:List (List FC)}{H0:aj}{g10:V}{k:List ca}{Q:Option ak→St→Prop}(Z:Cv tab cv W c)(hn:rows.length=n)(hl:n≤1000000000)(hg:bC sz rows)(hW:∀ r ∈ rows,W r)
  {t:T} {H:aj} (b6:i<e) (a8:e≤n)
  (B:t.g 0=.c (.sl b 0 n 0 ep sz)) (K:t.g 1=vi a) (E:t.g 2=vi e) (I:t.g 3=cv) (L:t.g 9=vi i) (M:t.g 10=g10) (z:t.g 12=vi (i+1:Nat)) (u:Fm b H0 H) (q:RB H b sz ep rows)
  (next:∀(t:T) (H:aj) (l:List (List FC)),dG i e rows l →
   t.g 0=.c (.sl b 0 n 0 ep sz)→t.g 1=vi a→t.g 2=vi e→t.g 3=cv→t.g 9=vi i→t.g 10=g10→Fm b H0 H→RB H b sz ep l→WP tab σ.pins ab k ⟨t,[],H⟩ Q) :
  WP tab σ.pins ab (.code (As sz)::k) ⟨t,[],H⟩ Q:=by
 refine aB ?_;refine bu (fun m s=>∃(d:Nat) (t:T) (U:aj) (l:List (List FC)),s=⟨t,[],U⟩∧d+1+m=e∧i≤d∧t.g 0=.c (.sl b 0 n 0 ep sz)∧t.g 1=vi a∧t.g 2=vi e∧t.g 3=cv∧t.g 9=vi i∧t.g 10=g10∧t.g 12=vi (d+1:Nat) ∧
   Fm b H0 U∧RB U b sz ep l∧dG i e rows l) (e-(i+1))
  ⟨i,_,H,rows,rfl,by omega,IT _,B,K,E,I,L,M,z,u,q,dG.refl _ _ _⟩ ?_
 rintro m s ⟨d,t,U,l,rfl,hm,a_,B,K,E,I,L,M,z,u,q,g⟩ ih;have A:=g.len;have S:=g.o9 hg;have Y:∀ r ∈ l,W r:=fun r hr=>hW r (g.1.mem_iff.1 hr);have X:((d+1:Nat):Int)=(d:Int)+1:=by omega
 rw [X]at z;apply aq;apply ai;by_cases b7:d+1<e
 case neg=>
  have v:¬ ((d:Int)+1<(e:Int)):=by omega
  simp [z,E,v];refine aD (by simp) ?_;refine ba (k':=k) rfl ?_;exact next _ _ l g (by simp [B]) (by simp [K]) (by simp [E]) (by simp [I]) (by simp [L]) (by simp [M]) u q
 have v:(d:Int)+1<(e:Int):=by omega
 simp [z,E,v];refine an (by simp) (aO ?_);obtain⟨x,y,F,ar,J,hx,hy,i1,j1,l1,l2,O,he,-,-⟩:=q.ask S Z Y (A.trans hn) (i:=d+1) (j:=d) (by omega) (by omega);rw [X]at i1;apply aq;refine aB ?_;apply aq;apply ai;simp [z,B,I,i1,j1,l1,l2,O,he,-aP,aK (n:=(d:Int))];by_cases N:c x y<0
 case neg=>
  refine an (by simp [N]) ?_;refine ba (k':=k) rfl ?_;exact next _ _ l g (by simp [B]) (by simp [K]) (by simp [E]) (by simp [I]) (by simp [L]) (by simp [M]) (u.trans (Fm.push _ _)) (q.push _)
 refine bg (by simp [N]) ?_;obtain⟨x5,y5,H5,H6,-,-,i5,j5,l5,l6,w5,w6,s5,j6,s6,r6,f6⟩:=(q.push J).fO S (A.trans hn) (i:=d+1) (j:=d) (by omega) (by omega);rw [X]at i5;refine au (.inl rfl) ?_;simp [B,z,i5,j5,l5,l6,w5,w6,s5,j6,s6,-aP,-bZ,aK (n:=(d:Int))];refine az ?_;refine au (.inl rfl) ?_;simp [z,aK (n:=(d:Int)+1+1)];exact ih (m-1) _ (by omega) ⟨d+1,_,H6,fO l (d+1) d,rfl,by omega,by omega,by simp [B],by simp [K],by simp [E],by simp [I],by simp [L],by simp [M],by simp,(u.trans (Fm.push _ _)).trans f6,r6,
  g.trans (dY (by omega) (by omega) (by omega) (by omega) (by omega))⟩
theorem Rf{H:aj}{rows:List (List FC)}{n a e b ep:Nat}(hT:tab σ.pins=aa (y_ σ sz))(a8:Cv tab cv W c)(hc:ru W c)(hn:rows.length=n)(hl:n≤1000000000)(v:RB H b sz ep rows)(hg:bC sz rows)(hW:∀ r ∈ rows,W r)(d6:a<e)(a_:e≤n)(b9:xQ c a e rows) :
  ∃ r H',Ev tab (.fn σ.pins) [.c (.sl b 0 n 0 ep sz),vi a,vi e,cv] H r H'∧((∃ w:Bool,r=vb w∧Fm b H H'∧∃ l',RB H' b sz ep l'∧dG a e rows l'∧(w=ae→Up c a e l'))):=by
 refine dy hT rfl fun Q hQ=>?_;apply ai;simp;apply ai;simp [aK (n:=(a:Int)+1)];apply aq;apply ai;simp;refine aB ?_;refine bu (fun m s=>∃(i g:Nat) (t:T) (H1:aj) (l:List (List FC)),s=⟨t,[],H1⟩∧g+m=5∧a<i∧i≤e∧t.g 0=.c (.sl b 0 n 0 ep sz)∧t.g 1=vi a∧t.g 2=vi e∧t.g 3=cv∧t.g 9=vi i∧t.g 10=vi g ∧
   Fm b H H1∧RB H1 b sz ep l∧dG a e rows l∧Up c a i l) 5
  ⟨a+1,0,_,H,rows,rfl,rfl,by omega,by omega,by simp,by simp,by simp,by simp,by simp,by simp,Fm.refl H,v,dG.refl _ _ _,Up.one (by omega)⟩ ?_
 rintro m s ⟨i,g,t,H1,l,rfl,hm,b_,c4,I,F,E,M,A,J,z,v,u,B⟩ ih;apply aq;apply ai;simp [J];by_cases h5:g<5
 case neg=>
  have Z:¬ ((g:Int)<5):=by omega
  refine aD (by simp [Z]) ?_;refine ba (k':=[.code (pA)]) rfl ?_;apply ai;simp;exact aG (hQ _ _ (vb ag) rfl (by simp [Km.results,aY]) ⟨ag,rfl,z,l,v,u,fun h=>nomatch h⟩)
 have Z:(g:Int)<5:=by omega
 refine an (by simp [Z]) (aO ?_);apply aq;refine aB ?_;apply aq;have L:=u.len;have K:∀ {l},dG a e rows l→bC sz l:=fun h=>h.o9 hg;have U:∀ {l},dG a e rows l→∀ r ∈ l,W r:=fun h r hr=>hW r (h.1.mem_iff.1 hr);refine Dr a8 hc (L.trans hn) hl (K u) (U u) (H0:=H) b_ c4 a_ B (by simp [I]) (by simp [F]) (by simp [E]) (by simp [M]) (by simp [A]) (by simp [J];rfl) z v ?_;intro t H2 i' hi B b6 I F E M A J z v;apply aq;apply ai;simp [A,E];by_cases Y:i'=e
 ·subst Y;refine an (by simp) ?_;apply ai;simp;exact aG (hQ _ _ (vb ae) rfl (by simp [Km.results,aY]) ⟨ae,rfl,z,l,v,u,fun _=>B⟩)
 refine bg (by simp [Y]) ?_;apply aq;apply ai;simp [F,E,aK (n:=(e:Int)-a)];by_cases d5:(e:Int)-a<50
 ·refine an (by simp;omega) ?_;apply ai;simp;exact aG (hQ _ _ (vb ag) rfl (by simp [Km.results,aY]) ⟨ag,rfl,z,l,v,u,fun h=>nomatch h⟩)
 refine aD (by simp;omega) (aO ?_);obtain⟨d,rfl⟩:∃ d,i'=d+1:=⟨i'-1,by omega⟩
 have c1:((d+1:Nat):Int)=(d:Int)+1:=by omega
 obtain⟨x5,y5,H5,H6,c7,c8,i5,j5,l5,l6,w5,w6,s5,j6,s6,r6,f6⟩:=v.fO (K u) (L.trans hn) (i:=d+1) (j:=d) (by omega) (by omega);have c_:c x5 y5<0:=by
  rcases b6 with h | h
  ·omega
  ·exact h x5 y5 c7 (by simpa using c8)
 have N:dG a e rows (fO l (d+1) d):=u.trans (dY (by omega) (by omega) (by omega) (by omega) (by omega));rw [c1]at i5 A;apply ai;simp [I,A,i5,j5,l5,l6,w5,w6,s5,j6,s6,-aP,-bZ,aK (n:=(d:Int))];have b7:∀(t:T) (O:aj) (S:List (List FC)),t.g 0=.c (.sl b 0 n 0 ep sz)→t.g 1=vi a→t.g 2=vi e→t.g 3=cv→t.g 9=vi (d+1:Nat)→t.g 10=vi g→Fm b H O→RB O b sz ep S→dG a e rows S→Up c a (d+1) S →
   WP tab σ.pins ab [.inBlock 1,.code (uu),.inLoop (y9 sz),.inBlock 0,.code (pA)] ⟨t,[],O⟩ Q:=by
  intro t O S I F E M A J z v u B;refine az (au (.inl rfl) ?_);simp [J,aK (n:=(g:Int)+1)];exact ih (m-1) _ (by omega) ⟨d+1,g+1,_,O,S,rfl,by omega,by omega,by omega,by simp [I],by simp [F],by simp [E],by simp [M],by simp [A],by simp,z,v,u,B⟩
 have right:∀(t:T) (O:aj) (S:List (List FC)),t.g 0=.c (.sl b 0 n 0 ep sz)→t.g 1=vi a→t.g 2=vi e→t.g 3=cv→t.g 9=vi (d+1:Nat)→t.g 10=vi g→Fm b H O→RB O b sz ep S→dG a e rows S→Up c a (d+1) S →
   WP tab σ.pins ab [.code (Ar sz),.inBlock 1,.code (uu),.inLoop (y9 sz),.inBlock 0,.code (pA)] ⟨t,[],O⟩ Q:=by
  intro t O S I F E M A J z v u B;have L:=u.len;rw [c1]at A;apply aq;refine au (.inl rfl) ?_;simp [A,E,aK (n:=(e:Int)-((d:Int)+1))];by_cases h2:(2:Int)≤(e:Int)-((d:Int)+1)
  case neg=>
   refine aD (by simp;omega) (aO ?_);exact b7 _ O S (by simp [I]) (by simp [F]) (by simp [E]) (by simp [M]) (by simp [A]) (by simp [J]) z v u B
  refine an (by simp;omega) ?_;apply ai;simp [A,aK (n:=(d:Int)+1+1)];refine za a8 (L.trans hn) hl (K u) (U u) (H0:=H) (a:=a) (i:=d+1) (e:=e) (g10:=vi g) (by omega) a_ (by simp [I]) (by simp [F]) (by simp [E]) (by simp [M]) (by simp [A]) (by simp [J]) (by simp) z v ?_;intro t H4 l4 X I F E M A J z v;exact b7 t H4 l4 I F E M A J z v (u.trans (X.mono (by omega) (IT _))) (B.of fun k _ hk=>X.lt hk)
 apply aq;apply ai;simp [A,F,aK (n:=(d:Int)+1-a)];by_cases h2:(2:Int)≤(d:Int)+1-a
 case neg=>
  refine aD (by simp;omega) (aO ?_);exact right _ H6 _ (by simp [I]) (by simp [F]) (by simp [E]) (by simp [M]) (by simp [A]) (by simp [J]) (z.trans f6) r6 N (Up.one (by omega))
 refine an (by simp;omega) ?_;apply ai;simp [A,aK (n:=(d:Int))];have c6:=N.len;refine Dq a8 hc (c6.trans hn) hl (K N) (U N) (H0:=H) (a:=a) (i:=d) (j:=d) (e:=e) (g10:=vi g) (by omega) rfl (by omega) a_ (b9.rq N (IT _) (IT _) (by omega) (by omega)) ?_ (by simp [I]) (by simp [F]) (by simp [E]) (by simp [M]) (by simp [A]) (by simp [J]) (by simp) (z.trans f6) r6 ?_
 ·intro p q h1 h2 h3 h4;have g:∀ k,k<d→(fO l (d+1) d)[k]?=l[k]?:=fun k hk=>by rw [fj (by omega) (by omega),aU (by omega),aU (by omega)]
  exact hU.get (fun x y=>B p q x y h1 h2 (by omega)) (g p (by omega)) (g q (by omega))
 intro t H4 l4 X c9 I F E M A J z v;exact right t H4 l4 I F E M A J z v (N.trans X) c9
end
def pO(i b:Nat):Prop:=b=2*i+1∨b=2*i+2
def Hp(c:List FC→List FC→Int)(f h k:Nat)(l:List (List FC)):Prop:=∀ i b,k≤i→pO i b→b<h→hU c l (f+b) (f+i)
def I0(c:List FC→List FC→Int)(f h k r:Nat)(l:List (List FC)):Prop:=
 (∀ i b,k≤i→i≠r→pO i b→b<h→hU c l (f+b) (f+i))∧∀ i b,k≤i→pO i r→pO r b→b<h→hU c l (f+b) (f+i)
section
variable{W:List FC→Prop}{c:List FC→List FC→Int}{l:List (List FC)}
theorem Hp.x{f h k:Nat}(j:Hp c f h (k+1) l):I0 c f h k k l:=
 ⟨fun i g a b d e=>j i g (by omega) d e,fun i g a b d e=>by unfold pO at b;omega⟩
theorem I0.leaf{f h k r:Nat}(j:I0 c f h k r l)(m:h≤2*r+1):Hp c f h k l:=fun i g a b d=>by
 by_cases e:i=r
 ·subst e;unfold pO at b;omega
 ·exact j.1 i g a e b d
theorem I0.stop{f h k r j:Nat}(hc:ru W c)(s:∀ r ∈ l,W r)(v:I0 c f h k r l)(y:f+h≤l.length)(x:pO r j)(u:j<h)(g:∀ q,pO r q→q<h→hU c l (f+q) (f+j))(m:hU c l (f+j) (f+r)):Hp c f h k l:=fun i q a b d=>by
 by_cases e:i=r
 ·subst e;exact(g q b d).trans hc s m (by omega)
 ·exact v.1 i q a e b d
theorem I0.step{f h k r b:Nat}(hc:ru W c)(M:∀ r ∈ l,W r)(E:I0 c f h k r l)(Q:f+h≤l.length)(N:k≤r)(z:pO r b)(B:b<h)(m:∀ q,pO r q→q<h→hU c l (f+q) (f+b)){x y:List FC}(F:l[f+r]?=aa x)(I:l[f+b]?=aa y)(H:c x y<0) :
  I0 c f h k b (fO l (f+r) (f+b)):=by
 have O:r<b:=by unfold pO at z;omega
 have g:∀ q,(fO l (f+r) (f+b))[f+q]?=if q=b then l[f+r]? else if q=r then l[f+b]? else l[f+q]?:=fun q=>by
  rw [fj (by omega) (by omega)];by_cases J:q=b
  ·subst J;simp
  rw [aU (by omega),aU J];by_cases j:q=r
  ·subst j;simp
  rw [aU (by omega),aU j]
 refine⟨fun i q A s u d=>?_,fun i q A L K d=>?_⟩
 ·by_cases e:i=r
  ·subst e;by_cases j:q=b
   ·subst j;exact(hU.of_lt hc M F I H).get (by rw [g,bf rfl]) (by rw [g,aU (by omega),bf rfl])
   ·exact(m q u d).get (by rw [g,aU j,aU (by unfold pO at u;omega)]) (by rw [g,aU (by omega),bf rfl])
  ·by_cases j:q=r
   ·subst j;exact(E.2 i b A u z B).get (by rw [g,aU (by omega),bf rfl]) (by rw [g,aU s,aU e])
   ·have v:q≠b:=by unfold pO at u z;omega
    exact(E.1 i q A e u d).get (by rw [g,aU v,aU j]) (by rw [g,aU s,aU e])
 ·have e:i=r:=by unfold pO at L z;omega
  subst e;have v:q≠b∧q≠i:=by unfold pO at K;omega
  exact(E.1 b q (by omega) (by omega) K d).get (by rw [g,aU v.1,aU v.2]) (by rw [g,aU (by omega),bf rfl])
theorem hU.self{i:Nat}(hc:ru W c)(b:∀ r ∈ l,W r):hU c l i i:=fun x y d hy=>by
 rw [d]at hy;cases hy;have:=acI d;intro q;exact hc.x4 (b _ this) (b _ this) q q
theorem Hp.top{f h:Nat}(hc:ru W c)(b:∀ r ∈ l,W r)(j:Hp c f h 0 l)(s:f+h≤l.length):∀ k,k<h→hU c l (f+k) f:=by
 intro k;induction k using Nat.strongRecOn with
 | ind k m=>
  intro g;rcases adX k with rfl | q
  ·exact hU.self hc b
  ·have d:=j ((k-1) / 2) k (by omega) (by unfold pO;omega) g;exact d.trans hc b (m ((k-1) / 2) (by omega) (by omega)) (by omega)
def ti(c:List FC→List FC→Int)(f h j:Nat)(l:List (List FC)):Prop:=∀ p q,p<q→j≤q→q<h→hU c l (f+p) (f+q)
theorem ti.swap{f h i:Nat}(hc:ru W c)(E:∀ r ∈ l,W r)(u:ti c f h (i+1) l)(A:Hp c f (i+1) 0 l)(I:i<h)(J:f+h≤l.length):ti c f h i (fO l f (f+i))∧I0 c f i 0 0 (fO l f (f+i)):=by
 have g:∀ q,(fO l f (f+i))[f+q]?=if q=i then l[f]? else if q=0 then l[f+i]? else l[f+q]?:=fun q=>by
  rw [fj (by omega) (by omega)];by_cases j:q=i
  ·subst j;simp
  rw [aU (by omega),aU j];by_cases b:q=0
  ·subst b;simp
  rw [aU (by omega),aU b]
 refine⟨fun p q v K d=>?_,fun x m _ H z F=>?_,fun x m _ y=>by unfold pO at y;omega⟩
 ·have top:=A.top hc E (by omega);by_cases e:q=i
  ·subst e;by_cases b:p=0
   ·subst b;exact(top q (by omega)).get (by rw [g,aU (by omega),bf rfl]) (by rw [g,bf rfl])
   ·exact(top p (by omega)).get (by rw [g,aU (by omega),aU b]) (by rw [g,bf rfl])
  ·have s:(fO l f (f+i))[f+q]?=l[f+q]?:=by rw [g,aU e,aU (by omega)]
   by_cases j:p=i
   ·subst j;exact(u 0 q (by omega) (by omega) d).get (by rw [g,bf rfl,Nat.add_zero]) s
   by_cases b:p=0
   ·subst b;exact(u i q (by omega) (by omega) d).get (by rw [g,aU j,bf rfl]) s
   ·exact(u p q v (by omega) d).get (by rw [g,aU j,aU b]) s
 ·have y:x<m:=by unfold pO at z;omega
  have B:m≠0:=by omega
  exact(A x m (by omega) z (by omega)).get (by rw [g,aU (by omega),aU B]) (by rw [g,aU (by omega),aU H])
theorem ti.rq{f h i:Nat}{l':List (List FC)}(s:ti c f h i l)(g:dG f (f+i) l l')(B:f+h≤l.length)(A:i≤h):ti c f h i l':=by
 intro p q d u b x y m hy;rw [g.ge (by omega)]at hy;by_cases z:i≤p
 ·rw [g.ge (by omega)]at m;exact s p q d u b x y m hy
 obtain⟨j,E,F,v⟩:=g.mem (by omega) (by omega) (by omega) (by omega) m;have:=s (j-f) q (by omega) u b x y;rw [show f+(j-f)=j by omega]at this;exact this v hy
theorem ti.up{f h:Nat}(b:ti c f h 0 l):Up c f (f+h) l:=fun i j x y g m q d hy=>by
 have:=b (i-f) (j-f) (by omega) (by omega) (by omega) x y;rw [show f+(i-f)=i by omega,show f+(j-f)=j by omega]at this;exact this d hy
end
section
variable{tab:Nat→Option aw}{σ:gP}{sz:Nat}{H:aj}{b ep:Nat}{rows:List (List FC)}{cv:V}{W:List FC→Prop}{c:List FC→List FC→Int}
theorem AH(hT:tab σ.rP=aa (uG σ sz))(a_:Cv tab cv W c)(hc:ru W c){n lo h f:Nat}(hn:rows.length=n)(hl:n≤1000000000)(d:RB H b sz ep rows)(hg:bC sz rows)(hW:∀ r ∈ rows,W r)(b7:lo≤h)(b_:f+h≤n)(hx:I0 c f h lo lo rows) :
  ∃ r H',Ev tab (.fn σ.rP) [.c (.sl b 0 n 0 ep sz),vi lo,vi h,vi f,cv] H r H'∧(r=.t []∧Fm b H H'∧∃ l',RB H' b sz ep l'∧dG f (f+h) rows l'∧Hp c f h lo l'):=by
 refine dy hT rfl fun Q hQ=>?_;apply ai;simp;refine aB ?_;refine bu (fun m s=>∃(r:Nat) (t:T) (H1:aj) (l:List (List FC)),s=⟨t,[],H1⟩∧m=h-r∧lo≤r∧r≤h∧t.g 0=.c (.sl b 0 n 0 ep sz)∧t.g 2=vi h∧t.g 3=vi f∧t.g 4=cv∧t.g 10=vi r ∧
  Fm b H H1∧RB H1 b sz ep l∧dG f (f+h) rows l∧I0 c f h lo r l) _
  ⟨lo,_,H,rows,rfl,rfl,by omega,b7,by simp,by simp,by simp,by simp,by simp,Fm.refl H,d,dG.refl _ _ _,hx⟩ ?_
 rintro m s ⟨r,t,H1,l,rfl,rfl,b9,c6,L,M,N,U,g10,z,d,g,hx⟩ ih;have E:=g.len;have Y:=g.o9 hg;have v:∀ r ∈ l,W r:=fun r hr=>hW r (g.1.mem_iff.1 hr);have cf:∀ q:Nat,((f+q:Nat):Int)=(f:Int)+q:=fun q=>by omega
 refine aB ?_;apply ai;simp [g10,aK (n:=(2:Int)*r),aK (n:=(2:Int)*r+1)];apply aq;apply ai;simp [M];by_cases Z:h≤2*r+1
 ·refine an (by simp;omega) ?_;refine ba (k':=[]) rfl ?_;exact eu (hQ _ _ _ rfl rfl ⟨rfl,z,l,d,g,hx.leaf Z⟩)
 refine aD (by simp;omega) (aO ?_);apply aq;have go:∀(t:T) (H2:aj) (A:Nat),pO r A→A<h→(∀ q,pO r q→q<h→hU c l (f+q) (f+A))→t.g 0=.c (.sl b 0 n 0 ep sz)→t.g 2=vi h→t.g 3=vi f→t.g 4=cv→t.g 10=vi r→t.g 11=vi A→Fm b H H2→RB H2 b sz ep l →
   WP tab σ.rP ab [.code (AG sz),.inBlock 1,.inLoop (LM sz),.inBlock 0] ⟨t,[],H2⟩ Q:=by
  intro t H2 A hk a8 O L M N U g10 S z d;obtain⟨x,y,F,ar,J,I,K,i1,j1,l1,l2,B,he,-,-⟩:=d.ask Y a_ v (E.trans hn) (i:=f+r) (j:=f+A) (by omega) (by omega);rw [cf]at i1 j1;apply aq;apply ai;simp [L,N,U,g10,S,i1,j1,l1,l2,B,he,-aP,aK (n:=(f:Int)+r),aK (n:=(f:Int)+A)];by_cases u:c x y<0
  case neg=>
   refine an (by simp [u]) ?_;exact aG (hQ _ _ _ rfl rfl ⟨rfl,z.trans (Fm.push _ _),l,d.push _,g,hx.stop hc v (by omega) hk a8 O (hU.of_le K I u)⟩)
  refine bg (by simp [u]) ?_;obtain⟨x5,y5,H5,H6,-,-,i5,j5,l5,l6,w5,w6,s5,j6,s6,r6,f6⟩:=(d.push J).fO Y (E.trans hn) (i:=f+r) (j:=f+A) (by omega) (by omega);rw [cf]at i5 j5 j6;apply ai;simp [L,N,g10,S,i5,j5,l5,l6,w5,w6,s5,j6,s6,-aP,-bZ,aK (n:=(f:Int)+r),aK (n:=(f:Int)+A)];refine au (.inl rfl) ?_;simp [S];refine az ?_;have c4:r<A:=by unfold pO at hk;omega
  exact ih _ _ (by omega) ⟨A,_,H6,_,rfl,rfl,by omega,by omega,by simp [L],by simp [M],by simp [N],by simp [U],by simp,(z.trans (Fm.push _ _)).trans f6,r6,
   g.trans (dY (by omega) (by omega) (by omega) (by omega) (by omega)),hx.step hc v (by omega) b9 hk a8 O I K u⟩
 apply aq;refine au (.inl rfl) ?_;by_cases h2:2*r+2<h
 case neg=>
  have X:¬ ((2:Int)*r+1+1<h):=by omega
  simp [M,X,aK (n:=(2:Int)*r+1+1)];refine bg (by simp) ?_;refine go _ H1 (2*r+1) (.inl rfl) (by omega) (fun q hq b6=>?_) (by simp [L]) (by simp [M]) (by simp [N]) (by simp [U]) (by simp [g10]) (by simp) z d;have:q=2*r+1:=by unfold pO at hq;omega
  subst this;exact hU.self hc v
 have X:((2:Int)*r+1+1<h):=by omega
 obtain⟨x,y,F,ar,J,I,K,i1,j1,l1,l2,B,he,-,-⟩:=d.ask Y a_ v (E.trans hn) (i:=f+(2*r+1)) (j:=f+(2*r+2)) (by omega) (by omega);have e1:((f+(2*r+1):Nat):Int)=(f:Int)+(2*r+1):=by omega
 have e2:((f+(2*r+2):Nat):Int)=(f:Int)+(2*r+1)+1:=by omega
 rw [e1]at i1;rw [e2]at j1;simp [L,M,N,U,X,i1,j1,l1,l2,B,he,-aP,aK (n:=(2:Int)*r+1+1),aK (n:=(f:Int)+(2*r+1)),aK (n:=(f:Int)+(2*r+1)+1)];by_cases u:c x y<0
 ·refine an (by simp [u]) ?_;refine au (.inl rfl) ?_;simp [aK (n:=(2:Int)*r+1+1)];refine go _ _ (2*r+2) (.inr rfl) (by omega) (fun q hq b6=>?_) (by simp [L]) (by simp [M]) (by simp [N]) (by simp [U]) (by simp [g10]) (by simp;omega) (z.trans (Fm.push _ _)) (d.push _);rcases hq with rfl | rfl
  ·exact hU.of_lt hc v I K u
  ·exact hU.self hc v
 ·refine bg (by simp [u]) ?_;refine go _ _ (2*r+1) (.inl rfl) (by omega) (fun q hq b6=>?_) (by simp [L]) (by simp [M]) (by simp [N]) (by simp [U]) (by simp [g10]) (by simp) (z.trans (Fm.push _ _)) (d.push _);rcases hq with rfl | rfl
  ·exact hU.self hc v
  ·exact hU.of_le K I u
theorem PL(hT:tab σ.heap=aa (yB σ sz))(hS:tab σ.rP=aa (uG σ sz))(N:Cv tab cv W c)(hc:ru W c){n a e:Nat}(hn:rows.length=n)(hl:n≤1000000000)(u:RB H b sz ep rows)(hg:bC sz rows)(hW:∀ r ∈ rows,W r)(b_:a<e)(a_:e≤n) :
  ∃ r U,Ev tab (.fn σ.heap) [.c (.sl b 0 n 0 ep sz),vi a,vi e,cv] H r U∧(r=.t []∧Fm b H U∧∃ l',RB U b sz ep l'∧dG a e rows l'∧Up c a e l'):=by
 obtain⟨h,rfl⟩:∃ h,e=a+h:=⟨e-a,by omega⟩
 have hw:IntKind.i64.wrap ((a:Int)+h-a)=h:=by rw [aK];omega
 have hq:bt .quo (vi ((h:Int)-1)) (vi 2)=aa (vi (((h-1) / 2:Nat):Int)):=by
  have:=Ri (a:=h-1) (b:=2) (by omega) (by omega);rwa [show((h-1:Nat):Int)=(h:Int)-1 by omega]at this
 refine dy hT rfl fun Q hQ=>?_;apply ai;simp;apply ai;simp;apply ai;simp [hw];have x:∀ {l},dG a (a+h) rows l→bC sz l:=fun h=>h.o9 hg;have B:∀ {l},dG a (a+h) rows l→∀ r ∈ l,W r:=fun h r hr=>hW r (h.1.mem_iff.1 hr);apply aq;apply ai;simp [hq,aK (n:=(h:Int)-1)];refine aB ?_;refine bu (fun m s=>∃(t:T) (E:aj) (l:List (List FC)),s=⟨t,[],E⟩∧m≤h∧t.g 0=.c (.sl b 0 n 0 ep sz)∧t.g 3=cv∧t.g 8=vi a∧t.g 9=vi 0∧t.g 10=vi h∧t.g 11=vi ((m:Int)-1) ∧
  Fm b H E∧RB E b sz ep l∧dG a (a+h) rows l∧Hp c a h m l) ((h-1) / 2+1)
  ⟨_,H,rows,rfl,by omega,by simp,by simp,by simp,by simp,by simp,by simp,Fm.refl H,u,dG.refl _ _ _,fun i ch h1 h2 h3=>by unfold pO at h2;omega⟩ ?_
 rintro m s ⟨t,E,l,rfl,b7,I,K,J,M,g10,F,y,u,g,O⟩ ih;have z:=g.len;apply aq;apply ai;simp [F];rcases adX m with rfl | b6
 case inr=>
  obtain⟨d,rfl⟩:∃ d,m=d+1:=⟨m-1,by omega⟩
  have Y:((d+1:Nat):Int)-1=d:=by omega
  rw [Y]at F;refine an (by simp;omega) (aO ?_);obtain⟨r,X,L,rfl,Z,l2,r2,S,p2⟩:=AH hS N hc (z.trans hn) hl u (x g) (B g) (lo:=d) (h:=h) (f:=a) (by omega) a_ O.x;apply aq;refine aB (au (.inl rfl) ?_);simp [I,K,J,g10,F,L.eq];refine az (au (.inl rfl) ?_);simp [F,aK (n:=(d:Int)-1)];exact ih d _ (by omega) ⟨_,X,l2,rfl,by omega,by simp [I],by simp [K],by simp [J],by simp [M],by simp [g10],by simp,y.trans Z,r2,g.trans S,p2⟩
 refine aD (by simp) ?_;refine ba (k':=[.code (z3 σ sz)]) rfl ?_;apply ai;simp [g10,aK (n:=(h:Int)-1)];refine aB ?_;refine bu (fun m s=>∃(t:T) (E:aj) (l:List (List FC)),s=⟨t,[],E⟩∧m≤h∧t.g 0=.c (.sl b 0 n 0 ep sz)∧t.g 3=cv∧t.g 8=vi a∧t.g 9=vi 0∧t.g 12=vi ((m:Int)-1) ∧
  Fm b H E∧RB E b sz ep l∧dG a (a+h) rows l∧Hp c a m 0 l∧ti c a h m l) h
  ⟨_,E,l,rfl,by omega,by simp [I],by simp [K],by simp [J],by simp [M],by simp,y,u,g,O,fun p q h1 h2 h3=>by omega⟩ ?_
 rintro m s ⟨t,E,l,rfl,b7,I,K,J,M,v,y,u,g,O,hd⟩ ih;have z:=g.len;apply aq;apply ai;simp [v];rcases adX m with rfl | b6
 ·refine aD (by simp) ?_;refine ba (k':=[]) rfl ?_;exact eu (hQ _ _ _ rfl rfl ⟨rfl,y,l,u,g,hd.up⟩)
 obtain⟨d,rfl⟩:∃ d,m=d+1:=⟨m-1,by omega⟩
 have Y:((d+1:Nat):Int)-1=d:=by omega
 rw [Y]at v;refine an (by simp;omega) (aO ?_);obtain⟨x5,y5,H5,H6,-,-,i5,j5,l5,l6,w5,w6,s5,j6,s6,r6,f6⟩:=u.fO (x g) (z.trans hn) (i:=a) (j:=a+d) (by omega) (by omega);have ce:((a+d:Nat):Int)=(a:Int)+d:=by omega
 rw [ce]at j5 j6;obtain⟨a8,b9⟩:=hd.swap hc (B g) O (by omega) (by omega);have A:dG a (a+h) rows (fO l a (a+d)):=g.trans (dY (by omega) (by omega) (by omega) (by omega) (by omega));obtain⟨r,X,L,rfl,Z,l2,r2,S,p2⟩:=AH hS N hc (A.len.trans hn) hl r6 (x A) (B A) (lo:=0) (h:=d) (f:=a) (by omega) (by omega) b9;have L:=L.eq;simp at L;apply aq;refine aB ?_;apply ai;simp [I,J,v,i5,j5,l5,l6,w5,w6,s5,j6,s6,-aP,-bZ,aK (n:=(a:Int)+d)];refine au (.inl rfl) ?_;simp [I,K,J,M,v,L];refine az (au (.inl rfl) ?_);simp [v,aK (n:=(d:Int)-1)];exact ih d _ (by omega) ⟨_,X,l2,rfl,by omega,by simp [I],by simp [K],by simp [J],by simp [M],by simp,(y.trans f6).trans Z,r2,A.trans (S.mono (IT _) (by omega)),p2,
  a8.rq S (by rw [A.len];omega) (by omega)⟩
end
abbrev vu(n:Int):V:=.c (.f (.int .u64 n))
def NU(H:aj)(p:Nat):Prop:=∃ k:Int,H[p]?=aa (.box [.f (.int .u64 k)] 0)
theorem aag{a b:Int}(d:0≤b):bt .shl (vu a) (vu b)=aa (vu (IntKind.wrap .u64 (a*2 ^ (min b.toNat 64)))):=by
 simp only [bt,aU (show¬ b<0 by omega)];rfl
theorem aah{a b:Int}(d:0≤b):bt .shr (vu a) (vu b)=aa (vu (a.fdiv (2 ^ (min b.toNat 64)))):=by
 simp only [bt,aU (show¬ b<0 by omega)];rfl
theorem aat{a b:Int}:bt .xor (vu a) (vu b)=aa (vu (IntKind.wrap .u64 (BitVec.ofInt 64 a ^^^ BitVec.ofInt 64 b).toNat)):=by
 simp only [bt,hV,if_true];rfl
theorem ta(n:Int):IntKind.wrap .u64 n=n % 18446744073709551616:=rfl
theorem Jc{x:Int}{k:Nat}(j:k≤62):∃ o:Nat,o<2 ^ k∧bt .and (vu x) (vu ((2:Int) ^ k-1))=aa (vu o):=by
 have l:(2:Nat) ^ k≤2 ^ 62:=aeo (by omega) j;have g:(2:Nat) ^ 62=4611686018427387904:=by decide
 have b:0<(2:Nat) ^ k:=Nat.pow_pos (by omega);have e:BitVec.ofInt 64 ((2:Int) ^ k-1)=BitVec.ofNat 64 (2 ^ k-1):=by
  have:((2:Int) ^ k-1)=((2 ^ k-1:Nat):Int):=by
   rw [Int.ofNat_sub b];simp
  rw [this,BitVec.ofInt_natCast]
 refine⟨(BitVec.ofInt 64 x).toNat % 2 ^ k,Nat.mod_lt _ b,?_⟩;have d:(BitVec.ofInt 64 x &&& BitVec.ofInt 64 ((2:Int) ^ k-1)).toNat=(BitVec.ofInt 64 x).toNat % 2 ^ k:=by
  rw [e,BitVec.toNat_and,BitVec.toNat_ofNat,Nat.mod_eq_of_lt (a:=2 ^ k-1) (by omega),Nat.and_two_pow_sub_one_eq_mod]
 have m:(BitVec.ofInt 64 x).toNat % 2 ^ k<2 ^ k:=Nat.mod_lt _ b;simp only [bt,hV,if_true];show aa (vu (IntKind.wrap .u64 ((BitVec.ofInt 64 x &&& BitVec.ofInt 64 ((2:Int) ^ k-1)).toNat)))=_;rw [d,ta,Int.emod_eq_of_lt (by omega) (by omega)]
section
variable{tab:Nat→Option aw}{σ:gP}{sz:Nat}{H:aj}{b ep:Nat}{rows:List (List FC)}{cv:V}{W:List FC→Prop}{c:List FC→List FC→Int}
theorem NU.fm{p b:Nat}{H d:aj}(h:NU H p)(g:Fm b H d)(e:p≠b):NU d p:=by
 obtain⟨k,h⟩:=h;exact⟨k,g.get h e⟩
theorem Fm.far{p b:Nat}{H d g:aj}(h:Fm b H d)(q:H.length≤p)(m:Fm p d g):Fm b H g:=
 ⟨acT h.1 m.1,fun j n l=>(m.2 j (by omega) (Nat.lt_of_lt_of_le l h.1)).trans (h.2 j n l)⟩
theorem Tk(a:Int)(b:Int)(d:0≤b):∃ v,bt .shl (.c (.f (.int .u64 a))) (.c (.f (.int .u64 b)))=aa (.c (.f (.int .u64 v))):=⟨_,aag d⟩
theorem aai(a:Int)(b:Int)(d:0≤b):∃ v,bt .shr (.c (.f (.int .u64 a))) (.c (.f (.int .u64 b)))=aa (.c (.f (.int .u64 v))):=⟨_,aah d⟩
theorem L8(a b:Int):∃ v,bt .xor (.c (.f (.int .u64 a))) (.c (.f (.int .u64 b)))=aa (.c (.f (.int .u64 v))):=⟨_,aat⟩
theorem UZ(O:tab σ.SZ=aa (Ag σ sz)){p:Nat}(q:NU H p) :
  ∃ r s,Ev tab (.fn σ.SZ) [.c (.ptr p 0 0)] H r s∧((∃ k:Int,r=vu k)∧Fm p H s∧NU s p):=by
 obtain⟨k,q⟩:=q;have x:=av q;have j:∀(H:aj) (k:Int),p<H.length→(H.set p (.box [.f (.int .u64 k)] 0))[p]?=aa (.box [.f (.int .u64 k)] 0):=fun H k h=>List.getElem?_set_self h;refine dy O rfl fun Q N=>?_;apply ai;simp;obtain⟨a1,F⟩:=Tk k 13 (by omega);obtain⟨m,I⟩:=L8 k a1;apply ai;simp [q,F,I];obtain⟨u,b⟩:=bV (H.set p (.box [.f (.int .u64 m)] 0));rw [←b];have p1:u[p]?=aa (.box [.f (.int .u64 m)] 0):=by rw [b];exact j _ _ x
 have A:Fm p H u:=by rw [b];exact Fm.set _ _
 obtain⟨z,J⟩:=aai m 7 (by omega);obtain⟨a4,K⟩:=L8 m z;apply ai;simp [p1,J,K];obtain⟨v,d⟩:=bV (u.set p (.box [.f (.int .u64 a4)] 0));rw [←d];have p2:v[p]?=aa (.box [.f (.int .u64 a4)] 0):=by rw [d];exact j _ _ (av p1)
 have B:Fm p H v:=by rw [d];exact A.trans (Fm.set _ _)
 obtain⟨a5,L⟩:=Tk a4 17 (by omega);obtain⟨l,M⟩:=L8 a4 a5;apply ai;simp [p2,L,M];obtain⟨y,g⟩:=bV (v.set p (.box [.f (.int .u64 l)] 0));rw [←g];have p3:y[p]?=aa (.box [.f (.int .u64 l)] 0):=by rw [g];exact j _ _ (av p2)
 have E:Fm p H y:=by rw [g];exact B.trans (Fm.set _ _)
 apply ai;simp [p3];exact aG (N _ _ (vu l) rfl (by simp [Km.results,aY]) ⟨⟨l,rfl⟩,E,l,p3⟩)
theorem UY(q:tab σ.SY=aa (Af σ sz)){L k:Nat}(b:cB tab σ.len [vu L]=Eq (vi k))(v:L≤1000000000)(s:k≤62):cB tab σ.SY [vi L] (vu ((2:Int) ^ k)):=by
 refine du q rfl fun Q m=>?_;apply ai;simp;have d:IntKind.wrap .u64 (L:Int)=L:=by rw [ta];omega
 have j:(2:Nat) ^ k≤2 ^ 62:=aeo (by omega) s;have l:(2:Nat) ^ 62=4611686018427387904:=by decide
 have u:bt .shl (.c (.f (.int .u64 1))) (.c (.f (.int .i64 (k:Int))))=aa (vu ((2:Int) ^ k)):=by
  simp only [bt,aU (show¬ (k:Int)<0 by omega)];show aa (vu (IntKind.wrap .u64 (1*2 ^ (min (k:Int).toNat 64))))=_;have g:((2:Int) ^ k)=((2 ^ k:Nat):Int):=by simp
  obtain⟨w,d⟩:=bV (2 ^ k:Nat);rw [←d]at g j;rw [Int.toNat_natCast,Nat.min_eq_left (by omega),Int.one_mul,ta,g,Int.emod_eq_of_lt (by omega) (by omega)]
 apply ai;simp [d,b,u];exact aG (m _ _ ⟨rfl,_,by simp [Km.results,aY];rfl,by simp⟩)
theorem Uc(hT:tab σ.SO=aa (Jk σ sz))(hN:tab σ.SZ=aa (Ag σ sz))(hP:tab σ.SY=aa (Af σ sz)){n a L k:Nat}(I:cB tab σ.len [vu L]=Eq (vi k))(W:k≤62)(b_:2 ^ k≤2*L)(hn:rows.length=n)(hl:n≤1000000000)(v:RB H b sz ep rows)(hg:bC sz rows)(h8:8≤L)(b7:a+L≤n) :
  ∃ r O,Ev tab (.fn σ.SO) [.c (.sl b 0 n 0 ep sz),vi a,vi (a+L:Nat),cv] H r O∧(r=.t []∧Fm b H O∧∃ l',RB O b sz ep l'∧dG a (a+L) rows l'):=by
 have N:=(UY (σ:=σ) (sz:=sz) hP I (by omega) W).eq;obtain⟨d,hd⟩:=bV (L / 4);have hq:bt .quo (vi (L:Int)) (vi 4)=aa (vi (d:Int)):=by
  have:=Ri (a:=L) (b:=4) (by omega) (by omega);rw [hd];exact this
 have hw:IntKind.i64.wrap ((a:Int)+L-a)=L:=by rw [aK];omega
 have Z:IntKind.wrap .u64 (L:Int)=L:=by rw [ta];omega
 have h2:(2:Nat) ^ k≤2 ^ 62:=aeo (by omega) W;have a8:(2:Nat) ^ 62=4611686018427387904:=by decide
 have c6:0<(2:Nat) ^ k:=Nat.pow_pos (by omega);have hp:((2:Int) ^ k)=((2 ^ k:Nat):Int):=by simp
 have Y:IntKind.wrap .u64 ((2:Int) ^ k-1)=(2:Int) ^ k-1:=by rw [ta,hp,Int.emod_eq_of_lt (by omega) (by omega)]
 refine dy hT rfl fun Q hQ=>?_;apply ai;simp [hw];apply aq;refine au (.inl rfl) ?_;simp;refine an (by simp;omega) ?_;have b6:=v.lt;apply ai;simp [Z];obtain⟨y,z⟩:=bV (H++[.box [.f (.int .u64 (L:Int))] 0]);rw [←z];have p1:NU y H.length:=⟨L,by rw [z];simp⟩
 have f1:Fm b H y:=by rw [z];exact Fm.push _ _
 have r1:RB y b sz ep rows:=by rw [z];exact v.push _
 apply ai;simp [N];apply ai;simp [hq,aK (n:=(d:Int)*2),aK (n:=(a:Int)+d*2),aK (n:=(a:Int)+d*2-1)];refine aB ?_;refine bu (fun m s=>∃(i:Nat) (t:T) (y:aj) (l:List (List FC)),s=⟨t,[],y⟩∧i+m=a+d*2+2∧a≤i∧i≤a+d*2+2∧t.g 0=.c (.sl b 0 n 0 ep sz)∧t.g 1=vi a∧t.g 8=vi L∧t.g 9=.c (.ptr H.length 0 0)∧t.g 10=vu ((2:Int) ^ k)∧t.g 11=vi i ∧
  Fm b H y∧NU y H.length∧RB y b sz ep l∧dG a (a+L) rows l) 3
  ⟨a+d*2-1,_,y,rows,rfl,by omega,by omega,by omega,by simp,by simp,by simp,by simp,by simp,by simp;omega,f1,p1,r1,dG.refl _ _ _⟩ ?_
 rintro m s ⟨i,t,y,l,rfl,hm,a_,hi,E,B,A,F,g10,u,K,X,v,g⟩ ih;have M:=g.len;apply aq;apply ai;simp [B,A,u,hq,aK (n:=(d:Int)*2),aK (n:=(a:Int)+d*2),aK (n:=(a:Int)+d*2+1)];by_cases c4:i≤a+d*2+1
 case neg=>
  refine aD (by simp;omega) ?_;refine ba (k':=[]) rfl ?_;exact eu (hQ _ _ _ rfl rfl ⟨rfl,K,l,v,g⟩)
 refine an (by simp;omega) (aO ?_);obtain⟨r,H2,U,⟨x,rfl⟩,f2,n2⟩:=UZ (σ:=σ) (sz:=sz) hN X;have U:=U.eq;obtain⟨o,ho,J⟩:=Jc (x:=x) (k:=k) W;have r2:RB H2 b sz ep l:=f2.get v (by omega);have f3:=K.far (IT _) f2;apply aq;refine aB ?_;apply ai;simp [F,g10,U,Y,J,aK (n:=(o:Int))];have go:∀(t:T) (q:Nat),q<L→t.g 0=.c (.sl b 0 n 0 ep sz)→t.g 1=vi a→t.g 8=vi L→t.g 9=.c (.ptr H.length 0 0)→t.g 10=vu ((2:Int) ^ k)→t.g 11=vi i→t.g 12=vi q →
   WP tab σ.SO ab [.code (Ji sz),.inBlock 1,.code (Jj),.inLoop (Jh σ sz),.inBlock 0] ⟨t,[],H2⟩ Q:=by
  intro t q c7 E B A F g10 u S;obtain⟨x5,y5,H5,H6,-,-,i5,j5,l5,l6,w5,w6,s5,j6,s6,r6,f6⟩:=r2.fO (g.o9 hg) (M.trans hn) (i:=i) (j:=a+q) (by omega) (by omega);have ce:((a+q:Nat):Int)=(a:Int)+q:=by omega
  rw [ce]at j5 j6;refine au (.inl rfl) ?_;simp [E,B,u,S,i5,j5,l5,l6,w5,w6,s5,j6,s6,-aP,-bZ,aK (n:=(a:Int)+q)];refine az (au (.inl rfl) ?_);simp [u,aK (n:=(i:Int)+1)];exact ih (m-1) _ (by omega) ⟨i+1,_,H6,_,rfl,by omega,by omega,by omega,by simp [E],by simp [B],by simp [A],by simp [F],by simp [g10],by simp,f3.trans f6,n2.fm f6 (by omega),r6,
   g.trans (dY (by omega) (by omega) (by omega) (by omega) (by omega))⟩
 apply aq;apply aq;refine au (.inl rfl) ?_;simp [A];by_cases b9:L≤o
 ·refine an (by simp;omega) ?_;refine au (.inl rfl) ?_;simp [A,aK (n:=(o:Int)-L)];exact go _ (o-L) (by omega) (by simp [E]) (by simp [B]) (by simp [A]) (by simp [F]) (by simp [g10]) (by simp [u]) (by simp;omega)
 ·refine aD (by simp;omega) (aO ?_);exact go _ o (by omega) (by simp [E]) (by simp [B]) (by simp [A]) (by simp [F]) (by simp [g10]) (by simp [u]) (by simp)
end
section
variable{W:List FC→Prop}{c:List FC→List FC→Int}{l l':List (List FC)}
def Rest(c:List FC→List FC→Int)(a p q e:Nat)(l:List (List FC)):Prop:=∀ i j,a≤i→i<j→j<e→¬ (p≤i∧j<q)→hU c l i j
theorem Rest.all(c:List FC→List FC→Int)(a e:Nat)(l:List (List FC)):Rest c a a e e l:=fun i j b d g m=>by omega
theorem Rest.rq{a p q e:Nat}(h:Rest c a p q e l)(b:dG p q l l')(d:p≤q)(E:q≤l.length)(K:a≤p)(L:q≤e):Rest c a p q e l':=by
 intro i j A I B J x y g hy;by_cases v:p≤i∧i<q
 ·obtain⟨M,i1,i2,s⟩:=b.mem d E v.1 v.2 g;rw [b.ge (by omega)]at hy;exact h M j (by omega) (by omega) B (by omega) x y s hy
 by_cases z:p≤j∧j<q
 ·obtain⟨N,O,Q,u⟩:=b.mem d E z.1 z.2 hy;rw [b.lt (by omega)]at g;exact h i N A (by omega) (by omega) (by omega) x y g u
 have F:l'[i]?=l[i]?:=by
  by_cases m:i<p
  ·exact b.lt m
  ·exact b.ge (by omega)
 have H:l'[j]?=l[j]?:=by
  by_cases m:j<p
  ·exact b.lt m
  ·exact b.ge (by omega)
 rw [F]at g;rw [H]at hy;exact h i j A I B J x y g hy
theorem Rest.up{a p q e:Nat}(h:Rest c a p q e l)(hu:Up c p q l):Up c a e l:=fun i j x y m d s g hy=>by
 by_cases b:p≤i∧j<q
 ·exact hu i j x y b.1 d b.2 g hy
 ·exact h i j m d s b x y g hy
theorem Rest.low{a p q e:Nat}(h:Rest c a p q e l)(m:xQ c a e l)(j:a≤p)(s:q≤e):xQ c p q l:=fun k d g u=>by
 by_cases b:p=a
 ·subst b;exact m k d g (by omega)
 ·exact h (p-1) k (by omega) (by omega) (by omega) (by omega)
theorem Rest.left{a p q e m:Nat}(H:Rest c a p q e l)(hc:ru W c)(s:∀ r ∈ l,W r)(B:e≤l.length)(F:ka c p q m l)(hu:Up c p m l)(J:p≤m)(K:m<q)(L:q≤e):Rest c a (m+1) q e l:=by
 intro i j i1 A I M;by_cases g:p≤i∧j<q
 case neg=>exact H i j i1 A I g
 obtain⟨v,z,lo,E⟩:=F;rcases adn j m with u | u | u
 ·exact fun x y d hy=>hu i j x y g.1 A u d hy
 ·subst u;intro x y d hy;rw [z]at hy;cases hy;exact hc.x4 (s _ (acI d)) (s _ (acI z)) (lo i x g.1 A d)
 ·have b:i≤m:=by omega
  have right:hU c l m j:=fun x y d hy=>by
   rw [z]at d;cases d;exact E j y u g.2 hy
  rcases Nat.lt_or_eq_of_le b with b | b
  ·have left:hU c l i m:=fun x y d hy=>by
    rw [z]at hy;cases hy;exact hc.x4 (s _ (acI d)) (s _ (acI z)) (lo i x g.1 b d)
   exact left.trans hc s right (by omega)
  ·subst b;exact right
theorem Rest.right{a p q e m:Nat}(H:Rest c a p q e l)(hc:ru W c)(u:∀ r ∈ l,W r)(E:e≤l.length)(F:ka c p q m l)(hu:Up c (m+1) q l)(J:p≤m)(K:m<q)(L:q≤e):Rest c a p m e l:=by
 intro i j i1 A I M;by_cases d:p≤i∧j<q
 case neg=>exact H i j i1 A I d
 obtain⟨v,s,lo,B⟩:=F;rcases adn i m with g | g | g
 ·have left:hU c l i m:=fun x y b hy=>by
   rw [s]at hy;cases hy;exact hc.x4 (u _ (acI b)) (u _ (acI s)) (lo i x d.1 g b)
  rcases Nat.lt_or_eq_of_le (show m≤j by omega)with z | z
  ·have right:hU c l m j:=fun x y b hy=>by
    rw [s]at b;cases b;exact B j y z d.2 hy
   exact left.trans hc u right (by omega)
  ·subst z;exact left
 ·subst g;intro x y b hy;rw [s]at b;cases b;exact B j y A d.2 hy
 ·exact fun x y b hy=>hu i j x y (by omega) A d.2 b hy
theorem Rest.equal{a p q e m:Nat}{v:List FC}(J:Rest c a p q e l)(hc:ru W c)(g:∀ r ∈ l,W r)(b:xQ c p q l)(F:0<p){w:List FC}(A:l[p-1]?=aa w)(z:W v)(u:¬ c w v<0)
  (lo:∀(k:Nat) x,p≤k→k<m→l[k]?=aa x→¬ c v x<0):Rest c a m q e l:=by
 intro i j i1 K L O;by_cases d:p≤i∧j<q
 case neg=>exact J i j i1 K L d
 intro x y B hy;have s:i<m:=by omega
 have H:=lo i x d.1 s B;have I:=b j F (by omega) d.2 w y A hy;have N:=g _ (acI B);have E:=g _ (acI hy);have M:=g _ (acI A);exact hc.trans N z E H (hc.trans z M E u I)
theorem ka.rq{p q m g q':Nat}(I:ka c p q m l)(d:dG g q' l l')(h:(p≤g∧q'≤m)∨(m<g∧q'≤q))(s:g≤q')(E:q'≤l.length):ka c p q m l':=by
 obtain⟨v,F,lo,A⟩:=I;refine⟨v,?_,fun k x u y b=>?_,fun k x u y b=>?_⟩
 ·rcases h with h | h
  ·rw [d.ge (by omega)];exact F
  ·rw [d.lt (by omega)];exact F
 ·by_cases j:g≤k∧k<q'
  ·obtain⟨k',a1,H,B⟩:=d.mem s E j.1 j.2 b;rcases h with h | h
   ·exact lo k' x (by omega) (by omega) B
   ·omega
  ·by_cases z:k<g
   ·rw [d.lt z]at b;exact lo k x u y b
   ·rw [d.ge (by omega)]at b;exact lo k x u y b
 ·by_cases j:g≤k∧k<q'
  ·obtain⟨k',a1,H,B⟩:=d.mem s E j.1 j.2 b;rcases h with h | h
   ·omega
   ·exact A k' x (by omega) (by omega) B
  ·by_cases z:k<g
   ·rw [d.lt z]at b;exact A k x u y b
   ·rw [d.ge (by omega)]at b;exact A k x u y b
end
structure Pq(b n ep sz:Nat)(cv:V)(H:aj)(c:List FC→List FC→Int)(rows:List (List FC))(a e:Nat)(t:T)(H1:aj)(l:List (List FC))(p q:Nat)(lim:Int):Prop where
 g0:t.g 0=.c (.sl b 0 n 0 ep sz)
 g1:t.g 1=vi p
 g2:t.g 2=vi q
 g3:t.g 3=vi lim
 g4:t.g 4=cv
 fr:Fm b H H1
 rb:RB H1 b sz ep l
 sg:dG a e rows l
 re:Rest c a p q e l
 ap:a≤p
 pq:p≤q
 qe:q≤e
theorem Pq.al{b n ep sz:Nat}{cv:V}{H:aj}{c:List FC→List FC→Int}{rows:List (List FC)}{a e:Nat}{t:T}{g:aj}{l:List (List FC)}{p q:Nat}{lim:Int}(h:Pq b n ep sz cv H c rows a e t g l p q lim)
  {d:T} (j:d.g 0=t.g 0) (m:d.g 1=t.g 1) (s:d.g 2=t.g 2) (u:d.g 3=t.g 3) (v:d.g 4=t.g 4):Pq b n ep sz cv H c rows a e d g l p q lim:=
 ⟨j.trans h.g0,m.trans h.g1,s.trans h.g2,u.trans h.g3,v.trans h.g4,h.fr,h.rb,h.sg,h.re,h.ap,h.pq,h.qe⟩
theorem Pq.rq{b n ep sz:Nat}{cv:V}{H:aj}{c:List FC→List FC→Int}{rows:List (List FC)}{a e:Nat}{t:T}{g:aj}{l:List (List FC)}{p q:Nat}{lim:Int}(h:Pq b n ep sz cv H c rows a e t g l p q lim)
  {d:aj} {l2:List (List FC)} (u:Fm b g d) (m:RB d b sz ep l2) (j:dG p q l l2) (s:e≤rows.length):Pq b n ep sz cv H c rows a e t d l2 p q lim:=
 ⟨h.g0,h.g1,h.g2,h.g3,h.g4,h.fr.trans u,m,h.sg.trans (j.mono h.ap h.qe),h.re.rq j h.pq (by rw [h.sg.len];exact acT h.qe s) h.ap h.qe,h.ap,h.pq,h.qe⟩
structure XK(tab:Nat→Option aw)(σ:gP)(sz:Nat):Prop where
 y8:tab σ.y8=aa (K4 σ sz)
 ins:tab σ.ins=aa (v3 σ sz)
 heap:tab σ.heap=aa (yB σ sz)
 rP:tab σ.rP=aa (uG σ sz)
 SO:tab σ.SO=aa (Jk σ sz)
 Rg:tab σ.Rg=aa (Lb σ sz)
 rev:tab σ.rev=aa (LC σ sz)
 part:tab σ.part=aa (y6 σ sz)
 K5:tab σ.K5=aa (K9 σ sz)
 pins:tab σ.pins=aa (y_ σ sz)
 rF:tab σ.rF=aa (tS σ sz)
 Mc:tab σ.Mc=aa (wj σ sz)
 ord:tab σ.ord=aa (sJ σ sz)
 SY:tab σ.SY=aa (Af σ sz)
 SZ:tab σ.SZ=aa (Ag σ sz)
section
variable{tab:Nat→Option aw}{σ:gP}{sz:Nat}{b ep n:Nat}{cv:V}{W:List FC→Prop}{c:List FC→List FC→Int}
theorem VK(hT:XK tab σ sz)(a_:Cv tab cv W c)(hc:ru W c)(hl:n≤1000000000)(c7:∀ L:Nat,L≤n→∃ k:Nat,cB tab σ.len [vu L]=Eq (vi k)∧k≤62∧(0<L→2 ^ k≤2*L)) :
  ∀(m a e:Nat) (H:aj) (rows:List (List FC)) (lim:Int),e-a=m→a≤e→e≤n→rows.length=n→RB H b sz ep rows→bC sz rows→(∀ r ∈ rows,W r)→xQ c a e rows →
  ∃ r H',Ev tab (.fn σ.y8) [.c (.sl b 0 n 0 ep sz),vi a,vi e,vi lim,cv] H r H'∧(r=.t []∧Fm b H H'∧∃ l',RB H' b sz ep l'∧dG a e rows l'∧Up c a e l'):=by
 intro m;induction m using Nat.strongRecOn with
 | ind m IH=>
 intro a e H rows lim hm c8 c_ hn f_ hg hW d6;have I:∀ {l p q},dG p q rows l→bC sz l:=fun h=>h.o9 hg;have B:∀ {l p q},dG p q rows l→∀ r ∈ l,W r:=fun h r hr=>hW r (h.1.mem_iff.1 hr);refine dy hT.y8 rfl fun Q hQ=>?_;have done:∀ {K:aj} {l:List (List FC)},Fm b H K→RB K b sz ep l→dG a e rows l→Up c a e l→∀(j:Option ak) (t:T),Q j ⟨t,[],K⟩:=
  fun hf hr hs hu j t=>hQ _ _ (.t []) rfl rfl ⟨rfl,hf,_,hr,hs,hu⟩
 apply ai;simp;apply ai;simp;refine aB ?_;refine bu (fun m s=>∃(p q:Nat) (lim:Int) (w1 w2:Bool) (t:T) (K:aj) (l:List (List FC)),s=⟨t,[],K⟩∧m=q-p∧Pq b n ep sz cv H c rows a e t K l p q lim∧t.g 10=vb w1∧t.g 11=vb w2) _
  ⟨a,e,lim,ae,ae,_,H,rows,rfl,rfl,⟨by simp,by simp,by simp,by simp,by simp,Fm.refl H,f_,dG.refl _ _ _,Rest.all c a e rows,IT _,c8,IT _⟩,by simp,by simp⟩ ?_
 rintro m1 s ⟨p,q,lim,w1,w2,t,K,l,rfl,rfl,u,g10,M⟩ ih;obtain⟨O,S,N,g3,U,-,-,-,-,ap,pq,qe⟩:=id u;refine aB ?_;apply ai;obtain⟨L,rfl⟩:∃ L,q=p+L:=⟨q-p,by omega⟩
 have hw:IntKind.i64.wrap ((p:Int)+L-p)=L:=by rw [aK];omega
 have z:∀ {K t l lim p q},Pq b n ep sz cv H c rows a e t K l p q lim→l.length=n:=fun h=>h.sg.len.trans hn;have b6:∀ {K t l lim p q},Pq b n ep sz cv H c rows a e t K l p q lim→xQ c p q l:=fun h=>h.re.low (d6.rq h.sg (IT _) (IT _) c8 (by omega)) h.ap h.qe;simp [S,N,hw];apply aq;apply ai;simp;by_cases g_:L≤12
 ·refine an (by simp;omega) ?_;obtain⟨r,H2,A,rfl,f2,l2,r2,s2,u2⟩:=UJ hT.ins a_ hc (z u) hl u.rb (I u.sg) (B u.sg) u.pq (by omega);apply ai;have A:=A.eq;simp at A;simp [O,S,N,U,A];have g:=u.rq f2 r2 s2 (by omega);exact aG (done g.fr g.rb g.sg (g.re.up u2) _ _)
 refine aD (by simp;omega) (aO ?_);apply aq;apply ai;simp [g3];by_cases d5:lim=0
 ·refine an (by simp [d5]) ?_;obtain⟨r,H2,A,rfl,f2,l2,r2,s2,u2⟩:=PL hT.heap hT.rP a_ hc (z u) hl u.rb (I u.sg) (B u.sg) (show p<p+L by omega) (by omega);apply ai;have A:=A.eq;simp at A;simp [O,S,N,U,A];have g:=u.rq f2 r2 s2 (by omega);exact aG (done g.fr g.rb g.sg (g.re.up u2) _ _)
 refine bg (by simp [d5]) ?_;have e_:∀(t:T) (K:aj) (l:List (List FC)) (lim:Int) (v:Nat),Pq b n ep sz cv H c rows a e t K l p (p+L) lim→t.g 12=vi L→t.g 13=vi v→p≤v→v<p+L →
   WP tab σ.y8 ab [.code (K3 σ),.inBlock 1,.inLoop (sS σ sz),.inBlock 0] ⟨t,[],K⟩ Q:=by
  intro t K l lim v u X Y Z a8;obtain⟨O,S,N,g3,U,-,-,-,-,-,-,-⟩:=id u;obtain⟨r,H2,A,mid,w,rfl,m1,m2,f2,l2,r2,s2,pt⟩:=QR hT.part a_ (z u) hl u.rb (I u.sg) (B u.sg) (show p<p+L by omega) (by omega) Z a8;have A:=A.eq;simp at A;have g:=u.rq f2 r2 s2 (by omega);have d7:=z g;obtain⟨d,hd⟩:=bV (L / 8);have hq:bt .quo (vi (L:Int)) (vi 8)=aa (vi (d:Int)):=by
   have:=Ri (a:=L) (b:=8) (by omega) (by omega);rw [hd];exact this
  apply ai;simp [O,S,N,U,Y,A];apply ai;simp;apply ai;simp [S,N];apply ai;simp [X,hq];apply aq;refine au (.inl rfl) ?_;simp [aK (n:=(mid:Int)-p),aK (n:=(p:Int)+L-mid)];by_cases h_:(mid:Int)-p<(p:Int)+L-mid
  ·refine an (by simp;omega) ?_;obtain⟨r,H3,A,rfl,f3,l3,r3,s3,u3⟩:=IH (mid-p) (by omega) p mid H2 l2 lim rfl m1 (by omega) d7 r2 (I g.sg) (B g.sg) ((b6 g).mono (by omega));have A:=A.eq;have E:=g.rq f3 r3 (s3.mono (IT _) (by omega)) (by omega);apply ai;simp;apply ai;simp [O,S,g3,U,A];refine au (.inl rfl) ?_;simp [aK (n:=(mid:Int)+1)];refine az (ih _ _ (by omega) ⟨mid+1,p+L,lim,_,w,_,H3,l3,rfl,rfl,⟨by simp [O],by simp,by simp [N],by simp [g3],by simp [U],E.fr,E.rb,E.sg,?_,by omega,by omega,E.qe⟩,by simp;rfl,by simp⟩);exact E.re.left hc (B E.sg) (by rw [z E];exact c_) (pt.rq s3 (.inl ⟨IT _,IT _⟩) m1 (by omega)) u3 m1 m2 E.qe
  ·refine aD (by simp;omega) ?_;have d8:xQ c (mid+1) (p+L) l2:=fun k h0 k1 k2 x y hx hy=>by
    obtain⟨v,hv,lo,hi⟩:=pt;rw [show mid+1-1=mid by omega,hv]at hx;cases hx;exact hi k y (by omega) k2 hy
   obtain⟨r,H3,A,rfl,f3,l3,r3,s3,u3⟩:=IH (p+L-(mid+1)) (by omega) (mid+1) (p+L) H2 l2 lim rfl (by omega) (by omega) d7 r2 (I g.sg) (B g.sg) d8;have A:=A.eq;simp at A;have E:=g.rq f3 r3 (s3.mono (by omega) (IT _)) (by omega);apply ai;simp;apply ai;simp [O,N,g3,U,A,aK (n:=(mid:Int)+1)];refine au (.inl rfl) ?_;simp;refine az (ih _ _ (by omega) ⟨p,mid,lim,_,w,_,H3,l3,rfl,rfl,⟨by simp [O],by simp [S],by simp,by simp [g3],by simp [U],E.fr,E.rb,E.sg,?_,by omega,by omega,by omega⟩,by simp;rfl,by simp⟩);exact E.re.right hc (B E.sg) (by rw [z E];exact c_) (pt.rq s3 (.inr ⟨by omega,IT _⟩) (by omega) (by omega)) u3 m1 m2 E.qe
 have b9:∀(t:T) (K:aj) (l:List (List FC)) (lim:Int) (v:Nat) (w1 w2:Bool),Pq b n ep sz cv H c rows a e t K l p (p+L) lim→t.g 12=vi L→t.g 13=vi v→t.g 10=vb w1→t.g 11=vb w2→p≤v→v<p+L →
   WP tab σ.y8 ab [.code (K2 σ sz),.inBlock 1,.inLoop (sS σ sz),.inBlock 0] ⟨t,[],K⟩ Q:=by
  intro t K l lim v w1 w2 u X Y g10 M Z a8;obtain⟨O,S,N,g3,U,-,-,-,-,-,-,-⟩:=id u;apply aq;apply ai;rcases adX p with b_ | b_
  ·simp [S,b_];refine bg (by simp) ?_;exact e_ _ K l lim v (u.al (by simp [O]) (by simp [S,b_]) (by simp [N]) (by simp [g3]) (by simp [U])) (by simp [X]) (by simp [Y]) Z a8
  obtain⟨d,rfl⟩:∃ d,p=d+1:=⟨p-1,by omega⟩
  have f9:(0:Int)<(d:Int)+1:=by omega
  have c1:((d+1:Nat):Int)=(d:Int)+1:=by omega
  have c2:((d+1+L:Nat):Int)=(d:Int)+1+L:=by omega
  obtain⟨x,y,F,ar,J,hx,hy,i1,j1,l1,l2,c9,A,wx,wy⟩:=u.rb.ask (I u.sg) a_ (B u.sg) (z u) (i:=d) (j:=v) (by omega) (by omega);have c6:t.g 1=vi ((d:Int)+1):=by rw [S,c1]
  simp [O,c6,U,Y,f9,i1,j1,l1,l2,c9,A,-aP,aK (n:=(d:Int))];have b7:Pq b n ep sz cv H c rows a e t (K++J) l (d+1) (d+1+L) lim:=u.rq (Fm.push _ _) (u.rb.push _) (dG.refl _ _ _) (by omega);by_cases c4:c x y<0
  ·refine bg (by simp [c4]) ?_;exact e_ _ _ l lim v (b7.al (by simp [O]) (by simp [S]) (by simp [N]) (by simp [g3]) (by simp [U])) (by simp [X]) (by simp [Y]) Z a8
  refine an (by simp [c4]) ?_;obtain⟨r,H2,A,mid,rfl,m1,m2,f2,l2,r2,s2,lo,hi⟩:=VX hT.K5 a_ hc (z b7) hl b7.rb (I b7.sg) (B b7.sg) (show d+1<d+1+L by omega) (by omega) Z a8 hy;have A:=A.eq;have g:=b7.rq f2 r2 s2 (by omega);rw [c1,c2]at A;rw [c2]at N;apply ai;simp [O,c6,N,U,Y,A];apply ai;simp;refine ba (k':=[.inLoop (sS σ sz),.inBlock 0]) rfl ?_;refine ih _ _ (by omega) ⟨mid,d+1+L,lim,w1,w2,_,H2,l2,rfl,rfl,⟨by simp [O],by simp,by simp [N],by simp [g3],by simp [U],g.fr,g.rb,g.sg,?_,by omega,by omega,g.qe⟩,by simp [g10],by simp [M]⟩;refine g.re.equal hc (B g.sg) (b6 g) (by omega) (w:=x) (v:=y) ?_ wy c4 lo;rw [show d+1-1=d by omega,s2.lt (by omega)];exact hx
 have d_:∀(t:T) (K:aj) (l:List (List FC)) (lim:Int) (v:Nat) (w1 w2:Bool) (hint:Int),Pq b n ep sz cv H c rows a e t K l p (p+L) lim→t.g 12=vi L→t.g 13=vi v→t.g 14=vi hint→t.g 10=vb w1→t.g 11=vb w2→p≤v→v<p+L →
   WP tab σ.y8 ab [.code (K1 σ sz),.inBlock 1,.inLoop (sS σ sz),.inBlock 0] ⟨t,[],K⟩ Q:=by
  intro t K l lim v w1 w2 hint u X Y f4 g10 M Z a8;obtain⟨O,S,N,g3,U,-,-,-,-,-,-,-⟩:=id u;apply aq;apply ai;cases w1 with
  | false=>
   simp [g10];refine bg (by simp) ?_;exact b9 _ _ l lim v ag w2 (u.al (by simp [O]) (by simp [S]) (by simp [N]) (by simp [g3]) (by simp [U])) (by simp [X]) (by simp [Y]) (by simp [g10]) (by simp [M]) Z a8
  | true=>
  cases w2 with
  | false=>
   simp [g10,M];refine bg (by simp) ?_;exact b9 _ _ l lim v ae ag (u.al (by simp [O]) (by simp [S]) (by simp [N]) (by simp [g3]) (by simp [U])) (by simp [X]) (by simp [Y]) (by simp [g10]) (by simp [M]) Z a8
  | true=>
  simp [g10,M,f4];by_cases h1:hint=1
  case neg=>
   refine bg (by simp [h1]) ?_;exact b9 _ _ l lim v ae ae (u.al (by simp [O]) (by simp [S]) (by simp [N]) (by simp [g3]) (by simp [U])) (by simp [X]) (by simp [Y]) (by simp [g10]) (by simp [M]) Z a8
  refine an (by simp [h1]) ?_;obtain⟨r,H2,A,w,rfl,f2,l2,r2,s2,u2⟩:=Rf hT.pins a_ hc (z u) hl u.rb (I u.sg) (B u.sg) (show p<p+L by omega) (by omega) (b6 u);have A:=A.eq;simp at A;have g:=u.rq f2 r2 s2 (by omega);apply ai;simp [O,S,N,U,A];cases w with
  | true=>
   refine an (by simp) ?_;exact aG (done g.fr g.rb g.sg (g.re.up (u2 rfl)) _ _)
  | false=>
   refine bg (by simp) ?_;exact b9 _ _ l2 lim v ae ae (g.al (by simp [O]) (by simp [S]) (by simp [N]) (by simp [g3]) (by simp [U])) (by simp [X]) (by simp [Y]) (by simp [g10]) (by simp [M]) Z a8
 have d9:∀(t:T) (K:aj) (l:List (List FC)) (lim:Int) (w1 w2:Bool),Pq b n ep sz cv H c rows a e t K l p (p+L) lim→t.g 12=vi L→t.g 10=vb w1→t.g 11=vb w2 →
   WP tab σ.y8 ab [.code (K0 σ sz),.inBlock 1,.inLoop (sS σ sz),.inBlock 0] ⟨t,[],K⟩ Q:=by
  intro t K l lim w1 w2 u X g10 M;obtain⟨O,S,N,g3,U,-,-,-,-,-,-,-⟩:=id u;obtain⟨r,H2,A,⟨v,hint,rfl,v1,v2⟩,kp⟩:=Wc hT.Rg hT.rF hT.Mc hT.ord a_ (z u) hl u.rb (I u.sg) (B u.sg) (show p+8≤p+L by omega) (by omega);have A:=A.eq;simp at A;have g:Pq b n ep sz cv H c rows a e t H2 l p (p+L) lim:=u.rq kp.fm (kp.rb u.rb) (dG.refl _ _ _) (by omega);apply ai;simp [O,S,N,U,A];apply aq;apply ai;simp;by_cases h2:hint=2
  case neg=>
   refine bg (by simp [h2]) ?_;exact d_ _ _ l lim v w1 w2 hint (g.al (by simp [O]) (by simp [S]) (by simp [N]) (by simp [g3]) (by simp [U])) (by simp [X]) (by simp) (by simp) (by simp [g10]) (by simp [M]) v1 v2
  refine an (by simp [h2]) ?_;obtain⟨r,H3,A,rfl,f3,l3,r3,s3⟩:=WN hT.rev (cv:=cv) (z g) hl g.rb (I g.sg) (show p<p+L by omega) (by omega);have A:=A.eq;simp at A;have E:=g.rq f3 r3 s3 (by omega);apply ai;simp [O,S,N,U,A];apply ai;simp [S,N,aK (n:=(p:Int)+L-1),aK (n:=(v:Int)-p),aK (n:=(p:Int)+L-1-(v-p))];refine au (.inl rfl) ?_;simp;exact d_ _ _ l3 lim (p+L-1-(v-p)) w1 w2 1 (E.al (by simp [O]) (by simp [S]) (by simp [N]) (by simp [g3]) (by simp [U])) (by simp [X]) (by simp;omega) (by simp) (by simp [g10]) (by simp [M]) (by omega) (by omega)
 apply aq;apply ai;simp [g10];cases w1 with
 | true=>
  refine bg (by simp) ?_;exact d9 _ _ l lim ae w2 (u.al (by simp [O]) (by simp [S]) (by simp [N]) (by simp [g3]) (by simp [U])) (by simp) (by simp [g10]) (by simp [M])
 | false=>
  refine an (by simp) ?_;obtain⟨k,hk,f7,f8⟩:=c7 L (by omega);obtain⟨r,H2,A,rfl,f2,l2,r2,s2⟩:=Uc (cv:=cv) hT.SO hT.SZ hT.SY hk f7 (f8 (by omega)) (z u) hl u.rb (I u.sg) (a:=p) (by omega) (by omega);have A:=A.eq;simp at A;have g:=u.rq f2 r2 s2 (by omega);apply ai;simp [O,S,N,U,A];refine au (.inl rfl) ?_;simp [g3];exact d9 _ _ l2 _ ag w2 ⟨by simp [O],by simp [S],by simp [N],by simp;rfl,by simp [U],g.fr,g.rb,g.sg,g.re,g.ap,g.pq,g.qe⟩ (by simp) (by simp [g10]) (by simp [M])
end
def sort_1:ak:=.region [⟨D 5,.cb (R 0),ab⟩,⟨D 6,.len (R 5),ab⟩,⟨D 4,.cb (R 6),ab⟩] []
def WV(σ:gP):ak:=.region [⟨D 7,.cb (R 0),ab⟩,⟨D 8,.cb (R 4),ab⟩,⟨D 9,.cb (R 4),ab⟩,⟨D 10,.gF .u64 (R 9),ab⟩,⟨D 11,.call σ.len [(R 10)] ag,ab⟩,⟨D 12,.cb (R 1),ab⟩,⟨D 13,.call σ.y8 [(R 7),(.k (.c (.f (.int .i64 0)))),(R 8),(R 11),(R 12)] ae,ab⟩] []
def WW(σ:gP):aw:=⟨[P.nat 0,P.nat 1],[],.seq sort_1 (WV σ)⟩
section
variable{tab:Nat→Option aw}{σ:gP}{sz:Nat}{cv:V}{W:List FC→Prop}{c:List FC→List FC→Int}{N:Nat}
def aa_(tab:Nat→Option aw)(σ:gP)(N:Nat):Prop:=∀ L:Nat,L≤N→∃ k:Nat,cB tab σ.len [vu L]=Eq (vi k)∧k≤62∧(0<L→2 ^ k≤2*L)
theorem PQ(g:tab σ.ins=aa (v3 σ sz)){H:aj}{v:V}:Ev tab (.fn σ.ins) [v,vi 0,vi 0,cv] H (.t []) H:=by
 obtain⟨r,b,j,rfl,rfl⟩:∃ r b,Ev tab (.fn σ.ins) [v,vi 0,vi 0,cv] H r b∧(r=.t []∧b=H):=by
  refine dy g rfl fun Q d=>?_;apply ai;simp [aK (n:=(1:Int))];refine aB ?_;refine bu (fun _ s=>s=⟨_,[],H⟩) 0 rfl ?_;rintro _ s rfl -;apply aq;apply ai;simp;refine aD (by simp) ?_;refine ba (k':=[]) rfl ?_;exact eu (d _ _ _ rfl rfl ⟨rfl,rfl⟩)
 exact j
theorem QS(j:tab σ.y8=aa (K4 σ sz))(d:tab σ.ins=aa (v3 σ sz)){H:aj}{v:V}{lim:Int}:Ev tab (.fn σ.y8) [v,vi 0,vi 0,vi lim,cv] H (.t []) H:=by
 have m:=(PQ (σ:=σ) (sz:=sz) (cv:=cv) d (H:=H) (v:=v)).eq;obtain⟨r,b,l,rfl,rfl⟩:∃ r b,Ev tab (.fn σ.y8) [v,vi 0,vi 0,vi lim,cv] H r b∧(r=.t []∧b=H):=by
  refine dy j rfl fun Q g=>?_;apply ai;simp;apply ai;simp;refine aB ?_;refine bu (fun _ s=>s=⟨_,[],H⟩) 0 rfl ?_;rintro _ s rfl -;refine aB ?_;apply ai;simp [aK (n:=(0:Int))];apply aq;apply ai;simp;refine an (by simp) ?_;apply ai;simp [m];exact aG (g _ _ _ rfl rfl ⟨rfl,rfl⟩)
 exact l
end
end Km
