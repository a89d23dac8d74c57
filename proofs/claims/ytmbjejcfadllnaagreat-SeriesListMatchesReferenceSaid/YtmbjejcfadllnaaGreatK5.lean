/-
  Our own small machine for Go code by value, held s9 the model: part 5. No program in Gx.
-/
import Derived.Test.YtmbjejcfadllnaaGreatK4
open Option renaming some → ab,none → ae
open Bool renaming true → ag,false → ah
open Option.some renaming inj → au9
open List renaming mem_of_getElem? → atZ, getElem?_eq_getElem → AT
open Nat renaming le_refl → aft, eq_zero_or_pos → auv, pow_le_pow_right → avy, le_trans → aua, lt_trichotomy → auj, lt_or_eq_of_le → auk
open Int renaming toNat_natCast → aug
set_option linter.unusedVariables false
set_option linter.constructorNameAsVariable false
set_option linter.unusedSimpArgs false
set_option linter.unusedSectionVars false
set_option maxRecDepth 100000
namespace Km
open Go
section
variable{tab:Nat→Option aB}{σ:jS}{sz:Nat}{cv:V}{W:List FC→Prop}{c:List FC→List FC→Int}
def MW(c:List FC→List FC→Int)(a i j e:Nat)(p:List FC)(l:List (List FC)):Prop:=
 l[a]?=ab p∧(∀(k:Nat) x,a<k→k<i→l[k]?=ab x→¬ c p x<0)∧(∀(k:Nat) x,j<k→k<e→l[k]?=ab x→c p x<0)
theorem MW.swap{a i j e:Nat}{p:List FC}{l:List (List FC)}(h:MW c a i j e p l)(y:a<i)(z:i<j)(d:j<l.length)(hi:∀ x,l[i]?=ab x→c p x<0)(A:∀ x,l[j]?=ab x→¬ c p x<0):MW c a (i+1) (j-1) e p (jn l i j):=by
 obtain⟨s,u,v⟩:=h;have g:∀ k,(jn l i j)[k]?=if k=j then l[i]? else if k=i then l[j]? else l[k]?:=fun k=>hY (by omega) d k;refine⟨?_,fun k x m q b=>?_,fun k x m q b=>?_⟩
 ·rw [g,aY (by omega),aY (by omega)];exact s
 ·rw [g,aY (by omega)]at b;by_cases e:k=i
  ·rw [bg e]at b;exact A x b
  ·rw [aY e]at b;exact u k x m (by omega) b
 ·rw [g]at b;by_cases e:k=j
  ·rw [bg e]at b;exact hi x b
  ·rw [aY e,aY (by omega)]at b;exact v k x (by omega) q b
theorem alX{H:an}{rows:List (List FC)}{n a e v b ep:Nat}{p:List FC}(hT:tab σ.OH=ab (F_ σ sz))(a7:Cv tab cv W c)(b_:tJ W c)(hn:rows.length=n)(hl:n≤1000000000)(g:RB H b sz ep rows)(hg:bO sz rows)(hW:∀ r ∈ rows,W r)(d7:a<e)(a9:e≤n)(d8:a≤v)(f9:v<e)(F:rows[v]?=ab p) :
  ∃ r H',Ev tab (.fn σ.OH) [.c (.sl b 0 n 0 ep sz),vi a,vi e,vi v,cv] H r H'∧((∃(m:Nat),r=vi m∧a<m∧m≤e∧Fm b H H'∧∃ l',RB H' b sz ep l'∧eu a e rows l'∧(∀(k:Nat) x,a≤k→k<m→l'[k]?=ab x→¬ c p x<0)∧(∀(k:Nat) x,m≤k→k<e→l'[k]?=ab x→c p x<0))):=by
 refine dt hT rfl fun Q hQ=>?_;obtain⟨d,rfl⟩:∃ d,e=d+1:=⟨e-1,by omega⟩
 obtain⟨x,p',H1,H2,I,b7,i1,j1,l1,l2,w1,w2,s1,j2,s2,r2,f2⟩:=g.jn hg hn (i:=a) (j:=v) (by omega) (by omega);obtain rfl:p=p':=by rw [F]at b7;exact au9 b7
 have Y:¬ c p p<0:=fun h=>b_.Be (hW _ (atZ F)) (hW _ (atZ F)) h h;have d6:eu a (d+1) rows (jn rows a v):=eP (by omega) (by omega) (by omega) (by omega) (by omega);have d5:MW c a (a+1) d (d+1) p (jn rows a v):=by
  refine⟨?_,fun k x o M=>by omega,fun k x o M=>by omega⟩;rw [hY (by omega) (by omega)];by_cases e:a=v
  ·rw [bg e,e];exact F
  ·rw [aY e,bg rfl];exact F
 apply aj;simp;apply aj;simp [i1,j1,l1,l2,w1,w2,s1,j2,s2,-av,-bs];apply aj;simp [aN (n:=(a:Int)+1),aN (n:=(d:Int))];apply aq;have A:∀ {l},eu a (d+1) rows l→bO sz l:=fun h=>h.sU hg;have S:∀ {l},eu a (d+1) rows l→∀ r ∈ l,W r:=fun h r hr=>hW r (h.1.mem_iff.1 hr);refine az ?_;refine bG (fun m s=>∃(i j:Nat) (t:T) (H1:an) (l:List (List FC)),s=⟨t,[],H1⟩∧m=j+1-i∧a<i∧i≤j+1∧j<d+1∧t.g 0=.c (.sl b 0 n 0 ep sz)∧t.g 1=vi a∧t.g 4=cv∧t.g 11=vi i∧t.g 12=vi j ∧
   Fm b H H1∧RB H1 b sz ep l∧eu a (d+1) rows l∧MW c a i j (d+1) p l) _
  ⟨a+1,d,_,H2,_,rfl,rfl,by omega,by omega,by omega,by simp,by simp,by simp,by simp,by simp,f2,r2,d6,d5⟩ ?_
 rintro m s ⟨i,j,t,H1,l,rfl,rfl,b9,c9,c_,w,g1,g4,O,U,y,g,u,E⟩ ih;have B:=u.len;refine az ?_;apply aq;refine alY a7 (B.trans hn) hl (A u) (S u) (i:=i) (j:=j) (e:=d+1) (H0:=H) b9 c9 c_ a9 E.1 w g1 g4 O U y g ?_;intro t H3 J d9 X Z w g1 g4 O U y g;apply aq;refine alW a7 (B.trans hn) hl (A u) (S u) (i:=J) (j:=j) (e:=d+1) (H0:=H) (by omega) (by omega) (by omega) a9 E.1 w g1 g4 O U y g ?_;intro t H4 f d_ K L w g1 g4 O U y g;have N:MW c a J f (d+1) p l:=⟨E.1,fun k x o M I=>by
   by_cases hk:k<i
   ·exact E.2.1 k x o hk I
   ·exact X k x (by omega) M I,fun k x o M I=>by
   by_cases hk:j<k
   ·exact E.2.2 k x hk M I
   ·exact K k x o (by omega) I⟩
 apply aq;apply aj;simp [O,U];by_cases a_:f<J
 ·refine ak (by simp [a_]) ?_;refine bf (k':=[.code (aaT)]) rfl ?_;apply aj;simp [O];refine aE (hQ _ _ (vi J) rfl (by simp [Km.results,aZ]) ⟨J,rfl,by omega,by omega,y,l,g,u,fun q z o M hz=>?_,fun q z o M hz=>N.2.2 q z (by omega) M hz⟩);by_cases e:q=a
  ·rw [e,N.1]at hz;cases hz;exact Y
  ·exact N.2.1 q z (by omega) M hz
 refine aW (by simp [a_]) ?_;have ni:∀ x,l[J]?=ab x→c p x<0:=by
  rcases Z with h | h
  ·omega
  ·exact fun x I=>Classical.not_not.1 (h x I)
 have nj:∀ x,l[f]?=ab x→¬ c p x<0:=by
  rcases L with h | h
  ·omega
  ·exact h
 have e_:J≠f:=by
  rintro rfl;have I:=AT (l:=l) (i:=J) (by omega);exact nj _ I (ni _ I)
 obtain⟨x5,y5,H5,H6,-,-,i1,j1,l1,l2,w1,w2,s1,j2,s2,r5,f5⟩:=g.jn (A u) (B.trans hn) (i:=J) (j:=f) (by omega) (by omega);apply aj;simp [w,O,U,i1,j1,l1,l2,w1,w2,s1,j2,s2,-av,-bs];apply aj;simp [O,aN (n:=(J:Int)+1)];refine au (.inl rfl) ?_;simp [U,aN (n:=(f:Int)-1)];exact aw (ih _ _ (by omega) ⟨J+1,f-1,_,H6,_,rfl,rfl,by omega,by omega,by omega,by simp [w],by simp [g1],by simp [g4],by simp,by simp;omega,y.trans f5,r5,
   u.trans (eP (by omega) (by omega) (by omega) (by omega) (by omega)),N.swap (by omega) (by omega) (by omega) ni nj⟩)
end
section
variable{tab:Nat→Option aB}{σ:jS}{sz:Nat}{cv:V}{W:List FC→Prop}{c:List FC→List FC→Int}
def Ds(c:List FC→List FC→Int)(a e:Nat)(l:List (List FC)):Prop:=∀ k,0<a→a≤k→k<e→kH c l (a-1) k
theorem Ds.vD{a e a' b:Nat}{l l':List (List FC)}(h:Ds c a e l)(d:eu a' b l l')(E:a≤a')(F:b≤e)(z:a'≤b)(B:b≤l.length):Ds c a e l':=by
 intro k m q s x y g hy;rw [d.lt (by omega)]at g;by_cases u:k<a'
 ·rw [d.lt u]at hy;exact h k m q s x y g hy
 by_cases v:b≤k
 ·rw [d.ge v]at hy;exact h k m q s x y g hy
 obtain⟨j,H,I,A⟩:=d.mem z B (by omega) (by omega) hy;exact h j m (by omega) (by omega) x y g A
theorem Ds.mono{a e b:Nat}{l:List (List FC)}(h:Ds c a e l)(j:b≤e):Ds c a b l:=fun k d g m=>h k d g (by omega)
theorem Og{n a e i ep b:Nat}{rows:List (List FC)}{H0:an}{g10:V}{k:List cG}{Q:Option ay→St→Prop}(U:Cv tab cv W c)(hc:tJ W c)(hn:rows.length=n)(hl:n≤1000000000)(hg:bO sz rows)(Y:∀ r ∈ rows,W r)
  {t:T} {H:an} (a7:a<i) (a_:i≤e) (a9:e≤n) (u:Up c a i rows)
  (I:t.g 0=.c (.sl b 0 n 0 ep sz)) (L:t.g 1=vi a) (B:t.g 2=vi e) (K:t.g 3=cv) (A:t.g 9=vi i) (M:t.g 10=g10) (l:Fm b H0 H) (g:RB H b sz ep rows)
  (next:∀(t:T) (H:an) (E:Nat),(i≤E∧E≤e)→Up c a E rows→(E=e∨∀ x y,rows[E]?=ab x→rows[E-1]?=ab y→c x y<0) →
   t.g 0=.c (.sl b 0 n 0 ep sz)→t.g 1=vi a→t.g 2=vi e→t.g 3=cv→t.g 9=vi E→t.g 10=g10→Fm b H0 H→RB H b sz ep rows→WP tab σ.pins ae k ⟨t,[],H⟩ Q) :
  WP tab σ.pins ae (.code (Gb sz)::k) ⟨t,[],H⟩ Q:=by
 refine az ?_;refine bG (fun m s=>∃(q:Nat) (t:T) (S:an),s=⟨t,[],S⟩∧(q+m=e∧i≤q)∧Up c a q rows ∧
   t.g 0=.c (.sl b 0 n 0 ep sz)∧t.g 1=vi a∧t.g 2=vi e∧t.g 3=cv∧t.g 9=vi q∧t.g 10=g10∧Fm b H0 S∧RB S b sz ep rows) (e-i)
  ⟨i,_,H,rfl,by omega,u,I,L,B,K,A,M,l,g⟩ ?_
 rintro m s ⟨q,t,S,rfl,hm,u,I,L,B,K,A,M,l,g⟩ ih;apply aq;apply aj;by_cases X:q<e
 case neg=>
  simp [A,B,X];refine al (by simp) ?_;refine bf (k':=k) rfl ?_;exact next _ _ q (by omega) u (.inl (by omega)) (by simp [I]) (by simp [L]) (by simp [B]) (by simp [K]) (by simp [A]) (by simp [M]) l g
 obtain⟨d,rfl⟩:∃ d,q=d+1:=⟨q-1,by omega⟩
 obtain⟨x,y,F,ar,J,hx,hy,i1,j1,l1,l2,N,he,-,-⟩:=g.ask hg U Y hn (i:=d+1) (j:=d) (by omega) (by omega);have c1:((d+1:Nat):Int)=(d:Int)+1:=by omega
 have O:(d:Int)+1<(e:Int):=by omega
 rw [c1]at i1 A;simp [A,B,O,I,K,i1,j1,l1,l2,N,he,-av,aN (n:=(d:Int))];by_cases v:c x y<0
 case pos=>
  refine al (by simp [v]) ?_;refine bf (k':=k) rfl ?_;refine next _ _ (d+1) (by omega) u (.inr fun z w hz Z=>?_) (by simp [I]) (by simp [L]) (by simp [B]) (by simp [K]) (by simp [A]) (by simp [M]) (l.trans (Fm.push _ _)) (g.push _)
  rw [hx]at hz;cases hz;rw [show d+1-1=d by omega,hy]at Z;cases Z;exact v
 refine ak (by simp [v]) (aH ?_);refine az (au (.inl rfl) ?_);simp [A,aN (n:=(d:Int)+1+1)];refine aw (ih (m-1) _ (by omega) ⟨d+1+1,_,_,rfl,by omega,?_,by simp [I],by simp [L],by simp [B],by simp [K],by simp,by simp [M],l.trans (Fm.push _ _),g.push _⟩);exact(Fe.start u).stop hc Y (by omega) (aft _) (by omega) (kH.of_le hy hx v)
theorem Of{n a e i j ep b:Nat}{rows:List (List FC)}{H0:an}{g10:V}{k:List cG}{Q:Option ay→St→Prop}(a_:Cv tab cv W c)(hc:tJ W c)(hn:rows.length=n)(hl:n≤1000000000)(hg:bO sz rows)(hW:∀ r ∈ rows,W r)
  {t:T} {H:an} (X:a≤j) (K:j=i) (c9:i<e) (b_:e≤n) (a7:Ds c a e rows) (q:Fe c a i j rows)
  (E:t.g 0=.c (.sl b 0 n 0 ep sz)) (N:t.g 1=vi a) (O:t.g 2=vi e) (M:t.g 3=cv) (S:t.g 9=vi (i+1:Nat)) (U:t.g 10=g10) (A:t.g 11=vi j) (z:Fm b H0 H) (u:RB H b sz ep rows)
  (next:∀(t:T) (H:an) (l:List (List FC)),eu a e rows l→Up c a (i+1) l →
   t.g 0=.c (.sl b 0 n 0 ep sz)→t.g 1=vi a→t.g 2=vi e→t.g 3=cv→t.g 9=vi (i+1:Nat)→t.g 10=g10→Fm b H0 H→RB H b sz ep l→WP tab σ.pins ae k ⟨t,[],H⟩ Q) :
  WP tab σ.pins ae (.code (Gc sz)::k) ⟨t,[],H⟩ Q:=by
 refine az ?_;refine bG (fun m s=>∃(j:Nat) (t:T) (H1:an) (l:List (List FC)),s=⟨t,[],H1⟩∧j=m∧a≤j∧j≤i∧t.g 0=.c (.sl b 0 n 0 ep sz)∧t.g 1=vi a∧t.g 2=vi e∧t.g 3=cv∧t.g 9=vi (i+1:Nat)∧t.g 10=g10∧t.g 11=vi j ∧
   Fm b H0 H1∧RB H1 b sz ep l∧eu a e rows l∧Fe c a i j l) j
  ⟨j,_,H,rows,rfl,rfl,X,by omega,E,N,O,M,S,U,A,z,u,eu.refl _ _ _,q⟩ ?_
 rintro m s ⟨j,t,H1,l,rfl,rfl,X,K,E,N,O,M,S,U,A,z,u,g,q⟩ ih;have B:=g.len;have Z:=g.sU hg;have I:∀ r ∈ l,W r:=fun r hr=>hW r (g.1.mem_iff.1 hr);have L:Ds c a e l:=a7.vD g (aft _) (aft _) (by omega) (by omega);apply aq;apply aj;by_cases b9:j=0
 ·subst b9;obtain rfl:a=0:=by omega
  simp [A];refine al (by simp) ?_;refine bf (k':=k) rfl ?_;exact next _ _ l g q.front (by simp [E]) (by simp [N]) (by simp [O]) (by simp [M]) (by simp [S]) (by simp [U]) z u
 obtain⟨d,rfl⟩:∃ d,j=d+1:=⟨j-1,by omega⟩
 obtain⟨x,y,F,ar,J,hx,hy,i1,j1,l1,l2,Y,he,-,-⟩:=u.ask Z a_ I (B.trans hn) (i:=d+1) (j:=d) (by omega) (by omega);have c1:((d+1:Nat):Int)=(d:Int)+1:=by omega
 have b7:(1:Int)≤(d:Int)+1:=by omega
 rw [c1]at i1 A;simp [A,b7];refine ak (by simp) (aH ?_);apply aq;refine az ?_;apply aq;apply aj;simp [A,E,M,i1,j1,l1,l2,Y,he,-av,aN (n:=(d:Int))];by_cases v:c x y<0
 case neg=>
  refine ak (by simp [v]) ?_;refine bf (k':=k) rfl ?_;refine next _ _ l g ?_ (by simp [E]) (by simp [N]) (by simp [O]) (by simp [M]) (by simp [S]) (by simp [U]) (z.trans (Fm.push _ _)) (u.push _)
  by_cases ha:d+1=a
  ·subst ha;exact q.front
  ·exact q.stop hc I (by omega) K (by omega) (kH.of_le hy hx v)
 have a9:a≤d:=by
  rcases Nat.lt_or_ge d a with h | h
  ·obtain rfl:a=d+1:=by omega
   exact absurd v (L (d+1) (by omega) (aft _) (by omega) y x (by simpa using hy) hx)
  ·exact h
 refine aW (by simp [v]) ?_;obtain⟨x5,y5,H5,H6,-,-,i5,j5,l5,l6,w5,w6,s5,j6,s6,r6,f6⟩:=(u.push J).jn Z (B.trans hn) (i:=d+1) (j:=d) (by omega) (by omega);rw [c1]at i5;refine au (.inl rfl) ?_;simp [E,A,i5,j5,l5,l6,w5,w6,s5,j6,s6,-av,-bs,aN (n:=(d:Int))];refine aw ?_;refine au (.inl rfl) ?_;simp [A,aN (n:=(d:Int))];exact ih d _ (by omega) ⟨d,_,H6,jn l (d+1) d,rfl,rfl,a9,by omega,by simp [E],by simp [N],by simp [O],by simp [M],by simp [S],by simp [U],by simp,(z.trans (Fm.push _ _)).trans f6,r6,
  g.trans (eP (by omega) (by omega) (by omega) (by omega) (by omega)),q.step hc I (by omega) K (by omega) hx hy v⟩
theorem Ex{n a e i ep b:Nat}{rows:List (List FC)}{H0:an}{g10:V}{k:List cG}{Q:Option ay→St→Prop}(Z:Cv tab cv W c)(hn:rows.length=n)(hl:n≤1000000000)(hg:bO sz rows)(hW:∀ r ∈ rows,W r)
  {t:T} {H:an} (a_:i<e) (a7:e≤n)
  (B:t.g 0=.c (.sl b 0 n 0 ep sz)) (K:t.g 1=vi a) (E:t.g 2=vi e) (I:t.g 3=cv) (L:t.g 9=vi i) (M:t.g 10=g10) (z:t.g 12=vi (i+1:Nat)) (u:Fm b H0 H) (q:RB H b sz ep rows)
  (next:∀(t:T) (H:an) (l:List (List FC)),eu i e rows l →
   t.g 0=.c (.sl b 0 n 0 ep sz)→t.g 1=vi a→t.g 2=vi e→t.g 3=cv→t.g 9=vi i→t.g 10=g10→Fm b H0 H→RB H b sz ep l→WP tab σ.pins ae k ⟨t,[],H⟩ Q) :
  WP tab σ.pins ae (.code (Ge sz)::k) ⟨t,[],H⟩ Q:=by
 refine az ?_;refine bG (fun m s=>∃(d:Nat) (t:T) (U:an) (l:List (List FC)),s=⟨t,[],U⟩∧d+1+m=e∧i≤d∧t.g 0=.c (.sl b 0 n 0 ep sz)∧t.g 1=vi a∧t.g 2=vi e∧t.g 3=cv∧t.g 9=vi i∧t.g 10=g10∧t.g 12=vi (d+1:Nat) ∧
   Fm b H0 U∧RB U b sz ep l∧eu i e rows l) (e-(i+1))
  ⟨i,_,H,rows,rfl,by omega,aft _,B,K,E,I,L,M,z,u,q,eu.refl _ _ _⟩ ?_
 rintro m s ⟨d,t,U,l,rfl,hm,a9,B,K,E,I,L,M,z,u,q,g⟩ ih;have A:=g.len;have S:=g.sU hg;have Y:∀ r ∈ l,W r:=fun r hr=>hW r (g.1.mem_iff.1 hr);have X:((d+1:Nat):Int)=(d:Int)+1:=by omega
 rw [X]at z;apply aq;apply aj;by_cases b7:d+1<e
 case neg=>
  have v:¬ ((d:Int)+1<(e:Int)):=by omega
  simp [z,E,v];refine al (by simp) ?_;refine bf (k':=k) rfl ?_;exact next _ _ l g (by simp [B]) (by simp [K]) (by simp [E]) (by simp [I]) (by simp [L]) (by simp [M]) u q
 have v:(d:Int)+1<(e:Int):=by omega
 simp [z,E,v];refine ak (by simp) (aH ?_);obtain⟨x,y,F,ar,J,hx,hy,i1,j1,l1,l2,O,he,-,-⟩:=q.ask S Z Y (A.trans hn) (i:=d+1) (j:=d) (by omega) (by omega);rw [X]at i1;apply aq;refine az ?_;apply aq;apply aj;simp [z,B,I,i1,j1,l1,l2,O,he,-av,aN (n:=(d:Int))];by_cases N:c x y<0
 case neg=>
  refine ak (by simp [N]) ?_;refine bf (k':=k) rfl ?_;exact next _ _ l g (by simp [B]) (by simp [K]) (by simp [E]) (by simp [I]) (by simp [L]) (by simp [M]) (u.trans (Fm.push _ _)) (q.push _)
 refine aW (by simp [N]) ?_;obtain⟨x5,y5,H5,H6,-,-,i5,j5,l5,l6,w5,w6,s5,j6,s6,r6,f6⟩:=(q.push J).jn S (A.trans hn) (i:=d+1) (j:=d) (by omega) (by omega);rw [X]at i5;refine au (.inl rfl) ?_;simp [B,z,i5,j5,l5,l6,w5,w6,s5,j6,s6,-av,-bs,aN (n:=(d:Int))];refine aw ?_;refine au (.inl rfl) ?_;simp [z,aN (n:=(d:Int)+1+1)];exact ih (m-1) _ (by omega) ⟨d+1,_,H6,jn l (d+1) d,rfl,by omega,by omega,by simp [B],by simp [K],by simp [E],by simp [I],by simp [L],by simp [M],by simp,(u.trans (Fm.push _ _)).trans f6,r6,
  g.trans (eP (by omega) (by omega) (by omega) (by omega) (by omega))⟩
theorem ahi{H:an}{rows:List (List FC)}{n a e b ep:Nat}(hT:tab σ.pins=ab (zB σ sz))(a7:Cv tab cv W c)(hc:tJ W c)(hn:rows.length=n)(hl:n≤1000000000)(v:RB H b sz ep rows)(hg:bO sz rows)(hW:∀ r ∈ rows,W r)(d_:a<e)(a9:e≤n)(b9:Ds c a e rows) :
  ∃ r H',Ev tab (.fn σ.pins) [.c (.sl b 0 n 0 ep sz),vi a,vi e,cv] H r H'∧((∃ w:Bool,r=vb w∧Fm b H H'∧∃ l',RB H' b sz ep l'∧eu a e rows l'∧(w=ag→Up c a e l'))):=by
 refine dt hT rfl fun Q hQ=>?_;apply aj;simp;apply aj;simp [aN (n:=(a:Int)+1)];apply aq;apply aj;simp;refine az ?_;refine bG (fun m s=>∃(i g:Nat) (t:T) (H1:an) (l:List (List FC)),s=⟨t,[],H1⟩∧g+m=5∧a<i∧i≤e∧t.g 0=.c (.sl b 0 n 0 ep sz)∧t.g 1=vi a∧t.g 2=vi e∧t.g 3=cv∧t.g 9=vi i∧t.g 10=vi g ∧
   Fm b H H1∧RB H1 b sz ep l∧eu a e rows l∧Up c a i l) 5
  ⟨a+1,0,_,H,rows,rfl,rfl,by omega,by omega,by simp,by simp,by simp,by simp,by simp,by simp,Fm.refl H,v,eu.refl _ _ _,Up.one (by omega)⟩ ?_
 rintro m s ⟨i,g,t,H1,l,rfl,hm,b_,c9,I,F,E,M,A,J,z,v,u,B⟩ ih;apply aq;apply aj;simp [J];by_cases h5:g<5
 case neg=>
  have Z:¬ ((g:Int)<5):=by omega
  refine al (by simp [Z]) ?_;refine bf (k':=[.code (tk)]) rfl ?_;apply aj;simp;exact aE (hQ _ _ (vb ah) rfl (by simp [Km.results,aZ]) ⟨ah,rfl,z,l,v,u,fun h=>nomatch h⟩)
 have Z:(g:Int)<5:=by omega
 refine ak (by simp [Z]) (aH ?_);apply aq;refine az ?_;apply aq;have L:=u.len;have K:∀ {l},eu a e rows l→bO sz l:=fun h=>h.sU hg;have U:∀ {l},eu a e rows l→∀ r ∈ l,W r:=fun h r hr=>hW r (h.1.mem_iff.1 hr);refine Og a7 hc (L.trans hn) hl (K u) (U u) (H0:=H) b_ c9 a9 B (by simp [I]) (by simp [F]) (by simp [E]) (by simp [M]) (by simp [A]) (by simp [J];rfl) z v ?_;intro t H2 i' hi B a_ I F E M A J z v;apply aq;apply aj;simp [A,E];by_cases Y:i'=e
 ·subst Y;refine ak (by simp) ?_;apply aj;simp;exact aE (hQ _ _ (vb ag) rfl (by simp [Km.results,aZ]) ⟨ag,rfl,z,l,v,u,fun _=>B⟩)
 refine aW (by simp [Y]) ?_;apply aq;apply aj;simp [F,E,aN (n:=(e:Int)-a)];by_cases d9:(e:Int)-a<50
 ·refine ak (by simp;omega) ?_;apply aj;simp;exact aE (hQ _ _ (vb ah) rfl (by simp [Km.results,aZ]) ⟨ah,rfl,z,l,v,u,fun h=>nomatch h⟩)
 refine al (by simp;omega) (aH ?_);obtain⟨d,rfl⟩:∃ d,i'=d+1:=⟨i'-1,by omega⟩
 have c1:((d+1:Nat):Int)=(d:Int)+1:=by omega
 obtain⟨x5,y5,H5,H6,d5,d6,i5,j5,l5,l6,w5,w6,s5,j6,s6,r6,f6⟩:=v.jn (K u) (L.trans hn) (i:=d+1) (j:=d) (by omega) (by omega);have d8:c x5 y5<0:=by
  rcases a_ with h | h
  ·omega
  ·exact h x5 y5 d5 (by simpa using d6)
 have N:eu a e rows (jn l (d+1) d):=u.trans (eP (by omega) (by omega) (by omega) (by omega) (by omega));rw [c1]at i5 A;apply aj;simp [I,A,i5,j5,l5,l6,w5,w6,s5,j6,s6,-av,-bs,aN (n:=(d:Int))];have b7:∀(t:T) (O:an) (S:List (List FC)),t.g 0=.c (.sl b 0 n 0 ep sz)→t.g 1=vi a→t.g 2=vi e→t.g 3=cv→t.g 9=vi (d+1:Nat)→t.g 10=vi g→Fm b H O→RB O b sz ep S→eu a e rows S→Up c a (d+1) S →
   WP tab σ.pins ae [.inBlock 1,.code (zA),.inLoop (Ew sz),.inBlock 0,.code (tk)] ⟨t,[],O⟩ Q:=by
  intro t O S I F E M A J z v u B;refine aw (au (.inl rfl) ?_);simp [J,aN (n:=(g:Int)+1)];exact ih (m-1) _ (by omega) ⟨d+1,g+1,_,O,S,rfl,by omega,by omega,by omega,by simp [I],by simp [F],by simp [E],by simp [M],by simp [A],by simp,z,v,u,B⟩
 have right:∀(t:T) (O:an) (S:List (List FC)),t.g 0=.c (.sl b 0 n 0 ep sz)→t.g 1=vi a→t.g 2=vi e→t.g 3=cv→t.g 9=vi (d+1:Nat)→t.g 10=vi g→Fm b H O→RB O b sz ep S→eu a e rows S→Up c a (d+1) S →
   WP tab σ.pins ae [.code (Gd sz),.inBlock 1,.code (zA),.inLoop (Ew sz),.inBlock 0,.code (tk)] ⟨t,[],O⟩ Q:=by
  intro t O S I F E M A J z v u B;have L:=u.len;rw [c1]at A;apply aq;refine au (.inl rfl) ?_;simp [A,E,aN (n:=(e:Int)-((d:Int)+1))];by_cases h2:(2:Int)≤(e:Int)-((d:Int)+1)
  case neg=>
   refine al (by simp;omega) (aH ?_);exact b7 _ O S (by simp [I]) (by simp [F]) (by simp [E]) (by simp [M]) (by simp [A]) (by simp [J]) z v u B
  refine ak (by simp;omega) ?_;apply aj;simp [A,aN (n:=(d:Int)+1+1)];refine Ex a7 (L.trans hn) hl (K u) (U u) (H0:=H) (a:=a) (i:=d+1) (e:=e) (g10:=vi g) (by omega) a9 (by simp [I]) (by simp [F]) (by simp [E]) (by simp [M]) (by simp [A]) (by simp [J]) (by simp) z v ?_;intro t H4 l4 X I F E M A J z v;exact b7 t H4 l4 I F E M A J z v (u.trans (X.mono (by omega) (aft _))) (B.of fun k _ hk=>X.lt hk)
 apply aq;apply aj;simp [A,F,aN (n:=(d:Int)+1-a)];by_cases h2:(2:Int)≤(d:Int)+1-a
 case neg=>
  refine al (by simp;omega) (aH ?_);exact right _ H6 _ (by simp [I]) (by simp [F]) (by simp [E]) (by simp [M]) (by simp [A]) (by simp [J]) (z.trans f6) r6 N (Up.one (by omega))
 refine ak (by simp;omega) ?_;apply aj;simp [A,aN (n:=(d:Int))];have c_:=N.len;refine Of a7 hc (c_.trans hn) hl (K N) (U N) (H0:=H) (a:=a) (i:=d) (j:=d) (e:=e) (g10:=vi g) (by omega) rfl (by omega) a9 (b9.vD N (aft _) (aft _) (by omega) (by omega)) ?_ (by simp [I]) (by simp [F]) (by simp [E]) (by simp [M]) (by simp [A]) (by simp [J]) (by simp) (z.trans f6) r6 ?_
 ·intro p q h1 h2 h3 h4;have g:∀ k,k<d→(jn l (d+1) d)[k]?=l[k]?:=fun k hk=>by rw [hY (by omega) (by omega),aY (by omega),aY (by omega)]
  exact kH.get (fun x y=>B p q x y h1 h2 (by omega)) (g p (by omega)) (g q (by omega))
 intro t H4 l4 X d7 I F E M A J z v;exact right t H4 l4 I F E M A J z v (N.trans X) d7
end
def tL(i b:Nat):Prop:=b=2*i+1∨b=2*i+2
def Hp(c:List FC→List FC→Int)(f h k:Nat)(l:List (List FC)):Prop:=∀ i b,k≤i→tL i b→b<h→kH c l (f+b) (f+i)
def Y9(c:List FC→List FC→Int)(f h k r:Nat)(l:List (List FC)):Prop:=
 (∀ i b,k≤i→i≠r→tL i b→b<h→kH c l (f+b) (f+i))∧∀ i b,k≤i→tL i r→tL r b→b<h→kH c l (f+b) (f+i)
section
variable{W:List FC→Prop}{c:List FC→List FC→Int}{l:List (List FC)}
theorem Hp.x{f h k:Nat}(j:Hp c f h (k+1) l):Y9 c f h k k l:=
 ⟨fun i g a b d e=>j i g (by omega) d e,fun i g a b d e=>by unfold tL at b;omega⟩
theorem Y9.leaf{f h k r:Nat}(j:Y9 c f h k r l)(hr:h≤2*r+1):Hp c f h k l:=fun i g a b d=>by
 by_cases e:i=r
 ·subst e;unfold tL at b;omega
 ·exact j.1 i g a e b d
theorem Y9.stop{f h k r j:Nat}(hc:tJ W c)(s:∀ r ∈ l,W r)(v:Y9 c f h k r l)(y:f+h≤l.length)(x:tL r j)(u:j<h)(g:∀ q,tL r q→q<h→kH c l (f+q) (f+j))(m:kH c l (f+j) (f+r)):Hp c f h k l:=fun i q a b d=>by
 by_cases e:i=r
 ·subst e;exact(g q b d).trans hc s m (by omega)
 ·exact v.1 i q a e b d
theorem Y9.step{f h k r b:Nat}(hc:tJ W c)(L:∀ r ∈ l,W r)(B:Y9 c f h k r l)(O:f+h≤l.length)(M:k≤r)(z:tL r b)(A:b<h)(m:∀ q,tL r q→q<h→kH c l (f+q) (f+b)){x y:List FC}(E:l[f+r]?=ab x)(H:l[f+b]?=ab y)(F:c x y<0) :
  Y9 c f h k b (jn l (f+r) (f+b)):=by
 have N:r<b:=by unfold tL at z;omega
 have g:∀ q,(jn l (f+r) (f+b))[f+q]?=if q=b then l[f+r]? else if q=r then l[f+b]? else l[f+q]?:=fun q=>by
  rw [hY (by omega) (by omega)];by_cases I:q=b
  ·subst I;simp
  rw [aY (by omega),aY I];by_cases j:q=r
  ·subst j;simp
  rw [aY (by omega),aY j]
 refine⟨fun i q hi s u d=>?_,fun i q hi K J d=>?_⟩
 ·by_cases e:i=r
  ·subst e;by_cases j:q=b
   ·subst j;exact(kH.of_lt hc L E H F).get (by rw [g,bg rfl]) (by rw [g,aY (by omega),bg rfl])
   ·exact(m q u d).get (by rw [g,aY j,aY (by unfold tL at u;omega)]) (by rw [g,aY (by omega),bg rfl])
  ·by_cases j:q=r
   ·subst j;exact(B.2 i b hi u z A).get (by rw [g,aY (by omega),bg rfl]) (by rw [g,aY s,aY e])
   ·have v:q≠b:=by unfold tL at u z;omega
    exact(B.1 i q hi e u d).get (by rw [g,aY v,aY j]) (by rw [g,aY s,aY e])
 ·have e:i=r:=by unfold tL at K z;omega
  subst e;have v:q≠b∧q≠i:=by unfold tL at J;omega
  exact(B.1 b q (by omega) (by omega) J d).get (by rw [g,aY v.1,aY v.2]) (by rw [g,aY (by omega),bg rfl])
theorem kH.self{i:Nat}(hc:tJ W c)(b:∀ r ∈ l,W r):kH c l i i:=fun x y d hy=>by
 rw [d]at hy;cases hy;have:=atZ d;intro q;exact hc.Be (b _ this) (b _ this) q q
theorem Hp.top{f h:Nat}(hc:tJ W c)(b:∀ r ∈ l,W r)(j:Hp c f h 0 l)(s:f+h≤l.length):∀ k,k<h→kH c l (f+k) f:=by
 intro k;induction k using Nat.strongRecOn with
 | ind k m=>
  intro g;rcases auv k with rfl | q
  ·exact kH.self hc b
  ·have d:=j ((k-1) / 2) k (by omega) (by unfold tL;omega) g;exact d.trans hc b (m ((k-1) / 2) (by omega) (by omega)) (by omega)
def yy(c:List FC→List FC→Int)(f h j:Nat)(l:List (List FC)):Prop:=∀ p q,p<q→j≤q→q<h→kH c l (f+p) (f+q)
theorem yy.swap{f h i:Nat}(hc:tJ W c)(E:∀ r ∈ l,W r)(u:yy c f h (i+1) l)(A:Hp c f (i+1) 0 l)(hi:i<h)(I:f+h≤l.length):yy c f h i (jn l f (f+i))∧Y9 c f i 0 0 (jn l f (f+i)):=by
 have g:∀ q,(jn l f (f+i))[f+q]?=if q=i then l[f]? else if q=0 then l[f+i]? else l[f+q]?:=fun q=>by
  rw [hY (by omega) (by omega)];by_cases j:q=i
  ·subst j;simp
  rw [aY (by omega),aY j];by_cases b:q=0
  ·subst b;simp
  rw [aY (by omega),aY b]
 refine⟨fun p q v J d=>?_,fun x m _ H z F=>?_,fun x m _ y=>by unfold tL at y;omega⟩
 ·have top:=A.top hc E (by omega);by_cases e:q=i
  ·subst e;by_cases b:p=0
   ·subst b;exact(top q (by omega)).get (by rw [g,aY (by omega),bg rfl]) (by rw [g,bg rfl])
   ·exact(top p (by omega)).get (by rw [g,aY (by omega),aY b]) (by rw [g,bg rfl])
  ·have s:(jn l f (f+i))[f+q]?=l[f+q]?:=by rw [g,aY e,aY (by omega)]
   by_cases j:p=i
   ·subst j;exact(u 0 q (by omega) (by omega) d).get (by rw [g,bg rfl,Nat.add_zero]) s
   by_cases b:p=0
   ·subst b;exact(u i q (by omega) (by omega) d).get (by rw [g,aY j,bg rfl]) s
   ·exact(u p q v (by omega) d).get (by rw [g,aY j,aY b]) s
 ·have y:x<m:=by unfold tL at z;omega
  have B:m≠0:=by omega
  exact(A x m (by omega) z (by omega)).get (by rw [g,aY (by omega),aY B]) (by rw [g,aY (by omega),aY H])
theorem yy.vD{f h i:Nat}{l':List (List FC)}(s:yy c f h i l)(g:eu f (f+i) l l')(A:f+h≤l.length)(hi:i≤h):yy c f h i l':=by
 intro p q d u b x y m hy;rw [g.ge (by omega)]at hy;by_cases z:i≤p
 ·rw [g.ge (by omega)]at m;exact s p q d u b x y m hy
 obtain⟨j,B,E,v⟩:=g.mem (by omega) (by omega) (by omega) (by omega) m;have:=s (j-f) q (by omega) u b x y;rw [show f+(j-f)=j by omega]at this;exact this v hy
theorem yy.up{f h:Nat}(b:yy c f h 0 l):Up c f (f+h) l:=fun i j x y g m q d hy=>by
 have:=b (i-f) (j-f) (by omega) (by omega) (by omega) x y;rw [show f+(i-f)=i by omega,show f+(j-f)=j by omega]at this;exact this d hy
end
section
variable{tab:Nat→Option aB}{σ:jS}{sz:Nat}{H:an}{b ep:Nat}{rows:List (List FC)}{cv:V}{W:List FC→Prop}{c:List FC→List FC→Int}
theorem Gw(hT:tab σ.vc=ab (vd σ sz))(a9:Cv tab cv W c)(hc:tJ W c){n lo h f:Nat}(hn:rows.length=n)(hl:n≤1000000000)(d:RB H b sz ep rows)(hg:bO sz rows)(hW:∀ r ∈ rows,W r)(b7:lo≤h)(b_:f+h≤n)(hx:Y9 c f h lo lo rows) :
  ∃ r H',Ev tab (.fn σ.vc) [.c (.sl b 0 n 0 ep sz),vi lo,vi h,vi f,cv] H r H'∧(r=.t []∧Fm b H H'∧∃ l',RB H' b sz ep l'∧eu f (f+h) rows l'∧Hp c f h lo l'):=by
 refine dt hT rfl fun Q hQ=>?_;apply aj;simp;refine az ?_;refine bG (fun m s=>∃(r:Nat) (t:T) (H1:an) (l:List (List FC)),s=⟨t,[],H1⟩∧m=h-r∧lo≤r∧r≤h∧t.g 0=.c (.sl b 0 n 0 ep sz)∧t.g 2=vi h∧t.g 3=vi f∧t.g 4=cv∧t.g 10=vi r ∧
  Fm b H H1∧RB H1 b sz ep l∧eu f (f+h) rows l∧Y9 c f h lo r l) _
  ⟨lo,_,H,rows,rfl,rfl,by omega,b7,by simp,by simp,by simp,by simp,by simp,Fm.refl H,d,eu.refl _ _ _,hx⟩ ?_
 rintro m s ⟨r,t,H1,l,rfl,rfl,b9,c_,L,M,N,U,g10,z,d,g,hx⟩ ih;have E:=g.len;have Y:=g.sU hg;have v:∀ r ∈ l,W r:=fun r hr=>hW r (g.1.mem_iff.1 hr);have cf:∀ q:Nat,((f+q:Nat):Int)=(f:Int)+q:=fun q=>by omega
 refine az ?_;apply aj;simp [g10,aN (n:=(2:Int)*r),aN (n:=(2:Int)*r+1)];apply aq;apply aj;simp [M];by_cases Z:h≤2*r+1
 ·refine ak (by simp;omega) ?_;refine bf (k':=[]) rfl ?_;exact jX (hQ _ _ _ rfl rfl ⟨rfl,z,l,d,g,hx.leaf Z⟩)
 refine al (by simp;omega) (aH ?_);apply aq;have go:∀(t:T) (H2:an) (A:Nat),tL r A→A<h→(∀ q,tL r q→q<h→kH c l (f+q) (f+A))→t.g 0=.c (.sl b 0 n 0 ep sz)→t.g 2=vi h→t.g 3=vi f→t.g 4=cv→t.g 10=vi r→t.g 11=vi A→Fm b H H2→RB H2 b sz ep l →
   WP tab σ.vc ae [.code (Gv sz),.inBlock 1,.inLoop (abo sz),.inBlock 0] ⟨t,[],H2⟩ Q:=by
  intro t H2 A hk a7 O L M N U g10 S z d;obtain⟨x,y,F,ar,J,I,K,i1,j1,l1,l2,B,he,-,-⟩:=d.ask Y a9 v (E.trans hn) (i:=f+r) (j:=f+A) (by omega) (by omega);rw [cf]at i1 j1;apply aq;apply aj;simp [L,N,U,g10,S,i1,j1,l1,l2,B,he,-av,aN (n:=(f:Int)+r),aN (n:=(f:Int)+A)];by_cases u:c x y<0
  case neg=>
   refine ak (by simp [u]) ?_;exact aE (hQ _ _ _ rfl rfl ⟨rfl,z.trans (Fm.push _ _),l,d.push _,g,hx.stop hc v (by omega) hk a7 O (kH.of_le K I u)⟩)
  refine aW (by simp [u]) ?_;obtain⟨x5,y5,H5,H6,-,-,i5,j5,l5,l6,w5,w6,s5,j6,s6,r6,f6⟩:=(d.push J).jn Y (E.trans hn) (i:=f+r) (j:=f+A) (by omega) (by omega);rw [cf]at i5 j5 j6;apply aj;simp [L,N,g10,S,i5,j5,l5,l6,w5,w6,s5,j6,s6,-av,-bs,aN (n:=(f:Int)+r),aN (n:=(f:Int)+A)];refine au (.inl rfl) ?_;simp [S];refine aw ?_;have c9:r<A:=by unfold tL at hk;omega
  exact ih _ _ (by omega) ⟨A,_,H6,_,rfl,rfl,by omega,by omega,by simp [L],by simp [M],by simp [N],by simp [U],by simp,(z.trans (Fm.push _ _)).trans f6,r6,
   g.trans (eP (by omega) (by omega) (by omega) (by omega) (by omega)),hx.step hc v (by omega) b9 hk a7 O I K u⟩
 apply aq;refine au (.inl rfl) ?_;by_cases h2:2*r+2<h
 case neg=>
  have X:¬ ((2:Int)*r+1+1<h):=by omega
  simp [M,X,aN (n:=(2:Int)*r+1+1)];refine aW (by simp) ?_;refine go _ H1 (2*r+1) (.inl rfl) (by omega) (fun q hq a_=>?_) (by simp [L]) (by simp [M]) (by simp [N]) (by simp [U]) (by simp [g10]) (by simp) z d;have:q=2*r+1:=by unfold tL at hq;omega
  subst this;exact kH.self hc v
 have X:((2:Int)*r+1+1<h):=by omega
 obtain⟨x,y,F,ar,J,I,K,i1,j1,l1,l2,B,he,-,-⟩:=d.ask Y a9 v (E.trans hn) (i:=f+(2*r+1)) (j:=f+(2*r+2)) (by omega) (by omega);have e1:((f+(2*r+1):Nat):Int)=(f:Int)+(2*r+1):=by omega
 have e2:((f+(2*r+2):Nat):Int)=(f:Int)+(2*r+1)+1:=by omega
 rw [e1]at i1;rw [e2]at j1;simp [L,M,N,U,X,i1,j1,l1,l2,B,he,-av,aN (n:=(2:Int)*r+1+1),aN (n:=(f:Int)+(2*r+1)),aN (n:=(f:Int)+(2*r+1)+1)];by_cases u:c x y<0
 ·refine ak (by simp [u]) ?_;refine au (.inl rfl) ?_;simp [aN (n:=(2:Int)*r+1+1)];refine go _ _ (2*r+2) (.inr rfl) (by omega) (fun q hq a_=>?_) (by simp [L]) (by simp [M]) (by simp [N]) (by simp [U]) (by simp [g10]) (by simp;omega) (z.trans (Fm.push _ _)) (d.push _);rcases hq with rfl | rfl
  ·exact kH.of_lt hc v I K u
  ·exact kH.self hc v
 ·refine aW (by simp [u]) ?_;refine go _ _ (2*r+1) (.inl rfl) (by omega) (fun q hq a_=>?_) (by simp [L]) (by simp [M]) (by simp [N]) (by simp [U]) (by simp [g10]) (by simp) (z.trans (Fm.push _ _)) (d.push _);rcases hq with rfl | rfl
  ·exact kH.self hc v
  ·exact kH.of_le K I u
theorem afX(hT:tab σ.heap=ab (y4 σ sz))(hS:tab σ.vc=ab (vd σ sz))(N:Cv tab cv W c)(hc:tJ W c){n a e:Nat}(hn:rows.length=n)(hl:n≤1000000000)(u:RB H b sz ep rows)(hg:bO sz rows)(hW:∀ r ∈ rows,W r)(b_:a<e)(a9:e≤n) :
  ∃ r U,Ev tab (.fn σ.heap) [.c (.sl b 0 n 0 ep sz),vi a,vi e,cv] H r U∧(r=.t []∧Fm b H U∧∃ l',RB U b sz ep l'∧eu a e rows l'∧Up c a e l'):=by
 obtain⟨h,rfl⟩:∃ h,e=a+h:=⟨e-a,by omega⟩
 have hw:IntKind.i64.wrap ((a:Int)+h-a)=h:=by rw [aN];omega
 have hq:bV .quo (vi ((h:Int)-1)) (vi 2)=ab (vi (((h-1) / 2:Nat):Int)):=by
  have:=ahn (a:=h-1) (b:=2) (by omega) (by omega);rwa [show((h-1:Nat):Int)=(h:Int)-1 by omega]at this
 refine dt hT rfl fun Q hQ=>?_;apply aj;simp;apply aj;simp;apply aj;simp [hw];have x:∀ {l},eu a (a+h) rows l→bO sz l:=fun h=>h.sU hg;have B:∀ {l},eu a (a+h) rows l→∀ r ∈ l,W r:=fun h r hr=>hW r (h.1.mem_iff.1 hr);apply aq;apply aj;simp [hq,aN (n:=(h:Int)-1)];refine az ?_;refine bG (fun m s=>∃(t:T) (E:an) (l:List (List FC)),s=⟨t,[],E⟩∧m≤h∧t.g 0=.c (.sl b 0 n 0 ep sz)∧t.g 3=cv∧t.g 8=vi a∧t.g 9=vi 0∧t.g 10=vi h∧t.g 11=vi ((m:Int)-1) ∧
  Fm b H E∧RB E b sz ep l∧eu a (a+h) rows l∧Hp c a h m l) ((h-1) / 2+1)
  ⟨_,H,rows,rfl,by omega,by simp,by simp,by simp,by simp,by simp,by simp,Fm.refl H,u,eu.refl _ _ _,fun i ch h1 h2 h3=>by unfold tL at h2;omega⟩ ?_
 rintro m s ⟨t,E,l,rfl,b7,I,K,J,M,g10,F,y,u,g,O⟩ ih;have z:=g.len;apply aq;apply aj;simp [F];rcases auv m with rfl | a_
 case inr=>
  obtain⟨d,rfl⟩:∃ d,m=d+1:=⟨m-1,by omega⟩
  have Y:((d+1:Nat):Int)-1=d:=by omega
  rw [Y]at F;refine ak (by simp;omega) (aH ?_);obtain⟨r,X,L,rfl,Z,l2,r2,S,p2⟩:=Gw hS N hc (z.trans hn) hl u (x g) (B g) (lo:=d) (h:=h) (f:=a) (by omega) a9 O.x;apply aq;refine az (au (.inl rfl) ?_);simp [I,K,J,g10,F,L.eq];refine aw (au (.inl rfl) ?_);simp [F,aN (n:=(d:Int)-1)];exact ih d _ (by omega) ⟨_,X,l2,rfl,by omega,by simp [I],by simp [K],by simp [J],by simp [M],by simp [g10],by simp,y.trans Z,r2,g.trans S,p2⟩
 refine al (by simp) ?_;refine bf (k':=[.code (FE σ sz)]) rfl ?_;apply aj;simp [g10,aN (n:=(h:Int)-1)];refine az ?_;refine bG (fun m s=>∃(t:T) (E:an) (l:List (List FC)),s=⟨t,[],E⟩∧m≤h∧t.g 0=.c (.sl b 0 n 0 ep sz)∧t.g 3=cv∧t.g 8=vi a∧t.g 9=vi 0∧t.g 12=vi ((m:Int)-1) ∧
  Fm b H E∧RB E b sz ep l∧eu a (a+h) rows l∧Hp c a m 0 l∧yy c a h m l) h
  ⟨_,E,l,rfl,by omega,by simp [I],by simp [K],by simp [J],by simp [M],by simp,y,u,g,O,fun p q h1 h2 h3=>by omega⟩ ?_
 rintro m s ⟨t,E,l,rfl,b7,I,K,J,M,v,y,u,g,O,hd⟩ ih;have z:=g.len;apply aq;apply aj;simp [v];rcases auv m with rfl | a_
 ·refine al (by simp) ?_;refine bf (k':=[]) rfl ?_;exact jX (hQ _ _ _ rfl rfl ⟨rfl,y,l,u,g,hd.up⟩)
 obtain⟨d,rfl⟩:∃ d,m=d+1:=⟨m-1,by omega⟩
 have Y:((d+1:Nat):Int)-1=d:=by omega
 rw [Y]at v;refine ak (by simp;omega) (aH ?_);obtain⟨x5,y5,H5,H6,-,-,i5,j5,l5,l6,w5,w6,s5,j6,s6,r6,f6⟩:=u.jn (x g) (z.trans hn) (i:=a) (j:=a+d) (by omega) (by omega);have ce:((a+d:Nat):Int)=(a:Int)+d:=by omega
 rw [ce]at j5 j6;obtain⟨a7,b9⟩:=hd.swap hc (B g) O (by omega) (by omega);have A:eu a (a+h) rows (jn l a (a+d)):=g.trans (eP (by omega) (by omega) (by omega) (by omega) (by omega));obtain⟨r,X,L,rfl,Z,l2,r2,S,p2⟩:=Gw hS N hc (A.len.trans hn) hl r6 (x A) (B A) (lo:=0) (h:=d) (f:=a) (by omega) (by omega) b9;have L:=L.eq;simp at L;apply aq;refine az ?_;apply aj;simp [I,J,v,i5,j5,l5,l6,w5,w6,s5,j6,s6,-av,-bs,aN (n:=(a:Int)+d)];refine au (.inl rfl) ?_;simp [I,K,J,M,v,L];refine aw (au (.inl rfl) ?_);simp [v,aN (n:=(d:Int)-1)];exact ih d _ (by omega) ⟨_,X,l2,rfl,by omega,by simp [I],by simp [K],by simp [J],by simp [M],by simp,(y.trans f6).trans Z,r2,A.trans (S.mono (aft _) (by omega)),p2,
  a7.vD S (by rw [A.len];omega) (by omega)⟩
end
abbrev vu(n:Int):V:=.c (.f (.int .u64 n))
def NU(H:an)(p:Nat):Prop:=∃ k:Int,H[p]?=ab (.box [.f (.int .u64 k)] 0)
theorem aqx{a b:Int}(d:0≤b):bV .shl (vu a) (vu b)=ab (vu (IntKind.wrap .u64 (a*2 ^ (min b.toNat 64)))):=by
 simp only [bV,aY (show¬ b<0 by omega)];rfl
theorem aqy{a b:Int}(d:0≤b):bV .shr (vu a) (vu b)=ab (vu (a.fdiv (2 ^ (min b.toNat 64)))):=by
 simp only [bV,aY (show¬ b<0 by omega)];rfl
theorem aqM{a b:Int}:bV .xor (vu a) (vu b)=ab (vu (IntKind.wrap .u64 (BitVec.ofInt 64 a ^^^ BitVec.ofInt 64 b).toNat)):=by
 simp only [bV,kJ,if_true];rfl
theorem yj(n:Int):IntKind.wrap .u64 n=n % 18446744073709551616:=rfl
theorem Zo{x:Int}{k:Nat}(j:k≤62):∃ o:Nat,o<2 ^ k∧bV .and (vu x) (vu ((2:Int) ^ k-1))=ab (vu o):=by
 have l:(2:Nat) ^ k≤2 ^ 62:=avy (by omega) j;have g:(2:Nat) ^ 62=4611686018427387904:=by decide
 have b:0<(2:Nat) ^ k:=Nat.pow_pos (by omega);have e:BitVec.ofInt 64 ((2:Int) ^ k-1)=BitVec.ofNat 64 (2 ^ k-1):=by
  have:((2:Int) ^ k-1)=((2 ^ k-1:Nat):Int):=by
   rw [Int.ofNat_sub b];simp
  rw [this,BitVec.ofInt_natCast]
 refine⟨(BitVec.ofInt 64 x).toNat % 2 ^ k,Nat.mod_lt _ b,?_⟩;have d:(BitVec.ofInt 64 x &&& BitVec.ofInt 64 ((2:Int) ^ k-1)).toNat=(BitVec.ofInt 64 x).toNat % 2 ^ k:=by
  rw [e,BitVec.toNat_and,BitVec.toNat_ofNat,Nat.mod_eq_of_lt (a:=2 ^ k-1) (by omega),Nat.and_two_pow_sub_one_eq_mod]
 have m:(BitVec.ofInt 64 x).toNat % 2 ^ k<2 ^ k:=Nat.mod_lt _ b;simp only [bV,kJ,if_true];show ab (vu (IntKind.wrap .u64 ((BitVec.ofInt 64 x &&& BitVec.ofInt 64 ((2:Int) ^ k-1)).toNat)))=_;rw [d,yj,Int.emod_eq_of_lt (by omega) (by omega)]
section
variable{tab:Nat→Option aB}{σ:jS}{sz:Nat}{H:an}{b ep:Nat}{rows:List (List FC)}{cv:V}{W:List FC→Prop}{c:List FC→List FC→Int}
theorem NU.fm{p b:Nat}{H d:an}(h:NU H p)(g:Fm b H d)(e:p≠b):NU d p:=by
 obtain⟨k,h⟩:=h;exact⟨k,g.get h e⟩
theorem Fm.far{p b:Nat}{H d g:an}(h:Fm b H d)(q:H.length≤p)(m:Fm p d g):Fm b H g:=
 ⟨aua h.1 m.1,fun j n l=>(m.2 j (by omega) (Nat.lt_of_lt_of_le l h.1)).trans (h.2 j n l)⟩
theorem ai0(a:Int)(b:Int)(d:0≤b):∃ v,bV .shl (.c (.f (.int .u64 a))) (.c (.f (.int .u64 b)))=ab (.c (.f (.int .u64 v))):=⟨_,aqx d⟩
theorem aqz(a:Int)(b:Int)(d:0≤b):∃ v,bV .shr (.c (.f (.int .u64 a))) (.c (.f (.int .u64 b)))=ab (.c (.f (.int .u64 v))):=⟨_,aqy d⟩
theorem abM(a b:Int):∃ v,bV .xor (.c (.f (.int .u64 a))) (.c (.f (.int .u64 b)))=ab (.c (.f (.int .u64 v))):=⟨_,aqM⟩
theorem akV(O:tab σ.OD=ab (FY σ sz)){p:Nat}(m:NU H p) :
  ∃ r q,Ev tab (.fn σ.OD) [.c (.ptr p 0 0)] H r q∧((∃ k:Int,r=vu k)∧Fm p H q∧NU q p):=by
 obtain⟨k,m⟩:=m;have v:=ax m;have j:∀(H:an) (k:Int),p<H.length→(H.set p (.box [.f (.int .u64 k)] 0))[p]?=ab (.box [.f (.int .u64 k)] 0):=fun H k h=>List.getElem?_set_self h;refine dt O rfl fun Q N=>?_;apply aj;simp;obtain⟨a1,F⟩:=ai0 k 13 (by omega);obtain⟨l,I⟩:=abM k a1;apply aj;simp [m,F,I];obtain⟨s,b⟩:=aP (H.set p (.box [.f (.int .u64 l)] 0));rw [←b];have p1:s[p]?=ab (.box [.f (.int .u64 l)] 0):=by rw [b];exact j _ _ v
 have A:Fm p H s:=by rw [b];exact Fm.set _ _
 obtain⟨y,J⟩:=aqz l 7 (by omega);obtain⟨a4,K⟩:=abM l y;apply aj;simp [p1,J,K];obtain⟨u,d⟩:=aP (s.set p (.box [.f (.int .u64 a4)] 0));rw [←d];have p2:u[p]?=ab (.box [.f (.int .u64 a4)] 0):=by rw [d];exact j _ _ (ax p1)
 have B:Fm p H u:=by rw [d];exact A.trans (Fm.set _ _)
 obtain⟨z,L⟩:=ai0 a4 17 (by omega);obtain⟨a6,M⟩:=abM a4 z;apply aj;simp [p2,L,M];obtain⟨x,g⟩:=aP (u.set p (.box [.f (.int .u64 a6)] 0));rw [←g];have p3:x[p]?=ab (.box [.f (.int .u64 a6)] 0):=by rw [g];exact j _ _ (ax p2)
 have E:Fm p H x:=by rw [g];exact B.trans (Fm.set _ _)
 apply aj;simp [p3];exact aE (N _ _ (vu a6) rfl (by simp [Km.results,aZ]) ⟨⟨a6,rfl⟩,E,a6,p3⟩)
theorem akU(q:tab σ.npt=ab (FX σ sz)){L k:Nat}(b:bB tab σ.len [vu L]=Eq (vi k))(v:L≤1000000000)(s:k≤62):bB tab σ.npt [vi L] (vu ((2:Int) ^ k)):=by
 refine bI q rfl fun Q m=>?_;apply aj;simp;have d:IntKind.wrap .u64 (L:Int)=L:=by rw [yj];omega
 have j:(2:Nat) ^ k≤2 ^ 62:=avy (by omega) s;have l:(2:Nat) ^ 62=4611686018427387904:=by decide
 have u:bV .shl (.c (.f (.int .u64 1))) (.c (.f (.int .i64 (k:Int))))=ab (vu ((2:Int) ^ k)):=by
  simp only [bV,aY (show¬ (k:Int)<0 by omega)];show ab (vu (IntKind.wrap .u64 (1*2 ^ (min (k:Int).toNat 64))))=_;have g:((2:Int) ^ k)=((2 ^ k:Nat):Int):=by simp
  obtain⟨w,d⟩:=aP (2 ^ k:Nat);rw [←d]at g j;rw [aug,Nat.min_eq_left (by omega),Int.one_mul,yj,g,Int.emod_eq_of_lt (by omega) (by omega)]
 apply aj;simp [d,b,u];exact aE (m _ _ ⟨rfl,_,by simp [Km.results,aZ];rfl,by simp⟩)
theorem aj3(hT:tab σ.brk=ab (Fo σ sz))(hN:tab σ.OD=ab (FY σ sz))(hP:tab σ.npt=ab (FX σ sz)){n a L k:Nat}(I:bB tab σ.len [vu L]=Eq (vi k))(W:k≤62)(b_:2 ^ k≤2*L)(hn:rows.length=n)(hl:n≤1000000000)(v:RB H b sz ep rows)(hg:bO sz rows)(h8:8≤L)(b7:a+L≤n) :
  ∃ r O,Ev tab (.fn σ.brk) [.c (.sl b 0 n 0 ep sz),vi a,vi (a+L:Nat),cv] H r O∧(r=.t []∧Fm b H O∧∃ l',RB O b sz ep l'∧eu a (a+L) rows l'):=by
 have N:=(akU (σ:=σ) (sz:=sz) hP I (by omega) W).eq;obtain⟨d,hd⟩:=aP (L / 4);have hq:bV .quo (vi (L:Int)) (vi 4)=ab (vi (d:Int)):=by
  have:=ahn (a:=L) (b:=4) (by omega) (by omega);rw [hd];exact this
 have hw:IntKind.i64.wrap ((a:Int)+L-a)=L:=by rw [aN];omega
 have Z:IntKind.wrap .u64 (L:Int)=L:=by rw [yj];omega
 have h2:(2:Nat) ^ k≤2 ^ 62:=avy (by omega) W;have a7:(2:Nat) ^ 62=4611686018427387904:=by decide
 have c_:0<(2:Nat) ^ k:=Nat.pow_pos (by omega);have hp:((2:Int) ^ k)=((2 ^ k:Nat):Int):=by simp
 have Y:IntKind.wrap .u64 ((2:Int) ^ k-1)=(2:Int) ^ k-1:=by rw [yj,hp,Int.emod_eq_of_lt (by omega) (by omega)]
 refine dt hT rfl fun Q hQ=>?_;apply aj;simp [hw];apply aq;refine au (.inl rfl) ?_;simp;refine ak (by simp;omega) ?_;have a_:=v.lt;apply aj;simp [Z];obtain⟨y,z⟩:=aP (H++[.box [.f (.int .u64 (L:Int))] 0]);rw [←z];have p1:NU y H.length:=⟨L,by rw [z];simp⟩
 have f1:Fm b H y:=by rw [z];exact Fm.push _ _
 have r1:RB y b sz ep rows:=by rw [z];exact v.push _
 apply aj;simp [N];apply aj;simp [hq,aN (n:=(d:Int)*2),aN (n:=(a:Int)+d*2),aN (n:=(a:Int)+d*2-1)];refine az ?_;refine bG (fun m s=>∃(i:Nat) (t:T) (y:an) (l:List (List FC)),s=⟨t,[],y⟩∧i+m=a+d*2+2∧a≤i∧i≤a+d*2+2∧t.g 0=.c (.sl b 0 n 0 ep sz)∧t.g 1=vi a∧t.g 8=vi L∧t.g 9=.c (.ptr H.length 0 0)∧t.g 10=vu ((2:Int) ^ k)∧t.g 11=vi i ∧
  Fm b H y∧NU y H.length∧RB y b sz ep l∧eu a (a+L) rows l) 3
  ⟨a+d*2-1,_,y,rows,rfl,by omega,by omega,by omega,by simp,by simp,by simp,by simp,by simp,by simp;omega,f1,p1,r1,eu.refl _ _ _⟩ ?_
 rintro m s ⟨i,t,y,l,rfl,hm,a9,hi,E,B,A,F,g10,u,K,X,v,g⟩ ih;have M:=g.len;apply aq;apply aj;simp [B,A,u,hq,aN (n:=(d:Int)*2),aN (n:=(a:Int)+d*2),aN (n:=(a:Int)+d*2+1)];by_cases c9:i≤a+d*2+1
 case neg=>
  refine al (by simp;omega) ?_;refine bf (k':=[]) rfl ?_;exact jX (hQ _ _ _ rfl rfl ⟨rfl,K,l,v,g⟩)
 refine ak (by simp;omega) (aH ?_);obtain⟨r,H2,U,⟨x,rfl⟩,f2,n2⟩:=akV (σ:=σ) (sz:=sz) hN X;have U:=U.eq;obtain⟨o,ho,J⟩:=Zo (x:=x) (k:=k) W;have r2:RB H2 b sz ep l:=f2.get v (by omega);have f3:=K.far (aft _) f2;apply aq;refine az ?_;apply aj;simp [F,g10,U,Y,J,aN (n:=(o:Int))];have go:∀(t:T) (q:Nat),q<L→t.g 0=.c (.sl b 0 n 0 ep sz)→t.g 1=vi a→t.g 8=vi L→t.g 9=.c (.ptr H.length 0 0)→t.g 10=vu ((2:Int) ^ k)→t.g 11=vi i→t.g 12=vi q →
   WP tab σ.brk ae [.code (Zy sz),.inBlock 1,.code (Zz),.inLoop (Zx σ sz),.inBlock 0] ⟨t,[],H2⟩ Q:=by
  intro t q d5 E B A F g10 u S;obtain⟨x5,y5,H5,H6,-,-,i5,j5,l5,l6,w5,w6,s5,j6,s6,r6,f6⟩:=r2.jn (g.sU hg) (M.trans hn) (i:=i) (j:=a+q) (by omega) (by omega);have ce:((a+q:Nat):Int)=(a:Int)+q:=by omega
  rw [ce]at j5 j6;refine au (.inl rfl) ?_;simp [E,B,u,S,i5,j5,l5,l6,w5,w6,s5,j6,s6,-av,-bs,aN (n:=(a:Int)+q)];refine aw (au (.inl rfl) ?_);simp [u,aN (n:=(i:Int)+1)];exact ih (m-1) _ (by omega) ⟨i+1,_,H6,_,rfl,by omega,by omega,by omega,by simp [E],by simp [B],by simp [A],by simp [F],by simp [g10],by simp,f3.trans f6,n2.fm f6 (by omega),r6,
   g.trans (eP (by omega) (by omega) (by omega) (by omega) (by omega))⟩
 apply aq;apply aq;refine au (.inl rfl) ?_;simp [A];by_cases b9:L≤o
 ·refine ak (by simp;omega) ?_;refine au (.inl rfl) ?_;simp [A,aN (n:=(o:Int)-L)];exact go _ (o-L) (by omega) (by simp [E]) (by simp [B]) (by simp [A]) (by simp [F]) (by simp [g10]) (by simp [u]) (by simp;omega)
 ·refine al (by simp;omega) (aH ?_);exact go _ o (by omega) (by simp [E]) (by simp [B]) (by simp [A]) (by simp [F]) (by simp [g10]) (by simp [u]) (by simp)
end
section
variable{W:List FC→Prop}{c:List FC→List FC→Int}{l l':List (List FC)}
def Rest(c:List FC→List FC→Int)(a p q e:Nat)(l:List (List FC)):Prop:=∀ i j,a≤i→i<j→j<e→¬ (p≤i∧j<q)→kH c l i j
theorem Rest.all(c:List FC→List FC→Int)(a e:Nat)(l:List (List FC)):Rest c a a e e l:=fun i j b d g m=>by omega
theorem Rest.vD{a p q e:Nat}(h:Rest c a p q e l)(b:eu p q l l')(d:p≤q)(E:q≤l.length)(K:a≤p)(L:q≤e):Rest c a p q e l':=by
 intro i j A I B J x y g hy;by_cases v:p≤i∧i<q
 ·obtain⟨i',i1,i2,s⟩:=b.mem d E v.1 v.2 g;rw [b.ge (by omega)]at hy;exact h i' j (by omega) (by omega) B (by omega) x y s hy
 by_cases z:p≤j∧j<q
 ·obtain⟨M,N,O,u⟩:=b.mem d E z.1 z.2 hy;rw [b.lt (by omega)]at g;exact h i M A (by omega) (by omega) (by omega) x y g u
 have F:l'[i]?=l[i]?:=by
  by_cases m:i<p
  ·exact b.lt m
  ·exact b.ge (by omega)
 have H:l'[j]?=l[j]?:=by
  by_cases m:j<p
  ·exact b.lt m
  ·exact b.ge (by omega)
 rw [F]at g;rw [H]at hy;exact h i j A I B J x y g hy
theorem Rest.up{a p q e:Nat}(h:Rest c a p q e l)(hu:Up c p q l):Up c a e l:=fun i j x y m d s g hy=>by
 by_cases b:p≤i∧j<q
 ·exact hu i j x y b.1 d b.2 g hy
 ·exact h i j m d s b x y g hy
theorem Rest.low{a p q e:Nat}(h:Rest c a p q e l)(m:Ds c a e l)(j:a≤p)(s:q≤e):Ds c p q l:=fun k d g u=>by
 by_cases b:p=a
 ·subst b;exact m k d g (by omega)
 ·exact h (p-1) k (by omega) (by omega) (by omega) (by omega)
theorem Rest.left{a p q e m:Nat}(hr:Rest c a p q e l)(hc:tJ W c)(s:∀ r ∈ l,W r)(B:e≤l.length)(E:nq c p q m l)(hu:Up c p m l)(H:p≤m)(I:m<q)(J:q≤e):Rest c a (m+1) q e l:=by
 intro i j i1 A F K;by_cases g:p≤i∧j<q
 case neg=>exact hr i j i1 A F g
 obtain⟨v,z,lo,hi⟩:=E;rcases auj j m with u | u | u
 ·exact fun x y d hy=>hu i j x y g.1 A u d hy
 ·subst u;intro x y d hy;rw [z]at hy;cases hy;exact hc.Be (s _ (atZ d)) (s _ (atZ z)) (lo i x g.1 A d)
 ·have b:i≤m:=by omega
  have right:kH c l m j:=fun x y d hy=>by
   rw [z]at d;cases d;exact hi j y u g.2 hy
  rcases auk b with b | b
  ·have left:kH c l i m:=fun x y d hy=>by
    rw [z]at hy;cases hy;exact hc.Be (s _ (atZ d)) (s _ (atZ z)) (lo i x g.1 b d)
   exact left.trans hc s right (by omega)
  ·subst b;exact right
theorem Rest.right{a p q e m:Nat}(hr:Rest c a p q e l)(hc:tJ W c)(u:∀ r ∈ l,W r)(B:e≤l.length)(E:nq c p q m l)(hu:Up c (m+1) q l)(H:p≤m)(I:m<q)(J:q≤e):Rest c a p m e l:=by
 intro i j i1 A F K;by_cases d:p≤i∧j<q
 case neg=>exact hr i j i1 A F d
 obtain⟨v,s,lo,hi⟩:=E;rcases auj i m with g | g | g
 ·have left:kH c l i m:=fun x y b hy=>by
   rw [s]at hy;cases hy;exact hc.Be (u _ (atZ b)) (u _ (atZ s)) (lo i x d.1 g b)
  rcases auk (show m≤j by omega)with z | z
  ·have right:kH c l m j:=fun x y b hy=>by
    rw [s]at b;cases b;exact hi j y z d.2 hy
   exact left.trans hc u right (by omega)
  ·subst z;exact left
 ·subst g;intro x y b hy;rw [s]at b;cases b;exact hi j y A d.2 hy
 ·exact fun x y b hy=>hu i j x y (by omega) A d.2 b hy
theorem Rest.equal{a p q e m:Nat}{v:List FC}(hr:Rest c a p q e l)(hc:tJ W c)(g:∀ r ∈ l,W r)(b:Ds c p q l)(F:0<p){w:List FC}(A:l[p-1]?=ab w)(z:W v)(u:¬ c w v<0)
  (lo:∀(k:Nat) x,p≤k→k<m→l[k]?=ab x→¬ c v x<0):Rest c a m q e l:=by
 intro i j i1 J K N;by_cases d:p≤i∧j<q
 case neg=>exact hr i j i1 J K d
 intro x y B hy;have s:i<m:=by omega
 have H:=lo i x d.1 s B;have I:=b j F (by omega) d.2 w y A hy;have M:=g _ (atZ B);have E:=g _ (atZ hy);have L:=g _ (atZ A);exact hc.trans M z E H (hc.trans z L E u I)
theorem nq.vD{p q m g q':Nat}(H:nq c p q m l)(d:eu g q' l l')(h:(p≤g∧q'≤m)∨(m<g∧q'≤q))(s:g≤q')(B:q'≤l.length):nq c p q m l':=by
 obtain⟨v,E,lo,hi⟩:=H;refine⟨v,?_,fun k x u y b=>?_,fun k x u y b=>?_⟩
 ·rcases h with h | h
  ·rw [d.ge (by omega)];exact E
  ·rw [d.lt (by omega)];exact E
 ·by_cases j:g≤k∧k<q'
  ·obtain⟨k',a1,F,A⟩:=d.mem s B j.1 j.2 b;rcases h with h | h
   ·exact lo k' x (by omega) (by omega) A
   ·omega
  ·by_cases z:k<g
   ·rw [d.lt z]at b;exact lo k x u y b
   ·rw [d.ge (by omega)]at b;exact lo k x u y b
 ·by_cases j:g≤k∧k<q'
  ·obtain⟨k',a1,F,A⟩:=d.mem s B j.1 j.2 b;rcases h with h | h
   ·omega
   ·exact hi k' x (by omega) (by omega) A
  ·by_cases z:k<g
   ·rw [d.lt z]at b;exact hi k x u y b
   ·rw [d.ge (by omega)]at b;exact hi k x u y b
end
structure Pq(b n ep sz:Nat)(cv:V)(H:an)(c:List FC→List FC→Int)(rows:List (List FC))(a e:Nat)(t:T)(H1:an)(l:List (List FC))(p q:Nat)(lim:Int):Prop where
 g0:t.g 0=.c (.sl b 0 n 0 ep sz)
 g1:t.g 1=vi p
 g2:t.g 2=vi q
 g3:t.g 3=vi lim
 g4:t.g 4=cv
 fr:Fm b H H1
 rb:RB H1 b sz ep l
 sg:eu a e rows l
 re:Rest c a p q e l
 ap:a≤p
 pq:p≤q
 qe:q≤e
theorem Pq.aA{b n ep sz:Nat}{cv:V}{H:an}{c:List FC→List FC→Int}{rows:List (List FC)}{a e:Nat}{t:T}{j:an}{l:List (List FC)}{p q:Nat}{g:Int}(h:Pq b n ep sz cv H c rows a e t j l p q g)
  {d:T} (m:d.g 0=t.g 0) (s:d.g 1=t.g 1) (u:d.g 2=t.g 2) (v:d.g 3=t.g 3) (x:d.g 4=t.g 4):Pq b n ep sz cv H c rows a e d j l p q g:=
 ⟨m.trans h.g0,s.trans h.g1,u.trans h.g2,v.trans h.g3,x.trans h.g4,h.fr,h.rb,h.sg,h.re,h.ap,h.pq,h.qe⟩
theorem Pq.vD{b n ep sz:Nat}{cv:V}{H:an}{c:List FC→List FC→Int}{rows:List (List FC)}{a e:Nat}{t:T}{m:an}{l:List (List FC)}{p q:Nat}{d:Int}(h:Pq b n ep sz cv H c rows a e t m l p q d)
  {g:an} {j:List (List FC)} (x:Fm b m g) (u:RB g b sz ep j) (s:eu p q l j) (v:e≤rows.length):Pq b n ep sz cv H c rows a e t g j p q d:=
 ⟨h.g0,h.g1,h.g2,h.g3,h.g4,h.fr.trans x,u,h.sg.trans (s.mono h.ap h.qe),h.re.vD s h.pq (by rw [h.sg.len];exact aua h.qe v) h.ap h.qe,h.ap,h.pq,h.qe⟩
structure afh(tab:Nat→Option aB)(σ:jS)(sz:Nat):Prop where
 z9:tab σ.z9=ab (F' σ sz)
 ins:tab σ.ins=ab (xu σ sz)
 heap:tab σ.heap=ab (y4 σ sz)
 vc:tab σ.vc=ab (vd σ sz)
 brk:tab σ.brk=ab (Fo σ sz)
 piv:tab σ.piv=ab (Gf σ sz)
 rev:tab σ.rev=ab (Gm σ sz)
 part:tab σ.part=ab (zx σ sz)
 OH:tab σ.OH=ab (F_ σ sz)
 pins:tab σ.pins=ab (zB σ sz)
 uI:tab σ.uI=ab (uJ σ sz)
 med:tab σ.med=ab (xG σ sz)
 ord:tab σ.ord=ab (uS σ sz)
 npt:tab σ.npt=ab (FX σ sz)
 OD:tab σ.OD=ab (FY σ sz)
section
variable{tab:Nat→Option aB}{σ:jS}{sz:Nat}{b ep n:Nat}{cv:V}{W:List FC→Prop}{c:List FC→List FC→Int}
theorem alL(hT:afh tab σ sz)(a_:Cv tab cv W c)(hc:tJ W c)(hl:n≤1000000000)(d6:∀ L:Nat,L≤n→∃ k:Nat,bB tab σ.len [vu L]=Eq (vi k)∧k≤62∧(0<L→2 ^ k≤2*L)) :
  ∀(m a e:Nat) (H:an) (rows:List (List FC)) (u:Int),e-a=m→a≤e→e≤n→rows.length=n→RB H b sz ep rows→bO sz rows→(∀ r ∈ rows,W r)→Ds c a e rows →
  ∃ r H',Ev tab (.fn σ.z9) [.c (.sl b 0 n 0 ep sz),vi a,vi e,vi u,cv] H r H'∧(r=.t []∧Fm b H H'∧∃ l',RB H' b sz ep l'∧eu a e rows l'∧Up c a e l'):=by
 intro m;induction m using Nat.strongRecOn with
 | ind m IH=>
 intro a e H rows u hm d7 d9 hn j9 hg hW e_;have K:∀ {l p q},eu p q rows l→bO sz l:=fun h=>h.sU hg;have E:∀ {l p q},eu p q rows l→∀ r ∈ l,W r:=fun h r hr=>hW r (h.1.mem_iff.1 hr);refine dt hT.z9 rfl fun Q hQ=>?_;have done:∀ {M:an} {l:List (List FC)},Fm b H M→RB M b sz ep l→eu a e rows l→Up c a e l→∀(j:Option ay) (t:T),Q j ⟨t,[],M⟩:=
  fun hf hr hs hu j t=>hQ _ _ (.t []) rfl rfl ⟨rfl,hf,_,hr,hs,hu⟩
 apply aj;simp;apply aj;simp;refine az ?_;refine bG (fun m s=>∃(p q:Nat) (u:Int) (w1 w2:Bool) (t:T) (M:an) (l:List (List FC)),s=⟨t,[],M⟩∧m=q-p∧Pq b n ep sz cv H c rows a e t M l p q u∧t.g 10=vb w1∧t.g 11=vb w2) _
  ⟨a,e,u,ag,ag,_,H,rows,rfl,rfl,⟨by simp,by simp,by simp,by simp,by simp,Fm.refl H,j9,eu.refl _ _ _,Rest.all c a e rows,aft _,d7,aft _⟩,by simp,by simp⟩ ?_
 rintro m1 s ⟨p,q,u,w1,w2,t,M,l,rfl,rfl,z,g10,N⟩ ih;obtain⟨S,U,O,g3,X,-,-,-,-,ap,pq,qe⟩:=id z;refine az ?_;apply aj;obtain⟨L,rfl⟩:∃ L,q=p+L:=⟨q-p,by omega⟩
 have hw:IntKind.i64.wrap ((p:Int)+L-p)=L:=by rw [aN];omega
 have A:∀ {M t l u p q},Pq b n ep sz cv H c rows a e t M l p q u→l.length=n:=fun h=>h.sg.len.trans hn;have b7:∀ {M t l u p q},Pq b n ep sz cv H c rows a e t M l p q u→Ds c p q l:=fun h=>h.re.low (e_.vD h.sg (aft _) (aft _) d7 (by omega)) h.ap h.qe;simp [U,O,hw];apply aq;apply aj;simp;by_cases j_:L≤12
 ·refine ak (by simp;omega) ?_;obtain⟨r,H2,B,rfl,f2,l2,r2,s2,u2⟩:=akC hT.ins a_ hc (A z) hl z.rb (K z.sg) (E z.sg) z.pq (by omega);apply aj;have B:=B.eq;simp at B;simp [S,U,O,X,B];have g:=z.vD f2 r2 s2 (by omega);exact aE (done g.fr g.rb g.sg (g.re.up u2) _ _)
 refine al (by simp;omega) (aH ?_);apply aq;apply aj;simp [g3];by_cases d_:u=0
 ·refine ak (by simp [d_]) ?_;obtain⟨r,H2,B,rfl,f2,l2,r2,s2,u2⟩:=afX hT.heap hT.vc a_ hc (A z) hl z.rb (K z.sg) (E z.sg) (show p<p+L by omega) (by omega);apply aj;have B:=B.eq;simp at B;simp [S,U,O,X,B];have g:=z.vD f2 r2 s2 (by omega);exact aE (done g.fr g.rb g.sg (g.re.up u2) _ _)
 refine aW (by simp [d_]) ?_;have i_:∀(t:T) (M:an) (l:List (List FC)) (u:Int) (v:Nat),Pq b n ep sz cv H c rows a e t M l p (p+L) u→t.g 12=vi L→t.g 13=vi v→p≤v→v<p+L →
   WP tab σ.z9 ae [.code (aaP σ),.inBlock 1,.inLoop (xX σ sz),.inBlock 0] ⟨t,[],M⟩ Q:=by
  intro t M l u v z Y Z a7 a9;obtain⟨S,U,O,g3,X,-,-,-,-,-,-,-⟩:=id z;obtain⟨r,H2,B,mid,w,rfl,m1,m2,f2,l2,r2,s2,pt⟩:=agU hT.part a_ (A z) hl z.rb (K z.sg) (E z.sg) (show p<p+L by omega) (by omega) a7 a9;have B:=B.eq;simp at B;have g:=z.vD f2 r2 s2 (by omega);have f9:=A g;obtain⟨d,hd⟩:=aP (L / 8);have hq:bV .quo (vi (L:Int)) (vi 8)=ab (vi (d:Int)):=by
   have:=ahn (a:=L) (b:=8) (by omega) (by omega);rw [hd];exact this
  apply aj;simp [S,U,O,X,Z,B];apply aj;simp;apply aj;simp [U,O];apply aj;simp [Y,hq];apply aq;refine au (.inl rfl) ?_;simp [aN (n:=(mid:Int)-p),aN (n:=(p:Int)+L-mid)];by_cases k_:(mid:Int)-p<(p:Int)+L-mid
  ·refine ak (by simp;omega) ?_;obtain⟨r,H3,B,rfl,f3,l3,r3,s3,u3⟩:=IH (mid-p) (by omega) p mid H2 l2 u rfl m1 (by omega) f9 r2 (K g.sg) (E g.sg) ((b7 g).mono (by omega));have B:=B.eq;have I:=g.vD f3 r3 (s3.mono (aft _) (by omega)) (by omega);apply aj;simp;apply aj;simp [S,U,g3,X,B];refine au (.inl rfl) ?_;simp [aN (n:=(mid:Int)+1)];refine aw (ih _ _ (by omega) ⟨mid+1,p+L,u,_,w,_,H3,l3,rfl,rfl,⟨by simp [S],by simp,by simp [O],by simp [g3],by simp [X],I.fr,I.rb,I.sg,?_,by omega,by omega,I.qe⟩,by simp;rfl,by simp⟩);exact I.re.left hc (E I.sg) (by rw [A I];exact d9) (pt.vD s3 (.inl ⟨aft _,aft _⟩) m1 (by omega)) u3 m1 m2 I.qe
  ·refine al (by simp;omega) ?_;have f_:Ds c (mid+1) (p+L) l2:=fun k h0 k1 k2 x y hx hy=>by
    obtain⟨v,hv,lo,hi⟩:=pt;rw [show mid+1-1=mid by omega,hv]at hx;cases hx;exact hi k y (by omega) k2 hy
   obtain⟨r,H3,B,rfl,f3,l3,r3,s3,u3⟩:=IH (p+L-(mid+1)) (by omega) (mid+1) (p+L) H2 l2 u rfl (by omega) (by omega) f9 r2 (K g.sg) (E g.sg) f_;have B:=B.eq;simp at B;have I:=g.vD f3 r3 (s3.mono (by omega) (aft _)) (by omega);apply aj;simp;apply aj;simp [S,O,g3,X,B,aN (n:=(mid:Int)+1)];refine au (.inl rfl) ?_;simp;refine aw (ih _ _ (by omega) ⟨p,mid,u,_,w,_,H3,l3,rfl,rfl,⟨by simp [S],by simp [U],by simp,by simp [g3],by simp [X],I.fr,I.rb,I.sg,?_,by omega,by omega,by omega⟩,by simp;rfl,by simp⟩);exact I.re.right hc (E I.sg) (by rw [A I];exact d9) (pt.vD s3 (.inr ⟨by omega,aft _⟩) (by omega) (by omega)) u3 m1 m2 I.qe
 have b_:∀(t:T) (M:an) (l:List (List FC)) (u:Int) (v:Nat) (w1 w2:Bool),Pq b n ep sz cv H c rows a e t M l p (p+L) u→t.g 12=vi L→t.g 13=vi v→t.g 10=vb w1→t.g 11=vb w2→p≤v→v<p+L →
   WP tab σ.z9 ae [.code (aaO σ sz),.inBlock 1,.inLoop (xX σ sz),.inBlock 0] ⟨t,[],M⟩ Q:=by
  intro t M l u v w1 w2 z Y Z g10 N a7 a9;obtain⟨S,U,O,g3,X,-,-,-,-,-,-,-⟩:=id z;apply aq;apply aj;rcases auv p with c9 | c9
  ·simp [U,c9];refine aW (by simp) ?_;exact i_ _ M l u v (z.aA (by simp [S]) (by simp [U,c9]) (by simp [O]) (by simp [g3]) (by simp [X])) (by simp [Y]) (by simp [Z]) a7 a9
  obtain⟨d,rfl⟩:∃ d,p=d+1:=⟨p-1,by omega⟩
  have j8:(0:Int)<(d:Int)+1:=by omega
  have c1:((d+1:Nat):Int)=(d:Int)+1:=by omega
  have c2:((d+1+L:Nat):Int)=(d:Int)+1+L:=by omega
  obtain⟨x,y,F,ar,J,hx,hy,i1,j1,l1,l2,d8,B,wx,wy⟩:=z.rb.ask (K z.sg) a_ (E z.sg) (A z) (i:=d) (j:=v) (by omega) (by omega);have d5:t.g 1=vi ((d:Int)+1):=by rw [U,c1]
  simp [S,d5,X,Z,j8,i1,j1,l1,l2,d8,B,-av,aN (n:=(d:Int))];have b9:Pq b n ep sz cv H c rows a e t (M++J) l (d+1) (d+1+L) u:=z.vD (Fm.push _ _) (z.rb.push _) (eu.refl _ _ _) (by omega);by_cases c_:c x y<0
  ·refine aW (by simp [c_]) ?_;exact i_ _ _ l u v (b9.aA (by simp [S]) (by simp [U]) (by simp [O]) (by simp [g3]) (by simp [X])) (by simp [Y]) (by simp [Z]) a7 a9
  refine ak (by simp [c_]) ?_;obtain⟨r,H2,B,mid,rfl,m1,m2,f2,l2,r2,s2,lo,hi⟩:=alX hT.OH a_ hc (A b9) hl b9.rb (K b9.sg) (E b9.sg) (show d+1<d+1+L by omega) (by omega) a7 a9 hy;have B:=B.eq;have g:=b9.vD f2 r2 s2 (by omega);rw [c1,c2]at B;rw [c2]at O;apply aj;simp [S,d5,O,X,Z,B];apply aj;simp;refine bf (k':=[.inLoop (xX σ sz),.inBlock 0]) rfl ?_;refine ih _ _ (by omega) ⟨mid,d+1+L,u,w1,w2,_,H2,l2,rfl,rfl,⟨by simp [S],by simp,by simp [O],by simp [g3],by simp [X],g.fr,g.rb,g.sg,?_,by omega,by omega,g.qe⟩,by simp [g10],by simp [N]⟩;refine g.re.equal hc (E g.sg) (b7 g) (by omega) (w:=x) (v:=y) ?_ wy c_ lo;rw [show d+1-1=d by omega,s2.lt (by omega)];exact hx
 have h_:∀(t:T) (M:an) (l:List (List FC)) (u:Int) (v:Nat) (w1 w2:Bool) (hint:Int),Pq b n ep sz cv H c rows a e t M l p (p+L) u→t.g 12=vi L→t.g 13=vi v→t.g 14=vi hint→t.g 10=vb w1→t.g 11=vb w2→p≤v→v<p+L →
   WP tab σ.z9 ae [.code (aaN σ sz),.inBlock 1,.inLoop (xX σ sz),.inBlock 0] ⟨t,[],M⟩ Q:=by
  intro t M l u v w1 w2 hint z Y Z j3 g10 N a7 a9;obtain⟨S,U,O,g3,X,-,-,-,-,-,-,-⟩:=id z;apply aq;apply aj;cases w1 with
  | false=>
   simp [g10];refine aW (by simp) ?_;exact b_ _ _ l u v ah w2 (z.aA (by simp [S]) (by simp [U]) (by simp [O]) (by simp [g3]) (by simp [X])) (by simp [Y]) (by simp [Z]) (by simp [g10]) (by simp [N]) a7 a9
  | true=>
  cases w2 with
  | false=>
   simp [g10,N];refine aW (by simp) ?_;exact b_ _ _ l u v ag ah (z.aA (by simp [S]) (by simp [U]) (by simp [O]) (by simp [g3]) (by simp [X])) (by simp [Y]) (by simp [Z]) (by simp [g10]) (by simp [N]) a7 a9
  | true=>
  simp [g10,N,j3];by_cases h1:hint=1
  case neg=>
   refine aW (by simp [h1]) ?_;exact b_ _ _ l u v ag ag (z.aA (by simp [S]) (by simp [U]) (by simp [O]) (by simp [g3]) (by simp [X])) (by simp [Y]) (by simp [Z]) (by simp [g10]) (by simp [N]) a7 a9
  refine ak (by simp [h1]) ?_;obtain⟨r,H2,B,w,rfl,f2,l2,r2,s2,u2⟩:=ahi hT.pins a_ hc (A z) hl z.rb (K z.sg) (E z.sg) (show p<p+L by omega) (by omega) (b7 z);have B:=B.eq;simp at B;have g:=z.vD f2 r2 s2 (by omega);apply aj;simp [S,U,O,X,B];cases w with
  | true=>
   refine ak (by simp) ?_;exact aE (done g.fr g.rb g.sg (g.re.up (u2 rfl)) _ _)
  | false=>
   refine aW (by simp) ?_;exact b_ _ _ l2 u v ag ag (g.aA (by simp [S]) (by simp [U]) (by simp [O]) (by simp [g3]) (by simp [X])) (by simp [Y]) (by simp [Z]) (by simp [g10]) (by simp [N]) a7 a9
 have g_:∀(t:T) (M:an) (l:List (List FC)) (u:Int) (w1 w2:Bool),Pq b n ep sz cv H c rows a e t M l p (p+L) u→t.g 12=vi L→t.g 10=vb w1→t.g 11=vb w2 →
   WP tab σ.z9 ae [.code (aaM σ sz),.inBlock 1,.inLoop (xX σ sz),.inBlock 0] ⟨t,[],M⟩ Q:=by
  intro t M l u w1 w2 z Y g10 N;obtain⟨S,U,O,g3,X,-,-,-,-,-,-,-⟩:=id z;obtain⟨r,H2,B,⟨v,hint,rfl,v1,v2⟩,kp⟩:=amc hT.piv hT.uI hT.med hT.ord a_ (A z) hl z.rb (K z.sg) (E z.sg) (show p+8≤p+L by omega) (by omega);have B:=B.eq;simp at B;have g:Pq b n ep sz cv H c rows a e t H2 l p (p+L) u:=z.vD kp.fm (kp.rb z.rb) (eu.refl _ _ _) (by omega);apply aj;simp [S,U,O,X,B];apply aq;apply aj;simp;by_cases h2:hint=2
  case neg=>
   refine aW (by simp [h2]) ?_;exact h_ _ _ l u v w1 w2 hint (g.aA (by simp [S]) (by simp [U]) (by simp [O]) (by simp [g3]) (by simp [X])) (by simp [Y]) (by simp) (by simp) (by simp [g10]) (by simp [N]) v1 v2
  refine ak (by simp [h2]) ?_;obtain⟨r,H3,B,rfl,f3,l3,r3,s3⟩:=aml hT.rev (cv:=cv) (A g) hl g.rb (K g.sg) (show p<p+L by omega) (by omega);have B:=B.eq;simp at B;have I:=g.vD f3 r3 s3 (by omega);apply aj;simp [S,U,O,X,B];apply aj;simp [U,O,aN (n:=(p:Int)+L-1),aN (n:=(v:Int)-p),aN (n:=(p:Int)+L-1-(v-p))];refine au (.inl rfl) ?_;simp;exact h_ _ _ l3 u (p+L-1-(v-p)) w1 w2 1 (I.aA (by simp [S]) (by simp [U]) (by simp [O]) (by simp [g3]) (by simp [X])) (by simp [Y]) (by simp;omega) (by simp) (by simp [g10]) (by simp [N]) (by omega) (by omega)
 apply aq;apply aj;simp [g10];cases w1 with
 | true=>
  refine aW (by simp) ?_;exact g_ _ _ l u ag w2 (z.aA (by simp [S]) (by simp [U]) (by simp [O]) (by simp [g3]) (by simp [X])) (by simp) (by simp [g10]) (by simp [N])
 | false=>
  refine ak (by simp) ?_;obtain⟨k,hk,j4,j7⟩:=d6 L (by omega);obtain⟨r,H2,B,rfl,f2,l2,r2,s2⟩:=aj3 (cv:=cv) hT.brk hT.OD hT.npt hk j4 (j7 (by omega)) (A z) hl z.rb (K z.sg) (a:=p) (by omega) (by omega);have B:=B.eq;simp at B;have g:=z.vD f2 r2 s2 (by omega);apply aj;simp [S,U,O,X,B];refine au (.inl rfl) ?_;simp [g3];exact g_ _ _ l2 _ ah w2 ⟨by simp [S],by simp [U],by simp [O],by simp;rfl,by simp [X],g.fr,g.rb,g.sg,g.re,g.ap,g.pq,g.qe⟩ (by simp) (by simp [g10]) (by simp [N])
end
def sort_1:ay:=.region [⟨D 5,.bN (R 0),ae⟩,⟨D 6,.len (R 5),ae⟩,⟨D 4,.bN (R 6),ae⟩] []
def ams(σ:jS):ay:=.region [⟨D 7,.bN (R 0),ae⟩,⟨D 8,.bN (R 4),ae⟩,⟨D 9,.bN (R 4),ae⟩,⟨D 10,.eX .u64 (R 9),ae⟩,⟨D 11,.call σ.len [(R 10)] ah,ae⟩,⟨D 12,.bN (R 1),ae⟩,⟨D 13,.call σ.z9 [(R 7),(.k (.c (.f (.int .i64 0)))),(R 8),(R 11),(R 12)] ag,ae⟩] []
def EP(σ:jS):aB:=⟨[P.nat 0,P.nat 1],[],.seq sort_1 (ams σ)⟩
section
variable{tab:Nat→Option aB}{σ:jS}{sz:Nat}{cv:V}{W:List FC→Prop}{c:List FC→List FC→Int}{N:Nat}
def ai9(tab:Nat→Option aB)(σ:jS)(N:Nat):Prop:=∀ L:Nat,L≤N→∃ k:Nat,bB tab σ.len [vu L]=Eq (vi k)∧k≤62∧(0<L→2 ^ k≤2*L)
theorem af6(g:tab σ.ins=ab (xu σ sz)){H:an}{v:V}:Ev tab (.fn σ.ins) [v,vi 0,vi 0,cv] H (.t []) H:=by
 obtain⟨r,b,j,rfl,rfl⟩:∃ r b,Ev tab (.fn σ.ins) [v,vi 0,vi 0,cv] H r b∧(r=.t []∧b=H):=by
  refine dt g rfl fun Q d=>?_;apply aj;simp [aN (n:=(1:Int))];refine az ?_;refine bG (fun _ s=>s=⟨_,[],H⟩) 0 rfl ?_;rintro _ s rfl -;apply aq;apply aj;simp;refine al (by simp) ?_;refine bf (k':=[]) rfl ?_;exact jX (d _ _ _ rfl rfl ⟨rfl,rfl⟩)
 exact j
theorem agW(l:tab σ.z9=ab (F' σ sz))(g:tab σ.ins=ab (xu σ sz)){H:an}{v:V}{b:Int}:Ev tab (.fn σ.z9) [v,vi 0,vi 0,vi b,cv] H (.t []) H:=by
 have hi:=(af6 (σ:=σ) (sz:=sz) (cv:=cv) g (H:=H) (v:=v)).eq;obtain⟨r,d,m,rfl,rfl⟩:∃ r d,Ev tab (.fn σ.z9) [v,vi 0,vi 0,vi b,cv] H r d∧(r=.t []∧d=H):=by
  refine dt l rfl fun Q j=>?_;apply aj;simp;apply aj;simp;refine az ?_;refine bG (fun _ s=>s=⟨_,[],H⟩) 0 rfl ?_;rintro _ s rfl -;refine az ?_;apply aj;simp [aN (n:=(0:Int))];apply aq;apply aj;simp;refine ak (by simp) ?_;apply aj;simp [hi];exact aE (j _ _ _ rfl rfl ⟨rfl,rfl⟩)
 exact m
theorem Gy{F:Nat}(E:tab F=ab (EP σ))(q:afh tab σ sz)(s:Cv tab cv W c)(K:tJ W c)(Y:N≤1000000000)(g:ai9 tab σ N){H:an}{v:C}{rows:List (List FC)}(hr:LR H v sz rows)(S:rows.length≤N)(M:bO sz rows)(J:∀ r ∈ rows,W r) :
  ∃ r d,Ev tab (.fn F) [.c v,cv] H r d∧(r=.t []∧Kb H d v∧∃ l',LR d v sz l'∧l'.Perm rows∧Up c 0 l'.length l'):=by
 obtain⟨k,O,-,-⟩:=g rows.length S;have z:IntKind.wrap .u64 (rows.length:Int)=rows.length:=by rw [yj];omega
 obtain⟨r,d,j,rfl,u,l',A,m,B⟩:∃ r d,Ev tab (.fn σ.z9) [.c v,vi 0,vi rows.length,vi k,cv] H r d∧(r=.t []∧Kb H d v∧∃ l',LR d v sz l'∧l'.Perm rows∧Up c 0 l'.length l'):=by
  rcases hr with⟨rfl,h⟩ | ⟨x,b,ep,rfl,m⟩
  ·exact⟨_,_,agW q.z9 q.ins,rfl,⟨aft _,fun i y l _=>l⟩,[],.inl ⟨rfl,h⟩,.refl _,Up.one (by simp)⟩
  ·obtain⟨r,d,j,rfl,f,l',r',s',U⟩:=alL q s K (n:=rows.length) (by omega) (fun L X=>g L (by omega)) _ 0 rows.length H rows k rfl (by omega) (aft _) rfl m M J (fun k h=>absurd h (by omega));refine⟨_,_,j,rfl,⟨f.1,fun i y l hi=>?_⟩,l',.inr ⟨?_,b,ep,by rw [s'.len],r'⟩,s'.1,by rw [s'.len];exact U⟩
   ·rw [f.2 i (fun e=>hi (by rw [e];rfl)) (ax l)];exact l
   ·rintro rfl;have:=s'.len;exact x (List.length_eq_zero_iff.1 this.symm)
 have j:=j.eq;refine dt E rfl fun Q I=>?_;apply aj;simp [hr.len];refine au (.inl rfl) ?_;simp [z,O,j];exact jX (I _ _ (.t []) rfl rfl ⟨rfl,u,l',A,m,B⟩)
end
section
set_option linter.unusedVariables false
def aj6(sz:Nat):ay:=.region [⟨D 32,.bN (R 11),ae⟩,⟨D 33,.bin .add (R 32) (.k (.c (.f (.int .i64 1)))),ae⟩,⟨D 9,.bN (R 33),ae⟩] []
def aj7(sz:Nat):ay:=.region [⟨D 34,.bN (R 11),ae⟩,⟨D 10,.bN (R 34),ae⟩] []
def aj5(sz:Nat):ay:=.seq (.region [⟨D 24,.bN (R 2),ae⟩,⟨D 25,.bN (R 0),ae⟩,⟨D 26,.bN (R 11),ae⟩,⟨D 27,.aS sz ae (R 25) (R 26),ae⟩,⟨D 28,.load (ab sz) (R 27),ae⟩,⟨D 29,.bN (R 1),ae⟩,⟨D 30,.cj (R 24) [(R 28),(R 29)] ag,ae⟩,⟨D 31,.bin .lss (R 30) (.k (.c (.f (.int .i64 0)))),ae⟩] []) (.cond (R 31) (aj6 sz) (aj7 sz))
def aj4(sz:Nat):ay:=.seq (.region [⟨D 18,.bN (R 9),ae⟩,⟨D 19,.bN (R 10),ae⟩,⟨D 20,.bin .add (R 18) (R 19),ae⟩,⟨D 21,.eX .u64 (R 20),ae⟩,⟨D 22,.bin .shr (R 21) (.k (.c (.f (.int .u64 1)))),ae⟩,⟨D 23,.eX .i64 (R 22),ae⟩,⟨D 11,.bN (R 23),ae⟩] []) (aj5 sz)
def an6(sz:Nat):ay:=.seq (.seq (.region [⟨D 15,.bN (R 9),ae⟩,⟨D 16,.bN (R 10),ae⟩,⟨D 17,.bin .lss (R 15) (R 16),ae⟩] []) (.cond (R 17) .skip (.exit 0))) (.block 1 (aj4 sz))
def aj8(sz:Nat):ay:=.seq (.region [⟨D 35,.bN (R 9),ae⟩,⟨D 36,.bN (R 9),ae⟩,⟨D 37,.bN (R 8),ae⟩,⟨D 38,.bin .lss (R 36) (R 37),ae⟩,⟨D 39,.bN (R 38),ae⟩,⟨D 40,.bN (R 2),G 39 ag⟩,⟨D 41,.bN (R 0),G 39 ag⟩,⟨D 42,.bN (R 9),G 39 ag⟩,⟨D 43,.aS sz ae (R 41) (R 42),G 39 ag⟩,⟨D 44,.load (ab sz) (R 43),G 39 ag⟩,⟨D 45,.bN (R 1),G 39 ag⟩,⟨D 46,.cj (R 40) [(R 44),(R 45)] ag,G 39 ag⟩,⟨D 47,.bin .eql (R 46) (.k (.c (.f (.int .i64 0)))),G 39 ag⟩,⟨D 48,.pick (R 39) (R 47) (.k (.c (.f (.bool ah)))),ae⟩,⟨D 6,.bN (R 35),ae⟩,⟨D 7,.bN (R 48),ae⟩] []) .ret
def an5(sz:Nat):ay:=.seq (.block 0 (.loop (an6 sz))) (aj8 sz)
def an4(sz:Nat):ay:=.seq (.region [⟨D 14,.bN (R 8),ae⟩,⟨D 9,.bN (.k (.c (.f (.int .i64 0)))),ae⟩,⟨D 10,.bN (R 14),ae⟩] []) (an5 sz)
def an3(sz:Nat):ay:=.seq (.region [⟨D 12,.bN (R 0),ae⟩,⟨D 13,.len (R 12),ae⟩,⟨D 8,.bN (R 13),ae⟩] []) (an4 sz)
def an2(sz:Nat):ay:=.seq (.region [⟨D 6,.bN (.k (.c (.f (.int .i64 0)))),ae⟩,⟨D 7,.bN (.k (.c (.f (.bool ah)))),ae⟩] []) (an3 sz)
def ZB(sz:Nat):aB:=⟨[P.nat 0,P.nat 1,P.nat 2],[.tmp (P.nat 6),.tmp (P.nat 7)],(an2 sz)⟩
section
variable{tab:Nat→Option aB}{sz:Nat}
theorem ZC{F:Nat}(hF:tab F=ab (ZB sz))(g:Tg)(rows:List (List FC))(hg:bO sz rows)(cv:V)(x:FC)(s:List FC→Int)(hl:rows.length≤1000000000)
  (U:∀ r ∈ rows,∃ G l,ca cv [.a (r.map .f),.c (.f x)]=ab (.fn G,l)∧Kf tab G l (vi (s r)))
  (c:∀(i j:Nat) (hi:i<j) (u:j<rows.length),0≤s rows[i]→0<s rows[j]) :
  ∃ i:Nat,i≤rows.length∧(∀ j (u:j<rows.length),j<i→s rows[j]<0)∧(∀ j (u:j<rows.length),i≤j→0≤s rows[j]) ∧
   ∃ w:Bool,(w=ag↔∃ h:i<rows.length,s rows[i]=0)∧bB tab F [.c (.f (sl g rows)),.c (.f x),cv]=Eq (.t [vi i,vb w]):=by
 obtain⟨r,⟨i,h1,h2,N,w,h4,rfl⟩,h⟩:∃ r,(∃ i:Nat,i≤rows.length∧(∀ j (u:j<rows.length),j<i→s rows[j]<0)∧(∀ j (u:j<rows.length),i≤j→0≤s rows[j])∧∃ w:Bool,(w=ag↔∃ h:i<rows.length,s rows[i]=0)∧r=.t [vi i,vb w]) ∧
   bB tab F [.c (.f (sl g rows)),.c (.f x),cv] r:=by
  refine bY hF rfl fun Q a=>?_;have ask:∀(q:Nat) (M:q<rows.length) (H:an),∃ G l J,aL H sz ae (.c (.f (sl g rows))) (vi q)=ab (.c (.f (.fp rows.flatten (q*sz))))∧aV H (ab sz) (.c (.f (.fp rows.flatten (q*sz))))=ab (.a (rows[q].map .f))∧ca cv [.a (rows[q].map .f),.c (.f x)]=ab (.fn G,l)∧Ev tab (.fn G) l H=E2 (vi (s rows[q])) (H++J):=by
   intro q M H;obtain⟨G,l,f,o⟩:=U rows[q] (List.getElem_mem M);obtain⟨J,p⟩:=o H;have hi:=cE (H:=H) (g:=g) (rows:=rows) (sz:=sz) (k:=.i64) (i:=(q:Int)) (by omega) (by omega);rw [aug]at hi;exact⟨G,l,J,hi,ez hg (AT M),f,p.eq⟩
  apply aj;simp;apply aj;simp;apply aj;simp;apply aq;refine az ?_;refine bG (fun m s'=>∃(lo hi:Nat) (t:T) (H:an),s'=⟨t,[],H⟩∧m=hi-lo∧lo≤hi∧hi≤rows.length∧t.g 0=.c (.f (sl g rows))∧t.g 1=.c (.f x)∧t.g 2=cv∧t.g 8=vi rows.length∧t.g 9=vi lo∧t.g 10=vi hi ∧
   (∀ j (u:j<rows.length),j<lo→s rows[j]<0)∧(∀ j (u:j<rows.length),hi≤j→0≤s rows[j])) rows.length
   ⟨0,rows.length,_,_,rfl,by omega,by omega,by omega,by simp,by simp,by simp,by simp,by simp,by simp,by simp,by intros;omega⟩ ?_
  rintro m s' ⟨lo,hi,t,H,rfl,rfl,a7,A,E,I,K,L,z,g10,y,v⟩ next
  apply aq;apply aj;simp [z,g10];by_cases X:lo<hi
  ·refine ak (by simp [X]) (aH ?_);obtain⟨q,M⟩:=aP ((lo+hi) / 2);have B:q<rows.length:=by omega
   have e1:bV BinOp.shr (V.c (C.f (FC.int IntKind.u64 (IntKind.u64.wrap ((lo:Int)+hi))))) (V.c (C.f (FC.int IntKind.u64 1)))=ab (.c (.f (.int .u64 (q:Int)))):=by
    have:IntKind.u64.wrap ((lo:Int)+hi)=(lo:Int)+hi:=by
     show((lo:Int)+hi) % 18446744073709551616=_;omega
    rw [this];show ab (V.c (C.f (FC.int IntKind.u64 (Int.fdiv ((lo:Int)+hi) (2 ^ (min (1:Int).toNat IntKind.u64.bits))))))=_;have N:Int.fdiv ((lo:Int)+hi) (2 ^ (min (1:Int).toNat IntKind.u64.bits))=q:=by
     show Int.fdiv ((lo:Int)+hi) 2=q;rw [Int.fdiv_eq_ediv_of_nonneg _ (by omega)];omega
    rw [N]
   have hw:=aN (n:=(lo:Int)+hi);have Y:IntKind.i64.wrap (q:Int)=q:=aN;obtain⟨G,l,J,i1,Z,b,W⟩:=ask q B H;refine az ?_;apply aj;simp [z,g10,hw,e1,Y];apply aj;simp [E,I,K,i1,Z,b,W];by_cases S:s rows[q]<0
   ·refine ak (by simp [S]) ?_;refine au (.inl rfl) ?_;simp [aN (n:=(q:Int)+1)];refine aw (next (hi-(q+1)) _ (by omega) ⟨q+1,hi,_,_,rfl,rfl,by omega,by omega,by simp [E],by simp [I],by simp [K],by simp [L],by simp,by simp [g10],fun j u h=>?_,v⟩);rcases Int.lt_or_le (s rows[j]) 0 with O | O
    ·exact O
    ·by_cases e:j=q
     ·subst e;exact S
     ·have:=c j q (by omega) B O;omega
   ·refine al (by simp [S]) ?_;refine au (.inl rfl) ?_;simp;refine aw (next (q-lo) _ (by omega) ⟨lo,q,_,_,rfl,rfl,by omega,by omega,by simp [E],by simp [I],by simp [K],by simp [L],by simp [z],by simp,y,fun j u h=>?_⟩);by_cases e:j=q
    ·subst e;omega
    ·have:=c q j (by omega) u (by omega);omega
  ·have:lo=hi:=by omega
   subst this;refine al (by simp) ?_;refine bf rfl ?_;apply aj;by_cases d:lo<rows.length
   ·obtain⟨G,l,J,i1,Z,b,W⟩:=ask lo d H;simp [E,I,K,L,z,d,i1,Z,b,W];refine aE (a _ _ _ ⟨lo,A,y,v,decide (s rows[lo]=0),by simp [d],rfl⟩ ?_);simp
   ·simp [L,z,d];refine aE (a _ _ _ ⟨lo,A,y,v,ah,by simp [d],rfl⟩ ?_);simp
 exact⟨i,h1,h2,N,w,h4,bB.eq h⟩
end
end
end Km
